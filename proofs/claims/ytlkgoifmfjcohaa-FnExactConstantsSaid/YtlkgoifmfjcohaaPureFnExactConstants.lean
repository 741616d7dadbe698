/- The pure statement of the law FnExactConstants: it answers true. No condition. -/
import Derived.Test.YtlkgoifmfjcohaaBase
import Derived.Test.YtlkgoifmfjcohaaP1
namespace Go.Proofs.Ytlkgoifmfjcohaa.Pure
set_option linter.unusedSimpArgs false
set_option linter.unusedVariables false
open Go.RowKit Go.Proofs.Ytlkgoifmfjcohaa.P
theorem FnExactConstants : laws_FnExactConstants.Pure := by
  unfold laws_FnExactConstants.Pure
  decide
end Go.Proofs.Ytlkgoifmfjcohaa.Pure
