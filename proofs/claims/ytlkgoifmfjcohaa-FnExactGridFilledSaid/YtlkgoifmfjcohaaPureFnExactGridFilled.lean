/- The pure statement of the law FnExactGridFilled: it answers true. Conditions: those of the row. -/
import Derived.Test.YtlkgoifmfjcohaaWWords
import Derived.Test.YtlkgoifmfjcohaaWMore
import Derived.Test.YtlkgoifmfjcohaaP16
import Derived.Test.YtlkgoifmfjcohaaFilled
import Derived.Test.YtlkgoifmfjcohaaHelp
namespace Go.Proofs.Ytlkgoifmfjcohaa.Pure
set_option linter.unusedSimpArgs false
set_option linter.unusedVariables false
open Go.RowKit Go.Proofs.YtlkgoifmfjcohaaW.PrintWords Go.Proofs.YtlkgoifmfjcohaaW.PrintMore Go.Proofs.Ytlkgoifmfjcohaa.P

theorem FnExactGridFilled : laws_FnExactGridFilled.Pure := by
  intro l a _ _ _ _
  apply Ev.rounds
  unfold laws_FnExactGridFilled.f
  by_cases hlen : (l.length : Int) > 1048576
  · simp only [hlen, if_true]; exact Ev.now _
  · simp only [hlen, if_false]
    refine Ev.bind (toIntS_ev l (by omega)) ?_
    refine Ev.bind (specGridFilled_ev l a (by omega)) ?_
    refine Ev.bind (toIntS_ev l (by omega)) ?_
    refine Ev.bind (implGridFilled_ev l a (by omega)) ?_
    simp only [if_true]
    refine Ev.bind (toIntS_ev l (by omega)) ?_
    refine Ev.bind (eqIntS_ev l l (by omega)) ?_
    simp only [decide_true, if_true]
    exact Ev.now _

end Go.Proofs.Ytlkgoifmfjcohaa.Pure
