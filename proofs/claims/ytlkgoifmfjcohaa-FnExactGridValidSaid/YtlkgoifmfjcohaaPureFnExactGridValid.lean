/- The pure statement of the law FnExactGridValid: it answers true. Conditions: those of the row. -/
import Derived.Test.YtlkgoifmfjcohaaWWords
import Derived.Test.YtlkgoifmfjcohaaWMore
import Derived.Test.YtlkgoifmfjcohaaP4
import Derived.Test.YtlkgoifmfjcohaaGridV
import Derived.Test.YtlkgoifmfjcohaaHelp
namespace Go.Proofs.Ytlkgoifmfjcohaa.Pure
set_option linter.unusedSimpArgs false
set_option linter.unusedVariables false
open Go.RowKit Go.Proofs.YtlkgoifmfjcohaaW.PrintWords Go.Proofs.YtlkgoifmfjcohaaW.PrintMore Go.Proofs.Ytlkgoifmfjcohaa.P

theorem FnExactGridValid : laws_FnExactGridValid.Pure := by
  intro l a _ _ _ _
  apply Ev.rounds
  unfold laws_FnExactGridValid.f
  by_cases hlen : (l.length : Int) > 1048576
  · simp only [hlen, if_true]; exact Ev.now _
  · simp only [hlen, if_false]
    refine Ev.bind (toIntS_ev l (by omega)) ?_
    refine Ev.bind (specGridValid_ev l a (by omega)) ?_
    refine Ev.bind (toIntS_ev l (by omega)) ?_
    refine Ev.bind (implGridValid_ev l a (by omega)) ?_
    simp only [bne_self_eq_false, Bool.false_eq_true, if_false]
    refine Ev.bind (toIntS_ev l (by omega)) ?_
    refine Ev.bind (eqIntS_ev l l (by omega)) ?_
    simp only [decide_true, if_true]
    exact Ev.now _

end Go.Proofs.Ytlkgoifmfjcohaa.Pure
