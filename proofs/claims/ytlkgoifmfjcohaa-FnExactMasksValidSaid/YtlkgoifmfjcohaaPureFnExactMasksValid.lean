/- The pure statement of the law FnExactMasksValid: it answers true. Conditions: those of the row. -/
import Derived.Test.YtlkgoifmfjcohaaWWords
import Derived.Test.YtlkgoifmfjcohaaWMore
import Derived.Test.YtlkgoifmfjcohaaP6
import Derived.Test.YtlkgoifmfjcohaaHelp
import Derived.Test.YtlkgoifmfjcohaaMasksV
namespace Go.Proofs.Ytlkgoifmfjcohaa.Pure
set_option linter.unusedSimpArgs false
set_option linter.unusedVariables false
open Go.RowKit Go.Proofs.YtlkgoifmfjcohaaW.PrintWords Go.Proofs.YtlkgoifmfjcohaaW.PrintMore Go.Proofs.Ytlkgoifmfjcohaa.P

theorem FnExactMasksValid : laws_FnExactMasksValid.Pure := by
  intro l a _ _ hw _
  have hw' : ∀ x ∈ l, x ≤ 9223372036854775807 := fun x hx => (bounds_i64 (hw x hx)).2
  apply Ev.rounds
  unfold laws_FnExactMasksValid.f
  by_cases hlen : (l.length : Int) > 1048576
  · simp only [hlen, if_true]; exact Ev.now _
  · simp only [hlen, if_false]
    refine Ev.bind (toIntS_ev l (by omega)) ?_
    refine Ev.bind (specMasksValid_ev l a (by omega)) ?_
    refine Ev.bind (toIntS_ev l (by omega)) ?_
    refine Ev.bind (implMasksValid_ev l a (by omega) hw') ?_
    simp only [bne_self_eq_false, Bool.false_eq_true, if_false]
    refine Ev.bind (toIntS_ev l (by omega)) ?_
    refine Ev.bind (eqIntS_ev l l (by omega)) ?_
    simp only [decide_true, if_true]
    exact Ev.now _

end Go.Proofs.Ytlkgoifmfjcohaa.Pure
