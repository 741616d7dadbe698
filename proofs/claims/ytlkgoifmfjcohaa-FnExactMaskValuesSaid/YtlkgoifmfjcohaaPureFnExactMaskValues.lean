/- The pure statement of the law FnExactMaskValues: it answers true. Conditions: those of the row. -/
import Derived.Test.YtlkgoifmfjcohaaWWords
import Derived.Test.YtlkgoifmfjcohaaWMore
import Derived.Test.YtlkgoifmfjcohaaP11
import Derived.Test.YtlkgoifmfjcohaaHelp
import Derived.Test.YtlkgoifmfjcohaaMaskVals
namespace Go.Proofs.Ytlkgoifmfjcohaa.Pure
set_option linter.unusedSimpArgs false
set_option linter.unusedVariables false
open Go.RowKit Go.Proofs.YtlkgoifmfjcohaaW.PrintWords Go.Proofs.YtlkgoifmfjcohaaW.PrintMore Go.Proofs.Ytlkgoifmfjcohaa.P

theorem FnExactMaskValues : laws_FnExactMaskValues.Pure := by
  intro a ha
  apply Ev.rounds
  unfold laws_FnExactMaskValues.f
  have hlen : (mvals a).length ≤ 16 := Nat.le_trans (mvals_length a) (by decide)
  refine Ev.bind (specMaskValues_ev a) ?_
  refine Ev.bind (implMaskValues_ev a (bounds_i64 ha)) ?_
  refine Ev.bind (eqIntS_ev _ _ (by omega)) ?_
  simp only [decide_true, if_true]
  refine Ev.bind (markIntS_ev _ 1 (by omega) (by decide) (by decide)) ?_
  refine Ev.bind (heldIntS_marks 1 _ (by omega) (by decide) (by decide)) ?_
  have hp : ¬ ((1 : Int) + ((mvals a).length : Int) < 0) := by omega
  simp only [hp, if_false, if_true]
  refine Ev.bind (implMaskValues_ev a (bounds_i64 ha)) ?_
  refine Ev.bind (eqIntS_ev _ _ (by omega)) ?_
  simp only [decide_true, if_true]
  refine Ev.bind (heldIntS_marks 1 _ (by omega) (by decide) (by decide)) ?_
  simp only [hp, if_false, if_true]
  exact Ev.now _

end Go.Proofs.Ytlkgoifmfjcohaa.Pure
