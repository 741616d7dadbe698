/- The pure statement of the law FnExactSquareOf: it answers true. Conditions: those of the row. -/
import Derived.Test.YtlkgoifmfjcohaaWWords
import Derived.Test.YtlkgoifmfjcohaaWMore
import Derived.Test.YtlkgoifmfjcohaaP9
import Derived.Test.YtlkgoifmfjcohaaHelp
import Derived.Test.YtlkgoifmfjcohaaModel
import Derived.Test.YtlkgoifmfjcohaaSqOf
namespace Go.Proofs.Ytlkgoifmfjcohaa.Pure
set_option linter.unusedSimpArgs false
set_option linter.unusedVariables false
open Go.RowKit Go.Proofs.YtlkgoifmfjcohaaW.PrintWords Go.Proofs.YtlkgoifmfjcohaaW.PrintMore Go.Proofs.Ytlkgoifmfjcohaa.P

theorem FnExactSquareOf : laws_FnExactSquareOf.Pure := by
  intro a _
  apply Ev.rounds
  unfold laws_FnExactSquareOf.f
  have hlen : (squareOf a).length ≤ 16 := by unfold squareOf; repeat (first | split | decide)
  refine Ev.bind (specSquareOf_ev a) ?_
  refine Ev.bind (implSquareOf_ev a) ?_
  refine Ev.bind (eqIntS_ev _ _ (by omega)) ?_
  simp only [decide_true, if_true]
  refine Ev.bind (markIntS_ev _ 1 (by omega) (by decide) (by decide)) ?_
  refine Ev.bind (heldIntS_marks 1 _ (by omega) (by decide) (by decide)) ?_
  have hp : ¬ ((1 : Int) + ((squareOf a).length : Int) < 0) := by omega
  simp only [hp, if_false, if_true]
  refine Ev.bind (implSquareOf_ev a) ?_
  refine Ev.bind (eqIntS_ev _ _ (by omega)) ?_
  simp only [decide_true, if_true]
  refine Ev.bind (heldIntS_marks 1 _ (by omega) (by decide) (by decide)) ?_
  simp only [hp, if_false, if_true]
  exact Ev.now _

end Go.Proofs.Ytlkgoifmfjcohaa.Pure
