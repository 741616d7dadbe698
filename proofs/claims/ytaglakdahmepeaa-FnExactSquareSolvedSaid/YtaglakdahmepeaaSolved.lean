/- What SquareSolved comes to. Conditions: as stated in each. -/
import Derived.Test.YtaglakdahmepeaaWWords
import Derived.Test.YtaglakdahmepeaaWMore
import Derived.Test.YtaglakdahmepeaaP2
import Derived.Test.YtaglakdahmepeaaP32
import Derived.Test.YtaglakdahmepeaaP5
import Derived.Test.YtaglakdahmepeaaClashI
import Derived.Test.YtaglakdahmepeaaClashS
import Derived.Test.YtaglakdahmepeaaFilled
import Derived.Test.YtaglakdahmepeaaLines
import Derived.Test.YtaglakdahmepeaaModel
namespace Go.Proofs.Ytaglakdahmepeaa.Pure
set_option linter.unusedSimpArgs false
set_option linter.unusedVariables false
open Go.RowKit Go.Proofs.YtaglakdahmepeaaW.PrintWords Go.Proofs.YtaglakdahmepeaaW.PrintMore Go.Proofs.Ytaglakdahmepeaa.P

theorem squareFits_grid {g : List Int} {s : Int} (h : squareFits g s = true) : gridB g s = true := by
  unfold squareFits at h; rw [Bool.and_eq_true] at h; exact h.1
theorem wrap_sq {s : Int} (h : sizeOkB s = true) : wrap64 (s * s) = s * s := by rcases sizeOkB_iff.1 h with rfl | rfl | rfl <;> decide +kernel
theorem specSquareSolved_ev (g : List Int) (s : Int) (h : g.length ≤ 35184372088832) : Ev (fun k => spec_SquareSolved.f k g s) (squareSolved g s) := by
  unfold spec_SquareSolved.f squareSolved
  refine Ev.bind (specSquareFits_ev g s h) ?_
  by_cases hf : squareFits g s = true
  · simp only [hf, if_true, Bool.true_and]
    refine Ev.bind (specGridFilled_ev g s h) ?_
    rw [wrap_sq (gridB_size (squareFits_grid hf))]
    have e : (gridFilled g s == s * s) = decide (gridFilled g s = s * s) := by
      by_cases h : gridFilled g s = s * s <;> simp [h]
    rw [e]; exact Ev.now _
  · simp only [hf, if_false, eq_false_of_ne_true hf, Bool.false_and, Bool.false_eq_true]
    exact Ev.now _
theorem implSquareSolved_ev (g : List Int) (s : Int) (h : g.length ≤ 35184372088832) : Ev (fun k => impl_SquareSolved.f k g s) (squareSolved g s) := by
  unfold impl_SquareSolved.f squareSolved
  refine Ev.bind (implSquareFits_ev g s h) ?_
  by_cases hf : squareFits g s = true
  · simp only [hf, if_true, Bool.true_and]
    refine Ev.bind (implGridFilled_ev g s h) ?_
    rw [wrap_sq (gridB_size (squareFits_grid hf))]
    have e : (gridFilled g s == s * s) = decide (gridFilled g s = s * s) := by
      by_cases h : gridFilled g s = s * s <;> simp [h]
    rw [e]; exact Ev.now _
  · simp only [hf, if_false, eq_false_of_ne_true hf, Bool.false_and, Bool.false_eq_true]
    exact Ev.now _

end Go.Proofs.Ytaglakdahmepeaa.Pure
