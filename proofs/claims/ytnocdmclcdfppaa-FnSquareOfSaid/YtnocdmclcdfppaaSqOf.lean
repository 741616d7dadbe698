/- What SquareOf comes to. No condition. -/
import Derived.Test.YtnocdmclcdfppaaWWords
import Derived.Test.YtnocdmclcdfppaaWMore
import Derived.Test.YtnocdmclcdfppaaP2
import Derived.Test.YtnocdmclcdfppaaP4
import Derived.Test.YtnocdmclcdfppaaP7
import Derived.Test.YtnocdmclcdfppaaP8
import Derived.Test.YtnocdmclcdfppaaModel
import Derived.Test.YtnocdmclcdfppaaSize
namespace Go.Proofs.Ytnocdmclcdfppaa.Pure
set_option linter.unusedSimpArgs false
set_option linter.unusedVariables false
open Go.RowKit Go.Proofs.YtnocdmclcdfppaaW.PrintWords Go.Proofs.YtnocdmclcdfppaaW.PrintMore Go.Proofs.Ytnocdmclcdfppaa.P

theorem specSquareOf_ev (s : Int) : Ev (fun k => spec_SquareOf.f k s) (squareOf s) := by
  by_cases h : sizeOkB s = true
  · rcases sizeOkB_iff.1 h with rfl | rfl | rfl <;> exact Ev.of (spec_SquareOf.mono _) (k := 40) (by decide +kernel)
  · have e : squareOf s = [] := by
      have := mt sizeOkB_iff.2 h
      unfold squareOf; rw [if_neg (by omega), if_neg (by omega), if_neg (by omega)]
    rw [e]
    unfold spec_SquareOf.f
    refine Ev.step (fun k => spec_SquareOf.l0.eq_2 _ _ _ k) ?_
    have hs : ¬ (2 ≤ s ∧ s ≤ 4) := by simpa [sizeOkB] using h
    by_cases h0 : 0 < wrap64 (s * s)
    · simp only [h0, if_true, l1In_eq, Option.bind_some, decide_eq_false hs, Bool.false_eq_true, if_false]
      exact Ev.now _
    · simp only [h0, if_false]
      exact Ev.now _
theorem implSquareOf_ev (s : Int) : Ev (fun k => impl_SquareOf.f k s) (squareOf s) := by
  by_cases h : sizeOkB s = true
  · rcases sizeOkB_iff.1 h with rfl | rfl | rfl <;> exact Ev.of (impl_SquareOf.mono _) (k := 60) (by decide +kernel)
  · have e : squareOf s = [] := by
      have := mt sizeOkB_iff.2 h
      unfold squareOf; rw [if_neg (by omega), if_neg (by omega), if_neg (by omega)]
    rw [e]
    unfold impl_SquareOf.f
    simp only [sizeOk_eq, Option.bind_some, h, Bool.false_eq_true, if_false]
    exact Ev.now _

end Go.Proofs.Ytnocdmclcdfppaa.Pure
