/- What LineCells comes to. No condition. -/
import Derived.Test.YtnocdmclcdfppaaWWords
import Derived.Test.YtnocdmclcdfppaaWMore
import Derived.Test.YtnocdmclcdfppaaP2
import Derived.Test.YtnocdmclcdfppaaP3
import Derived.Test.YtnocdmclcdfppaaP4
import Derived.Test.YtnocdmclcdfppaaBase
import Derived.Test.YtnocdmclcdfppaaModel
import Derived.Test.YtnocdmclcdfppaaSize
namespace Go.Proofs.Ytnocdmclcdfppaa.Pure
set_option linter.unusedSimpArgs false
set_option linter.unusedVariables false
open Go.RowKit Go.Proofs.YtnocdmclcdfppaaW.PrintWords Go.Proofs.YtnocdmclcdfppaaW.PrintMore Go.Proofs.Ytnocdmclcdfppaa.P

theorem specLineCells_ev (s l : Int) : Ev (fun k => spec_LineCells.f k s l) (lineC s l) := by
  by_cases h : lineOkB s l = true
  · rcases lineOkB_cases h with ⟨rfl, hc⟩ | ⟨rfl, hc⟩ | ⟨rfl, hc⟩
    · rcases hc with rfl | rfl | rfl | rfl <;> exact Ev.of (spec_LineCells.mono _ _) (k := 20) (by decide +kernel)
    · rcases hc with rfl | rfl | rfl | rfl | rfl | rfl <;> exact Ev.of (spec_LineCells.mono _ _) (k := 20) (by decide +kernel)
    · rcases hc with rfl | rfl | rfl | rfl | rfl | rfl | rfl | rfl <;> exact Ev.of (spec_LineCells.mono _ _) (k := 20) (by decide +kernel)
  · have e : lineC s l = [] := by unfold lineC; rw [if_neg h]
    rw [e]
    unfold spec_LineCells.f
    have hj : Ev (fun k => spec_LineCells.j1 k s l [] 0 false) ([] : List Int) := by
      refine Ev.step (fun k => spec_LineCells.j1.eq_2 _ _ _ _ _ k) ?_
      simp only [Bool.false_eq_true, if_false]
      exact Ev.now _
    refine Ev.step (fun k => spec_LineCells.l0.eq_2 _ _ _ _ k) ?_
    by_cases h0 : 0 < s
    · simp only [h0, if_true, l1In_eq, Option.bind_some]
      by_cases hs : 2 ≤ s ∧ s ≤ 4
      · have hw : wrap64 (wrap64 (2 * s) - 1) = 2 * s - 1 := by rw [w64 (x := 2 * s) (by omega) (by omega), w64 (by omega) (by omega)]
        have hn : ¬ (0 ≤ l ∧ l ≤ 2 * s - 1) := by
          intro hl; apply h; unfold lineOkB sizeOkB; simp only [Bool.and_eq_true, decide_eq_true_eq]; exact ⟨hs, hl.1, by omega⟩
        simp only [decide_eq_true hs, if_true, hw, decide_eq_false hn]
        exact hj
      · simp only [decide_eq_false hs, Bool.false_eq_true, if_false]
        exact hj
    · simp only [h0, if_false]
      exact hj
theorem implLineCells_ev (s l : Int) : Ev (fun k => impl_LineCells.f k s l) (lineC s l) := by
  by_cases h : lineOkB s l = true
  · rcases lineOkB_cases h with ⟨rfl, hc⟩ | ⟨rfl, hc⟩ | ⟨rfl, hc⟩
    · rcases hc with rfl | rfl | rfl | rfl <;> exact Ev.of (impl_LineCells.mono _ _) (k := 20) (by decide +kernel)
    · rcases hc with rfl | rfl | rfl | rfl | rfl | rfl <;> exact Ev.of (impl_LineCells.mono _ _) (k := 20) (by decide +kernel)
    · rcases hc with rfl | rfl | rfl | rfl | rfl | rfl | rfl | rfl <;> exact Ev.of (impl_LineCells.mono _ _) (k := 20) (by decide +kernel)
  · have e : lineC s l = [] := by unfold lineC; rw [if_neg h]
    rw [e]
    unfold impl_LineCells.f
    simp only [sizeOk_eq, Option.bind_some]
    have hj : Ev (fun k => impl_LineCells.j0 k s l true) ([] : List Int) := by
      refine Ev.step (fun k => impl_LineCells.j0.eq_2 _ _ _ k) ?_
      simp only [if_true]
      exact Ev.now _
    by_cases hs : sizeOkB s = true
    · simp only [hs, if_true]
      by_cases h0 : l < 0
      · simp only [h0, if_true]; exact hj
      · have hs2 : 2 ≤ s ∧ s ≤ 4 := by simpa [sizeOkB] using hs
        have hw : wrap64 (2 * s) = 2 * s := w64 (by omega) (by omega)
        have hl : l ≥ 2 * s := by
          apply Decidable.byContradiction
          intro hl; apply h; unfold lineOkB; rw [hs]; simp only [Bool.true_and, decide_eq_true_eq]; omega
        simp only [h0, if_false, hw, decide_eq_true hl]; exact hj
    · simp only [hs, if_false, Bool.false_eq_true]; exact hj

end Go.Proofs.Ytnocdmclcdfppaa.Pure
