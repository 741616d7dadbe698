/- What GridValid comes to. Conditions: as stated in each. -/
import Derived.Test.YtnocdmclcdfppaaWWords
import Derived.Test.YtnocdmclcdfppaaWMore
import Derived.Test.YtnocdmclcdfppaaP14
import Derived.Test.YtnocdmclcdfppaaP2
import Derived.Test.YtnocdmclcdfppaaP4
import Derived.Test.YtnocdmclcdfppaaP5
import Derived.Test.YtnocdmclcdfppaaBase
import Derived.Test.YtnocdmclcdfppaaModel
import Derived.Test.YtnocdmclcdfppaaSize
namespace Go.Proofs.Ytnocdmclcdfppaa.Pure
set_option linter.unusedSimpArgs false
set_option linter.unusedVariables false
open Go.RowKit Go.Proofs.YtnocdmclcdfppaaW.PrintWords Go.Proofs.YtnocdmclcdfppaaW.PrintMore Go.Proofs.Ytnocdmclcdfppaa.P

theorem specGridValid_ev (g : List Int) (s : Int) (h : g.length ≤ 35184372088832) : Ev (fun k => spec_GridValid.f k g s) (gridB g s) := by
  unfold spec_GridValid.f
  have := Ev.range0 (L := fun k i => spec_GridValid.l0 k g s i) (R := fun n => (g.drop n).all (fun v => decide (0 ≤ v ∧ v ≤ s)) && (sizeOkB s && decide ((g.length : Int) = s * s))) (N := g.length) ?_ ?_ 0 (Nat.zero_le _)
  · have e : gridB g s = ((g.drop 0).all (fun v => decide (0 ≤ v ∧ v ≤ s)) && (sizeOkB s && decide ((g.length : Int) = s * s))) := by
      unfold gridB; rw [List.drop_zero]; cases sizeOkB s <;> cases decide ((g.length : Int) = s * s) <;> simp
    rw [e]; simpa using this
  · refine Ev.step (fun k => spec_GridValid.l0.eq_2 _ _ _ k) ?_
    simp only [Int.lt_irrefl, if_false, l1In_eq, Option.bind_some, List.drop_length, List.all_nil, Bool.true_and]
    by_cases hs : sizeOkB s = true
    · have hs' : decide (2 ≤ s ∧ s ≤ 4) = true := hs
      have hw : wrap64 (s * s) = s * s := by rcases sizeOkB_iff.1 hs with rfl | rfl | rfl <;> decide +kernel
      simp only [hs', if_true, hs, hw, Bool.true_and]
      have e : ((g.length : Int) == s * s) = decide ((g.length : Int) = s * s) := by
        by_cases h : (g.length : Int) = s * s <;> simp [h]
      rw [e]; exact Ev.now _
    · have hs' : ¬ decide (2 ≤ s ∧ s ≤ 4) = true := hs
      simp only [hs', hs, if_false, Bool.false_and, eq_false_of_ne_true hs, Bool.false_eq_true]
      exact Ev.now _
  · intro n hn ih
    refine Ev.step (fun k => spec_GridValid.l0.eq_2 _ _ _ k) ?_
    have h1 : (n : Int) < (g.length : Int) := by omega
    have h3 : (0 : Int) ≤ n := by omega
    rw [drop_cons hn]
    simp only [h1, h3, if_true, rd_lt hn, l1In_eq, Option.bind_some, List.all_cons]
    by_cases hv : decide (0 ≤ g[n] ∧ g[n] ≤ s) = true
    · simp only [hv, if_true, w64n (by omega : n < 9000000000000000000), Bool.true_and]
      exact ih
    · simp only [hv, if_false, eq_false_of_ne_true hv, Bool.false_and, Bool.false_eq_true]
      exact Ev.now _
theorem implGridValid_ev (g : List Int) (s : Int) (h : g.length ≤ 35184372088832) : Ev (fun k => impl_GridValid.f k g s) (gridB g s) := by
  unfold impl_GridValid.f
  simp only [sizeOk_eq, Option.bind_some]
  by_cases hs : sizeOkB s = true
  · have hw : wrap64 (s * s) = s * s := by rcases sizeOkB_iff.1 hs with rfl | rfl | rfl <;> decide +kernel
    simp only [hs, if_true, hw]
    refine Ev.step (fun k => impl_GridValid.j0.eq_2 _ _ _ k) ?_
    by_cases hl : (g.length : Int) = s * s
    · have e : ((g.length : Int) != s * s) = false := by simp [hl]
      simp only [e, Bool.false_eq_true, if_false]
      have := Ev.range0 (L := fun k i => impl_GridValid.l0 k s g (g.length : Int) i) (R := fun n => (g.drop n).all (fun v => decide (0 ≤ v ∧ v ≤ s))) (N := g.length) ?_ ?_ 0 (Nat.zero_le _)
      · have e : gridB g s = (g.drop 0).all (fun v => decide (0 ≤ v ∧ v ≤ s)) := by
          unfold gridB; rw [List.drop_zero, hs, hl]; simp
        rw [e]; simpa using this
      · refine Ev.step (fun k => impl_GridValid.l0.eq_2 _ _ _ _ k) ?_
        simp only [Int.lt_irrefl, if_false, List.drop_length, List.all_nil]
        exact Ev.now _
      · intro n hn ih
        refine Ev.step (fun k => impl_GridValid.l0.eq_2 _ _ _ _ k) ?_
        have h1 : (n : Int) < (g.length : Int) := by omega
        have h3 : (0 : Int) ≤ n := by omega
        rw [drop_cons hn]
        simp only [h1, h3, if_true, rd_lt hn, List.all_cons]
        by_cases ha : g[n] < 0
        · have : decide (0 ≤ g[n] ∧ g[n] ≤ s) = false := decide_eq_false (by omega)
          simp only [ha, if_true, this, Bool.false_and]
          exact Ev.now _
        · by_cases hb : g[n] > s
          · have : decide (0 ≤ g[n] ∧ g[n] ≤ s) = false := decide_eq_false (by omega)
            simp only [ha, hb, if_true, if_false, this, Bool.false_and]
            exact Ev.now _
          · have : decide (0 ≤ g[n] ∧ g[n] ≤ s) = true := decide_eq_true (by omega)
            simp only [ha, hb, if_false, this, Bool.true_and, w64n (by omega : n < 9000000000000000000)]
            exact ih
    · have e : ((g.length : Int) != s * s) = true := by simp [hl]
      have e2 : gridB g s = false := by unfold gridB; simp [hl]
      simp only [e, if_true, e2]
      exact Ev.now _
  · have e2 : gridB g s = false := by unfold gridB; simp [hs]
    simp only [hs, if_false, e2, Bool.false_eq_true]
    refine Ev.step (fun k => impl_GridValid.j0.eq_2 _ _ _ k) ?_
    simp only [if_true]
    exact Ev.now _

end Go.Proofs.Ytnocdmclcdfppaa.Pure
