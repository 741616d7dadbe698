/- What GridFilled comes to. Conditions: as stated in each. -/
import Derived.Test.YtnocdmclcdfppaaWWords
import Derived.Test.YtnocdmclcdfppaaWMore
import Derived.Test.YtnocdmclcdfppaaP14
import Derived.Test.YtnocdmclcdfppaaP16
import Derived.Test.YtnocdmclcdfppaaP5
import Derived.Test.YtnocdmclcdfppaaBase
import Derived.Test.YtnocdmclcdfppaaGridV
import Derived.Test.YtnocdmclcdfppaaModel
namespace Go.Proofs.Ytnocdmclcdfppaa.Pure
set_option linter.unusedSimpArgs false
set_option linter.unusedVariables false
open Go.RowKit Go.Proofs.YtnocdmclcdfppaaW.PrintWords Go.Proofs.YtnocdmclcdfppaaW.PrintMore Go.Proofs.Ytnocdmclcdfppaa.P

theorem specGridFilled_ev (g : List Int) (s : Int) (h : g.length ≤ 35184372088832) : Ev (fun k => spec_GridFilled.f k g s) (gridFilled g s) := by
  unfold spec_GridFilled.f
  refine Ev.bind (specGridValid_ev g s h) ?_
  unfold gridFilled
  by_cases hg : gridB g s = true
  · simp only [hg, if_true]
    have := Ev.range (L := fun k (x : Int) i => spec_GridFilled.l0 k g x i) (R := fun x n => x + countF (g.drop n)) (N := g.length) (fun x n => 0 ≤ x ∧ x ≤ n) ?_ ?_ 0 0 (Nat.zero_le _) (by decide)
    · simpa using this
    · intro x hx
      refine Ev.step (fun k => spec_GridFilled.l0.eq_2 _ _ _ k) ?_
      have e : countF [] = 0 := rfl
      simp only [Int.lt_irrefl, if_false, List.drop_length, e, Int.add_zero]
      exact Ev.now _
    · intro x n hn hx ih
      refine Ev.step (fun k => spec_GridFilled.l0.eq_2 _ _ _ k) ?_
      have h1 : (n : Int) < (g.length : Int) := by omega
      have h3 : (0 : Int) ≤ n := by omega
      rw [drop_cons hn, countF_cons]
      simp only [h1, h3, if_true, rd_lt hn, w64n (by omega : n < 9000000000000000000)]
      by_cases hv : 0 < g[n]
      · have hv' : g[n] > 0 := hv
        simp only [hv, hv', if_true]
        rw [w64 (x := x + 1) (by omega) (by omega)]
        have := ih (x + 1) (by omega)
        rwa [Int.add_assoc] at this
      · have hv' : ¬ g[n] > 0 := hv
        simp only [hv, hv', if_false]
        have := ih x (by omega)
        rwa [Int.zero_add]
  · simp only [hg, if_false, Bool.false_eq_true]
    exact Ev.now _
theorem implGridFilled_ev (g : List Int) (s : Int) (h : g.length ≤ 35184372088832) : Ev (fun k => impl_GridFilled.f k g s) (gridFilled g s) := by
  unfold impl_GridFilled.f
  refine Ev.bind (implGridValid_ev g s h) ?_
  unfold gridFilled
  by_cases hg : gridB g s = true
  · simp only [hg, if_true]
    have := Ev.range (L := fun k (x : Int) i => impl_GridFilled.l0 k x g (g.length : Int) i) (R := fun x n => x + countF (g.drop n)) (N := g.length) (fun x n => 0 ≤ x ∧ x ≤ n) ?_ ?_ 0 0 (Nat.zero_le _) (by decide)
    · simpa using this
    · intro x hx
      refine Ev.step (fun k => impl_GridFilled.l0.eq_2 _ _ _ _ k) ?_
      have e : countF [] = 0 := rfl
      simp only [Int.lt_irrefl, if_false, List.drop_length, e, Int.add_zero]
      exact Ev.now _
    · intro x n hn hx ih
      refine Ev.step (fun k => impl_GridFilled.l0.eq_2 _ _ _ _ k) ?_
      have h1 : (n : Int) < (g.length : Int) := by omega
      have h3 : (0 : Int) ≤ n := by omega
      rw [drop_cons hn, countF_cons]
      simp only [h1, h3, if_true, rd_lt hn, w64n (by omega : n < 9000000000000000000)]
      by_cases hv : 0 < g[n]
      · have hv' : g[n] > 0 := hv
        simp only [hv, hv', if_true]
        rw [w64 (x := x + 1) (by omega) (by omega)]
        have := ih (x + 1) (by omega)
        rwa [Int.add_assoc] at this
      · have hv' : ¬ g[n] > 0 := hv
        simp only [hv, hv', if_false]
        have := ih x (by omega)
        rwa [Int.zero_add]
  · simp only [hg, if_false, Bool.false_eq_true]
    exact Ev.now _

end Go.Proofs.Ytnocdmclcdfppaa.Pure
