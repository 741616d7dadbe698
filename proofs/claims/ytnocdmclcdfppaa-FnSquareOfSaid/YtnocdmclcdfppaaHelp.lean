/- What the copies, comparisons and marks of the laws come to. Conditions: as stated in each. -/
import Derived.Test.YtnocdmclcdfppaaWWords
import Derived.Test.YtnocdmclcdfppaaWMore
import Derived.Test.YtnocdmclcdfppaaP3
import Derived.Test.YtnocdmclcdfppaaBase
namespace Go.Proofs.Ytnocdmclcdfppaa.Pure
set_option linter.unusedSimpArgs false
set_option linter.unusedVariables false
open Go.RowKit Go.Proofs.YtnocdmclcdfppaaW.PrintWords Go.Proofs.YtnocdmclcdfppaaW.PrintMore Go.Proofs.Ytnocdmclcdfppaa.P

theorem sameInts_ev (a b : List Int) (h : a.length < 9000000000000000000) : Ev (fun k => laws_sameInts.f k a b) (decide (a = b)) := by
  unfold laws_sameInts.f
  by_cases hl : a.length = b.length
  · simp only [hl, if_true]
    have := Ev.range0 (L := fun k i => laws_sameInts.l0 k a b i) (R := fun n => decide (a.drop n = b.drop n)) (N := a.length) ?_ ?_ 0 (Nat.zero_le _)
    · simpa using this
    · refine Ev.step (fun k => laws_sameInts.l0.eq_2 _ _ _ k) ?_
      have e1 : a.drop a.length = [] := List.drop_length
      have e2 : b.drop a.length = [] := by rw [hl]; exact List.drop_length
      simp [e1, e2, Ev.now]
    · intro n hn ih
      refine Ev.step (fun k => laws_sameInts.l0.eq_2 _ _ _ k) ?_
      have h1 : (n : Int) < (a.length : Int) := by omega
      have h2 : (n : Int) < (b.length : Int) := by omega
      have h3 : (0 : Int) ≤ n := by omega
      rw [drop_cons hn, drop_cons (by omega : n < b.length)]
      simp only [h1, h2, h3, if_true, rd_lt hn, rd_lt (by omega : n < b.length)]
      by_cases he : a[n] = b[n]
      · simp only [he, if_true, w64n (by omega : n < 9000000000000000000), List.cons.injEq, true_and]
        exact ih
      · simp only [he, if_false, List.cons.injEq, false_and, decide_false]
        exact Ev.now _
  · have : ¬ ((a.length : Int) = (b.length : Int)) := by omega
    have hne : ¬ a = b := fun e => hl (by rw [e])
    simp only [this, if_false, hne, decide_false]
    exact Ev.now _

end Go.Proofs.Ytnocdmclcdfppaa.Pure
