/- What MasksCount comes to. Conditions: as stated in each. -/
import Derived.Test.YtaglakdahmepeaaWWords
import Derived.Test.YtaglakdahmepeaaWMore
import Derived.Test.YtaglakdahmepeaaP16
import Derived.Test.YtaglakdahmepeaaP7
import Derived.Test.YtaglakdahmepeaaP9
import Derived.Test.YtaglakdahmepeaaBase
import Derived.Test.YtaglakdahmepeaaMGrid
import Derived.Test.YtaglakdahmepeaaMaskVals
import Derived.Test.YtaglakdahmepeaaMasksV
import Derived.Test.YtaglakdahmepeaaModel
namespace Go.Proofs.Ytaglakdahmepeaa.Pure
set_option linter.unusedSimpArgs false
set_option linter.unusedVariables false
open Go.RowKit Go.Proofs.YtaglakdahmepeaaW.PrintWords Go.Proofs.YtaglakdahmepeaaW.PrintMore Go.Proofs.Ytaglakdahmepeaa.P

def countM : List Int → Int
  | [] => 0
  | x :: t => ((mvals x).length : Int) + countM t
def masksCount (m : List Int) (s : Int) : Int := if masksB m s = true then countM m else -1
theorem countM_range (m : List Int) : 0 ≤ countM m ∧ countM m ≤ 4 * m.length := by
  induction m with
  | nil => simp [countM]
  | cons x t ih => have := mvals_length x; simp only [countM, List.length_cons]; omega
theorem specMasksCount_ev (m : List Int) (s : Int) (h : m.length ≤ 35184372088832) : Ev (fun k => spec_MasksCount.f k m s) (masksCount m s) := by
  unfold spec_MasksCount.f masksCount
  refine Ev.bind (specMasksValid_ev m s h) ?_
  by_cases hm : masksB m s = true
  · simp only [hm, if_true]
    have := Ev.range (L := fun k (x : Int) i => spec_MasksCount.l0 k m x i) (R := fun x n => x + countM (m.drop n)) (N := m.length) (fun x n => 0 ≤ x ∧ x ≤ 4 * n) ?_ ?_ 0 0 (Nat.zero_le _) (by decide)
    · simpa using this
    · intro x hx
      refine Ev.step (fun k => spec_MasksCount.l0.eq_2 _ _ _ k) ?_
      have e : countM [] = 0 := rfl
      simp only [Int.lt_irrefl, if_false, List.drop_length, e, Int.add_zero]
      exact Ev.now _
    · intro x n hn hx ih
      refine Ev.step (fun k => spec_MasksCount.l0.eq_2 _ _ _ k) ?_
      have h1 : (n : Int) < (m.length : Int) := by omega
      have h0 : (0 : Int) ≤ n := by omega
      simp only [h1, h0, if_true, rd_lt hn]
      refine Ev.bind (specMaskValues_ev _) ?_
      have := mvals_length m[n]
      rw [w64n (by omega : n < 9000000000000000000), w64 (x := x + _) (by omega) (by omega), drop_cons hn, countM, ← Int.add_assoc]
      exact ih _ (by omega)
  · simp only [hm, if_false, Bool.false_eq_true]
    exact Ev.now _
theorem onesCount_eq {m : Int} (h : 0 ≤ m ∧ m ≤ 30 ∧ m % 2 = 0) : bits_OnesCount.f (IntKind.u64.wrap m) = some ((mvals m).length : Int) := by
  rcases even_cases h with rfl | rfl | rfl | rfl | rfl | rfl | rfl | rfl | rfl | rfl | rfl | rfl | rfl | rfl | rfl | rfl <;> decide +kernel
theorem implMasksCount_ev (m : List Int) (s : Int) (h : m.length ≤ 35184372088832) (hw : ∀ x ∈ m, x ≤ 9223372036854775807) : Ev (fun k => impl_MasksCount.f k m s) (masksCount m s) := by
  unfold impl_MasksCount.f masksCount
  refine Ev.bind (implMasksValid_ev m s h hw) ?_
  by_cases hm : masksB m s = true
  · simp only [hm, if_true]
    have := Ev.range (L := fun k (x : Int) i => impl_MasksCount.l0 k x m (m.length : Int) i) (R := fun x n => x + countM (m.drop n)) (N := m.length) (fun x n => 0 ≤ x ∧ x ≤ 4 * n) ?_ ?_ 0 0 (Nat.zero_le _) (by decide)
    · simpa using this
    · intro x hx
      refine Ev.step (fun k => impl_MasksCount.l0.eq_2 _ _ _ _ k) ?_
      have e : countM [] = 0 := rfl
      simp only [Int.lt_irrefl, if_false, List.drop_length, e, Int.add_zero]
      exact Ev.now _
    · intro x n hn hx ih
      refine Ev.step (fun k => impl_MasksCount.l0.eq_2 _ _ _ _ k) ?_
      have h1 : (n : Int) < (m.length : Int) := by omega
      have h0 : (0 : Int) ≤ n := by omega
      simp only [h1, h0, if_true, rd_lt hn, onesCount_eq (mask_even hm (List.getElem_mem hn)), Option.bind_some]
      have := mvals_length m[n]
      rw [w64n (by omega : n < 9000000000000000000), w64 (x := x + _) (by omega) (by omega), drop_cons hn, countM, ← Int.add_assoc]
      exact ih _ (by omega)
  · simp only [hm, if_false, Bool.false_eq_true]
    exact Ev.now _

end Go.Proofs.Ytaglakdahmepeaa.Pure
