/- What the copies, comparisons and marks of the laws come to. Conditions: as stated in each. -/
import Derived.Test.YthfbjkniinfgcaaWWords
import Derived.Test.YthfbjkniinfgcaaWMore
import Derived.Test.YthfbjkniinfgcaaP16
import Derived.Test.YthfbjkniinfgcaaP17
import Derived.Test.YthfbjkniinfgcaaP24
import Derived.Test.YthfbjkniinfgcaaP25
import Derived.Test.YthfbjkniinfgcaaP6
import Derived.Test.YthfbjkniinfgcaaBase
import Derived.Test.YthfbjkniinfgcaaModel
namespace Go.Proofs.Ythfbjkniinfgcaa.Pure
set_option linter.unusedSimpArgs false
set_option linter.unusedVariables false
open Go.RowKit Go.Proofs.YthfbjkniinfgcaaW.PrintWords Go.Proofs.YthfbjkniinfgcaaW.PrintMore Go.Proofs.Ythfbjkniinfgcaa.P

theorem eqIntS_ev (a b : List Int) (h : a.length < 9000000000000000000) : Ev (fun k => laws_eqIntS.f k a b) (decide (a = b)) := by
  unfold laws_eqIntS.f
  by_cases hl : a.length = b.length
  · simp only [hl, if_true]
    have := Ev.range0 (L := fun k i => laws_eqIntS.l0 k a b i) (R := fun n => decide (a.drop n = b.drop n)) (N := a.length) ?_ ?_ 0 (Nat.zero_le _)
    · simpa using this
    · refine Ev.step (fun k => laws_eqIntS.l0.eq_2 _ _ _ k) ?_
      have e1 : a.drop a.length = [] := List.drop_length
      have e2 : b.drop a.length = [] := by rw [hl]; exact List.drop_length
      simp [e1, e2, Ev.now]
    · intro n hn ih
      refine Ev.step (fun k => laws_eqIntS.l0.eq_2 _ _ _ k) ?_
      have h1 : (n : Int) < (a.length : Int) := by omega
      have h2 : (n : Int) < (b.length : Int) := by omega
      have h3 : (0 : Int) ≤ n := by omega
      rw [drop_cons hn, drop_cons (by omega : n < b.length)]
      simp only [h1, h2, h3, if_true, rd_lt hn, rd_lt (by omega : n < b.length)]
      by_cases he : a[n] = b[n]
      · simp only [he, if_true, w64n (by omega : n < 9000000000000000000), List.cons.injEq, true_and]
        exact ih
      · simp only [he, if_false, List.cons.injEq, false_and, decide_false]
        exact Ev.now _
  · have : ¬ ((a.length : Int) = (b.length : Int)) := by omega
    have hne : ¬ a = b := fun e => hl (by rw [e])
    simp only [this, if_false, hne, decide_false]
    exact Ev.now _
theorem sameInts_ev (a b : List Int) (h : a.length < 9000000000000000000) : Ev (fun k => laws_sameInts.f k a b) (decide (a = b)) := by
  unfold laws_sameInts.f
  by_cases hl : a.length = b.length
  · simp only [hl, if_true]
    have := Ev.range0 (L := fun k i => laws_sameInts.l0 k a b i) (R := fun n => decide (a.drop n = b.drop n)) (N := a.length) ?_ ?_ 0 (Nat.zero_le _)
    · simpa using this
    · refine Ev.step (fun k => laws_sameInts.l0.eq_2 _ _ _ k) ?_
      have e1 : a.drop a.length = [] := List.drop_length
      have e2 : b.drop a.length = [] := by rw [hl]; exact List.drop_length
      simp [e1, e2, Ev.now]
    · intro n hn ih
      refine Ev.step (fun k => laws_sameInts.l0.eq_2 _ _ _ k) ?_
      have h1 : (n : Int) < (a.length : Int) := by omega
      have h2 : (n : Int) < (b.length : Int) := by omega
      have h3 : (0 : Int) ≤ n := by omega
      rw [drop_cons hn, drop_cons (by omega : n < b.length)]
      simp only [h1, h2, h3, if_true, rd_lt hn, rd_lt (by omega : n < b.length)]
      by_cases he : a[n] = b[n]
      · simp only [he, if_true, w64n (by omega : n < 9000000000000000000), List.cons.injEq, true_and]
        exact ih
      · simp only [he, if_false, List.cons.injEq, false_and, decide_false]
        exact Ev.now _
  · have : ¬ ((a.length : Int) = (b.length : Int)) := by omega
    have hne : ¬ a = b := fun e => hl (by rw [e])
    simp only [this, if_false, hne, decide_false]
    exact Ev.now _
theorem set_at {xs : List Int} {n : Nat} (h : n < xs.length) (v : Int) : xs.set n v = xs.take n ++ v :: xs.drop (n + 1) := by
  rw [List.set_eq_take_append_cons_drop, if_pos h]
theorem toIntS_ev (a : List Int) (h : a.length ≤ 35184372088832) : Ev (fun k => laws_toIntS.f k a) a := by
  unfold laws_toIntS.f
  have h0 : (0 : Int) ≤ (a.length : Int) := by omega
  have h1 : ((a.length : Int) : Int).toNat ≤ 35184372088832 := by simpa using h
  simp only [h0, h1, if_true]
  have := Ev.range (L := fun k (x : List Int) i => laws_toIntS.l0 k a x i) (R := fun _ _ => a) (N := a.length) (fun x n => x.length = a.length ∧ x.take n = a.take n) ?_ ?_ (List.replicate ((a.length : Int)).toNat 0) 0 (Nat.zero_le _) (by simp)
  · simpa using this
  · rintro x ⟨hl, he⟩
    refine Ev.step (fun k => laws_toIntS.l0.eq_2 _ _ _ k) ?_
    have e : x = a := by rw [← hl, List.take_length, hl, List.take_length] at he; exact he
    simp only [Int.lt_irrefl, if_false, e]
    exact Ev.now _
  · rintro x n hn ⟨hl, he⟩ ih
    refine Ev.step (fun k => laws_toIntS.l0.eq_2 _ _ _ k) ?_
    have h1 : (n : Int) < (a.length : Int) := by omega
    have h2 : (n : Int) < (x.length : Int) := by omega
    have h3 : (0 : Int) ≤ n := by omega
    simp only [h1, h2, h3, if_true, rd_lt hn, Int.toNat_natCast, w64n (by omega : n < 9000000000000000000)]
    refine ih _ ⟨by simp [hl], ?_⟩
    rw [take_set_succ (by omega : n < x.length), he, List.take_succ_eq_append_getElem hn]
theorem markIntS_ev (a : List Int) (m : Int) (h : a.length ≤ 17592186044416) (h0 : 0 ≤ m) (h1 : m ≤ 1000000000000000000) : Ev (fun k => laws_markIntS.f k a m) (m + a.length, marks m a.length) := by
  unfold laws_markIntS.f
  have := Ev.range (L := fun k (x : List Int) i => laws_markIntS.l0 k x (m + i) i) (R := fun x n => (m + a.length, x.take n ++ marks (m + n) (a.length - n))) (N := a.length) (fun x n => x.length = a.length) ?_ ?_ a 0 (Nat.zero_le _) rfl
  · simpa using this
  · intro x hx
    refine Ev.step (fun k => laws_markIntS.l0.eq_2 _ _ _ k) ?_
    have hn : ¬ ((a.length : Int) < (x.length : Int)) := by omega
    have e : x.take a.length ++ marks (m + (a.length : Nat)) (a.length - a.length) = x := by
      rw [← hx, List.take_length, Nat.sub_self]; simp [marks]
    simp only [hn, if_false, e]
    exact Ev.now _
  · intro x n hn hx ih
    refine Ev.step (fun k => laws_markIntS.l0.eq_2 _ _ _ k) ?_
    have h2 : (n : Int) < (x.length : Int) := by omega
    have h3 : (0 : Int) ≤ n := by omega
    have e1 : wrap64 (m + n + 1) = m + ((n + 1 : Nat) : Int) := by rw [w64 (by omega) (by omega)]; omega
    simp only [h2, h3, if_true, Int.toNat_natCast, w64n (by omega : n < 9000000000000000000), e1]
    have := ih (x.set n (m + n)) (by simp [hx])
    have e2 : (x.set n (m + n)).take (n + 1) ++ marks (m + ((n + 1 : Nat) : Int)) (a.length - (n + 1)) = x.take n ++ marks (m + n) (a.length - n) := by
      have e3 : a.length - n = (a.length - (n + 1)) + 1 := by omega
      rw [e3, marks, take_set_succ (by omega : n < x.length)]
      have e5 : m + (n : Int) + 1 = m + ((n + 1 : Nat) : Int) := by omega
      rw [e5]; simp
    rw [e2] at this
    exact this
theorem heldIntS_marks (m : Int) (l : Nat) (h : l ≤ 17592186044416) (h0 : 0 ≤ m) (h1 : m ≤ 1000000000000000000) : Ev (fun k => laws_heldIntS.f k (marks m l) m) (m + l) := by
  unfold laws_heldIntS.f
  have hm : ∀ n, n < l → rd (marks m l) (n : Int) = m + n := by
    intro n hn
    have : ∀ (l n : Nat) (m : Int), n < l → (marks m l).getD n 0 = m + n := by
      intro l
      induction l with
      | zero => intro n m h; omega
      | succ l ih =>
        intro n m h
        cases n with
        | zero => simp [marks]
        | succ n => simp only [marks, List.getD_cons_succ]; rw [ih n (m + 1) (by omega)]; omega
    rw [rd_nat]; exact this l n m hn
  have := Ev.range0 (L := fun k i => laws_heldIntS.l0 k (marks m l) (m + i) i) (R := fun _ => m + l) (N := l) ?_ ?_ 0 (Nat.zero_le _)
  · simpa using this
  · refine Ev.step (fun k => laws_heldIntS.l0.eq_2 _ _ _ k) ?_
    simp [marks_length, Ev.now]
  · intro n hn ih
    refine Ev.step (fun k => laws_heldIntS.l0.eq_2 _ _ _ k) ?_
    have h2 : (n : Int) < ((marks m l).length : Int) := by rw [marks_length]; omega
    have h3 : (0 : Int) ≤ n := by omega
    have e1 : wrap64 (m + n + 1) = m + ((n + 1 : Nat) : Int) := by rw [w64 (by omega) (by omega)]; omega
    simp only [h2, h3, if_true, hm n hn, w64n (by omega : n < 9000000000000000000), e1]
    exact ih

end Go.Proofs.Ythfbjkniinfgcaa.Pure
