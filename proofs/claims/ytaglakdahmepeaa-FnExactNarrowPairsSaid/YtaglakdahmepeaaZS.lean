/- The plain side of the law FnExactNarrowPairs: what the functions come to, and that the law answers true. Conditions: as stated in each. -/
import Derived.Laws.BitsLemmas
import Derived.OpenShut
import Derived.Test.YtaglakdahmepeaaZP1
import Derived.Test.YtaglakdahmepeaaZP2
import Derived.Test.YtaglakdahmepeaaZP3
import Derived.Test.YtaglakdahmepeaaZP4
import Derived.Test.YtaglakdahmepeaaZW
namespace Go.Proofs.Ytaglakdahmepeaa.Pure
set_option linter.unusedSimpArgs false
set_option linter.unusedVariables false
open Go.RowKit Go.Proofs.YtaglakdahmepeaaW.PrintWords Go.Proofs.YtaglakdahmepeaaW.PrintMore


theorem w64 {x : Int} (h0 : -9223372036854775808 ≤ x) (h1 : x ≤ 9223372036854775807) : wrap64 x = x := by
  unfold wrap64; omega
theorem w64n {n : Nat} (h : n < 9000000000000000000) : wrap64 ((n : Int) + 1) = ((n + 1 : Nat) : Int) := by
  unfold wrap64; omega
theorem rd_nat (xs : List Int) (n : Nat) : rd xs (n : Int) = xs.getD n 0 := by simp [rd]
theorem rd_lt {xs : List Int} {n : Nat} (h : n < xs.length) : rd xs (n : Int) = xs[n] := by simp [rd, h]
theorem Ev.some {α : Type} {g : Nat → Option α} {r : α} (h : ∀ k, g k = Option.some r) : Ev g r := ⟨0, fun k _ => h k⟩
theorem Ev.uniq {α : Type} {g : Nat → Option α} {r s : α} (h : Ev g r) (k : Ev g s) : r = s := by
  obtain ⟨K, h⟩ := h
  obtain ⟨K', k⟩ := k
  have a := h (max K K') (by omega)
  have b := k (max K K') (by omega)
  rw [a] at b
  exact Option.some.inj b
/-- A loop that counts from n up to N, with a state. -/
theorem Ev.range {σ α : Type} {L : Nat → σ → Int → Option α} {R : σ → Nat → α} {N : Nat} (P : σ → Nat → Prop)
    (hend : ∀ s, P s N → Ev (fun k => L k s (N : Int)) (R s N))
    (hstep : ∀ s n, n < N → P s n → (∀ s', P s' (n + 1) → Ev (fun k => L k s' ((n + 1 : Nat) : Int)) (R s' (n + 1))) → Ev (fun k => L k s (n : Int)) (R s n)) :
    ∀ s n, n ≤ N → P s n → Ev (fun k => L k s (n : Int)) (R s n) := by
  intro s n hn
  obtain ⟨d, hd⟩ : ∃ d, N = n + d := ⟨N - n, by omega⟩
  induction d generalizing s n with
  | zero => obtain rfl : N = n := by omega
            exact hend s
  | succ d ih => exact fun hp => hstep s n (by omega) hp (fun s' hp' => ih s' (n + 1) (by omega) (by omega) hp')
/-- The same without a state. -/
theorem Ev.range0 {α : Type} {L : Nat → Int → Option α} {R : Nat → α} {N : Nat}
    (hend : Ev (fun k => L k (N : Int)) (R N))
    (hstep : ∀ n, n < N → Ev (fun k => L k ((n + 1 : Nat) : Int)) (R (n + 1)) → Ev (fun k => L k (n : Int)) (R n)) :
    ∀ n, n ≤ N → Ev (fun k => L k (n : Int)) (R n) := by
  intro n hn
  exact Ev.range (σ := Unit) (L := fun k _ i => L k i) (R := fun _ n => R n) (fun _ _ => True) (fun _ _ => hend) (fun _ n h _ ih => hstep n h (ih () trivial)) () n hn trivial
theorem rd_ge {xs : List Int} {i : Int} (h : xs.length ≤ i.toNat) : rd xs i = 0 := by simp [rd, List.getElem?_eq_none h]
theorem take_set_succ {x : List Int} {n : Nat} (h : n < x.length) (v : Int) : (x.set n v).take (n + 1) = x.take n ++ [v] := by
  rw [List.take_succ_eq_append_getElem (by simpa using h)]
  simp [List.take_set_of_le (Nat.le_refl n)]
theorem drop_cons {xs : List Int} {n : Nat} (h : n < xs.length) : xs.drop n = xs[n] :: xs.drop (n + 1) := List.drop_eq_getElem_cons h

end Go.Proofs.Ytaglakdahmepeaa.Pure
namespace Go.Proofs.Ytaglakdahmepeaa.Pure
set_option linter.unusedSimpArgs false
set_option linter.unusedVariables false
open Go.RowKit Go.Proofs.YtaglakdahmepeaaW.PrintWords Go.Proofs.YtaglakdahmepeaaW.PrintMore


/-! ## The model -/
def sizeOkB (s : Int) : Bool := decide (2 ≤ s ∧ s ≤ 4)
/-- The mask of all values. -/
def allM (s : Int) : Int := if s = 2 then 6 else if s = 3 then 14 else 30
def masksB (g : List Int) (s : Int) : Bool := sizeOkB s && (decide ((g.length : Int) = s * s) && g.all (fun v => decide (0 ≤ v ∧ v ≤ allM s ∧ v % 2 = 0)))
/-- Marks k, k + 1, .. -/
def marks (k : Int) : Nat → List Int
  | 0 => []
  | n + 1 => k :: marks (k + 1) n
theorem marks_length (k : Int) (n : Nat) : (marks k n).length = n := by induction n generalizing k with
  | zero => rfl
  | succ n ih => simp [marks, ih]
theorem sizeOkB_iff {s : Int} : sizeOkB s = true ↔ s = 2 ∨ s = 3 ∨ s = 4 := by
  unfold sizeOkB; rw [decide_eq_true_iff]; omega
theorem masksB_size {g : List Int} {s : Int} (h : masksB g s = true) : sizeOkB s = true := by unfold masksB at h; simp only [Bool.and_eq_true] at h; exact h.1
theorem masksB_len {g : List Int} {s : Int} (h : masksB g s = true) : (g.length : Int) = s * s := by unfold masksB at h; simp only [Bool.and_eq_true, decide_eq_true_eq] at h; exact h.2.1
theorem masksB_mem {g : List Int} {s : Int} (h : masksB g s = true) : ∀ v ∈ g, 0 ≤ v ∧ v ≤ allM s ∧ v % 2 = 0 := by
  unfold masksB at h; simp only [Bool.and_eq_true, decide_eq_true_eq, List.all_eq_true] at h; exact h.2.2
theorem masksB_le {g : List Int} {s : Int} (h : masksB g s = true) : g.length ≤ 16 := by
  have := masksB_len h
  rcases sizeOkB_iff.1 (masksB_size h) with rfl | rfl | rfl <;> omega
/-! ## Lines -/
def lineOkB (s l : Int) : Bool := sizeOkB s && decide (0 ≤ l ∧ l < 2 * s)
def lineC (s l : Int) : List Int := if lineOkB s l = true then (List.range s.toNat).map (fun i : Nat => if l < s then l * s + (i : Int) else (i : Int) * s + l - s) else []
theorem lineOkB_cases {s l : Int} (h : lineOkB s l = true) : (s = 2 ∧ (l = 0 ∨ l = 1 ∨ l = 2 ∨ l = 3)) ∨ (s = 3 ∧ (l = 0 ∨ l = 1 ∨ l = 2 ∨ l = 3 ∨ l = 4 ∨ l = 5)) ∨ (s = 4 ∧ (l = 0 ∨ l = 1 ∨ l = 2 ∨ l = 3 ∨ l = 4 ∨ l = 5 ∨ l = 6 ∨ l = 7)) := by
  unfold lineOkB at h; simp only [Bool.and_eq_true, decide_eq_true_eq] at h
  obtain ⟨hs, h0, h1⟩ := h
  rcases sizeOkB_iff.1 hs with rfl | rfl | rfl <;> omega

end Go.Proofs.Ytaglakdahmepeaa.Pure
namespace Go.Proofs.Ytaglakdahmepeaa.Pure
set_option linter.unusedSimpArgs false
set_option linter.unusedVariables false
open Go.RowKit Go.Proofs.YtaglakdahmepeaaW.PrintWords Go.Proofs.YtaglakdahmepeaaW.PrintMore Go.Proofs.Ytaglakdahmepeaa.P


theorem eqIntS_ev (a b : List Int) (h : a.length < 9000000000000000000) : Ev (fun k => laws_eqIntS.f k a b) (decide (a = b)) := by
  unfold laws_eqIntS.f
  by_cases hl : a.length = b.length
  · simp only [hl, if_true]
    have := Ev.range0 (L := fun k i => laws_eqIntS.l0 k a b i) (R := fun n => decide (a.drop n = b.drop n)) (N := a.length) ?_ ?_ 0 (Nat.zero_le _)
    · simpa using this
    · refine Ev.step (fun k => laws_eqIntS.l0.eq_2 _ _ _ k) ?_
      have e1 : a.drop a.length = [] := List.drop_length
      have e2 : b.drop a.length = [] := by rw [hl]; exact List.drop_length
      simp [e1, e2, Ev.now]
    · intro n hn ih
      refine Ev.step (fun k => laws_eqIntS.l0.eq_2 _ _ _ k) ?_
      have h1 : (n : Int) < (a.length : Int) := by omega
      have h2 : (n : Int) < (b.length : Int) := by omega
      have h3 : (0 : Int) ≤ n := by omega
      rw [drop_cons hn, drop_cons (by omega : n < b.length)]
      simp only [h1, h2, h3, if_true, rd_lt hn, rd_lt (by omega : n < b.length)]
      by_cases he : a[n] = b[n]
      · simp only [he, if_true, w64n (by omega : n < 9000000000000000000), List.cons.injEq, true_and]
        exact ih
      · simp only [he, if_false, List.cons.injEq, false_and, decide_false]
        exact Ev.now _
  · have : ¬ ((a.length : Int) = (b.length : Int)) := by omega
    have hne : ¬ a = b := fun e => hl (by rw [e])
    simp only [this, if_false, hne, decide_false]
    exact Ev.now _
theorem toIntS_ev (a : List Int) (h : a.length ≤ 35184372088832) : Ev (fun k => laws_toIntS.f k a) a := by
  unfold laws_toIntS.f
  have h0 : (0 : Int) ≤ (a.length : Int) := by omega
  have h1 : ((a.length : Int) : Int).toNat ≤ 35184372088832 := by simpa using h
  simp only [h0, h1, if_true]
  have := Ev.range (L := fun k (x : List Int) i => laws_toIntS.l0 k a x i) (R := fun _ _ => a) (N := a.length) (fun x n => x.length = a.length ∧ x.take n = a.take n) ?_ ?_ (List.replicate ((a.length : Int)).toNat 0) 0 (Nat.zero_le _) (by simp)
  · simpa using this
  · rintro x ⟨hl, he⟩
    refine Ev.step (fun k => laws_toIntS.l0.eq_2 _ _ _ k) ?_
    have e : x = a := by rw [← hl, List.take_length, hl, List.take_length] at he; exact he
    simp only [Int.lt_irrefl, if_false, e]
    exact Ev.now _
  · rintro x n hn ⟨hl, he⟩ ih
    refine Ev.step (fun k => laws_toIntS.l0.eq_2 _ _ _ k) ?_
    have h1 : (n : Int) < (a.length : Int) := by omega
    have h2 : (n : Int) < (x.length : Int) := by omega
    have h3 : (0 : Int) ≤ n := by omega
    simp only [h1, h2, h3, if_true, rd_lt hn, Int.toNat_natCast, w64n (by omega : n < 9000000000000000000)]
    refine ih _ ⟨by simp [hl], ?_⟩
    rw [take_set_succ (by omega : n < x.length), he, List.take_succ_eq_append_getElem hn]
theorem markIntS_ev (a : List Int) (m : Int) (h : a.length ≤ 17592186044416) (h0 : 0 ≤ m) (h1 : m ≤ 1000000000000000000) : Ev (fun k => laws_markIntS.f k a m) (m + a.length, marks m a.length) := by
  unfold laws_markIntS.f
  have := Ev.range (L := fun k (x : List Int) i => laws_markIntS.l0 k x (m + i) i) (R := fun x n => (m + a.length, x.take n ++ marks (m + n) (a.length - n))) (N := a.length) (fun x n => x.length = a.length) ?_ ?_ a 0 (Nat.zero_le _) rfl
  · simpa using this
  · intro x hx
    refine Ev.step (fun k => laws_markIntS.l0.eq_2 _ _ _ k) ?_
    have hn : ¬ ((a.length : Int) < (x.length : Int)) := by omega
    have e : x.take a.length ++ marks (m + (a.length : Nat)) (a.length - a.length) = x := by
      rw [← hx, List.take_length, Nat.sub_self]; simp [marks]
    simp only [hn, if_false, e]
    exact Ev.now _
  · intro x n hn hx ih
    refine Ev.step (fun k => laws_markIntS.l0.eq_2 _ _ _ k) ?_
    have h2 : (n : Int) < (x.length : Int) := by omega
    have h3 : (0 : Int) ≤ n := by omega
    have e1 : wrap64 (m + n + 1) = m + ((n + 1 : Nat) : Int) := by rw [w64 (by omega) (by omega)]; omega
    simp only [h2, h3, if_true, Int.toNat_natCast, w64n (by omega : n < 9000000000000000000), e1]
    have := ih (x.set n (m + n)) (by simp [hx])
    have e2 : (x.set n (m + n)).take (n + 1) ++ marks (m + ((n + 1 : Nat) : Int)) (a.length - (n + 1)) = x.take n ++ marks (m + n) (a.length - n) := by
      have e3 : a.length - n = (a.length - (n + 1)) + 1 := by omega
      rw [e3, marks, take_set_succ (by omega : n < x.length)]
      have e5 : m + (n : Int) + 1 = m + ((n + 1 : Nat) : Int) := by omega
      rw [e5]; simp
    rw [e2] at this
    exact this
theorem heldIntS_marks (m : Int) (l : Nat) (h : l ≤ 17592186044416) (h0 : 0 ≤ m) (h1 : m ≤ 1000000000000000000) : Ev (fun k => laws_heldIntS.f k (marks m l) m) (m + l) := by
  unfold laws_heldIntS.f
  have hm : ∀ n, n < l → rd (marks m l) (n : Int) = m + n := by
    intro n hn
    have : ∀ (l n : Nat) (m : Int), n < l → (marks m l).getD n 0 = m + n := by
      intro l
      induction l with
      | zero => intro n m h; omega
      | succ l ih =>
        intro n m h
        cases n with
        | zero => simp [marks]
        | succ n => simp only [marks, List.getD_cons_succ]; rw [ih n (m + 1) (by omega)]; omega
    rw [rd_nat]; exact this l n m hn
  have := Ev.range0 (L := fun k i => laws_heldIntS.l0 k (marks m l) (m + i) i) (R := fun _ => m + l) (N := l) ?_ ?_ 0 (Nat.zero_le _)
  · simpa using this
  · refine Ev.step (fun k => laws_heldIntS.l0.eq_2 _ _ _ k) ?_
    simp [marks_length, Ev.now]
  · intro n hn ih
    refine Ev.step (fun k => laws_heldIntS.l0.eq_2 _ _ _ k) ?_
    have h2 : (n : Int) < ((marks m l).length : Int) := by rw [marks_length]; omega
    have h3 : (0 : Int) ≤ n := by omega
    have e1 : wrap64 (m + n + 1) = m + ((n + 1 : Nat) : Int) := by rw [w64 (by omega) (by omega)]; omega
    simp only [h2, h3, if_true, hm n hn, w64n (by omega : n < 9000000000000000000), e1]
    exact ih

end Go.Proofs.Ytaglakdahmepeaa.Pure
namespace Go.Proofs.Ytaglakdahmepeaa.Pure
set_option linter.unusedSimpArgs false
set_option linter.unusedVariables false
open Go.RowKit Go.Proofs.YtaglakdahmepeaaW.PrintWords Go.Proofs.YtaglakdahmepeaaW.PrintMore


/-- The mask has the value. -/
def has (m v : Int) : Bool := decide ((m / 2 ^ v.toNat) % 2 = 1)

end Go.Proofs.Ytaglakdahmepeaa.Pure
namespace Go.Proofs.Ytaglakdahmepeaa.Pure
set_option linter.unusedSimpArgs false
set_option linter.unusedVariables false
open Go.RowKit Go.Proofs.YtaglakdahmepeaaW.PrintWords Go.Proofs.YtaglakdahmepeaaW.PrintMore

theorem size_nat {s : Int} (h : sizeOkB s = true) : ((s.toNat : Nat) : Int) = s ∧ 2 ≤ s.toNat ∧ s.toNat ≤ 4 := by
  rcases sizeOkB_iff.1 h with rfl | rfl | rfl <;> decide

end Go.Proofs.Ytaglakdahmepeaa.Pure
namespace Go.Proofs.Ytaglakdahmepeaa.Pure
set_option linter.unusedSimpArgs false
set_option linter.unusedVariables false
open Go.RowKit Go.Proofs.YtaglakdahmepeaaW.PrintWords Go.Proofs.YtaglakdahmepeaaW.PrintMore


theorem le_of_andNot {v : Int} {M : Nat} (hM : M < 2 ^ 64) (h0 : 0 ≤ v) (h1 : v < 2 ^ 63) (h : Go.bits .andNot .i64 v (M : Int) = 0) : v ≤ M := by
  unfold Go.bits at h
  simp only [IntKind.wrap_i64] at h
  have hlt := (BitVec.ofInt IntKind.i64.bits v &&& ~~~ BitVec.ofInt IntKind.i64.bits (M : Int)).isLt
  have hbits : IntKind.i64.bits = 64 := rfl
  rw [hbits] at h hlt
  have ht : (BitVec.ofInt 64 v &&& ~~~ BitVec.ofInt 64 (M : Int)).toNat = 0 := by omega
  have e : BitVec.ofInt 64 v &&& ~~~ BitVec.ofInt 64 (M : Int) = 0#64 := BitVec.eq_of_toNat_eq (by simpa using ht)
  have e2 : BitVec.ofInt 64 v = BitVec.ofInt 64 v &&& BitVec.ofInt 64 (M : Int) := by
    apply BitVec.eq_of_getLsbD_eq
    intro i hi
    have h := congrArg (fun x => BitVec.getLsbD x i) e
    simp only [BitVec.getLsbD_and, BitVec.getLsbD_not, BitVec.getLsbD_zero, hi, decide_true, Bool.true_and] at h ⊢
    cases hx : (BitVec.ofInt 64 v).getLsbD i <;> cases hy : (BitVec.ofInt 64 (M : Int)).getLsbD i <;> simp_all
  have e3 := congrArg BitVec.toNat e2
  rw [BitVec.toNat_and] at e3
  have e4 : (BitVec.ofInt 64 (M : Int)).toNat = M := by
    rw [BitVec.toNat_ofInt]; omega
  have e5 : (BitVec.ofInt 64 v).toNat = v.toNat := by
    rw [BitVec.toNat_ofInt]; omega
  rw [e4, e5] at e3
  have := @Nat.and_le_right v.toNat M
  omega
theorem and7_range (s : Int) : 0 ≤ Go.bits .and .i64 s 7 ∧ Go.bits .and .i64 s 7 ≤ 7 := by
  unfold Go.bits
  simp only [IntKind.wrap_i64]
  rw [BitVec.toNat_and]
  have := @Nat.and_le_right (BitVec.ofInt IntKind.i64.bits s).toNat (BitVec.ofInt IntKind.i64.bits 7).toNat
  have e : (BitVec.ofInt IntKind.i64.bits 7).toNat = 7 := by decide
  rw [e] at this ⊢
  omega
theorem andNot_fin : ∀ s : Fin 5, sizeOkB s = true → ∀ v : Fin 31, (Go.bits .andNot .i64 (v.val : Int) (allM s) = 0 ↔ (v.val : Int) ≤ allM s ∧ (v.val : Int) % 2 = 0) := by decide +kernel
theorem andNot_iff {s v : Int} (hs : sizeOkB s = true) (h0 : 0 ≤ v) (h1 : v < 2 ^ 63) : Go.bits .andNot .i64 v (allM s) = 0 ↔ v ≤ allM s ∧ v % 2 = 0 := by
  have hr : allM s ≤ 30 := by rcases sizeOkB_iff.1 hs with rfl | rfl | rfl <;> decide
  have hc : ((allM s).toNat : Int) = allM s := by rcases sizeOkB_iff.1 hs with rfl | rfl | rfl <;> decide
  by_cases hv : v ≤ 30
  · have hs' : ∃ j : Fin 5, (j.val : Int) = s := by
      rcases sizeOkB_iff.1 hs with rfl | rfl | rfl
      · exact ⟨2, rfl⟩
      · exact ⟨3, rfl⟩
      · exact ⟨4, rfl⟩
    obtain ⟨j, rfl⟩ := hs'
    have := andNot_fin j hs ⟨v.toNat, by omega⟩
    rwa [show ((v.toNat : Nat) : Int) = v by omega] at this
  · constructor
    · intro h
      rw [← hc] at h
      have := le_of_andNot (by omega) h0 h1 h
      omega
    · intro h; omega

end Go.Proofs.Ytaglakdahmepeaa.Pure
namespace Go.Proofs.Ytaglakdahmepeaa.Pure
set_option linter.unusedSimpArgs false
set_option linter.unusedVariables false
open Go.RowKit Go.Proofs.YtaglakdahmepeaaW.PrintWords Go.Proofs.YtaglakdahmepeaaW.PrintMore Go.Proofs.Ytaglakdahmepeaa.P


theorem l1In_eq (a b c : Int) : spec_l1In.f a b c = some (decide (b ≤ a ∧ a ≤ c)) := by
  unfold spec_l1In.f
  by_cases h : a ≥ b
  · have h' : b ≤ a := h
    simp [h']
  · have h' : ¬ b ≤ a := h
    simp [h']
theorem sizeOk_eq (a : Int) : impl_sizeOk.f a = some (sizeOkB a) := by
  unfold impl_sizeOk.f sizeOkB
  by_cases h : a ≥ 2
  · have h' : 2 ≤ a := h
    simp [h']
  · have h' : ¬ 2 ≤ a := h
    simp [h']
theorem allValues_eq {s : Int} (h : sizeOkB s = true) : impl_allValues.f s = some (allM s) := by
  rcases sizeOkB_iff.1 h with rfl | rfl | rfl <;> decide +kernel

end Go.Proofs.Ytaglakdahmepeaa.Pure
namespace Go.Proofs.Ytaglakdahmepeaa.Pure
set_option linter.unusedSimpArgs false
set_option linter.unusedVariables false
open Go.RowKit Go.Proofs.YtaglakdahmepeaaW.PrintWords Go.Proofs.YtaglakdahmepeaaW.PrintMore Go.Proofs.Ytaglakdahmepeaa.P


theorem specMasksValid_ev (g : List Int) (s : Int) (h : g.length ≤ 35184372088832) : Ev (fun k => spec_MasksValid.f k g s) (masksB g s) := by
  unfold spec_MasksValid.f
  obtain ⟨B, hB⟩ : ∃ B, wrap64 ((shl .i64 1 (wrap64 ((Go.bits .and .i64 s 7) + 1))) - 2) = B := ⟨_, rfl⟩
  have hBs : sizeOkB s = true → B = allM s := by
    intro hs; rw [← hB]; rcases sizeOkB_iff.1 hs with rfl | rfl | rfl <;> decide +kernel
  have h7 : (0 : Int) ≤ wrap64 ((Go.bits .and .i64 s 7) + 1) := by
    have := and7_range s
    rw [w64 (by omega) (by omega)]; omega
  have := Ev.range0 (L := fun k i => spec_MasksValid.l0 k g s i) (R := fun n => (g.drop n).all (fun v => decide (0 ≤ v ∧ v ≤ B ∧ v % 2 = 0)) && (sizeOkB s && decide ((g.length : Int) = s * s))) (N := g.length) ?_ ?_ 0 (Nat.zero_le _)
  · have e : masksB g s = ((g.drop 0).all (fun v => decide (0 ≤ v ∧ v ≤ B ∧ v % 2 = 0)) && (sizeOkB s && decide ((g.length : Int) = s * s))) := by
      unfold masksB; rw [List.drop_zero]
      cases hs : sizeOkB s
      · simp
      · rw [hBs hs]; cases decide ((g.length : Int) = s * s) <;> simp
    rw [e]; simpa using this
  · refine Ev.step (fun k => spec_MasksValid.l0.eq_2 _ _ _ k) ?_
    simp only [Int.lt_irrefl, if_false, l1In_eq, Option.bind_some, List.drop_length, List.all_nil, Bool.true_and]
    by_cases hs : sizeOkB s = true
    · have hs' : decide (2 ≤ s ∧ s ≤ 4) = true := hs
      have hw : wrap64 (s * s) = s * s := by rcases sizeOkB_iff.1 hs with rfl | rfl | rfl <;> decide +kernel
      simp only [hs', if_true, hs, hw, Bool.true_and]
      have e : ((g.length : Int) == s * s) = decide ((g.length : Int) = s * s) := by
        by_cases h : (g.length : Int) = s * s <;> simp [h]
      rw [e]; exact Ev.now _
    · have hs' : ¬ decide (2 ≤ s ∧ s ≤ 4) = true := hs
      simp only [hs', if_false, Bool.false_and, eq_false_of_ne_true hs, Bool.false_eq_true]
      exact Ev.now _
  · intro n hn ih
    refine Ev.step (fun k => spec_MasksValid.l0.eq_2 _ _ _ k) ?_
    have h1 : (n : Int) < (g.length : Int) := by omega
    have h3 : (0 : Int) ≤ n := by omega
    rw [drop_cons hn]
    simp only [h1, h3, h7, if_true, rd_lt hn, l1In_eq, Option.bind_some, List.all_cons, hB]
    by_cases hv : 0 ≤ g[n] ∧ g[n] ≤ B
    · have ht : Int.tmod g[n] 2 = g[n] % 2 := Int.tmod_eq_emod_of_nonneg hv.1
      by_cases h2 : g[n] % 2 = 0
      · have e : decide (0 ≤ g[n] ∧ g[n] ≤ B ∧ g[n] % 2 = 0) = true := decide_eq_true ⟨hv.1, hv.2, h2⟩
        rw [e]
        simp only [decide_eq_true hv, ht, h2, if_true, w64n (by omega : n < 9000000000000000000), Bool.true_and]
        exact ih
      · have e : decide (0 ≤ g[n] ∧ g[n] ≤ B ∧ g[n] % 2 = 0) = false := decide_eq_false (fun h => h2 h.2.2)
        rw [e]
        simp only [decide_eq_true hv, ht, h2, if_true, if_false, Bool.false_and]
        exact Ev.now _
    · have e : decide (0 ≤ g[n] ∧ g[n] ≤ B ∧ g[n] % 2 = 0) = false := decide_eq_false (fun h => hv ⟨h.1, h.2.1⟩)
      simp only [decide_eq_false hv, e, if_false, Bool.false_and, Bool.false_eq_true]
      exact Ev.now _
theorem implMasksValid_ev (g : List Int) (s : Int) (h : g.length ≤ 35184372088832) (hw : ∀ x ∈ g, x ≤ 9223372036854775807) : Ev (fun k => impl_MasksValid.f k g s) (masksB g s) := by
  unfold impl_MasksValid.f
  simp only [sizeOk_eq, Option.bind_some]
  by_cases hs : sizeOkB s = true
  · have hw2 : wrap64 (s * s) = s * s := by rcases sizeOkB_iff.1 hs with rfl | rfl | rfl <;> decide +kernel
    simp only [hs, if_true, hw2]
    refine Ev.step (fun k => impl_MasksValid.j0.eq_2 _ _ _ k) ?_
    by_cases hl : (g.length : Int) = s * s
    · have e : ((g.length : Int) != s * s) = false := by simp [hl]
      simp only [e, Bool.false_eq_true, if_false]
      have := Ev.range0 (L := fun k i => impl_MasksValid.l0 k s g (g.length : Int) i) (R := fun n => (g.drop n).all (fun v => decide (0 ≤ v ∧ v ≤ allM s ∧ v % 2 = 0))) (N := g.length) ?_ ?_ 0 (Nat.zero_le _)
      · have e : masksB g s = (g.drop 0).all (fun v => decide (0 ≤ v ∧ v ≤ allM s ∧ v % 2 = 0)) := by
          unfold masksB; rw [List.drop_zero, hs, hl]; simp
        rw [e]; simpa using this
      · refine Ev.step (fun k => impl_MasksValid.l0.eq_2 _ _ _ _ k) ?_
        simp only [Int.lt_irrefl, if_false, List.drop_length, List.all_nil]
        exact Ev.now _
      · intro n hn ih
        refine Ev.step (fun k => impl_MasksValid.l0.eq_2 _ _ _ _ k) ?_
        have h1 : (n : Int) < (g.length : Int) := by omega
        have h3 : (0 : Int) ≤ n := by omega
        rw [drop_cons hn]
        simp only [h1, h3, if_true, rd_lt hn, List.all_cons]
        by_cases ha : g[n] < 0
        · have : decide (0 ≤ g[n] ∧ g[n] ≤ allM s ∧ g[n] % 2 = 0) = false := decide_eq_false (by omega)
          simp only [ha, if_true, this, Bool.false_and]
          exact Ev.now _
        · have hb := hw g[n] (List.getElem_mem hn)
          have hi := andNot_iff hs (v := g[n]) (by omega) (by omega)
          simp only [ha, if_false, allValues_eq hs, Option.bind_some]
          by_cases hz : Go.bits .andNot .i64 g[n] (allM s) = 0
          · have : decide (0 ≤ g[n] ∧ g[n] ≤ allM s ∧ g[n] % 2 = 0) = true := decide_eq_true ⟨by omega, hi.1 hz⟩
            simp only [hz, if_true, this, Bool.true_and, w64n (by omega : n < 9000000000000000000)]
            exact ih
          · have : decide (0 ≤ g[n] ∧ g[n] ≤ allM s ∧ g[n] % 2 = 0) = false := decide_eq_false (fun h => hz (hi.2 h.2))
            simp only [hz, if_false, this, Bool.false_and]
            exact Ev.now _
    · have e : ((g.length : Int) != s * s) = true := by simp [hl]
      have e2 : masksB g s = false := by unfold masksB; simp [hl]
      simp only [e, if_true, e2]
      exact Ev.now _
  · have e2 : masksB g s = false := by unfold masksB; simp [hs]
    simp only [hs, if_false, e2, Bool.false_eq_true]
    refine Ev.step (fun k => impl_MasksValid.j0.eq_2 _ _ _ k) ?_
    simp only [if_true]
    exact Ev.now _

end Go.Proofs.Ytaglakdahmepeaa.Pure
namespace Go.Proofs.Ytaglakdahmepeaa.Pure
set_option linter.unusedSimpArgs false
set_option linter.unusedVariables false
open Go.RowKit Go.Proofs.YtaglakdahmepeaaW.PrintWords Go.Proofs.YtaglakdahmepeaaW.PrintMore Go.Proofs.Ytaglakdahmepeaa.P


/-- The values of a mask. -/
def mvals (m : Int) : List Int := if 0 ≤ m ∧ m ≤ 30 ∧ m % 2 = 0 then [1, 2, 3, 4].filter (fun v => decide ((m / 2 ^ v.toNat) % 2 = 1)) else []
theorem even_cases {m : Int} (h : 0 ≤ m ∧ m ≤ 30 ∧ m % 2 = 0) : m = 0 ∨ m = 2 ∨ m = 4 ∨ m = 6 ∨ m = 8 ∨ m = 10 ∨ m = 12 ∨ m = 14 ∨ m = 16 ∨ m = 18 ∨ m = 20 ∨ m = 22 ∨ m = 24 ∨ m = 26 ∨ m = 28 ∨ m = 30 := by omega
theorem specMaskValues_ev (m : Int) : Ev (fun k => spec_MaskValues.f k m) (mvals m) := by
  by_cases h : 0 ≤ m ∧ m ≤ 30 ∧ m % 2 = 0
  · rcases even_cases h with rfl | rfl | rfl | rfl | rfl | rfl | rfl | rfl | rfl | rfl | rfl | rfl | rfl | rfl | rfl | rfl <;>
      exact Ev.of (spec_MaskValues.mono _) (k := 12) (by decide +kernel)
  · have e : mvals m = [] := by unfold mvals; rw [if_neg h]
    rw [e]
    unfold spec_MaskValues.f
    refine Ev.step (fun k => spec_MaskValues.l0.eq_2 _ _ _ k) ?_
    have h4 : (1 : Int) ≤ 4 := by decide
    simp only [h4, if_true, l1In_eq, Option.bind_some]
    by_cases hr : 0 ≤ m ∧ m ≤ 30
    · have ht : ¬ Int.tmod m 2 = 0 := by rw [Int.tmod_eq_emod_of_nonneg hr.1]; omega
      have ht2 : (Int.tmod m 2 == 0) = false := by simpa using ht
      simp only [hr, ht2, and_self, decide_true, if_true]
      refine Ev.step (fun k => spec_MaskValues.j1.eq_2 _ _ _ _ k) ?_
      simp only [Bool.false_eq_true, if_false]
      exact Ev.now _
    · simp only [hr, decide_false, Bool.false_eq_true, if_false]
      refine Ev.step (fun k => spec_MaskValues.j1.eq_2 _ _ _ _ k) ?_
      simp only [Bool.false_eq_true, if_false]
      exact Ev.now _

end Go.Proofs.Ytaglakdahmepeaa.Pure
namespace Go.Proofs.Ytaglakdahmepeaa.Pure
set_option linter.unusedSimpArgs false
set_option linter.unusedVariables false
open Go.RowKit Go.Proofs.YtaglakdahmepeaaW.PrintWords Go.Proofs.YtaglakdahmepeaaW.PrintMore Go.Proofs.Ytaglakdahmepeaa.P

theorem rd_set {x : List Int} {c d : Nat} (h : c < x.length) (v : Int) : rd (x.set c v) (d : Int) = if d = c then v else rd x (d : Int) := by
  by_cases hd : d = c
  · subst hd
    rw [rd_lt (by rw [List.length_set]; exact h), if_pos rfl, List.getElem_set_self]
  · rw [if_neg hd]
    by_cases hx : d < x.length
    · rw [rd_lt (by rw [List.length_set]; exact hx), rd_lt hx, List.getElem_set_ne (fun e => hd e.symm)]
    · rw [rd_ge (by rw [List.length_set, Int.toNat_natCast]; omega), rd_ge (by rw [Int.toNat_natCast]; omega)]
/-- x is y, but f is applied to the elements at the places of p. -/
def Upd (f : Int → Int) (p : Nat → Prop) (y x : List Int) : Prop := x.length = y.length ∧ ∀ c : Nat, c < y.length → (p c → rd x (c : Int) = f (rd y (c : Int))) ∧ (¬ p c → rd x (c : Int) = rd y (c : Int))
theorem Upd.skip {f : Int → Int} {p q : Nat → Prop} {y x : List Int} (h : Upd f p y x) (e : ∀ c, c < y.length → (q c ↔ p c)) : Upd f q y x :=
  ⟨h.1, fun c hc => ⟨fun hq => (h.2 c hc).1 ((e c hc).1 hq), fun hq => (h.2 c hc).2 (fun hp => hq ((e c hc).2 hp))⟩⟩
theorem Upd.set {f : Int → Int} {p q : Nat → Prop} {y x : List Int} {d : Nat} (h : Upd f p y x) (hd : d < y.length) (hp : ¬ p d) (e : ∀ c, c < y.length → (q c ↔ (c = d ∨ p c))) {v : Int} (hv : v = f (rd x (d : Int))) : Upd f q y (x.set d v) := by
  have hdx : d < x.length := by have := h.1; omega
  refine ⟨by rw [List.length_set]; exact h.1, fun c hc => ⟨fun hq => ?_, fun hq => ?_⟩⟩
  · rw [rd_set hdx]
    by_cases hcd : c = d
    · rw [if_pos hcd, hv, hcd, (h.2 d hd).2 hp]
    · rw [if_neg hcd]
      exact (h.2 c hc).1 (((e c hc).1 hq).resolve_left hcd)
  · rw [rd_set hdx]
    have hcd : ¬ c = d := fun hcd => hq ((e c hc).2 (.inl hcd))
    rw [if_neg hcd]
    exact (h.2 c hc).2 (fun hp => hq ((e c hc).2 (.inr hp)))
theorem l6Copy_eq {m : List Int} (h : m.length ≤ 16) : spec_l6Copy.f m = some m := by
  unfold spec_l6Copy.f
  have : ([] : List Int).length + m.length < 17592186044416 := by simp only [List.length_nil]; omega
  simp only [Option.bind_some, this, if_true, List.nil_append]
theorem clone_eq {m : List Int} (h : m.length ≤ 16) : slices_Clone_int_int.f m = some m := by
  unfold slices_Clone_int_int.f
  rw [if_pos (by omega)]

end Go.Proofs.Ytaglakdahmepeaa.Pure
namespace Go.Proofs.Ytaglakdahmepeaa.Pure
set_option linter.unusedSimpArgs false
set_option linter.unusedVariables false
open Go.RowKit Go.Proofs.YtaglakdahmepeaaW.PrintWords Go.Proofs.YtaglakdahmepeaaW.PrintMore

theorem mask_ext_fin : ∀ a : Fin 32, ∀ b : Fin 32, (a.val % 2 = 0 ∧ b.val % 2 = 0 ∧ (∀ v : Fin 5, 1 ≤ v.val → has (a.val : Int) (v.val : Int) = has (b.val : Int) (v.val : Int))) → a = b := by decide +kernel
/-- Two masks with the same values are the same. -/
theorem mask_ext {a b : Int} (ha : 0 ≤ a ∧ a ≤ 30 ∧ a % 2 = 0) (hb : 0 ≤ b ∧ b ≤ 30 ∧ b % 2 = 0) (h : ∀ v : Int, 1 ≤ v → v ≤ 4 → has a v = has b v) : a = b := by
  have := mask_ext_fin ⟨a.toNat, by omega⟩ ⟨b.toNat, by omega⟩ ⟨by simp only; omega, by simp only; omega, fun v hv => by
    simp only [show ((a.toNat : Nat) : Int) = a by omega, show ((b.toNat : Nat) : Int) = b by omega]
    exact h _ (by omega) (by have := v.isLt; omega)⟩
  simp only [Fin.mk.injEq] at this
  omega

end Go.Proofs.Ytaglakdahmepeaa.Pure
namespace Go.Proofs.Ytaglakdahmepeaa.Pure
set_option linter.unusedSimpArgs false
set_option linter.unusedVariables false
open Go.RowKit Go.Proofs.YtaglakdahmepeaaW.PrintWords Go.Proofs.YtaglakdahmepeaaW.PrintMore

/-- Cell i of line l. -/
def lineCell (n l i : Nat) : Nat := if l < n then l * n + i else i * n + (l - n)
theorem lineC_map {n l : Nat} (hn : n = 2 ∨ n = 3 ∨ n = 4) (hl : l < 2 * n) : lineC (n : Int) (l : Int) = (List.range n).map (fun i => ((lineCell n l i : Nat) : Int)) := by
  unfold lineC
  have h : lineOkB (n : Int) (l : Int) = true := by
    unfold lineOkB sizeOkB
    rw [Bool.and_eq_true, decide_eq_true_iff, decide_eq_true_iff]
    omega
  rw [if_pos h, Int.toNat_natCast]
  refine List.map_congr_left (fun i hi => ?_)
  unfold lineCell
  by_cases hln : l < n
  · rw [if_pos (by omega : (l : Int) < (n : Int)), if_pos hln]
    simp
  · rw [if_neg (by omega : ¬ (l : Int) < (n : Int)), if_neg hln]
    have : ((i * n + (l - n) : Nat) : Int) = (i : Int) * (n : Int) + ((l - n : Nat) : Int) := by simp
    rw [this]; omega
theorem lineCell_lt {n l i : Nat} (hn : n = 2 ∨ n = 3 ∨ n = 4) (hl : l < 2 * n) (hi : i < n) : lineCell n l i < n * n := by
  unfold lineCell
  rcases hn with rfl | rfl | rfl <;> split <;> omega

end Go.Proofs.Ytaglakdahmepeaa.Pure
namespace Go.Proofs.Ytaglakdahmepeaa.Pure
set_option linter.unusedSimpArgs false
set_option linter.unusedVariables false
open Go.RowKit Go.Proofs.YtaglakdahmepeaaW.PrintWords Go.Proofs.YtaglakdahmepeaaW.PrintMore


theorem andNot_has_fin : ∀ a : Fin 31, ∀ b : Fin 31, a.val % 2 = 0 → (0 ≤ Go.bits .andNot .i64 (a.val : Int) (b.val : Int) ∧ Go.bits .andNot .i64 (a.val : Int) (b.val : Int) ≤ 30 ∧ Go.bits .andNot .i64 (a.val : Int) (b.val : Int) % 2 = 0) ∧ ∀ v : Fin 5, has (Go.bits .andNot .i64 (a.val : Int) (b.val : Int)) (v.val : Int) = (has (a.val : Int) (v.val : Int) && !has (b.val : Int) (v.val : Int)) := by decide +kernel
theorem andNot_has {a b : Int} (ha : 0 ≤ a ∧ a ≤ 30 ∧ a % 2 = 0) (hb : 0 ≤ b ∧ b ≤ 30) : (0 ≤ Go.bits .andNot .i64 a b ∧ Go.bits .andNot .i64 a b ≤ 30 ∧ Go.bits .andNot .i64 a b % 2 = 0) ∧ ∀ v : Int, 0 ≤ v → v ≤ 4 → has (Go.bits .andNot .i64 a b) v = (has a v && !has b v) := by
  have h := andNot_has_fin ⟨a.toNat, by omega⟩ ⟨b.toNat, by omega⟩ (by simp only; omega)
  simp only [show ((a.toNat : Nat) : Int) = a by omega, show ((b.toNat : Nat) : Int) = b by omega] at h
  refine ⟨h.1, fun v h0 h4 => ?_⟩
  have := h.2 ⟨v.toNat, by omega⟩
  simp only [show ((v.toNat : Nat) : Int) = v by omega] at this
  exact this
/-- Masks out of which D tells what has been cleared. -/
def Clr (m out : List Int) (D : Nat → Int → Prop) : Prop := out.length = m.length ∧ ∀ c : Nat, c < m.length → (0 ≤ rd out (c : Int) ∧ rd out (c : Int) ≤ 30 ∧ rd out (c : Int) % 2 = 0) ∧ ∀ v : Int, 1 ≤ v → v ≤ 4 → (has (rd out (c : Int)) v = true ↔ has (rd m (c : Int)) v = true ∧ ¬ D c v)
theorem Clr.congr {m out : List Int} {D D' : Nat → Int → Prop} (h : Clr m out D) (he : ∀ c v, D c v ↔ D' c v) : Clr m out D' := by
  have : D = D' := funext fun c => funext fun v => propext (he c v)
  rwa [← this]
theorem Clr.step {m out : List Int} {D : Nat → Int → Prop} (h : Clr m out D) {c0 : Nat} (hc : c0 < m.length) {x : Int} (hx : 0 ≤ x ∧ x ≤ 30) : Clr m (out.set c0 (Go.bits .andNot .i64 (rd out (c0 : Int)) x)) (fun c v => D c v ∨ (c = c0 ∧ has x v = true)) := by
  obtain ⟨h1, h2⟩ := h
  refine ⟨by rw [List.length_set]; exact h1, fun c hcl => ?_⟩
  obtain ⟨a1, a2⟩ := h2 c hcl
  by_cases e : c = c0
  · subst e
    have han := andNot_has a1 hx
    have er : rd (out.set c (Go.bits .andNot .i64 (rd out (c : Int)) x)) (c : Int) = Go.bits .andNot .i64 (rd out (c : Int)) x := by
      rw [rd_lt (by rw [List.length_set]; omega)]; simp
    rw [er]
    refine ⟨han.1, fun v v1 v4 => ?_⟩
    rw [han.2 v (by omega) v4, Bool.and_eq_true, a2 v v1 v4]
    cases hh : has x v <;> simp [hh]
  · have er : rd (out.set c0 (Go.bits .andNot .i64 (rd out (c0 : Int)) x)) (c : Int) = rd out (c : Int) := by
      rw [rd_nat, List.getD_eq_getElem?_getD, List.getElem?_set_ne (fun q => e q.symm), ← List.getD_eq_getElem?_getD, ← rd_nat]
    rw [er]
    refine ⟨a1, fun v v1 v4 => ?_⟩
    rw [a2 v v1 v4]
    simp [e]
theorem Clr.uniq {m a b : List Int} {D : Nat → Int → Prop} (h : Clr m a D) (k : Clr m b D) : a = b := by
  apply List.ext_getElem (by rw [h.1, k.1])
  intro c h1 h2
  have hc : c < m.length := by rw [← h.1]; exact h1
  obtain ⟨a1, a2⟩ := h.2 c hc
  obtain ⟨b1, b2⟩ := k.2 c hc
  have := mask_ext a1 b1 (fun v v1 v4 => by
    have := (a2 v v1 v4).trans (b2 v v1 v4).symm
    cases ha : has (rd a (c : Int)) v <;> cases hb : has (rd b (c : Int)) v <;> simp_all)
  rwa [rd_lt h1, rd_lt h2] at this
/-- A loop that counts up, whose answer is told by what holds of it. -/
theorem Ev.loopE {σ α : Type} {L : Nat → σ → Int → Option α} {N : Nat} (P : σ → Nat → Prop) (Q : α → Prop) (hend : ∀ s, P s N → ∃ r, Q r ∧ Ev (fun k => L k s (N : Int)) r) (hstep : ∀ s n, n < N → P s n → (∀ s', P s' (n + 1) → ∃ r, Q r ∧ Ev (fun k => L k s' ((n + 1 : Nat) : Int)) r) → ∃ r, Q r ∧ Ev (fun k => L k s (n : Int)) r) : ∀ d s n, n + d = N → P s n → ∃ r, Q r ∧ Ev (fun k => L k s (n : Int)) r
  | 0, s, n, h, hp => by obtain rfl : n = N := by omega
                         exact hend s hp
  | d + 1, s, n, h, hp => hstep s n (by omega) hp (fun s' hp' => Ev.loopE P Q hend hstep d s' (n + 1) (by omega) hp')
def pairB (m : List Int) (n l i j : Nat) : Prop := rd m (lineCell n l i : Nat) = rd m (lineCell n l j : Nat) ∧ ((mvals (rd m (lineCell n l j : Nat))).length : Int) = 2
/-- What a pair clears at place k of its line. -/
def clears (m : List Int) (n l i j k : Nat) (c : Nat) (v : Int) : Prop := pairB m n l i j ∧ k ≠ i ∧ k ≠ j ∧ c = lineCell n l k ∧ has (rd m (lineCell n l j : Nat)) v = true
/-- All that is cleared by the pairs of the lines before l. -/
def clearL (m : List Int) (n l : Nat) (c : Nat) (v : Int) : Prop := ∃ l', l' < l ∧ ∃ i j k, i < n ∧ j < i ∧ k < n ∧ clears m n l' i j k c v
def clearI (m : List Int) (n l i : Nat) (c : Nat) (v : Int) : Prop := clearL m n l c v ∨ ∃ i' j k, i' < i ∧ i' < n ∧ j < i' ∧ k < n ∧ clears m n l i' j k c v
def clearJ (m : List Int) (n l i j : Nat) (c : Nat) (v : Int) : Prop := clearI m n l i c v ∨ ∃ j' k, j' < j ∧ k < n ∧ clears m n l i j' k c v
def clearK (m : List Int) (n l i j k : Nat) (c : Nat) (v : Int) : Prop := clearJ m n l i j c v ∨ ∃ k', k' < k ∧ clears m n l i j k' c v
theorem clearK_zero {m : List Int} {n l i j : Nat} : ∀ c v, clearJ m n l i j c v ↔ clearK m n l i j 0 c v := by
  intro c v; unfold clearK; constructor
  · exact .inl
  · rintro (h | ⟨k, h, _⟩)
    · exact h
    · omega
theorem clearK_succ {m : List Int} {n l i j k : Nat} : ∀ c v, (clearK m n l i j k c v ∨ clears m n l i j k c v) ↔ clearK m n l i j (k + 1) c v := by
  intro c v; unfold clearK; constructor
  · rintro ((h | ⟨q, h, h2⟩) | h)
    · exact .inl h
    · exact .inr ⟨q, by omega, h2⟩
    · exact .inr ⟨k, by omega, h⟩
  · rintro (h | ⟨q, h, h2⟩)
    · exact .inl (.inl h)
    · by_cases e : q = k
      · subst e; exact .inr h2
      · exact .inl (.inr ⟨q, by omega, h2⟩)
theorem clearJ_succ {m : List Int} {n l i j : Nat} : ∀ c v, clearK m n l i j n c v ↔ clearJ m n l i (j + 1) c v := by
  intro c v; unfold clearK clearJ; constructor
  · rintro ((h | ⟨q, k, h, h2⟩) | ⟨k, h, h2⟩)
    · exact .inl h
    · exact .inr ⟨q, k, by omega, h2⟩
    · exact .inr ⟨j, k, by omega, h, h2⟩
  · rintro (h | ⟨q, k, h, hk, h2⟩)
    · exact .inl (.inl h)
    · by_cases e : q = j
      · subst e; exact .inr ⟨k, hk, h2⟩
      · exact .inl (.inr ⟨q, k, by omega, hk, h2⟩)
theorem clearJ_skip {m : List Int} {n l i j : Nat} (hp : ¬ pairB m n l i j) : ∀ c v, clearJ m n l i j c v ↔ clearJ m n l i (j + 1) c v := by
  intro c v
  rw [← clearJ_succ]
  unfold clearK
  constructor
  · exact .inl
  · rintro (h | ⟨k, _, h⟩)
    · exact h
    · exact absurd h.1 hp
theorem clearJ_zero {m : List Int} {n l i : Nat} : ∀ c v, clearI m n l i c v ↔ clearJ m n l i 0 c v := by
  intro c v; unfold clearJ; constructor
  · exact .inl
  · rintro (h | ⟨k, _, h, _⟩)
    · exact h
    · omega
theorem clearI_succ {m : List Int} {n l i : Nat} (hi : i < n) : ∀ c v, clearJ m n l i i c v ↔ clearI m n l (i + 1) c v := by
  intro c v; unfold clearJ clearI; constructor
  · rintro ((h | ⟨q, j, k, h1, h2, h3, h4, h5⟩) | ⟨j, k, h, hk, h2⟩)
    · exact .inl h
    · exact .inr ⟨q, j, k, by omega, h2, h3, h4, h5⟩
    · exact .inr ⟨i, j, k, by omega, hi, h, hk, h2⟩
  · rintro (h | ⟨q, j, k, h1, h2, h3, h4, h5⟩)
    · exact .inl (.inl h)
    · by_cases e : q = i
      · subst e; exact .inr ⟨j, k, h3, h4, h5⟩
      · exact .inl (.inr ⟨q, j, k, by omega, h2, h3, h4, h5⟩)
theorem clearI_zero {m : List Int} {n l : Nat} : ∀ c v, clearL m n l c v ↔ clearI m n l 0 c v := by
  intro c v; unfold clearI; constructor
  · exact .inl
  · rintro (h | ⟨q, j, k, h, _⟩)
    · exact h
    · omega
theorem clearL_succ {m : List Int} {n l : Nat} : ∀ c v, clearI m n l n c v ↔ clearL m n (l + 1) c v := by
  intro c v; unfold clearI clearL; constructor
  · rintro (⟨q, h, h2⟩ | ⟨i, j, k, h1, h2, h3, h4, h5⟩)
    · exact ⟨q, by omega, h2⟩
    · exact ⟨l, by omega, i, j, k, h2, h3, h4, h5⟩
  · rintro ⟨q, h, i, j, k, h2, h3, h4, h5⟩
    by_cases e : q = l
    · subst e; exact .inr ⟨i, j, k, h2, h2, h3, h4, h5⟩
    · exact .inl ⟨q, by omega, i, j, k, h2, h3, h4, h5⟩
theorem clr_start {m : List Int} {n : Nat} {s : Int} (hm : masksB m s = true) : Clr m m (clearL m n 0) := by
  refine ⟨rfl, fun c hc => ?_⟩
  have h := masksB_mem hm (rd m (c : Int)) (by rw [rd_lt hc]; exact List.getElem_mem hc)
  have h30 : allM s ≤ 30 := by rcases sizeOkB_iff.1 (masksB_size hm) with rfl | rfl | rfl <;> decide
  refine ⟨⟨h.1, by omega, h.2.2⟩, fun v _ _ => ?_⟩
  constructor
  · intro hh; exact ⟨hh, fun ⟨l, hl, _⟩ => by omega⟩
  · exact fun hh => hh.1
theorem rd_lineC {n l i : Nat} (hn : n = 2 ∨ n = 3 ∨ n = 4) (hl : l < 2 * n) (hi : i < n) : rd (lineC (n : Int) (l : Int)) (i : Int) = ((lineCell n l i : Nat) : Int) := by
  rw [lineC_map hn hl, rd_lt (by simpa using hi)]
  simp
theorem lineC_lenN {n l : Nat} (hn : n = 2 ∨ n = 3 ∨ n = 4) (hl : l < 2 * n) : (lineC (n : Int) (l : Int)).length = n := by
  rw [lineC_map hn hl, List.length_map, List.length_range]
theorem lineCell_inj {n l i j : Nat} (hn : n = 2 ∨ n = 3 ∨ n = 4) (h : lineCell n l i = lineCell n l j) : i = j := by
  unfold lineCell at h
  rcases hn with rfl | rfl | rfl <;> split at h <;> omega
/-- A store of the loop over a line's cells, or none. -/
theorem Clr.at_ {m x : List Int} {n l i j k : Nat} (h : Clr m x (clearK m n l i j k)) (hp : pairB m n l i j) (h1 : k ≠ i) (h2 : k ≠ j) (hc : lineCell n l k < m.length) (hx : 0 ≤ rd m (lineCell n l j : Nat) ∧ rd m (lineCell n l j : Nat) ≤ 30) : Clr m (x.set (lineCell n l k) (Go.bits .andNot .i64 (rd x (lineCell n l k : Nat)) (rd m (lineCell n l j : Nat)))) (clearK m n l i j (k + 1)) := by
  refine (h.step hc hx).congr (fun c v => ?_)
  rw [← clearK_succ]
  constructor
  · rintro (h | ⟨rfl, h⟩)
    · exact .inl h
    · exact .inr ⟨hp, h1, h2, rfl, h⟩
  · rintro (h | h)
    · exact .inl h
    · exact .inr ⟨h.2.2.2.1, h.2.2.2.2⟩
theorem Clr.skip {m x : List Int} {n l i j k : Nat} (h : Clr m x (clearK m n l i j k)) (hk : k = i ∨ k = j) : Clr m x (clearK m n l i j (k + 1)) := by
  refine h.congr (fun c v => ?_)
  rw [← clearK_succ]
  constructor
  · exact .inl
  · rintro (h | h)
    · exact h
    · rcases hk with e | e
      · exact absurd e h.2.1
      · exact absurd e h.2.2.1
theorem mask_at {m : List Int} {n l i : Nat} (hn : n = 2 ∨ n = 3 ∨ n = 4) (hm : masksB m (n : Int) = true) (hl : l < 2 * n) (hi : i < n) : lineCell n l i < m.length ∧ 0 ≤ rd m (lineCell n l i : Nat) ∧ rd m (lineCell n l i : Nat) ≤ 30 ∧ rd m (lineCell n l i : Nat) % 2 = 0 := by
  have h1 := lineCell_lt hn hl hi
  have h2 := masksB_len hm
  have h3 : ((n * n : Nat) : Int) = (n : Int) * (n : Int) := by simp
  have hlt : lineCell n l i < m.length := by omega
  have h := masksB_mem hm (rd m (lineCell n l i : Nat)) (by rw [rd_lt hlt]; exact List.getElem_mem hlt)
  have h30 : allM (n : Int) ≤ 30 := by rcases hn with rfl | rfl | rfl <;> decide
  exact ⟨hlt, h.1, by omega, h.2.2⟩

end Go.Proofs.Ytaglakdahmepeaa.Pure
namespace Go.Proofs.Ytaglakdahmepeaa.Pure
set_option linter.unusedSimpArgs false
set_option linter.unusedVariables false
open Go.RowKit Go.Proofs.YtaglakdahmepeaaW.PrintWords Go.Proofs.YtaglakdahmepeaaW.PrintMore Go.Proofs.Ytaglakdahmepeaa.P


theorem specLineCells_ev (s l : Int) : Ev (fun k => spec_LineCells.f k s l) (lineC s l) := by
  by_cases h : lineOkB s l = true
  · rcases lineOkB_cases h with ⟨rfl, hc⟩ | ⟨rfl, hc⟩ | ⟨rfl, hc⟩
    · rcases hc with rfl | rfl | rfl | rfl <;> exact Ev.of (spec_LineCells.mono _ _) (k := 20) (by decide +kernel)
    · rcases hc with rfl | rfl | rfl | rfl | rfl | rfl <;> exact Ev.of (spec_LineCells.mono _ _) (k := 20) (by decide +kernel)
    · rcases hc with rfl | rfl | rfl | rfl | rfl | rfl | rfl | rfl <;> exact Ev.of (spec_LineCells.mono _ _) (k := 20) (by decide +kernel)
  · have e : lineC s l = [] := by unfold lineC; rw [if_neg h]
    rw [e]
    unfold spec_LineCells.f
    have hj : Ev (fun k => spec_LineCells.j1 k s l [] 0 false) ([] : List Int) := by
      refine Ev.step (fun k => spec_LineCells.j1.eq_2 _ _ _ _ _ k) ?_
      simp only [Bool.false_eq_true, if_false]
      exact Ev.now _
    refine Ev.step (fun k => spec_LineCells.l0.eq_2 _ _ _ _ k) ?_
    by_cases h0 : 0 < s
    · simp only [h0, if_true, l1In_eq, Option.bind_some]
      by_cases hs : 2 ≤ s ∧ s ≤ 4
      · have hw : wrap64 (wrap64 (2 * s) - 1) = 2 * s - 1 := by rw [w64 (x := 2 * s) (by omega) (by omega), w64 (by omega) (by omega)]
        have hn : ¬ (0 ≤ l ∧ l ≤ 2 * s - 1) := by
          intro hl; apply h; unfold lineOkB sizeOkB; simp only [Bool.and_eq_true, decide_eq_true_eq]; exact ⟨hs, hl.1, by omega⟩
        simp only [decide_eq_true hs, if_true, hw, decide_eq_false hn]
        exact hj
      · simp only [decide_eq_false hs, Bool.false_eq_true, if_false]
        exact hj
    · simp only [h0, if_false]
      exact hj
theorem implLineCells_ev (s l : Int) : Ev (fun k => impl_LineCells.f k s l) (lineC s l) := by
  by_cases h : lineOkB s l = true
  · rcases lineOkB_cases h with ⟨rfl, hc⟩ | ⟨rfl, hc⟩ | ⟨rfl, hc⟩
    · rcases hc with rfl | rfl | rfl | rfl <;> exact Ev.of (impl_LineCells.mono _ _) (k := 20) (by decide +kernel)
    · rcases hc with rfl | rfl | rfl | rfl | rfl | rfl <;> exact Ev.of (impl_LineCells.mono _ _) (k := 20) (by decide +kernel)
    · rcases hc with rfl | rfl | rfl | rfl | rfl | rfl | rfl | rfl <;> exact Ev.of (impl_LineCells.mono _ _) (k := 20) (by decide +kernel)
  · have e : lineC s l = [] := by unfold lineC; rw [if_neg h]
    rw [e]
    unfold impl_LineCells.f
    simp only [sizeOk_eq, Option.bind_some]
    have hj : Ev (fun k => impl_LineCells.j0 k s l true) ([] : List Int) := by
      refine Ev.step (fun k => impl_LineCells.j0.eq_2 _ _ _ k) ?_
      simp only [if_true]
      exact Ev.now _
    by_cases hs : sizeOkB s = true
    · simp only [hs, if_true]
      by_cases h0 : l < 0
      · simp only [h0, if_true]; exact hj
      · have hs2 : 2 ≤ s ∧ s ≤ 4 := by simpa [sizeOkB] using hs
        have hw : wrap64 (2 * s) = 2 * s := w64 (by omega) (by omega)
        have hl : l ≥ 2 * s := by
          apply Decidable.byContradiction
          intro hl; apply h; unfold lineOkB; rw [hs]; simp only [Bool.true_and, decide_eq_true_eq]; omega
        simp only [h0, if_false, hw, decide_eq_true hl]; exact hj
    · simp only [hs, if_false, Bool.false_eq_true]; exact hj

end Go.Proofs.Ytaglakdahmepeaa.Pure
namespace Go.Proofs.Ytaglakdahmepeaa.Pure
set_option linter.unusedSimpArgs false
set_option linter.unusedVariables false
open Go.RowKit Go.Proofs.YtaglakdahmepeaaW.PrintWords Go.Proofs.YtaglakdahmepeaaW.PrintMore


def Filled0 (r : List Int) (x : List Int) (n : Nat) : Prop := x.length = r.length ∧ x.take n = r.take n
theorem Filled0.set {r x : List Int} {n : Nat} (h : Filled0 r x n) (hn : n < r.length) {v : Int} (hv : v = r[n]) : Filled0 r (x.set n v) (n + 1) := by
  refine ⟨by rw [List.length_set]; exact h.1, ?_⟩
  rw [take_set_succ (by have := h.1; omega), h.2, List.take_succ_eq_append_getElem hn, hv]

end Go.Proofs.Ytaglakdahmepeaa.Pure
namespace Go.Proofs.Ytaglakdahmepeaa.Pure
set_option linter.unusedSimpArgs false
set_option linter.unusedVariables false
open Go.RowKit Go.Proofs.YtaglakdahmepeaaW.PrintWords Go.Proofs.YtaglakdahmepeaaW.PrintMore Go.Proofs.Ytaglakdahmepeaa.P

theorem onesCount_eq {m : Int} (h : 0 ≤ m ∧ m ≤ 30 ∧ m % 2 = 0) : bits_OnesCount.f (IntKind.u64.wrap m) = some ((mvals m).length : Int) := by
  rcases even_cases h with rfl | rfl | rfl | rfl | rfl | rfl | rfl | rfl | rfl | rfl | rfl | rfl | rfl | rfl | rfl | rfl <;> decide +kernel

end Go.Proofs.Ytaglakdahmepeaa.Pure
namespace Go.Proofs.Ytaglakdahmepeaa.Pure
set_option linter.unusedSimpArgs false
set_option linter.unusedVariables false
open Go.RowKit Go.Proofs.YtaglakdahmepeaaW.PrintWords Go.Proofs.YtaglakdahmepeaaW.PrintMore Go.Proofs.Ytaglakdahmepeaa.P

theorem rd_drop (xs : List Int) (d t : Nat) : rd (xs.drop d) (t : Int) = rd xs ((d + t : Nat) : Int) := by
  rw [rd_nat, rd_nat]
  simp [List.getD_eq_getElem?_getD, List.getElem?_drop]

end Go.Proofs.Ytaglakdahmepeaa.Pure
namespace Go.Proofs.Ytaglakdahmepeaa.Pure
set_option linter.unusedSimpArgs false
set_option linter.unusedVariables false
open Go.RowKit Go.Proofs.YtaglakdahmepeaaW.PrintWords Go.Proofs.YtaglakdahmepeaaW.PrintMore Go.Proofs.Ytaglakdahmepeaa.P


/-- All that is cleared so far, as impl goes: the pair of places i and i + 1 + t. -/
def jclearI (m : List Int) (n l i : Nat) (c : Nat) (v : Int) : Prop := clearL m n l c v ∨ ∃ i' d k, i' < i ∧ i' + 1 + d < n ∧ k < n ∧ clears m n l (i' + 1 + d) i' k c v
def jclearJ (m : List Int) (n l i t : Nat) (c : Nat) (v : Int) : Prop := jclearI m n l i c v ∨ ∃ d k, d < t ∧ i + 1 + d < n ∧ k < n ∧ clears m n l (i + 1 + d) i k c v
def jclearK (m : List Int) (n l i t k : Nat) (c : Nat) (v : Int) : Prop := jclearJ m n l i t c v ∨ ∃ k', k' < k ∧ clears m n l (i + 1 + t) i k' c v
theorem jclearK_zero {m : List Int} {n l i t : Nat} : ∀ c v, jclearJ m n l i t c v ↔ jclearK m n l i t 0 c v := by
  intro c v; unfold jclearK; constructor
  · exact .inl
  · rintro (h | ⟨k, h, _⟩)
    · exact h
    · omega
theorem jclearK_succ {m : List Int} {n l i t k : Nat} : ∀ c v, (jclearK m n l i t k c v ∨ clears m n l (i + 1 + t) i k c v) ↔ jclearK m n l i t (k + 1) c v := by
  intro c v; unfold jclearK; constructor
  · rintro ((h | ⟨q, h, h2⟩) | h)
    · exact .inl h
    · exact .inr ⟨q, by omega, h2⟩
    · exact .inr ⟨k, by omega, h⟩
  · rintro (h | ⟨q, h, h2⟩)
    · exact .inl (.inl h)
    · by_cases e : q = k
      · subst e; exact .inr h2
      · exact .inl (.inr ⟨q, by omega, h2⟩)
theorem jclearJ_succ {m : List Int} {n l i t : Nat} (ht : i + 1 + t < n) : ∀ c v, jclearK m n l i t n c v ↔ jclearJ m n l i (t + 1) c v := by
  intro c v; unfold jclearK jclearJ; constructor
  · rintro ((h | ⟨q, k, h, h2⟩) | ⟨k, h, h2⟩)
    · exact .inl h
    · exact .inr ⟨q, k, by omega, h2⟩
    · exact .inr ⟨t, k, by omega, ht, h, h2⟩
  · rintro (h | ⟨q, k, h, hq, hk, h2⟩)
    · exact .inl (.inl h)
    · by_cases e : q = t
      · subst e; exact .inr ⟨k, hk, h2⟩
      · exact .inl (.inr ⟨q, k, by omega, hq, hk, h2⟩)
theorem jclearJ_skip {m : List Int} {n l i t : Nat} (ht : i + 1 + t < n) (hp : ¬ pairB m n l (i + 1 + t) i) : ∀ c v, jclearJ m n l i t c v ↔ jclearJ m n l i (t + 1) c v := by
  intro c v
  rw [← jclearJ_succ ht]
  unfold jclearK
  constructor
  · exact .inl
  · rintro (h | ⟨k, _, h⟩)
    · exact h
    · exact absurd h.1 hp
theorem jclearJ_zero {m : List Int} {n l i : Nat} : ∀ c v, jclearI m n l i c v ↔ jclearJ m n l i 0 c v := by
  intro c v; unfold jclearJ; constructor
  · exact .inl
  · rintro (h | ⟨k, _, h, _⟩)
    · exact h
    · omega
theorem jclearI_succ {m : List Int} {n l i : Nat} : ∀ c v, jclearJ m n l i (n - (i + 1)) c v ↔ jclearI m n l (i + 1) c v := by
  intro c v; unfold jclearJ jclearI; constructor
  · rintro ((h | ⟨q, d, k, h1, h2, h3, h4⟩) | ⟨d, k, _, h, hk, h2⟩)
    · exact .inl h
    · exact .inr ⟨q, d, k, by omega, h2, h3, h4⟩
    · exact .inr ⟨i, d, k, by omega, h, hk, h2⟩
  · rintro (h | ⟨q, d, k, h1, h2, h3, h4⟩)
    · exact .inl (.inl h)
    · by_cases e : q = i
      · subst e; exact .inr ⟨d, k, by omega, h2, h3, h4⟩
      · exact .inl (.inr ⟨q, d, k, by omega, h2, h3, h4⟩)
theorem jclearI_zero {m : List Int} {n l : Nat} : ∀ c v, clearL m n l c v ↔ jclearI m n l 0 c v := by
  intro c v; unfold jclearI; constructor
  · exact .inl
  · rintro (h | ⟨q, d, k, h, _⟩)
    · exact h
    · omega
theorem jclearL_succ {m : List Int} {n l : Nat} : ∀ c v, jclearI m n l n c v ↔ clearL m n (l + 1) c v := by
  intro c v
  rw [← clearL_succ, show clearI m n l n c v ↔ _ from Iff.rfl]
  unfold jclearI clearI; constructor
  · rintro (h | ⟨i, d, k, h1, h2, h3, h4⟩)
    · exact .inl h
    · exact .inr ⟨i + 1 + d, i, k, h2, h2, by omega, h3, h4⟩
  · rintro (h | ⟨i, j, k, h1, h2, h3, h4, h5⟩)
    · exact .inl h
    · exact .inr ⟨j, i - (j + 1), k, by omega, by omega, h4, by rw [show j + 1 + (i - (j + 1)) = i by omega]; exact h5⟩
theorem Clr.jat {m x : List Int} {n l i t k : Nat} (h : Clr m x (jclearK m n l i t k)) (hp : pairB m n l (i + 1 + t) i) (h1 : k ≠ i) (h2 : k ≠ i + 1 + t) (hc : lineCell n l k < m.length) (hx : 0 ≤ rd m (lineCell n l i : Nat) ∧ rd m (lineCell n l i : Nat) ≤ 30) : Clr m (x.set (lineCell n l k) (Go.bits .andNot .i64 (rd x (lineCell n l k : Nat)) (rd m (lineCell n l i : Nat)))) (jclearK m n l i t (k + 1)) := by
  refine (h.step hc hx).congr (fun c v => ?_)
  rw [← jclearK_succ]
  constructor
  · rintro (h | ⟨rfl, h⟩)
    · exact .inl h
    · exact .inr ⟨hp, h2, h1, rfl, h⟩
  · rintro (h | h)
    · exact .inl h
    · exact .inr ⟨h.2.2.2.1, h.2.2.2.2⟩
theorem Clr.jskip {m x : List Int} {n l i t k : Nat} (h : Clr m x (jclearK m n l i t k)) (hk : k = i ∨ k = i + 1 + t) : Clr m x (jclearK m n l i t (k + 1)) := by
  refine h.congr (fun c v => ?_)
  rw [← jclearK_succ]
  constructor
  · exact .inl
  · rintro (h | h)
    · exact h
    · rcases hk with e | e
      · exact absurd e h.2.2.1
      · exact absurd e h.2.1
theorem implNPl3_ev {m : List Int} {n l i t : Nat} (hn : n = 2 ∨ n = 3 ∨ n = 4) (hm : masksB m (n : Int) = true) (hl : l < 2 * n) (hj : i + 1 + t < n) (hp : pairB m n l (i + 1 + t) i) (Q : List Int → Prop) (T D M : Int)
    (next : ∀ x, Clr m x (jclearJ m n l i (t + 1)) → ∃ r, Q r ∧ Ev (fun k => impl_NarrowPairs.l2 k m (n : Int) x (lineC (n : Int) (l : Int)) (lineCell n l i : Nat) T (l : Int) (lineC (n : Int) (l : Int)) D (i : Int) ((lineC (n : Int) (l : Int)).drop (i + 1)) M ((t + 1 : Nat) : Int)) r)
    (x : List Int) (hx : Clr m x (jclearJ m n l i t)) : ∃ r, Q r ∧ Ev (fun k => impl_NarrowPairs.l3 k m (n : Int) x (lineC (n : Int) (l : Int)) (lineCell n l i : Nat) (lineCell n l (i + 1 + t) : Nat) T (l : Int) (lineC (n : Int) (l : Int)) D (i : Int) ((lineC (n : Int) (l : Int)).drop (i + 1)) M (t : Int) (lineC (n : Int) (l : Int)) ((lineC (n : Int) (l : Int)).length : Int) 0) r := by
  have hi : i < n := by omega
  have hcl := lineC_lenN hn hl
  rw [hcl]
  refine Ev.loopE (L := fun k (x : List Int) q => impl_NarrowPairs.l3 k m (n : Int) x (lineC (n : Int) (l : Int)) (lineCell n l i : Nat) (lineCell n l (i + 1 + t) : Nat) T (l : Int) (lineC (n : Int) (l : Int)) D (i : Int) ((lineC (n : Int) (l : Int)).drop (i + 1)) M (t : Int) (lineC (n : Int) (l : Int)) (n : Int) q) (N := n) (fun x q => Clr m x (jclearK m n l i t q)) Q ?_ ?_ n x 0 (by omega) (hx.congr jclearK_zero)
  · intro x hx
    obtain ⟨r, hr, he⟩ := next x (hx.congr (jclearJ_succ hj))
    refine ⟨r, hr, Ev.step (fun k => impl_NarrowPairs.l3.eq_2 _ _ _ _ _ _ _ _ _ _ _ _ _ _ _ _ _ k) ?_⟩
    simp only [Int.lt_irrefl, if_false, w64n (by omega : t < 9000000000000000000)]
    exact he
  · intro x q hq hx ih
    have h1 : (q : Int) < (n : Int) := by omega
    have h0 : (0 : Int) ≤ (q : Int) := by omega
    have hrc := rd_lineC hn hl hq
    obtain ⟨c1, _⟩ := mask_at hn hm hl hq
    obtain ⟨i0, i1, i2, _⟩ := mask_at hn hm hl hi
    have hxl := hx.1
    have g1 : (q : Int) < ((lineC (n : Int) (l : Int)).length : Int) := by omega
    by_cases e1 : q = i
    · obtain ⟨r, hr, he⟩ := ih x (hx.jskip (.inl e1))
      refine ⟨r, hr, Ev.step (fun k => impl_NarrowPairs.l3.eq_2 _ _ _ _ _ _ _ _ _ _ _ _ _ _ _ _ _ k) ?_⟩
      have e1' : ((lineCell n l q : Nat) : Int) = ((lineCell n l i : Nat) : Int) := by rw [e1]
      simp only [h1, h0, g1, hrc, e1', if_true, w64n (by omega : q < 9000000000000000000)]
      exact he
    · have e1' : ¬ ((lineCell n l q : Nat) : Int) = ((lineCell n l i : Nat) : Int) := fun e => e1 (lineCell_inj hn (Int.ofNat.inj e))
      by_cases e2 : q = i + 1 + t
      · obtain ⟨r, hr, he⟩ := ih x (hx.jskip (.inr e2))
        refine ⟨r, hr, Ev.step (fun k => impl_NarrowPairs.l3.eq_2 _ _ _ _ _ _ _ _ _ _ _ _ _ _ _ _ _ k) ?_⟩
        have e2' : ((lineCell n l q : Nat) : Int) = ((lineCell n l (i + 1 + t) : Nat) : Int) := by rw [e2]
        rw [e2'] at e1'
        simp only [h1, h0, g1, hrc, e1', e2', if_true, if_false, w64n (by omega : q < 9000000000000000000)]
        exact he
      · have e2' : ¬ ((lineCell n l q : Nat) : Int) = ((lineCell n l (i + 1 + t) : Nat) : Int) := fun e => e2 (lineCell_inj hn (Int.ofNat.inj e))
        obtain ⟨r, hr, he⟩ := ih _ (hx.jat hp e1 e2 c1 ⟨i1, i2⟩)
        refine ⟨r, hr, Ev.step (fun k => impl_NarrowPairs.l3.eq_2 _ _ _ _ _ _ _ _ _ _ _ _ _ _ _ _ _ k) ?_⟩
        have g2 : (0 : Int) ≤ ((lineCell n l q : Nat) : Int) := by omega
        have g3 : ((lineCell n l q : Nat) : Int) < (x.length : Int) := by omega
        have g4 : (0 : Int) ≤ ((lineCell n l i : Nat) : Int) := by omega
        have g5 : ((lineCell n l i : Nat) : Int) < (m.length : Int) := by omega
        simp only [h1, h0, g1, hrc, e1', e2', g2, g3, g4, g5, if_true, if_false, Int.toNat_natCast, w64n (by omega : q < 9000000000000000000)]
        exact he
theorem implNPl2_ev {m : List Int} {n l i : Nat} (hn : n = 2 ∨ n = 3 ∨ n = 4) (hm : masksB m (n : Int) = true) (hl : l < 2 * n) (hi : i < n) (Q : List Int → Prop) (T D : Int)
    (next : ∀ x, Clr m x (jclearI m n l (i + 1)) → ∃ r, Q r ∧ Ev (fun k => impl_NarrowPairs.l1 k m (n : Int) x (lineC (n : Int) (l : Int)) T (l : Int) (lineC (n : Int) (l : Int)) D ((i + 1 : Nat) : Int)) r)
    (x : List Int) (hx : Clr m x (jclearI m n l i)) : ∃ r, Q r ∧ Ev (fun k => impl_NarrowPairs.l2 k m (n : Int) x (lineC (n : Int) (l : Int)) (lineCell n l i : Nat) T (l : Int) (lineC (n : Int) (l : Int)) D (i : Int) ((lineC (n : Int) (l : Int)).drop (i + 1)) (((lineC (n : Int) (l : Int)).drop (i + 1)).length : Int) 0) r := by
  have hcl := lineC_lenN hn hl
  have hdl : ((lineC (n : Int) (l : Int)).drop (i + 1)).length = n - (i + 1) := by rw [List.length_drop, hcl]
  obtain ⟨i0, i1, i2, i3⟩ := mask_at hn hm hl hi
  have g4 : (0 : Int) ≤ ((lineCell n l i : Nat) : Int) := by omega
  have g5 : ((lineCell n l i : Nat) : Int) < (m.length : Int) := by omega
  rw [hdl]
  refine Ev.loopE (L := fun k (x : List Int) q => impl_NarrowPairs.l2 k m (n : Int) x (lineC (n : Int) (l : Int)) (lineCell n l i : Nat) T (l : Int) (lineC (n : Int) (l : Int)) D (i : Int) ((lineC (n : Int) (l : Int)).drop (i + 1)) ((n - (i + 1) : Nat) : Int) q) (N := n - (i + 1)) (fun x q => Clr m x (jclearJ m n l i q)) Q ?_ ?_ (n - (i + 1)) x 0 (by omega) (hx.congr jclearJ_zero)
  · intro x hx
    obtain ⟨r, hr, he⟩ := next x (hx.congr jclearI_succ)
    refine ⟨r, hr, Ev.step (fun k => impl_NarrowPairs.l2.eq_2 _ _ _ _ _ _ _ _ _ _ _ _ _ k) ?_⟩
    simp only [Int.lt_irrefl, if_false, w64n (by omega : i < 9000000000000000000)]
    exact he
  · intro x t ht hx ih
    have htn : i + 1 + t < n := by omega
    have h1 : (t : Int) < ((n - (i + 1) : Nat) : Int) := by omega
    have h0 : (0 : Int) ≤ (t : Int) := by omega
    have h2 : (t : Int) < (((lineC (n : Int) (l : Int)).drop (i + 1)).length : Int) := by rw [hdl]; exact h1
    have hrd : rd ((lineC (n : Int) (l : Int)).drop (i + 1)) (t : Int) = ((lineCell n l (i + 1 + t) : Nat) : Int) := by rw [rd_drop, rd_lineC hn hl htn]
    obtain ⟨q0, _⟩ := mask_at hn hm hl htn
    have g6 : (0 : Int) ≤ ((lineCell n l (i + 1 + t) : Nat) : Int) := by omega
    have g7 : ((lineCell n l (i + 1 + t) : Nat) : Int) < (m.length : Int) := by omega
    have hskip : ¬ pairB m n l (i + 1 + t) i → ∃ r, Q r ∧ Ev (fun k => impl_NarrowPairs.j3 k m (n : Int) x (lineC (n : Int) (l : Int)) (lineCell n l i : Nat) (lineCell n l (i + 1 + t) : Nat) T (l : Int) (lineC (n : Int) (l : Int)) D (i : Int) ((lineC (n : Int) (l : Int)).drop (i + 1)) ((n - (i + 1) : Nat) : Int) (t : Int) true) r := by
      intro hp
      obtain ⟨r, hr, he⟩ := ih x (hx.congr (jclearJ_skip htn hp))
      refine ⟨r, hr, Ev.step (fun k => impl_NarrowPairs.j3.eq_2 _ _ _ _ _ _ _ _ _ _ _ _ _ _ _ k) ?_⟩
      simp only [if_true, w64n (by omega : t < 9000000000000000000)]
      exact he
    by_cases he : rd m (lineCell n l i : Nat) = rd m (lineCell n l (i + 1 + t) : Nat)
    · by_cases htw : ((mvals (rd m (lineCell n l i : Nat))).length : Int) = 2
      · obtain ⟨r, hr, hE⟩ := implNPl3_ev hn hm hl htn ⟨he.symm, htw⟩ Q T D ((n - (i + 1) : Nat) : Int) ih x hx
        refine ⟨r, hr, Ev.step (fun k => impl_NarrowPairs.l2.eq_2 _ _ _ _ _ _ _ _ _ _ _ _ _ k) ?_⟩
        simp only [h1, h0, h2, hrd, g4, g5, g6, g7, if_true]
        simp only [if_pos he, onesCount_eq ⟨i1, i2, i3⟩, Option.bind_some]
        have hb : (((mvals (rd m (lineCell n l i : Nat))).length : Int) != 2) = false := by rw [htw]; rfl
        rw [hb]
        refine Ev.step (fun k => impl_NarrowPairs.j3.eq_2 _ _ _ _ _ _ _ _ _ _ _ _ _ _ _ k) ?_
        simp only [Bool.false_eq_true, if_false]
        exact hE
      · obtain ⟨r, hr, hE⟩ := hskip (fun hp => htw hp.2)
        refine ⟨r, hr, Ev.step (fun k => impl_NarrowPairs.l2.eq_2 _ _ _ _ _ _ _ _ _ _ _ _ _ k) ?_⟩
        simp only [h1, h0, h2, hrd, g4, g5, g6, g7, if_true]
        simp only [if_pos he, onesCount_eq ⟨i1, i2, i3⟩, Option.bind_some]
        have hb : (((mvals (rd m (lineCell n l i : Nat))).length : Int) != 2) = true := by rw [bne_iff_ne]; exact htw
        rw [hb]
        exact hE
    · obtain ⟨r, hr, hE⟩ := hskip (fun hp => he hp.1.symm)
      refine ⟨r, hr, Ev.step (fun k => impl_NarrowPairs.l2.eq_2 _ _ _ _ _ _ _ _ _ _ _ _ _ k) ?_⟩
      simp only [h1, h0, h2, hrd, g4, g5, g6, g7, if_true]
      simp only [if_neg he]
      exact hE
theorem implNP_ev {m : List Int} {n : Nat} (hn : n = 2 ∨ n = 3 ∨ n = 4) (hm : masksB m (n : Int) = true) : ∃ r, Clr m r (clearL m n (2 * n)) ∧ Ev (fun k => impl_NarrowPairs.l0 k m (n : Int) m ((2 * n : Nat) : Int) 0) r := by
  refine Ev.loopE (L := fun k (x : List Int) q => impl_NarrowPairs.l0 k m (n : Int) x ((2 * n : Nat) : Int) q) (N := 2 * n) (fun x q => Clr m x (clearL m n q)) (fun r => Clr m r (clearL m n (2 * n))) ?_ ?_ (2 * n) m 0 (by omega) (clr_start hm)
  · intro x hx
    refine ⟨x, hx, Ev.step (fun k => impl_NarrowPairs.l0.eq_2 _ _ _ _ _ k) ?_⟩
    simp only [Int.lt_irrefl, if_false]
    exact Ev.now _
  · intro x l hl hx ih
    have h1 : (l : Int) < ((2 * n : Nat) : Int) := by omega
    have hw : wrap64 ((l : Int) + 1) = ((l + 1 : Nat) : Int) := w64n (by omega)
    have hcl := lineC_lenN hn hl
    have : ∃ r, Clr m r (clearL m n (2 * n)) ∧ Ev (fun k => impl_NarrowPairs.l1 k m (n : Int) x (lineC (n : Int) (l : Int)) ((2 * n : Nat) : Int) (l : Int) (lineC (n : Int) (l : Int)) ((lineC (n : Int) (l : Int)).length : Int) 0) r := by
      rw [hcl]
      refine Ev.loopE (L := fun k (x : List Int) q => impl_NarrowPairs.l1 k m (n : Int) x (lineC (n : Int) (l : Int)) ((2 * n : Nat) : Int) (l : Int) (lineC (n : Int) (l : Int)) (n : Int) q) (N := n) (fun x q => Clr m x (jclearI m n l q)) (fun r => Clr m r (clearL m n (2 * n))) ?_ ?_ n x 0 (by omega) (hx.congr jclearI_zero)
      · intro x hx
        obtain ⟨r, hr, he⟩ := ih x (hx.congr jclearL_succ)
        refine ⟨r, hr, Ev.step (fun k => impl_NarrowPairs.l1.eq_2 _ _ _ _ _ _ _ _ _ k) ?_⟩
        simp only [Int.lt_irrefl, if_false, hw]
        exact he
      · intro x i hi hx ih2
        obtain ⟨r, hr, he⟩ := implNPl2_ev hn hm hl hi _ ((2 * n : Nat) : Int) (n : Int) ih2 x hx
        refine ⟨r, hr, Ev.step (fun k => impl_NarrowPairs.l1.eq_2 _ _ _ _ _ _ _ _ _ k) ?_⟩
        have g1 : (i : Int) < (n : Int) := by omega
        have g0 : (0 : Int) ≤ (i : Int) := by omega
        have g2 : (i : Int) < ((lineC (n : Int) (l : Int)).length : Int) := by omega
        have g3 : (0 : Int) ≤ ((i + 1 : Nat) : Int) := by omega
        have g4 : ((i + 1 : Nat) : Int) ≤ ((lineC (n : Int) (l : Int)).length : Int) := by omega
        simp only [g1, g0, g2, w64n (by omega : i < 9000000000000000000), g3, g4, rd_lineC hn hl hi, Int.toNat_natCast, Option.bind_some, if_true]
        exact he
    obtain ⟨r, hr, he⟩ := this
    refine ⟨r, hr, Ev.step (fun k => impl_NarrowPairs.l0.eq_2 _ _ _ _ _ k) ?_⟩
    simp only [h1, if_true]
    refine Ev.bind (implLineCells_ev _ _) ?_
    exact he

end Go.Proofs.Ytaglakdahmepeaa.Pure
namespace Go.Proofs.Ytaglakdahmepeaa.Pure
set_option linter.unusedSimpArgs false
set_option linter.unusedVariables false
open Go.RowKit Go.Proofs.YtaglakdahmepeaaW.PrintWords Go.Proofs.YtaglakdahmepeaaW.PrintMore Go.Proofs.Ytaglakdahmepeaa.P


theorem specNPl3_ev {m : List Int} {n l i j : Nat} (hn : n = 2 ∨ n = 3 ∨ n = 4) (hm : masksB m (n : Int) = true) (hl : l < 2 * n) (hi : i < n) (hj : j < n) (hp : pairB m n l i j) (Q : List Int → Prop) (next : ∀ x, Clr m x (clearJ m n l i (j + 1)) → ∃ r, Q r ∧ Ev (fun k => spec_NarrowPairs.l2 k m (n : Int) x (l : Int) (lineC (n : Int) (l : Int)) (i : Int) ((j + 1 : Nat) : Int)) r) (x : List Int) (hx : Clr m x (clearJ m n l i j)) : ∃ r, Q r ∧ Ev (fun k => spec_NarrowPairs.l3 k m (n : Int) x (l : Int) (lineC (n : Int) (l : Int)) (i : Int) (j : Int) (rd m (lineCell n l j : Nat)) 0) r := by
  refine Ev.loopE (L := fun k (x : List Int) q => spec_NarrowPairs.l3 k m (n : Int) x (l : Int) (lineC (n : Int) (l : Int)) (i : Int) (j : Int) (rd m (lineCell n l j : Nat)) q) (N := n) (fun x q => Clr m x (clearK m n l i j q)) Q ?_ ?_ n x 0 (by omega) (hx.congr clearK_zero)
  · intro x hx
    obtain ⟨r, hr, he⟩ := next x (hx.congr clearJ_succ)
    refine ⟨r, hr, Ev.step (fun k => spec_NarrowPairs.l3.eq_2 _ _ _ _ _ _ _ _ _ k) ?_⟩
    simp only [Int.lt_irrefl, if_false, w64n (by omega : j < 9000000000000000000)]
    exact he
  · intro x q hq hx ih
    have h1 : (q : Int) < (n : Int) := by omega
    have h0 : (0 : Int) ≤ (q : Int) := by omega
    have hcl := lineC_lenN hn hl
    have hrc := rd_lineC hn hl hq
    obtain ⟨c1, _⟩ := mask_at hn hm hl hq
    obtain ⟨_, j1, j2, _⟩ := mask_at hn hm hl hj
    have hxl := hx.1
    by_cases e1 : q = i
    · obtain ⟨r, hr, he⟩ := ih x (hx.skip (.inl e1))
      refine ⟨r, hr, Ev.step (fun k => spec_NarrowPairs.l3.eq_2 _ _ _ _ _ _ _ _ _ k) ?_⟩
      have e1' : (q : Int) = (i : Int) := by omega
      simp only [if_pos h1, if_pos e1', w64n (by omega : q < 9000000000000000000)]
      exact he
    · have e1' : ¬ (q : Int) = (i : Int) := by omega
      by_cases e2 : q = j
      · obtain ⟨r, hr, he⟩ := ih x (hx.skip (.inr e2))
        refine ⟨r, hr, Ev.step (fun k => spec_NarrowPairs.l3.eq_2 _ _ _ _ _ _ _ _ _ k) ?_⟩
        have e2' : (q : Int) = (j : Int) := by omega
        simp only [if_pos h1, if_neg e1', if_pos e2', w64n (by omega : q < 9000000000000000000)]
        exact he
      · have e2' : ¬ (q : Int) = (j : Int) := by omega
        obtain ⟨r, hr, he⟩ := ih _ (hx.at_ hp e1 e2 c1 ⟨j1, j2⟩)
        refine ⟨r, hr, Ev.step (fun k => spec_NarrowPairs.l3.eq_2 _ _ _ _ _ _ _ _ _ k) ?_⟩
        have g1 : (q : Int) < ((lineC (n : Int) (l : Int)).length : Int) := by omega
        have g2 : (0 : Int) ≤ ((lineCell n l q : Nat) : Int) := by omega
        have g3 : ((lineCell n l q : Nat) : Int) < (x.length : Int) := by omega
        simp only [h1, e1', e2', h0, g1, hrc, g2, g3, if_true, if_false, Int.toNat_natCast, w64n (by omega : q < 9000000000000000000)]
        exact he
theorem specNPl2_ev {m : List Int} {n l i : Nat} (hn : n = 2 ∨ n = 3 ∨ n = 4) (hm : masksB m (n : Int) = true) (hl : l < 2 * n) (hi : i < n) (Q : List Int → Prop) (next : ∀ x, Clr m x (clearI m n l (i + 1)) → ∃ r, Q r ∧ Ev (fun k => spec_NarrowPairs.l1 k m (n : Int) x (l : Int) (lineC (n : Int) (l : Int)) ((i + 1 : Nat) : Int)) r) (x : List Int) (hx : Clr m x (clearI m n l i)) : ∃ r, Q r ∧ Ev (fun k => spec_NarrowPairs.l2 k m (n : Int) x (l : Int) (lineC (n : Int) (l : Int)) (i : Int) 0) r := by
  refine Ev.loopE (L := fun k (x : List Int) q => spec_NarrowPairs.l2 k m (n : Int) x (l : Int) (lineC (n : Int) (l : Int)) (i : Int) q) (N := i) (fun x q => Clr m x (clearJ m n l i q)) Q ?_ ?_ i x 0 (by omega) (hx.congr clearJ_zero)
  · intro x hx
    obtain ⟨r, hr, he⟩ := next x (hx.congr (clearI_succ hi))
    refine ⟨r, hr, Ev.step (fun k => spec_NarrowPairs.l2.eq_2 _ _ _ _ _ _ _ k) ?_⟩
    simp only [Int.lt_irrefl, if_false, w64n (by omega : i < 9000000000000000000)]
    exact he
  · intro x q hq hx ih
    have hqn : q < n := by omega
    have h1 : (q : Int) < (i : Int) := by omega
    have h0 : (0 : Int) ≤ (q : Int) := by omega
    have h2 : (0 : Int) ≤ (i : Int) := by omega
    have hcl := lineC_lenN hn hl
    have hri := rd_lineC hn hl hi
    have hrq := rd_lineC hn hl hqn
    obtain ⟨i1, _⟩ := mask_at hn hm hl hi
    obtain ⟨q1, _⟩ := mask_at hn hm hl hqn
    have g1 : (i : Int) < ((lineC (n : Int) (l : Int)).length : Int) := by omega
    have g2 : (q : Int) < ((lineC (n : Int) (l : Int)).length : Int) := by omega
    have g3 : (0 : Int) ≤ ((lineCell n l i : Nat) : Int) := by omega
    have g4 : ((lineCell n l i : Nat) : Int) < (m.length : Int) := by omega
    have g5 : (0 : Int) ≤ ((lineCell n l q : Nat) : Int) := by omega
    have g6 : ((lineCell n l q : Nat) : Int) < (m.length : Int) := by omega
    have hskip : ¬ pairB m n l i q → ∃ r, Q r ∧ Ev (fun k => spec_NarrowPairs.j3 k m (n : Int) x (l : Int) (lineC (n : Int) (l : Int)) (i : Int) (q : Int) (rd m (lineCell n l i : Nat)) true) r := by
      intro hp
      obtain ⟨r, hr, he⟩ := ih x (hx.congr (clearJ_skip hp))
      refine ⟨r, hr, Ev.step (fun k => spec_NarrowPairs.j3.eq_2 _ _ _ _ _ _ _ _ _ k) ?_⟩
      simp only [if_true, w64n (by omega : q < 9000000000000000000)]
      exact he
    by_cases he : rd m (lineCell n l i : Nat) = rd m (lineCell n l q : Nat)
    · by_cases ht : ((mvals (rd m (lineCell n l q : Nat))).length : Int) = 2
      · obtain ⟨r, hr, hE⟩ := specNPl3_ev hn hm hl hi hqn ⟨he, ht⟩ Q ih x hx
        refine ⟨r, hr, Ev.step (fun k => spec_NarrowPairs.l2.eq_2 _ _ _ _ _ _ _ k) ?_⟩
        simp only [h1, h2, g1, hri, g3, g4, h0, g2, hrq, g5, g6, he, if_true]
        refine Ev.bind (specMaskValues_ev _) ?_
        have hb : (((mvals (rd m (lineCell n l q : Nat))).length : Int) != 2) = false := by rw [ht]; rfl
        rw [hb]
        refine Ev.step (fun k => spec_NarrowPairs.j3.eq_2 _ _ _ _ _ _ _ _ _ k) ?_
        simp only [Bool.false_eq_true, if_false]
        exact hE
      · obtain ⟨r, hr, hE⟩ := hskip (fun hp => ht hp.2)
        refine ⟨r, hr, Ev.step (fun k => spec_NarrowPairs.l2.eq_2 _ _ _ _ _ _ _ k) ?_⟩
        rw [he] at hE
        simp only [h1, h2, g1, hri, g3, g4, h0, g2, hrq, g5, g6, he, if_true]
        refine Ev.bind (specMaskValues_ev _) ?_
        have hb : (((mvals (rd m (lineCell n l q : Nat))).length : Int) != 2) = true := by rw [bne_iff_ne]; exact ht
        rw [hb]
        exact hE
    · obtain ⟨r, hr, hE⟩ := hskip (fun hp => he hp.1)
      refine ⟨r, hr, Ev.step (fun k => spec_NarrowPairs.l2.eq_2 _ _ _ _ _ _ _ k) ?_⟩
      simp only [h1, h2, g1, hri, g3, g4, h0, g2, hrq, g5, g6, he, if_true, if_false]
      exact hE
theorem specNP_ev {m : List Int} {n : Nat} (hn : n = 2 ∨ n = 3 ∨ n = 4) (hm : masksB m (n : Int) = true) : ∃ r, Clr m r (clearL m n (2 * n)) ∧ Ev (fun k => spec_NarrowPairs.l0 k m (n : Int) m 0) r := by
  refine Ev.loopE (L := fun k (x : List Int) q => spec_NarrowPairs.l0 k m (n : Int) x q) (N := 2 * n) (fun x q => Clr m x (clearL m n q)) (fun r => Clr m r (clearL m n (2 * n))) ?_ ?_ (2 * n) m 0 (by omega) (clr_start hm)
  · intro x hx
    refine ⟨x, hx, Ev.step (fun k => spec_NarrowPairs.l0.eq_2 _ _ _ _ k) ?_⟩
    have h1 : ¬ ((2 * n : Nat) : Int) < wrap64 (2 * (n : Int)) := by unfold wrap64; omega
    simp only [h1, if_false]
    exact Ev.now _
  · intro x l hl hx ih
    have h1 : (l : Int) < wrap64 (2 * (n : Int)) := by unfold wrap64; omega
    have hw : wrap64 ((l : Int) + 1) = ((l + 1 : Nat) : Int) := w64n (by omega)
    have : ∃ r, Clr m r (clearL m n (2 * n)) ∧ Ev (fun k => spec_NarrowPairs.l1 k m (n : Int) x (l : Int) (lineC (n : Int) (l : Int)) 0) r := by
      refine Ev.loopE (L := fun k (x : List Int) q => spec_NarrowPairs.l1 k m (n : Int) x (l : Int) (lineC (n : Int) (l : Int)) q) (N := n) (fun x q => Clr m x (clearI m n l q)) (fun r => Clr m r (clearL m n (2 * n))) ?_ ?_ n x 0 (by omega) (hx.congr clearI_zero)
      · intro x hx
        obtain ⟨r, hr, he⟩ := ih x (hx.congr clearL_succ)
        refine ⟨r, hr, Ev.step (fun k => spec_NarrowPairs.l1.eq_2 _ _ _ _ _ _ k) ?_⟩
        simp only [Int.lt_irrefl, if_false, hw]
        exact he
      · intro x i hi hx ih2
        obtain ⟨r, hr, he⟩ := specNPl2_ev hn hm hl hi _ ih2 x hx
        refine ⟨r, hr, Ev.step (fun k => spec_NarrowPairs.l1.eq_2 _ _ _ _ _ _ k) ?_⟩
        have g1 : (i : Int) < (n : Int) := by omega
        simp only [g1, if_true]
        exact he
    obtain ⟨r, hr, he⟩ := this
    refine ⟨r, hr, Ev.step (fun k => spec_NarrowPairs.l0.eq_2 _ _ _ _ k) ?_⟩
    simp only [h1, if_true]
    refine Ev.bind (specLineCells_ev _ _) ?_
    exact he

end Go.Proofs.Ytaglakdahmepeaa.Pure
namespace Go.Proofs.Ytaglakdahmepeaa.Pure
set_option linter.unusedSimpArgs false
set_option linter.unusedVariables false
open Go.RowKit Go.Proofs.YtaglakdahmepeaaW.PrintWords Go.Proofs.YtaglakdahmepeaaW.PrintMore Go.Proofs.Ytaglakdahmepeaa.P


/-- What is left of masks is masks. -/
theorem Clr.masks {m r : List Int} {D : Nat → Int → Prop} {s : Int} (h : Clr m r D) (hm : masksB m s = true) : masksB r s = true := by
  have hs := masksB_size hm
  have hl := masksB_len hm
  unfold masksB
  rw [hs, Bool.true_and, Bool.and_eq_true, decide_eq_true_eq, List.all_eq_true]
  refine ⟨by rw [h.1]; exact hl, fun v hv => ?_⟩
  obtain ⟨c, hc, rfl⟩ := List.getElem_of_mem hv
  have hcm : c < m.length := by rw [← h.1]; exact hc
  obtain ⟨a1, a2⟩ := h.2 c hcm
  rw [rd_lt hc] at a1 a2
  have b := masksB_mem hm m[c] (List.getElem_mem hcm)
  rw [rd_lt hcm] at a2
  rw [decide_eq_true_eq]
  refine ⟨a1.1, ?_, a1.2.2⟩
  have key : ∀ a : Fin 31, ∀ b : Fin 31, (a.val : Int) % 2 = 0 → (b.val : Int) % 2 = 0 → (∀ v : Fin 4, has (a.val : Int) ((v.val : Int) + 1) = true → has (b.val : Int) ((v.val : Int) + 1) = true) → ((b.val : Int) ≤ 6 → (a.val : Int) ≤ 6) ∧ ((b.val : Int) ≤ 14 → (a.val : Int) ≤ 14) := by decide +kernel
  have h30 : allM s ≤ 30 := by rcases sizeOkB_iff.1 hs with rfl | rfl | rfl <;> decide
  have hk := key ⟨r[c].toNat, by omega⟩ ⟨m[c].toNat, by omega⟩ (by simp only; omega) (by simp only; omega) (fun v hv => by
    have e1 : ((r[c].toNat : Nat) : Int) = r[c] := by omega
    have e2 : ((m[c].toNat : Nat) : Int) = m[c] := by omega
    simp only [e1] at hv
    simp only [e2]
    exact ((a2 ((v.val : Int) + 1) (by omega) (by omega)).1 hv).1)
  simp only [show ((r[c].toNat : Nat) : Int) = r[c] by omega, show ((m[c].toNat : Nat) : Int) = m[c] by omega] at hk
  rcases sizeOkB_iff.1 hs with rfl | rfl | rfl
  · exact hk.1 b.2.1
  · exact hk.2 b.2.1
  · exact a1.2.1
theorem narrowPairs_ev (m : List Int) (s : Int) (h : m.length ≤ 35184372088832) (hw : ∀ x ∈ m, x ≤ 9223372036854775807) : ∃ r, Ev (fun k => spec_NarrowPairs.f k m s) r ∧ Ev (fun k => impl_NarrowPairs.f k m s) r ∧ (masksB m s = true → masksB r s = true ∧ ∃ D, Clr m r D) ∧ (masksB m s = false → r = []) := by
  cases hm : masksB m s with
  | false =>
    refine ⟨[], ?_, ?_, fun h => absurd h (by decide), fun _ => rfl⟩
    · unfold spec_NarrowPairs.f
      refine Ev.bind (specMasksValid_ev m s h) ?_
      simp only [hm, Bool.false_eq_true, if_false]
      exact Ev.now _
    · unfold impl_NarrowPairs.f
      refine Ev.bind (implMasksValid_ev m s h hw) ?_
      simp only [hm, Bool.false_eq_true, if_false]
      exact Ev.now _
  | true =>
    obtain ⟨hsn, h2, h4⟩ := size_nat (masksB_size hm)
    have hn : s.toNat = 2 ∨ s.toNat = 3 ∨ s.toNat = 4 := by omega
    have hmm := hm
    rw [← hsn] at hmm
    obtain ⟨r, hr, he⟩ := specNP_ev hn hmm
    obtain ⟨r', hr', he'⟩ := implNP_ev hn hmm
    obtain rfl := hr.uniq hr'
    have hl := masksB_le hm
    refine ⟨r, ?_, ?_, fun _ => ⟨hr.masks hm, _, hr⟩, fun h => absurd h (by decide)⟩
    · unfold spec_NarrowPairs.f
      refine Ev.bind (specMasksValid_ev m s h) ?_
      simp only [hm, if_true, l6Copy_eq hl, Option.bind_some]
      rw [hsn] at he
      exact he
    · unfold impl_NarrowPairs.f
      refine Ev.bind (implMasksValid_ev m s h hw) ?_
      simp only [hm, if_true, clone_eq hl, Option.bind_some]
      have e2 : wrap64 (2 * s) = ((2 * s.toNat : Nat) : Int) := by unfold wrap64; omega
      rw [e2]
      rw [hsn] at he'
      exact he'

end Go.Proofs.Ytaglakdahmepeaa.Pure
namespace Go.Proofs.Ytaglakdahmepeaa.Pure
set_option linter.unusedSimpArgs false
set_option linter.unusedVariables false
open Go.RowKit Go.Proofs.YtaglakdahmepeaaW.PrintWords Go.Proofs.YtaglakdahmepeaaW.PrintMore Go.Proofs.Ytaglakdahmepeaa.P


theorem FnExactNarrowPairs : laws_FnExactNarrowPairs.Pure := by
  intro g s _ _ hwg hws
  apply Ev.rounds
  unfold laws_FnExactNarrowPairs.f
  have hxg : ∀ x ∈ g, x ≤ 9223372036854775807 := fun x hx => (bounds_i64 (hwg x hx)).2
  by_cases hlg : (g.length : Int) > 1048576
  · simp only [hlg, if_true, if_false]; exact Ev.now _
  simp only [hlg, if_false]
  obtain ⟨r, hs, hi, hy, hno⟩ := narrowPairs_ev g s (by omega) hxg
  have hr : r.length ≤ 16 := by
    cases hm : masksB g s with
    | true => exact masksB_le (hy hm).1
    | false => rw [hno hm]; decide
  refine Ev.bind (toIntS_ev g (by omega)) ?_
  refine Ev.bind hs ?_
  refine Ev.bind (toIntS_ev g (by omega)) ?_
  refine Ev.bind hi ?_
  have hp : ¬ ((1 : Int) + (r.length : Int) < 0) := by omega
  refine Ev.bind (eqIntS_ev _ _ (by omega)) ?_
  simp only [decide_true, if_true]
  refine Ev.bind (toIntS_ev g (by omega)) ?_
  refine Ev.bind (eqIntS_ev g g (by omega)) ?_
  simp only [decide_true, if_true]
  have hq : ¬ ((1 : Int) + (g.length : Int) < 0) := by omega
  refine Ev.bind (markIntS_ev g 1 (by omega) (by decide) (by decide)) ?_
  simp only [hq, if_false]
  refine Ev.bind (eqIntS_ev _ _ (by omega)) ?_
  simp only [decide_true, Bool.not_true]
  refine Ev.step (fun k => laws_FnExactNarrowPairs.j0.eq_2 _ _ _ _ _ k) ?_
  simp only [Bool.false_eq_true, if_false]
  refine Ev.bind (markIntS_ev _ 1 (by omega) (by decide) (by decide)) ?_
  refine Ev.bind (heldIntS_marks 1 _ (by omega) (by decide) (by decide)) ?_
  simp only [hp, if_false, if_true]
  refine Ev.bind (toIntS_ev g (by omega)) ?_
  refine Ev.bind hi ?_
  refine Ev.bind (eqIntS_ev _ _ (by omega)) ?_
  simp only [decide_true, if_true]
  refine Ev.bind (heldIntS_marks 1 _ (by omega) (by decide) (by decide)) ?_
  simp only [hp, if_false, if_true]
  exact Ev.now _

end Go.Proofs.Ytaglakdahmepeaa.Pure
