/- The plain side of the law FnExactRuleMasks: what the functions come to, and that the law answers true. Conditions: as stated in each. -/
import Derived.Laws.BitsLemmas
import Derived.OpenShut
import Derived.Test.YthfbjkniinfgcaaZP1
import Derived.Test.YthfbjkniinfgcaaZP2
import Derived.Test.YthfbjkniinfgcaaZP3
import Derived.Test.YthfbjkniinfgcaaZP4
import Derived.Test.YthfbjkniinfgcaaZP5
import Derived.Test.YthfbjkniinfgcaaZP6
import Derived.Test.YthfbjkniinfgcaaZW
namespace Go.Proofs.Ythfbjkniinfgcaa.Pure
set_option linter.unusedSimpArgs false
set_option linter.unusedVariables false
open Go.RowKit Go.Proofs.YthfbjkniinfgcaaW.PrintWords Go.Proofs.YthfbjkniinfgcaaW.PrintMore


theorem w64 {x : Int} (h0 : -9223372036854775808 ≤ x) (h1 : x ≤ 9223372036854775807) : wrap64 x = x := by
  unfold wrap64; omega
theorem w64n {n : Nat} (h : n < 9000000000000000000) : wrap64 ((n : Int) + 1) = ((n + 1 : Nat) : Int) := by
  unfold wrap64; omega
theorem rd_nat (xs : List Int) (n : Nat) : rd xs (n : Int) = xs.getD n 0 := by simp [rd]
theorem rd_lt {xs : List Int} {n : Nat} (h : n < xs.length) : rd xs (n : Int) = xs[n] := by simp [rd, h]
theorem Ev.some {α : Type} {g : Nat → Option α} {r : α} (h : ∀ k, g k = Option.some r) : Ev g r := ⟨0, fun k _ => h k⟩
/-- A loop that counts from n up to N, with a state. -/
theorem Ev.range {σ α : Type} {L : Nat → σ → Int → Option α} {R : σ → Nat → α} {N : Nat} (P : σ → Nat → Prop)
    (hend : ∀ s, P s N → Ev (fun k => L k s (N : Int)) (R s N))
    (hstep : ∀ s n, n < N → P s n → (∀ s', P s' (n + 1) → Ev (fun k => L k s' ((n + 1 : Nat) : Int)) (R s' (n + 1))) → Ev (fun k => L k s (n : Int)) (R s n)) :
    ∀ s n, n ≤ N → P s n → Ev (fun k => L k s (n : Int)) (R s n) := by
  intro s n hn
  obtain ⟨d, hd⟩ : ∃ d, N = n + d := ⟨N - n, by omega⟩
  induction d generalizing s n with
  | zero => obtain rfl : N = n := by omega
            exact hend s
  | succ d ih => exact fun hp => hstep s n (by omega) hp (fun s' hp' => ih s' (n + 1) (by omega) (by omega) hp')
/-- The same without a state. -/
theorem Ev.range0 {α : Type} {L : Nat → Int → Option α} {R : Nat → α} {N : Nat}
    (hend : Ev (fun k => L k (N : Int)) (R N))
    (hstep : ∀ n, n < N → Ev (fun k => L k ((n + 1 : Nat) : Int)) (R (n + 1)) → Ev (fun k => L k (n : Int)) (R n)) :
    ∀ n, n ≤ N → Ev (fun k => L k (n : Int)) (R n) := by
  intro n hn
  exact Ev.range (σ := Unit) (L := fun k _ i => L k i) (R := fun _ n => R n) (fun _ _ => True) (fun _ _ => hend) (fun _ n h _ ih => hstep n h (ih () trivial)) () n hn trivial
theorem take_set_succ {x : List Int} {n : Nat} (h : n < x.length) (v : Int) : (x.set n v).take (n + 1) = x.take n ++ [v] := by
  rw [List.take_succ_eq_append_getElem (by simpa using h)]
  simp [List.take_set_of_le (Nat.le_refl n)]
theorem drop_cons {xs : List Int} {n : Nat} (h : n < xs.length) : xs.drop n = xs[n] :: xs.drop (n + 1) := List.drop_eq_getElem_cons h

end Go.Proofs.Ythfbjkniinfgcaa.Pure
namespace Go.Proofs.Ythfbjkniinfgcaa.Pure
set_option linter.unusedSimpArgs false
set_option linter.unusedVariables false
open Go.RowKit Go.Proofs.YthfbjkniinfgcaaW.PrintWords Go.Proofs.YthfbjkniinfgcaaW.PrintMore


/-! ## The model -/
def sizeOkB (s : Int) : Bool := decide (2 ≤ s ∧ s ≤ 4)
/-- The mask of all values. -/
def allM (s : Int) : Int := if s = 2 then 6 else if s = 3 then 14 else 30
def masksB (g : List Int) (s : Int) : Bool := sizeOkB s && (decide ((g.length : Int) = s * s) && g.all (fun v => decide (0 ≤ v ∧ v ≤ allM s ∧ v % 2 = 0)))
/-- Marks k, k + 1, .. -/
def marks (k : Int) : Nat → List Int
  | 0 => []
  | n + 1 => k :: marks (k + 1) n
theorem marks_length (k : Int) (n : Nat) : (marks k n).length = n := by induction n generalizing k with
  | zero => rfl
  | succ n ih => simp [marks, ih]
theorem sizeOkB_iff {s : Int} : sizeOkB s = true ↔ s = 2 ∨ s = 3 ∨ s = 4 := by
  unfold sizeOkB; rw [decide_eq_true_iff]; omega
theorem masksB_size {g : List Int} {s : Int} (h : masksB g s = true) : sizeOkB s = true := by unfold masksB at h; simp only [Bool.and_eq_true] at h; exact h.1
theorem masksB_len {g : List Int} {s : Int} (h : masksB g s = true) : (g.length : Int) = s * s := by unfold masksB at h; simp only [Bool.and_eq_true, decide_eq_true_eq] at h; exact h.2.1
theorem masksB_mem {g : List Int} {s : Int} (h : masksB g s = true) : ∀ v ∈ g, 0 ≤ v ∧ v ≤ allM s ∧ v % 2 = 0 := by
  unfold masksB at h; simp only [Bool.and_eq_true, decide_eq_true_eq, List.all_eq_true] at h; exact h.2.2

end Go.Proofs.Ythfbjkniinfgcaa.Pure
namespace Go.Proofs.Ythfbjkniinfgcaa.Pure
set_option linter.unusedSimpArgs false
set_option linter.unusedVariables false
open Go.RowKit Go.Proofs.YthfbjkniinfgcaaW.PrintWords Go.Proofs.YthfbjkniinfgcaaW.PrintMore Go.Proofs.Ythfbjkniinfgcaa.P


theorem eqIntS_ev (a b : List Int) (h : a.length < 9000000000000000000) : Ev (fun k => laws_eqIntS.f k a b) (decide (a = b)) := by
  unfold laws_eqIntS.f
  by_cases hl : a.length = b.length
  · simp only [hl, if_true]
    have := Ev.range0 (L := fun k i => laws_eqIntS.l0 k a b i) (R := fun n => decide (a.drop n = b.drop n)) (N := a.length) ?_ ?_ 0 (Nat.zero_le _)
    · simpa using this
    · refine Ev.step (fun k => laws_eqIntS.l0.eq_2 _ _ _ k) ?_
      have e1 : a.drop a.length = [] := List.drop_length
      have e2 : b.drop a.length = [] := by rw [hl]; exact List.drop_length
      simp [e1, e2, Ev.now]
    · intro n hn ih
      refine Ev.step (fun k => laws_eqIntS.l0.eq_2 _ _ _ k) ?_
      have h1 : (n : Int) < (a.length : Int) := by omega
      have h2 : (n : Int) < (b.length : Int) := by omega
      have h3 : (0 : Int) ≤ n := by omega
      rw [drop_cons hn, drop_cons (by omega : n < b.length)]
      simp only [h1, h2, h3, if_true, rd_lt hn, rd_lt (by omega : n < b.length)]
      by_cases he : a[n] = b[n]
      · simp only [he, if_true, w64n (by omega : n < 9000000000000000000), List.cons.injEq, true_and]
        exact ih
      · simp only [he, if_false, List.cons.injEq, false_and, decide_false]
        exact Ev.now _
  · have : ¬ ((a.length : Int) = (b.length : Int)) := by omega
    have hne : ¬ a = b := fun e => hl (by rw [e])
    simp only [this, if_false, hne, decide_false]
    exact Ev.now _
theorem toIntS_ev (a : List Int) (h : a.length ≤ 35184372088832) : Ev (fun k => laws_toIntS.f k a) a := by
  unfold laws_toIntS.f
  have h0 : (0 : Int) ≤ (a.length : Int) := by omega
  have h1 : ((a.length : Int) : Int).toNat ≤ 35184372088832 := by simpa using h
  simp only [h0, h1, if_true]
  have := Ev.range (L := fun k (x : List Int) i => laws_toIntS.l0 k a x i) (R := fun _ _ => a) (N := a.length) (fun x n => x.length = a.length ∧ x.take n = a.take n) ?_ ?_ (List.replicate ((a.length : Int)).toNat 0) 0 (Nat.zero_le _) (by simp)
  · simpa using this
  · rintro x ⟨hl, he⟩
    refine Ev.step (fun k => laws_toIntS.l0.eq_2 _ _ _ k) ?_
    have e : x = a := by rw [← hl, List.take_length, hl, List.take_length] at he; exact he
    simp only [Int.lt_irrefl, if_false, e]
    exact Ev.now _
  · rintro x n hn ⟨hl, he⟩ ih
    refine Ev.step (fun k => laws_toIntS.l0.eq_2 _ _ _ k) ?_
    have h1 : (n : Int) < (a.length : Int) := by omega
    have h2 : (n : Int) < (x.length : Int) := by omega
    have h3 : (0 : Int) ≤ n := by omega
    simp only [h1, h2, h3, if_true, rd_lt hn, Int.toNat_natCast, w64n (by omega : n < 9000000000000000000)]
    refine ih _ ⟨by simp [hl], ?_⟩
    rw [take_set_succ (by omega : n < x.length), he, List.take_succ_eq_append_getElem hn]
theorem markIntS_ev (a : List Int) (m : Int) (h : a.length ≤ 17592186044416) (h0 : 0 ≤ m) (h1 : m ≤ 1000000000000000000) : Ev (fun k => laws_markIntS.f k a m) (m + a.length, marks m a.length) := by
  unfold laws_markIntS.f
  have := Ev.range (L := fun k (x : List Int) i => laws_markIntS.l0 k x (m + i) i) (R := fun x n => (m + a.length, x.take n ++ marks (m + n) (a.length - n))) (N := a.length) (fun x n => x.length = a.length) ?_ ?_ a 0 (Nat.zero_le _) rfl
  · simpa using this
  · intro x hx
    refine Ev.step (fun k => laws_markIntS.l0.eq_2 _ _ _ k) ?_
    have hn : ¬ ((a.length : Int) < (x.length : Int)) := by omega
    have e : x.take a.length ++ marks (m + (a.length : Nat)) (a.length - a.length) = x := by
      rw [← hx, List.take_length, Nat.sub_self]; simp [marks]
    simp only [hn, if_false, e]
    exact Ev.now _
  · intro x n hn hx ih
    refine Ev.step (fun k => laws_markIntS.l0.eq_2 _ _ _ k) ?_
    have h2 : (n : Int) < (x.length : Int) := by omega
    have h3 : (0 : Int) ≤ n := by omega
    have e1 : wrap64 (m + n + 1) = m + ((n + 1 : Nat) : Int) := by rw [w64 (by omega) (by omega)]; omega
    simp only [h2, h3, if_true, Int.toNat_natCast, w64n (by omega : n < 9000000000000000000), e1]
    have := ih (x.set n (m + n)) (by simp [hx])
    have e2 : (x.set n (m + n)).take (n + 1) ++ marks (m + ((n + 1 : Nat) : Int)) (a.length - (n + 1)) = x.take n ++ marks (m + n) (a.length - n) := by
      have e3 : a.length - n = (a.length - (n + 1)) + 1 := by omega
      rw [e3, marks, take_set_succ (by omega : n < x.length)]
      have e5 : m + (n : Int) + 1 = m + ((n + 1 : Nat) : Int) := by omega
      rw [e5]; simp
    rw [e2] at this
    exact this
theorem heldIntS_marks (m : Int) (l : Nat) (h : l ≤ 17592186044416) (h0 : 0 ≤ m) (h1 : m ≤ 1000000000000000000) : Ev (fun k => laws_heldIntS.f k (marks m l) m) (m + l) := by
  unfold laws_heldIntS.f
  have hm : ∀ n, n < l → rd (marks m l) (n : Int) = m + n := by
    intro n hn
    have : ∀ (l n : Nat) (m : Int), n < l → (marks m l).getD n 0 = m + n := by
      intro l
      induction l with
      | zero => intro n m h; omega
      | succ l ih =>
        intro n m h
        cases n with
        | zero => simp [marks]
        | succ n => simp only [marks, List.getD_cons_succ]; rw [ih n (m + 1) (by omega)]; omega
    rw [rd_nat]; exact this l n m hn
  have := Ev.range0 (L := fun k i => laws_heldIntS.l0 k (marks m l) (m + i) i) (R := fun _ => m + l) (N := l) ?_ ?_ 0 (Nat.zero_le _)
  · simpa using this
  · refine Ev.step (fun k => laws_heldIntS.l0.eq_2 _ _ _ k) ?_
    simp [marks_length, Ev.now]
  · intro n hn ih
    refine Ev.step (fun k => laws_heldIntS.l0.eq_2 _ _ _ k) ?_
    have h2 : (n : Int) < ((marks m l).length : Int) := by rw [marks_length]; omega
    have h3 : (0 : Int) ≤ n := by omega
    have e1 : wrap64 (m + n + 1) = m + ((n + 1 : Nat) : Int) := by rw [w64 (by omega) (by omega)]; omega
    simp only [h2, h3, if_true, hm n hn, w64n (by omega : n < 9000000000000000000), e1]
    exact ih

end Go.Proofs.Ythfbjkniinfgcaa.Pure
namespace Go.Proofs.Ythfbjkniinfgcaa.Pure
set_option linter.unusedSimpArgs false
set_option linter.unusedVariables false
open Go.RowKit Go.Proofs.YthfbjkniinfgcaaW.PrintWords Go.Proofs.YthfbjkniinfgcaaW.PrintMore Go.Proofs.Ythfbjkniinfgcaa.P


theorem szRule_eq (a : Int) (l : List Int) (c : Int) (h : l.length ≤ 9223372036854775807) : laws_szRule.f a l c 1048576 = some (if (l.length : Int) ≤ 1048576 then 1048576 - (l.length : Int) else -1) := by
  unfold laws_szRule.f laws_szIntS.f
  have hw : wrap64 (1048576 - (l.length : Int)) = 1048576 - (l.length : Int) := by unfold wrap64; omega
  rw [hw]
  by_cases hl : (l.length : Int) ≤ 1048576
  · have h1 : ¬ 1048576 - (l.length : Int) < 0 := by omega
    simp only [hl, h1, if_true, if_false, Option.bind_some]
  · have h1 : 1048576 - (l.length : Int) < 0 := by omega
    have h2 : (-1 : Int) < 0 := by decide
    simp only [hl, h1, h2, if_true, if_false, Option.bind_some]
theorem toRule_ev (a : Int) (l : List Int) (c : Int) (h : l.length ≤ 35184372088832) : Ev (fun k => laws_toRule.f k a l c) (a, l, c) := by
  unfold laws_toRule.f
  refine Ev.bind (toIntS_ev l h) ?_
  exact Ev.now _
theorem eqRule_ev (a : Int) (l : List Int) (c : Int) (h : l.length ≤ 35184372088832) : Ev (fun k => laws_eqRule.f k a l c a l c) true := by
  unfold laws_eqRule.f
  simp only [if_true]
  refine Ev.bind (eqIntS_ev l l (by omega)) ?_
  simp only [decide_true, if_true]
  exact Ev.now _

end Go.Proofs.Ythfbjkniinfgcaa.Pure
namespace Go.Proofs.Ythfbjkniinfgcaa.Pure
set_option linter.unusedSimpArgs false
set_option linter.unusedVariables false
open Go.RowKit Go.Proofs.YthfbjkniinfgcaaW.PrintWords Go.Proofs.YthfbjkniinfgcaaW.PrintMore


/-- The mask has the value. -/
def has (m v : Int) : Bool := decide ((m / 2 ^ v.toNat) % 2 = 1)
theorem has_fin : ∀ m : Fin 31, ∀ v : Fin 5, Int.tmod (shr .i64 (m.val : Int) (v.val : Int)) 2 = (if has (m.val : Int) (v.val : Int) = true then 1 else 0) ∧ Go.bits .and .i64 (shr .i64 (m.val : Int) (v.val : Int)) 1 = (if has (m.val : Int) (v.val : Int) = true then 1 else 0) := by decide +kernel
theorem has_and {m v : Int} (h : 0 ≤ m ∧ m ≤ 30) (hv : 0 ≤ v ∧ v ≤ 4) : Go.bits .and .i64 (shr .i64 m v) 1 = (if has m v = true then 1 else 0) := by
  have := (has_fin ⟨m.toNat, by omega⟩ ⟨v.toNat, by omega⟩).2
  rwa [show ((m.toNat : Nat) : Int) = m by omega, show ((v.toNat : Nat) : Int) = v by omega] at this

end Go.Proofs.Ythfbjkniinfgcaa.Pure
namespace Go.Proofs.Ythfbjkniinfgcaa.Pure
set_option linter.unusedSimpArgs false
set_option linter.unusedVariables false
open Go.RowKit Go.Proofs.YthfbjkniinfgcaaW.PrintWords Go.Proofs.YthfbjkniinfgcaaW.PrintMore

theorem rd_mem {g : List Int} {i : Int} (h0 : 0 ≤ i) (h1 : i < (g.length : Int)) : rd g i ∈ g := by
  obtain ⟨n, rfl⟩ := Int.eq_ofNat_of_zero_le h0
  rw [rd_lt (by omega : n < g.length)]
  exact List.getElem_mem _

end Go.Proofs.Ythfbjkniinfgcaa.Pure
namespace Go.Proofs.Ythfbjkniinfgcaa.Pure
set_option linter.unusedSimpArgs false
set_option linter.unusedVariables false
open Go.RowKit Go.Proofs.YthfbjkniinfgcaaW.PrintWords Go.Proofs.YthfbjkniinfgcaaW.PrintMore


/-- Are the first n cells numbers of cells of the grid, each another one? -/
def goodCells (t : Int) (cs : List Int) : Nat → Bool
  | 0 => true
  | n + 1 => goodCells t cs n && (decide (0 ≤ rd cs (n : Int) ∧ rd cs (n : Int) < t) && !decide (rd cs (n : Int) ∈ cs.take n))
theorem goodCells_false {t : Int} {cs : List Int} {n : Nat} (h : goodCells t cs n = false) : ∀ d, goodCells t cs (n + d) = false
  | 0 => h
  | d + 1 => by rw [show n + (d + 1) = (n + d) + 1 from rfl, goodCells, goodCells_false h d]; rfl
theorem goodCells_le {t : Int} {cs : List Int} {n m : Nat} (h : goodCells t cs n = false) (hm : n ≤ m) : goodCells t cs m = false := by
  obtain ⟨d, rfl⟩ : ∃ d, m = n + d := ⟨m - n, by omega⟩
  exact goodCells_false h d
/-- What is asked of a rule's number of cells and of its value. -/
def ruleTail (kind len v s : Int) : Bool := decide (len ≤ 4) && (if kind = 1 then decide (2 ≤ len ∧ v = 0) else if kind = 2 ∨ kind = 3 then decide (1 ≤ len ∧ 1 ≤ v ∧ v ≤ s * s * s * s) else if kind = 4 then decide (len = 2 ∧ v = 0) else if kind = 5 then decide (len = 2 ∧ 0 ≤ v ∧ v < s) else false)
def ruleB (kind : Int) (cs : List Int) (v s : Int) : Bool := sizeOkB s && (goodCells (s * s) cs cs.length && ruleTail kind cs.length v s)
/-- Some earlier cell is the same, if it stands among the first n. -/
theorem mem_take_iff {cs : List Int} {n : Nat} {c : Int} : c ∈ cs.take n ↔ ∃ j, j < n ∧ j < cs.length ∧ rd cs (j : Int) = c := by
  constructor
  · intro h
    obtain ⟨j, hj, he⟩ := List.mem_iff_getElem.1 h
    rw [List.length_take] at hj
    refine ⟨j, by omega, by omega, ?_⟩
    rw [rd_lt (by omega : j < cs.length), ← he, List.getElem_take]
  · rintro ⟨j, h1, h2, he⟩
    rw [rd_lt h2] at he
    refine List.mem_iff_getElem.2 ⟨j, by rw [List.length_take]; omega, ?_⟩
    rw [List.getElem_take]; exact he

end Go.Proofs.Ythfbjkniinfgcaa.Pure
namespace Go.Proofs.Ythfbjkniinfgcaa.Pure
set_option linter.unusedSimpArgs false
set_option linter.unusedVariables false
open Go.RowKit Go.Proofs.YthfbjkniinfgcaaW.PrintWords Go.Proofs.YthfbjkniinfgcaaW.PrintMore Go.Proofs.Ythfbjkniinfgcaa.P


theorem l1In_eq (a b c : Int) : spec_l1In.f a b c = some (decide (b ≤ a ∧ a ≤ c)) := by
  unfold spec_l1In.f
  by_cases h : a ≥ b
  · have h' : b ≤ a := h
    simp [h']
  · have h' : ¬ b ≤ a := h
    simp [h']
theorem sizeOk_eq (a : Int) : impl_sizeOk.f a = some (sizeOkB a) := by
  unfold impl_sizeOk.f sizeOkB
  by_cases h : a ≥ 2
  · have h' : 2 ≤ a := h
    simp [h']
  · have h' : ¬ 2 ≤ a := h
    simp [h']
theorem allValues_eq {s : Int} (h : sizeOkB s = true) : impl_allValues.f s = some (allM s) := by
  rcases sizeOkB_iff.1 h with rfl | rfl | rfl <;> decide +kernel

end Go.Proofs.Ythfbjkniinfgcaa.Pure
namespace Go.Proofs.Ythfbjkniinfgcaa.Pure
set_option linter.unusedSimpArgs false
set_option linter.unusedVariables false
open Go.RowKit Go.Proofs.YthfbjkniinfgcaaW.PrintWords Go.Proofs.YthfbjkniinfgcaaW.PrintMore Go.Proofs.Ythfbjkniinfgcaa.P


theorem index_ev (l : List Int) (x : Int) (h : l.length ≤ 35184372088832) : ∀ d n, n + d = l.length → ∃ r : Int, (0 ≤ r ↔ x ∈ l.drop n) ∧ Ev (fun k => slices_Index_int_int.l0 k l x (l.length : Int) (n : Int)) r
  | 0, n, hn => by
    refine ⟨-1, ?_, ?_⟩
    · rw [List.drop_eq_nil_of_le (by omega)]; simp
    · refine Ev.step (fun k => slices_Index_int_int.l0.eq_2 _ _ _ _ k) ?_
      have h1 : ¬ (n : Int) < (l.length : Int) := by omega
      simp only [h1, if_false]
      exact Ev.now _
  | d + 1, n, hn => by
    have h1 : (n : Int) < (l.length : Int) := by omega
    have h0 : (0 : Int) ≤ (n : Int) := Int.natCast_nonneg n
    have hd : l.drop n = l[n] :: l.drop (n + 1) := drop_cons (by omega)
    by_cases hx : x = rd l (n : Int)
    · refine ⟨(n : Int), ⟨fun _ => ?_, fun _ => h0⟩, ?_⟩
      · rw [hd, hx, rd_lt (by omega : n < l.length)]; exact List.mem_cons_self
      · refine Ev.step (fun k => slices_Index_int_int.l0.eq_2 _ _ _ _ k) ?_
        simp only [h1, h0, ← hx, if_true]
        exact Ev.now _
    · obtain ⟨r, hr, he⟩ := index_ev l x h d (n + 1) (by omega)
      refine ⟨r, ?_, ?_⟩
      · rw [hr, hd, List.mem_cons]
        constructor
        · exact .inr
        · rintro (e | e)
          · exact absurd (by rw [rd_lt (by omega : n < l.length)]; exact e) hx
          · exact e
      · refine Ev.step (fun k => slices_Index_int_int.l0.eq_2 _ _ _ _ k) ?_
        simp only [h1, h0, hx, if_true, if_false, w64n (by omega : n < 9000000000000000000)]
        exact he
theorem contains_ev (l : List Int) (x : Int) (h : l.length ≤ 35184372088832) : Ev (fun k => slices_Contains_int_int.f k l x) (decide (x ∈ l)) := by
  obtain ⟨r, hr, he⟩ := index_ev l x h l.length 0 (by omega)
  unfold slices_Contains_int_int.f slices_Index_int_int.f
  refine Ev.bind he ?_
  rw [List.drop_zero] at hr
  have e : decide (r ≥ 0) = decide (x ∈ l) := by
    by_cases hx : x ∈ l
    · rw [decide_eq_true hx, decide_eq_true (hr.2 hx)]
    · rw [decide_eq_false hx, decide_eq_false (fun h => hx (hr.1 h))]
  simp only [e]
  exact Ev.now _
theorem implRuleTail_ev (s kind v : Int) (cs : List Int) (hs : sizeOkB s = true) : Ev (fun k => if kind = 1 then (if (cs.length : Int) ≥ 2 then (if (cs.length : Int) ≤ 4 then (some (v == 0)) else (some false)) else (some false)) else (if kind = 2 then (impl_RuleValid.j1 k s (cs.length : Int) kind (kind == 2) kind cs v) else (impl_RuleValid.j1 k s (cs.length : Int) kind (kind == 3) kind cs v))) (ruleTail kind cs.length v s) := by
  have hsz := sizeOkB_iff.1 hs
  have hw : wrap64 ((wrap64 ((wrap64 (s * s)) * s)) * s) = s * s * s * s := by rcases hsz with rfl | rfl | rfl <;> decide +kernel
  unfold ruleTail
  generalize (cs.length : Int) = n
  have hvz : ∀ w : Int, (w == 0) = decide (w = 0) := by
    intro w
    by_cases h : w = 0
    · subst h; rfl
    · rw [beq_eq_false_iff_ne.2 h, decide_eq_false h]
  by_cases k1 : kind = 1
  · simp only [k1, if_true]
    by_cases h2 : 2 ≤ n
    · by_cases h4 : n ≤ 4
      · have h2' : n ≥ 2 := h2
        simp only [h2, h2', h4, if_true, hvz, true_and, decide_true, Bool.true_and]
        exact Ev.now _
      · have h2' : n ≥ 2 := h2
        simp only [h2', h4, if_true, if_false, decide_false, Bool.false_and]
        exact Ev.now _
    · have h2' : ¬ n ≥ 2 := h2
      simp only [h2, h2', if_false, false_and, decide_false, Bool.and_false]
      exact Ev.now _
  · simp only [k1, if_false]
    have hj : ∀ b, b = decide (kind = 2 ∨ kind = 3) → Ev (fun k => impl_RuleValid.j1 k s n kind b kind cs v) (decide (n ≤ 4) && (if kind = 2 ∨ kind = 3 then decide (1 ≤ n ∧ 1 ≤ v ∧ v ≤ s * s * s * s) else if kind = 4 then decide (n = 2 ∧ v = 0) else if kind = 5 then decide (n = 2 ∧ 0 ≤ v ∧ v < s) else false)) := by
      rintro b rfl
      refine Ev.step (fun k => impl_RuleValid.j1.eq_2 _ _ _ _ _ _ _ k) ?_
      by_cases k2 : kind = 2 ∨ kind = 3
      · simp only [k2, decide_true, if_true, hw]
        by_cases h1 : 1 ≤ n
        · have h1' : n ≥ 1 := h1
          by_cases h4 : n ≤ 4
          · by_cases hv : 1 ≤ v
            · have hv' : v ≥ 1 := hv
              simp only [h1, h1', h4, hv, hv', if_true, true_and, decide_true, Bool.true_and]
              exact Ev.now _
            · have hv' : ¬ v ≥ 1 := hv
              simp only [h1, h1', h4, hv, hv', if_true, if_false, true_and, false_and, decide_true, decide_false, Bool.true_and]
              exact Ev.now _
          · simp only [h1', h4, if_true, if_false, decide_false, Bool.false_and]
            exact Ev.now _
        · have h1' : ¬ n ≥ 1 := h1
          simp only [h1, h1', if_false, false_and, decide_false, Bool.and_false]
          exact Ev.now _
      · simp only [k2, decide_false, if_false, Bool.false_eq_true]
        by_cases k4 : kind = 4
        · simp only [k4, if_true]
          by_cases h2 : n = 2
          · simp only [h2, if_true, true_and, hvz]
            exact Ev.now _
          · simp only [h2, if_false, false_and, decide_false, Bool.and_false]
            exact Ev.now _
        · simp only [k4, if_false]
          by_cases k5 : kind = 5
          · simp only [k5, if_true]
            by_cases h2 : n = 2
            · by_cases hv : 0 ≤ v
              · have hv' : v ≥ 0 := hv
                simp only [h2, hv, hv', if_true, true_and]
                exact Ev.now _
              · have hv' : ¬ v ≥ 0 := hv
                simp only [h2, hv, hv', if_true, if_false, true_and, false_and, decide_false, Bool.and_false]
                exact Ev.now _
            · simp only [h2, if_false, false_and, decide_false, Bool.and_false]
              exact Ev.now _
          · simp only [k5, if_false, Bool.and_false]
            exact Ev.now _
    by_cases k2 : kind = 2
    · have e : (kind == 2) = decide (kind = 2 ∨ kind = 3) := by simp [k2]
      have := hj _ e
      simpa only [k2, if_true] using this
    · have e : (kind == 3) = decide (kind = 2 ∨ kind = 3) := by
        by_cases k3 : kind = 3 <;> simp [k2, k3]
      have := hj _ e
      simp only [k2, if_false]
      simpa only [k2, false_or] using this
theorem implRuleValid_ev (kind : Int) (cs : List Int) (v s : Int) (hl : cs.length ≤ 35184372088832) : Ev (fun k => impl_RuleValid.f k kind cs v s) (ruleB kind cs v s) := by
  unfold impl_RuleValid.f ruleB
  simp only [sizeOk_eq, Option.bind_some]
  by_cases hs : sizeOkB s = true
  · have ht : wrap64 (s * s) = s * s := by rcases sizeOkB_iff.1 hs with rfl | rfl | rfl <;> decide +kernel
    simp only [hs, if_true, Bool.true_and]
    have := Ev.range (σ := Unit) (L := fun k _ i => impl_RuleValid.l0 k s cs (cs.length : Int) i kind cs v) (R := fun _ _ => goodCells (s * s) cs cs.length && ruleTail kind cs.length v s) (N := cs.length) (fun _ i => goodCells (s * s) cs i = true) ?_ ?_ () 0 (Nat.zero_le _) rfl
    · simpa using this
    · intro _ hg
      refine Ev.step (fun k => impl_RuleValid.l0.eq_2 _ _ _ _ _ _ _ k) ?_
      simp only [Int.lt_irrefl, if_false]
      rw [hg, Bool.true_and]
      exact implRuleTail_ev s kind v cs hs
    · intro _ i hi hg ih
      refine Ev.step (fun k => impl_RuleValid.l0.eq_2 _ _ _ _ _ _ _ k) ?_
      have h1 : (i : Int) < (cs.length : Int) := by omega
      have h0 : (0 : Int) ≤ (i : Int) := Int.natCast_nonneg i
      have h2 : (i : Int) ≤ (cs.length : Int) := by omega
      have hbad : goodCells (s * s) cs (i + 1) = false → Ev (fun _ : Nat => some false) (goodCells (s * s) cs cs.length && ruleTail kind cs.length v s) := by
        intro h
        rw [goodCells_le h (by omega : i + 1 ≤ cs.length)]
        exact Ev.now _
      simp only [h1, h0, h2, if_true, ht, Int.toNat_natCast]
      by_cases hc0 : rd cs (i : Int) < 0
      · simp only [hc0, if_true]
        refine hbad ?_
        have hn : ¬ (0 ≤ rd cs (i : Int) ∧ rd cs (i : Int) < s * s) := fun h => by omega
        rw [goodCells, decide_eq_false hn]; simp
      · simp only [hc0, if_false]
        by_cases hc1 : rd cs (i : Int) ≥ s * s
        · simp only [hc1, if_true]
          refine hbad ?_
          have hn : ¬ (0 ≤ rd cs (i : Int) ∧ rd cs (i : Int) < s * s) := fun h => by omega
          rw [goodCells, decide_eq_false hn]; simp
        · simp only [hc1, if_false]
          refine Ev.bind (contains_ev _ _ (by rw [List.length_take]; omega)) ?_
          by_cases hm : rd cs (i : Int) ∈ cs.take i
          · simp only [hm, decide_true, if_true]
            refine hbad ?_
            rw [goodCells, decide_eq_true hm]; simp
          · simp only [hm, decide_false, if_false, Bool.false_eq_true, w64n (by omega : i < 9000000000000000000)]
            refine ih () ?_
            rw [goodCells, hg, decide_eq_true (⟨by omega, by omega⟩ : 0 ≤ rd cs (i : Int) ∧ rd cs (i : Int) < s * s), decide_eq_false hm]
            rfl
  · simp only [hs, if_false, Bool.false_eq_true, Bool.false_and]
    exact Ev.now _

end Go.Proofs.Ythfbjkniinfgcaa.Pure
namespace Go.Proofs.Ythfbjkniinfgcaa.Pure
set_option linter.unusedSimpArgs false
set_option linter.unusedVariables false
open Go.RowKit Go.Proofs.YthfbjkniinfgcaaW.PrintWords Go.Proofs.YthfbjkniinfgcaaW.PrintMore Go.Proofs.Ythfbjkniinfgcaa.P


theorem goodCells_prev {t : Int} {cs : List Int} {n : Nat} (h : goodCells t cs (n + 1) = true) : goodCells t cs n = true := by
  unfold goodCells at h; simp only [Bool.and_eq_true] at h; exact h.1
theorem goodCells_at {t : Int} {cs : List Int} : ∀ {n : Nat}, goodCells t cs n = true → ∀ i, i < n → 0 ≤ rd cs (i : Int) ∧ rd cs (i : Int) < t
  | 0, _, i, hi => absurd hi (Nat.not_lt_zero i)
  | n + 1, h, i, hi => by
    by_cases hin : i < n
    · exact goodCells_at (goodCells_prev h) i hin
    · obtain rfl : i = n := by omega
      unfold goodCells at h
      simp only [Bool.and_eq_true, decide_eq_true_eq] at h
      exact h.2.1
def sumP (l : List Int) : Nat → Int
  | 0 => 0
  | n + 1 => sumP l n + rd l (n : Int)
def prodP (l : List Int) : Nat → Int
  | 0 => 1
  | n + 1 => prodP l n * rd l (n : Int)
def neP (l : List Int) (i : Nat) : Nat → Bool
  | 0 => true
  | j + 1 => neP l i j && (rd l (j : Int) != rd l (i : Int))
def nodupP (l : List Int) : Nat → Bool
  | 0 => true
  | n + 1 => nodupP l n && neP l n n
theorem sumP_le {l : List Int} (h : ∀ x ∈ l, 0 ≤ x ∧ x ≤ 4) : ∀ n, n ≤ l.length → 0 ≤ sumP l n ∧ sumP l n ≤ 4 * (n : Int)
  | 0, _ => by unfold sumP; omega
  | n + 1, hn => by
    have ih := sumP_le h n (by omega)
    have hx := h _ (rd_mem (g := l) (i := (n : Int)) (by omega) (by omega))
    unfold sumP; omega
theorem prodP_le {l : List Int} (h : ∀ x ∈ l, 0 ≤ x ∧ x ≤ 4) : ∀ n, n ≤ l.length → 0 ≤ prodP l n ∧ prodP l n ≤ 4 ^ n
  | 0, _ => by unfold prodP; decide
  | n + 1, hn => by
    have ih := prodP_le h n (by omega)
    have hx := h _ (rd_mem (g := l) (i := (n : Int)) (by omega) (by omega))
    unfold prodP
    refine ⟨Int.mul_nonneg ih.1 hx.1, ?_⟩
    rw [Int.pow_succ]
    exact Int.mul_le_mul ih.2 hx.2 hx.1 (Int.le_trans ih.1 ih.2)
theorem prodP_small {l : List Int} (h : ∀ x ∈ l, 0 ≤ x ∧ x ≤ 4) {n : Nat} (hn : n ≤ l.length) (h4 : n ≤ 4) : 0 ≤ prodP l n ∧ prodP l n ≤ 256 := by
  have := prodP_le h n hn
  have hc : n = 0 ∨ n = 1 ∨ n = 2 ∨ n = 3 ∨ n = 4 := by omega
  refine ⟨this.1, Int.le_trans this.2 ?_⟩
  rcases hc with rfl | rfl | rfl | rfl | rfl <;> decide
theorem neP_iff {l : List Int} {i : Nat} : ∀ j, j ≤ l.length → (neP l i j = true ↔ ∀ d, d < j → rd l (d : Int) ≠ rd l (i : Int))
  | 0, _ => ⟨fun _ d hd => absurd hd (Nat.not_lt_zero d), fun _ => rfl⟩
  | j + 1, hj => by
    unfold neP
    rw [Bool.and_eq_true, neP_iff j (by omega), bne_iff_ne]
    constructor
    · rintro ⟨h1, h2⟩ d hd
      by_cases hdj : d = j
      · rw [hdj]; exact h2
      · exact h1 d (by omega)
    · exact fun h => ⟨fun d hd => h d (by omega), h j (by omega)⟩
theorem neP_mem {l : List Int} {i : Nat} (hi : i < l.length) : neP l i i = !decide (rd l (i : Int) ∈ l.take i) := by
  by_cases hm : rd l (i : Int) ∈ l.take i
  · rw [decide_eq_true hm]
    obtain ⟨j, hj, _, he⟩ := mem_take_iff.1 hm
    refine eq_false_of_ne_true (fun h => ?_)
    exact (neP_iff i (by omega)).1 h j hj he
  · rw [decide_eq_false hm]
    refine (neP_iff i (by omega)).2 (fun d hd he => hm (mem_take_iff.2 ⟨d, hd, by omega, he⟩))
theorem nodupP_le {l : List Int} {n : Nat} (h : nodupP l n = false) : ∀ d, nodupP l (n + d) = false
  | 0 => h
  | d + 1 => by rw [show n + (d + 1) = (n + d) + 1 from rfl, nodupP, nodupP_le h d]; rfl
def holdsB (kind v : Int) (l : List Int) : Bool := if kind = 1 then nodupP l l.length else if kind = 2 then sumP l l.length == v else if kind = 3 then prodP l l.length == v else if kind = 4 then decide (rd l 0 < rd l 1) else mx (rd l 0 - rd l 1) (rd l 1 - rd l 0) == v
/-- What is known of a valid rule and the values in its cells. -/
def ValsOK (kind : Int) (l : List Int) : Prop := l.length ≤ 4 ∧ (∀ x ∈ l, 0 ≤ x ∧ x ≤ 4) ∧ 1 ≤ kind ∧ kind ≤ 5 ∧ (4 ≤ kind → l.length = 2)
theorem l4Holds_ev {kind v : Int} {cs l : List Int} (h : ValsOK kind l) : Ev (fun k => spec_l4Holds.f k kind cs v l) (holdsB kind v l) := by
  obtain ⟨h4, hx, hk1, hk5, hk2⟩ := h
  unfold spec_l4Holds.f
  have := Ev.range (L := fun k (p : Int × Int × Bool) i => spec_l4Holds.l0 k l p.1 p.2.1 p.2.2 i kind cs v) (R := fun _ _ => holdsB kind v l) (N := l.length) (fun p i => p = (sumP l i, prodP l i, nodupP l i)) ?_ ?_ (0, 1, true) 0 (Nat.zero_le _) rfl
  · simpa using this
  · rintro p rfl
    refine Ev.step (fun k => spec_l4Holds.l0.eq_2 _ _ _ _ _ _ _ _ k) ?_
    unfold holdsB
    simp only [Int.lt_irrefl, if_false]
    by_cases k1 : kind = 1
    · simp only [k1, if_true]; exact Ev.now _
    · by_cases k2 : kind = 2
      · simp only [k1, k2, if_true, if_false]; exact Ev.now _
      · by_cases k3 : kind = 3
        · simp only [k1, k2, k3, if_true, if_false]; exact Ev.now _
        · have hl2 : l.length = 2 := hk2 (by omega)
          have e0 : (0 : Int) < (l.length : Int) := by omega
          have e1 : (1 : Int) < (l.length : Int) := by omega
          have hr0 := hx _ (rd_mem (g := l) (i := 0) (by decide) e0)
          have hr1 := hx _ (rd_mem (g := l) (i := 1) (by decide) e1)
          have w1 : wrap64 (rd l 0 - rd l 1) = rd l 0 - rd l 1 := by unfold wrap64; omega
          have w2 : wrap64 (-(rd l 0 - rd l 1)) = rd l 1 - rd l 0 := by unfold wrap64; omega
          by_cases k4 : kind = 4
          · simp only [k1, k2, k3, k4, e0, e1, if_true, if_false]; exact Ev.now _
          · simp only [k1, k2, k3, k4, e0, e1, if_true, if_false, w1, w2]; exact Ev.now _
  · rintro p i hi rfl ih
    refine Ev.step (fun k => spec_l4Holds.l0.eq_2 _ _ _ _ _ _ _ _ k) ?_
    have h1 : (i : Int) < (l.length : Int) := by omega
    have h0 : (0 : Int) ≤ (i : Int) := Int.natCast_nonneg i
    have hs := sumP_le hx (i + 1) (by omega)
    have hp := prodP_small hx (n := i + 1) (by omega) (by omega)
    have ws : wrap64 (sumP l i + rd l (i : Int)) = sumP l (i + 1) := by
      rw [show sumP l i + rd l (i : Int) = sumP l (i + 1) from rfl]; exact w64 (by omega) (by omega)
    have wp : wrap64 (prodP l i * rd l (i : Int)) = prodP l (i + 1) := by
      rw [show prodP l i * rd l (i : Int) = prodP l (i + 1) from rfl]; exact w64 (by omega) (by omega)
    simp only [h1, h0, if_true, ws, wp]
    clear hs hp ws wp
    have := Ev.range (L := fun k (b : Bool) j => spec_l4Holds.l1 k l (sumP l (i + 1)) (prodP l (i + 1)) b (i : Int) j kind cs v) (R := fun _ _ => holdsB kind v l) (N := i) (fun b j => b = (nodupP l i && neP l i j)) ?_ ?_ (nodupP l i) 0 (Nat.zero_le _) (by simp [neP])
    · simpa using this
    · rintro b rfl
      refine Ev.step (fun k => spec_l4Holds.l1.eq_2 _ _ _ _ _ _ _ _ _ k) ?_
      simp only [Int.lt_irrefl, if_false, w64n (by omega : i < 9000000000000000000)]
      exact ih (_, _, _) rfl
    · rintro b j hj hb ihj
      refine Ev.step (fun k => spec_l4Holds.l1.eq_2 _ _ _ _ _ _ _ _ _ k) ?_
      have h2 : (j : Int) < (i : Int) := by omega
      have h3 : (j : Int) < (l.length : Int) := by omega
      have h5 : (0 : Int) ≤ (j : Int) := Int.natCast_nonneg j
      simp only [h2, h3, h5, h1, h0, if_true, w64n (by omega : j < 9000000000000000000)]
      cases b with
      | true =>
        simp only [if_true]
        refine ihj _ ?_
        rw [neP, ← Bool.and_assoc, ← hb, Bool.true_and]
      | false =>
        simp only [Bool.false_eq_true, if_false]
        refine ihj _ ?_
        rw [neP, ← Bool.and_assoc, ← hb, Bool.false_and]
theorem valuesHold_ev {kind v : Int} {cs l : List Int} (h : ValsOK kind l) : Ev (fun k => impl_valuesHold.f k kind cs v l) (holdsB kind v l) := by
  obtain ⟨h4, hx, hk1, hk5, hk2⟩ := h
  unfold impl_valuesHold.f
  have := Ev.range (L := fun k (p : Int × Int) i => impl_valuesHold.l0 k l p.1 p.2 l (l.length : Int) i kind cs v) (R := fun _ _ => holdsB kind v l) (N := l.length) (fun p i => p = (sumP l i, prodP l i) ∧ (kind = 1 → nodupP l i = true)) ?_ ?_ (0, 1) 0 (Nat.zero_le _) ⟨rfl, fun _ => rfl⟩
  · simpa using this
  · rintro p ⟨rfl, hd⟩
    refine Ev.step (fun k => impl_valuesHold.l0.eq_2 _ _ _ _ _ _ _ _ _ k) ?_
    unfold holdsB
    simp only [Int.lt_irrefl, if_false]
    by_cases k1 : kind = 1
    · have k2 : ¬ kind = 2 := by omega
      have k3 : ¬ kind = 3 := by omega
      have k4 : ¬ kind = 4 := by omega
      have k5 : ¬ kind = 5 := by omega
      simp only [k2, k3, k4, k5, if_false]
      rw [if_pos k1, hd k1]
      exact Ev.now _
    · by_cases k2 : kind = 2
      · simp only [k1, k2, if_true, if_false]; exact Ev.now _
      · by_cases k3 : kind = 3
        · simp only [k1, k2, k3, if_true, if_false]; exact Ev.now _
        · have hl2 : l.length = 2 := hk2 (by omega)
          have e0 : (0 : Int) < (l.length : Int) := by omega
          have e1 : (1 : Int) < (l.length : Int) := by omega
          have hr0 := hx _ (rd_mem (g := l) (i := 0) (by decide) e0)
          have hr1 := hx _ (rd_mem (g := l) (i := 1) (by decide) e1)
          have w1 : wrap64 (rd l 0 - rd l 1) = rd l 0 - rd l 1 := by unfold wrap64; omega
          have w2 : wrap64 (rd l 1 - rd l 0) = rd l 1 - rd l 0 := by unfold wrap64; omega
          by_cases k4 : kind = 4
          · simp only [k1, k2, k3, k4, e0, e1, if_true, if_false]; exact Ev.now _
          · have k5 : kind = 5 := by omega
            simp only [k1, k2, k3, k4, e0, e1, if_true, if_false, w1, w2]
            simp only [k5, if_true]
            exact Ev.now _
  · rintro p i hi ⟨rfl, hd⟩ ih
    refine Ev.step (fun k => impl_valuesHold.l0.eq_2 _ _ _ _ _ _ _ _ _ k) ?_
    have h1 : (i : Int) < (l.length : Int) := by omega
    have h2 : (i : Int) ≤ (l.length : Int) := by omega
    have h0 : (0 : Int) ≤ (i : Int) := Int.natCast_nonneg i
    have hs := sumP_le hx (i + 1) (by omega)
    have hp := prodP_small hx (n := i + 1) (by omega) (by omega)
    have ws : wrap64 (sumP l i + rd l (i : Int)) = sumP l (i + 1) := by
      rw [show sumP l i + rd l (i : Int) = sumP l (i + 1) from rfl]; exact w64 (by omega) (by omega)
    have wp : wrap64 (prodP l i * rd l (i : Int)) = prodP l (i + 1) := by
      rw [show prodP l i * rd l (i : Int) = prodP l (i + 1) from rfl]; exact w64 (by omega) (by omega)
    simp only [h1, h2, h0, if_true, ws, wp, Int.toNat_natCast, w64n (by omega : i < 9000000000000000000)]
    clear hs hp ws wp
    by_cases k1 : kind = 1
    · simp only [k1, if_true]
      refine Ev.bind (contains_ev _ _ (by rw [List.length_take]; omega)) ?_
      by_cases hm : rd l (i : Int) ∈ l.take i
      · simp only [hm, decide_true, if_true]
        have hf : nodupP l (i + 1) = false := by rw [nodupP, neP_mem hi, decide_eq_true hm]; simp
        have : holdsB 1 v l = false := by
          unfold holdsB
          obtain ⟨d, hd'⟩ : ∃ d, l.length = (i + 1) + d := ⟨l.length - (i + 1), by omega⟩
          rw [if_pos rfl, hd']
          exact nodupP_le hf d
        rw [this]
        exact Ev.now _
      · simp only [hm, decide_false, if_false, Bool.false_eq_true]
        have := ih (_, _) ⟨rfl, fun _ => by rw [nodupP, neP_mem hi, decide_eq_false hm, hd k1]; rfl⟩
        rw [k1] at this
        exact this
    · simp only [k1, if_false]
      exact ih (_, _) ⟨rfl, fun h => absurd h k1⟩

end Go.Proofs.Ythfbjkniinfgcaa.Pure
namespace Go.Proofs.Ythfbjkniinfgcaa.Pure
set_option linter.unusedSimpArgs false
set_option linter.unusedVariables false
open Go.RowKit Go.Proofs.YthfbjkniinfgcaaW.PrintWords Go.Proofs.YthfbjkniinfgcaaW.PrintMore Go.Proofs.Ythfbjkniinfgcaa.P


/-- The values of a mask. -/
def mvals (m : Int) : List Int := if 0 ≤ m ∧ m ≤ 30 ∧ m % 2 = 0 then [1, 2, 3, 4].filter (fun v => decide ((m / 2 ^ v.toNat) % 2 = 1)) else []
theorem even_cases {m : Int} (h : 0 ≤ m ∧ m ≤ 30 ∧ m % 2 = 0) : m = 0 ∨ m = 2 ∨ m = 4 ∨ m = 6 ∨ m = 8 ∨ m = 10 ∨ m = 12 ∨ m = 14 ∨ m = 16 ∨ m = 18 ∨ m = 20 ∨ m = 22 ∨ m = 24 ∨ m = 26 ∨ m = 28 ∨ m = 30 := by omega
theorem specMaskValues_ev (m : Int) : Ev (fun k => spec_MaskValues.f k m) (mvals m) := by
  by_cases h : 0 ≤ m ∧ m ≤ 30 ∧ m % 2 = 0
  · rcases even_cases h with rfl | rfl | rfl | rfl | rfl | rfl | rfl | rfl | rfl | rfl | rfl | rfl | rfl | rfl | rfl | rfl <;>
      exact Ev.of (spec_MaskValues.mono _) (k := 12) (by decide +kernel)
  · have e : mvals m = [] := by unfold mvals; rw [if_neg h]
    rw [e]
    unfold spec_MaskValues.f
    refine Ev.step (fun k => spec_MaskValues.l0.eq_2 _ _ _ k) ?_
    have h4 : (1 : Int) ≤ 4 := by decide
    simp only [h4, if_true, l1In_eq, Option.bind_some]
    by_cases hr : 0 ≤ m ∧ m ≤ 30
    · have ht : ¬ Int.tmod m 2 = 0 := by rw [Int.tmod_eq_emod_of_nonneg hr.1]; omega
      have ht2 : (Int.tmod m 2 == 0) = false := by simpa using ht
      simp only [hr, ht2, and_self, decide_true, if_true]
      refine Ev.step (fun k => spec_MaskValues.j1.eq_2 _ _ _ _ k) ?_
      simp only [Bool.false_eq_true, if_false]
      exact Ev.now _
    · simp only [hr, decide_false, Bool.false_eq_true, if_false]
      refine Ev.step (fun k => spec_MaskValues.j1.eq_2 _ _ _ _ k) ?_
      simp only [Bool.false_eq_true, if_false]
      exact Ev.now _

end Go.Proofs.Ythfbjkniinfgcaa.Pure
namespace Go.Proofs.Ythfbjkniinfgcaa.Pure
set_option linter.unusedSimpArgs false
set_option linter.unusedVariables false
open Go.RowKit Go.Proofs.YthfbjkniinfgcaaW.PrintWords Go.Proofs.YthfbjkniinfgcaaW.PrintMore


theorem le_of_andNot {v : Int} {M : Nat} (hM : M < 2 ^ 64) (h0 : 0 ≤ v) (h1 : v < 2 ^ 63) (h : Go.bits .andNot .i64 v (M : Int) = 0) : v ≤ M := by
  unfold Go.bits at h
  simp only [IntKind.wrap_i64] at h
  have hlt := (BitVec.ofInt IntKind.i64.bits v &&& ~~~ BitVec.ofInt IntKind.i64.bits (M : Int)).isLt
  have hbits : IntKind.i64.bits = 64 := rfl
  rw [hbits] at h hlt
  have ht : (BitVec.ofInt 64 v &&& ~~~ BitVec.ofInt 64 (M : Int)).toNat = 0 := by omega
  have e : BitVec.ofInt 64 v &&& ~~~ BitVec.ofInt 64 (M : Int) = 0#64 := BitVec.eq_of_toNat_eq (by simpa using ht)
  have e2 : BitVec.ofInt 64 v = BitVec.ofInt 64 v &&& BitVec.ofInt 64 (M : Int) := by
    apply BitVec.eq_of_getLsbD_eq
    intro i hi
    have h := congrArg (fun x => BitVec.getLsbD x i) e
    simp only [BitVec.getLsbD_and, BitVec.getLsbD_not, BitVec.getLsbD_zero, hi, decide_true, Bool.true_and] at h ⊢
    cases hx : (BitVec.ofInt 64 v).getLsbD i <;> cases hy : (BitVec.ofInt 64 (M : Int)).getLsbD i <;> simp_all
  have e3 := congrArg BitVec.toNat e2
  rw [BitVec.toNat_and] at e3
  have e4 : (BitVec.ofInt 64 (M : Int)).toNat = M := by
    rw [BitVec.toNat_ofInt]; omega
  have e5 : (BitVec.ofInt 64 v).toNat = v.toNat := by
    rw [BitVec.toNat_ofInt]; omega
  rw [e4, e5] at e3
  have := @Nat.and_le_right v.toNat M
  omega
theorem and7_range (s : Int) : 0 ≤ Go.bits .and .i64 s 7 ∧ Go.bits .and .i64 s 7 ≤ 7 := by
  unfold Go.bits
  simp only [IntKind.wrap_i64]
  rw [BitVec.toNat_and]
  have := @Nat.and_le_right (BitVec.ofInt IntKind.i64.bits s).toNat (BitVec.ofInt IntKind.i64.bits 7).toNat
  have e : (BitVec.ofInt IntKind.i64.bits 7).toNat = 7 := by decide
  rw [e] at this ⊢
  omega
theorem andNot_fin : ∀ s : Fin 5, sizeOkB s = true → ∀ v : Fin 31, (Go.bits .andNot .i64 (v.val : Int) (allM s) = 0 ↔ (v.val : Int) ≤ allM s ∧ (v.val : Int) % 2 = 0) := by decide +kernel
theorem andNot_iff {s v : Int} (hs : sizeOkB s = true) (h0 : 0 ≤ v) (h1 : v < 2 ^ 63) : Go.bits .andNot .i64 v (allM s) = 0 ↔ v ≤ allM s ∧ v % 2 = 0 := by
  have hr : allM s ≤ 30 := by rcases sizeOkB_iff.1 hs with rfl | rfl | rfl <;> decide
  have hc : ((allM s).toNat : Int) = allM s := by rcases sizeOkB_iff.1 hs with rfl | rfl | rfl <;> decide
  by_cases hv : v ≤ 30
  · have hs' : ∃ j : Fin 5, (j.val : Int) = s := by
      rcases sizeOkB_iff.1 hs with rfl | rfl | rfl
      · exact ⟨2, rfl⟩
      · exact ⟨3, rfl⟩
      · exact ⟨4, rfl⟩
    obtain ⟨j, rfl⟩ := hs'
    have := andNot_fin j hs ⟨v.toNat, by omega⟩
    rwa [show ((v.toNat : Nat) : Int) = v by omega] at this
  · constructor
    · intro h
      rw [← hc] at h
      have := le_of_andNot (by omega) h0 h1 h
      omega
    · intro h; omega

end Go.Proofs.Ythfbjkniinfgcaa.Pure
namespace Go.Proofs.Ythfbjkniinfgcaa.Pure
set_option linter.unusedSimpArgs false
set_option linter.unusedVariables false
open Go.RowKit Go.Proofs.YthfbjkniinfgcaaW.PrintWords Go.Proofs.YthfbjkniinfgcaaW.PrintMore Go.Proofs.Ythfbjkniinfgcaa.P


theorem specMasksValid_ev (g : List Int) (s : Int) (h : g.length ≤ 35184372088832) : Ev (fun k => spec_MasksValid.f k g s) (masksB g s) := by
  unfold spec_MasksValid.f
  obtain ⟨B, hB⟩ : ∃ B, wrap64 ((shl .i64 1 (wrap64 ((Go.bits .and .i64 s 7) + 1))) - 2) = B := ⟨_, rfl⟩
  have hBs : sizeOkB s = true → B = allM s := by
    intro hs; rw [← hB]; rcases sizeOkB_iff.1 hs with rfl | rfl | rfl <;> decide +kernel
  have h7 : (0 : Int) ≤ wrap64 ((Go.bits .and .i64 s 7) + 1) := by
    have := and7_range s
    rw [w64 (by omega) (by omega)]; omega
  have := Ev.range0 (L := fun k i => spec_MasksValid.l0 k g s i) (R := fun n => (g.drop n).all (fun v => decide (0 ≤ v ∧ v ≤ B ∧ v % 2 = 0)) && (sizeOkB s && decide ((g.length : Int) = s * s))) (N := g.length) ?_ ?_ 0 (Nat.zero_le _)
  · have e : masksB g s = ((g.drop 0).all (fun v => decide (0 ≤ v ∧ v ≤ B ∧ v % 2 = 0)) && (sizeOkB s && decide ((g.length : Int) = s * s))) := by
      unfold masksB; rw [List.drop_zero]
      cases hs : sizeOkB s
      · simp
      · rw [hBs hs]; cases decide ((g.length : Int) = s * s) <;> simp
    rw [e]; simpa using this
  · refine Ev.step (fun k => spec_MasksValid.l0.eq_2 _ _ _ k) ?_
    simp only [Int.lt_irrefl, if_false, l1In_eq, Option.bind_some, List.drop_length, List.all_nil, Bool.true_and]
    by_cases hs : sizeOkB s = true
    · have hs' : decide (2 ≤ s ∧ s ≤ 4) = true := hs
      have hw : wrap64 (s * s) = s * s := by rcases sizeOkB_iff.1 hs with rfl | rfl | rfl <;> decide +kernel
      simp only [hs', if_true, hs, hw, Bool.true_and]
      have e : ((g.length : Int) == s * s) = decide ((g.length : Int) = s * s) := by
        by_cases h : (g.length : Int) = s * s <;> simp [h]
      rw [e]; exact Ev.now _
    · have hs' : ¬ decide (2 ≤ s ∧ s ≤ 4) = true := hs
      simp only [hs', if_false, Bool.false_and, eq_false_of_ne_true hs, Bool.false_eq_true]
      exact Ev.now _
  · intro n hn ih
    refine Ev.step (fun k => spec_MasksValid.l0.eq_2 _ _ _ k) ?_
    have h1 : (n : Int) < (g.length : Int) := by omega
    have h3 : (0 : Int) ≤ n := by omega
    rw [drop_cons hn]
    simp only [h1, h3, h7, if_true, rd_lt hn, l1In_eq, Option.bind_some, List.all_cons, hB]
    by_cases hv : 0 ≤ g[n] ∧ g[n] ≤ B
    · have ht : Int.tmod g[n] 2 = g[n] % 2 := Int.tmod_eq_emod_of_nonneg hv.1
      by_cases h2 : g[n] % 2 = 0
      · have e : decide (0 ≤ g[n] ∧ g[n] ≤ B ∧ g[n] % 2 = 0) = true := decide_eq_true ⟨hv.1, hv.2, h2⟩
        rw [e]
        simp only [decide_eq_true hv, ht, h2, if_true, w64n (by omega : n < 9000000000000000000), Bool.true_and]
        exact ih
      · have e : decide (0 ≤ g[n] ∧ g[n] ≤ B ∧ g[n] % 2 = 0) = false := decide_eq_false (fun h => h2 h.2.2)
        rw [e]
        simp only [decide_eq_true hv, ht, h2, if_true, if_false, Bool.false_and]
        exact Ev.now _
    · have e : decide (0 ≤ g[n] ∧ g[n] ≤ B ∧ g[n] % 2 = 0) = false := decide_eq_false (fun h => hv ⟨h.1, h.2.1⟩)
      simp only [decide_eq_false hv, e, if_false, Bool.false_and, Bool.false_eq_true]
      exact Ev.now _
theorem implMasksValid_ev (g : List Int) (s : Int) (h : g.length ≤ 35184372088832) (hw : ∀ x ∈ g, x ≤ 9223372036854775807) : Ev (fun k => impl_MasksValid.f k g s) (masksB g s) := by
  unfold impl_MasksValid.f
  simp only [sizeOk_eq, Option.bind_some]
  by_cases hs : sizeOkB s = true
  · have hw2 : wrap64 (s * s) = s * s := by rcases sizeOkB_iff.1 hs with rfl | rfl | rfl <;> decide +kernel
    simp only [hs, if_true, hw2]
    refine Ev.step (fun k => impl_MasksValid.j0.eq_2 _ _ _ k) ?_
    by_cases hl : (g.length : Int) = s * s
    · have e : ((g.length : Int) != s * s) = false := by simp [hl]
      simp only [e, Bool.false_eq_true, if_false]
      have := Ev.range0 (L := fun k i => impl_MasksValid.l0 k s g (g.length : Int) i) (R := fun n => (g.drop n).all (fun v => decide (0 ≤ v ∧ v ≤ allM s ∧ v % 2 = 0))) (N := g.length) ?_ ?_ 0 (Nat.zero_le _)
      · have e : masksB g s = (g.drop 0).all (fun v => decide (0 ≤ v ∧ v ≤ allM s ∧ v % 2 = 0)) := by
          unfold masksB; rw [List.drop_zero, hs, hl]; simp
        rw [e]; simpa using this
      · refine Ev.step (fun k => impl_MasksValid.l0.eq_2 _ _ _ _ k) ?_
        simp only [Int.lt_irrefl, if_false, List.drop_length, List.all_nil]
        exact Ev.now _
      · intro n hn ih
        refine Ev.step (fun k => impl_MasksValid.l0.eq_2 _ _ _ _ k) ?_
        have h1 : (n : Int) < (g.length : Int) := by omega
        have h3 : (0 : Int) ≤ n := by omega
        rw [drop_cons hn]
        simp only [h1, h3, if_true, rd_lt hn, List.all_cons]
        by_cases ha : g[n] < 0
        · have : decide (0 ≤ g[n] ∧ g[n] ≤ allM s ∧ g[n] % 2 = 0) = false := decide_eq_false (by omega)
          simp only [ha, if_true, this, Bool.false_and]
          exact Ev.now _
        · have hb := hw g[n] (List.getElem_mem hn)
          have hi := andNot_iff hs (v := g[n]) (by omega) (by omega)
          simp only [ha, if_false, allValues_eq hs, Option.bind_some]
          by_cases hz : Go.bits .andNot .i64 g[n] (allM s) = 0
          · have : decide (0 ≤ g[n] ∧ g[n] ≤ allM s ∧ g[n] % 2 = 0) = true := decide_eq_true ⟨by omega, hi.1 hz⟩
            simp only [hz, if_true, this, Bool.true_and, w64n (by omega : n < 9000000000000000000)]
            exact ih
          · have : decide (0 ≤ g[n] ∧ g[n] ≤ allM s ∧ g[n] % 2 = 0) = false := decide_eq_false (fun h => hz (hi.2 h.2))
            simp only [hz, if_false, this, Bool.false_and]
            exact Ev.now _
    · have e : ((g.length : Int) != s * s) = true := by simp [hl]
      have e2 : masksB g s = false := by unfold masksB; simp [hl]
      simp only [e, if_true, e2]
      exact Ev.now _
  · have e2 : masksB g s = false := by unfold masksB; simp [hs]
    simp only [hs, if_false, e2, Bool.false_eq_true]
    refine Ev.step (fun k => impl_MasksValid.j0.eq_2 _ _ _ k) ?_
    simp only [if_true]
    exact Ev.now _

end Go.Proofs.Ythfbjkniinfgcaa.Pure
namespace Go.Proofs.Ythfbjkniinfgcaa.Pure
set_option linter.unusedSimpArgs false
set_option linter.unusedVariables false
open Go.RowKit Go.Proofs.YthfbjkniinfgcaaW.PrintWords Go.Proofs.YthfbjkniinfgcaaW.PrintMore Go.Proofs.Ythfbjkniinfgcaa.P


theorem specRuleTail_ev (s kind v : Int) (cs : List Int) (hs : sizeOkB s = true) : Ev (fun k => spec_RuleValid.j2 k s (cs.length : Int) (decide ((cs.length : Int) > 4)) kind cs v) (ruleTail kind cs.length v s) := by
  have hsz := sizeOkB_iff.1 hs
  have hw : wrap64 ((wrap64 ((wrap64 (s * s)) * s)) * s) = s * s * s * s := by rcases hsz with rfl | rfl | rfl <;> decide +kernel
  have hw1 : wrap64 (s - 1) = s - 1 := by rcases hsz with rfl | rfl | rfl <;> decide +kernel
  refine Ev.step (fun k => spec_RuleValid.j2.eq_2 _ _ _ _ _ _ k) ?_
  unfold ruleTail
  by_cases h4 : (cs.length : Int) > 4
  · have h4' : ¬ (cs.length : Int) ≤ 4 := by omega
    simp only [h4, h4', decide_true, decide_false, if_true, Bool.false_and]
    exact Ev.now _
  · have h4' : (cs.length : Int) ≤ 4 := by omega
    simp only [h4, h4', decide_true, decide_false, if_false, Bool.true_and, Bool.false_eq_true]
    by_cases k1 : kind = 1
    · simp only [k1, if_true]
      by_cases h2 : (cs.length : Int) ≥ 2
      · have h2' : 2 ≤ (cs.length : Int) := h2
        simp only [h2, h2', if_true, true_and]
        by_cases hv : v = 0
        · subst hv; exact Ev.now _
        · have e1 : (v == 0) = false := by rw [beq_eq_false_iff_ne]; exact hv
          simp only [hv, e1, decide_false]; exact Ev.now _
      · have h2' : ¬ 2 ≤ (cs.length : Int) := h2
        simp only [h2, h2', if_false, false_and, decide_false]
        exact Ev.now _
    · simp only [k1, if_false]
      have hj : ∀ b, b = (decide (kind = 2 ∨ kind = 3)) → Ev (fun k => spec_RuleValid.j3 k s (cs.length : Int) kind b kind cs v) (if kind = 2 ∨ kind = 3 then decide (1 ≤ (cs.length : Int) ∧ 1 ≤ v ∧ v ≤ s * s * s * s) else if kind = 4 then decide ((cs.length : Int) = 2 ∧ v = 0) else if kind = 5 then decide ((cs.length : Int) = 2 ∧ 0 ≤ v ∧ v < s) else false) := by
        rintro b rfl
        refine Ev.step (fun k => spec_RuleValid.j3.eq_2 _ _ _ _ _ _ _ k) ?_
        by_cases k2 : kind = 2 ∨ kind = 3
        · simp only [k2, decide_true, if_true]
          by_cases h1 : (cs.length : Int) ≥ 1
          · have h1' : 1 ≤ (cs.length : Int) := h1
            simp only [h1, h1', if_true, true_and, l1In_eq, Option.bind_some, hw]
            exact Ev.now _
          · have h1' : ¬ 1 ≤ (cs.length : Int) := h1
            simp only [h1, h1', if_false, false_and, decide_false]
            exact Ev.now _
        · simp only [k2, decide_false, if_false, Bool.false_eq_true]
          by_cases k4 : kind = 4
          · simp only [k4, if_true]
            by_cases h2 : (cs.length : Int) = 2
            · simp only [h2, if_true, true_and]
              by_cases hv : v = 0
              · subst hv; exact Ev.now _
              · have e1 : (v == 0) = false := by rw [beq_eq_false_iff_ne]; exact hv
                simp only [hv, e1, decide_false]; exact Ev.now _
            · simp only [h2, if_false, false_and, decide_false]
              exact Ev.now _
          · simp only [k4, if_false]
            by_cases k5 : kind = 5
            · simp only [k5, if_true]
              by_cases h2 : (cs.length : Int) = 2
              · have hlt : (v ≤ s - 1) = (v < s) := by apply propext; omega
                simp only [h2, if_true, true_and, l1In_eq, Option.bind_some, hw1, hlt]
                exact Ev.now _
              · simp only [h2, if_false, false_and, decide_false]
                exact Ev.now _
            · simp only [k5, if_false]
              exact Ev.now _
      by_cases k2 : kind = 2
      · have e : (kind == 2) = decide (kind = 2 ∨ kind = 3) := by simp [k2]
        have := hj _ e
        simpa only [k2, if_true] using this
      · have e : (kind == 3) = decide (kind = 2 ∨ kind = 3) := by
          by_cases k3 : kind = 3 <;> simp [k2, k3]
        have := hj _ e
        simp only [k2, if_false]
        simpa only [k2, false_or] using this
theorem specRuleValid_ev (kind : Int) (cs : List Int) (v s : Int) (hl : cs.length ≤ 35184372088832) : Ev (fun k => spec_RuleValid.f k kind cs v s) (ruleB kind cs v s) := by
  unfold spec_RuleValid.f ruleB
  have hRf : ∀ i, i < cs.length → (sizeOkB s = true → goodCells (s * s) cs (i + 1) = false) → (sizeOkB s && (goodCells (s * s) cs cs.length && ruleTail kind cs.length v s)) = false := by
    intro i hi h
    by_cases hs : sizeOkB s = true
    · rw [hs, goodCells_le (h hs) (by omega : i + 1 ≤ cs.length)]; rfl
    · rw [eq_false_of_ne_true hs]; rfl
  have := Ev.range (σ := Unit) (L := fun k _ i => spec_RuleValid.l0 k s i kind cs v) (R := fun _ _ => sizeOkB s && (goodCells (s * s) cs cs.length && ruleTail kind cs.length v s)) (N := cs.length) (fun _ i => sizeOkB s = true → goodCells (s * s) cs i = true) ?_ ?_ () 0 (Nat.zero_le _) (fun _ => rfl)
  · simpa using this
  · intro _ hg
    refine Ev.step (fun k => spec_RuleValid.l0.eq_2 _ _ _ _ _ k) ?_
    simp only [Int.lt_irrefl, if_false, l1In_eq, Option.bind_some]
    by_cases hs : sizeOkB s = true
    · have hs' := hs
      unfold sizeOkB at hs'
      rw [hg hs, hs]
      simp only [hs', if_true, Bool.true_and]
      exact specRuleTail_ev s kind v cs hs
    · have hs' := eq_false_of_ne_true hs
      rw [hs']
      unfold sizeOkB at hs'
      simp only [hs', Bool.false_eq_true, if_false, Bool.false_and]
      refine Ev.step (fun k => spec_RuleValid.j2.eq_2 _ _ _ _ _ _ k) ?_
      simp only [if_true]
      exact Ev.now _
  · intro _ i hi hg ih
    refine Ev.step (fun k => spec_RuleValid.l0.eq_2 _ _ _ _ _ k) ?_
    have h1 : (i : Int) < (cs.length : Int) := by omega
    have h0 : (0 : Int) ≤ (i : Int) := Int.natCast_nonneg i
    simp only [h1, h0, if_true, l1In_eq, Option.bind_some]
    by_cases hc : 0 ≤ rd cs (i : Int) ∧ rd cs (i : Int) ≤ wrap64 ((wrap64 (s * s)) - 1)
    · simp only [hc, and_self, decide_true, if_true]
      have := Ev.range (σ := Unit) (L := fun k _ j => spec_RuleValid.l1 k s (i : Int) j kind cs v) (R := fun _ _ => sizeOkB s && (goodCells (s * s) cs cs.length && ruleTail kind cs.length v s)) (N := i) (fun _ j => ∀ d, d < j → rd cs (d : Int) ≠ rd cs (i : Int)) ?_ ?_ () 0 (Nat.zero_le _) (fun d hd => absurd hd (Nat.not_lt_zero d))
      · simpa using this
      · intro _ hno
        refine Ev.step (fun k => spec_RuleValid.l1.eq_2 _ _ _ _ _ _ k) ?_
        simp only [Int.lt_irrefl, if_false, w64n (by omega : i < 9000000000000000000)]
        refine ih () (fun hs => ?_)
        have ht : wrap64 ((wrap64 (s * s)) - 1) = s * s - 1 := by rcases sizeOkB_iff.1 hs with rfl | rfl | rfl <;> decide +kernel
        rw [ht] at hc
        have hm : ¬ rd cs (i : Int) ∈ cs.take i := by
          intro hm
          obtain ⟨j, hj, _, he⟩ := mem_take_iff.1 hm
          exact hno j hj he
        rw [goodCells, hg hs, decide_eq_true (⟨hc.1, by omega⟩ : 0 ≤ rd cs (i : Int) ∧ rd cs (i : Int) < s * s), decide_eq_false hm]
        rfl
      · intro _ j hj hno ihj
        refine Ev.step (fun k => spec_RuleValid.l1.eq_2 _ _ _ _ _ _ k) ?_
        have h2 : (j : Int) < (i : Int) := by omega
        have h3 : (0 : Int) ≤ (j : Int) := Int.natCast_nonneg j
        have h4 : (j : Int) < (cs.length : Int) := by omega
        simp only [h2, h3, h4, h1, h0, if_true, w64n (by omega : j < 9000000000000000000)]
        by_cases he : rd cs (j : Int) = rd cs (i : Int)
        · simp only [he, if_true]
          rw [hRf i hi (fun hs => by
            have hm : rd cs (i : Int) ∈ cs.take i := mem_take_iff.2 ⟨j, hj, by omega, he⟩
            rw [goodCells, decide_eq_true hm]; simp)]
          exact Ev.now _
        · simp only [he, if_false]
          refine ihj () (fun d hd => ?_)
          by_cases hdj : d = j
          · rw [hdj]; exact he
          · exact hno d (by omega)
    · simp only [hc, decide_false, if_false, Bool.false_eq_true]
      rw [hRf i hi (fun hs => by
        have ht : wrap64 ((wrap64 (s * s)) - 1) = s * s - 1 := by rcases sizeOkB_iff.1 hs with rfl | rfl | rfl <;> decide +kernel
        rw [ht] at hc
        have hn : ¬ (0 ≤ rd cs (i : Int) ∧ rd cs (i : Int) < s * s) := fun h => hc ⟨h.1, by omega⟩
        rw [goodCells, decide_eq_false hn]; simp)]
      exact Ev.now _

end Go.Proofs.Ythfbjkniinfgcaa.Pure
namespace Go.Proofs.Ythfbjkniinfgcaa.Pure
set_option linter.unusedSimpArgs false
set_option linter.unusedVariables false
open Go.RowKit Go.Proofs.YthfbjkniinfgcaaW.PrintWords Go.Proofs.YthfbjkniinfgcaaW.PrintMore Go.Proofs.Ythfbjkniinfgcaa.P

theorem ruleB_parts {kind : Int} {cs : List Int} {v s : Int} (h : ruleB kind cs v s = true) : sizeOkB s = true ∧ goodCells (s * s) cs cs.length = true ∧ cs.length ≤ 4 ∧ 1 ≤ kind ∧ kind ≤ 5 ∧ (4 ≤ kind → cs.length = 2) := by
  unfold ruleB ruleTail at h
  simp only [Bool.and_eq_true, decide_eq_true_eq] at h
  obtain ⟨h1, h2, h3, h4⟩ := h
  refine ⟨h1, h2, by omega, ?_⟩
  by_cases k1 : kind = 1
  · omega
  · rw [if_neg k1] at h4
    by_cases k2 : kind = 2 ∨ kind = 3
    · omega
    · rw [if_neg k2] at h4
      by_cases k4 : kind = 4
      · rw [if_pos k4] at h4
        simp only [decide_eq_true_eq] at h4
        omega
      · rw [if_neg k4] at h4
        by_cases k5 : kind = 5
        · rw [if_pos k5] at h4
          simp only [decide_eq_true_eq] at h4
          omega
        · rw [if_neg k5] at h4; cases h4
theorem cell_mem {t : Int} {cs : List Int} (h : goodCells t cs cs.length = true) : ∀ c ∈ cs, 0 ≤ c ∧ c < t := by
  intro c hc
  obtain ⟨i, hi, he⟩ := List.mem_iff_getElem.1 hc
  have := goodCells_at h i hi
  rw [rd_lt hi, he] at this
  exact this

end Go.Proofs.Ythfbjkniinfgcaa.Pure
namespace Go.Proofs.Ythfbjkniinfgcaa.Pure
set_option linter.unusedSimpArgs false
set_option linter.unusedVariables false
open Go.RowKit Go.Proofs.YthfbjkniinfgcaaW.PrintWords Go.Proofs.YthfbjkniinfgcaaW.PrintMore


/-- The values of a way, marked in the masks of the cells: cells i, i + 1, .. -/
def orP (vals : List Int) : Nat → Int → List Int → List Int
  | 0, _, out => out
  | d + 1, i, out => orP vals d (i + 1) (out.set i.toNat (Go.bits .or .i64 (rd out i) (shl .i64 1 (rd vals i))))
/-- All ways that go on from the values of the first cells; d cells are left. -/
def waysM (kind v : Int) (own : List Int) : Nat → List Int → List Int → List Int
  | 0, pre, out => if holdsB kind v pre = true then orP pre pre.length 0 out else out
  | d + 1, pre, out => (mvals (rd own (pre.length : Nat))).foldl (fun o x => waysM kind v own d (pre ++ [x]) o) out
theorem orP_len (vals : List Int) : ∀ (d : Nat) (i : Int) (out : List Int), (orP vals d i out).length = out.length
  | 0, _, _ => rfl
  | d + 1, i, out => by unfold orP; rw [orP_len vals d, List.length_set]
theorem foldl_len {f : List Int → Int → List Int} (h : ∀ o x, (f o x).length = o.length) : ∀ (l : List Int) (o : List Int), (l.foldl f o).length = o.length
  | [], _ => rfl
  | x :: l, o => by rw [List.foldl_cons, foldl_len h l, h]
theorem waysM_len (kind v : Int) (own : List Int) : ∀ (d : Nat) (pre out : List Int), (waysM kind v own d pre out).length = out.length
  | 0, pre, out => by
    unfold waysM; split
    · exact orP_len _ _ _ _
    · rfl
  | d + 1, pre, out => by
    unfold waysM
    exact foldl_len (fun o x => waysM_len kind v own d _ o) _ _
theorem mvals_range {m x : Int} (h : x ∈ mvals m) : 1 ≤ x ∧ x ≤ 4 := by
  unfold mvals at h
  split at h
  · have := (List.mem_filter.1 h).1
    simp at this
    omega
  · cases h
theorem mvals_len4 (m : Int) : (mvals m).length ≤ 4 := by
  unfold mvals; split
  · exact List.length_filter_le _ _
  · exact Nat.zero_le _
/-- The masks that are found for a rule. -/
def ruleMasks (kind : Int) (cs : List Int) (v : Int) (masks : List Int) (s : Int) : List Int := if ruleB kind cs v s = true ∧ masksB masks s = true then waysM kind v (cs.map (fun c => rd masks c)) cs.length [] (List.replicate cs.length 0) else []
theorem ruleB_len {kind : Int} {cs : List Int} {v s : Int} (h : ruleB kind cs v s = true) : 1 ≤ cs.length ∧ cs.length ≤ 4 := by
  have h4 := (ruleB_parts h).2.2.1
  unfold ruleB ruleTail at h
  simp only [Bool.and_eq_true, decide_eq_true_eq] at h
  refine ⟨?_, h4⟩
  have h2 := h.2.2.2
  split at h2
  · simp only [decide_eq_true_eq] at h2; omega
  · split at h2
    · simp only [decide_eq_true_eq] at h2; omega
    · split at h2
      · simp only [decide_eq_true_eq] at h2; omega
      · split at h2
        · simp only [decide_eq_true_eq] at h2; omega
        · cases h2
theorem ruleMasks_len (kind : Int) (cs : List Int) (v : Int) (masks : List Int) (s : Int) : (ruleMasks kind cs v masks s).length ≤ 16 := by
  unfold ruleMasks; split
  · rename_i h
    rw [waysM_len, List.length_replicate]
    have := (ruleB_len h.1).2
    omega
  · exact Nat.zero_le _
/-- What is needed of a rule's kind and its number of cells. -/
def KindOK (kind : Int) (n : Nat) : Prop := n ≤ 4 ∧ 1 ≤ kind ∧ kind ≤ 5 ∧ (4 ≤ kind → n = 2)
theorem kindOK_rule {kind : Int} {cs : List Int} {v s : Int} (h : ruleB kind cs v s = true) : KindOK kind cs.length := by
  obtain ⟨_, _, h1, h2, h3, h4⟩ := ruleB_parts h
  exact ⟨h1, h2, h3, h4⟩
theorem KindOK.vals {kind : Int} {n : Nat} (h : KindOK kind n) {l : List Int} (hl : l.length = n) (hv : ∀ x ∈ l, 0 ≤ x ∧ x ≤ 4) : ValsOK kind l := by
  obtain ⟨h1, h2, h3, h4⟩ := h
  exact ⟨by omega, hv, h2, h3, fun h => by rw [hl]; exact h4 h⟩
theorem foldl_drop {β : Type} (f : β → Int → β) (l : List Int) (j : Nat) (hj : j < l.length) (o : β) : (l.drop j).foldl f o = (l.drop (j + 1)).foldl f (f o l[j]) := by
  rw [List.drop_eq_getElem_cons hj, List.foldl_cons]

end Go.Proofs.Ythfbjkniinfgcaa.Pure
namespace Go.Proofs.Ythfbjkniinfgcaa.Pure
set_option linter.unusedSimpArgs false
set_option linter.unusedVariables false
open Go.RowKit Go.Proofs.YthfbjkniinfgcaaW.PrintWords Go.Proofs.YthfbjkniinfgcaaW.PrintMore Go.Proofs.Ythfbjkniinfgcaa.P


theorem l4Ways_ev {kind v : Int} {cs masks : List Int} (hk : KindOK kind cs.length) (hc : ∀ c ∈ cs, 0 ≤ c ∧ c < (masks.length : Int)) : ∀ (d : Nat) (pre out : List Int), pre.length + d = cs.length → out.length = cs.length → (∀ x ∈ pre, 0 ≤ x ∧ x ≤ 4) → Ev (fun k => spec_l4Ways.f k kind cs v masks pre out) (waysM kind v (cs.map (fun c => rd masks c)) d pre out)
  | 0, pre, out, hp, ho, hx => by
    refine Ev.step (fun k => spec_l4Ways.f.eq_2 _ _ _ _ _ _ k) ?_
    have e : (pre.length : Int) = (cs.length : Int) := by omega
    simp only [e, if_true]
    refine Ev.bind (l4Holds_ev (hk.vals (by omega) hx)) ?_
    unfold waysM
    by_cases hh : holdsB kind v pre = true
    · simp only [hh, if_true]
      have hn4 := hk.1
      refine Ev.range (L := fun k (x : List Int) j => spec_l4Ways.l0 k pre x (cs.length : Int) j) (R := fun _ _ => orP pre pre.length 0 out) (N := cs.length) (fun x j => x.length = cs.length ∧ orP pre pre.length 0 out = orP pre (cs.length - j) (j : Int) x) ?_ ?_ out 0 (Nat.zero_le _) ⟨ho, by rw [show cs.length - 0 = pre.length by omega]; rfl⟩
      · rintro x ⟨hl, he⟩
        refine Ev.step (fun k => spec_l4Ways.l0.eq_2 _ _ _ _ k) ?_
        simp only [Int.lt_irrefl, if_false]
        rw [he, Nat.sub_self, orP]
        exact Ev.now _
      · rintro x j hj ⟨hl, he⟩ ih
        refine Ev.step (fun k => spec_l4Ways.l0.eq_2 _ _ _ _ k) ?_
        have h1 : (j : Int) < (cs.length : Int) := by omega
        have h0 : (0 : Int) ≤ (j : Int) := by omega
        have h2 : (j : Int) < (x.length : Int) := by omega
        have h3 : (j : Int) < (pre.length : Int) := by omega
        have h4 : 0 ≤ rd pre (j : Int) := (hx _ (rd_mem h0 h3)).1
        simp only [h0, h1, h2, h3, h4, if_true, w64n (by omega : j < 9000000000000000000), Int.toNat_natCast]
        refine ih _ ⟨by rw [List.length_set]; exact hl, ?_⟩
        rw [he, show cs.length - j = (cs.length - (j + 1)) + 1 by omega, orP, Int.toNat_natCast]
        congr 1
    · simp only [hh, if_false]
      exact Ev.now _
  | d + 1, pre, out, hp, ho, hx => by
    refine Ev.step (fun k => spec_l4Ways.f.eq_2 _ _ _ _ _ _ k) ?_
    have e : ¬ (pre.length : Int) = (cs.length : Int) := by omega
    have h0 : (0 : Int) ≤ (pre.length : Int) := by omega
    have h1 : (pre.length : Int) < (cs.length : Int) := by omega
    obtain ⟨c0, c1⟩ := hc _ (rd_mem h0 h1)
    simp only [e, h0, h1, c0, c1, if_true, if_false]
    refine Ev.bind (specMaskValues_ev _) ?_
    have hn4 := hk.1
    unfold waysM
    have em : rd (cs.map (fun c => rd masks c)) (pre.length : Nat) = rd masks (rd cs (pre.length : Nat)) := by
      rw [rd_lt (by rw [List.length_map]; omega), rd_lt (by omega : pre.length < cs.length), List.getElem_map]
    rw [em]
    generalize hL : mvals (rd masks (rd cs (pre.length : Nat))) = L
    have hL4 : L.length ≤ 4 := by rw [← hL]; exact mvals_len4 _
    have hLr : ∀ x ∈ L, 1 ≤ x ∧ x ≤ 4 := by intro x hx; rw [← hL] at hx; exact mvals_range hx
    have := Ev.range (L := fun k (x : List Int) j => spec_l4Ways.l1 k masks pre x L j kind cs v) (R := fun x j => (L.drop j).foldl (fun o x => waysM kind v (cs.map (fun c => rd masks c)) d (pre ++ [x]) o) x) (N := L.length) (fun x j => x.length = cs.length) ?_ ?_ out 0 (Nat.zero_le _) ho
    · simpa using this
    · intro x hl
      refine Ev.step (fun k => spec_l4Ways.l1.eq_2 _ _ _ _ _ _ _ _ k) ?_
      simp only [Int.lt_irrefl, if_false, List.drop_length, List.foldl_nil]
      exact Ev.now _
    · intro x j hj hl ih
      refine Ev.step (fun k => spec_l4Ways.l1.eq_2 _ _ _ _ _ _ _ _ k) ?_
      have g1 : (j : Int) < (L.length : Int) := by omega
      have g0 : (0 : Int) ≤ (j : Int) := by omega
      have g2 : ([] : List Int).length + pre.length < 17592186044416 := by simp; omega
      have g3 : pre.length + ([rd L (j : Int)] : List Int).length < 17592186044416 := by simp; omega
      simp only [g1, g0, g2, if_true, Option.bind_some, List.nil_append, g3]
      have hr : rd L (j : Int) = L[j] := rd_lt hj
      have hm := hLr _ (List.getElem_mem hj)
      refine Ev.bind (l4Ways_ev hk hc d (pre ++ [rd L (j : Int)]) x (by simp; omega) hl (fun y hy => ?_)) ?_
      · rcases List.mem_append.1 hy with hy | hy
        · exact hx y hy
        · simp only [List.mem_singleton] at hy
          rw [hy, hr]; omega
      · rw [foldl_drop _ _ _ hj, w64n (by omega : j < 9000000000000000000)]
        have := ih (waysM kind v (cs.map (fun c => rd masks c)) d (pre ++ [rd L (j : Int)]) x) (by rw [waysM_len]; exact hl)
        rw [hr] at this ⊢
        exact this
theorem rule_cells {kind : Int} {cs : List Int} {v s : Int} {g : List Int} (h : ruleB kind cs v s = true) (hl : (g.length : Int) = s * s) : ∀ c ∈ cs, 0 ≤ c ∧ c < (g.length : Int) := by
  rw [hl]; exact cell_mem (ruleB_parts h).2.1
theorem specRuleMasks_ev (kind : Int) (cs : List Int) (v : Int) (masks : List Int) (s : Int) (hl : cs.length ≤ 35184372088832) (hml : masks.length ≤ 35184372088832) : Ev (fun k => spec_RuleMasks.f k kind cs v masks s) (ruleMasks kind cs v masks s) := by
  unfold spec_RuleMasks.f ruleMasks
  refine Ev.bind (specRuleValid_ev kind cs v s hl) ?_
  by_cases hr : ruleB kind cs v s = true
  · simp only [hr, if_true, true_and]
    refine Ev.bind (specMasksValid_ev masks s hml) ?_
    by_cases hm : masksB masks s = true
    · have h4 := ruleB_len hr
      have h0 : (0 : Int) ≤ (cs.length : Int) := by omega
      have h1 : cs.length ≤ 35184372088832 := hl
      simp only [hm, if_true, h0, Int.toNat_natCast, h1]
      refine Ev.bind (l4Ways_ev (kindOK_rule hr) (rule_cells hr (masksB_len hm)) cs.length [] (List.replicate cs.length 0) (by simp) (by simp) (by simp)) ?_
      exact Ev.now _
    · simp only [hm, if_false]
      exact Ev.now _
  · simp only [hr, if_false, false_and]
    exact Ev.now _

end Go.Proofs.Ythfbjkniinfgcaa.Pure
namespace Go.Proofs.Ythfbjkniinfgcaa.Pure
set_option linter.unusedSimpArgs false
set_option linter.unusedVariables false
open Go.RowKit Go.Proofs.YthfbjkniinfgcaaW.PrintWords Go.Proofs.YthfbjkniinfgcaaW.PrintMore Go.Proofs.Ythfbjkniinfgcaa.P


theorem mvals_marks {m : Int} (h : 0 ≤ m ∧ m ≤ 30 ∧ m % 2 = 0) : mvals m = (marks 1 4).filter (fun x => has m x) := by
  unfold mvals; rw [if_pos h]; rfl
theorem orFrom_eq (vals : List Int) : ∀ (d : Nat) (i : Int) (out : List Int), impl_ruleMasks.orFrom vals d i out = orP vals d i out
  | 0, _, _ => rfl
  | d + 1, i, out => by unfold impl_ruleMasks.orFrom orP; exact orFrom_eq vals d _ _
theorem tryV_ev {n i : Nat} {m : Int} (hm : 0 ≤ m ∧ m ≤ 30 ∧ m % 2 = 0) (hi : i < n) (F : Nat → List Int → List Int → Option (List Int × List Int)) (G : List Int → List Int → List Int) (hG : ∀ p o, (G p o).length = o.length)
    (hF : ∀ vals out, vals.length = n → out.length = n → (∀ x ∈ vals, 0 ≤ x ∧ x ≤ 4) → ∃ vals', vals'.length = n ∧ vals'.take (i + 1) = vals.take (i + 1) ∧ (∀ x ∈ vals', 0 ≤ x ∧ x ≤ 4) ∧ Ev (fun k => F k vals out) (vals', G (vals.take (i + 1)) out)) :
    ∀ (q : Nat) (x : Int) (vals out : List Int), 1 ≤ x → x + (q : Int) ≤ 5 → vals.length = n → out.length = n → (∀ y ∈ vals, 0 ≤ y ∧ y ≤ 4) → ∃ vals', vals'.length = n ∧ vals'.take i = vals.take i ∧ (∀ y ∈ vals', 0 ≤ y ∧ y ≤ 4) ∧ Ev (fun k => impl_ruleMasks.tryV (F k) m i q x vals out) (vals', ((marks x q).filter (fun y => has m y)).foldl (fun o y => G (vals.take i ++ [y]) o) out)
  | 0, x, vals, out, _, _, hv, ho, hr => ⟨vals, hv, rfl, hr, by unfold impl_ruleMasks.tryV marks; exact Ev.now _⟩
  | q + 1, x, vals, out, hx, hx5, hv, ho, hr => by
    have ha := has_and ⟨hm.1, hm.2.1⟩ (v := x) (by omega)
    unfold marks
    by_cases hh : has m x = true
    · have hset : ((vals.set i x).take (i + 1)) = vals.take i ++ [x] := take_set_succ (by omega) x
      obtain ⟨v1, a1, a2, a3, a4⟩ := hF (vals.set i x) out (by rw [List.length_set]; exact hv) ho (fun y hy => by
        rcases List.mem_or_eq_of_mem_set hy with hy | rfl
        · exact hr y hy
        · omega)
      rw [hset] at a2 a4
      have t1 : v1.take i = vals.take i := by
        have e := congrArg (List.take i) a2
        rw [List.take_take, Nat.min_eq_left (by omega), List.take_append_of_le_length (by rw [List.length_take]; omega), List.take_take, Nat.min_self] at e
        exact e
      obtain ⟨v2, b1, b2, b3, b4⟩ := tryV_ev hm hi F G hG hF q (x + 1) v1 (G (vals.take i ++ [x]) out) (by omega) (by omega) a1 (by rw [hG]; exact ho) a3
      refine ⟨v2, b1, by rw [b2, t1], b3, ?_⟩
      unfold impl_ruleMasks.tryV
      have hc : Go.bits .and .i64 (shr .i64 m x) 1 = 1 := by rw [ha, if_pos hh]
      simp only [hc, if_true]
      rw [List.filter_cons_of_pos hh, List.foldl_cons]
      refine Ev.bind a4 ?_
      rw [t1] at b4
      exact b4
    · obtain ⟨v2, b1, b2, b3, b4⟩ := tryV_ev hm hi F G hG hF q (x + 1) vals out (by omega) (by omega) hv ho hr
      refine ⟨v2, b1, b2, b3, ?_⟩
      unfold impl_ruleMasks.tryV
      have hc : ¬ Go.bits .and .i64 (shr .i64 m x) 1 = 1 := by rw [ha, if_neg hh]; decide
      simp only [hc, if_false]
      rw [List.filter_cons_of_neg hh]
      exact b4
theorem try_ev {kind v : Int} {cs own : List Int} (hk : KindOK kind own.length) (hown : ∀ m ∈ own, 0 ≤ m ∧ m ≤ 30 ∧ m % 2 = 0) : ∀ (d : Nat) (vals out : List Int), d ≤ own.length → vals.length = own.length → out.length = own.length → (∀ x ∈ vals, 0 ≤ x ∧ x ≤ 4) → ∃ vals', vals'.length = own.length ∧ vals'.take (own.length - d) = vals.take (own.length - d) ∧ (∀ x ∈ vals', 0 ≤ x ∧ x ≤ 4) ∧ Ev (fun k => impl_ruleMasks.try_ k kind cs v own d vals out) (vals', waysM kind v own d (vals.take (own.length - d)) out)
  | 0, vals, out, _, hv, ho, hr => by
    refine ⟨vals, hv, rfl, hr, ?_⟩
    unfold impl_ruleMasks.try_ waysM
    refine Ev.bind (valuesHold_ev (hk.vals hv hr)) ?_
    have ht : vals.take (own.length - 0) = vals := List.take_of_length_le (by omega)
    rw [ht]
    by_cases hh : holdsB kind v vals = true
    · have hp : ∀ x ∈ vals, 0 ≤ x := fun x hx => (hr x hx).1
      simp only [hh, if_true]
      rw [if_pos hp, orFrom_eq, hv]
      exact Ev.now _
    · simp only [hh, if_false]
      exact Ev.now _
  | d + 1, vals, out, hd, hv, ho, hr => by
    obtain ⟨i, hi⟩ : ∃ i, own.length - (d + 1) = i := ⟨_, rfl⟩
    have hin : i < own.length := by omega
    have e1 : (own.length : Int) - ((d + 1 : Nat) : Int) = (i : Int) := by omega
    have hm := hown (rd own (i : Int)) (rd_mem (by omega) (by omega))
    obtain ⟨v', a1, a2, a3, a4⟩ := tryV_ev hm hin (fun k => impl_ruleMasks.try_ k kind cs v own d) (fun p o => waysM kind v own d p o) (fun p o => waysM_len _ _ _ _ _ _) (fun vs os h1 h2 h3 => by
      obtain ⟨v1, b1, b2, b3, b4⟩ := try_ev hk hown d vs os (by omega) h1 h2 h3
      rw [show own.length - d = i + 1 by omega] at b2 b4
      exact ⟨v1, b1, b2, b3, b4⟩) 4 1 vals out (by decide) (by decide) hv ho hr
    refine ⟨v', a1, by rw [hi]; exact a2, a3, ?_⟩
    unfold impl_ruleMasks.try_ waysM
    rw [hi, e1, Int.toNat_natCast]
    have hl : (vals.take i).length = i := by rw [List.length_take]; omega
    rw [hl, mvals_marks hm]
    exact a4
theorem implRuleMasks0_ev {kind v : Int} {cs own : List Int} (hk : KindOK kind own.length) (h1 : 1 ≤ own.length) (hown : ∀ m ∈ own, 0 ≤ m ∧ m ≤ 30 ∧ m % 2 = 0) : Ev (fun k => impl_ruleMasks.f k kind cs v own) (waysM kind v own own.length [] (List.replicate own.length 0)) := by
  have h4 := hk.1
  obtain ⟨v', _, _, _, a4⟩ := try_ev (cs := cs) (v := v) hk hown own.length (List.replicate own.length 0) (List.replicate own.length 0) (Nat.le_refl _) (by simp) (by simp) (fun x hx => by
    have := (List.mem_replicate.1 hx).2
    omega)
  unfold impl_ruleMasks.f
  have hc : 0 < own.length ∧ own.length ≤ 100000 := by omega
  simp only [hc, and_self, if_true]
  refine Ev.bind a4 ?_
  rw [Nat.sub_self, List.take_zero]
  exact Ev.now _
theorem allM_30 {s : Int} (h : sizeOkB s = true) : allM s ≤ 30 ∧ 2 ≤ allM s := by rcases sizeOkB_iff.1 h with rfl | rfl | rfl <;> decide
theorem implRuleMasks_ev (kind : Int) (cs : List Int) (v : Int) (masks : List Int) (s : Int) (hl : cs.length ≤ 35184372088832) (hml : masks.length ≤ 35184372088832) (hw : ∀ x ∈ masks, x ≤ 9223372036854775807) : Ev (fun k => impl_RuleMasks.f k kind cs v masks s) (ruleMasks kind cs v masks s) := by
  unfold impl_RuleMasks.f ruleMasks
  have hj : Ev (fun k => impl_RuleMasks.j0 k masks true kind cs v) [] := by
    refine Ev.step (fun k => impl_RuleMasks.j0.eq_2 _ _ _ _ _ k) ?_
    simp only [if_true]; exact Ev.now _
  refine Ev.bind (implRuleValid_ev kind cs v s hl) ?_
  by_cases hr : ruleB kind cs v s = true
  · simp only [hr, if_true, true_and]
    refine Ev.bind (implMasksValid_ev masks s hml hw) ?_
    by_cases hm : masksB masks s = true
    · simp only [hm, if_true, Bool.not_true]
      refine Ev.step (fun k => impl_RuleMasks.j0.eq_2 _ _ _ _ _ k) ?_
      simp only [Bool.false_eq_true, if_false]
      have h4 := ruleB_len hr
      have hcells := rule_cells hr (masksB_len hm)
      have h30 := allM_30 (masksB_size hm)
      refine Ev.range (L := fun k (x : List Int) j => impl_RuleMasks.l0 k masks x cs (cs.length : Int) j kind cs v) (R := fun _ _ => waysM kind v (cs.map (fun c => rd masks c)) cs.length [] (List.replicate cs.length 0)) (N := cs.length) (fun x j => x = (cs.take j).map (fun c => rd masks c)) ?_ ?_ [] 0 (Nat.zero_le _) rfl
      · rintro x rfl
        refine Ev.step (fun k => impl_RuleMasks.l0.eq_2 _ _ _ _ _ _ _ _ k) ?_
        simp only [Int.lt_irrefl, if_false, List.take_length]
        have hlen : (cs.map (fun c => rd masks c)).length = cs.length := List.length_map _
        have := implRuleMasks0_ev (kind := kind) (v := v) (cs := cs) (own := cs.map (fun c => rd masks c)) (by rw [hlen]; exact kindOK_rule hr) (by rw [hlen]; exact h4.1) (fun m hmm => by
          obtain ⟨c, hc, rfl⟩ := List.mem_map.1 hmm
          obtain ⟨c0, c1⟩ := hcells c hc
          have := masksB_mem hm _ (rd_mem c0 c1)
          omega)
        rw [hlen] at this
        refine Ev.bind this ?_
        exact Ev.now _
      · rintro x j hj rfl ih
        refine Ev.step (fun k => impl_RuleMasks.l0.eq_2 _ _ _ _ _ _ _ _ k) ?_
        have g1 : (j : Int) < (cs.length : Int) := by omega
        have g0 : (0 : Int) ≤ (j : Int) := by omega
        obtain ⟨c0, c1⟩ := hcells _ (rd_mem g0 g1)
        have g2 : ((cs.take j).map (fun c => rd masks c)).length < 17592186044416 := by rw [List.length_map, List.length_take]; omega
        simp only [g0, g1, c0, c1, g2, if_true, w64n (by omega : j < 9000000000000000000)]
        refine ih _ ?_
        rw [List.take_succ_eq_append_getElem hj, List.map_append, List.map_singleton, rd_lt hj]
    · simp only [hm, if_false, eq_false_of_ne_true hm, Bool.not_false]
      exact hj
  · simp only [hr, if_false, false_and]
    exact hj

end Go.Proofs.Ythfbjkniinfgcaa.Pure
namespace Go.Proofs.Ythfbjkniinfgcaa.Pure
set_option linter.unusedSimpArgs false
set_option linter.unusedVariables false
open Go.RowKit Go.Proofs.YthfbjkniinfgcaaW.PrintWords Go.Proofs.YthfbjkniinfgcaaW.PrintMore Go.Proofs.Ythfbjkniinfgcaa.P


theorem FnExactRuleMasks (a : Int) (l : List Int) (c : Int) (_ : (Lit.int .i64 a).wf = true) (hm : l.length ≤ maxLen) (_ : ∀ x ∈ l, (Lit.int .i64 x).wf = true) (_ : (Lit.int .i64 c).wf = true) (g : List Int) (_ : g.length ≤ maxLen) (hwg : ∀ x ∈ g, (Lit.int .i64 x).wf = true) (s : Int) (_ : (Lit.int .i64 s).wf = true) : ∃ k, laws_FnExactRuleMasks.f k a l c g s = some true := by
  apply Ev.rounds
  have hm' : l.length ≤ 9223372036854775807 := hm
  have hxg : ∀ x ∈ g, x ≤ 9223372036854775807 := fun x hx => (bounds_i64 (hwg x hx)).2
  unfold laws_FnExactRuleMasks.f
  by_cases hgl : (g.length : Int) > 1048576
  · simp only [hgl, if_true]; exact Ev.now _
  simp only [hgl, if_false, szRule_eq a l c hm', Option.bind_some]
  by_cases hl : (l.length : Int) ≤ 1048576
  · have h1 : ¬ 1048576 - (l.length : Int) < 0 := by omega
    simp only [hl, h1, if_true, if_false]
    have hr := ruleMasks_len a l c g s
    have hp : ¬ ((1 : Int) + ((ruleMasks a l c g s).length : Int) < 0) := by omega
    refine Ev.bind (toRule_ev a l c (by omega)) ?_
    refine Ev.bind (toIntS_ev g (by omega)) ?_
    refine Ev.bind (specRuleMasks_ev a l c g s (by omega) (by omega)) ?_
    refine Ev.bind (toRule_ev a l c (by omega)) ?_
    refine Ev.bind (toIntS_ev g (by omega)) ?_
    refine Ev.bind (implRuleMasks_ev a l c g s (by omega) (by omega) hxg) ?_
    refine Ev.bind (eqIntS_ev _ _ (by omega)) ?_
    simp only [decide_true, if_true]
    refine Ev.bind (toRule_ev a l c (by omega)) ?_
    refine Ev.bind (eqRule_ev a l c (by omega)) ?_
    simp only [if_true]
    refine Ev.bind (toIntS_ev g (by omega)) ?_
    refine Ev.bind (eqIntS_ev g g (by omega)) ?_
    simp only [decide_true, if_true]
    have hmr : Ev (fun k => laws_markRule.f k a l c 1) (1 + (l.length : Int), marks 1 l.length) := by
      unfold laws_markRule.f
      refine Ev.bind (markIntS_ev l 1 (by omega) (by decide) (by decide)) ?_
      exact Ev.now _
    refine Ev.bind hmr ?_
    refine Ev.bind (markIntS_ev g (1 + (l.length : Int)) (by omega) (by omega) (by omega)) ?_
    have hq : ¬ ((1 : Int) + (l.length : Int) + (g.length : Int) < 0) := by omega
    simp only [hq, if_false]
    refine Ev.bind (eqIntS_ev _ _ (by omega)) ?_
    simp only [decide_true, Bool.not_true]
    refine Ev.step (fun k => laws_FnExactRuleMasks.j0.eq_2 _ _ _ _ _ _ _ _ k) ?_
    simp only [Bool.false_eq_true, if_false]
    refine Ev.bind (markIntS_ev _ 1 (by omega) (by decide) (by decide)) ?_
    refine Ev.bind (heldIntS_marks 1 _ (by omega) (by decide) (by decide)) ?_
    simp only [hp, if_false, if_true]
    refine Ev.bind (toRule_ev a l c (by omega)) ?_
    refine Ev.bind (toIntS_ev g (by omega)) ?_
    refine Ev.bind (implRuleMasks_ev a l c g s (by omega) (by omega) hxg) ?_
    refine Ev.bind (eqIntS_ev _ _ (by omega)) ?_
    simp only [decide_true, if_true]
    refine Ev.bind (heldIntS_marks 1 _ (by omega) (by decide) (by decide)) ?_
    simp only [hp, if_false, if_true]
    exact Ev.now _
  · have h2 : (-1 : Int) < 0 := by decide
    simp only [hl, h2, if_true, if_false]
    exact Ev.now _

end Go.Proofs.Ythfbjkniinfgcaa.Pure
