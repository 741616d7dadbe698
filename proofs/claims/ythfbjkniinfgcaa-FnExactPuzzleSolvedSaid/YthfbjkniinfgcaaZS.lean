/- The plain side of the law FnExactPuzzleSolved: what the functions come to, and that the law answers true. Conditions: as stated in each. -/
import Derived.Laws.BitsLemmas
import Derived.Lib.SmallJoins
import Derived.OpenShut
import Derived.Test.YthfbjkniinfgcaaZP1
import Derived.Test.YthfbjkniinfgcaaZP2
import Derived.Test.YthfbjkniinfgcaaZP3
import Derived.Test.YthfbjkniinfgcaaZP4
import Derived.Test.YthfbjkniinfgcaaZP5
import Derived.Test.YthfbjkniinfgcaaZP6
import Derived.Test.YthfbjkniinfgcaaZP7
import Derived.Test.YthfbjkniinfgcaaZP8
import Derived.Test.YthfbjkniinfgcaaZP9
import Derived.Test.YthfbjkniinfgcaaZW
namespace Go.Proofs.Ythfbjkniinfgcaa.Pure
set_option linter.unusedSimpArgs false
set_option linter.unusedVariables false
open Go.RowKit Go.Proofs.YthfbjkniinfgcaaW.PrintWords Go.Proofs.YthfbjkniinfgcaaW.PrintMore Go.Proofs.Ythfbjkniinfgcaa.P

theorem cellsOfRule : Try.prog.cellsOf 47 = 3 := by kernel_rfl
theorem cellsOfInt : Try.prog.cellsOf 3 = 1 := by kernel_rfl
theorem cellsOfInts : Try.prog.cellsOf 23 = 1 := by kernel_rfl
def RuleWf (x : S47) : Prop := (Lit.int .i64 x.f0).wf = true ∧ x.f1.length ≤ 9223372036854775807 ∧ (∀ y ∈ x.f1, (Lit.int .i64 y).wf = true) ∧ (Lit.int .i64 x.f2).wf = true
theorem ints_of {H : Type} {enc : TypeId × Value → H} {W : World} {n : Nat} {c : Value} {y : DataW H × List MemPlace} (h : DataW.trod enc Try.prog W 0 (fun _ => true) true n 23 [c] = some y) :
    ∃ (A : Option Addr) (k : Nat) (l : List Int), c = .slice A l.length k ∧ l.length ≤ k ∧ Kd.C (Kd.int .i64) W A l.length l ∧ l.length ≤ 9223372036854775807 ∧ ∀ y ∈ l, (Lit.int .i64 y).wf = true := by
  obtain ⟨A, len, k, zs, hc, w⟩ : ∃ A len k zs, c = Value.slice A len k ∧ ((A = none ∧ len = 0 ∧ k = 0 ∧ zs = []) ∨ ∃ x, A = some x ∧ len ≤ k ∧ k ≤ maxLen ∧ zs.length = k ∧ (∀ i, i < zs.length → W.cell? (x.add i) = some (.int .i64 (zs.getD i 0))) ∧ ∀ n ∈ zs, (Lit.int .i64 n).wf = true) := by
    rcases Go.ChangeShapes.open_ints Try.underlying23 Try.underlying3 (by kernel_rfl) h with ⟨hcs, _⟩ | ⟨x, l, c', zs, hcs, _, hl, hm, hz, _, hcell, hwz⟩
    · exact ⟨none, 0, 0, [], by simpa using hcs, .inl ⟨rfl, rfl, rfl, rfl⟩⟩
    · exact ⟨some x, l, c', zs, by simpa using hcs, .inr ⟨_, rfl, hl, hm, by simpa using hz, hcell, hwz⟩⟩
  obtain ⟨l, rfl, hr, hm, hw, hcc⟩ := ReadsInt.ofRowC w
  exact ⟨A, k, l, hc, hcc, Kd.C_of_reads (d := (0 : Int)) (h1 := fun _ => rfl) hr, hm, hw⟩
theorem rule_of {H : Type} {enc : TypeId × Value → H} {W : World} {n : Nat} {cs : List Value} {y : DataW H × List MemPlace} (h : DataW.trod enc Try.prog W 0 (fun _ => true) true n 47 cs = some y) :
    ∃ (x : S47) (A : Option Addr) (c : Nat), cs = [.int .i64 x.f0, .slice A x.f1.length c, .int .i64 x.f2] ∧ x.f1.length ≤ c ∧ Kd.C (Kd.int .i64) W A x.f1.length x.f1 ∧ RuleWf x := by
  obtain ⟨y0, y1, y2, m, _, hl, h0, h1, h2⟩ := Go.Deep.trod_struct3 Try.underlying47 h
  rw [cellsOfRule] at hl
  match cs, hl with
  | [c0, c1, c2], _ =>
    simp only [cellsOfInt, cellsOfInts, List.drop_succ_cons, List.drop_zero, List.take_succ_cons, List.take_zero] at h0 h1 h2
    obtain ⟨a, e0, _, w0⟩ := DataW.trod_int Try.underlying3 h0
    obtain ⟨b, e2, _, w2⟩ := DataW.trod_int Try.underlying3 h2
    obtain ⟨A, k, l, e1, hk, hC, hm, hw⟩ := ints_of h1
    obtain rfl : c0 = .int .i64 a := by simpa using e0
    obtain rfl : c2 = .int .i64 b := by simpa using e2
    subst e1
    exact ⟨⟨a, l, b⟩, A, k, rfl, hk, hC, w0, hm, hw, w2⟩
theorem rules_of {H : Type} {enc : TypeId × Value → H} {W : World} {n : Nat} {c : Value} {y : DataW H × List MemPlace} (h : DataW.trod enc Try.prog W 0 (fun _ => true) true n 36 [c] = some y) :
    ∃ (A : Option Addr) (k : Nat) (l : List S47), c = .slice A l.length k ∧ l.length ≤ k ∧ Kd.C k47 W A l.length l ∧ l.length ≤ 9223372036854775807 ∧ ∀ x ∈ l, RuleWf x := by
  rcases Go.Deep.open_slice Try.underlying36 h with ⟨hcs, _⟩ | ⟨a, len, cap, m, q, D, Pl, hcs, _, hlc, hcm, hm, _, hi⟩
  · exact ⟨none, 0, [], by simpa using hcs, Nat.le_refl _, ⟨rfl, by decide, fun h => absurd h (by decide)⟩, by decide, fun x hx => by cases hx⟩
  · have hm' : m = cap := by simpa using hm
    have hall : ∀ i, ∃ x : S47, i < len → RuleWf x ∧ ∃ cs : List Value, k47.K W x cs ∧ cs.length = 3 ∧ ∀ j u, cs[j]? = some u → W.cell? (a.add (i * 3 + j)) = some u := by
      intro i
      by_cases hil : i < len
      · obtain ⟨cs', hc, ht⟩ := hi i (by omega)
        rw [cellsOfRule] at hc
        obtain ⟨x, A, k, rfl, hk, hC, hwf⟩ := rule_of ht
        obtain ⟨_, hcl, hat⟩ := World.cells?_some hc
        refine ⟨x, fun _ => ⟨hwf, _, k47_mk W x hk hC, rfl, fun j u hu => ?_⟩⟩
        have hj : j < 3 := by
          have := (List.getElem?_eq_some_iff.1 hu).1
          simpa using this
        rw [← Go.Deep.add_add, hat j hj]; exact hu
      · exact ⟨⟨0, [], 0⟩, fun h => absurd h hil⟩
    obtain ⟨f, hf⟩ := Classical.axiomOfChoice hall
    have hlen : ((List.range len).map f).length = len := by rw [List.length_map, List.length_range]
    have hmax : len ≤ 9223372036854775807 := Nat.le_trans hlc hcm
    refine ⟨some a, cap, (List.range len).map f, ?_, by rw [hlen]; exact hlc, ⟨rfl, by rw [hlen]; exact hmax, fun _ => ⟨a, rfl, fun j p hj => ?_⟩⟩, by rw [hlen]; exact hmax, fun x hx => ?_⟩
    · rw [hlen]; simpa using hcs
    · obtain ⟨hj1, hj2⟩ := List.getElem?_eq_some_iff.1 hj
      rw [hlen] at hj1
      obtain ⟨_, cs, hK, hl, hat⟩ := hf j hj1
      have hp : p = f j := by rw [← hj2]; simp
      rw [hp]
      exact ⟨cs, hl, hK, hat⟩
    · obtain ⟨i, hi2, rfl⟩ := List.mem_map.1 hx
      exact (hf i (List.mem_range.1 hi2)).1

end Go.Proofs.Ythfbjkniinfgcaa.Pure
namespace Go.Proofs.Ythfbjkniinfgcaa.Pure
set_option linter.unusedSimpArgs false
set_option linter.unusedVariables false
open Go.RowKit Go.Proofs.YthfbjkniinfgcaaW.PrintWords Go.Proofs.YthfbjkniinfgcaaW.PrintMore


theorem w64 {x : Int} (h0 : -9223372036854775808 ≤ x) (h1 : x ≤ 9223372036854775807) : wrap64 x = x := by
  unfold wrap64; omega
theorem w64n {n : Nat} (h : n < 9000000000000000000) : wrap64 ((n : Int) + 1) = ((n + 1 : Nat) : Int) := by
  unfold wrap64; omega
theorem rd_lt {xs : List Int} {n : Nat} (h : n < xs.length) : rd xs (n : Int) = xs[n] := by simp [rd, h]
theorem Ev.some {α : Type} {g : Nat → Option α} {r : α} (h : ∀ k, g k = Option.some r) : Ev g r := ⟨0, fun k _ => h k⟩
/-- A loop that counts from n up to N, with a state. -/
theorem Ev.range {σ α : Type} {L : Nat → σ → Int → Option α} {R : σ → Nat → α} {N : Nat} (P : σ → Nat → Prop)
    (hend : ∀ s, P s N → Ev (fun k => L k s (N : Int)) (R s N))
    (hstep : ∀ s n, n < N → P s n → (∀ s', P s' (n + 1) → Ev (fun k => L k s' ((n + 1 : Nat) : Int)) (R s' (n + 1))) → Ev (fun k => L k s (n : Int)) (R s n)) :
    ∀ s n, n ≤ N → P s n → Ev (fun k => L k s (n : Int)) (R s n) := by
  intro s n hn
  obtain ⟨d, hd⟩ : ∃ d, N = n + d := ⟨N - n, by omega⟩
  induction d generalizing s n with
  | zero => obtain rfl : N = n := by omega
            exact hend s
  | succ d ih => exact fun hp => hstep s n (by omega) hp (fun s' hp' => ih s' (n + 1) (by omega) (by omega) hp')
/-- The same without a state. -/
theorem Ev.range0 {α : Type} {L : Nat → Int → Option α} {R : Nat → α} {N : Nat}
    (hend : Ev (fun k => L k (N : Int)) (R N))
    (hstep : ∀ n, n < N → Ev (fun k => L k ((n + 1 : Nat) : Int)) (R (n + 1)) → Ev (fun k => L k (n : Int)) (R n)) :
    ∀ n, n ≤ N → Ev (fun k => L k (n : Int)) (R n) := by
  intro n hn
  exact Ev.range (σ := Unit) (L := fun k _ i => L k i) (R := fun _ n => R n) (fun _ _ => True) (fun _ _ => hend) (fun _ n h _ ih => hstep n h (ih () trivial)) () n hn trivial
theorem take_set_succ {x : List Int} {n : Nat} (h : n < x.length) (v : Int) : (x.set n v).take (n + 1) = x.take n ++ [v] := by
  rw [List.take_succ_eq_append_getElem (by simpa using h)]
  simp [List.take_set_of_le (Nat.le_refl n)]
theorem drop_cons {xs : List Int} {n : Nat} (h : n < xs.length) : xs.drop n = xs[n] :: xs.drop (n + 1) := List.drop_eq_getElem_cons h

end Go.Proofs.Ythfbjkniinfgcaa.Pure
namespace Go.Proofs.Ythfbjkniinfgcaa.Pure
set_option linter.unusedSimpArgs false
set_option linter.unusedVariables false
open Go.RowKit Go.Proofs.YthfbjkniinfgcaaW.PrintWords Go.Proofs.YthfbjkniinfgcaaW.PrintMore


/-! ## The model -/
def sizeOkB (s : Int) : Bool := decide (2 ≤ s ∧ s ≤ 4)
def gridB (g : List Int) (s : Int) : Bool := sizeOkB s && (decide ((g.length : Int) = s * s) && g.all (fun v => decide (0 ≤ v ∧ v ≤ s)))
/-- The mask of all values. -/
def allM (s : Int) : Int := if s = 2 then 6 else if s = 3 then 14 else 30
def masksB (g : List Int) (s : Int) : Bool := sizeOkB s && (decide ((g.length : Int) = s * s) && g.all (fun v => decide (0 ≤ v ∧ v ≤ allM s ∧ v % 2 = 0)))
/-- Marks k, k + 1, .. -/
def marks (k : Int) : Nat → List Int
  | 0 => []
  | n + 1 => k :: marks (k + 1) n
theorem sizeOkB_iff {s : Int} : sizeOkB s = true ↔ s = 2 ∨ s = 3 ∨ s = 4 := by
  unfold sizeOkB; rw [decide_eq_true_iff]; omega
theorem gridB_size {g : List Int} {s : Int} (h : gridB g s = true) : sizeOkB s = true := by unfold gridB at h; simp only [Bool.and_eq_true] at h; exact h.1
theorem gridB_len {g : List Int} {s : Int} (h : gridB g s = true) : (g.length : Int) = s * s := by unfold gridB at h; simp only [Bool.and_eq_true, decide_eq_true_eq] at h; exact h.2.1
theorem gridB_mem {g : List Int} {s : Int} (h : gridB g s = true) : ∀ v ∈ g, 0 ≤ v ∧ v ≤ s := by
  unfold gridB at h; simp only [Bool.and_eq_true, decide_eq_true_eq, List.all_eq_true] at h; exact h.2.2
theorem gridB_le {g : List Int} {s : Int} (h : gridB g s = true) : g.length ≤ 16 := by
  have := gridB_len h
  rcases sizeOkB_iff.1 (gridB_size h) with rfl | rfl | rfl <;> omega
theorem masksB_len {g : List Int} {s : Int} (h : masksB g s = true) : (g.length : Int) = s * s := by unfold masksB at h; simp only [Bool.and_eq_true, decide_eq_true_eq] at h; exact h.2.1
theorem masksB_mem {g : List Int} {s : Int} (h : masksB g s = true) : ∀ v ∈ g, 0 ≤ v ∧ v ≤ allM s ∧ v % 2 = 0 := by
  unfold masksB at h; simp only [Bool.and_eq_true, decide_eq_true_eq, List.all_eq_true] at h; exact h.2.2
theorem masksB_mk {g : List Int} {s : Int} (h : sizeOkB s = true) (hl : (g.length : Int) = s * s) (hm : ∀ v ∈ g, 0 ≤ v ∧ v ≤ allM s ∧ v % 2 = 0) : masksB g s = true := by
  unfold masksB; simp only [Bool.and_eq_true, decide_eq_true_eq, List.all_eq_true]; exact ⟨h, hl, hm⟩
def countF (g : List Int) : Int := ((g.filter (fun v => decide (0 < v))).length : Int)
def gridFilled (g : List Int) (s : Int) : Int := if gridB g s = true then countF g else -1
theorem countF_cons (v : Int) (g : List Int) : countF (v :: g) = (if 0 < v then 1 else 0) + countF g := by
  unfold countF; by_cases h : 0 < v
  · simp [h]; omega
  · simp [h]
/-! ## Lines -/
def lineOkB (s l : Int) : Bool := sizeOkB s && decide (0 ≤ l ∧ l < 2 * s)
def lineC (s l : Int) : List Int := if lineOkB s l = true then (List.range s.toNat).map (fun i : Nat => if l < s then l * s + (i : Int) else (i : Int) * s + l - s) else []
theorem lineOkB_cases {s l : Int} (h : lineOkB s l = true) : (s = 2 ∧ (l = 0 ∨ l = 1 ∨ l = 2 ∨ l = 3)) ∨ (s = 3 ∧ (l = 0 ∨ l = 1 ∨ l = 2 ∨ l = 3 ∨ l = 4 ∨ l = 5)) ∨ (s = 4 ∧ (l = 0 ∨ l = 1 ∨ l = 2 ∨ l = 3 ∨ l = 4 ∨ l = 5 ∨ l = 6 ∨ l = 7)) := by
  unfold lineOkB at h; simp only [Bool.and_eq_true, decide_eq_true_eq] at h
  obtain ⟨hs, h0, h1⟩ := h
  rcases sizeOkB_iff.1 hs with rfl | rfl | rfl <;> omega
theorem lineC_len (s l : Int) : (lineC s l).length ≤ 16 := by
  unfold lineC; split
  · rename_i h
    rw [List.length_map, List.length_range]
    rcases lineOkB_cases h with ⟨rfl, _⟩ | ⟨rfl, _⟩ | ⟨rfl, _⟩ <;> decide
  · exact Nat.zero_le _

end Go.Proofs.Ythfbjkniinfgcaa.Pure
namespace Go.Proofs.Ythfbjkniinfgcaa.Pure
set_option linter.unusedSimpArgs false
set_option linter.unusedVariables false
open Go.RowKit Go.Proofs.YthfbjkniinfgcaaW.PrintWords Go.Proofs.YthfbjkniinfgcaaW.PrintMore Go.Proofs.Ythfbjkniinfgcaa.P


theorem eqIntS_ev (a b : List Int) (h : a.length < 9000000000000000000) : Ev (fun k => laws_eqIntS.f k a b) (decide (a = b)) := by
  unfold laws_eqIntS.f
  by_cases hl : a.length = b.length
  · simp only [hl, if_true]
    have := Ev.range0 (L := fun k i => laws_eqIntS.l0 k a b i) (R := fun n => decide (a.drop n = b.drop n)) (N := a.length) ?_ ?_ 0 (Nat.zero_le _)
    · simpa using this
    · refine Ev.step (fun k => laws_eqIntS.l0.eq_2 _ _ _ k) ?_
      have e1 : a.drop a.length = [] := List.drop_length
      have e2 : b.drop a.length = [] := by rw [hl]; exact List.drop_length
      simp [e1, e2, Ev.now]
    · intro n hn ih
      refine Ev.step (fun k => laws_eqIntS.l0.eq_2 _ _ _ k) ?_
      have h1 : (n : Int) < (a.length : Int) := by omega
      have h2 : (n : Int) < (b.length : Int) := by omega
      have h3 : (0 : Int) ≤ n := by omega
      rw [drop_cons hn, drop_cons (by omega : n < b.length)]
      simp only [h1, h2, h3, if_true, rd_lt hn, rd_lt (by omega : n < b.length)]
      by_cases he : a[n] = b[n]
      · simp only [he, if_true, w64n (by omega : n < 9000000000000000000), List.cons.injEq, true_and]
        exact ih
      · simp only [he, if_false, List.cons.injEq, false_and, decide_false]
        exact Ev.now _
  · have : ¬ ((a.length : Int) = (b.length : Int)) := by omega
    have hne : ¬ a = b := fun e => hl (by rw [e])
    simp only [this, if_false, hne, decide_false]
    exact Ev.now _
theorem toIntS_ev (a : List Int) (h : a.length ≤ 35184372088832) : Ev (fun k => laws_toIntS.f k a) a := by
  unfold laws_toIntS.f
  have h0 : (0 : Int) ≤ (a.length : Int) := by omega
  have h1 : ((a.length : Int) : Int).toNat ≤ 35184372088832 := by simpa using h
  simp only [h0, h1, if_true]
  have := Ev.range (L := fun k (x : List Int) i => laws_toIntS.l0 k a x i) (R := fun _ _ => a) (N := a.length) (fun x n => x.length = a.length ∧ x.take n = a.take n) ?_ ?_ (List.replicate ((a.length : Int)).toNat 0) 0 (Nat.zero_le _) (by simp)
  · simpa using this
  · rintro x ⟨hl, he⟩
    refine Ev.step (fun k => laws_toIntS.l0.eq_2 _ _ _ k) ?_
    have e : x = a := by rw [← hl, List.take_length, hl, List.take_length] at he; exact he
    simp only [Int.lt_irrefl, if_false, e]
    exact Ev.now _
  · rintro x n hn ⟨hl, he⟩ ih
    refine Ev.step (fun k => laws_toIntS.l0.eq_2 _ _ _ k) ?_
    have h1 : (n : Int) < (a.length : Int) := by omega
    have h2 : (n : Int) < (x.length : Int) := by omega
    have h3 : (0 : Int) ≤ n := by omega
    simp only [h1, h2, h3, if_true, rd_lt hn, Int.toNat_natCast, w64n (by omega : n < 9000000000000000000)]
    refine ih _ ⟨by simp [hl], ?_⟩
    rw [take_set_succ (by omega : n < x.length), he, List.take_succ_eq_append_getElem hn]

end Go.Proofs.Ythfbjkniinfgcaa.Pure
namespace Go.Proofs.Ythfbjkniinfgcaa.Pure
set_option linter.unusedSimpArgs false
set_option linter.unusedVariables false
open Go.RowKit Go.Proofs.YthfbjkniinfgcaaW.PrintWords Go.Proofs.YthfbjkniinfgcaaW.PrintMore


/-- The mask has the value. -/
def has (m v : Int) : Bool := decide ((m / 2 ^ v.toNat) % 2 = 1)
theorem has_fin : ∀ m : Fin 31, ∀ v : Fin 5, Int.tmod (shr .i64 (m.val : Int) (v.val : Int)) 2 = (if has (m.val : Int) (v.val : Int) = true then 1 else 0) ∧ Go.bits .and .i64 (shr .i64 (m.val : Int) (v.val : Int)) 1 = (if has (m.val : Int) (v.val : Int) = true then 1 else 0) := by decide +kernel
theorem has_and {m v : Int} (h : 0 ≤ m ∧ m ≤ 30) (hv : 0 ≤ v ∧ v ≤ 4) : Go.bits .and .i64 (shr .i64 m v) 1 = (if has m v = true then 1 else 0) := by
  have := (has_fin ⟨m.toNat, by omega⟩ ⟨v.toNat, by omega⟩).2
  rwa [show ((m.toNat : Nat) : Int) = m by omega, show ((v.toNat : Nat) : Int) = v by omega] at this

end Go.Proofs.Ythfbjkniinfgcaa.Pure
namespace Go.Proofs.Ythfbjkniinfgcaa.Pure
set_option linter.unusedSimpArgs false
set_option linter.unusedVariables false
open Go.RowKit Go.Proofs.YthfbjkniinfgcaaW.PrintWords Go.Proofs.YthfbjkniinfgcaaW.PrintMore

theorem size_or {s : Int} (h : sizeOkB s = true) : (s.toNat = 2 ∨ s.toNat = 3 ∨ s.toNat = 4) ∧ s = (s.toNat : Int) := by
  rcases sizeOkB_iff.1 h with rfl | rfl | rfl <;> decide
theorem grid_len {g : List Int} {s : Int} (h : gridB g s = true) : g.length = s.toNat * s.toNat := by
  have h1 := gridB_len h
  have h2 := (size_or (gridB_size h)).2
  rw [h2] at h1
  exact_mod_cast h1

end Go.Proofs.Ythfbjkniinfgcaa.Pure
namespace Go.Proofs.Ythfbjkniinfgcaa.Pure
set_option linter.unusedSimpArgs false
set_option linter.unusedVariables false
open Go.RowKit Go.Proofs.YthfbjkniinfgcaaW.PrintWords Go.Proofs.YthfbjkniinfgcaaW.PrintMore Go.Proofs.Ythfbjkniinfgcaa.P


theorem l1In_eq (a b c : Int) : spec_l1In.f a b c = some (decide (b ≤ a ∧ a ≤ c)) := by
  unfold spec_l1In.f
  by_cases h : a ≥ b
  · have h' : b ≤ a := h
    simp [h']
  · have h' : ¬ b ≤ a := h
    simp [h']
theorem sizeOk_eq (a : Int) : impl_sizeOk.f a = some (sizeOkB a) := by
  unfold impl_sizeOk.f sizeOkB
  by_cases h : a ≥ 2
  · have h' : 2 ≤ a := h
    simp [h']
  · have h' : ¬ 2 ≤ a := h
    simp [h']
theorem allValues_eq {s : Int} (h : sizeOkB s = true) : impl_allValues.f s = some (allM s) := by
  rcases sizeOkB_iff.1 h with rfl | rfl | rfl <;> decide +kernel

end Go.Proofs.Ythfbjkniinfgcaa.Pure
namespace Go.Proofs.Ythfbjkniinfgcaa.Pure
set_option linter.unusedSimpArgs false
set_option linter.unusedVariables false
open Go.RowKit Go.Proofs.YthfbjkniinfgcaaW.PrintWords Go.Proofs.YthfbjkniinfgcaaW.PrintMore Go.Proofs.Ythfbjkniinfgcaa.P


theorem specGridValid_ev (g : List Int) (s : Int) (h : g.length ≤ 35184372088832) : Ev (fun k => spec_GridValid.f k g s) (gridB g s) := by
  unfold spec_GridValid.f
  have := Ev.range0 (L := fun k i => spec_GridValid.l0 k g s i) (R := fun n => (g.drop n).all (fun v => decide (0 ≤ v ∧ v ≤ s)) && (sizeOkB s && decide ((g.length : Int) = s * s))) (N := g.length) ?_ ?_ 0 (Nat.zero_le _)
  · have e : gridB g s = ((g.drop 0).all (fun v => decide (0 ≤ v ∧ v ≤ s)) && (sizeOkB s && decide ((g.length : Int) = s * s))) := by
      unfold gridB; rw [List.drop_zero]; cases sizeOkB s <;> cases decide ((g.length : Int) = s * s) <;> simp
    rw [e]; simpa using this
  · refine Ev.step (fun k => spec_GridValid.l0.eq_2 _ _ _ k) ?_
    simp only [Int.lt_irrefl, if_false, l1In_eq, Option.bind_some, List.drop_length, List.all_nil, Bool.true_and]
    by_cases hs : sizeOkB s = true
    · have hs' : decide (2 ≤ s ∧ s ≤ 4) = true := hs
      have hw : wrap64 (s * s) = s * s := by rcases sizeOkB_iff.1 hs with rfl | rfl | rfl <;> decide +kernel
      simp only [hs', if_true, hs, hw, Bool.true_and]
      have e : ((g.length : Int) == s * s) = decide ((g.length : Int) = s * s) := by
        by_cases h : (g.length : Int) = s * s <;> simp [h]
      rw [e]; exact Ev.now _
    · have hs' : ¬ decide (2 ≤ s ∧ s ≤ 4) = true := hs
      simp only [hs', hs, if_false, Bool.false_and, eq_false_of_ne_true hs, Bool.false_eq_true]
      exact Ev.now _
  · intro n hn ih
    refine Ev.step (fun k => spec_GridValid.l0.eq_2 _ _ _ k) ?_
    have h1 : (n : Int) < (g.length : Int) := by omega
    have h3 : (0 : Int) ≤ n := by omega
    rw [drop_cons hn]
    simp only [h1, h3, if_true, rd_lt hn, l1In_eq, Option.bind_some, List.all_cons]
    by_cases hv : decide (0 ≤ g[n] ∧ g[n] ≤ s) = true
    · simp only [hv, if_true, w64n (by omega : n < 9000000000000000000), Bool.true_and]
      exact ih
    · simp only [hv, if_false, eq_false_of_ne_true hv, Bool.false_and, Bool.false_eq_true]
      exact Ev.now _
theorem implGridValid_ev (g : List Int) (s : Int) (h : g.length ≤ 35184372088832) : Ev (fun k => impl_GridValid.f k g s) (gridB g s) := by
  unfold impl_GridValid.f
  simp only [sizeOk_eq, Option.bind_some]
  by_cases hs : sizeOkB s = true
  · have hw : wrap64 (s * s) = s * s := by rcases sizeOkB_iff.1 hs with rfl | rfl | rfl <;> decide +kernel
    simp only [hs, if_true, hw]
    refine Ev.step (fun k => impl_GridValid.j0.eq_2 _ _ _ k) ?_
    by_cases hl : (g.length : Int) = s * s
    · have e : ((g.length : Int) != s * s) = false := by simp [hl]
      simp only [e, Bool.false_eq_true, if_false]
      have := Ev.range0 (L := fun k i => impl_GridValid.l0 k s g (g.length : Int) i) (R := fun n => (g.drop n).all (fun v => decide (0 ≤ v ∧ v ≤ s))) (N := g.length) ?_ ?_ 0 (Nat.zero_le _)
      · have e : gridB g s = (g.drop 0).all (fun v => decide (0 ≤ v ∧ v ≤ s)) := by
          unfold gridB; rw [List.drop_zero, hs, hl]; simp
        rw [e]; simpa using this
      · refine Ev.step (fun k => impl_GridValid.l0.eq_2 _ _ _ _ k) ?_
        simp only [Int.lt_irrefl, if_false, List.drop_length, List.all_nil]
        exact Ev.now _
      · intro n hn ih
        refine Ev.step (fun k => impl_GridValid.l0.eq_2 _ _ _ _ k) ?_
        have h1 : (n : Int) < (g.length : Int) := by omega
        have h3 : (0 : Int) ≤ n := by omega
        rw [drop_cons hn]
        simp only [h1, h3, if_true, rd_lt hn, List.all_cons]
        by_cases ha : g[n] < 0
        · have : decide (0 ≤ g[n] ∧ g[n] ≤ s) = false := decide_eq_false (by omega)
          simp only [ha, if_true, this, Bool.false_and]
          exact Ev.now _
        · by_cases hb : g[n] > s
          · have : decide (0 ≤ g[n] ∧ g[n] ≤ s) = false := decide_eq_false (by omega)
            simp only [ha, hb, if_true, if_false, this, Bool.false_and]
            exact Ev.now _
          · have : decide (0 ≤ g[n] ∧ g[n] ≤ s) = true := decide_eq_true (by omega)
            simp only [ha, hb, if_false, this, Bool.true_and, w64n (by omega : n < 9000000000000000000)]
            exact ih
    · have e : ((g.length : Int) != s * s) = true := by simp [hl]
      have e2 : gridB g s = false := by unfold gridB; simp [hl]
      simp only [e, if_true, e2]
      exact Ev.now _
  · have e2 : gridB g s = false := by unfold gridB; simp [hs]
    simp only [hs, if_false, e2, Bool.false_eq_true]
    refine Ev.step (fun k => impl_GridValid.j0.eq_2 _ _ _ k) ?_
    simp only [if_true]
    exact Ev.now _

end Go.Proofs.Ythfbjkniinfgcaa.Pure
namespace Go.Proofs.Ythfbjkniinfgcaa.Pure
set_option linter.unusedSimpArgs false
set_option linter.unusedVariables false
open Go.RowKit Go.Proofs.YthfbjkniinfgcaaW.PrintWords Go.Proofs.YthfbjkniinfgcaaW.PrintMore Go.Proofs.Ythfbjkniinfgcaa.P


theorem specLineCells_ev (s l : Int) : Ev (fun k => spec_LineCells.f k s l) (lineC s l) := by
  by_cases h : lineOkB s l = true
  · rcases lineOkB_cases h with ⟨rfl, hc⟩ | ⟨rfl, hc⟩ | ⟨rfl, hc⟩
    · rcases hc with rfl | rfl | rfl | rfl <;> exact Ev.of (spec_LineCells.mono _ _) (k := 20) (by decide +kernel)
    · rcases hc with rfl | rfl | rfl | rfl | rfl | rfl <;> exact Ev.of (spec_LineCells.mono _ _) (k := 20) (by decide +kernel)
    · rcases hc with rfl | rfl | rfl | rfl | rfl | rfl | rfl | rfl <;> exact Ev.of (spec_LineCells.mono _ _) (k := 20) (by decide +kernel)
  · have e : lineC s l = [] := by unfold lineC; rw [if_neg h]
    rw [e]
    unfold spec_LineCells.f
    have hj : Ev (fun k => spec_LineCells.j1 k s l [] 0 false) ([] : List Int) := by
      refine Ev.step (fun k => spec_LineCells.j1.eq_2 _ _ _ _ _ k) ?_
      simp only [Bool.false_eq_true, if_false]
      exact Ev.now _
    refine Ev.step (fun k => spec_LineCells.l0.eq_2 _ _ _ _ k) ?_
    by_cases h0 : 0 < s
    · simp only [h0, if_true, l1In_eq, Option.bind_some]
      by_cases hs : 2 ≤ s ∧ s ≤ 4
      · have hw : wrap64 (wrap64 (2 * s) - 1) = 2 * s - 1 := by rw [w64 (x := 2 * s) (by omega) (by omega), w64 (by omega) (by omega)]
        have hn : ¬ (0 ≤ l ∧ l ≤ 2 * s - 1) := by
          intro hl; apply h; unfold lineOkB sizeOkB; simp only [Bool.and_eq_true, decide_eq_true_eq]; exact ⟨hs, hl.1, by omega⟩
        simp only [decide_eq_true hs, if_true, hw, decide_eq_false hn]
        exact hj
      · simp only [decide_eq_false hs, Bool.false_eq_true, if_false]
        exact hj
    · simp only [h0, if_false]
      exact hj
theorem implLineCells_ev (s l : Int) : Ev (fun k => impl_LineCells.f k s l) (lineC s l) := by
  by_cases h : lineOkB s l = true
  · rcases lineOkB_cases h with ⟨rfl, hc⟩ | ⟨rfl, hc⟩ | ⟨rfl, hc⟩
    · rcases hc with rfl | rfl | rfl | rfl <;> exact Ev.of (impl_LineCells.mono _ _) (k := 20) (by decide +kernel)
    · rcases hc with rfl | rfl | rfl | rfl | rfl | rfl <;> exact Ev.of (impl_LineCells.mono _ _) (k := 20) (by decide +kernel)
    · rcases hc with rfl | rfl | rfl | rfl | rfl | rfl | rfl | rfl <;> exact Ev.of (impl_LineCells.mono _ _) (k := 20) (by decide +kernel)
  · have e : lineC s l = [] := by unfold lineC; rw [if_neg h]
    rw [e]
    unfold impl_LineCells.f
    simp only [sizeOk_eq, Option.bind_some]
    have hj : Ev (fun k => impl_LineCells.j0 k s l true) ([] : List Int) := by
      refine Ev.step (fun k => impl_LineCells.j0.eq_2 _ _ _ k) ?_
      simp only [if_true]
      exact Ev.now _
    by_cases hs : sizeOkB s = true
    · simp only [hs, if_true]
      by_cases h0 : l < 0
      · simp only [h0, if_true]; exact hj
      · have hs2 : 2 ≤ s ∧ s ≤ 4 := by simpa [sizeOkB] using hs
        have hw : wrap64 (2 * s) = 2 * s := w64 (by omega) (by omega)
        have hl : l ≥ 2 * s := by
          apply Decidable.byContradiction
          intro hl; apply h; unfold lineOkB; rw [hs]; simp only [Bool.true_and, decide_eq_true_eq]; omega
        simp only [h0, if_false, hw, decide_eq_true hl]; exact hj
    · simp only [hs, if_false, Bool.false_eq_true]; exact hj

end Go.Proofs.Ythfbjkniinfgcaa.Pure
namespace Go.Proofs.Ythfbjkniinfgcaa.Pure
set_option linter.unusedSimpArgs false
set_option linter.unusedVariables false
open Go.RowKit Go.Proofs.YthfbjkniinfgcaaW.PrintWords Go.Proofs.YthfbjkniinfgcaaW.PrintMore


theorem lineC_mem {s l : Int} : ∀ c ∈ lineC s l, 0 ≤ c ∧ c < s * s := by
  by_cases h : lineOkB s l = true
  · rcases lineOkB_cases h with ⟨rfl, hc⟩ | ⟨rfl, hc⟩ | ⟨rfl, hc⟩
    · rcases hc with rfl | rfl | rfl | rfl <;> decide +kernel
    · rcases hc with rfl | rfl | rfl | rfl | rfl | rfl <;> decide +kernel
    · rcases hc with rfl | rfl | rfl | rfl | rfl | rfl | rfl | rfl <;> decide +kernel
  · unfold lineC; rw [if_neg h]; intro c hc; cases hc
/-- Does a value, apart from 0, stand twice in these cells (or in seen)? -/
def clashL (g : List Int) : List Int → List Int → Bool
  | [], _ => false
  | c :: cs, seen => if 0 < rd g c ∧ rd g c ∈ seen then true else clashL g cs (rd g c :: seen)
/-- Does one of the lines n, n + 1, .. (d of them) clash? -/
def linesClash (g : List Int) (s : Int) (n : Nat) : Nat → Bool
  | 0 => false
  | d + 1 => clashL g (lineC s n) [] || linesClash g s (n + 1) d
def squareFits (g : List Int) (s : Int) : Bool := gridB g s && !linesClash g s 0 (2 * s.toNat)
theorem size_nat {s : Int} (h : sizeOkB s = true) : ((s.toNat : Nat) : Int) = s ∧ 2 ≤ s.toNat ∧ s.toNat ≤ 4 := by
  rcases sizeOkB_iff.1 h with rfl | rfl | rfl <;> decide
theorem rd_mem {g : List Int} {i : Int} (h0 : 0 ≤ i) (h1 : i < (g.length : Int)) : rd g i ∈ g := by
  obtain ⟨n, rfl⟩ := Int.eq_ofNat_of_zero_le h0
  rw [rd_lt (by omega : n < g.length)]
  exact List.getElem_mem _

end Go.Proofs.Ythfbjkniinfgcaa.Pure
namespace Go.Proofs.Ythfbjkniinfgcaa.Pure
set_option linter.unusedSimpArgs false
set_option linter.unusedVariables false
open Go.RowKit Go.Proofs.YthfbjkniinfgcaaW.PrintWords Go.Proofs.YthfbjkniinfgcaaW.PrintMore

theorem size_le4 {s : Int} (h : sizeOkB s = true) : 2 ≤ s ∧ s ≤ 4 := by rcases sizeOkB_iff.1 h with rfl | rfl | rfl <;> decide
theorem val_le {g : List Int} {s : Int} (h : gridB g s = true) {x : Int} (hx : x ∈ g) : 0 ≤ x ∧ x ≤ 4 := by
  have h1 := gridB_mem h x hx
  have h2 := size_le4 (gridB_size h)
  omega

end Go.Proofs.Ythfbjkniinfgcaa.Pure
namespace Go.Proofs.Ythfbjkniinfgcaa.Pure
set_option linter.unusedSimpArgs false
set_option linter.unusedVariables false
open Go.RowKit Go.Proofs.YthfbjkniinfgcaaW.PrintWords Go.Proofs.YthfbjkniinfgcaaW.PrintMore Go.Proofs.Ythfbjkniinfgcaa.P


/-- An array that tells what has been seen. -/
def SeenA (x : List Bool) (seen : List Int) : Prop := x.length = 5 ∧ ∀ u : Int, 0 ≤ u → u ≤ 4 → (rdOf false x u = true ↔ u ∈ seen)
theorem SeenA.start : SeenA [false, false, false, false, false] [] := by
  refine ⟨rfl, fun u h0 h1 => ?_⟩
  have : u = 0 ∨ u = 1 ∨ u = 2 ∨ u = 3 ∨ u = 4 := by omega
  rcases this with rfl | rfl | rfl | rfl | rfl <;> decide
theorem SeenA.step {x : List Bool} {v : Int} {seen : List Int} (h : SeenA x seen) (hv : 0 ≤ v ∧ v ≤ 4) : SeenA (x.set v.toNat true) (v :: seen) := by
  obtain ⟨hl, h2⟩ := h
  refine ⟨by rw [List.length_set]; exact hl, fun u h0 h1 => ?_⟩
  have e : rdOf false (x.set v.toNat true) u = (decide (u = v) || rdOf false x u) := by
    unfold rdOf
    rw [List.getD_eq_getElem?_getD, List.getD_eq_getElem?_getD, List.getElem?_set]
    by_cases hu : v.toNat = u.toNat
    · have : u = v := by omega
      rw [if_pos hu, if_pos (by omega), decide_eq_true this]; rfl
    · have : ¬ u = v := by omega
      rw [if_neg hu, decide_eq_false this]; rfl
  rw [e, List.mem_cons, Bool.or_eq_true, h2 u h0 h1, decide_eq_true_iff]
theorem implSquareFits_ev (g : List Int) (s : Int) (h : g.length ≤ 35184372088832) : Ev (fun k => impl_SquareFits.f k g s) (squareFits g s) := by
  unfold impl_SquareFits.f squareFits
  refine Ev.bind (implGridValid_ev g s h) ?_
  by_cases hg : gridB g s = true
  · simp only [hg, if_true, Bool.true_and]
    obtain ⟨hsn, hs2, hs4⟩ := size_nat (gridB_size hg)
    have hw : wrap64 (2 * s) = ((2 * s.toNat : Nat) : Int) := by unfold wrap64; omega
    have hlen := gridB_len hg
    refine Ev.range0 (L := fun k i => impl_SquareFits.l0 k g s i) (R := fun n => !linesClash g s n (2 * s.toNat - n)) (N := 2 * s.toNat) ?_ ?_ 0 (Nat.zero_le _)
    · refine Ev.step (fun k => impl_SquareFits.l0.eq_2 _ _ _ k) ?_
      simp only [hw, Int.lt_irrefl, if_false, Nat.sub_self, linesClash]
      exact Ev.now _
    · intro n hn ih
      refine Ev.step (fun k => impl_SquareFits.l0.eq_2 _ _ _ k) ?_
      have h1 : (n : Int) < ((2 * s.toNat : Nat) : Int) := by omega
      simp only [hw, h1, if_true]
      refine Ev.bind (implLineCells_ev s n) ?_
      have e : 2 * s.toNat - n = (2 * s.toNat - (n + 1)) + 1 := by omega
      rw [e, linesClash]
      have hb := lineC_len s n
      have := Ev.range (L := fun k (x : List Bool) i => impl_SquareFits.l1 k g s n (lineC s n) x i) (R := fun _ _ => !(clashL g (lineC s n) [] || linesClash g s (n + 1) (2 * s.toNat - (n + 1)))) (N := (lineC s n).length)
        (fun x j => ∃ seen, SeenA x seen ∧ clashL g (lineC s n) [] = clashL g ((lineC s n).drop j) seen) ?_ ?_ [false, false, false, false, false] 0 (Nat.zero_le _) ⟨[], SeenA.start, by simp⟩
      · simpa using this
      · rintro x ⟨seen, hx, he⟩
        refine Ev.step (fun k => impl_SquareFits.l1.eq_2 _ _ _ _ _ _ k) ?_
        have e2 : clashL g (lineC s n) [] = false := by rw [he, List.drop_length]; rfl
        simp only [Int.lt_irrefl, if_false, e2, Bool.false_or, w64n (by omega : n < 9000000000000000000)]
        exact ih
      · rintro x j hj ⟨seen, hx, he⟩ ihj
        refine Ev.step (fun k => impl_SquareFits.l1.eq_2 _ _ _ _ _ _ k) ?_
        have hc := lineC_mem (lineC s n)[j] (List.getElem_mem hj)
        have h2 : (j : Int) < ((lineC s n).length : Int) := by omega
        have h3 : (0 : Int) ≤ j := by omega
        have h5 : (lineC s n)[j] < (g.length : Int) := by rw [hlen]; exact hc.2
        have hv := val_le hg (rd_mem hc.1 h5)
        have h6 : rd g (lineC s n)[j] < (x.length : Int) := by rw [hx.1]; omega
        rw [drop_cons hj, clashL] at he
        simp only [h2, h3, if_true, rd_lt hj, hc.1, h5, h6, hv.1, w64n (by omega : j < 9000000000000000000)]
        have hstep : ¬ (0 < rd g (lineC s n)[j] ∧ rd g (lineC s n)[j] ∈ seen) → Ev (fun k => impl_SquareFits.l1 k g s n (lineC s n) (x.set (rd g (lineC s n)[j]).toNat true) ((j + 1 : Nat) : Int)) (!(clashL g (lineC s n) [] || linesClash g s (n + 1) (2 * s.toNat - (n + 1)))) := by
          intro hn
          rw [if_neg hn] at he
          exact ihj _ ⟨_, hx.step hv, he⟩
        by_cases hp : 0 < rd g (lineC s n)[j]
        · have hp' : rd g (lineC s n)[j] > 0 := hp
          simp only [hp', if_true]
          by_cases ht : rdOf false x (rd g (lineC s n)[j]) = true
          · simp only [ht, if_true]
            rw [if_pos ⟨hp, (hx.2 _ hv.1 hv.2).1 ht⟩] at he
            rw [he]; exact Ev.now _
          · simp only [ht, if_false]
            exact hstep (fun h => ht ((hx.2 _ hv.1 hv.2).2 h.2))
        · have hp' : ¬ rd g (lineC s n)[j] > 0 := hp
          simp only [hp', if_false]
          exact hstep (fun h => hp h.1)
  · simp only [hg, if_false, eq_false_of_ne_true hg, Bool.false_and, Bool.false_eq_true]
    exact Ev.now _

end Go.Proofs.Ythfbjkniinfgcaa.Pure
namespace Go.Proofs.Ythfbjkniinfgcaa.Pure
set_option linter.unusedSimpArgs false
set_option linter.unusedVariables false
open Go.RowKit Go.Proofs.YthfbjkniinfgcaaW.PrintWords Go.Proofs.YthfbjkniinfgcaaW.PrintMore Go.Proofs.Ythfbjkniinfgcaa.P


theorem orbit_fin : ∀ m : Fin 32, ∀ v : Fin 5, (0 ≤ Go.bits .or .i64 (m.val : Int) (shl .i64 1 (v.val : Int)) ∧ Go.bits .or .i64 (m.val : Int) (shl .i64 1 (v.val : Int)) ≤ 31) ∧ ∀ u : Fin 5, has (Go.bits .or .i64 (m.val : Int) (shl .i64 1 (v.val : Int))) (u.val : Int) = (decide (u = v) || has (m.val : Int) (u.val : Int)) := by decide +kernel
theorem tmod31_fin : ∀ m : Fin 32, ∀ v : Fin 5, Int.tmod (shr .i64 (m.val : Int) (v.val : Int)) 2 = (if has (m.val : Int) (v.val : Int) = true then 1 else 0) := by decide +kernel
/-- A mask that tells what has been seen. -/
def Seen (m : Int) (seen : List Int) : Prop := 0 ≤ m ∧ m ≤ 31 ∧ ∀ u : Int, 0 ≤ u → u ≤ 4 → (has m u = true ↔ u ∈ seen)
theorem Seen.start : Seen 0 [] := ⟨by decide, by decide, fun u h0 h1 => by
  have : has 0 u = false := by unfold has; simp
  simp [this]⟩
theorem Seen.step {m v : Int} {seen : List Int} (h : Seen m seen) (hv : 0 ≤ v ∧ v ≤ 4) : Seen (Go.bits .or .i64 m (shl .i64 1 v)) (v :: seen) := by
  obtain ⟨h0, h1, h2⟩ := h
  have hf := orbit_fin ⟨m.toNat, by omega⟩ ⟨v.toNat, by omega⟩
  simp only [show ((m.toNat : Nat) : Int) = m by omega, show ((v.toNat : Nat) : Int) = v by omega] at hf
  refine ⟨hf.1.1, hf.1.2, fun u hu0 hu1 => ?_⟩
  have hg := hf.2 ⟨u.toNat, by omega⟩
  simp only [show ((u.toNat : Nat) : Int) = u by omega, Fin.mk.injEq] at hg
  rw [hg, List.mem_cons, Bool.or_eq_true, h2 u hu0 hu1, decide_eq_true_iff]
  constructor
  · rintro (h | h)
    · exact .inl (by omega)
    · exact .inr h
  · rintro (h | h)
    · exact .inl (by omega)
    · exact .inr h
theorem Seen.tmod {m v : Int} {seen : List Int} (h : Seen m seen) (hv : 0 ≤ v ∧ v ≤ 4) : (Int.tmod (shr .i64 m v) 2 = 1) ↔ v ∈ seen := by
  obtain ⟨h0, h1, h2⟩ := h
  have hf := tmod31_fin ⟨m.toNat, by omega⟩ ⟨v.toNat, by omega⟩
  simp only [show ((m.toNat : Nat) : Int) = m by omega, show ((v.toNat : Nat) : Int) = v by omega] at hf
  rw [hf, ← h2 v hv.1 hv.2]
  by_cases hh : has m v = true <;> simp [hh]
theorem l2Clash_ev {g : List Int} {s : Int} (hg : gridB g s = true) : Ev (fun k => spec_l2Clash.f k g s) (linesClash g s 0 (2 * s.toNat)) := by
  unfold spec_l2Clash.f
  obtain ⟨hsn, hs2, hs4⟩ := size_nat (gridB_size hg)
  have hw : wrap64 (2 * s) = ((2 * s.toNat : Nat) : Int) := by unfold wrap64; omega
  have hlen := gridB_len hg
  refine Ev.range0 (L := fun k i => spec_l2Clash.l0 k g s i) (R := fun n => linesClash g s n (2 * s.toNat - n)) (N := 2 * s.toNat) ?_ ?_ 0 (Nat.zero_le _)
  · refine Ev.step (fun k => spec_l2Clash.l0.eq_2 _ _ _ k) ?_
    simp only [hw, Int.lt_irrefl, if_false, Nat.sub_self, linesClash]
    exact Ev.now _
  · intro n hn ih
    refine Ev.step (fun k => spec_l2Clash.l0.eq_2 _ _ _ k) ?_
    have h1 : (n : Int) < ((2 * s.toNat : Nat) : Int) := by omega
    simp only [hw, h1, if_true]
    refine Ev.bind (specLineCells_ev s n) ?_
    have e : 2 * s.toNat - n = (2 * s.toNat - (n + 1)) + 1 := by omega
    rw [e, linesClash]
    have hb := lineC_len s n
    have := Ev.range (L := fun k (x : Int) i => spec_l2Clash.l1 k g s n (lineC s n) x i) (R := fun _ _ => clashL g (lineC s n) [] || linesClash g s (n + 1) (2 * s.toNat - (n + 1))) (N := (lineC s n).length)
      (fun x j => ∃ seen, Seen x seen ∧ clashL g (lineC s n) [] = clashL g ((lineC s n).drop j) seen) ?_ ?_ 0 0 (Nat.zero_le _) ⟨[], Seen.start, by simp⟩
    · simpa using this
    · rintro x ⟨seen, hx, he⟩
      refine Ev.step (fun k => spec_l2Clash.l1.eq_2 _ _ _ _ _ _ k) ?_
      have e2 : clashL g (lineC s n) [] = false := by rw [he, List.drop_length]; rfl
      simp only [Int.lt_irrefl, if_false, e2, Bool.false_or, w64n (by omega : n < 9000000000000000000)]
      exact ih
    · rintro x j hj ⟨seen, hx, he⟩ ihj
      refine Ev.step (fun k => spec_l2Clash.l1.eq_2 _ _ _ _ _ _ k) ?_
      have hc := lineC_mem (lineC s n)[j] (List.getElem_mem hj)
      have h2 : (j : Int) < ((lineC s n).length : Int) := by omega
      have h3 : (0 : Int) ≤ j := by omega
      have h5 : (lineC s n)[j] < (g.length : Int) := by rw [hlen]; exact hc.2
      have hv := val_le hg (rd_mem hc.1 h5)
      rw [drop_cons hj, clashL] at he
      simp only [h2, h3, if_true, rd_lt hj, hc.1, h5, hv.1, w64n (by omega : j < 9000000000000000000)]
      have hstep : ¬ (0 < rd g (lineC s n)[j] ∧ rd g (lineC s n)[j] ∈ seen) → Ev (fun k => spec_l2Clash.l1 k g s n (lineC s n) (Go.bits .or .i64 x (shl .i64 1 (rd g (lineC s n)[j]))) ((j + 1 : Nat) : Int)) (clashL g (lineC s n) [] || linesClash g s (n + 1) (2 * s.toNat - (n + 1))) := by
        intro hn
        rw [if_neg hn] at he
        exact ihj _ ⟨_, hx.step hv, he⟩
      by_cases hp : 0 < rd g (lineC s n)[j]
      · have hp' : rd g (lineC s n)[j] > 0 := hp
        simp only [hp', if_true]
        by_cases ht : Int.tmod (shr .i64 x (rd g (lineC s n)[j])) 2 = 1
        · simp only [ht, if_true]
          rw [if_pos ⟨hp, (hx.tmod hv).1 ht⟩] at he
          rw [he]; exact Ev.now _
        · simp only [ht, if_false]
          exact hstep (fun h => ht ((hx.tmod hv).2 h.2))
      · have hp' : ¬ rd g (lineC s n)[j] > 0 := hp
        simp only [hp', if_false]
        exact hstep (fun h => hp h.1)

end Go.Proofs.Ythfbjkniinfgcaa.Pure
namespace Go.Proofs.Ythfbjkniinfgcaa.Pure
set_option linter.unusedSimpArgs false
set_option linter.unusedVariables false
open Go.RowKit Go.Proofs.YthfbjkniinfgcaaW.PrintWords Go.Proofs.YthfbjkniinfgcaaW.PrintMore Go.Proofs.Ythfbjkniinfgcaa.P


theorem specGridFilled_ev (g : List Int) (s : Int) (h : g.length ≤ 35184372088832) : Ev (fun k => spec_GridFilled.f k g s) (gridFilled g s) := by
  unfold spec_GridFilled.f
  refine Ev.bind (specGridValid_ev g s h) ?_
  unfold gridFilled
  by_cases hg : gridB g s = true
  · simp only [hg, if_true]
    have := Ev.range (L := fun k (x : Int) i => spec_GridFilled.l0 k g x i) (R := fun x n => x + countF (g.drop n)) (N := g.length) (fun x n => 0 ≤ x ∧ x ≤ n) ?_ ?_ 0 0 (Nat.zero_le _) (by decide)
    · simpa using this
    · intro x hx
      refine Ev.step (fun k => spec_GridFilled.l0.eq_2 _ _ _ k) ?_
      have e : countF [] = 0 := rfl
      simp only [Int.lt_irrefl, if_false, List.drop_length, e, Int.add_zero]
      exact Ev.now _
    · intro x n hn hx ih
      refine Ev.step (fun k => spec_GridFilled.l0.eq_2 _ _ _ k) ?_
      have h1 : (n : Int) < (g.length : Int) := by omega
      have h3 : (0 : Int) ≤ n := by omega
      rw [drop_cons hn, countF_cons]
      simp only [h1, h3, if_true, rd_lt hn, w64n (by omega : n < 9000000000000000000)]
      by_cases hv : 0 < g[n]
      · have hv' : g[n] > 0 := hv
        simp only [hv, hv', if_true]
        rw [w64 (x := x + 1) (by omega) (by omega)]
        have := ih (x + 1) (by omega)
        rwa [Int.add_assoc] at this
      · have hv' : ¬ g[n] > 0 := hv
        simp only [hv, hv', if_false]
        have := ih x (by omega)
        rwa [Int.zero_add]
  · simp only [hg, if_false, Bool.false_eq_true]
    exact Ev.now _
theorem implGridFilled_ev (g : List Int) (s : Int) (h : g.length ≤ 35184372088832) : Ev (fun k => impl_GridFilled.f k g s) (gridFilled g s) := by
  unfold impl_GridFilled.f
  refine Ev.bind (implGridValid_ev g s h) ?_
  unfold gridFilled
  by_cases hg : gridB g s = true
  · simp only [hg, if_true]
    have := Ev.range (L := fun k (x : Int) i => impl_GridFilled.l0 k x g (g.length : Int) i) (R := fun x n => x + countF (g.drop n)) (N := g.length) (fun x n => 0 ≤ x ∧ x ≤ n) ?_ ?_ 0 0 (Nat.zero_le _) (by decide)
    · simpa using this
    · intro x hx
      refine Ev.step (fun k => impl_GridFilled.l0.eq_2 _ _ _ _ k) ?_
      have e : countF [] = 0 := rfl
      simp only [Int.lt_irrefl, if_false, List.drop_length, e, Int.add_zero]
      exact Ev.now _
    · intro x n hn hx ih
      refine Ev.step (fun k => impl_GridFilled.l0.eq_2 _ _ _ _ k) ?_
      have h1 : (n : Int) < (g.length : Int) := by omega
      have h3 : (0 : Int) ≤ n := by omega
      rw [drop_cons hn, countF_cons]
      simp only [h1, h3, if_true, rd_lt hn, w64n (by omega : n < 9000000000000000000)]
      by_cases hv : 0 < g[n]
      · have hv' : g[n] > 0 := hv
        simp only [hv, hv', if_true]
        rw [w64 (x := x + 1) (by omega) (by omega)]
        have := ih (x + 1) (by omega)
        rwa [Int.add_assoc] at this
      · have hv' : ¬ g[n] > 0 := hv
        simp only [hv, hv', if_false]
        have := ih x (by omega)
        rwa [Int.zero_add]
  · simp only [hg, if_false, Bool.false_eq_true]
    exact Ev.now _

end Go.Proofs.Ythfbjkniinfgcaa.Pure
namespace Go.Proofs.Ythfbjkniinfgcaa.Pure
set_option linter.unusedSimpArgs false
set_option linter.unusedVariables false
open Go.RowKit Go.Proofs.YthfbjkniinfgcaaW.PrintWords Go.Proofs.YthfbjkniinfgcaaW.PrintMore


/-- Are the first n cells numbers of cells of the grid, each another one? -/
def goodCells (t : Int) (cs : List Int) : Nat → Bool
  | 0 => true
  | n + 1 => goodCells t cs n && (decide (0 ≤ rd cs (n : Int) ∧ rd cs (n : Int) < t) && !decide (rd cs (n : Int) ∈ cs.take n))
theorem goodCells_false {t : Int} {cs : List Int} {n : Nat} (h : goodCells t cs n = false) : ∀ d, goodCells t cs (n + d) = false
  | 0 => h
  | d + 1 => by rw [show n + (d + 1) = (n + d) + 1 from rfl, goodCells, goodCells_false h d]; rfl
theorem goodCells_le {t : Int} {cs : List Int} {n m : Nat} (h : goodCells t cs n = false) (hm : n ≤ m) : goodCells t cs m = false := by
  obtain ⟨d, rfl⟩ : ∃ d, m = n + d := ⟨m - n, by omega⟩
  exact goodCells_false h d
/-- What is asked of a rule's number of cells and of its value. -/
def ruleTail (kind len v s : Int) : Bool := decide (len ≤ 4) && (if kind = 1 then decide (2 ≤ len ∧ v = 0) else if kind = 2 ∨ kind = 3 then decide (1 ≤ len ∧ 1 ≤ v ∧ v ≤ s * s * s * s) else if kind = 4 then decide (len = 2 ∧ v = 0) else if kind = 5 then decide (len = 2 ∧ 0 ≤ v ∧ v < s) else false)
def ruleB (kind : Int) (cs : List Int) (v s : Int) : Bool := sizeOkB s && (goodCells (s * s) cs cs.length && ruleTail kind cs.length v s)
/-- Some earlier cell is the same, if it stands among the first n. -/
theorem mem_take_iff {cs : List Int} {n : Nat} {c : Int} : c ∈ cs.take n ↔ ∃ j, j < n ∧ j < cs.length ∧ rd cs (j : Int) = c := by
  constructor
  · intro h
    obtain ⟨j, hj, he⟩ := List.mem_iff_getElem.1 h
    rw [List.length_take] at hj
    refine ⟨j, by omega, by omega, ?_⟩
    rw [rd_lt (by omega : j < cs.length), ← he, List.getElem_take]
  · rintro ⟨j, h1, h2, he⟩
    rw [rd_lt h2] at he
    refine List.mem_iff_getElem.2 ⟨j, by rw [List.length_take]; omega, ?_⟩
    rw [List.getElem_take]; exact he

end Go.Proofs.Ythfbjkniinfgcaa.Pure
namespace Go.Proofs.Ythfbjkniinfgcaa.Pure
set_option linter.unusedSimpArgs false
set_option linter.unusedVariables false
open Go.RowKit Go.Proofs.YthfbjkniinfgcaaW.PrintWords Go.Proofs.YthfbjkniinfgcaaW.PrintMore Go.Proofs.Ythfbjkniinfgcaa.P


theorem index_ev (l : List Int) (x : Int) (h : l.length ≤ 35184372088832) : ∀ d n, n + d = l.length → ∃ r : Int, (0 ≤ r ↔ x ∈ l.drop n) ∧ Ev (fun k => slices_Index_int_int.l0 k l x (l.length : Int) (n : Int)) r
  | 0, n, hn => by
    refine ⟨-1, ?_, ?_⟩
    · rw [List.drop_eq_nil_of_le (by omega)]; simp
    · refine Ev.step (fun k => slices_Index_int_int.l0.eq_2 _ _ _ _ k) ?_
      have h1 : ¬ (n : Int) < (l.length : Int) := by omega
      simp only [h1, if_false]
      exact Ev.now _
  | d + 1, n, hn => by
    have h1 : (n : Int) < (l.length : Int) := by omega
    have h0 : (0 : Int) ≤ (n : Int) := Int.natCast_nonneg n
    have hd : l.drop n = l[n] :: l.drop (n + 1) := drop_cons (by omega)
    by_cases hx : x = rd l (n : Int)
    · refine ⟨(n : Int), ⟨fun _ => ?_, fun _ => h0⟩, ?_⟩
      · rw [hd, hx, rd_lt (by omega : n < l.length)]; exact List.mem_cons_self
      · refine Ev.step (fun k => slices_Index_int_int.l0.eq_2 _ _ _ _ k) ?_
        simp only [h1, h0, ← hx, if_true]
        exact Ev.now _
    · obtain ⟨r, hr, he⟩ := index_ev l x h d (n + 1) (by omega)
      refine ⟨r, ?_, ?_⟩
      · rw [hr, hd, List.mem_cons]
        constructor
        · exact .inr
        · rintro (e | e)
          · exact absurd (by rw [rd_lt (by omega : n < l.length)]; exact e) hx
          · exact e
      · refine Ev.step (fun k => slices_Index_int_int.l0.eq_2 _ _ _ _ k) ?_
        simp only [h1, h0, hx, if_true, if_false, w64n (by omega : n < 9000000000000000000)]
        exact he
theorem contains_ev (l : List Int) (x : Int) (h : l.length ≤ 35184372088832) : Ev (fun k => slices_Contains_int_int.f k l x) (decide (x ∈ l)) := by
  obtain ⟨r, hr, he⟩ := index_ev l x h l.length 0 (by omega)
  unfold slices_Contains_int_int.f slices_Index_int_int.f
  refine Ev.bind he ?_
  rw [List.drop_zero] at hr
  have e : decide (r ≥ 0) = decide (x ∈ l) := by
    by_cases hx : x ∈ l
    · rw [decide_eq_true hx, decide_eq_true (hr.2 hx)]
    · rw [decide_eq_false hx, decide_eq_false (fun h => hx (hr.1 h))]
  simp only [e]
  exact Ev.now _
theorem implRuleTail_ev (s kind v : Int) (cs : List Int) (hs : sizeOkB s = true) : Ev (fun k => if kind = 1 then (if (cs.length : Int) ≥ 2 then (if (cs.length : Int) ≤ 4 then (some (v == 0)) else (some false)) else (some false)) else (if kind = 2 then (impl_RuleValid.j1 k s (cs.length : Int) kind (kind == 2) kind cs v) else (impl_RuleValid.j1 k s (cs.length : Int) kind (kind == 3) kind cs v))) (ruleTail kind cs.length v s) := by
  have hsz := sizeOkB_iff.1 hs
  have hw : wrap64 ((wrap64 ((wrap64 (s * s)) * s)) * s) = s * s * s * s := by rcases hsz with rfl | rfl | rfl <;> decide +kernel
  unfold ruleTail
  generalize (cs.length : Int) = n
  have hvz : ∀ w : Int, (w == 0) = decide (w = 0) := by
    intro w
    by_cases h : w = 0
    · subst h; rfl
    · rw [beq_eq_false_iff_ne.2 h, decide_eq_false h]
  by_cases k1 : kind = 1
  · simp only [k1, if_true]
    by_cases h2 : 2 ≤ n
    · by_cases h4 : n ≤ 4
      · have h2' : n ≥ 2 := h2
        simp only [h2, h2', h4, if_true, hvz, true_and, decide_true, Bool.true_and]
        exact Ev.now _
      · have h2' : n ≥ 2 := h2
        simp only [h2', h4, if_true, if_false, decide_false, Bool.false_and]
        exact Ev.now _
    · have h2' : ¬ n ≥ 2 := h2
      simp only [h2, h2', if_false, false_and, decide_false, Bool.and_false]
      exact Ev.now _
  · simp only [k1, if_false]
    have hj : ∀ b, b = decide (kind = 2 ∨ kind = 3) → Ev (fun k => impl_RuleValid.j1 k s n kind b kind cs v) (decide (n ≤ 4) && (if kind = 2 ∨ kind = 3 then decide (1 ≤ n ∧ 1 ≤ v ∧ v ≤ s * s * s * s) else if kind = 4 then decide (n = 2 ∧ v = 0) else if kind = 5 then decide (n = 2 ∧ 0 ≤ v ∧ v < s) else false)) := by
      rintro b rfl
      refine Ev.step (fun k => impl_RuleValid.j1.eq_2 _ _ _ _ _ _ _ k) ?_
      by_cases k2 : kind = 2 ∨ kind = 3
      · simp only [k2, decide_true, if_true, hw]
        by_cases h1 : 1 ≤ n
        · have h1' : n ≥ 1 := h1
          by_cases h4 : n ≤ 4
          · by_cases hv : 1 ≤ v
            · have hv' : v ≥ 1 := hv
              simp only [h1, h1', h4, hv, hv', if_true, true_and, decide_true, Bool.true_and]
              exact Ev.now _
            · have hv' : ¬ v ≥ 1 := hv
              simp only [h1, h1', h4, hv, hv', if_true, if_false, true_and, false_and, decide_true, decide_false, Bool.true_and]
              exact Ev.now _
          · simp only [h1', h4, if_true, if_false, decide_false, Bool.false_and]
            exact Ev.now _
        · have h1' : ¬ n ≥ 1 := h1
          simp only [h1, h1', if_false, false_and, decide_false, Bool.and_false]
          exact Ev.now _
      · simp only [k2, decide_false, if_false, Bool.false_eq_true]
        by_cases k4 : kind = 4
        · simp only [k4, if_true]
          by_cases h2 : n = 2
          · simp only [h2, if_true, true_and, hvz]
            exact Ev.now _
          · simp only [h2, if_false, false_and, decide_false, Bool.and_false]
            exact Ev.now _
        · simp only [k4, if_false]
          by_cases k5 : kind = 5
          · simp only [k5, if_true]
            by_cases h2 : n = 2
            · by_cases hv : 0 ≤ v
              · have hv' : v ≥ 0 := hv
                simp only [h2, hv, hv', if_true, true_and]
                exact Ev.now _
              · have hv' : ¬ v ≥ 0 := hv
                simp only [h2, hv, hv', if_true, if_false, true_and, false_and, decide_false, Bool.and_false]
                exact Ev.now _
            · simp only [h2, if_false, false_and, decide_false, Bool.and_false]
              exact Ev.now _
          · simp only [k5, if_false, Bool.and_false]
            exact Ev.now _
    by_cases k2 : kind = 2
    · have e : (kind == 2) = decide (kind = 2 ∨ kind = 3) := by simp [k2]
      have := hj _ e
      simpa only [k2, if_true] using this
    · have e : (kind == 3) = decide (kind = 2 ∨ kind = 3) := by
        by_cases k3 : kind = 3 <;> simp [k2, k3]
      have := hj _ e
      simp only [k2, if_false]
      simpa only [k2, false_or] using this
theorem implRuleValid_ev (kind : Int) (cs : List Int) (v s : Int) (hl : cs.length ≤ 35184372088832) : Ev (fun k => impl_RuleValid.f k kind cs v s) (ruleB kind cs v s) := by
  unfold impl_RuleValid.f ruleB
  simp only [sizeOk_eq, Option.bind_some]
  by_cases hs : sizeOkB s = true
  · have ht : wrap64 (s * s) = s * s := by rcases sizeOkB_iff.1 hs with rfl | rfl | rfl <;> decide +kernel
    simp only [hs, if_true, Bool.true_and]
    have := Ev.range (σ := Unit) (L := fun k _ i => impl_RuleValid.l0 k s cs (cs.length : Int) i kind cs v) (R := fun _ _ => goodCells (s * s) cs cs.length && ruleTail kind cs.length v s) (N := cs.length) (fun _ i => goodCells (s * s) cs i = true) ?_ ?_ () 0 (Nat.zero_le _) rfl
    · simpa using this
    · intro _ hg
      refine Ev.step (fun k => impl_RuleValid.l0.eq_2 _ _ _ _ _ _ _ k) ?_
      simp only [Int.lt_irrefl, if_false]
      rw [hg, Bool.true_and]
      exact implRuleTail_ev s kind v cs hs
    · intro _ i hi hg ih
      refine Ev.step (fun k => impl_RuleValid.l0.eq_2 _ _ _ _ _ _ _ k) ?_
      have h1 : (i : Int) < (cs.length : Int) := by omega
      have h0 : (0 : Int) ≤ (i : Int) := Int.natCast_nonneg i
      have h2 : (i : Int) ≤ (cs.length : Int) := by omega
      have hbad : goodCells (s * s) cs (i + 1) = false → Ev (fun _ : Nat => some false) (goodCells (s * s) cs cs.length && ruleTail kind cs.length v s) := by
        intro h
        rw [goodCells_le h (by omega : i + 1 ≤ cs.length)]
        exact Ev.now _
      simp only [h1, h0, h2, if_true, ht, Int.toNat_natCast]
      by_cases hc0 : rd cs (i : Int) < 0
      · simp only [hc0, if_true]
        refine hbad ?_
        have hn : ¬ (0 ≤ rd cs (i : Int) ∧ rd cs (i : Int) < s * s) := fun h => by omega
        rw [goodCells, decide_eq_false hn]; simp
      · simp only [hc0, if_false]
        by_cases hc1 : rd cs (i : Int) ≥ s * s
        · simp only [hc1, if_true]
          refine hbad ?_
          have hn : ¬ (0 ≤ rd cs (i : Int) ∧ rd cs (i : Int) < s * s) := fun h => by omega
          rw [goodCells, decide_eq_false hn]; simp
        · simp only [hc1, if_false]
          refine Ev.bind (contains_ev _ _ (by rw [List.length_take]; omega)) ?_
          by_cases hm : rd cs (i : Int) ∈ cs.take i
          · simp only [hm, decide_true, if_true]
            refine hbad ?_
            rw [goodCells, decide_eq_true hm]; simp
          · simp only [hm, decide_false, if_false, Bool.false_eq_true, w64n (by omega : i < 9000000000000000000)]
            refine ih () ?_
            rw [goodCells, hg, decide_eq_true (⟨by omega, by omega⟩ : 0 ≤ rd cs (i : Int) ∧ rd cs (i : Int) < s * s), decide_eq_false hm]
            rfl
  · simp only [hs, if_false, Bool.false_eq_true, Bool.false_and]
    exact Ev.now _

end Go.Proofs.Ythfbjkniinfgcaa.Pure
namespace Go.Proofs.Ythfbjkniinfgcaa.Pure
set_option linter.unusedSimpArgs false
set_option linter.unusedVariables false
open Go.RowKit Go.Proofs.YthfbjkniinfgcaaW.PrintWords Go.Proofs.YthfbjkniinfgcaaW.PrintMore Go.Proofs.Ythfbjkniinfgcaa.P


theorem specRuleTail_ev (s kind v : Int) (cs : List Int) (hs : sizeOkB s = true) : Ev (fun k => spec_RuleValid.j2 k s (cs.length : Int) (decide ((cs.length : Int) > 4)) kind cs v) (ruleTail kind cs.length v s) := by
  have hsz := sizeOkB_iff.1 hs
  have hw : wrap64 ((wrap64 ((wrap64 (s * s)) * s)) * s) = s * s * s * s := by rcases hsz with rfl | rfl | rfl <;> decide +kernel
  have hw1 : wrap64 (s - 1) = s - 1 := by rcases hsz with rfl | rfl | rfl <;> decide +kernel
  refine Ev.step (fun k => spec_RuleValid.j2.eq_2 _ _ _ _ _ _ k) ?_
  unfold ruleTail
  by_cases h4 : (cs.length : Int) > 4
  · have h4' : ¬ (cs.length : Int) ≤ 4 := by omega
    simp only [h4, h4', decide_true, decide_false, if_true, Bool.false_and]
    exact Ev.now _
  · have h4' : (cs.length : Int) ≤ 4 := by omega
    simp only [h4, h4', decide_true, decide_false, if_false, Bool.true_and, Bool.false_eq_true]
    by_cases k1 : kind = 1
    · simp only [k1, if_true]
      by_cases h2 : (cs.length : Int) ≥ 2
      · have h2' : 2 ≤ (cs.length : Int) := h2
        simp only [h2, h2', if_true, true_and]
        by_cases hv : v = 0
        · subst hv; exact Ev.now _
        · have e1 : (v == 0) = false := by rw [beq_eq_false_iff_ne]; exact hv
          simp only [hv, e1, decide_false]; exact Ev.now _
      · have h2' : ¬ 2 ≤ (cs.length : Int) := h2
        simp only [h2, h2', if_false, false_and, decide_false]
        exact Ev.now _
    · simp only [k1, if_false]
      have hj : ∀ b, b = (decide (kind = 2 ∨ kind = 3)) → Ev (fun k => spec_RuleValid.j3 k s (cs.length : Int) kind b kind cs v) (if kind = 2 ∨ kind = 3 then decide (1 ≤ (cs.length : Int) ∧ 1 ≤ v ∧ v ≤ s * s * s * s) else if kind = 4 then decide ((cs.length : Int) = 2 ∧ v = 0) else if kind = 5 then decide ((cs.length : Int) = 2 ∧ 0 ≤ v ∧ v < s) else false) := by
        rintro b rfl
        refine Ev.step (fun k => spec_RuleValid.j3.eq_2 _ _ _ _ _ _ _ k) ?_
        by_cases k2 : kind = 2 ∨ kind = 3
        · simp only [k2, decide_true, if_true]
          by_cases h1 : (cs.length : Int) ≥ 1
          · have h1' : 1 ≤ (cs.length : Int) := h1
            simp only [h1, h1', if_true, true_and, l1In_eq, Option.bind_some, hw]
            exact Ev.now _
          · have h1' : ¬ 1 ≤ (cs.length : Int) := h1
            simp only [h1, h1', if_false, false_and, decide_false]
            exact Ev.now _
        · simp only [k2, decide_false, if_false, Bool.false_eq_true]
          by_cases k4 : kind = 4
          · simp only [k4, if_true]
            by_cases h2 : (cs.length : Int) = 2
            · simp only [h2, if_true, true_and]
              by_cases hv : v = 0
              · subst hv; exact Ev.now _
              · have e1 : (v == 0) = false := by rw [beq_eq_false_iff_ne]; exact hv
                simp only [hv, e1, decide_false]; exact Ev.now _
            · simp only [h2, if_false, false_and, decide_false]
              exact Ev.now _
          · simp only [k4, if_false]
            by_cases k5 : kind = 5
            · simp only [k5, if_true]
              by_cases h2 : (cs.length : Int) = 2
              · have hlt : (v ≤ s - 1) = (v < s) := by apply propext; omega
                simp only [h2, if_true, true_and, l1In_eq, Option.bind_some, hw1, hlt]
                exact Ev.now _
              · simp only [h2, if_false, false_and, decide_false]
                exact Ev.now _
            · simp only [k5, if_false]
              exact Ev.now _
      by_cases k2 : kind = 2
      · have e : (kind == 2) = decide (kind = 2 ∨ kind = 3) := by simp [k2]
        have := hj _ e
        simpa only [k2, if_true] using this
      · have e : (kind == 3) = decide (kind = 2 ∨ kind = 3) := by
          by_cases k3 : kind = 3 <;> simp [k2, k3]
        have := hj _ e
        simp only [k2, if_false]
        simpa only [k2, false_or] using this
theorem specRuleValid_ev (kind : Int) (cs : List Int) (v s : Int) (hl : cs.length ≤ 35184372088832) : Ev (fun k => spec_RuleValid.f k kind cs v s) (ruleB kind cs v s) := by
  unfold spec_RuleValid.f ruleB
  have hRf : ∀ i, i < cs.length → (sizeOkB s = true → goodCells (s * s) cs (i + 1) = false) → (sizeOkB s && (goodCells (s * s) cs cs.length && ruleTail kind cs.length v s)) = false := by
    intro i hi h
    by_cases hs : sizeOkB s = true
    · rw [hs, goodCells_le (h hs) (by omega : i + 1 ≤ cs.length)]; rfl
    · rw [eq_false_of_ne_true hs]; rfl
  have := Ev.range (σ := Unit) (L := fun k _ i => spec_RuleValid.l0 k s i kind cs v) (R := fun _ _ => sizeOkB s && (goodCells (s * s) cs cs.length && ruleTail kind cs.length v s)) (N := cs.length) (fun _ i => sizeOkB s = true → goodCells (s * s) cs i = true) ?_ ?_ () 0 (Nat.zero_le _) (fun _ => rfl)
  · simpa using this
  · intro _ hg
    refine Ev.step (fun k => spec_RuleValid.l0.eq_2 _ _ _ _ _ k) ?_
    simp only [Int.lt_irrefl, if_false, l1In_eq, Option.bind_some]
    by_cases hs : sizeOkB s = true
    · have hs' := hs
      unfold sizeOkB at hs'
      rw [hg hs, hs]
      simp only [hs', if_true, Bool.true_and]
      exact specRuleTail_ev s kind v cs hs
    · have hs' := eq_false_of_ne_true hs
      rw [hs']
      unfold sizeOkB at hs'
      simp only [hs', Bool.false_eq_true, if_false, Bool.false_and]
      refine Ev.step (fun k => spec_RuleValid.j2.eq_2 _ _ _ _ _ _ k) ?_
      simp only [if_true]
      exact Ev.now _
  · intro _ i hi hg ih
    refine Ev.step (fun k => spec_RuleValid.l0.eq_2 _ _ _ _ _ k) ?_
    have h1 : (i : Int) < (cs.length : Int) := by omega
    have h0 : (0 : Int) ≤ (i : Int) := Int.natCast_nonneg i
    simp only [h1, h0, if_true, l1In_eq, Option.bind_some]
    by_cases hc : 0 ≤ rd cs (i : Int) ∧ rd cs (i : Int) ≤ wrap64 ((wrap64 (s * s)) - 1)
    · simp only [hc, and_self, decide_true, if_true]
      have := Ev.range (σ := Unit) (L := fun k _ j => spec_RuleValid.l1 k s (i : Int) j kind cs v) (R := fun _ _ => sizeOkB s && (goodCells (s * s) cs cs.length && ruleTail kind cs.length v s)) (N := i) (fun _ j => ∀ d, d < j → rd cs (d : Int) ≠ rd cs (i : Int)) ?_ ?_ () 0 (Nat.zero_le _) (fun d hd => absurd hd (Nat.not_lt_zero d))
      · simpa using this
      · intro _ hno
        refine Ev.step (fun k => spec_RuleValid.l1.eq_2 _ _ _ _ _ _ k) ?_
        simp only [Int.lt_irrefl, if_false, w64n (by omega : i < 9000000000000000000)]
        refine ih () (fun hs => ?_)
        have ht : wrap64 ((wrap64 (s * s)) - 1) = s * s - 1 := by rcases sizeOkB_iff.1 hs with rfl | rfl | rfl <;> decide +kernel
        rw [ht] at hc
        have hm : ¬ rd cs (i : Int) ∈ cs.take i := by
          intro hm
          obtain ⟨j, hj, _, he⟩ := mem_take_iff.1 hm
          exact hno j hj he
        rw [goodCells, hg hs, decide_eq_true (⟨hc.1, by omega⟩ : 0 ≤ rd cs (i : Int) ∧ rd cs (i : Int) < s * s), decide_eq_false hm]
        rfl
      · intro _ j hj hno ihj
        refine Ev.step (fun k => spec_RuleValid.l1.eq_2 _ _ _ _ _ _ k) ?_
        have h2 : (j : Int) < (i : Int) := by omega
        have h3 : (0 : Int) ≤ (j : Int) := Int.natCast_nonneg j
        have h4 : (j : Int) < (cs.length : Int) := by omega
        simp only [h2, h3, h4, h1, h0, if_true, w64n (by omega : j < 9000000000000000000)]
        by_cases he : rd cs (j : Int) = rd cs (i : Int)
        · simp only [he, if_true]
          rw [hRf i hi (fun hs => by
            have hm : rd cs (i : Int) ∈ cs.take i := mem_take_iff.2 ⟨j, hj, by omega, he⟩
            rw [goodCells, decide_eq_true hm]; simp)]
          exact Ev.now _
        · simp only [he, if_false]
          refine ihj () (fun d hd => ?_)
          by_cases hdj : d = j
          · rw [hdj]; exact he
          · exact hno d (by omega)
    · simp only [hc, decide_false, if_false, Bool.false_eq_true]
      rw [hRf i hi (fun hs => by
        have ht : wrap64 ((wrap64 (s * s)) - 1) = s * s - 1 := by rcases sizeOkB_iff.1 hs with rfl | rfl | rfl <;> decide +kernel
        rw [ht] at hc
        have hn : ¬ (0 ≤ rd cs (i : Int) ∧ rd cs (i : Int) < s * s) := fun h => hc ⟨h.1, by omega⟩
        rw [goodCells, decide_eq_false hn]; simp)]
      exact Ev.now _

end Go.Proofs.Ythfbjkniinfgcaa.Pure
namespace Go.Proofs.Ythfbjkniinfgcaa.Pure
set_option linter.unusedSimpArgs false
set_option linter.unusedVariables false
open Go.RowKit Go.Proofs.YthfbjkniinfgcaaW.PrintWords Go.Proofs.YthfbjkniinfgcaaW.PrintMore Go.Proofs.Ythfbjkniinfgcaa.P


theorem goodCells_prev {t : Int} {cs : List Int} {n : Nat} (h : goodCells t cs (n + 1) = true) : goodCells t cs n = true := by
  unfold goodCells at h; simp only [Bool.and_eq_true] at h; exact h.1
theorem goodCells_at {t : Int} {cs : List Int} : ∀ {n : Nat}, goodCells t cs n = true → ∀ i, i < n → 0 ≤ rd cs (i : Int) ∧ rd cs (i : Int) < t
  | 0, _, i, hi => absurd hi (Nat.not_lt_zero i)
  | n + 1, h, i, hi => by
    by_cases hin : i < n
    · exact goodCells_at (goodCells_prev h) i hin
    · obtain rfl : i = n := by omega
      unfold goodCells at h
      simp only [Bool.and_eq_true, decide_eq_true_eq] at h
      exact h.2.1
def sumP (l : List Int) : Nat → Int
  | 0 => 0
  | n + 1 => sumP l n + rd l (n : Int)
def prodP (l : List Int) : Nat → Int
  | 0 => 1
  | n + 1 => prodP l n * rd l (n : Int)
def neP (l : List Int) (i : Nat) : Nat → Bool
  | 0 => true
  | j + 1 => neP l i j && (rd l (j : Int) != rd l (i : Int))
def nodupP (l : List Int) : Nat → Bool
  | 0 => true
  | n + 1 => nodupP l n && neP l n n
theorem sumP_le {l : List Int} (h : ∀ x ∈ l, 0 ≤ x ∧ x ≤ 4) : ∀ n, n ≤ l.length → 0 ≤ sumP l n ∧ sumP l n ≤ 4 * (n : Int)
  | 0, _ => by unfold sumP; omega
  | n + 1, hn => by
    have ih := sumP_le h n (by omega)
    have hx := h _ (rd_mem (g := l) (i := (n : Int)) (by omega) (by omega))
    unfold sumP; omega
theorem prodP_le {l : List Int} (h : ∀ x ∈ l, 0 ≤ x ∧ x ≤ 4) : ∀ n, n ≤ l.length → 0 ≤ prodP l n ∧ prodP l n ≤ 4 ^ n
  | 0, _ => by unfold prodP; decide
  | n + 1, hn => by
    have ih := prodP_le h n (by omega)
    have hx := h _ (rd_mem (g := l) (i := (n : Int)) (by omega) (by omega))
    unfold prodP
    refine ⟨Int.mul_nonneg ih.1 hx.1, ?_⟩
    rw [Int.pow_succ]
    exact Int.mul_le_mul ih.2 hx.2 hx.1 (Int.le_trans ih.1 ih.2)
theorem prodP_small {l : List Int} (h : ∀ x ∈ l, 0 ≤ x ∧ x ≤ 4) {n : Nat} (hn : n ≤ l.length) (h4 : n ≤ 4) : 0 ≤ prodP l n ∧ prodP l n ≤ 256 := by
  have := prodP_le h n hn
  have hc : n = 0 ∨ n = 1 ∨ n = 2 ∨ n = 3 ∨ n = 4 := by omega
  refine ⟨this.1, Int.le_trans this.2 ?_⟩
  rcases hc with rfl | rfl | rfl | rfl | rfl <;> decide
theorem neP_iff {l : List Int} {i : Nat} : ∀ j, j ≤ l.length → (neP l i j = true ↔ ∀ d, d < j → rd l (d : Int) ≠ rd l (i : Int))
  | 0, _ => ⟨fun _ d hd => absurd hd (Nat.not_lt_zero d), fun _ => rfl⟩
  | j + 1, hj => by
    unfold neP
    rw [Bool.and_eq_true, neP_iff j (by omega), bne_iff_ne]
    constructor
    · rintro ⟨h1, h2⟩ d hd
      by_cases hdj : d = j
      · rw [hdj]; exact h2
      · exact h1 d (by omega)
    · exact fun h => ⟨fun d hd => h d (by omega), h j (by omega)⟩
theorem neP_mem {l : List Int} {i : Nat} (hi : i < l.length) : neP l i i = !decide (rd l (i : Int) ∈ l.take i) := by
  by_cases hm : rd l (i : Int) ∈ l.take i
  · rw [decide_eq_true hm]
    obtain ⟨j, hj, _, he⟩ := mem_take_iff.1 hm
    refine eq_false_of_ne_true (fun h => ?_)
    exact (neP_iff i (by omega)).1 h j hj he
  · rw [decide_eq_false hm]
    refine (neP_iff i (by omega)).2 (fun d hd he => hm (mem_take_iff.2 ⟨d, hd, by omega, he⟩))
theorem nodupP_le {l : List Int} {n : Nat} (h : nodupP l n = false) : ∀ d, nodupP l (n + d) = false
  | 0 => h
  | d + 1 => by rw [show n + (d + 1) = (n + d) + 1 from rfl, nodupP, nodupP_le h d]; rfl
def holdsB (kind v : Int) (l : List Int) : Bool := if kind = 1 then nodupP l l.length else if kind = 2 then sumP l l.length == v else if kind = 3 then prodP l l.length == v else if kind = 4 then decide (rd l 0 < rd l 1) else mx (rd l 0 - rd l 1) (rd l 1 - rd l 0) == v
/-- What is known of a valid rule and the values in its cells. -/
def ValsOK (kind : Int) (l : List Int) : Prop := l.length ≤ 4 ∧ (∀ x ∈ l, 0 ≤ x ∧ x ≤ 4) ∧ 1 ≤ kind ∧ kind ≤ 5 ∧ (4 ≤ kind → l.length = 2)
theorem l4Holds_ev {kind v : Int} {cs l : List Int} (h : ValsOK kind l) : Ev (fun k => spec_l4Holds.f k kind cs v l) (holdsB kind v l) := by
  obtain ⟨h4, hx, hk1, hk5, hk2⟩ := h
  unfold spec_l4Holds.f
  have := Ev.range (L := fun k (p : Int × Int × Bool) i => spec_l4Holds.l0 k l p.1 p.2.1 p.2.2 i kind cs v) (R := fun _ _ => holdsB kind v l) (N := l.length) (fun p i => p = (sumP l i, prodP l i, nodupP l i)) ?_ ?_ (0, 1, true) 0 (Nat.zero_le _) rfl
  · simpa using this
  · rintro p rfl
    refine Ev.step (fun k => spec_l4Holds.l0.eq_2 _ _ _ _ _ _ _ _ k) ?_
    unfold holdsB
    simp only [Int.lt_irrefl, if_false]
    by_cases k1 : kind = 1
    · simp only [k1, if_true]; exact Ev.now _
    · by_cases k2 : kind = 2
      · simp only [k1, k2, if_true, if_false]; exact Ev.now _
      · by_cases k3 : kind = 3
        · simp only [k1, k2, k3, if_true, if_false]; exact Ev.now _
        · have hl2 : l.length = 2 := hk2 (by omega)
          have e0 : (0 : Int) < (l.length : Int) := by omega
          have e1 : (1 : Int) < (l.length : Int) := by omega
          have hr0 := hx _ (rd_mem (g := l) (i := 0) (by decide) e0)
          have hr1 := hx _ (rd_mem (g := l) (i := 1) (by decide) e1)
          have w1 : wrap64 (rd l 0 - rd l 1) = rd l 0 - rd l 1 := by unfold wrap64; omega
          have w2 : wrap64 (-(rd l 0 - rd l 1)) = rd l 1 - rd l 0 := by unfold wrap64; omega
          by_cases k4 : kind = 4
          · simp only [k1, k2, k3, k4, e0, e1, if_true, if_false]; exact Ev.now _
          · simp only [k1, k2, k3, k4, e0, e1, if_true, if_false, w1, w2]; exact Ev.now _
  · rintro p i hi rfl ih
    refine Ev.step (fun k => spec_l4Holds.l0.eq_2 _ _ _ _ _ _ _ _ k) ?_
    have h1 : (i : Int) < (l.length : Int) := by omega
    have h0 : (0 : Int) ≤ (i : Int) := Int.natCast_nonneg i
    have hs := sumP_le hx (i + 1) (by omega)
    have hp := prodP_small hx (n := i + 1) (by omega) (by omega)
    have ws : wrap64 (sumP l i + rd l (i : Int)) = sumP l (i + 1) := by
      rw [show sumP l i + rd l (i : Int) = sumP l (i + 1) from rfl]; exact w64 (by omega) (by omega)
    have wp : wrap64 (prodP l i * rd l (i : Int)) = prodP l (i + 1) := by
      rw [show prodP l i * rd l (i : Int) = prodP l (i + 1) from rfl]; exact w64 (by omega) (by omega)
    simp only [h1, h0, if_true, ws, wp]
    clear hs hp ws wp
    have := Ev.range (L := fun k (b : Bool) j => spec_l4Holds.l1 k l (sumP l (i + 1)) (prodP l (i + 1)) b (i : Int) j kind cs v) (R := fun _ _ => holdsB kind v l) (N := i) (fun b j => b = (nodupP l i && neP l i j)) ?_ ?_ (nodupP l i) 0 (Nat.zero_le _) (by simp [neP])
    · simpa using this
    · rintro b rfl
      refine Ev.step (fun k => spec_l4Holds.l1.eq_2 _ _ _ _ _ _ _ _ _ k) ?_
      simp only [Int.lt_irrefl, if_false, w64n (by omega : i < 9000000000000000000)]
      exact ih (_, _, _) rfl
    · rintro b j hj hb ihj
      refine Ev.step (fun k => spec_l4Holds.l1.eq_2 _ _ _ _ _ _ _ _ _ k) ?_
      have h2 : (j : Int) < (i : Int) := by omega
      have h3 : (j : Int) < (l.length : Int) := by omega
      have h5 : (0 : Int) ≤ (j : Int) := Int.natCast_nonneg j
      simp only [h2, h3, h5, h1, h0, if_true, w64n (by omega : j < 9000000000000000000)]
      cases b with
      | true =>
        simp only [if_true]
        refine ihj _ ?_
        rw [neP, ← Bool.and_assoc, ← hb, Bool.true_and]
      | false =>
        simp only [Bool.false_eq_true, if_false]
        refine ihj _ ?_
        rw [neP, ← Bool.and_assoc, ← hb, Bool.false_and]
theorem valuesHold_ev {kind v : Int} {cs l : List Int} (h : ValsOK kind l) : Ev (fun k => impl_valuesHold.f k kind cs v l) (holdsB kind v l) := by
  obtain ⟨h4, hx, hk1, hk5, hk2⟩ := h
  unfold impl_valuesHold.f
  have := Ev.range (L := fun k (p : Int × Int) i => impl_valuesHold.l0 k l p.1 p.2 l (l.length : Int) i kind cs v) (R := fun _ _ => holdsB kind v l) (N := l.length) (fun p i => p = (sumP l i, prodP l i) ∧ (kind = 1 → nodupP l i = true)) ?_ ?_ (0, 1) 0 (Nat.zero_le _) ⟨rfl, fun _ => rfl⟩
  · simpa using this
  · rintro p ⟨rfl, hd⟩
    refine Ev.step (fun k => impl_valuesHold.l0.eq_2 _ _ _ _ _ _ _ _ _ k) ?_
    unfold holdsB
    simp only [Int.lt_irrefl, if_false]
    by_cases k1 : kind = 1
    · have k2 : ¬ kind = 2 := by omega
      have k3 : ¬ kind = 3 := by omega
      have k4 : ¬ kind = 4 := by omega
      have k5 : ¬ kind = 5 := by omega
      simp only [k2, k3, k4, k5, if_false]
      rw [if_pos k1, hd k1]
      exact Ev.now _
    · by_cases k2 : kind = 2
      · simp only [k1, k2, if_true, if_false]; exact Ev.now _
      · by_cases k3 : kind = 3
        · simp only [k1, k2, k3, if_true, if_false]; exact Ev.now _
        · have hl2 : l.length = 2 := hk2 (by omega)
          have e0 : (0 : Int) < (l.length : Int) := by omega
          have e1 : (1 : Int) < (l.length : Int) := by omega
          have hr0 := hx _ (rd_mem (g := l) (i := 0) (by decide) e0)
          have hr1 := hx _ (rd_mem (g := l) (i := 1) (by decide) e1)
          have w1 : wrap64 (rd l 0 - rd l 1) = rd l 0 - rd l 1 := by unfold wrap64; omega
          have w2 : wrap64 (rd l 1 - rd l 0) = rd l 1 - rd l 0 := by unfold wrap64; omega
          by_cases k4 : kind = 4
          · simp only [k1, k2, k3, k4, e0, e1, if_true, if_false]; exact Ev.now _
          · have k5 : kind = 5 := by omega
            simp only [k1, k2, k3, k4, e0, e1, if_true, if_false, w1, w2]
            simp only [k5, if_true]
            exact Ev.now _
  · rintro p i hi ⟨rfl, hd⟩ ih
    refine Ev.step (fun k => impl_valuesHold.l0.eq_2 _ _ _ _ _ _ _ _ _ k) ?_
    have h1 : (i : Int) < (l.length : Int) := by omega
    have h2 : (i : Int) ≤ (l.length : Int) := by omega
    have h0 : (0 : Int) ≤ (i : Int) := Int.natCast_nonneg i
    have hs := sumP_le hx (i + 1) (by omega)
    have hp := prodP_small hx (n := i + 1) (by omega) (by omega)
    have ws : wrap64 (sumP l i + rd l (i : Int)) = sumP l (i + 1) := by
      rw [show sumP l i + rd l (i : Int) = sumP l (i + 1) from rfl]; exact w64 (by omega) (by omega)
    have wp : wrap64 (prodP l i * rd l (i : Int)) = prodP l (i + 1) := by
      rw [show prodP l i * rd l (i : Int) = prodP l (i + 1) from rfl]; exact w64 (by omega) (by omega)
    simp only [h1, h2, h0, if_true, ws, wp, Int.toNat_natCast, w64n (by omega : i < 9000000000000000000)]
    clear hs hp ws wp
    by_cases k1 : kind = 1
    · simp only [k1, if_true]
      refine Ev.bind (contains_ev _ _ (by rw [List.length_take]; omega)) ?_
      by_cases hm : rd l (i : Int) ∈ l.take i
      · simp only [hm, decide_true, if_true]
        have hf : nodupP l (i + 1) = false := by rw [nodupP, neP_mem hi, decide_eq_true hm]; simp
        have : holdsB 1 v l = false := by
          unfold holdsB
          obtain ⟨d, hd'⟩ : ∃ d, l.length = (i + 1) + d := ⟨l.length - (i + 1), by omega⟩
          rw [if_pos rfl, hd']
          exact nodupP_le hf d
        rw [this]
        exact Ev.now _
      · simp only [hm, decide_false, if_false, Bool.false_eq_true]
        have := ih (_, _) ⟨rfl, fun _ => by rw [nodupP, neP_mem hi, decide_eq_false hm, hd k1]; rfl⟩
        rw [k1] at this
        exact this
    · simp only [k1, if_false]
      exact ih (_, _) ⟨rfl, fun h => absurd h k1⟩

end Go.Proofs.Ythfbjkniinfgcaa.Pure
namespace Go.Proofs.Ythfbjkniinfgcaa.Pure
set_option linter.unusedSimpArgs false
set_option linter.unusedVariables false
open Go.RowKit Go.Proofs.YthfbjkniinfgcaaW.PrintWords Go.Proofs.YthfbjkniinfgcaaW.PrintMore Go.Proofs.Ythfbjkniinfgcaa.P


/-- The values of a mask. -/
def mvals (m : Int) : List Int := if 0 ≤ m ∧ m ≤ 30 ∧ m % 2 = 0 then [1, 2, 3, 4].filter (fun v => decide ((m / 2 ^ v.toNat) % 2 = 1)) else []
theorem even_cases {m : Int} (h : 0 ≤ m ∧ m ≤ 30 ∧ m % 2 = 0) : m = 0 ∨ m = 2 ∨ m = 4 ∨ m = 6 ∨ m = 8 ∨ m = 10 ∨ m = 12 ∨ m = 14 ∨ m = 16 ∨ m = 18 ∨ m = 20 ∨ m = 22 ∨ m = 24 ∨ m = 26 ∨ m = 28 ∨ m = 30 := by omega
theorem specMaskValues_ev (m : Int) : Ev (fun k => spec_MaskValues.f k m) (mvals m) := by
  by_cases h : 0 ≤ m ∧ m ≤ 30 ∧ m % 2 = 0
  · rcases even_cases h with rfl | rfl | rfl | rfl | rfl | rfl | rfl | rfl | rfl | rfl | rfl | rfl | rfl | rfl | rfl | rfl <;>
      exact Ev.of (spec_MaskValues.mono _) (k := 12) (by decide +kernel)
  · have e : mvals m = [] := by unfold mvals; rw [if_neg h]
    rw [e]
    unfold spec_MaskValues.f
    refine Ev.step (fun k => spec_MaskValues.l0.eq_2 _ _ _ k) ?_
    have h4 : (1 : Int) ≤ 4 := by decide
    simp only [h4, if_true, l1In_eq, Option.bind_some]
    by_cases hr : 0 ≤ m ∧ m ≤ 30
    · have ht : ¬ Int.tmod m 2 = 0 := by rw [Int.tmod_eq_emod_of_nonneg hr.1]; omega
      have ht2 : (Int.tmod m 2 == 0) = false := by simpa using ht
      simp only [hr, ht2, and_self, decide_true, if_true]
      refine Ev.step (fun k => spec_MaskValues.j1.eq_2 _ _ _ _ k) ?_
      simp only [Bool.false_eq_true, if_false]
      exact Ev.now _
    · simp only [hr, decide_false, Bool.false_eq_true, if_false]
      refine Ev.step (fun k => spec_MaskValues.j1.eq_2 _ _ _ _ k) ?_
      simp only [Bool.false_eq_true, if_false]
      exact Ev.now _

end Go.Proofs.Ythfbjkniinfgcaa.Pure
namespace Go.Proofs.Ythfbjkniinfgcaa.Pure
set_option linter.unusedSimpArgs false
set_option linter.unusedVariables false
open Go.RowKit Go.Proofs.YthfbjkniinfgcaaW.PrintWords Go.Proofs.YthfbjkniinfgcaaW.PrintMore

theorem and7_range (s : Int) : 0 ≤ Go.bits .and .i64 s 7 ∧ Go.bits .and .i64 s 7 ≤ 7 := by
  unfold Go.bits
  simp only [IntKind.wrap_i64]
  rw [BitVec.toNat_and]
  have := @Nat.and_le_right (BitVec.ofInt IntKind.i64.bits s).toNat (BitVec.ofInt IntKind.i64.bits 7).toNat
  have e : (BitVec.ofInt IntKind.i64.bits 7).toNat = 7 := by decide
  rw [e] at this ⊢
  omega

end Go.Proofs.Ythfbjkniinfgcaa.Pure
namespace Go.Proofs.Ythfbjkniinfgcaa.Pure
set_option linter.unusedSimpArgs false
set_option linter.unusedVariables false
open Go.RowKit Go.Proofs.YthfbjkniinfgcaaW.PrintWords Go.Proofs.YthfbjkniinfgcaaW.PrintMore Go.Proofs.Ythfbjkniinfgcaa.P


theorem specMasksValid_ev (g : List Int) (s : Int) (h : g.length ≤ 35184372088832) : Ev (fun k => spec_MasksValid.f k g s) (masksB g s) := by
  unfold spec_MasksValid.f
  obtain ⟨B, hB⟩ : ∃ B, wrap64 ((shl .i64 1 (wrap64 ((Go.bits .and .i64 s 7) + 1))) - 2) = B := ⟨_, rfl⟩
  have hBs : sizeOkB s = true → B = allM s := by
    intro hs; rw [← hB]; rcases sizeOkB_iff.1 hs with rfl | rfl | rfl <;> decide +kernel
  have h7 : (0 : Int) ≤ wrap64 ((Go.bits .and .i64 s 7) + 1) := by
    have := and7_range s
    rw [w64 (by omega) (by omega)]; omega
  have := Ev.range0 (L := fun k i => spec_MasksValid.l0 k g s i) (R := fun n => (g.drop n).all (fun v => decide (0 ≤ v ∧ v ≤ B ∧ v % 2 = 0)) && (sizeOkB s && decide ((g.length : Int) = s * s))) (N := g.length) ?_ ?_ 0 (Nat.zero_le _)
  · have e : masksB g s = ((g.drop 0).all (fun v => decide (0 ≤ v ∧ v ≤ B ∧ v % 2 = 0)) && (sizeOkB s && decide ((g.length : Int) = s * s))) := by
      unfold masksB; rw [List.drop_zero]
      cases hs : sizeOkB s
      · simp
      · rw [hBs hs]; cases decide ((g.length : Int) = s * s) <;> simp
    rw [e]; simpa using this
  · refine Ev.step (fun k => spec_MasksValid.l0.eq_2 _ _ _ k) ?_
    simp only [Int.lt_irrefl, if_false, l1In_eq, Option.bind_some, List.drop_length, List.all_nil, Bool.true_and]
    by_cases hs : sizeOkB s = true
    · have hs' : decide (2 ≤ s ∧ s ≤ 4) = true := hs
      have hw : wrap64 (s * s) = s * s := by rcases sizeOkB_iff.1 hs with rfl | rfl | rfl <;> decide +kernel
      simp only [hs', if_true, hs, hw, Bool.true_and]
      have e : ((g.length : Int) == s * s) = decide ((g.length : Int) = s * s) := by
        by_cases h : (g.length : Int) = s * s <;> simp [h]
      rw [e]; exact Ev.now _
    · have hs' : ¬ decide (2 ≤ s ∧ s ≤ 4) = true := hs
      simp only [hs', if_false, Bool.false_and, eq_false_of_ne_true hs, Bool.false_eq_true]
      exact Ev.now _
  · intro n hn ih
    refine Ev.step (fun k => spec_MasksValid.l0.eq_2 _ _ _ k) ?_
    have h1 : (n : Int) < (g.length : Int) := by omega
    have h3 : (0 : Int) ≤ n := by omega
    rw [drop_cons hn]
    simp only [h1, h3, h7, if_true, rd_lt hn, l1In_eq, Option.bind_some, List.all_cons, hB]
    by_cases hv : 0 ≤ g[n] ∧ g[n] ≤ B
    · have ht : Int.tmod g[n] 2 = g[n] % 2 := Int.tmod_eq_emod_of_nonneg hv.1
      by_cases h2 : g[n] % 2 = 0
      · have e : decide (0 ≤ g[n] ∧ g[n] ≤ B ∧ g[n] % 2 = 0) = true := decide_eq_true ⟨hv.1, hv.2, h2⟩
        rw [e]
        simp only [decide_eq_true hv, ht, h2, if_true, w64n (by omega : n < 9000000000000000000), Bool.true_and]
        exact ih
      · have e : decide (0 ≤ g[n] ∧ g[n] ≤ B ∧ g[n] % 2 = 0) = false := decide_eq_false (fun h => h2 h.2.2)
        rw [e]
        simp only [decide_eq_true hv, ht, h2, if_true, if_false, Bool.false_and]
        exact Ev.now _
    · have e : decide (0 ≤ g[n] ∧ g[n] ≤ B ∧ g[n] % 2 = 0) = false := decide_eq_false (fun h => hv ⟨h.1, h.2.1⟩)
      simp only [decide_eq_false hv, e, if_false, Bool.false_and, Bool.false_eq_true]
      exact Ev.now _

end Go.Proofs.Ythfbjkniinfgcaa.Pure
namespace Go.Proofs.Ythfbjkniinfgcaa.Pure
set_option linter.unusedSimpArgs false
set_option linter.unusedVariables false
open Go.RowKit Go.Proofs.YthfbjkniinfgcaaW.PrintWords Go.Proofs.YthfbjkniinfgcaaW.PrintMore Go.Proofs.Ythfbjkniinfgcaa.P

theorem ruleB_parts {kind : Int} {cs : List Int} {v s : Int} (h : ruleB kind cs v s = true) : sizeOkB s = true ∧ goodCells (s * s) cs cs.length = true ∧ cs.length ≤ 4 ∧ 1 ≤ kind ∧ kind ≤ 5 ∧ (4 ≤ kind → cs.length = 2) := by
  unfold ruleB ruleTail at h
  simp only [Bool.and_eq_true, decide_eq_true_eq] at h
  obtain ⟨h1, h2, h3, h4⟩ := h
  refine ⟨h1, h2, by omega, ?_⟩
  by_cases k1 : kind = 1
  · omega
  · rw [if_neg k1] at h4
    by_cases k2 : kind = 2 ∨ kind = 3
    · omega
    · rw [if_neg k2] at h4
      by_cases k4 : kind = 4
      · rw [if_pos k4] at h4
        simp only [decide_eq_true_eq] at h4
        omega
      · rw [if_neg k4] at h4
        by_cases k5 : kind = 5
        · rw [if_pos k5] at h4
          simp only [decide_eq_true_eq] at h4
          omega
        · rw [if_neg k5] at h4; cases h4
theorem cell_mem {t : Int} {cs : List Int} (h : goodCells t cs cs.length = true) : ∀ c ∈ cs, 0 ≤ c ∧ c < t := by
  intro c hc
  obtain ⟨i, hi, he⟩ := List.mem_iff_getElem.1 hc
  have := goodCells_at h i hi
  rw [rd_lt hi, he] at this
  exact this

end Go.Proofs.Ythfbjkniinfgcaa.Pure
namespace Go.Proofs.Ythfbjkniinfgcaa.Pure
set_option linter.unusedSimpArgs false
set_option linter.unusedVariables false
open Go.RowKit Go.Proofs.YthfbjkniinfgcaaW.PrintWords Go.Proofs.YthfbjkniinfgcaaW.PrintMore


/-- The values of a way, marked in the masks of the cells: cells i, i + 1, .. -/
def orP (vals : List Int) : Nat → Int → List Int → List Int
  | 0, _, out => out
  | d + 1, i, out => orP vals d (i + 1) (out.set i.toNat (Go.bits .or .i64 (rd out i) (shl .i64 1 (rd vals i))))
/-- All ways that go on from the values of the first cells; d cells are left. -/
def waysM (kind v : Int) (own : List Int) : Nat → List Int → List Int → List Int
  | 0, pre, out => if holdsB kind v pre = true then orP pre pre.length 0 out else out
  | d + 1, pre, out => (mvals (rd own (pre.length : Nat))).foldl (fun o x => waysM kind v own d (pre ++ [x]) o) out
theorem orP_len (vals : List Int) : ∀ (d : Nat) (i : Int) (out : List Int), (orP vals d i out).length = out.length
  | 0, _, _ => rfl
  | d + 1, i, out => by unfold orP; rw [orP_len vals d, List.length_set]
theorem foldl_len {f : List Int → Int → List Int} (h : ∀ o x, (f o x).length = o.length) : ∀ (l : List Int) (o : List Int), (l.foldl f o).length = o.length
  | [], _ => rfl
  | x :: l, o => by rw [List.foldl_cons, foldl_len h l, h]
theorem waysM_len (kind v : Int) (own : List Int) : ∀ (d : Nat) (pre out : List Int), (waysM kind v own d pre out).length = out.length
  | 0, pre, out => by
    unfold waysM; split
    · exact orP_len _ _ _ _
    · rfl
  | d + 1, pre, out => by
    unfold waysM
    exact foldl_len (fun o x => waysM_len kind v own d _ o) _ _
theorem mvals_range {m x : Int} (h : x ∈ mvals m) : 1 ≤ x ∧ x ≤ 4 := by
  unfold mvals at h
  split at h
  · have := (List.mem_filter.1 h).1
    simp at this
    omega
  · cases h
theorem mvals_len4 (m : Int) : (mvals m).length ≤ 4 := by
  unfold mvals; split
  · exact List.length_filter_le _ _
  · exact Nat.zero_le _
/-- The masks that are found for a rule. -/
def ruleMasks (kind : Int) (cs : List Int) (v : Int) (masks : List Int) (s : Int) : List Int := if ruleB kind cs v s = true ∧ masksB masks s = true then waysM kind v (cs.map (fun c => rd masks c)) cs.length [] (List.replicate cs.length 0) else []
theorem ruleB_len {kind : Int} {cs : List Int} {v s : Int} (h : ruleB kind cs v s = true) : 1 ≤ cs.length ∧ cs.length ≤ 4 := by
  have h4 := (ruleB_parts h).2.2.1
  unfold ruleB ruleTail at h
  simp only [Bool.and_eq_true, decide_eq_true_eq] at h
  refine ⟨?_, h4⟩
  have h2 := h.2.2.2
  split at h2
  · simp only [decide_eq_true_eq] at h2; omega
  · split at h2
    · simp only [decide_eq_true_eq] at h2; omega
    · split at h2
      · simp only [decide_eq_true_eq] at h2; omega
      · split at h2
        · simp only [decide_eq_true_eq] at h2; omega
        · cases h2
theorem ruleMasks_lenEq {kind : Int} {cs : List Int} {v : Int} {masks : List Int} {s : Int} (h : ruleB kind cs v s = true ∧ masksB masks s = true) : (ruleMasks kind cs v masks s).length = cs.length := by
  unfold ruleMasks; rw [if_pos h, waysM_len, List.length_replicate]
/-- What is needed of a rule's kind and its number of cells. -/
def KindOK (kind : Int) (n : Nat) : Prop := n ≤ 4 ∧ 1 ≤ kind ∧ kind ≤ 5 ∧ (4 ≤ kind → n = 2)
theorem kindOK_rule {kind : Int} {cs : List Int} {v s : Int} (h : ruleB kind cs v s = true) : KindOK kind cs.length := by
  obtain ⟨_, _, h1, h2, h3, h4⟩ := ruleB_parts h
  exact ⟨h1, h2, h3, h4⟩
theorem KindOK.vals {kind : Int} {n : Nat} (h : KindOK kind n) {l : List Int} (hl : l.length = n) (hv : ∀ x ∈ l, 0 ≤ x ∧ x ≤ 4) : ValsOK kind l := by
  obtain ⟨h1, h2, h3, h4⟩ := h
  exact ⟨by omega, hv, h2, h3, fun h => by rw [hl]; exact h4 h⟩
theorem foldl_drop {β : Type} (f : β → Int → β) (l : List Int) (j : Nat) (hj : j < l.length) (o : β) : (l.drop j).foldl f o = (l.drop (j + 1)).foldl f (f o l[j]) := by
  rw [List.drop_eq_getElem_cons hj, List.foldl_cons]

end Go.Proofs.Ythfbjkniinfgcaa.Pure
namespace Go.Proofs.Ythfbjkniinfgcaa.Pure
set_option linter.unusedSimpArgs false
set_option linter.unusedVariables false
open Go.RowKit Go.Proofs.YthfbjkniinfgcaaW.PrintWords Go.Proofs.YthfbjkniinfgcaaW.PrintMore Go.Proofs.Ythfbjkniinfgcaa.P


theorem l4Ways_ev {kind v : Int} {cs masks : List Int} (hk : KindOK kind cs.length) (hc : ∀ c ∈ cs, 0 ≤ c ∧ c < (masks.length : Int)) : ∀ (d : Nat) (pre out : List Int), pre.length + d = cs.length → out.length = cs.length → (∀ x ∈ pre, 0 ≤ x ∧ x ≤ 4) → Ev (fun k => spec_l4Ways.f k kind cs v masks pre out) (waysM kind v (cs.map (fun c => rd masks c)) d pre out)
  | 0, pre, out, hp, ho, hx => by
    refine Ev.step (fun k => spec_l4Ways.f.eq_2 _ _ _ _ _ _ k) ?_
    have e : (pre.length : Int) = (cs.length : Int) := by omega
    simp only [e, if_true]
    refine Ev.bind (l4Holds_ev (hk.vals (by omega) hx)) ?_
    unfold waysM
    by_cases hh : holdsB kind v pre = true
    · simp only [hh, if_true]
      have hn4 := hk.1
      refine Ev.range (L := fun k (x : List Int) j => spec_l4Ways.l0 k pre x (cs.length : Int) j) (R := fun _ _ => orP pre pre.length 0 out) (N := cs.length) (fun x j => x.length = cs.length ∧ orP pre pre.length 0 out = orP pre (cs.length - j) (j : Int) x) ?_ ?_ out 0 (Nat.zero_le _) ⟨ho, by rw [show cs.length - 0 = pre.length by omega]; rfl⟩
      · rintro x ⟨hl, he⟩
        refine Ev.step (fun k => spec_l4Ways.l0.eq_2 _ _ _ _ k) ?_
        simp only [Int.lt_irrefl, if_false]
        rw [he, Nat.sub_self, orP]
        exact Ev.now _
      · rintro x j hj ⟨hl, he⟩ ih
        refine Ev.step (fun k => spec_l4Ways.l0.eq_2 _ _ _ _ k) ?_
        have h1 : (j : Int) < (cs.length : Int) := by omega
        have h0 : (0 : Int) ≤ (j : Int) := by omega
        have h2 : (j : Int) < (x.length : Int) := by omega
        have h3 : (j : Int) < (pre.length : Int) := by omega
        have h4 : 0 ≤ rd pre (j : Int) := (hx _ (rd_mem h0 h3)).1
        simp only [h0, h1, h2, h3, h4, if_true, w64n (by omega : j < 9000000000000000000), Int.toNat_natCast]
        refine ih _ ⟨by rw [List.length_set]; exact hl, ?_⟩
        rw [he, show cs.length - j = (cs.length - (j + 1)) + 1 by omega, orP, Int.toNat_natCast]
        congr 1
    · simp only [hh, if_false]
      exact Ev.now _
  | d + 1, pre, out, hp, ho, hx => by
    refine Ev.step (fun k => spec_l4Ways.f.eq_2 _ _ _ _ _ _ k) ?_
    have e : ¬ (pre.length : Int) = (cs.length : Int) := by omega
    have h0 : (0 : Int) ≤ (pre.length : Int) := by omega
    have h1 : (pre.length : Int) < (cs.length : Int) := by omega
    obtain ⟨c0, c1⟩ := hc _ (rd_mem h0 h1)
    simp only [e, h0, h1, c0, c1, if_true, if_false]
    refine Ev.bind (specMaskValues_ev _) ?_
    have hn4 := hk.1
    unfold waysM
    have em : rd (cs.map (fun c => rd masks c)) (pre.length : Nat) = rd masks (rd cs (pre.length : Nat)) := by
      rw [rd_lt (by rw [List.length_map]; omega), rd_lt (by omega : pre.length < cs.length), List.getElem_map]
    rw [em]
    generalize hL : mvals (rd masks (rd cs (pre.length : Nat))) = L
    have hL4 : L.length ≤ 4 := by rw [← hL]; exact mvals_len4 _
    have hLr : ∀ x ∈ L, 1 ≤ x ∧ x ≤ 4 := by intro x hx; rw [← hL] at hx; exact mvals_range hx
    have := Ev.range (L := fun k (x : List Int) j => spec_l4Ways.l1 k masks pre x L j kind cs v) (R := fun x j => (L.drop j).foldl (fun o x => waysM kind v (cs.map (fun c => rd masks c)) d (pre ++ [x]) o) x) (N := L.length) (fun x j => x.length = cs.length) ?_ ?_ out 0 (Nat.zero_le _) ho
    · simpa using this
    · intro x hl
      refine Ev.step (fun k => spec_l4Ways.l1.eq_2 _ _ _ _ _ _ _ _ k) ?_
      simp only [Int.lt_irrefl, if_false, List.drop_length, List.foldl_nil]
      exact Ev.now _
    · intro x j hj hl ih
      refine Ev.step (fun k => spec_l4Ways.l1.eq_2 _ _ _ _ _ _ _ _ k) ?_
      have g1 : (j : Int) < (L.length : Int) := by omega
      have g0 : (0 : Int) ≤ (j : Int) := by omega
      have g2 : ([] : List Int).length + pre.length < 17592186044416 := by simp; omega
      have g3 : pre.length + ([rd L (j : Int)] : List Int).length < 17592186044416 := by simp; omega
      simp only [g1, g0, g2, if_true, Option.bind_some, List.nil_append, g3]
      have hr : rd L (j : Int) = L[j] := rd_lt hj
      have hm := hLr _ (List.getElem_mem hj)
      refine Ev.bind (l4Ways_ev hk hc d (pre ++ [rd L (j : Int)]) x (by simp; omega) hl (fun y hy => ?_)) ?_
      · rcases List.mem_append.1 hy with hy | hy
        · exact hx y hy
        · simp only [List.mem_singleton] at hy
          rw [hy, hr]; omega
      · rw [foldl_drop _ _ _ hj, w64n (by omega : j < 9000000000000000000)]
        have := ih (waysM kind v (cs.map (fun c => rd masks c)) d (pre ++ [rd L (j : Int)]) x) (by rw [waysM_len]; exact hl)
        rw [hr] at this ⊢
        exact this
theorem rule_cells {kind : Int} {cs : List Int} {v s : Int} {g : List Int} (h : ruleB kind cs v s = true) (hl : (g.length : Int) = s * s) : ∀ c ∈ cs, 0 ≤ c ∧ c < (g.length : Int) := by
  rw [hl]; exact cell_mem (ruleB_parts h).2.1
theorem specRuleMasks_ev (kind : Int) (cs : List Int) (v : Int) (masks : List Int) (s : Int) (hl : cs.length ≤ 35184372088832) (hml : masks.length ≤ 35184372088832) : Ev (fun k => spec_RuleMasks.f k kind cs v masks s) (ruleMasks kind cs v masks s) := by
  unfold spec_RuleMasks.f ruleMasks
  refine Ev.bind (specRuleValid_ev kind cs v s hl) ?_
  by_cases hr : ruleB kind cs v s = true
  · simp only [hr, if_true, true_and]
    refine Ev.bind (specMasksValid_ev masks s hml) ?_
    by_cases hm : masksB masks s = true
    · have h4 := ruleB_len hr
      have h0 : (0 : Int) ≤ (cs.length : Int) := by omega
      have h1 : cs.length ≤ 35184372088832 := hl
      simp only [hm, if_true, h0, Int.toNat_natCast, h1]
      refine Ev.bind (l4Ways_ev (kindOK_rule hr) (rule_cells hr (masksB_len hm)) cs.length [] (List.replicate cs.length 0) (by simp) (by simp) (by simp)) ?_
      exact Ev.now _
    · simp only [hm, if_false]
      exact Ev.now _
  · simp only [hr, if_false, false_and]
    exact Ev.now _

end Go.Proofs.Ythfbjkniinfgcaa.Pure
namespace Go.Proofs.Ythfbjkniinfgcaa.Pure
set_option linter.unusedSimpArgs false
set_option linter.unusedVariables false
open Go.RowKit Go.Proofs.YthfbjkniinfgcaaW.PrintWords Go.Proofs.YthfbjkniinfgcaaW.PrintMore Go.Proofs.Ythfbjkniinfgcaa.P


theorem mvals_marks {m : Int} (h : 0 ≤ m ∧ m ≤ 30 ∧ m % 2 = 0) : mvals m = (marks 1 4).filter (fun x => has m x) := by
  unfold mvals; rw [if_pos h]; rfl
theorem orFrom_eq (vals : List Int) : ∀ (d : Nat) (i : Int) (out : List Int), impl_ruleMasks.orFrom vals d i out = orP vals d i out
  | 0, _, _ => rfl
  | d + 1, i, out => by unfold impl_ruleMasks.orFrom orP; exact orFrom_eq vals d _ _
theorem tryV_ev {n i : Nat} {m : Int} (hm : 0 ≤ m ∧ m ≤ 30 ∧ m % 2 = 0) (hi : i < n) (F : Nat → List Int → List Int → Option (List Int × List Int)) (G : List Int → List Int → List Int) (hG : ∀ p o, (G p o).length = o.length)
    (hF : ∀ vals out, vals.length = n → out.length = n → (∀ x ∈ vals, 0 ≤ x ∧ x ≤ 4) → ∃ vals', vals'.length = n ∧ vals'.take (i + 1) = vals.take (i + 1) ∧ (∀ x ∈ vals', 0 ≤ x ∧ x ≤ 4) ∧ Ev (fun k => F k vals out) (vals', G (vals.take (i + 1)) out)) :
    ∀ (q : Nat) (x : Int) (vals out : List Int), 1 ≤ x → x + (q : Int) ≤ 5 → vals.length = n → out.length = n → (∀ y ∈ vals, 0 ≤ y ∧ y ≤ 4) → ∃ vals', vals'.length = n ∧ vals'.take i = vals.take i ∧ (∀ y ∈ vals', 0 ≤ y ∧ y ≤ 4) ∧ Ev (fun k => impl_ruleMasks.tryV (F k) m i q x vals out) (vals', ((marks x q).filter (fun y => has m y)).foldl (fun o y => G (vals.take i ++ [y]) o) out)
  | 0, x, vals, out, _, _, hv, ho, hr => ⟨vals, hv, rfl, hr, by unfold impl_ruleMasks.tryV marks; exact Ev.now _⟩
  | q + 1, x, vals, out, hx, hx5, hv, ho, hr => by
    have ha := has_and ⟨hm.1, hm.2.1⟩ (v := x) (by omega)
    unfold marks
    by_cases hh : has m x = true
    · have hset : ((vals.set i x).take (i + 1)) = vals.take i ++ [x] := take_set_succ (by omega) x
      obtain ⟨v1, a1, a2, a3, a4⟩ := hF (vals.set i x) out (by rw [List.length_set]; exact hv) ho (fun y hy => by
        rcases List.mem_or_eq_of_mem_set hy with hy | rfl
        · exact hr y hy
        · omega)
      rw [hset] at a2 a4
      have t1 : v1.take i = vals.take i := by
        have e := congrArg (List.take i) a2
        rw [List.take_take, Nat.min_eq_left (by omega), List.take_append_of_le_length (by rw [List.length_take]; omega), List.take_take, Nat.min_self] at e
        exact e
      obtain ⟨v2, b1, b2, b3, b4⟩ := tryV_ev hm hi F G hG hF q (x + 1) v1 (G (vals.take i ++ [x]) out) (by omega) (by omega) a1 (by rw [hG]; exact ho) a3
      refine ⟨v2, b1, by rw [b2, t1], b3, ?_⟩
      unfold impl_ruleMasks.tryV
      have hc : Go.bits .and .i64 (shr .i64 m x) 1 = 1 := by rw [ha, if_pos hh]
      simp only [hc, if_true]
      rw [List.filter_cons_of_pos hh, List.foldl_cons]
      refine Ev.bind a4 ?_
      rw [t1] at b4
      exact b4
    · obtain ⟨v2, b1, b2, b3, b4⟩ := tryV_ev hm hi F G hG hF q (x + 1) vals out (by omega) (by omega) hv ho hr
      refine ⟨v2, b1, b2, b3, ?_⟩
      unfold impl_ruleMasks.tryV
      have hc : ¬ Go.bits .and .i64 (shr .i64 m x) 1 = 1 := by rw [ha, if_neg hh]; decide
      simp only [hc, if_false]
      rw [List.filter_cons_of_neg hh]
      exact b4
theorem try_ev {kind v : Int} {cs own : List Int} (hk : KindOK kind own.length) (hown : ∀ m ∈ own, 0 ≤ m ∧ m ≤ 30 ∧ m % 2 = 0) : ∀ (d : Nat) (vals out : List Int), d ≤ own.length → vals.length = own.length → out.length = own.length → (∀ x ∈ vals, 0 ≤ x ∧ x ≤ 4) → ∃ vals', vals'.length = own.length ∧ vals'.take (own.length - d) = vals.take (own.length - d) ∧ (∀ x ∈ vals', 0 ≤ x ∧ x ≤ 4) ∧ Ev (fun k => impl_ruleMasks.try_ k kind cs v own d vals out) (vals', waysM kind v own d (vals.take (own.length - d)) out)
  | 0, vals, out, _, hv, ho, hr => by
    refine ⟨vals, hv, rfl, hr, ?_⟩
    unfold impl_ruleMasks.try_ waysM
    refine Ev.bind (valuesHold_ev (hk.vals hv hr)) ?_
    have ht : vals.take (own.length - 0) = vals := List.take_of_length_le (by omega)
    rw [ht]
    by_cases hh : holdsB kind v vals = true
    · have hp : ∀ x ∈ vals, 0 ≤ x := fun x hx => (hr x hx).1
      simp only [hh, if_true]
      rw [if_pos hp, orFrom_eq, hv]
      exact Ev.now _
    · simp only [hh, if_false]
      exact Ev.now _
  | d + 1, vals, out, hd, hv, ho, hr => by
    obtain ⟨i, hi⟩ : ∃ i, own.length - (d + 1) = i := ⟨_, rfl⟩
    have hin : i < own.length := by omega
    have e1 : (own.length : Int) - ((d + 1 : Nat) : Int) = (i : Int) := by omega
    have hm := hown (rd own (i : Int)) (rd_mem (by omega) (by omega))
    obtain ⟨v', a1, a2, a3, a4⟩ := tryV_ev hm hin (fun k => impl_ruleMasks.try_ k kind cs v own d) (fun p o => waysM kind v own d p o) (fun p o => waysM_len _ _ _ _ _ _) (fun vs os h1 h2 h3 => by
      obtain ⟨v1, b1, b2, b3, b4⟩ := try_ev hk hown d vs os (by omega) h1 h2 h3
      rw [show own.length - d = i + 1 by omega] at b2 b4
      exact ⟨v1, b1, b2, b3, b4⟩) 4 1 vals out (by decide) (by decide) hv ho hr
    refine ⟨v', a1, by rw [hi]; exact a2, a3, ?_⟩
    unfold impl_ruleMasks.try_ waysM
    rw [hi, e1, Int.toNat_natCast]
    have hl : (vals.take i).length = i := by rw [List.length_take]; omega
    rw [hl, mvals_marks hm]
    exact a4
theorem implRuleMasks0_ev {kind v : Int} {cs own : List Int} (hk : KindOK kind own.length) (h1 : 1 ≤ own.length) (hown : ∀ m ∈ own, 0 ≤ m ∧ m ≤ 30 ∧ m % 2 = 0) : Ev (fun k => impl_ruleMasks.f k kind cs v own) (waysM kind v own own.length [] (List.replicate own.length 0)) := by
  have h4 := hk.1
  obtain ⟨v', _, _, _, a4⟩ := try_ev (cs := cs) (v := v) hk hown own.length (List.replicate own.length 0) (List.replicate own.length 0) (Nat.le_refl _) (by simp) (by simp) (fun x hx => by
    have := (List.mem_replicate.1 hx).2
    omega)
  unfold impl_ruleMasks.f
  have hc : 0 < own.length ∧ own.length ≤ 100000 := by omega
  simp only [hc, and_self, if_true]
  refine Ev.bind a4 ?_
  rw [Nat.sub_self, List.take_zero]
  exact Ev.now _
theorem allM_30 {s : Int} (h : sizeOkB s = true) : allM s ≤ 30 ∧ 2 ≤ allM s := by rcases sizeOkB_iff.1 h with rfl | rfl | rfl <;> decide

end Go.Proofs.Ythfbjkniinfgcaa.Pure
namespace Go.Proofs.Ythfbjkniinfgcaa.Pure
set_option linter.unusedSimpArgs false
set_option linter.unusedVariables false
open Go.RowKit Go.Proofs.YthfbjkniinfgcaaW.PrintWords Go.Proofs.YthfbjkniinfgcaaW.PrintMore Go.Proofs.Ythfbjkniinfgcaa.P


/-- The masks of a grid: an empty cell has all values. -/
def gridMasks (g : List Int) (s : Int) : List Int := g.map (fun x => if x = 0 then allM s else shl .i64 1 x)
def rulePossible (kind : Int) (cs : List Int) (v : Int) (g : List Int) (s : Int) : Bool := ruleB kind cs v s && (gridB g s && (rd (ruleMasks kind cs v (gridMasks g s) s) 0 != 0))
theorem gridMask_ok {s x : Int} (hs : sizeOkB s = true) (h : 0 ≤ x ∧ x ≤ s) : 0 ≤ (if x = 0 then allM s else shl .i64 1 x) ∧ (if x = 0 then allM s else shl .i64 1 x) ≤ allM s ∧ (if x = 0 then allM s else shl .i64 1 x) % 2 = 0 := by
  rcases sizeOkB_iff.1 hs with rfl | rfl | rfl
  · have : x = 0 ∨ x = 1 ∨ x = 2 := by omega
    rcases this with rfl | rfl | rfl <;> decide +kernel
  · have : x = 0 ∨ x = 1 ∨ x = 2 ∨ x = 3 := by omega
    rcases this with rfl | rfl | rfl | rfl <;> decide +kernel
  · have : x = 0 ∨ x = 1 ∨ x = 2 ∨ x = 3 ∨ x = 4 := by omega
    rcases this with rfl | rfl | rfl | rfl | rfl <;> decide +kernel
theorem gridMasks_ok {g : List Int} {s : Int} (h : gridB g s = true) : masksB (gridMasks g s) s = true := by
  refine masksB_mk (gridB_size h) (by unfold gridMasks; rw [List.length_map]; exact gridB_len h) (fun v hv => ?_)
  unfold gridMasks at hv
  obtain ⟨x, hx, rfl⟩ := List.mem_map.1 hv
  exact gridMask_ok (gridB_size h) (gridB_mem h x hx)
theorem rd_gridMasks {g : List Int} {s : Int} {c : Int} (h0 : 0 ≤ c) (h1 : c < (g.length : Int)) : rd (gridMasks g s) c = if rd g c = 0 then allM s else shl .i64 1 (rd g c) := by
  obtain ⟨n, rfl⟩ := Int.eq_ofNat_of_zero_le h0
  unfold gridMasks
  rw [rd_lt (by rw [List.length_map]; omega), rd_lt (by omega : n < g.length), List.getElem_map]
theorem shlAll {s : Int} (h : sizeOkB s = true) : 0 ≤ wrap64 (s + 1) ∧ wrap64 ((shl .i64 1 (wrap64 (s + 1))) - 2) = allM s := by
  rcases sizeOkB_iff.1 h with rfl | rfl | rfl <;> decide +kernel
theorem specRulePossible_ev (kind : Int) (cs : List Int) (v : Int) (g : List Int) (s : Int) (hl : cs.length ≤ 35184372088832) (hgl : g.length ≤ 35184372088832) : Ev (fun k => spec_RulePossible.f k kind cs v g s) (rulePossible kind cs v g s) := by
  unfold spec_RulePossible.f rulePossible
  have hj : Ev (fun k => spec_RulePossible.j0 k g s true kind cs v) false := by
    refine Ev.step (fun k => spec_RulePossible.j0.eq_2 _ _ _ _ _ _ k) ?_
    simp only [if_true]; exact Ev.now _
  refine Ev.bind (specRuleValid_ev kind cs v s hl) ?_
  by_cases hr : ruleB kind cs v s = true
  · simp only [hr, if_true, Bool.true_and]
    refine Ev.bind (specGridValid_ev g s hgl) ?_
    by_cases hg : gridB g s = true
    · simp only [hg, Bool.not_true, Bool.true_and]
      refine Ev.step (fun k => spec_RulePossible.j0.eq_2 _ _ _ _ _ _ k) ?_
      simp only [Bool.false_eq_true, if_false]
      have hle := gridB_le hg
      have hml : (gridMasks g s).length = g.length := by unfold gridMasks; exact List.length_map _
      refine Ev.range (L := fun k (x : List Int) j => spec_RulePossible.l0 k g s x j kind cs v) (R := fun _ _ => rd (ruleMasks kind cs v (gridMasks g s) s) 0 != 0) (N := g.length) (fun x j => x = (gridMasks g s).take j) ?_ ?_ [] 0 (Nat.zero_le _) rfl
      · rintro x rfl
        refine Ev.step (fun k => spec_RulePossible.l0.eq_2 _ _ _ _ _ _ _ k) ?_
        rw [← hml, List.take_length]
        simp only [hml, Int.lt_irrefl, if_false]
        refine Ev.bind (specRuleMasks_ev kind cs v _ s hl (by omega)) ?_
        have h1 := ruleMasks_lenEq (masks := gridMasks g s) ⟨hr, gridMasks_ok hg⟩
        have h2 := ruleB_len hr
        have h3 : (0 : Int) < ((ruleMasks kind cs v (gridMasks g s) s).length : Int) := by omega
        simp only [h3, if_true]
        exact Ev.now _
      · rintro x j hj rfl ih
        refine Ev.step (fun k => spec_RulePossible.l0.eq_2 _ _ _ _ _ _ _ k) ?_
        have g1 : (j : Int) < (g.length : Int) := by omega
        have g0 : (0 : Int) ≤ (j : Int) := by omega
        have hm := gridB_mem hg _ (rd_mem g0 g1)
        have hxl : ((gridMasks g s).take j).length < 17592186044416 := by rw [List.length_take]; omega
        have ht : (gridMasks g s).take (j + 1) = (gridMasks g s).take j ++ [rd (gridMasks g s) (j : Int)] := by
          rw [List.take_succ_eq_append_getElem (by omega), rd_lt (by omega)]
        obtain ⟨w0, w1⟩ := shlAll (gridB_size hg)
        have h0m := hm.1
        simp only [g0, g1, h0m, if_true, hxl, w0, w1, w64n (by omega : j < 9000000000000000000)]
        by_cases hz : rd g (j : Int) = 0
        · simp only [hz, if_true]
          refine ih _ ?_
          rw [ht, rd_gridMasks g0 g1, if_pos hz]
        · simp only [hz, if_false]
          refine ih _ ?_
          rw [ht, rd_gridMasks g0 g1, if_neg hz]
    · simp only [hg, eq_false_of_ne_true hg, Bool.not_false, Bool.false_and]
      exact hj
  · simp only [hr, if_false, eq_false_of_ne_true hr, Bool.false_and]
    exact hj
theorem canHold_ev {kind : Int} {cs : List Int} {v : Int} {g : List Int} {s : Int} (hr : ruleB kind cs v s = true) (hg : gridB g s = true) : Ev (fun k => impl_canHold.f k kind cs v g s) (rulePossible kind cs v g s) := by
  unfold impl_canHold.f rulePossible
  rw [hr, hg, Bool.true_and, Bool.true_and]
  have h4 := ruleB_len hr
  have hml : (gridMasks g s).length = g.length := by unfold gridMasks; exact List.length_map _
  have hmo := gridMasks_ok hg
  have hcells := rule_cells hr (gridB_len hg)
  have h30 := allM_30 (gridB_size hg)
  refine Ev.range (L := fun k (x : List Int) j => impl_canHold.l0 k g s x cs (cs.length : Int) j kind cs v) (R := fun _ _ => rd (ruleMasks kind cs v (gridMasks g s) s) 0 != 0) (N := cs.length) (fun x j => x = (cs.take j).map (fun c => rd (gridMasks g s) c)) ?_ ?_ [] 0 (Nat.zero_le _) rfl
  · rintro x rfl
    refine Ev.step (fun k => impl_canHold.l0.eq_2 _ _ _ _ _ _ _ _ _ k) ?_
    simp only [Int.lt_irrefl, if_false, List.take_length]
    have hlen : (cs.map (fun c => rd (gridMasks g s) c)).length = cs.length := List.length_map _
    have := implRuleMasks0_ev (kind := kind) (v := v) (cs := cs) (own := cs.map (fun c => rd (gridMasks g s) c)) (by rw [hlen]; exact kindOK_rule hr) (by rw [hlen]; exact h4.1) (fun m hmm => by
      obtain ⟨c, hc, rfl⟩ := List.mem_map.1 hmm
      obtain ⟨c0, c1⟩ := hcells c hc
      have := masksB_mem hmo _ (rd_mem c0 (by omega : c < ((gridMasks g s).length : Int)))
      omega)
    rw [hlen] at this
    refine Ev.bind this ?_
    have e : waysM kind v (cs.map (fun c => rd (gridMasks g s) c)) cs.length [] (List.replicate cs.length 0) = ruleMasks kind cs v (gridMasks g s) s := by
      unfold ruleMasks; rw [if_pos ⟨hr, hmo⟩]
    rw [e]
    have h1 := ruleMasks_lenEq (masks := gridMasks g s) ⟨hr, hmo⟩
    have h3 : (0 : Int) < ((ruleMasks kind cs v (gridMasks g s) s).length : Int) := by omega
    simp only [h3, if_true]
    exact Ev.now _
  · rintro x j hj rfl ih
    refine Ev.step (fun k => impl_canHold.l0.eq_2 _ _ _ _ _ _ _ _ _ k) ?_
    have g1 : (j : Int) < (cs.length : Int) := by omega
    have g0 : (0 : Int) ≤ (j : Int) := by omega
    obtain ⟨c0, c1⟩ := hcells _ (rd_mem g0 g1)
    have hm := gridB_mem hg _ (rd_mem c0 c1)
    have g2 : ((cs.take j).map (fun c => rd (gridMasks g s) c)).length < 17592186044416 := by rw [List.length_map, List.length_take]; omega
    have ht : (cs.take (j + 1)).map (fun c => rd (gridMasks g s) c) = (cs.take j).map (fun c => rd (gridMasks g s) c) ++ [rd (gridMasks g s) (rd cs (j : Int))] := by
      rw [List.take_succ_eq_append_getElem hj, List.map_append, List.map_singleton, rd_lt hj]
    have h0m := hm.1
    simp only [g0, g1, c0, c1, h0m, g2, if_true, w64n (by omega : j < 9000000000000000000), allValues_eq (gridB_size hg), Option.bind_some]
    by_cases hz : rd g (rd cs (j : Int)) > 0
    · simp only [hz, if_true]
      refine ih _ ?_
      rw [ht, rd_gridMasks c0 c1, if_neg (by omega)]
    · simp only [hz, if_false]
      refine ih _ ?_
      rw [ht, rd_gridMasks c0 c1, if_pos (by omega)]

end Go.Proofs.Ythfbjkniinfgcaa.Pure
namespace Go.Proofs.Ythfbjkniinfgcaa.Pure
set_option linter.unusedSimpArgs false
set_option linter.unusedVariables false
open Go.RowKit Go.Proofs.YthfbjkniinfgcaaW.PrintWords Go.Proofs.YthfbjkniinfgcaaW.PrintMore Go.Proofs.Ythfbjkniinfgcaa.P

theorem toRule_ev (a : Int) (l : List Int) (c : Int) (h : l.length ≤ 35184372088832) : Ev (fun k => laws_toRule.f k a l c) (a, l, c) := by
  unfold laws_toRule.f
  refine Ev.bind (toIntS_ev l h) ?_
  exact Ev.now _
theorem eqRule_ev (a : Int) (l : List Int) (c : Int) (h : l.length ≤ 35184372088832) : Ev (fun k => laws_eqRule.f k a l c a l c) true := by
  unfold laws_eqRule.f
  simp only [if_true]
  refine Ev.bind (eqIntS_ev l l (by omega)) ?_
  simp only [decide_true, if_true]
  exact Ev.now _

end Go.Proofs.Ythfbjkniinfgcaa.Pure
namespace Go.Proofs.Ythfbjkniinfgcaa.Pure
set_option linter.unusedSimpArgs false
set_option linter.unusedVariables false
open Go.RowKit Go.Proofs.YthfbjkniinfgcaaW.PrintWords Go.Proofs.YthfbjkniinfgcaaW.PrintMore Go.Proofs.Ythfbjkniinfgcaa.P


def FilledG {α : Type} (r x : List α) (n : Nat) : Prop := x.length = r.length ∧ x.take n = r.take n
theorem FilledG.fin {α : Type} {r x : List α} (h : FilledG r x r.length) : x = r := by
  obtain ⟨h1, h2⟩ := h
  rw [List.take_length, ← h1, List.take_length] at h2
  exact h2
theorem FilledG.set {α : Type} {r x : List α} {n : Nat} (h : FilledG r x n) (hn : n < r.length) {v : α} (hv : v = r[n]) : FilledG r (x.set n v) (n + 1) := by
  refine ⟨by rw [List.length_set]; exact h.1, ?_⟩
  have hx : n < x.length := by have := h.1; omega
  rw [List.take_succ_eq_append_getElem (by simpa using hx), List.take_succ_eq_append_getElem hn, List.take_set_of_le (Nat.le_refl n), h.2, List.getElem_set_self, hv]
theorem szRule_b (a : Int) (l : List Int) (c b : Int) (hb : 0 ≤ b ∧ b ≤ 1048576) (h : l.length ≤ 9223372036854775807) : laws_szRule.f a l c b = some (if (l.length : Int) ≤ b then b - (l.length : Int) else -1) := by
  unfold laws_szRule.f laws_szIntS.f
  have hw : wrap64 (b - (l.length : Int)) = b - (l.length : Int) := by unfold wrap64; omega
  rw [hw]
  by_cases hl : (l.length : Int) ≤ b
  · have h1 : ¬ b - (l.length : Int) < 0 := by omega
    simp only [hl, h1, if_true, if_false, Option.bind_some]
  · have h1 : b - (l.length : Int) < 0 := by omega
    have h2 : (-1 : Int) < 0 := by decide
    simp only [hl, h1, h2, if_true, if_false, Option.bind_some]
theorem rdL (xs : List S47) {n : Nat} (h : n < xs.length) : rd_T47 xs (n : Int) = xs[n] := by simp [rd_T47, h]
theorem rdI (xs : List S32) {n : Nat} (h : n < xs.length) : rd_T32 xs (n : Int) = xs[n] := by simp [rd_T32, h]
def convR (x : S47) : S32 := ⟨x.f0, x.f1, x.f2⟩
theorem szRuleS_ev (rs : List S47) (b : Int) (hb : 0 ≤ b ∧ b ≤ 1048576) (hl : rs.length ≤ 9223372036854775807) (hr : ∀ x ∈ rs, x.f1.length ≤ 9223372036854775807) :
    ∃ r, Ev (fun k => laws_szRuleS.f k rs b) r ∧ (0 ≤ r → rs.length ≤ 1048576 ∧ ∀ x ∈ rs, x.f1.length ≤ 1048576) := by
  unfold laws_szRuleS.f
  have hw : wrap64 (b - (rs.length : Int)) = b - (rs.length : Int) := by unfold wrap64; omega
  rw [hw]
  by_cases hn : b - (rs.length : Int) < 0
  · refine ⟨-1, ?_, fun h => absurd h (by decide)⟩
    simp only [hn, if_true]
    exact Ev.now _
  · simp only [hn, if_false]
    have hloop : ∀ d n (b : Int), n + d = rs.length → 0 ≤ b ∧ b ≤ 1048576 → (∀ x ∈ rs.take n, x.f1.length ≤ 1048576) → ∃ r, Ev (fun k => laws_szRuleS.l0 k rs b (n : Int)) r ∧ (0 ≤ r → ∀ x ∈ rs, x.f1.length ≤ 1048576) := by
      intro d
      induction d with
      | zero =>
        intro n b hnd hb' ht
        refine ⟨b, ?_, fun _ => ?_⟩
        · refine Ev.step (fun k => laws_szRuleS.l0.eq_2 _ _ _ k) ?_
          have h1 : ¬ (n : Int) < (rs.length : Int) := by omega
          simp only [h1, if_false]
          exact Ev.now _
        · rw [List.take_of_length_le (by omega)] at ht
          exact ht
      | succ d ih =>
        intro n b hnd hb' ht
        have h1 : (n : Int) < (rs.length : Int) := by omega
        have h0 : (0 : Int) ≤ (n : Int) := Int.natCast_nonneg n
        have hx := hr rs[n] (List.getElem_mem (by omega))
        by_cases hle : (rs[n].f1.length : Int) ≤ b
        · obtain ⟨r, he, hr'⟩ := ih (n + 1) (b - (rs[n].f1.length : Int)) (by omega) (by omega) (by
            intro x hx'
            rw [List.take_succ_eq_append_getElem (by omega : n < rs.length), List.mem_append, List.mem_singleton] at hx'
            rcases hx' with hx' | rfl
            · exact ht x hx'
            · omega)
          refine ⟨r, ?_, hr'⟩
          refine Ev.step (fun k => laws_szRuleS.l0.eq_2 _ _ _ k) ?_
          have h2 : ¬ b - (rs[n].f1.length : Int) < 0 := by omega
          simp only [h1, h0, if_true, rdL rs (by omega : n < rs.length), szRule_b _ _ _ b hb' hx, hle, Option.bind_some, h2, if_false, w64n (by omega : n < 9000000000000000000)]
          exact he
        · refine ⟨-1, ?_, fun h => absurd h (by decide)⟩
          refine Ev.step (fun k => laws_szRuleS.l0.eq_2 _ _ _ k) ?_
          have h2 : (-1 : Int) < 0 := by decide
          simp only [h1, h0, if_true, rdL rs (by omega : n < rs.length), szRule_b _ _ _ b hb' hx, hle, if_false, Option.bind_some, h2]
          exact Ev.now _
    obtain ⟨r, he, hr'⟩ := hloop rs.length 0 (b - (rs.length : Int)) (by omega) (by omega) (by simp)
    exact ⟨r, he, fun h => ⟨by omega, hr' h⟩⟩
theorem szPuzzle_ev (s : Int) (g : List Int) (rs : List S47) (hg : g.length ≤ 9223372036854775807) (hl : rs.length ≤ 9223372036854775807) (hr : ∀ x ∈ rs, x.f1.length ≤ 9223372036854775807) :
    ∃ r, Ev (fun k => laws_szPuzzle.f k s g rs 1048576) r ∧ (0 ≤ r → g.length ≤ 1048576 ∧ rs.length ≤ 1048576 ∧ ∀ x ∈ rs, x.f1.length ≤ 1048576) := by
  unfold laws_szPuzzle.f laws_szIntS.f
  have hw : wrap64 (1048576 - (g.length : Int)) = 1048576 - (g.length : Int) := by unfold wrap64; omega
  rw [hw]
  have h2 : (-1 : Int) < 0 := by decide
  by_cases hn : 1048576 - (g.length : Int) < 0
  · refine ⟨-1, ?_, fun h => absurd h (by decide)⟩
    simp only [hn, h2, if_true, Option.bind_some]
    exact Ev.now _
  · obtain ⟨r, he, hr'⟩ := szRuleS_ev rs (1048576 - (g.length : Int)) (by omega) hl hr
    by_cases hr0 : r < 0
    · refine ⟨-1, ?_, fun h => absurd h (by decide)⟩
      simp only [hn, if_false, Option.bind_some]
      refine Ev.bind he ?_
      simp only [hr0, if_true]
      exact Ev.now _
    · refine ⟨r, ?_, fun h => ⟨by omega, hr' h⟩⟩
      simp only [hn, if_false, Option.bind_some]
      refine Ev.bind he ?_
      simp only [hr0, if_false]
      exact Ev.now _
theorem toRuleS_ev (rs : List S47) (hl : rs.length ≤ 1048576) (hr : ∀ x ∈ rs, x.f1.length ≤ 1048576) : Ev (fun k => laws_toRuleS.f k rs) (rs.map convR) := by
  unfold laws_toRuleS.f
  have h0 : (0 : Int) ≤ (rs.length : Int) := Int.natCast_nonneg _
  have h1 : rs.length ≤ 7036874417766 := by omega
  simp only [h0, h1, if_true, Int.toNat_natCast]
  have hm : (rs.map convR).length = rs.length := List.length_map _
  have := Ev.range (L := fun k (x : List S32) i => laws_toRuleS.l0 k rs x i) (R := fun _ _ => rs.map convR) (N := rs.length) (fun x i => FilledG (rs.map convR) x i) ?_ ?_ (List.replicate rs.length z32) 0 (Nat.zero_le _) ⟨by simp, by simp⟩
  · simpa using this
  · intro x hx
    refine Ev.step (fun k => laws_toRuleS.l0.eq_2 _ _ _ k) ?_
    simp only [Int.lt_irrefl, if_false]
    have hx' : FilledG (rs.map convR) x (rs.map convR).length := by rw [hm]; exact hx
    rw [hx'.fin]; exact Ev.now _
  · intro x i hi hx ih
    refine Ev.step (fun k => laws_toRuleS.l0.eq_2 _ _ _ k) ?_
    have h2 : (i : Int) < (rs.length : Int) := by omega
    have h3 : (0 : Int) ≤ (i : Int) := Int.natCast_nonneg i
    have h4 : (i : Int) < (x.length : Int) := by have := hx.1; omega
    simp only [h2, h3, if_true, rdL rs hi]
    have hlen := hr rs[i] (List.getElem_mem hi)
    refine Ev.bind (toRule_ev _ _ _ (by omega)) ?_
    simp only [h4, if_true, Int.toNat_natCast, w64n (by omega : i < 9000000000000000000)]
    refine ih _ (hx.set (by omega) ?_)
    rw [List.getElem_map]; rfl
theorem toPuzzle_ev (s : Int) (g : List Int) (rs : List S47) (hg : g.length ≤ 1048576) (hl : rs.length ≤ 1048576) (hr : ∀ x ∈ rs, x.f1.length ≤ 1048576) : Ev (fun k => laws_toPuzzle.f k s g rs) (s, g, rs.map convR) := by
  unfold laws_toPuzzle.f
  refine Ev.bind (toIntS_ev g (by omega)) ?_
  refine Ev.bind (toRuleS_ev rs hl hr) ?_
  exact Ev.now _
theorem eqRuleS_ev (rs : List S32) (hl : rs.length ≤ 1048576) (hr : ∀ x ∈ rs, x.f1.length ≤ 1048576) : Ev (fun k => laws_eqRuleS.f k rs rs) true := by
  unfold laws_eqRuleS.f
  simp only [if_true]
  have := Ev.range0 (L := fun k i => laws_eqRuleS.l0 k rs rs i) (R := fun _ => true) (N := rs.length) ?_ ?_ 0 (Nat.zero_le _)
  · simpa using this
  · refine Ev.step (fun k => laws_eqRuleS.l0.eq_2 _ _ _ k) ?_
    simp only [Int.lt_irrefl, if_false]
    exact Ev.now _
  · intro i hi ih
    refine Ev.step (fun k => laws_eqRuleS.l0.eq_2 _ _ _ k) ?_
    have h2 : (i : Int) < (rs.length : Int) := by omega
    have h3 : (0 : Int) ≤ (i : Int) := Int.natCast_nonneg i
    simp only [h2, h3, if_true, rdI rs hi]
    have hlen := hr rs[i] (List.getElem_mem hi)
    refine Ev.bind (eqRule_ev _ _ _ (by omega)) ?_
    simp only [if_true, w64n (by omega : i < 9000000000000000000)]
    exact ih
theorem eqPuzzle_ev (s : Int) (g : List Int) (rs : List S32) (hg : g.length ≤ 1048576) (hl : rs.length ≤ 1048576) (hr : ∀ x ∈ rs, x.f1.length ≤ 1048576) : Ev (fun k => laws_eqPuzzle.f k s g rs s g rs) true := by
  unfold laws_eqPuzzle.f
  simp only [if_true]
  refine Ev.bind (eqIntS_ev g g (by omega)) ?_
  simp only [decide_true, if_true]
  refine Ev.bind (eqRuleS_ev rs hl hr) ?_
  simp only [if_true]
  exact Ev.now _

end Go.Proofs.Ythfbjkniinfgcaa.Pure
namespace Go.Proofs.Ythfbjkniinfgcaa.Pure
set_option linter.unusedSimpArgs false
set_option linter.unusedVariables false
open Go.RowKit Go.Proofs.YthfbjkniinfgcaaW.PrintWords Go.Proofs.YthfbjkniinfgcaaW.PrintMore Go.Proofs.Ythfbjkniinfgcaa.P


def rulesB (rs : List S32) (s : Int) : Bool := rs.all (fun x => ruleB x.f0 x.f1 x.f2 s)
def puzzleB (s : Int) (g : List Int) (rs : List S32) : Bool := gridB g s && (decide ((rs.length : Int) ≤ 20) && rulesB rs s)
theorem rulesB_false {rs : List S32} {s : Int} {i : Nat} (hi : i < rs.length) (h : ruleB rs[i].f0 rs[i].f1 rs[i].f2 s = false) : rulesB rs s = false := by
  unfold rulesB
  rw [List.all_eq_false]
  exact ⟨rs[i], List.getElem_mem hi, by simp [h]⟩
theorem take_all {rs : List S32} {s : Int} {i : Nat} (hi : i < rs.length) (h : rulesB (rs.take i) s = true) (hx : ruleB rs[i].f0 rs[i].f1 rs[i].f2 s = true) : rulesB (rs.take (i + 1)) s = true := by
  unfold rulesB at *
  rw [List.take_succ_eq_append_getElem hi, List.all_append, h]
  simp [hx]
theorem specPuzzleValid_ev (s : Int) (g : List Int) (rs : List S32) (hg : g.length ≤ 1048576) (hl : rs.length ≤ 1048576) (hr : ∀ x ∈ rs, x.f1.length ≤ 1048576) : Ev (fun k => spec_PuzzleValid.f k s g rs) (puzzleB s g rs) := by
  unfold spec_PuzzleValid.f
  have := Ev.range (σ := Unit) (L := fun k _ i => spec_PuzzleValid.l0 k i s g rs) (R := fun _ _ => puzzleB s g rs) (N := rs.length) (fun _ i => rulesB (rs.take i) s = true) ?_ ?_ () 0 (Nat.zero_le _) rfl
  · simpa using this
  · intro _ hall
    refine Ev.step (fun k => spec_PuzzleValid.l0.eq_2 _ _ _ _ k) ?_
    rw [List.take_length] at hall
    simp only [Int.lt_irrefl, if_false]
    refine Ev.bind (specGridValid_ev g s (by omega)) ?_
    unfold puzzleB
    by_cases hgb : gridB g s = true
    · simp only [hgb, hall, if_true, Bool.true_and, Bool.and_true]
      exact Ev.now _
    · simp only [hgb, if_false, Bool.false_eq_true, Bool.false_and]
      exact Ev.now _
  · intro _ i hi hall ih
    refine Ev.step (fun k => spec_PuzzleValid.l0.eq_2 _ _ _ _ k) ?_
    have h2 : (i : Int) < (rs.length : Int) := by omega
    have h3 : (0 : Int) ≤ (i : Int) := Int.natCast_nonneg i
    simp only [h2, h3, if_true, rdI rs hi]
    have hlen := hr rs[i] (List.getElem_mem hi)
    refine Ev.bind (specRuleValid_ev _ _ _ s (by omega)) ?_
    by_cases hx : ruleB rs[i].f0 rs[i].f1 rs[i].f2 s = true
    · simp only [hx, if_true, w64n (by omega : i < 9000000000000000000)]
      exact ih () (take_all hi hall hx)
    · simp only [hx, if_false, Bool.false_eq_true]
      have : puzzleB s g rs = false := by unfold puzzleB; rw [rulesB_false hi (eq_false_of_ne_true hx)]; simp
      rw [this]; exact Ev.now _
theorem implPuzzleValid_ev (s : Int) (g : List Int) (rs : List S32) (hg : g.length ≤ 1048576) (hl : rs.length ≤ 1048576) (hr : ∀ x ∈ rs, x.f1.length ≤ 1048576) : Ev (fun k => impl_PuzzleValid.f k s g rs) (puzzleB s g rs) := by
  unfold impl_PuzzleValid.f puzzleB
  refine Ev.bind (implGridValid_ev g s (by omega)) ?_
  have hno : Ev (fun k => impl_PuzzleValid.j0 k true s g rs) false := by
    refine Ev.step (fun k => impl_PuzzleValid.j0.eq_2 _ _ _ _ k) ?_
    simp only [if_true]; exact Ev.now _
  by_cases hgb : gridB g s = true
  · simp only [hgb, if_true, Bool.true_and]
    by_cases h20 : (rs.length : Int) > 20
    · have h20' : ¬ (rs.length : Int) ≤ 20 := by omega
      simp only [h20, h20', decide_true, decide_false, Bool.false_and]
      exact hno
    · have h20' : (rs.length : Int) ≤ 20 := by omega
      simp only [h20, h20', decide_true, decide_false, Bool.true_and]
      refine Ev.step (fun k => impl_PuzzleValid.j0.eq_2 _ _ _ _ k) ?_
      simp only [Bool.false_eq_true, if_false]
      have := Ev.range (σ := Unit) (L := fun k _ i => impl_PuzzleValid.l0 k rs (rs.length : Int) i s g rs) (R := fun _ _ => rulesB rs s) (N := rs.length) (fun _ i => rulesB (rs.take i) s = true) ?_ ?_ () 0 (Nat.zero_le _) rfl
      · simpa using this
      · intro _ hall
        refine Ev.step (fun k => impl_PuzzleValid.l0.eq_2 _ _ _ _ _ _ k) ?_
        rw [List.take_length] at hall
        simp only [Int.lt_irrefl, if_false, hall]
        exact Ev.now _
      · intro _ i hi hall ih
        refine Ev.step (fun k => impl_PuzzleValid.l0.eq_2 _ _ _ _ _ _ k) ?_
        have h2 : (i : Int) < (rs.length : Int) := by omega
        have h3 : (0 : Int) ≤ (i : Int) := Int.natCast_nonneg i
        simp only [h2, h3, if_true, rdI rs hi]
        have hlen := hr rs[i] (List.getElem_mem hi)
        refine Ev.bind (implRuleValid_ev _ _ _ s (by omega)) ?_
        by_cases hx : ruleB rs[i].f0 rs[i].f1 rs[i].f2 s = true
        · simp only [hx, if_true, w64n (by omega : i < 9000000000000000000)]
          exact ih () (take_all hi hall hx)
        · simp only [hx, if_false, Bool.false_eq_true]
          rw [rulesB_false hi (eq_false_of_ne_true hx)]; exact Ev.now _
  · simp only [hgb, if_false, Bool.false_eq_true, Bool.false_and]
    exact hno

end Go.Proofs.Ythfbjkniinfgcaa.Pure
namespace Go.Proofs.Ythfbjkniinfgcaa.Pure
set_option linter.unusedSimpArgs false
set_option linter.unusedVariables false
open Go.RowKit Go.Proofs.YthfbjkniinfgcaaW.PrintWords Go.Proofs.YthfbjkniinfgcaaW.PrintMore


theorem squareFits_grid {g : List Int} {s : Int} (h : squareFits g s = true) : gridB g s = true := by
  unfold squareFits at h; rw [Bool.and_eq_true] at h; exact h.1

end Go.Proofs.Ythfbjkniinfgcaa.Pure
namespace Go.Proofs.Ythfbjkniinfgcaa.Pure
set_option linter.unusedSimpArgs false
set_option linter.unusedVariables false
open Go.RowKit Go.Proofs.YthfbjkniinfgcaaW.PrintWords Go.Proofs.YthfbjkniinfgcaaW.PrintMore Go.Proofs.Ythfbjkniinfgcaa.P


/-- Do the first n cells agree with the given ones? -/
def agreeP (q g : List Int) : Nat → Bool
  | 0 => true
  | n + 1 => agreeP q g n && decide (0 < rd q (n : Nat) ∧ 0 < rd g (n : Nat) → rd g (n : Nat) = rd q (n : Nat))
theorem agreeP_false {q g : List Int} {n : Nat} (h : agreeP q g n = false) : ∀ d, agreeP q g (n + d) = false
  | 0 => h
  | d + 1 => by rw [show n + (d + 1) = (n + d) + 1 from rfl, agreeP, agreeP_false h d]; rfl
theorem agreeP_le {q g : List Int} {n m : Nat} (h : agreeP q g n = false) (hm : n ≤ m) : agreeP q g m = false := by
  have := agreeP_false h (m - n)
  rwa [show n + (m - n) = m by omega] at this
theorem agreeP_yes {q g : List Int} {n : Nat} (h : agreeP q g n = true) (h1 : 0 < rd q (n : Nat) → 0 < rd g (n : Nat) → rd g (n : Nat) = rd q (n : Nat)) : agreeP q g (n + 1) = true := by
  rw [agreeP, h, Bool.true_and, decide_eq_true_iff]; exact fun hh => h1 hh.1 hh.2
theorem agreeP_no {q g : List Int} {n : Nat} (h1 : 0 < rd q (n : Nat)) (h2 : 0 < rd g (n : Nat)) (h3 : ¬ rd g (n : Nat) = rd q (n : Nat)) : agreeP q g (n + 1) = false := by
  rw [agreeP, Bool.and_eq_false_iff]; right
  rw [decide_eq_false_iff_not]; exact fun h => h3 (h ⟨h1, h2⟩)
def possB (rs : List S32) (g : List Int) (s : Int) : Bool := rs.all (fun x => rulePossible x.f0 x.f1 x.f2 g s)
theorem possB_false {rs : List S32} {g : List Int} {s : Int} {i : Nat} (hi : i < rs.length) (h : rulePossible rs[i].f0 rs[i].f1 rs[i].f2 g s = false) : possB rs g s = false := by
  unfold possB
  rw [List.all_eq_false]
  exact ⟨rs[i], List.getElem_mem hi, by simp [h]⟩
theorem take_possB {rs : List S32} {g : List Int} {s : Int} {i : Nat} (hi : i < rs.length) (h : possB (rs.take i) g s = true) (hx : rulePossible rs[i].f0 rs[i].f1 rs[i].f2 g s = true) : possB (rs.take (i + 1)) g s = true := by
  unfold possB at *
  rw [List.take_succ_eq_append_getElem hi, List.all_append, h]
  simp [hx]
theorem rules_get {rs : List S32} {s : Int} (h : rulesB rs s = true) {i : Nat} (hi : i < rs.length) : ruleB rs[i].f0 rs[i].f1 rs[i].f2 s = true := by
  unfold rulesB at h
  rw [List.all_eq_true] at h
  exact h _ (List.getElem_mem hi)
def puzzleFits (s : Int) (q : List Int) (rs : List S32) (g : List Int) : Bool := puzzleB s q rs && (squareFits g s && (agreeP q g g.length && possB rs g s))
def puzzleSolved (s : Int) (q : List Int) (rs : List S32) (g : List Int) : Bool := puzzleFits s q rs g && decide (gridFilled g s = (g.length : Int))
theorem puzzleB_parts {s : Int} {q : List Int} {rs : List S32} (h : puzzleB s q rs = true) : gridB q s = true ∧ rs.length ≤ 20 ∧ rulesB rs s = true := by
  unfold puzzleB at h
  simp only [Bool.and_eq_true, decide_eq_true_eq] at h
  exact ⟨h.1, by omega, h.2.2⟩
theorem l5Fits_ev {s : Int} {q : List Int} {rs : List S32} {g : List Int} (hp : puzzleB s q rs = true) (hg : gridB g s = true) (hr : ∀ x ∈ rs, x.f1.length ≤ 1048576) : Ev (fun k => spec_l5Fits.f k s q rs g) (agreeP q g g.length && (possB rs g s && !linesClash g s 0 (2 * s.toNat))) := by
  obtain ⟨hq, h20, hrs⟩ := puzzleB_parts hp
  have hgl := gridB_le hg
  have hql : q.length = g.length := by rw [grid_len hq, grid_len hg]
  unfold spec_l5Fits.f
  refine Ev.range (σ := Unit) (L := fun k _ j => spec_l5Fits.l0 k g j s q rs) (R := fun _ _ => agreeP q g g.length && (possB rs g s && !linesClash g s 0 (2 * s.toNat))) (N := g.length) (fun _ j => agreeP q g j = true) ?_ ?_ () 0 (Nat.zero_le _) rfl
  · intro _ ha
    refine Ev.step (fun k => spec_l5Fits.l0.eq_2 _ _ _ _ _ k) ?_
    simp only [Int.lt_irrefl, if_false, ha, Bool.true_and]
    refine Ev.range (σ := Unit) (L := fun k _ j => spec_l5Fits.l1 k g j s q rs) (R := fun _ _ => possB rs g s && !linesClash g s 0 (2 * s.toNat)) (N := rs.length) (fun _ i => possB (rs.take i) g s = true) ?_ ?_ () 0 (Nat.zero_le _) rfl
    · intro _ hall
      refine Ev.step (fun k => spec_l5Fits.l1.eq_2 _ _ _ _ _ k) ?_
      rw [List.take_length] at hall
      simp only [Int.lt_irrefl, if_false, hall, Bool.true_and]
      refine Ev.bind (l2Clash_ev hg) ?_
      exact Ev.now _
    · intro _ i hi hall ih
      refine Ev.step (fun k => spec_l5Fits.l1.eq_2 _ _ _ _ _ k) ?_
      have h2 : (i : Int) < (rs.length : Int) := by omega
      have h3 : (0 : Int) ≤ (i : Int) := Int.natCast_nonneg i
      simp only [h2, h3, if_true, rdI rs hi]
      have hlen := hr rs[i] (List.getElem_mem hi)
      refine Ev.bind (specRulePossible_ev _ _ _ g s (by omega) (by omega)) ?_
      by_cases hx : rulePossible rs[i].f0 rs[i].f1 rs[i].f2 g s = true
      · simp only [hx, if_true, w64n (by omega : i < 9000000000000000000)]
        exact ih () (take_possB hi hall hx)
      · simp only [hx, if_false, Bool.false_eq_true]
        rw [possB_false hi (eq_false_of_ne_true hx)]; exact Ev.now _
  · intro _ j hj ha ih
    refine Ev.step (fun k => spec_l5Fits.l0.eq_2 _ _ _ _ _ k) ?_
    have h1 : (j : Int) < (g.length : Int) := by omega
    have h0 : (0 : Int) ≤ (j : Int) := Int.natCast_nonneg j
    have h2 : (j : Int) < (q.length : Int) := by omega
    simp only [h0, h1, h2, if_true, w64n (by omega : j < 9000000000000000000)]
    by_cases c1 : rd q (j : Int) > 0
    · by_cases c2 : rd g (j : Int) > 0
      · by_cases c3 : rd g (j : Int) = rd q (j : Int)
        · have c2' : rd q (j : Int) > 0 := c1
          simp only [c3, c2', if_true]
          exact ih () (agreeP_yes ha (fun _ _ => c3))
        · simp only [c1, c2, c3, if_true, if_false]
          rw [agreeP_le (agreeP_no c1 c2 c3) hj, Bool.false_and]
          exact Ev.now _
      · simp only [c1, c2, if_true, if_false]
        exact ih () (agreeP_yes ha (fun _ hh => absurd hh c2))
    · simp only [c1, if_false]
      exact ih () (agreeP_yes ha (fun hh => absurd hh c1))
theorem specPuzzleFits_ev (s : Int) (q : List Int) (rs : List S32) (g : List Int) (hq : q.length ≤ 1048576) (hl : rs.length ≤ 1048576) (hr : ∀ x ∈ rs, x.f1.length ≤ 1048576) (hgl : g.length ≤ 1048576) : Ev (fun k => spec_PuzzleFits.f k s q rs g) (puzzleFits s q rs g) := by
  unfold spec_PuzzleFits.f puzzleFits
  refine Ev.bind (specPuzzleValid_ev s q rs hq hl hr) ?_
  by_cases hp : puzzleB s q rs = true
  · simp only [hp, if_true, Bool.true_and]
    refine Ev.bind (specGridValid_ev g s (by omega)) ?_
    by_cases hg : gridB g s = true
    · simp only [hg, if_true]
      refine Ev.bind (l5Fits_ev hp hg hr) ?_
      have e : (agreeP q g g.length && (possB rs g s && !linesClash g s 0 (2 * s.toNat))) = (squareFits g s && (agreeP q g g.length && possB rs g s)) := by
        unfold squareFits
        rw [hg, Bool.true_and]
        cases agreeP q g g.length <;> cases possB rs g s <;> cases linesClash g s 0 (2 * s.toNat) <;> rfl
      rw [e]
      exact Ev.now _
    · have e : squareFits g s = false := by unfold squareFits; rw [eq_false_of_ne_true hg]; rfl
      simp only [hg, if_false, e, Bool.false_and]
      exact Ev.now _
  · simp only [hp, if_false, eq_false_of_ne_true hp, Bool.false_and]
    exact Ev.now _
theorem implPuzzleFits_ev (s : Int) (q : List Int) (rs : List S32) (g : List Int) (hq : q.length ≤ 1048576) (hl : rs.length ≤ 1048576) (hr : ∀ x ∈ rs, x.f1.length ≤ 1048576) (hgl : g.length ≤ 1048576) : Ev (fun k => impl_PuzzleFits.f k s q rs g) (puzzleFits s q rs g) := by
  unfold impl_PuzzleFits.f puzzleFits
  have hno : Ev (fun k => impl_PuzzleFits.j0 k g true s q rs) false := by
    refine Ev.step (fun k => impl_PuzzleFits.j0.eq_2 _ _ _ _ _ k) ?_
    simp only [if_true]; exact Ev.now _
  refine Ev.bind (implPuzzleValid_ev s q rs hq hl hr) ?_
  by_cases hp : puzzleB s q rs = true
  · simp only [hp, if_true, Bool.true_and]
    obtain ⟨hqg, h20, hrs⟩ := puzzleB_parts hp
    refine Ev.bind (implSquareFits_ev g s (by omega)) ?_
    by_cases hf : squareFits g s = true
    · simp only [hf, Bool.not_true, Bool.true_and]
      have hg := squareFits_grid hf
      have hql : q.length = g.length := by rw [grid_len hqg, grid_len hg]
      have hg16 := gridB_le hg
      refine Ev.step (fun k => impl_PuzzleFits.j0.eq_2 _ _ _ _ _ k) ?_
      simp only [Bool.false_eq_true, if_false]
      refine Ev.range (σ := Unit) (L := fun k _ j => impl_PuzzleFits.l0 k g g (g.length : Int) j s q rs) (R := fun _ _ => agreeP q g g.length && possB rs g s) (N := g.length) (fun _ j => agreeP q g j = true) ?_ ?_ () 0 (Nat.zero_le _) rfl
      · intro _ ha
        refine Ev.step (fun k => impl_PuzzleFits.l0.eq_2 _ _ _ _ _ _ _ k) ?_
        simp only [Int.lt_irrefl, if_false, ha, Bool.true_and]
        refine Ev.range (σ := Unit) (L := fun k _ j => impl_PuzzleFits.l1 k g rs (rs.length : Int) j s q rs) (R := fun _ _ => possB rs g s) (N := rs.length) (fun _ i => possB (rs.take i) g s = true) ?_ ?_ () 0 (Nat.zero_le _) rfl
        · intro _ hall
          refine Ev.step (fun k => impl_PuzzleFits.l1.eq_2 _ _ _ _ _ _ _ k) ?_
          rw [List.take_length] at hall
          simp only [Int.lt_irrefl, if_false, hall]
          exact Ev.now _
        · intro _ i hi hall ih
          refine Ev.step (fun k => impl_PuzzleFits.l1.eq_2 _ _ _ _ _ _ _ k) ?_
          have h2 : (i : Int) < (rs.length : Int) := by omega
          have h3 : (0 : Int) ≤ (i : Int) := Int.natCast_nonneg i
          simp only [h2, h3, if_true, rdI rs hi]
          refine Ev.bind (canHold_ev (rules_get hrs hi) hg) ?_
          by_cases hx : rulePossible rs[i].f0 rs[i].f1 rs[i].f2 g s = true
          · simp only [hx, if_true, w64n (by omega : i < 9000000000000000000)]
            exact ih () (take_possB hi hall hx)
          · simp only [hx, if_false, Bool.false_eq_true]
            rw [possB_false hi (eq_false_of_ne_true hx)]; exact Ev.now _
      · intro _ j hj ha ih
        refine Ev.step (fun k => impl_PuzzleFits.l0.eq_2 _ _ _ _ _ _ _ k) ?_
        have h1 : (j : Int) < (g.length : Int) := by omega
        have h0 : (0 : Int) ≤ (j : Int) := Int.natCast_nonneg j
        have h2 : (j : Int) < (q.length : Int) := by omega
        simp only [h0, h1, h2, if_true, w64n (by omega : j < 9000000000000000000)]
        by_cases c2 : rd g (j : Int) > 0
        · by_cases c1 : rd q (j : Int) > 0
          · by_cases c3 : rd g (j : Int) = rd q (j : Int)
            · have c2' : rd q (j : Int) > 0 := c1
              simp only [c3, c2', if_true]
              exact ih () (agreeP_yes ha (fun _ _ => c3))
            · simp only [c1, c2, c3, if_true, if_false]
              rw [agreeP_le (agreeP_no c1 c2 c3) hj, Bool.false_and]
              exact Ev.now _
          · simp only [c1, c2, if_true, if_false]
            exact ih () (agreeP_yes ha (fun hh => absurd hh c1))
        · simp only [c2, if_false]
          exact ih () (agreeP_yes ha (fun _ hh => absurd hh c2))
    · simp only [hf, eq_false_of_ne_true hf, Bool.not_false, Bool.false_and]
      exact hno
  · simp only [hp, if_false, eq_false_of_ne_true hp, Bool.false_and]
    exact hno
theorem specPuzzleSolved_ev (s : Int) (q : List Int) (rs : List S32) (g : List Int) (hq : q.length ≤ 1048576) (hl : rs.length ≤ 1048576) (hr : ∀ x ∈ rs, x.f1.length ≤ 1048576) (hgl : g.length ≤ 1048576) : Ev (fun k => spec_PuzzleSolved.f k s q rs g) (puzzleSolved s q rs g) := by
  unfold spec_PuzzleSolved.f puzzleSolved
  refine Ev.bind (specPuzzleFits_ev s q rs g hq hl hr hgl) ?_
  by_cases hf : puzzleFits s q rs g = true
  · simp only [hf, if_true, Bool.true_and]
    refine Ev.bind (specGridFilled_ev g s (by omega)) ?_
    exact Ev.now _
  · simp only [hf, if_false, eq_false_of_ne_true hf, Bool.false_and]
    exact Ev.now _
theorem implPuzzleSolved_ev (s : Int) (q : List Int) (rs : List S32) (g : List Int) (hq : q.length ≤ 1048576) (hl : rs.length ≤ 1048576) (hr : ∀ x ∈ rs, x.f1.length ≤ 1048576) (hgl : g.length ≤ 1048576) : Ev (fun k => impl_PuzzleSolved.f k s q rs g) (puzzleSolved s q rs g) := by
  unfold impl_PuzzleSolved.f puzzleSolved
  refine Ev.bind (implPuzzleFits_ev s q rs g hq hl hr hgl) ?_
  by_cases hf : puzzleFits s q rs g = true
  · simp only [hf, if_true, Bool.true_and]
    refine Ev.bind (implGridFilled_ev g s (by omega)) ?_
    exact Ev.now _
  · simp only [hf, if_false, eq_false_of_ne_true hf, Bool.false_and]
    exact Ev.now _

end Go.Proofs.Ythfbjkniinfgcaa.Pure
namespace Go.Proofs.Ythfbjkniinfgcaa.Pure
set_option linter.unusedSimpArgs false
set_option linter.unusedVariables false
open Go.RowKit Go.Proofs.YthfbjkniinfgcaaW.PrintWords Go.Proofs.YthfbjkniinfgcaaW.PrintMore Go.Proofs.Ythfbjkniinfgcaa.P


theorem FnExactPuzzleSolved (s : Int) (_ : (Lit.int .i64 s).wf = true) (q : List Int) (hq : q.length ≤ 9223372036854775807) (_ : ∀ x ∈ q, (Lit.int .i64 x).wf = true) (rs : List S47) (hl : rs.length ≤ 9223372036854775807) (hr : ∀ x ∈ rs, RuleWf x) (g : List Int) (_ : g.length ≤ maxLen) (_ : ∀ x ∈ g, (Lit.int .i64 x).wf = true) : ∃ k, laws_FnExactPuzzleSolved.f k s q rs g = some true := by
  apply Ev.rounds
  unfold laws_FnExactPuzzleSolved.f
  by_cases hgl : (g.length : Int) > 1048576
  · simp only [hgl, if_true]; exact Ev.now _
  simp only [hgl, if_false]
  obtain ⟨r, he, hb⟩ := szPuzzle_ev s q rs hq hl (fun x hx => (hr x hx).2.1)
  refine Ev.bind he ?_
  by_cases h0 : r < 0
  · simp only [h0, if_true]; exact Ev.now _
  · obtain ⟨hq', hl', hr'⟩ := hb (by omega)
    have hl2 : (rs.map convR).length ≤ 1048576 := by rw [List.length_map]; exact hl'
    have hr2 : ∀ x ∈ rs.map convR, x.f1.length ≤ 1048576 := by
      intro x hx
      obtain ⟨y, hy, rfl⟩ := List.mem_map.1 hx
      exact hr' y hy
    simp only [h0, if_false]
    refine Ev.bind (toPuzzle_ev s q rs hq' hl' hr') ?_
    refine Ev.bind (toIntS_ev g (by omega)) ?_
    refine Ev.bind (specPuzzleSolved_ev s q _ g hq' hl2 hr2 (by omega)) ?_
    refine Ev.bind (toPuzzle_ev s q rs hq' hl' hr') ?_
    refine Ev.bind (toIntS_ev g (by omega)) ?_
    refine Ev.bind (implPuzzleSolved_ev s q _ g hq' hl2 hr2 (by omega)) ?_
    simp only [bne_self_eq_false, Bool.false_eq_true, if_false]
    refine Ev.bind (toPuzzle_ev s q rs hq' hl' hr') ?_
    refine Ev.bind (eqPuzzle_ev s q _ hq' hl2 hr2) ?_
    simp only [if_true]
    refine Ev.bind (toIntS_ev g (by omega)) ?_
    refine Ev.bind (eqIntS_ev g g (by omega)) ?_
    simp only [decide_true, if_true]
    exact Ev.now _

end Go.Proofs.Ythfbjkniinfgcaa.Pure
