/- The plain side of the law FnExactStartMasks: what the functions come to, and that the law answers true. Conditions: as stated in each. -/
import Derived.Laws.BitsLemmas
import Derived.Lib.SmallJoins
import Derived.OpenShut
import Derived.Test.YthfbjkniinfgcaaZP1
import Derived.Test.YthfbjkniinfgcaaZP2
import Derived.Test.YthfbjkniinfgcaaZP3
import Derived.Test.YthfbjkniinfgcaaZP4
import Derived.Test.YthfbjkniinfgcaaZW
namespace Go.Proofs.Ythfbjkniinfgcaa.Pure
set_option linter.unusedSimpArgs false
set_option linter.unusedVariables false
open Go.RowKit Go.Proofs.YthfbjkniinfgcaaW.PrintWords Go.Proofs.YthfbjkniinfgcaaW.PrintMore Go.Proofs.Ythfbjkniinfgcaa.P

theorem cellsOfRule : Try.prog.cellsOf 47 = 3 := by kernel_rfl
theorem cellsOfInt : Try.prog.cellsOf 3 = 1 := by kernel_rfl
theorem cellsOfInts : Try.prog.cellsOf 23 = 1 := by kernel_rfl
def RuleWf (x : S47) : Prop := (Lit.int .i64 x.f0).wf = true ∧ x.f1.length ≤ 9223372036854775807 ∧ (∀ y ∈ x.f1, (Lit.int .i64 y).wf = true) ∧ (Lit.int .i64 x.f2).wf = true
theorem ints_of {H : Type} {enc : TypeId × Value → H} {W : World} {n : Nat} {c : Value} {y : DataW H × List MemPlace} (h : DataW.trod enc Try.prog W 0 (fun _ => true) true n 23 [c] = some y) :
    ∃ (A : Option Addr) (k : Nat) (l : List Int), c = .slice A l.length k ∧ l.length ≤ k ∧ Kd.C (Kd.int .i64) W A l.length l ∧ l.length ≤ 9223372036854775807 ∧ ∀ y ∈ l, (Lit.int .i64 y).wf = true := by
  obtain ⟨A, len, k, zs, hc, w⟩ : ∃ A len k zs, c = Value.slice A len k ∧ ((A = none ∧ len = 0 ∧ k = 0 ∧ zs = []) ∨ ∃ x, A = some x ∧ len ≤ k ∧ k ≤ maxLen ∧ zs.length = k ∧ (∀ i, i < zs.length → W.cell? (x.add i) = some (.int .i64 (zs.getD i 0))) ∧ ∀ n ∈ zs, (Lit.int .i64 n).wf = true) := by
    rcases Go.ChangeShapes.open_ints Try.underlying23 Try.underlying3 (by kernel_rfl) h with ⟨hcs, _⟩ | ⟨x, l, c', zs, hcs, _, hl, hm, hz, _, hcell, hwz⟩
    · exact ⟨none, 0, 0, [], by simpa using hcs, .inl ⟨rfl, rfl, rfl, rfl⟩⟩
    · exact ⟨some x, l, c', zs, by simpa using hcs, .inr ⟨_, rfl, hl, hm, by simpa using hz, hcell, hwz⟩⟩
  obtain ⟨l, rfl, hr, hm, hw, hcc⟩ := ReadsInt.ofRowC w
  exact ⟨A, k, l, hc, hcc, Kd.C_of_reads (d := (0 : Int)) (h1 := fun _ => rfl) hr, hm, hw⟩
theorem rule_of {H : Type} {enc : TypeId × Value → H} {W : World} {n : Nat} {cs : List Value} {y : DataW H × List MemPlace} (h : DataW.trod enc Try.prog W 0 (fun _ => true) true n 47 cs = some y) :
    ∃ (x : S47) (A : Option Addr) (c : Nat), cs = [.int .i64 x.f0, .slice A x.f1.length c, .int .i64 x.f2] ∧ x.f1.length ≤ c ∧ Kd.C (Kd.int .i64) W A x.f1.length x.f1 ∧ RuleWf x := by
  obtain ⟨y0, y1, y2, m, _, hl, h0, h1, h2⟩ := Go.Deep.trod_struct3 Try.underlying47 h
  rw [cellsOfRule] at hl
  match cs, hl with
  | [c0, c1, c2], _ =>
    simp only [cellsOfInt, cellsOfInts, List.drop_succ_cons, List.drop_zero, List.take_succ_cons, List.take_zero] at h0 h1 h2
    obtain ⟨a, e0, _, w0⟩ := DataW.trod_int Try.underlying3 h0
    obtain ⟨b, e2, _, w2⟩ := DataW.trod_int Try.underlying3 h2
    obtain ⟨A, k, l, e1, hk, hC, hm, hw⟩ := ints_of h1
    obtain rfl : c0 = .int .i64 a := by simpa using e0
    obtain rfl : c2 = .int .i64 b := by simpa using e2
    subst e1
    exact ⟨⟨a, l, b⟩, A, k, rfl, hk, hC, w0, hm, hw, w2⟩
theorem rules_of {H : Type} {enc : TypeId × Value → H} {W : World} {n : Nat} {c : Value} {y : DataW H × List MemPlace} (h : DataW.trod enc Try.prog W 0 (fun _ => true) true n 36 [c] = some y) :
    ∃ (A : Option Addr) (k : Nat) (l : List S47), c = .slice A l.length k ∧ l.length ≤ k ∧ Kd.C k47 W A l.length l ∧ l.length ≤ 9223372036854775807 ∧ ∀ x ∈ l, RuleWf x := by
  rcases Go.Deep.open_slice Try.underlying36 h with ⟨hcs, _⟩ | ⟨a, len, cap, m, q, D, Pl, hcs, _, hlc, hcm, hm, _, hi⟩
  · exact ⟨none, 0, [], by simpa using hcs, Nat.le_refl _, ⟨rfl, by decide, fun h => absurd h (by decide)⟩, by decide, fun x hx => by cases hx⟩
  · have hm' : m = cap := by simpa using hm
    have hall : ∀ i, ∃ x : S47, i < len → RuleWf x ∧ ∃ cs : List Value, k47.K W x cs ∧ cs.length = 3 ∧ ∀ j u, cs[j]? = some u → W.cell? (a.add (i * 3 + j)) = some u := by
      intro i
      by_cases hil : i < len
      · obtain ⟨cs', hc, ht⟩ := hi i (by omega)
        rw [cellsOfRule] at hc
        obtain ⟨x, A, k, rfl, hk, hC, hwf⟩ := rule_of ht
        obtain ⟨_, hcl, hat⟩ := World.cells?_some hc
        refine ⟨x, fun _ => ⟨hwf, _, k47_mk W x hk hC, rfl, fun j u hu => ?_⟩⟩
        have hj : j < 3 := by
          have := (List.getElem?_eq_some_iff.1 hu).1
          simpa using this
        rw [← Go.Deep.add_add, hat j hj]; exact hu
      · exact ⟨⟨0, [], 0⟩, fun h => absurd h hil⟩
    obtain ⟨f, hf⟩ := Classical.axiomOfChoice hall
    have hlen : ((List.range len).map f).length = len := by rw [List.length_map, List.length_range]
    have hmax : len ≤ 9223372036854775807 := Nat.le_trans hlc hcm
    refine ⟨some a, cap, (List.range len).map f, ?_, by rw [hlen]; exact hlc, ⟨rfl, by rw [hlen]; exact hmax, fun _ => ⟨a, rfl, fun j p hj => ?_⟩⟩, by rw [hlen]; exact hmax, fun x hx => ?_⟩
    · rw [hlen]; simpa using hcs
    · obtain ⟨hj1, hj2⟩ := List.getElem?_eq_some_iff.1 hj
      rw [hlen] at hj1
      obtain ⟨_, cs, hK, hl, hat⟩ := hf j hj1
      have hp : p = f j := by rw [← hj2]; simp
      rw [hp]
      exact ⟨cs, hl, hK, hat⟩
    · obtain ⟨i, hi2, rfl⟩ := List.mem_map.1 hx
      exact (hf i (List.mem_range.1 hi2)).1

end Go.Proofs.Ythfbjkniinfgcaa.Pure
namespace Go.Proofs.Ythfbjkniinfgcaa.Pure
set_option linter.unusedSimpArgs false
set_option linter.unusedVariables false
open Go.RowKit Go.Proofs.YthfbjkniinfgcaaW.PrintWords Go.Proofs.YthfbjkniinfgcaaW.PrintMore


theorem w64 {x : Int} (h0 : -9223372036854775808 ≤ x) (h1 : x ≤ 9223372036854775807) : wrap64 x = x := by
  unfold wrap64; omega
theorem w64n {n : Nat} (h : n < 9000000000000000000) : wrap64 ((n : Int) + 1) = ((n + 1 : Nat) : Int) := by
  unfold wrap64; omega
theorem rd_nat (xs : List Int) (n : Nat) : rd xs (n : Int) = xs.getD n 0 := by simp [rd]
theorem rd_lt {xs : List Int} {n : Nat} (h : n < xs.length) : rd xs (n : Int) = xs[n] := by simp [rd, h]
theorem Ev.some {α : Type} {g : Nat → Option α} {r : α} (h : ∀ k, g k = Option.some r) : Ev g r := ⟨0, fun k _ => h k⟩
/-- A loop that counts from n up to N, with a state. -/
theorem Ev.range {σ α : Type} {L : Nat → σ → Int → Option α} {R : σ → Nat → α} {N : Nat} (P : σ → Nat → Prop)
    (hend : ∀ s, P s N → Ev (fun k => L k s (N : Int)) (R s N))
    (hstep : ∀ s n, n < N → P s n → (∀ s', P s' (n + 1) → Ev (fun k => L k s' ((n + 1 : Nat) : Int)) (R s' (n + 1))) → Ev (fun k => L k s (n : Int)) (R s n)) :
    ∀ s n, n ≤ N → P s n → Ev (fun k => L k s (n : Int)) (R s n) := by
  intro s n hn
  obtain ⟨d, hd⟩ : ∃ d, N = n + d := ⟨N - n, by omega⟩
  induction d generalizing s n with
  | zero => obtain rfl : N = n := by omega
            exact hend s
  | succ d ih => exact fun hp => hstep s n (by omega) hp (fun s' hp' => ih s' (n + 1) (by omega) (by omega) hp')
/-- The same without a state. -/
theorem Ev.range0 {α : Type} {L : Nat → Int → Option α} {R : Nat → α} {N : Nat}
    (hend : Ev (fun k => L k (N : Int)) (R N))
    (hstep : ∀ n, n < N → Ev (fun k => L k ((n + 1 : Nat) : Int)) (R (n + 1)) → Ev (fun k => L k (n : Int)) (R n)) :
    ∀ n, n ≤ N → Ev (fun k => L k (n : Int)) (R n) := by
  intro n hn
  exact Ev.range (σ := Unit) (L := fun k _ i => L k i) (R := fun _ n => R n) (fun _ _ => True) (fun _ _ => hend) (fun _ n h _ ih => hstep n h (ih () trivial)) () n hn trivial
theorem rd_ge {xs : List Int} {i : Int} (h : xs.length ≤ i.toNat) : rd xs i = 0 := by simp [rd, List.getElem?_eq_none h]
theorem take_set_succ {x : List Int} {n : Nat} (h : n < x.length) (v : Int) : (x.set n v).take (n + 1) = x.take n ++ [v] := by
  rw [List.take_succ_eq_append_getElem (by simpa using h)]
  simp [List.take_set_of_le (Nat.le_refl n)]
theorem drop_cons {xs : List Int} {n : Nat} (h : n < xs.length) : xs.drop n = xs[n] :: xs.drop (n + 1) := List.drop_eq_getElem_cons h

end Go.Proofs.Ythfbjkniinfgcaa.Pure
namespace Go.Proofs.Ythfbjkniinfgcaa.Pure
set_option linter.unusedSimpArgs false
set_option linter.unusedVariables false
open Go.RowKit Go.Proofs.YthfbjkniinfgcaaW.PrintWords Go.Proofs.YthfbjkniinfgcaaW.PrintMore


/-! ## The model -/
def sizeOkB (s : Int) : Bool := decide (2 ≤ s ∧ s ≤ 4)
def gridB (g : List Int) (s : Int) : Bool := sizeOkB s && (decide ((g.length : Int) = s * s) && g.all (fun v => decide (0 ≤ v ∧ v ≤ s)))
/-- The mask of all values. -/
def allM (s : Int) : Int := if s = 2 then 6 else if s = 3 then 14 else 30
/-- Marks k, k + 1, .. -/
def marks (k : Int) : Nat → List Int
  | 0 => []
  | n + 1 => k :: marks (k + 1) n
theorem marks_length (k : Int) (n : Nat) : (marks k n).length = n := by induction n generalizing k with
  | zero => rfl
  | succ n ih => simp [marks, ih]
theorem sizeOkB_iff {s : Int} : sizeOkB s = true ↔ s = 2 ∨ s = 3 ∨ s = 4 := by
  unfold sizeOkB; rw [decide_eq_true_iff]; omega
theorem gridB_size {g : List Int} {s : Int} (h : gridB g s = true) : sizeOkB s = true := by unfold gridB at h; simp only [Bool.and_eq_true] at h; exact h.1
theorem gridB_len {g : List Int} {s : Int} (h : gridB g s = true) : (g.length : Int) = s * s := by unfold gridB at h; simp only [Bool.and_eq_true, decide_eq_true_eq] at h; exact h.2.1
theorem gridB_mem {g : List Int} {s : Int} (h : gridB g s = true) : ∀ v ∈ g, 0 ≤ v ∧ v ≤ s := by
  unfold gridB at h; simp only [Bool.and_eq_true, decide_eq_true_eq, List.all_eq_true] at h; exact h.2.2
theorem gridB_le {g : List Int} {s : Int} (h : gridB g s = true) : g.length ≤ 16 := by
  have := gridB_len h
  rcases sizeOkB_iff.1 (gridB_size h) with rfl | rfl | rfl <;> omega

end Go.Proofs.Ythfbjkniinfgcaa.Pure
namespace Go.Proofs.Ythfbjkniinfgcaa.Pure
set_option linter.unusedSimpArgs false
set_option linter.unusedVariables false
open Go.RowKit Go.Proofs.YthfbjkniinfgcaaW.PrintWords Go.Proofs.YthfbjkniinfgcaaW.PrintMore Go.Proofs.Ythfbjkniinfgcaa.P


theorem eqIntS_ev (a b : List Int) (h : a.length < 9000000000000000000) : Ev (fun k => laws_eqIntS.f k a b) (decide (a = b)) := by
  unfold laws_eqIntS.f
  by_cases hl : a.length = b.length
  · simp only [hl, if_true]
    have := Ev.range0 (L := fun k i => laws_eqIntS.l0 k a b i) (R := fun n => decide (a.drop n = b.drop n)) (N := a.length) ?_ ?_ 0 (Nat.zero_le _)
    · simpa using this
    · refine Ev.step (fun k => laws_eqIntS.l0.eq_2 _ _ _ k) ?_
      have e1 : a.drop a.length = [] := List.drop_length
      have e2 : b.drop a.length = [] := by rw [hl]; exact List.drop_length
      simp [e1, e2, Ev.now]
    · intro n hn ih
      refine Ev.step (fun k => laws_eqIntS.l0.eq_2 _ _ _ k) ?_
      have h1 : (n : Int) < (a.length : Int) := by omega
      have h2 : (n : Int) < (b.length : Int) := by omega
      have h3 : (0 : Int) ≤ n := by omega
      rw [drop_cons hn, drop_cons (by omega : n < b.length)]
      simp only [h1, h2, h3, if_true, rd_lt hn, rd_lt (by omega : n < b.length)]
      by_cases he : a[n] = b[n]
      · simp only [he, if_true, w64n (by omega : n < 9000000000000000000), List.cons.injEq, true_and]
        exact ih
      · simp only [he, if_false, List.cons.injEq, false_and, decide_false]
        exact Ev.now _
  · have : ¬ ((a.length : Int) = (b.length : Int)) := by omega
    have hne : ¬ a = b := fun e => hl (by rw [e])
    simp only [this, if_false, hne, decide_false]
    exact Ev.now _
theorem toIntS_ev (a : List Int) (h : a.length ≤ 35184372088832) : Ev (fun k => laws_toIntS.f k a) a := by
  unfold laws_toIntS.f
  have h0 : (0 : Int) ≤ (a.length : Int) := by omega
  have h1 : ((a.length : Int) : Int).toNat ≤ 35184372088832 := by simpa using h
  simp only [h0, h1, if_true]
  have := Ev.range (L := fun k (x : List Int) i => laws_toIntS.l0 k a x i) (R := fun _ _ => a) (N := a.length) (fun x n => x.length = a.length ∧ x.take n = a.take n) ?_ ?_ (List.replicate ((a.length : Int)).toNat 0) 0 (Nat.zero_le _) (by simp)
  · simpa using this
  · rintro x ⟨hl, he⟩
    refine Ev.step (fun k => laws_toIntS.l0.eq_2 _ _ _ k) ?_
    have e : x = a := by rw [← hl, List.take_length, hl, List.take_length] at he; exact he
    simp only [Int.lt_irrefl, if_false, e]
    exact Ev.now _
  · rintro x n hn ⟨hl, he⟩ ih
    refine Ev.step (fun k => laws_toIntS.l0.eq_2 _ _ _ k) ?_
    have h1 : (n : Int) < (a.length : Int) := by omega
    have h2 : (n : Int) < (x.length : Int) := by omega
    have h3 : (0 : Int) ≤ n := by omega
    simp only [h1, h2, h3, if_true, rd_lt hn, Int.toNat_natCast, w64n (by omega : n < 9000000000000000000)]
    refine ih _ ⟨by simp [hl], ?_⟩
    rw [take_set_succ (by omega : n < x.length), he, List.take_succ_eq_append_getElem hn]
theorem markIntS_ev (a : List Int) (m : Int) (h : a.length ≤ 17592186044416) (h0 : 0 ≤ m) (h1 : m ≤ 1000000000000000000) : Ev (fun k => laws_markIntS.f k a m) (m + a.length, marks m a.length) := by
  unfold laws_markIntS.f
  have := Ev.range (L := fun k (x : List Int) i => laws_markIntS.l0 k x (m + i) i) (R := fun x n => (m + a.length, x.take n ++ marks (m + n) (a.length - n))) (N := a.length) (fun x n => x.length = a.length) ?_ ?_ a 0 (Nat.zero_le _) rfl
  · simpa using this
  · intro x hx
    refine Ev.step (fun k => laws_markIntS.l0.eq_2 _ _ _ k) ?_
    have hn : ¬ ((a.length : Int) < (x.length : Int)) := by omega
    have e : x.take a.length ++ marks (m + (a.length : Nat)) (a.length - a.length) = x := by
      rw [← hx, List.take_length, Nat.sub_self]; simp [marks]
    simp only [hn, if_false, e]
    exact Ev.now _
  · intro x n hn hx ih
    refine Ev.step (fun k => laws_markIntS.l0.eq_2 _ _ _ k) ?_
    have h2 : (n : Int) < (x.length : Int) := by omega
    have h3 : (0 : Int) ≤ n := by omega
    have e1 : wrap64 (m + n + 1) = m + ((n + 1 : Nat) : Int) := by rw [w64 (by omega) (by omega)]; omega
    simp only [h2, h3, if_true, Int.toNat_natCast, w64n (by omega : n < 9000000000000000000), e1]
    have := ih (x.set n (m + n)) (by simp [hx])
    have e2 : (x.set n (m + n)).take (n + 1) ++ marks (m + ((n + 1 : Nat) : Int)) (a.length - (n + 1)) = x.take n ++ marks (m + n) (a.length - n) := by
      have e3 : a.length - n = (a.length - (n + 1)) + 1 := by omega
      rw [e3, marks, take_set_succ (by omega : n < x.length)]
      have e5 : m + (n : Int) + 1 = m + ((n + 1 : Nat) : Int) := by omega
      rw [e5]; simp
    rw [e2] at this
    exact this
theorem heldIntS_marks (m : Int) (l : Nat) (h : l ≤ 17592186044416) (h0 : 0 ≤ m) (h1 : m ≤ 1000000000000000000) : Ev (fun k => laws_heldIntS.f k (marks m l) m) (m + l) := by
  unfold laws_heldIntS.f
  have hm : ∀ n, n < l → rd (marks m l) (n : Int) = m + n := by
    intro n hn
    have : ∀ (l n : Nat) (m : Int), n < l → (marks m l).getD n 0 = m + n := by
      intro l
      induction l with
      | zero => intro n m h; omega
      | succ l ih =>
        intro n m h
        cases n with
        | zero => simp [marks]
        | succ n => simp only [marks, List.getD_cons_succ]; rw [ih n (m + 1) (by omega)]; omega
    rw [rd_nat]; exact this l n m hn
  have := Ev.range0 (L := fun k i => laws_heldIntS.l0 k (marks m l) (m + i) i) (R := fun _ => m + l) (N := l) ?_ ?_ 0 (Nat.zero_le _)
  · simpa using this
  · refine Ev.step (fun k => laws_heldIntS.l0.eq_2 _ _ _ k) ?_
    simp [marks_length, Ev.now]
  · intro n hn ih
    refine Ev.step (fun k => laws_heldIntS.l0.eq_2 _ _ _ k) ?_
    have h2 : (n : Int) < ((marks m l).length : Int) := by rw [marks_length]; omega
    have h3 : (0 : Int) ≤ n := by omega
    have e1 : wrap64 (m + n + 1) = m + ((n + 1 : Nat) : Int) := by rw [w64 (by omega) (by omega)]; omega
    simp only [h2, h3, if_true, hm n hn, w64n (by omega : n < 9000000000000000000), e1]
    exact ih

end Go.Proofs.Ythfbjkniinfgcaa.Pure
namespace Go.Proofs.Ythfbjkniinfgcaa.Pure
set_option linter.unusedSimpArgs false
set_option linter.unusedVariables false
open Go.RowKit Go.Proofs.YthfbjkniinfgcaaW.PrintWords Go.Proofs.YthfbjkniinfgcaaW.PrintMore Go.Proofs.Ythfbjkniinfgcaa.P

theorem toRule_ev (a : Int) (l : List Int) (c : Int) (h : l.length ≤ 35184372088832) : Ev (fun k => laws_toRule.f k a l c) (a, l, c) := by
  unfold laws_toRule.f
  refine Ev.bind (toIntS_ev l h) ?_
  exact Ev.now _
theorem eqRule_ev (a : Int) (l : List Int) (c : Int) (h : l.length ≤ 35184372088832) : Ev (fun k => laws_eqRule.f k a l c a l c) true := by
  unfold laws_eqRule.f
  simp only [if_true]
  refine Ev.bind (eqIntS_ev l l (by omega)) ?_
  simp only [decide_true, if_true]
  exact Ev.now _

end Go.Proofs.Ythfbjkniinfgcaa.Pure
namespace Go.Proofs.Ythfbjkniinfgcaa.Pure
set_option linter.unusedSimpArgs false
set_option linter.unusedVariables false
open Go.RowKit Go.Proofs.YthfbjkniinfgcaaW.PrintWords Go.Proofs.YthfbjkniinfgcaaW.PrintMore Go.Proofs.Ythfbjkniinfgcaa.P


def FilledG {α : Type} (r x : List α) (n : Nat) : Prop := x.length = r.length ∧ x.take n = r.take n
theorem FilledG.fin {α : Type} {r x : List α} (h : FilledG r x r.length) : x = r := by
  obtain ⟨h1, h2⟩ := h
  rw [List.take_length, ← h1, List.take_length] at h2
  exact h2
theorem FilledG.set {α : Type} {r x : List α} {n : Nat} (h : FilledG r x n) (hn : n < r.length) {v : α} (hv : v = r[n]) : FilledG r (x.set n v) (n + 1) := by
  refine ⟨by rw [List.length_set]; exact h.1, ?_⟩
  have hx : n < x.length := by have := h.1; omega
  rw [List.take_succ_eq_append_getElem (by simpa using hx), List.take_succ_eq_append_getElem hn, List.take_set_of_le (Nat.le_refl n), h.2, List.getElem_set_self, hv]
theorem szRule_b (a : Int) (l : List Int) (c b : Int) (hb : 0 ≤ b ∧ b ≤ 1048576) (h : l.length ≤ 9223372036854775807) : laws_szRule.f a l c b = some (if (l.length : Int) ≤ b then b - (l.length : Int) else -1) := by
  unfold laws_szRule.f laws_szIntS.f
  have hw : wrap64 (b - (l.length : Int)) = b - (l.length : Int) := by unfold wrap64; omega
  rw [hw]
  by_cases hl : (l.length : Int) ≤ b
  · have h1 : ¬ b - (l.length : Int) < 0 := by omega
    simp only [hl, h1, if_true, if_false, Option.bind_some]
  · have h1 : b - (l.length : Int) < 0 := by omega
    have h2 : (-1 : Int) < 0 := by decide
    simp only [hl, h1, h2, if_true, if_false, Option.bind_some]
theorem rdL (xs : List S47) {n : Nat} (h : n < xs.length) : rd_T47 xs (n : Int) = xs[n] := by simp [rd_T47, h]
theorem rdI (xs : List S32) {n : Nat} (h : n < xs.length) : rd_T32 xs (n : Int) = xs[n] := by simp [rd_T32, h]
def convR (x : S47) : S32 := ⟨x.f0, x.f1, x.f2⟩
theorem szRuleS_ev (rs : List S47) (b : Int) (hb : 0 ≤ b ∧ b ≤ 1048576) (hl : rs.length ≤ 9223372036854775807) (hr : ∀ x ∈ rs, x.f1.length ≤ 9223372036854775807) :
    ∃ r, Ev (fun k => laws_szRuleS.f k rs b) r ∧ (0 ≤ r → rs.length ≤ 1048576 ∧ ∀ x ∈ rs, x.f1.length ≤ 1048576) := by
  unfold laws_szRuleS.f
  have hw : wrap64 (b - (rs.length : Int)) = b - (rs.length : Int) := by unfold wrap64; omega
  rw [hw]
  by_cases hn : b - (rs.length : Int) < 0
  · refine ⟨-1, ?_, fun h => absurd h (by decide)⟩
    simp only [hn, if_true]
    exact Ev.now _
  · simp only [hn, if_false]
    have hloop : ∀ d n (b : Int), n + d = rs.length → 0 ≤ b ∧ b ≤ 1048576 → (∀ x ∈ rs.take n, x.f1.length ≤ 1048576) → ∃ r, Ev (fun k => laws_szRuleS.l0 k rs b (n : Int)) r ∧ (0 ≤ r → ∀ x ∈ rs, x.f1.length ≤ 1048576) := by
      intro d
      induction d with
      | zero =>
        intro n b hnd hb' ht
        refine ⟨b, ?_, fun _ => ?_⟩
        · refine Ev.step (fun k => laws_szRuleS.l0.eq_2 _ _ _ k) ?_
          have h1 : ¬ (n : Int) < (rs.length : Int) := by omega
          simp only [h1, if_false]
          exact Ev.now _
        · rw [List.take_of_length_le (by omega)] at ht
          exact ht
      | succ d ih =>
        intro n b hnd hb' ht
        have h1 : (n : Int) < (rs.length : Int) := by omega
        have h0 : (0 : Int) ≤ (n : Int) := Int.natCast_nonneg n
        have hx := hr rs[n] (List.getElem_mem (by omega))
        by_cases hle : (rs[n].f1.length : Int) ≤ b
        · obtain ⟨r, he, hr'⟩ := ih (n + 1) (b - (rs[n].f1.length : Int)) (by omega) (by omega) (by
            intro x hx'
            rw [List.take_succ_eq_append_getElem (by omega : n < rs.length), List.mem_append, List.mem_singleton] at hx'
            rcases hx' with hx' | rfl
            · exact ht x hx'
            · omega)
          refine ⟨r, ?_, hr'⟩
          refine Ev.step (fun k => laws_szRuleS.l0.eq_2 _ _ _ k) ?_
          have h2 : ¬ b - (rs[n].f1.length : Int) < 0 := by omega
          simp only [h1, h0, if_true, rdL rs (by omega : n < rs.length), szRule_b _ _ _ b hb' hx, hle, Option.bind_some, h2, if_false, w64n (by omega : n < 9000000000000000000)]
          exact he
        · refine ⟨-1, ?_, fun h => absurd h (by decide)⟩
          refine Ev.step (fun k => laws_szRuleS.l0.eq_2 _ _ _ k) ?_
          have h2 : (-1 : Int) < 0 := by decide
          simp only [h1, h0, if_true, rdL rs (by omega : n < rs.length), szRule_b _ _ _ b hb' hx, hle, if_false, Option.bind_some, h2]
          exact Ev.now _
    obtain ⟨r, he, hr'⟩ := hloop rs.length 0 (b - (rs.length : Int)) (by omega) (by omega) (by simp)
    exact ⟨r, he, fun h => ⟨by omega, hr' h⟩⟩
theorem szPuzzle_ev (s : Int) (g : List Int) (rs : List S47) (hg : g.length ≤ 9223372036854775807) (hl : rs.length ≤ 9223372036854775807) (hr : ∀ x ∈ rs, x.f1.length ≤ 9223372036854775807) :
    ∃ r, Ev (fun k => laws_szPuzzle.f k s g rs 1048576) r ∧ (0 ≤ r → g.length ≤ 1048576 ∧ rs.length ≤ 1048576 ∧ ∀ x ∈ rs, x.f1.length ≤ 1048576) := by
  unfold laws_szPuzzle.f laws_szIntS.f
  have hw : wrap64 (1048576 - (g.length : Int)) = 1048576 - (g.length : Int) := by unfold wrap64; omega
  rw [hw]
  have h2 : (-1 : Int) < 0 := by decide
  by_cases hn : 1048576 - (g.length : Int) < 0
  · refine ⟨-1, ?_, fun h => absurd h (by decide)⟩
    simp only [hn, h2, if_true, Option.bind_some]
    exact Ev.now _
  · obtain ⟨r, he, hr'⟩ := szRuleS_ev rs (1048576 - (g.length : Int)) (by omega) hl hr
    by_cases hr0 : r < 0
    · refine ⟨-1, ?_, fun h => absurd h (by decide)⟩
      simp only [hn, if_false, Option.bind_some]
      refine Ev.bind he ?_
      simp only [hr0, if_true]
      exact Ev.now _
    · refine ⟨r, ?_, fun h => ⟨by omega, hr' h⟩⟩
      simp only [hn, if_false, Option.bind_some]
      refine Ev.bind he ?_
      simp only [hr0, if_false]
      exact Ev.now _
theorem toRuleS_ev (rs : List S47) (hl : rs.length ≤ 1048576) (hr : ∀ x ∈ rs, x.f1.length ≤ 1048576) : Ev (fun k => laws_toRuleS.f k rs) (rs.map convR) := by
  unfold laws_toRuleS.f
  have h0 : (0 : Int) ≤ (rs.length : Int) := Int.natCast_nonneg _
  have h1 : rs.length ≤ 7036874417766 := by omega
  simp only [h0, h1, if_true, Int.toNat_natCast]
  have hm : (rs.map convR).length = rs.length := List.length_map _
  have := Ev.range (L := fun k (x : List S32) i => laws_toRuleS.l0 k rs x i) (R := fun _ _ => rs.map convR) (N := rs.length) (fun x i => FilledG (rs.map convR) x i) ?_ ?_ (List.replicate rs.length z32) 0 (Nat.zero_le _) ⟨by simp, by simp⟩
  · simpa using this
  · intro x hx
    refine Ev.step (fun k => laws_toRuleS.l0.eq_2 _ _ _ k) ?_
    simp only [Int.lt_irrefl, if_false]
    have hx' : FilledG (rs.map convR) x (rs.map convR).length := by rw [hm]; exact hx
    rw [hx'.fin]; exact Ev.now _
  · intro x i hi hx ih
    refine Ev.step (fun k => laws_toRuleS.l0.eq_2 _ _ _ k) ?_
    have h2 : (i : Int) < (rs.length : Int) := by omega
    have h3 : (0 : Int) ≤ (i : Int) := Int.natCast_nonneg i
    have h4 : (i : Int) < (x.length : Int) := by have := hx.1; omega
    simp only [h2, h3, if_true, rdL rs hi]
    have hlen := hr rs[i] (List.getElem_mem hi)
    refine Ev.bind (toRule_ev _ _ _ (by omega)) ?_
    simp only [h4, if_true, Int.toNat_natCast, w64n (by omega : i < 9000000000000000000)]
    refine ih _ (hx.set (by omega) ?_)
    rw [List.getElem_map]; rfl
theorem toPuzzle_ev (s : Int) (g : List Int) (rs : List S47) (hg : g.length ≤ 1048576) (hl : rs.length ≤ 1048576) (hr : ∀ x ∈ rs, x.f1.length ≤ 1048576) : Ev (fun k => laws_toPuzzle.f k s g rs) (s, g, rs.map convR) := by
  unfold laws_toPuzzle.f
  refine Ev.bind (toIntS_ev g (by omega)) ?_
  refine Ev.bind (toRuleS_ev rs hl hr) ?_
  exact Ev.now _
theorem eqRuleS_ev (rs : List S32) (hl : rs.length ≤ 1048576) (hr : ∀ x ∈ rs, x.f1.length ≤ 1048576) : Ev (fun k => laws_eqRuleS.f k rs rs) true := by
  unfold laws_eqRuleS.f
  simp only [if_true]
  have := Ev.range0 (L := fun k i => laws_eqRuleS.l0 k rs rs i) (R := fun _ => true) (N := rs.length) ?_ ?_ 0 (Nat.zero_le _)
  · simpa using this
  · refine Ev.step (fun k => laws_eqRuleS.l0.eq_2 _ _ _ k) ?_
    simp only [Int.lt_irrefl, if_false]
    exact Ev.now _
  · intro i hi ih
    refine Ev.step (fun k => laws_eqRuleS.l0.eq_2 _ _ _ k) ?_
    have h2 : (i : Int) < (rs.length : Int) := by omega
    have h3 : (0 : Int) ≤ (i : Int) := Int.natCast_nonneg i
    simp only [h2, h3, if_true, rdI rs hi]
    have hlen := hr rs[i] (List.getElem_mem hi)
    refine Ev.bind (eqRule_ev _ _ _ (by omega)) ?_
    simp only [if_true, w64n (by omega : i < 9000000000000000000)]
    exact ih
theorem eqPuzzle_ev (s : Int) (g : List Int) (rs : List S32) (hg : g.length ≤ 1048576) (hl : rs.length ≤ 1048576) (hr : ∀ x ∈ rs, x.f1.length ≤ 1048576) : Ev (fun k => laws_eqPuzzle.f k s g rs s g rs) true := by
  unfold laws_eqPuzzle.f
  simp only [if_true]
  refine Ev.bind (eqIntS_ev g g (by omega)) ?_
  simp only [decide_true, if_true]
  refine Ev.bind (eqRuleS_ev rs hl hr) ?_
  simp only [if_true]
  exact Ev.now _

end Go.Proofs.Ythfbjkniinfgcaa.Pure
namespace Go.Proofs.Ythfbjkniinfgcaa.Pure
set_option linter.unusedSimpArgs false
set_option linter.unusedVariables false
open Go.RowKit Go.Proofs.YthfbjkniinfgcaaW.PrintWords Go.Proofs.YthfbjkniinfgcaaW.PrintMore Go.Proofs.Ythfbjkniinfgcaa.P


theorem markRuleS_ev : ∀ (d n : Nat) (rs : List S32) (m : Int), n + d = rs.length → rs.length ≤ 1048576 → (∀ x ∈ rs, x.f1.length ≤ 1048576) → 0 ≤ m → m ≤ 2000000 * (n + 1 : Nat) → ∃ r, Ev (fun k => laws_markRuleS.l0 k rs m (n : Int)) r ∧ 0 ≤ r.1 ∧ r.1 ≤ 2000000 * (rs.length + 1 : Nat)
  | 0, n, rs, m, hn, _, _, hm, hm2 => by
    refine ⟨(m, rs), Ev.step (fun k => laws_markRuleS.l0.eq_2 _ _ _ k) ?_, hm, by rw [← hn]; exact hm2⟩
    have h1 : ¬ (n : Int) < (rs.length : Int) := by omega
    simp only [h1, if_false]
    exact Ev.now _
  | d + 1, n, rs, m, hn, hl, hr, hm, hm2 => by
    have hlt : n < rs.length := by omega
    have h1 : (n : Int) < (rs.length : Int) := by omega
    have h0 : (0 : Int) ≤ (n : Int) := by omega
    have hx := hr rs[n] (List.getElem_mem hlt)
    have e1 : wrap64 (m + 1) = m + 1 := by unfold wrap64; omega
    have e2 : wrap64 (m + 1 + (rs[n].f1.length : Int) + 1) = m + 1 + (rs[n].f1.length : Int) + 1 := by unfold wrap64; omega
    obtain ⟨r, he, hr0⟩ := markRuleS_ev d (n + 1) (rs.set n ⟨m, marks (m + 1) rs[n].f1.length, m + 1 + (rs[n].f1.length : Int)⟩) (m + 1 + (rs[n].f1.length : Int) + 1) (by rw [List.length_set]; omega) (by rw [List.length_set]; exact hl) (fun x hx' => by
      rcases List.mem_or_eq_of_mem_set hx' with hx' | rfl
      · exact hr x hx'
      · rw [marks_length]; exact hx) (by omega) (by push_cast at hm2 ⊢; omega)
    rw [List.length_set] at hr0
    refine ⟨r, Ev.step (fun k => laws_markRuleS.l0.eq_2 _ _ _ k) ?_, hr0⟩
    simp only [h1, h0, if_true, rdI rs hlt, e1]
    refine Ev.bind (markIntS_ev rs[n].f1 (m + 1) (by omega) (by omega) (by omega)) ?_
    simp only [e2, w64n (by omega : n < 9000000000000000000), Int.toNat_natCast]
    exact he
theorem markPuzzle_ev (s : Int) (g : List Int) (rs : List S32) (hg : g.length ≤ 1048576) (hl : rs.length ≤ 1048576) (hr : ∀ x ∈ rs, x.f1.length ≤ 1048576) : ∃ r, Ev (fun k => laws_markPuzzle.f k s g rs 1) r ∧ ¬ r.1 < 0 ∧ r.1 ≤ 1000000000000000000 := by
  obtain ⟨r, he, hr0⟩ := markRuleS_ev rs.length 0 rs (1 + (g.length : Int)) (by omega) hl hr (by omega) (by push_cast; omega)
  refine ⟨(r.1, marks 1 g.length, r.2), ?_, by simp only; omega, by simp only; push_cast at hr0; omega⟩
  unfold laws_markPuzzle.f
  refine Ev.bind (markIntS_ev g 1 (by omega) (by decide) (by decide)) ?_
  refine Ev.bind (a := r) ?_ ?_
  · unfold laws_markRuleS.f; exact he
  · exact Ev.now _

end Go.Proofs.Ythfbjkniinfgcaa.Pure
namespace Go.Proofs.Ythfbjkniinfgcaa.Pure
set_option linter.unusedSimpArgs false
set_option linter.unusedVariables false
open Go.RowKit Go.Proofs.YthfbjkniinfgcaaW.PrintWords Go.Proofs.YthfbjkniinfgcaaW.PrintMore Go.Proofs.Ythfbjkniinfgcaa.P


theorem l1In_eq (a b c : Int) : spec_l1In.f a b c = some (decide (b ≤ a ∧ a ≤ c)) := by
  unfold spec_l1In.f
  by_cases h : a ≥ b
  · have h' : b ≤ a := h
    simp [h']
  · have h' : ¬ b ≤ a := h
    simp [h']
theorem sizeOk_eq (a : Int) : impl_sizeOk.f a = some (sizeOkB a) := by
  unfold impl_sizeOk.f sizeOkB
  by_cases h : a ≥ 2
  · have h' : 2 ≤ a := h
    simp [h']
  · have h' : ¬ 2 ≤ a := h
    simp [h']
theorem allValues_eq {s : Int} (h : sizeOkB s = true) : impl_allValues.f s = some (allM s) := by
  rcases sizeOkB_iff.1 h with rfl | rfl | rfl <;> decide +kernel

end Go.Proofs.Ythfbjkniinfgcaa.Pure
namespace Go.Proofs.Ythfbjkniinfgcaa.Pure
set_option linter.unusedSimpArgs false
set_option linter.unusedVariables false
open Go.RowKit Go.Proofs.YthfbjkniinfgcaaW.PrintWords Go.Proofs.YthfbjkniinfgcaaW.PrintMore Go.Proofs.Ythfbjkniinfgcaa.P

theorem rd_set {x : List Int} {c d : Nat} (h : c < x.length) (v : Int) : rd (x.set c v) (d : Int) = if d = c then v else rd x (d : Int) := by
  by_cases hd : d = c
  · subst hd
    rw [rd_lt (by rw [List.length_set]; exact h), if_pos rfl, List.getElem_set_self]
  · rw [if_neg hd]
    by_cases hx : d < x.length
    · rw [rd_lt (by rw [List.length_set]; exact hx), rd_lt hx, List.getElem_set_ne (fun e => hd e.symm)]
    · rw [rd_ge (by rw [List.length_set, Int.toNat_natCast]; omega), rd_ge (by rw [Int.toNat_natCast]; omega)]
/-- x is y, but f is applied to the elements at the places of p. -/
def Upd (f : Int → Int) (p : Nat → Prop) (y x : List Int) : Prop := x.length = y.length ∧ ∀ c : Nat, c < y.length → (p c → rd x (c : Int) = f (rd y (c : Int))) ∧ (¬ p c → rd x (c : Int) = rd y (c : Int))
theorem Upd.set {f : Int → Int} {p q : Nat → Prop} {y x : List Int} {d : Nat} (h : Upd f p y x) (hd : d < y.length) (hp : ¬ p d) (e : ∀ c, c < y.length → (q c ↔ (c = d ∨ p c))) {v : Int} (hv : v = f (rd x (d : Int))) : Upd f q y (x.set d v) := by
  have hdx : d < x.length := by have := h.1; omega
  refine ⟨by rw [List.length_set]; exact h.1, fun c hc => ⟨fun hq => ?_, fun hq => ?_⟩⟩
  · rw [rd_set hdx]
    by_cases hcd : c = d
    · rw [if_pos hcd, hv, hcd, (h.2 d hd).2 hp]
    · rw [if_neg hcd]
      exact (h.2 c hc).1 (((e c hc).1 hq).resolve_left hcd)
  · rw [rd_set hdx]
    have hcd : ¬ c = d := fun hcd => hq ((e c hc).2 (.inl hcd))
    rw [if_neg hcd]
    exact (h.2 c hc).2 (fun hp => hq ((e c hc).2 (.inr hp)))

end Go.Proofs.Ythfbjkniinfgcaa.Pure
namespace Go.Proofs.Ythfbjkniinfgcaa.Pure
set_option linter.unusedSimpArgs false
set_option linter.unusedVariables false
open Go.RowKit Go.Proofs.YthfbjkniinfgcaaW.PrintWords Go.Proofs.YthfbjkniinfgcaaW.PrintMore Go.Proofs.Ythfbjkniinfgcaa.P


theorem specGridValid_ev (g : List Int) (s : Int) (h : g.length ≤ 35184372088832) : Ev (fun k => spec_GridValid.f k g s) (gridB g s) := by
  unfold spec_GridValid.f
  have := Ev.range0 (L := fun k i => spec_GridValid.l0 k g s i) (R := fun n => (g.drop n).all (fun v => decide (0 ≤ v ∧ v ≤ s)) && (sizeOkB s && decide ((g.length : Int) = s * s))) (N := g.length) ?_ ?_ 0 (Nat.zero_le _)
  · have e : gridB g s = ((g.drop 0).all (fun v => decide (0 ≤ v ∧ v ≤ s)) && (sizeOkB s && decide ((g.length : Int) = s * s))) := by
      unfold gridB; rw [List.drop_zero]; cases sizeOkB s <;> cases decide ((g.length : Int) = s * s) <;> simp
    rw [e]; simpa using this
  · refine Ev.step (fun k => spec_GridValid.l0.eq_2 _ _ _ k) ?_
    simp only [Int.lt_irrefl, if_false, l1In_eq, Option.bind_some, List.drop_length, List.all_nil, Bool.true_and]
    by_cases hs : sizeOkB s = true
    · have hs' : decide (2 ≤ s ∧ s ≤ 4) = true := hs
      have hw : wrap64 (s * s) = s * s := by rcases sizeOkB_iff.1 hs with rfl | rfl | rfl <;> decide +kernel
      simp only [hs', if_true, hs, hw, Bool.true_and]
      have e : ((g.length : Int) == s * s) = decide ((g.length : Int) = s * s) := by
        by_cases h : (g.length : Int) = s * s <;> simp [h]
      rw [e]; exact Ev.now _
    · have hs' : ¬ decide (2 ≤ s ∧ s ≤ 4) = true := hs
      simp only [hs', hs, if_false, Bool.false_and, eq_false_of_ne_true hs, Bool.false_eq_true]
      exact Ev.now _
  · intro n hn ih
    refine Ev.step (fun k => spec_GridValid.l0.eq_2 _ _ _ k) ?_
    have h1 : (n : Int) < (g.length : Int) := by omega
    have h3 : (0 : Int) ≤ n := by omega
    rw [drop_cons hn]
    simp only [h1, h3, if_true, rd_lt hn, l1In_eq, Option.bind_some, List.all_cons]
    by_cases hv : decide (0 ≤ g[n] ∧ g[n] ≤ s) = true
    · simp only [hv, if_true, w64n (by omega : n < 9000000000000000000), Bool.true_and]
      exact ih
    · simp only [hv, if_false, eq_false_of_ne_true hv, Bool.false_and, Bool.false_eq_true]
      exact Ev.now _
theorem implGridValid_ev (g : List Int) (s : Int) (h : g.length ≤ 35184372088832) : Ev (fun k => impl_GridValid.f k g s) (gridB g s) := by
  unfold impl_GridValid.f
  simp only [sizeOk_eq, Option.bind_some]
  by_cases hs : sizeOkB s = true
  · have hw : wrap64 (s * s) = s * s := by rcases sizeOkB_iff.1 hs with rfl | rfl | rfl <;> decide +kernel
    simp only [hs, if_true, hw]
    refine Ev.step (fun k => impl_GridValid.j0.eq_2 _ _ _ k) ?_
    by_cases hl : (g.length : Int) = s * s
    · have e : ((g.length : Int) != s * s) = false := by simp [hl]
      simp only [e, Bool.false_eq_true, if_false]
      have := Ev.range0 (L := fun k i => impl_GridValid.l0 k s g (g.length : Int) i) (R := fun n => (g.drop n).all (fun v => decide (0 ≤ v ∧ v ≤ s))) (N := g.length) ?_ ?_ 0 (Nat.zero_le _)
      · have e : gridB g s = (g.drop 0).all (fun v => decide (0 ≤ v ∧ v ≤ s)) := by
          unfold gridB; rw [List.drop_zero, hs, hl]; simp
        rw [e]; simpa using this
      · refine Ev.step (fun k => impl_GridValid.l0.eq_2 _ _ _ _ k) ?_
        simp only [Int.lt_irrefl, if_false, List.drop_length, List.all_nil]
        exact Ev.now _
      · intro n hn ih
        refine Ev.step (fun k => impl_GridValid.l0.eq_2 _ _ _ _ k) ?_
        have h1 : (n : Int) < (g.length : Int) := by omega
        have h3 : (0 : Int) ≤ n := by omega
        rw [drop_cons hn]
        simp only [h1, h3, if_true, rd_lt hn, List.all_cons]
        by_cases ha : g[n] < 0
        · have : decide (0 ≤ g[n] ∧ g[n] ≤ s) = false := decide_eq_false (by omega)
          simp only [ha, if_true, this, Bool.false_and]
          exact Ev.now _
        · by_cases hb : g[n] > s
          · have : decide (0 ≤ g[n] ∧ g[n] ≤ s) = false := decide_eq_false (by omega)
            simp only [ha, hb, if_true, if_false, this, Bool.false_and]
            exact Ev.now _
          · have : decide (0 ≤ g[n] ∧ g[n] ≤ s) = true := decide_eq_true (by omega)
            simp only [ha, hb, if_false, this, Bool.true_and, w64n (by omega : n < 9000000000000000000)]
            exact ih
    · have e : ((g.length : Int) != s * s) = true := by simp [hl]
      have e2 : gridB g s = false := by unfold gridB; simp [hl]
      simp only [e, if_true, e2]
      exact Ev.now _
  · have e2 : gridB g s = false := by unfold gridB; simp [hs]
    simp only [hs, if_false, e2, Bool.false_eq_true]
    refine Ev.step (fun k => impl_GridValid.j0.eq_2 _ _ _ k) ?_
    simp only [if_true]
    exact Ev.now _

end Go.Proofs.Ythfbjkniinfgcaa.Pure
namespace Go.Proofs.Ythfbjkniinfgcaa.Pure
set_option linter.unusedSimpArgs false
set_option linter.unusedVariables false
open Go.RowKit Go.Proofs.YthfbjkniinfgcaaW.PrintWords Go.Proofs.YthfbjkniinfgcaaW.PrintMore


/-- Are the first n cells numbers of cells of the grid, each another one? -/
def goodCells (t : Int) (cs : List Int) : Nat → Bool
  | 0 => true
  | n + 1 => goodCells t cs n && (decide (0 ≤ rd cs (n : Int) ∧ rd cs (n : Int) < t) && !decide (rd cs (n : Int) ∈ cs.take n))
theorem goodCells_false {t : Int} {cs : List Int} {n : Nat} (h : goodCells t cs n = false) : ∀ d, goodCells t cs (n + d) = false
  | 0 => h
  | d + 1 => by rw [show n + (d + 1) = (n + d) + 1 from rfl, goodCells, goodCells_false h d]; rfl
theorem goodCells_le {t : Int} {cs : List Int} {n m : Nat} (h : goodCells t cs n = false) (hm : n ≤ m) : goodCells t cs m = false := by
  obtain ⟨d, rfl⟩ : ∃ d, m = n + d := ⟨m - n, by omega⟩
  exact goodCells_false h d
/-- What is asked of a rule's number of cells and of its value. -/
def ruleTail (kind len v s : Int) : Bool := decide (len ≤ 4) && (if kind = 1 then decide (2 ≤ len ∧ v = 0) else if kind = 2 ∨ kind = 3 then decide (1 ≤ len ∧ 1 ≤ v ∧ v ≤ s * s * s * s) else if kind = 4 then decide (len = 2 ∧ v = 0) else if kind = 5 then decide (len = 2 ∧ 0 ≤ v ∧ v < s) else false)
def ruleB (kind : Int) (cs : List Int) (v s : Int) : Bool := sizeOkB s && (goodCells (s * s) cs cs.length && ruleTail kind cs.length v s)
/-- Some earlier cell is the same, if it stands among the first n. -/
theorem mem_take_iff {cs : List Int} {n : Nat} {c : Int} : c ∈ cs.take n ↔ ∃ j, j < n ∧ j < cs.length ∧ rd cs (j : Int) = c := by
  constructor
  · intro h
    obtain ⟨j, hj, he⟩ := List.mem_iff_getElem.1 h
    rw [List.length_take] at hj
    refine ⟨j, by omega, by omega, ?_⟩
    rw [rd_lt (by omega : j < cs.length), ← he, List.getElem_take]
  · rintro ⟨j, h1, h2, he⟩
    rw [rd_lt h2] at he
    refine List.mem_iff_getElem.2 ⟨j, by rw [List.length_take]; omega, ?_⟩
    rw [List.getElem_take]; exact he

end Go.Proofs.Ythfbjkniinfgcaa.Pure
namespace Go.Proofs.Ythfbjkniinfgcaa.Pure
set_option linter.unusedSimpArgs false
set_option linter.unusedVariables false
open Go.RowKit Go.Proofs.YthfbjkniinfgcaaW.PrintWords Go.Proofs.YthfbjkniinfgcaaW.PrintMore Go.Proofs.Ythfbjkniinfgcaa.P


theorem index_ev (l : List Int) (x : Int) (h : l.length ≤ 35184372088832) : ∀ d n, n + d = l.length → ∃ r : Int, (0 ≤ r ↔ x ∈ l.drop n) ∧ Ev (fun k => slices_Index_int_int.l0 k l x (l.length : Int) (n : Int)) r
  | 0, n, hn => by
    refine ⟨-1, ?_, ?_⟩
    · rw [List.drop_eq_nil_of_le (by omega)]; simp
    · refine Ev.step (fun k => slices_Index_int_int.l0.eq_2 _ _ _ _ k) ?_
      have h1 : ¬ (n : Int) < (l.length : Int) := by omega
      simp only [h1, if_false]
      exact Ev.now _
  | d + 1, n, hn => by
    have h1 : (n : Int) < (l.length : Int) := by omega
    have h0 : (0 : Int) ≤ (n : Int) := Int.natCast_nonneg n
    have hd : l.drop n = l[n] :: l.drop (n + 1) := drop_cons (by omega)
    by_cases hx : x = rd l (n : Int)
    · refine ⟨(n : Int), ⟨fun _ => ?_, fun _ => h0⟩, ?_⟩
      · rw [hd, hx, rd_lt (by omega : n < l.length)]; exact List.mem_cons_self
      · refine Ev.step (fun k => slices_Index_int_int.l0.eq_2 _ _ _ _ k) ?_
        simp only [h1, h0, ← hx, if_true]
        exact Ev.now _
    · obtain ⟨r, hr, he⟩ := index_ev l x h d (n + 1) (by omega)
      refine ⟨r, ?_, ?_⟩
      · rw [hr, hd, List.mem_cons]
        constructor
        · exact .inr
        · rintro (e | e)
          · exact absurd (by rw [rd_lt (by omega : n < l.length)]; exact e) hx
          · exact e
      · refine Ev.step (fun k => slices_Index_int_int.l0.eq_2 _ _ _ _ k) ?_
        simp only [h1, h0, hx, if_true, if_false, w64n (by omega : n < 9000000000000000000)]
        exact he
theorem contains_ev (l : List Int) (x : Int) (h : l.length ≤ 35184372088832) : Ev (fun k => slices_Contains_int_int.f k l x) (decide (x ∈ l)) := by
  obtain ⟨r, hr, he⟩ := index_ev l x h l.length 0 (by omega)
  unfold slices_Contains_int_int.f slices_Index_int_int.f
  refine Ev.bind he ?_
  rw [List.drop_zero] at hr
  have e : decide (r ≥ 0) = decide (x ∈ l) := by
    by_cases hx : x ∈ l
    · rw [decide_eq_true hx, decide_eq_true (hr.2 hx)]
    · rw [decide_eq_false hx, decide_eq_false (fun h => hx (hr.1 h))]
  simp only [e]
  exact Ev.now _
theorem implRuleTail_ev (s kind v : Int) (cs : List Int) (hs : sizeOkB s = true) : Ev (fun k => if kind = 1 then (if (cs.length : Int) ≥ 2 then (if (cs.length : Int) ≤ 4 then (some (v == 0)) else (some false)) else (some false)) else (if kind = 2 then (impl_RuleValid.j1 k s (cs.length : Int) kind (kind == 2) kind cs v) else (impl_RuleValid.j1 k s (cs.length : Int) kind (kind == 3) kind cs v))) (ruleTail kind cs.length v s) := by
  have hsz := sizeOkB_iff.1 hs
  have hw : wrap64 ((wrap64 ((wrap64 (s * s)) * s)) * s) = s * s * s * s := by rcases hsz with rfl | rfl | rfl <;> decide +kernel
  unfold ruleTail
  generalize (cs.length : Int) = n
  have hvz : ∀ w : Int, (w == 0) = decide (w = 0) := by
    intro w
    by_cases h : w = 0
    · subst h; rfl
    · rw [beq_eq_false_iff_ne.2 h, decide_eq_false h]
  by_cases k1 : kind = 1
  · simp only [k1, if_true]
    by_cases h2 : 2 ≤ n
    · by_cases h4 : n ≤ 4
      · have h2' : n ≥ 2 := h2
        simp only [h2, h2', h4, if_true, hvz, true_and, decide_true, Bool.true_and]
        exact Ev.now _
      · have h2' : n ≥ 2 := h2
        simp only [h2', h4, if_true, if_false, decide_false, Bool.false_and]
        exact Ev.now _
    · have h2' : ¬ n ≥ 2 := h2
      simp only [h2, h2', if_false, false_and, decide_false, Bool.and_false]
      exact Ev.now _
  · simp only [k1, if_false]
    have hj : ∀ b, b = decide (kind = 2 ∨ kind = 3) → Ev (fun k => impl_RuleValid.j1 k s n kind b kind cs v) (decide (n ≤ 4) && (if kind = 2 ∨ kind = 3 then decide (1 ≤ n ∧ 1 ≤ v ∧ v ≤ s * s * s * s) else if kind = 4 then decide (n = 2 ∧ v = 0) else if kind = 5 then decide (n = 2 ∧ 0 ≤ v ∧ v < s) else false)) := by
      rintro b rfl
      refine Ev.step (fun k => impl_RuleValid.j1.eq_2 _ _ _ _ _ _ _ k) ?_
      by_cases k2 : kind = 2 ∨ kind = 3
      · simp only [k2, decide_true, if_true, hw]
        by_cases h1 : 1 ≤ n
        · have h1' : n ≥ 1 := h1
          by_cases h4 : n ≤ 4
          · by_cases hv : 1 ≤ v
            · have hv' : v ≥ 1 := hv
              simp only [h1, h1', h4, hv, hv', if_true, true_and, decide_true, Bool.true_and]
              exact Ev.now _
            · have hv' : ¬ v ≥ 1 := hv
              simp only [h1, h1', h4, hv, hv', if_true, if_false, true_and, false_and, decide_true, decide_false, Bool.true_and]
              exact Ev.now _
          · simp only [h1', h4, if_true, if_false, decide_false, Bool.false_and]
            exact Ev.now _
        · have h1' : ¬ n ≥ 1 := h1
          simp only [h1, h1', if_false, false_and, decide_false, Bool.and_false]
          exact Ev.now _
      · simp only [k2, decide_false, if_false, Bool.false_eq_true]
        by_cases k4 : kind = 4
        · simp only [k4, if_true]
          by_cases h2 : n = 2
          · simp only [h2, if_true, true_and, hvz]
            exact Ev.now _
          · simp only [h2, if_false, false_and, decide_false, Bool.and_false]
            exact Ev.now _
        · simp only [k4, if_false]
          by_cases k5 : kind = 5
          · simp only [k5, if_true]
            by_cases h2 : n = 2
            · by_cases hv : 0 ≤ v
              · have hv' : v ≥ 0 := hv
                simp only [h2, hv, hv', if_true, true_and]
                exact Ev.now _
              · have hv' : ¬ v ≥ 0 := hv
                simp only [h2, hv, hv', if_true, if_false, true_and, false_and, decide_false, Bool.and_false]
                exact Ev.now _
            · simp only [h2, if_false, false_and, decide_false, Bool.and_false]
              exact Ev.now _
          · simp only [k5, if_false, Bool.and_false]
            exact Ev.now _
    by_cases k2 : kind = 2
    · have e : (kind == 2) = decide (kind = 2 ∨ kind = 3) := by simp [k2]
      have := hj _ e
      simpa only [k2, if_true] using this
    · have e : (kind == 3) = decide (kind = 2 ∨ kind = 3) := by
        by_cases k3 : kind = 3 <;> simp [k2, k3]
      have := hj _ e
      simp only [k2, if_false]
      simpa only [k2, false_or] using this
theorem implRuleValid_ev (kind : Int) (cs : List Int) (v s : Int) (hl : cs.length ≤ 35184372088832) : Ev (fun k => impl_RuleValid.f k kind cs v s) (ruleB kind cs v s) := by
  unfold impl_RuleValid.f ruleB
  simp only [sizeOk_eq, Option.bind_some]
  by_cases hs : sizeOkB s = true
  · have ht : wrap64 (s * s) = s * s := by rcases sizeOkB_iff.1 hs with rfl | rfl | rfl <;> decide +kernel
    simp only [hs, if_true, Bool.true_and]
    have := Ev.range (σ := Unit) (L := fun k _ i => impl_RuleValid.l0 k s cs (cs.length : Int) i kind cs v) (R := fun _ _ => goodCells (s * s) cs cs.length && ruleTail kind cs.length v s) (N := cs.length) (fun _ i => goodCells (s * s) cs i = true) ?_ ?_ () 0 (Nat.zero_le _) rfl
    · simpa using this
    · intro _ hg
      refine Ev.step (fun k => impl_RuleValid.l0.eq_2 _ _ _ _ _ _ _ k) ?_
      simp only [Int.lt_irrefl, if_false]
      rw [hg, Bool.true_and]
      exact implRuleTail_ev s kind v cs hs
    · intro _ i hi hg ih
      refine Ev.step (fun k => impl_RuleValid.l0.eq_2 _ _ _ _ _ _ _ k) ?_
      have h1 : (i : Int) < (cs.length : Int) := by omega
      have h0 : (0 : Int) ≤ (i : Int) := Int.natCast_nonneg i
      have h2 : (i : Int) ≤ (cs.length : Int) := by omega
      have hbad : goodCells (s * s) cs (i + 1) = false → Ev (fun _ : Nat => some false) (goodCells (s * s) cs cs.length && ruleTail kind cs.length v s) := by
        intro h
        rw [goodCells_le h (by omega : i + 1 ≤ cs.length)]
        exact Ev.now _
      simp only [h1, h0, h2, if_true, ht, Int.toNat_natCast]
      by_cases hc0 : rd cs (i : Int) < 0
      · simp only [hc0, if_true]
        refine hbad ?_
        have hn : ¬ (0 ≤ rd cs (i : Int) ∧ rd cs (i : Int) < s * s) := fun h => by omega
        rw [goodCells, decide_eq_false hn]; simp
      · simp only [hc0, if_false]
        by_cases hc1 : rd cs (i : Int) ≥ s * s
        · simp only [hc1, if_true]
          refine hbad ?_
          have hn : ¬ (0 ≤ rd cs (i : Int) ∧ rd cs (i : Int) < s * s) := fun h => by omega
          rw [goodCells, decide_eq_false hn]; simp
        · simp only [hc1, if_false]
          refine Ev.bind (contains_ev _ _ (by rw [List.length_take]; omega)) ?_
          by_cases hm : rd cs (i : Int) ∈ cs.take i
          · simp only [hm, decide_true, if_true]
            refine hbad ?_
            rw [goodCells, decide_eq_true hm]; simp
          · simp only [hm, decide_false, if_false, Bool.false_eq_true, w64n (by omega : i < 9000000000000000000)]
            refine ih () ?_
            rw [goodCells, hg, decide_eq_true (⟨by omega, by omega⟩ : 0 ≤ rd cs (i : Int) ∧ rd cs (i : Int) < s * s), decide_eq_false hm]
            rfl
  · simp only [hs, if_false, Bool.false_eq_true, Bool.false_and]
    exact Ev.now _

end Go.Proofs.Ythfbjkniinfgcaa.Pure
namespace Go.Proofs.Ythfbjkniinfgcaa.Pure
set_option linter.unusedSimpArgs false
set_option linter.unusedVariables false
open Go.RowKit Go.Proofs.YthfbjkniinfgcaaW.PrintWords Go.Proofs.YthfbjkniinfgcaaW.PrintMore Go.Proofs.Ythfbjkniinfgcaa.P


theorem specRuleTail_ev (s kind v : Int) (cs : List Int) (hs : sizeOkB s = true) : Ev (fun k => spec_RuleValid.j2 k s (cs.length : Int) (decide ((cs.length : Int) > 4)) kind cs v) (ruleTail kind cs.length v s) := by
  have hsz := sizeOkB_iff.1 hs
  have hw : wrap64 ((wrap64 ((wrap64 (s * s)) * s)) * s) = s * s * s * s := by rcases hsz with rfl | rfl | rfl <;> decide +kernel
  have hw1 : wrap64 (s - 1) = s - 1 := by rcases hsz with rfl | rfl | rfl <;> decide +kernel
  refine Ev.step (fun k => spec_RuleValid.j2.eq_2 _ _ _ _ _ _ k) ?_
  unfold ruleTail
  by_cases h4 : (cs.length : Int) > 4
  · have h4' : ¬ (cs.length : Int) ≤ 4 := by omega
    simp only [h4, h4', decide_true, decide_false, if_true, Bool.false_and]
    exact Ev.now _
  · have h4' : (cs.length : Int) ≤ 4 := by omega
    simp only [h4, h4', decide_true, decide_false, if_false, Bool.true_and, Bool.false_eq_true]
    by_cases k1 : kind = 1
    · simp only [k1, if_true]
      by_cases h2 : (cs.length : Int) ≥ 2
      · have h2' : 2 ≤ (cs.length : Int) := h2
        simp only [h2, h2', if_true, true_and]
        by_cases hv : v = 0
        · subst hv; exact Ev.now _
        · have e1 : (v == 0) = false := by rw [beq_eq_false_iff_ne]; exact hv
          simp only [hv, e1, decide_false]; exact Ev.now _
      · have h2' : ¬ 2 ≤ (cs.length : Int) := h2
        simp only [h2, h2', if_false, false_and, decide_false]
        exact Ev.now _
    · simp only [k1, if_false]
      have hj : ∀ b, b = (decide (kind = 2 ∨ kind = 3)) → Ev (fun k => spec_RuleValid.j3 k s (cs.length : Int) kind b kind cs v) (if kind = 2 ∨ kind = 3 then decide (1 ≤ (cs.length : Int) ∧ 1 ≤ v ∧ v ≤ s * s * s * s) else if kind = 4 then decide ((cs.length : Int) = 2 ∧ v = 0) else if kind = 5 then decide ((cs.length : Int) = 2 ∧ 0 ≤ v ∧ v < s) else false) := by
        rintro b rfl
        refine Ev.step (fun k => spec_RuleValid.j3.eq_2 _ _ _ _ _ _ _ k) ?_
        by_cases k2 : kind = 2 ∨ kind = 3
        · simp only [k2, decide_true, if_true]
          by_cases h1 : (cs.length : Int) ≥ 1
          · have h1' : 1 ≤ (cs.length : Int) := h1
            simp only [h1, h1', if_true, true_and, l1In_eq, Option.bind_some, hw]
            exact Ev.now _
          · have h1' : ¬ 1 ≤ (cs.length : Int) := h1
            simp only [h1, h1', if_false, false_and, decide_false]
            exact Ev.now _
        · simp only [k2, decide_false, if_false, Bool.false_eq_true]
          by_cases k4 : kind = 4
          · simp only [k4, if_true]
            by_cases h2 : (cs.length : Int) = 2
            · simp only [h2, if_true, true_and]
              by_cases hv : v = 0
              · subst hv; exact Ev.now _
              · have e1 : (v == 0) = false := by rw [beq_eq_false_iff_ne]; exact hv
                simp only [hv, e1, decide_false]; exact Ev.now _
            · simp only [h2, if_false, false_and, decide_false]
              exact Ev.now _
          · simp only [k4, if_false]
            by_cases k5 : kind = 5
            · simp only [k5, if_true]
              by_cases h2 : (cs.length : Int) = 2
              · have hlt : (v ≤ s - 1) = (v < s) := by apply propext; omega
                simp only [h2, if_true, true_and, l1In_eq, Option.bind_some, hw1, hlt]
                exact Ev.now _
              · simp only [h2, if_false, false_and, decide_false]
                exact Ev.now _
            · simp only [k5, if_false]
              exact Ev.now _
      by_cases k2 : kind = 2
      · have e : (kind == 2) = decide (kind = 2 ∨ kind = 3) := by simp [k2]
        have := hj _ e
        simpa only [k2, if_true] using this
      · have e : (kind == 3) = decide (kind = 2 ∨ kind = 3) := by
          by_cases k3 : kind = 3 <;> simp [k2, k3]
        have := hj _ e
        simp only [k2, if_false]
        simpa only [k2, false_or] using this
theorem specRuleValid_ev (kind : Int) (cs : List Int) (v s : Int) (hl : cs.length ≤ 35184372088832) : Ev (fun k => spec_RuleValid.f k kind cs v s) (ruleB kind cs v s) := by
  unfold spec_RuleValid.f ruleB
  have hRf : ∀ i, i < cs.length → (sizeOkB s = true → goodCells (s * s) cs (i + 1) = false) → (sizeOkB s && (goodCells (s * s) cs cs.length && ruleTail kind cs.length v s)) = false := by
    intro i hi h
    by_cases hs : sizeOkB s = true
    · rw [hs, goodCells_le (h hs) (by omega : i + 1 ≤ cs.length)]; rfl
    · rw [eq_false_of_ne_true hs]; rfl
  have := Ev.range (σ := Unit) (L := fun k _ i => spec_RuleValid.l0 k s i kind cs v) (R := fun _ _ => sizeOkB s && (goodCells (s * s) cs cs.length && ruleTail kind cs.length v s)) (N := cs.length) (fun _ i => sizeOkB s = true → goodCells (s * s) cs i = true) ?_ ?_ () 0 (Nat.zero_le _) (fun _ => rfl)
  · simpa using this
  · intro _ hg
    refine Ev.step (fun k => spec_RuleValid.l0.eq_2 _ _ _ _ _ k) ?_
    simp only [Int.lt_irrefl, if_false, l1In_eq, Option.bind_some]
    by_cases hs : sizeOkB s = true
    · have hs' := hs
      unfold sizeOkB at hs'
      rw [hg hs, hs]
      simp only [hs', if_true, Bool.true_and]
      exact specRuleTail_ev s kind v cs hs
    · have hs' := eq_false_of_ne_true hs
      rw [hs']
      unfold sizeOkB at hs'
      simp only [hs', Bool.false_eq_true, if_false, Bool.false_and]
      refine Ev.step (fun k => spec_RuleValid.j2.eq_2 _ _ _ _ _ _ k) ?_
      simp only [if_true]
      exact Ev.now _
  · intro _ i hi hg ih
    refine Ev.step (fun k => spec_RuleValid.l0.eq_2 _ _ _ _ _ k) ?_
    have h1 : (i : Int) < (cs.length : Int) := by omega
    have h0 : (0 : Int) ≤ (i : Int) := Int.natCast_nonneg i
    simp only [h1, h0, if_true, l1In_eq, Option.bind_some]
    by_cases hc : 0 ≤ rd cs (i : Int) ∧ rd cs (i : Int) ≤ wrap64 ((wrap64 (s * s)) - 1)
    · simp only [hc, and_self, decide_true, if_true]
      have := Ev.range (σ := Unit) (L := fun k _ j => spec_RuleValid.l1 k s (i : Int) j kind cs v) (R := fun _ _ => sizeOkB s && (goodCells (s * s) cs cs.length && ruleTail kind cs.length v s)) (N := i) (fun _ j => ∀ d, d < j → rd cs (d : Int) ≠ rd cs (i : Int)) ?_ ?_ () 0 (Nat.zero_le _) (fun d hd => absurd hd (Nat.not_lt_zero d))
      · simpa using this
      · intro _ hno
        refine Ev.step (fun k => spec_RuleValid.l1.eq_2 _ _ _ _ _ _ k) ?_
        simp only [Int.lt_irrefl, if_false, w64n (by omega : i < 9000000000000000000)]
        refine ih () (fun hs => ?_)
        have ht : wrap64 ((wrap64 (s * s)) - 1) = s * s - 1 := by rcases sizeOkB_iff.1 hs with rfl | rfl | rfl <;> decide +kernel
        rw [ht] at hc
        have hm : ¬ rd cs (i : Int) ∈ cs.take i := by
          intro hm
          obtain ⟨j, hj, _, he⟩ := mem_take_iff.1 hm
          exact hno j hj he
        rw [goodCells, hg hs, decide_eq_true (⟨hc.1, by omega⟩ : 0 ≤ rd cs (i : Int) ∧ rd cs (i : Int) < s * s), decide_eq_false hm]
        rfl
      · intro _ j hj hno ihj
        refine Ev.step (fun k => spec_RuleValid.l1.eq_2 _ _ _ _ _ _ k) ?_
        have h2 : (j : Int) < (i : Int) := by omega
        have h3 : (0 : Int) ≤ (j : Int) := Int.natCast_nonneg j
        have h4 : (j : Int) < (cs.length : Int) := by omega
        simp only [h2, h3, h4, h1, h0, if_true, w64n (by omega : j < 9000000000000000000)]
        by_cases he : rd cs (j : Int) = rd cs (i : Int)
        · simp only [he, if_true]
          rw [hRf i hi (fun hs => by
            have hm : rd cs (i : Int) ∈ cs.take i := mem_take_iff.2 ⟨j, hj, by omega, he⟩
            rw [goodCells, decide_eq_true hm]; simp)]
          exact Ev.now _
        · simp only [he, if_false]
          refine ihj () (fun d hd => ?_)
          by_cases hdj : d = j
          · rw [hdj]; exact he
          · exact hno d (by omega)
    · simp only [hc, decide_false, if_false, Bool.false_eq_true]
      rw [hRf i hi (fun hs => by
        have ht : wrap64 ((wrap64 (s * s)) - 1) = s * s - 1 := by rcases sizeOkB_iff.1 hs with rfl | rfl | rfl <;> decide +kernel
        rw [ht] at hc
        have hn : ¬ (0 ≤ rd cs (i : Int) ∧ rd cs (i : Int) < s * s) := fun h => hc ⟨h.1, by omega⟩
        rw [goodCells, decide_eq_false hn]; simp)]
      exact Ev.now _

end Go.Proofs.Ythfbjkniinfgcaa.Pure
namespace Go.Proofs.Ythfbjkniinfgcaa.Pure
set_option linter.unusedSimpArgs false
set_option linter.unusedVariables false
open Go.RowKit Go.Proofs.YthfbjkniinfgcaaW.PrintWords Go.Proofs.YthfbjkniinfgcaaW.PrintMore Go.Proofs.Ythfbjkniinfgcaa.P


/-- The masks of a grid: an empty cell has all values. -/
def gridMasks (g : List Int) (s : Int) : List Int := g.map (fun x => if x = 0 then allM s else shl .i64 1 x)
theorem shlAll {s : Int} (h : sizeOkB s = true) : 0 ≤ wrap64 (s + 1) ∧ wrap64 ((shl .i64 1 (wrap64 (s + 1))) - 2) = allM s := by
  rcases sizeOkB_iff.1 h with rfl | rfl | rfl <;> decide +kernel

end Go.Proofs.Ythfbjkniinfgcaa.Pure
namespace Go.Proofs.Ythfbjkniinfgcaa.Pure
set_option linter.unusedSimpArgs false
set_option linter.unusedVariables false
open Go.RowKit Go.Proofs.YthfbjkniinfgcaaW.PrintWords Go.Proofs.YthfbjkniinfgcaaW.PrintMore Go.Proofs.Ythfbjkniinfgcaa.P


def rulesB (rs : List S32) (s : Int) : Bool := rs.all (fun x => ruleB x.f0 x.f1 x.f2 s)
def puzzleB (s : Int) (g : List Int) (rs : List S32) : Bool := gridB g s && (decide ((rs.length : Int) ≤ 20) && rulesB rs s)
theorem rulesB_false {rs : List S32} {s : Int} {i : Nat} (hi : i < rs.length) (h : ruleB rs[i].f0 rs[i].f1 rs[i].f2 s = false) : rulesB rs s = false := by
  unfold rulesB
  rw [List.all_eq_false]
  exact ⟨rs[i], List.getElem_mem hi, by simp [h]⟩
theorem take_all {rs : List S32} {s : Int} {i : Nat} (hi : i < rs.length) (h : rulesB (rs.take i) s = true) (hx : ruleB rs[i].f0 rs[i].f1 rs[i].f2 s = true) : rulesB (rs.take (i + 1)) s = true := by
  unfold rulesB at *
  rw [List.take_succ_eq_append_getElem hi, List.all_append, h]
  simp [hx]
theorem specPuzzleValid_ev (s : Int) (g : List Int) (rs : List S32) (hg : g.length ≤ 1048576) (hl : rs.length ≤ 1048576) (hr : ∀ x ∈ rs, x.f1.length ≤ 1048576) : Ev (fun k => spec_PuzzleValid.f k s g rs) (puzzleB s g rs) := by
  unfold spec_PuzzleValid.f
  have := Ev.range (σ := Unit) (L := fun k _ i => spec_PuzzleValid.l0 k i s g rs) (R := fun _ _ => puzzleB s g rs) (N := rs.length) (fun _ i => rulesB (rs.take i) s = true) ?_ ?_ () 0 (Nat.zero_le _) rfl
  · simpa using this
  · intro _ hall
    refine Ev.step (fun k => spec_PuzzleValid.l0.eq_2 _ _ _ _ k) ?_
    rw [List.take_length] at hall
    simp only [Int.lt_irrefl, if_false]
    refine Ev.bind (specGridValid_ev g s (by omega)) ?_
    unfold puzzleB
    by_cases hgb : gridB g s = true
    · simp only [hgb, hall, if_true, Bool.true_and, Bool.and_true]
      exact Ev.now _
    · simp only [hgb, if_false, Bool.false_eq_true, Bool.false_and]
      exact Ev.now _
  · intro _ i hi hall ih
    refine Ev.step (fun k => spec_PuzzleValid.l0.eq_2 _ _ _ _ k) ?_
    have h2 : (i : Int) < (rs.length : Int) := by omega
    have h3 : (0 : Int) ≤ (i : Int) := Int.natCast_nonneg i
    simp only [h2, h3, if_true, rdI rs hi]
    have hlen := hr rs[i] (List.getElem_mem hi)
    refine Ev.bind (specRuleValid_ev _ _ _ s (by omega)) ?_
    by_cases hx : ruleB rs[i].f0 rs[i].f1 rs[i].f2 s = true
    · simp only [hx, if_true, w64n (by omega : i < 9000000000000000000)]
      exact ih () (take_all hi hall hx)
    · simp only [hx, if_false, Bool.false_eq_true]
      have : puzzleB s g rs = false := by unfold puzzleB; rw [rulesB_false hi (eq_false_of_ne_true hx)]; simp
      rw [this]; exact Ev.now _
theorem implPuzzleValid_ev (s : Int) (g : List Int) (rs : List S32) (hg : g.length ≤ 1048576) (hl : rs.length ≤ 1048576) (hr : ∀ x ∈ rs, x.f1.length ≤ 1048576) : Ev (fun k => impl_PuzzleValid.f k s g rs) (puzzleB s g rs) := by
  unfold impl_PuzzleValid.f puzzleB
  refine Ev.bind (implGridValid_ev g s (by omega)) ?_
  have hno : Ev (fun k => impl_PuzzleValid.j0 k true s g rs) false := by
    refine Ev.step (fun k => impl_PuzzleValid.j0.eq_2 _ _ _ _ k) ?_
    simp only [if_true]; exact Ev.now _
  by_cases hgb : gridB g s = true
  · simp only [hgb, if_true, Bool.true_and]
    by_cases h20 : (rs.length : Int) > 20
    · have h20' : ¬ (rs.length : Int) ≤ 20 := by omega
      simp only [h20, h20', decide_true, decide_false, Bool.false_and]
      exact hno
    · have h20' : (rs.length : Int) ≤ 20 := by omega
      simp only [h20, h20', decide_true, decide_false, Bool.true_and]
      refine Ev.step (fun k => impl_PuzzleValid.j0.eq_2 _ _ _ _ k) ?_
      simp only [Bool.false_eq_true, if_false]
      have := Ev.range (σ := Unit) (L := fun k _ i => impl_PuzzleValid.l0 k rs (rs.length : Int) i s g rs) (R := fun _ _ => rulesB rs s) (N := rs.length) (fun _ i => rulesB (rs.take i) s = true) ?_ ?_ () 0 (Nat.zero_le _) rfl
      · simpa using this
      · intro _ hall
        refine Ev.step (fun k => impl_PuzzleValid.l0.eq_2 _ _ _ _ _ _ k) ?_
        rw [List.take_length] at hall
        simp only [Int.lt_irrefl, if_false, hall]
        exact Ev.now _
      · intro _ i hi hall ih
        refine Ev.step (fun k => impl_PuzzleValid.l0.eq_2 _ _ _ _ _ _ k) ?_
        have h2 : (i : Int) < (rs.length : Int) := by omega
        have h3 : (0 : Int) ≤ (i : Int) := Int.natCast_nonneg i
        simp only [h2, h3, if_true, rdI rs hi]
        have hlen := hr rs[i] (List.getElem_mem hi)
        refine Ev.bind (implRuleValid_ev _ _ _ s (by omega)) ?_
        by_cases hx : ruleB rs[i].f0 rs[i].f1 rs[i].f2 s = true
        · simp only [hx, if_true, w64n (by omega : i < 9000000000000000000)]
          exact ih () (take_all hi hall hx)
        · simp only [hx, if_false, Bool.false_eq_true]
          rw [rulesB_false hi (eq_false_of_ne_true hx)]; exact Ev.now _
  · simp only [hgb, if_false, Bool.false_eq_true, Bool.false_and]
    exact hno

end Go.Proofs.Ythfbjkniinfgcaa.Pure
namespace Go.Proofs.Ythfbjkniinfgcaa.Pure
set_option linter.unusedSimpArgs false
set_option linter.unusedVariables false
open Go.RowKit Go.Proofs.YthfbjkniinfgcaaW.PrintWords Go.Proofs.YthfbjkniinfgcaaW.PrintMore Go.Proofs.Ythfbjkniinfgcaa.P

def startMasks (s : Int) (g : List Int) (rs : List S32) : List Int := if puzzleB s g rs = true then gridMasks g s else []
theorem startMasks_len (s : Int) (g : List Int) (rs : List S32) : (startMasks s g rs).length ≤ 16 := by
  unfold startMasks; split
  · rename_i h
    unfold puzzleB at h
    simp only [Bool.and_eq_true] at h
    unfold gridMasks; rw [List.length_map]; exact gridB_le h.1
  · exact Nat.zero_le _
theorem puzzleB_p3 {s : Int} {g : List Int} {rs : List S32} (h : puzzleB s g rs = true) : gridB g s = true ∧ rs.length ≤ 20 ∧ rulesB rs s = true := by
  unfold puzzleB at h
  simp only [Bool.and_eq_true, decide_eq_true_eq] at h
  exact ⟨h.1, by omega, h.2.2⟩

end Go.Proofs.Ythfbjkniinfgcaa.Pure
namespace Go.Proofs.Ythfbjkniinfgcaa.Pure
set_option linter.unusedSimpArgs false
set_option linter.unusedVariables false
open Go.RowKit Go.Proofs.YthfbjkniinfgcaaW.PrintWords Go.Proofs.YthfbjkniinfgcaaW.PrintMore Go.Proofs.Ythfbjkniinfgcaa.P


theorem implStartMasks_ev (s : Int) (g : List Int) (rs : List S32) (hg : g.length ≤ 1048576) (hl : rs.length ≤ 1048576) (hr : ∀ x ∈ rs, x.f1.length ≤ 1048576) : Ev (fun k => impl_StartMasks.f k s g rs) (startMasks s g rs) := by
  unfold impl_StartMasks.f startMasks
  refine Ev.bind (implPuzzleValid_ev s g rs hg hl hr) ?_
  by_cases hp : puzzleB s g rs = true
  · obtain ⟨hgb, _, _⟩ := puzzleB_p3 hp
    have hle := gridB_le hgb
    have h0 : (0 : Int) ≤ (g.length : Int) := by omega
    have h1 : g.length ≤ 35184372088832 := by omega
    simp only [hp, if_true, h0, Int.toNat_natCast, h1]
    have hlm : (gridMasks g s).length = g.length := by unfold gridMasks; rw [List.length_map]
    have := Ev.range (L := fun k (x : List Int) i => impl_StartMasks.l0 k x g (g.length : Int) i s g rs) (R := fun _ _ => gridMasks g s) (N := g.length) (fun x i => FilledG (gridMasks g s) x i) ?_ ?_ (List.replicate g.length 0) 0 (Nat.zero_le _) ⟨by rw [hlm]; simp, by simp⟩
    · simpa using this
    · intro x hx
      refine Ev.step (fun k => impl_StartMasks.l0.eq_2 _ _ _ _ _ _ _ k) ?_
      simp only [Int.lt_irrefl, if_false]
      have hx' : FilledG (gridMasks g s) x (gridMasks g s).length := by rw [hlm]; exact hx
      rw [hx'.fin]; exact Ev.now _
    · intro x i hi hx ih
      refine Ev.step (fun k => impl_StartMasks.l0.eq_2 _ _ _ _ _ _ _ k) ?_
      have h2 : (i : Int) < (g.length : Int) := by omega
      have h3 : (0 : Int) ≤ (i : Int) := by omega
      have h4 : (i : Int) < (x.length : Int) := by have := hx.1; omega
      have hm := gridB_mem hgb g[i] (List.getElem_mem hi)
      simp only [h2, h3, h4, if_true, rd_lt hi, allValues_eq (gridB_size hgb), Option.bind_some, hm.1, Int.toNat_natCast, w64n (by omega : i < 9000000000000000000)]
      have hgi : (gridMasks g s)[i]'(by rw [hlm]; exact hi) = if g[i] = 0 then allM s else shl .i64 1 g[i] := by unfold gridMasks; rw [List.getElem_map]
      by_cases hz : g[i] = 0
      · have hn : ¬ g[i] > 0 := by omega
        simp only [hn, if_false]
        exact ih _ (hx.set (by omega) (by rw [hgi, if_pos hz]))
      · have hn : g[i] > 0 := by omega
        simp only [hn, if_true, List.set_set]
        exact ih _ (hx.set (by omega) (by rw [hgi, if_neg hz]))
  · simp only [hp, if_false, Bool.false_eq_true]
    exact Ev.now _

end Go.Proofs.Ythfbjkniinfgcaa.Pure
namespace Go.Proofs.Ythfbjkniinfgcaa.Pure
set_option linter.unusedSimpArgs false
set_option linter.unusedVariables false
open Go.RowKit Go.Proofs.YthfbjkniinfgcaaW.PrintWords Go.Proofs.YthfbjkniinfgcaaW.PrintMore Go.Proofs.Ythfbjkniinfgcaa.P


theorem gridMasks_at {g : List Int} {s : Int} {i : Nat} (hi : i < g.length) : (gridMasks g s).take (i + 1) = (gridMasks g s).take i ++ [if g[i] = 0 then allM s else shl .i64 1 g[i]] := by
  rw [List.take_succ_eq_append_getElem (by unfold gridMasks; rw [List.length_map]; exact hi)]
  congr 2
  unfold gridMasks; rw [List.getElem_map]
theorem specStartMasks_ev (s : Int) (g : List Int) (rs : List S32) (hg : g.length ≤ 1048576) (hl : rs.length ≤ 1048576) (hr : ∀ x ∈ rs, x.f1.length ≤ 1048576) : Ev (fun k => spec_StartMasks.f k s g rs) (startMasks s g rs) := by
  unfold spec_StartMasks.f startMasks
  by_cases hp : puzzleB s g rs = true
  · rw [if_pos hp]
    obtain ⟨hgb, _, _⟩ := puzzleB_p3 hp
    have hle := gridB_le hgb
    have hlm : (gridMasks g s).length = g.length := by unfold gridMasks; rw [List.length_map]
    have := Ev.range (L := fun k (x : List Int) i => spec_StartMasks.l0 k x i s g rs) (R := fun _ _ => gridMasks g s) (N := g.length) (fun x i => x = (gridMasks g s).take i) ?_ ?_ [] 0 (Nat.zero_le _) rfl
    · simpa using this
    · rintro x rfl
      refine Ev.step (fun k => spec_StartMasks.l0.eq_2 _ _ _ _ _ k) ?_
      simp only [Int.lt_irrefl, if_false]
      refine Ev.step (fun k => spec_StartMasks.j1.eq_2 _ _ _ _ _ _ k) ?_
      rw [← hlm, List.take_length]
      simp only [Bool.false_eq_true, if_false]
      exact Ev.now _
    · rintro x i hi rfl ih
      refine Ev.step (fun k => spec_StartMasks.l0.eq_2 _ _ _ _ _ k) ?_
      have h1 : (i : Int) < (g.length : Int) := by omega
      have h0 : (0 : Int) ≤ (i : Int) := by omega
      simp only [h1, if_true]
      refine Ev.bind (specPuzzleValid_ev s g rs hg hl hr) ?_
      rw [hp]
      refine Ev.step (fun k => spec_StartMasks.j1.eq_2 _ _ _ _ _ _ k) ?_
      have hm := gridB_mem hgb g[i] (List.getElem_mem hi)
      have hs := shlAll (gridB_size hgb)
      have hlt : ((gridMasks g s).take i).length < 17592186044416 := by rw [List.length_take]; omega
      simp only [h0, h1, if_true, rd_lt hi, hlt, hs.1, hs.2, hm.1, w64n (by omega : i < 9000000000000000000)]
      have hih := ih _ (gridMasks_at (s := s) hi).symm
      by_cases hz : g[i] = 0
      · have hn : ¬ g[i] > 0 := by omega
        simp only [hn, if_false]
        rw [if_pos hz] at hih
        exact hih
      · have hn : g[i] > 0 := by omega
        simp only [hn, if_true]
        rw [if_neg hz] at hih
        exact hih
  · rw [if_neg hp]
    refine Ev.step (fun k => spec_StartMasks.l0.eq_2 _ _ _ _ _ k) ?_
    have hno : Ev (fun k => spec_StartMasks.j1 k [] 0 false s g rs) [] := by
      refine Ev.step (fun k => spec_StartMasks.j1.eq_2 _ _ _ _ _ _ k) ?_
      simp only [Bool.false_eq_true, if_false]; exact Ev.now _
    by_cases h0 : (0 : Int) < (g.length : Int)
    · simp only [h0, if_true]
      refine Ev.bind (specPuzzleValid_ev s g rs hg hl hr) ?_
      rw [eq_false_of_ne_true hp]
      exact hno
    · simp only [h0, if_false]
      exact hno

end Go.Proofs.Ythfbjkniinfgcaa.Pure
namespace Go.Proofs.Ythfbjkniinfgcaa.Pure
set_option linter.unusedSimpArgs false
set_option linter.unusedVariables false
open Go.RowKit Go.Proofs.YthfbjkniinfgcaaW.PrintWords Go.Proofs.YthfbjkniinfgcaaW.PrintMore Go.Proofs.Ythfbjkniinfgcaa.P


theorem FnExactStartMasks (s : Int) (_ : (Lit.int .i64 s).wf = true) (g : List Int) (hg : g.length ≤ 9223372036854775807) (_ : ∀ x ∈ g, (Lit.int .i64 x).wf = true) (rs : List S47) (hl : rs.length ≤ 9223372036854775807) (hr : ∀ x ∈ rs, RuleWf x) : ∃ k, laws_FnExactStartMasks.f k s g rs = some true := by
  apply Ev.rounds
  unfold laws_FnExactStartMasks.f
  obtain ⟨r, he, hb⟩ := szPuzzle_ev s g rs hg hl (fun x hx => (hr x hx).2.1)
  refine Ev.bind he ?_
  by_cases h0 : r < 0
  · simp only [h0, if_true]; exact Ev.now _
  · obtain ⟨hg', hl', hr'⟩ := hb (by omega)
    have hl2 : (rs.map convR).length ≤ 1048576 := by rw [List.length_map]; exact hl'
    have hr2 : ∀ x ∈ rs.map convR, x.f1.length ≤ 1048576 := by
      intro x hx
      obtain ⟨y, hy, rfl⟩ := List.mem_map.1 hx
      exact hr' y hy
    simp only [h0, if_false]
    have hlen := startMasks_len s g (rs.map convR)
    have hto := toPuzzle_ev s g rs hg' hl' hr'
    refine Ev.bind hto ?_
    refine Ev.bind (specStartMasks_ev s g (rs.map convR) hg' hl2 hr2) ?_
    refine Ev.bind hto ?_
    refine Ev.bind (implStartMasks_ev s g (rs.map convR) hg' hl2 hr2) ?_
    refine Ev.bind (eqIntS_ev _ _ (by omega)) ?_
    simp only [decide_true, if_true]
    refine Ev.bind hto ?_
    refine Ev.bind (eqPuzzle_ev s g _ hg' hl2 hr2) ?_
    simp only [if_true]
    obtain ⟨q, hq, hq0, _⟩ := markPuzzle_ev s g _ hg' hl2 hr2
    refine Ev.bind hq ?_
    simp only [hq0, if_false]
    refine Ev.bind (eqIntS_ev _ _ (by omega)) ?_
    simp only [decide_true, if_true]
    have hp : ¬ ((1 : Int) + ((startMasks s g (rs.map convR)).length : Int) < 0) := by omega
    refine Ev.bind (markIntS_ev _ 1 (by omega) (by decide) (by decide)) ?_
    refine Ev.bind (heldIntS_marks 1 _ (by omega) (by decide) (by decide)) ?_
    simp only [hp, if_false, bne_self_eq_false, Bool.false_eq_true]
    refine Ev.bind hto ?_
    refine Ev.bind (implStartMasks_ev s g (rs.map convR) hg' hl2 hr2) ?_
    refine Ev.bind (eqIntS_ev _ _ (by omega)) ?_
    simp only [decide_true, if_true]
    refine Ev.bind (heldIntS_marks 1 _ (by omega) (by decide) (by decide)) ?_
    simp only [hp, if_false, bne_self_eq_false, Bool.false_eq_true]
    exact Ev.now _

end Go.Proofs.Ythfbjkniinfgcaa.Pure
