/- A slice of the laws' rules, opened to the rules that lie in it. Conditions: as stated. -/
import Derived.Test.YthfbjkniinfgcaaWWords
import Derived.Test.YthfbjkniinfgcaaWMore
import Derived.Lib.SmallJoins
import Derived.OpenShut
import Derived.Test.YthfbjkniinfgcaaP14
import Derived.Test.YthfbjkniinfgcaaP16
namespace Go.Proofs.Ythfbjkniinfgcaa.Pure
set_option linter.unusedSimpArgs false
set_option linter.unusedVariables false
open Go.RowKit Go.Proofs.YthfbjkniinfgcaaW.PrintWords Go.Proofs.YthfbjkniinfgcaaW.PrintMore Go.Proofs.Ythfbjkniinfgcaa.P

theorem cellsOfRule : Try.prog.cellsOf 47 = 3 := by kernel_rfl
theorem cellsOfInt : Try.prog.cellsOf 3 = 1 := by kernel_rfl
theorem cellsOfInts : Try.prog.cellsOf 23 = 1 := by kernel_rfl
def RuleWf (x : S47) : Prop := (Lit.int .i64 x.f0).wf = true ∧ x.f1.length ≤ 9223372036854775807 ∧ (∀ y ∈ x.f1, (Lit.int .i64 y).wf = true) ∧ (Lit.int .i64 x.f2).wf = true
theorem ints_of {H : Type} {enc : TypeId × Value → H} {W : World} {n : Nat} {c : Value} {y : DataW H × List MemPlace} (h : DataW.trod enc Try.prog W 0 (fun _ => true) true n 23 [c] = some y) :
    ∃ (A : Option Addr) (k : Nat) (l : List Int), c = .slice A l.length k ∧ l.length ≤ k ∧ Kd.C (Kd.int .i64) W A l.length l ∧ l.length ≤ 9223372036854775807 ∧ ∀ y ∈ l, (Lit.int .i64 y).wf = true := by
  obtain ⟨A, len, k, zs, hc, w⟩ : ∃ A len k zs, c = Value.slice A len k ∧ ((A = none ∧ len = 0 ∧ k = 0 ∧ zs = []) ∨ ∃ x, A = some x ∧ len ≤ k ∧ k ≤ maxLen ∧ zs.length = k ∧ (∀ i, i < zs.length → W.cell? (x.add i) = some (.int .i64 (zs.getD i 0))) ∧ ∀ n ∈ zs, (Lit.int .i64 n).wf = true) := by
    rcases Go.ChangeShapes.open_ints Try.underlying23 Try.underlying3 (by kernel_rfl) h with ⟨hcs, _⟩ | ⟨x, l, c', zs, hcs, _, hl, hm, hz, _, hcell, hwz⟩
    · exact ⟨none, 0, 0, [], by simpa using hcs, .inl ⟨rfl, rfl, rfl, rfl⟩⟩
    · exact ⟨some x, l, c', zs, by simpa using hcs, .inr ⟨_, rfl, hl, hm, by simpa using hz, hcell, hwz⟩⟩
  obtain ⟨l, rfl, hr, hm, hw, hcc⟩ := ReadsInt.ofRowC w
  exact ⟨A, k, l, hc, hcc, Kd.C_of_reads (d := (0 : Int)) (h1 := fun _ => rfl) hr, hm, hw⟩
theorem rule_of {H : Type} {enc : TypeId × Value → H} {W : World} {n : Nat} {cs : List Value} {y : DataW H × List MemPlace} (h : DataW.trod enc Try.prog W 0 (fun _ => true) true n 47 cs = some y) :
    ∃ (x : S47) (A : Option Addr) (c : Nat), cs = [.int .i64 x.f0, .slice A x.f1.length c, .int .i64 x.f2] ∧ x.f1.length ≤ c ∧ Kd.C (Kd.int .i64) W A x.f1.length x.f1 ∧ RuleWf x := by
  obtain ⟨y0, y1, y2, m, _, hl, h0, h1, h2⟩ := Go.Deep.trod_struct3 Try.underlying47 h
  rw [cellsOfRule] at hl
  match cs, hl with
  | [c0, c1, c2], _ =>
    simp only [cellsOfInt, cellsOfInts, List.drop_succ_cons, List.drop_zero, List.take_succ_cons, List.take_zero] at h0 h1 h2
    obtain ⟨a, e0, _, w0⟩ := DataW.trod_int Try.underlying3 h0
    obtain ⟨b, e2, _, w2⟩ := DataW.trod_int Try.underlying3 h2
    obtain ⟨A, k, l, e1, hk, hC, hm, hw⟩ := ints_of h1
    obtain rfl : c0 = .int .i64 a := by simpa using e0
    obtain rfl : c2 = .int .i64 b := by simpa using e2
    subst e1
    exact ⟨⟨a, l, b⟩, A, k, rfl, hk, hC, w0, hm, hw, w2⟩
theorem rules_of {H : Type} {enc : TypeId × Value → H} {W : World} {n : Nat} {c : Value} {y : DataW H × List MemPlace} (h : DataW.trod enc Try.prog W 0 (fun _ => true) true n 36 [c] = some y) :
    ∃ (A : Option Addr) (k : Nat) (l : List S47), c = .slice A l.length k ∧ l.length ≤ k ∧ Kd.C k47 W A l.length l ∧ l.length ≤ 9223372036854775807 ∧ ∀ x ∈ l, RuleWf x := by
  rcases Go.Deep.open_slice Try.underlying36 h with ⟨hcs, _⟩ | ⟨a, len, cap, m, q, D, Pl, hcs, _, hlc, hcm, hm, _, hi⟩
  · exact ⟨none, 0, [], by simpa using hcs, Nat.le_refl _, ⟨rfl, by decide, fun h => absurd h (by decide)⟩, by decide, fun x hx => by cases hx⟩
  · have hm' : m = cap := by simpa using hm
    have hall : ∀ i, ∃ x : S47, i < len → RuleWf x ∧ ∃ cs : List Value, k47.K W x cs ∧ cs.length = 3 ∧ ∀ j u, cs[j]? = some u → W.cell? (a.add (i * 3 + j)) = some u := by
      intro i
      by_cases hil : i < len
      · obtain ⟨cs', hc, ht⟩ := hi i (by omega)
        rw [cellsOfRule] at hc
        obtain ⟨x, A, k, rfl, hk, hC, hwf⟩ := rule_of ht
        obtain ⟨_, hcl, hat⟩ := World.cells?_some hc
        refine ⟨x, fun _ => ⟨hwf, _, k47_mk W x hk hC, rfl, fun j u hu => ?_⟩⟩
        have hj : j < 3 := by
          have := (List.getElem?_eq_some_iff.1 hu).1
          simpa using this
        rw [← Go.Deep.add_add, hat j hj]; exact hu
      · exact ⟨⟨0, [], 0⟩, fun h => absurd h hil⟩
    obtain ⟨f, hf⟩ := Classical.axiomOfChoice hall
    have hlen : ((List.range len).map f).length = len := by rw [List.length_map, List.length_range]
    have hmax : len ≤ 9223372036854775807 := Nat.le_trans hlc hcm
    refine ⟨some a, cap, (List.range len).map f, ?_, by rw [hlen]; exact hlc, ⟨rfl, by rw [hlen]; exact hmax, fun _ => ⟨a, rfl, fun j p hj => ?_⟩⟩, by rw [hlen]; exact hmax, fun x hx => ?_⟩
    · rw [hlen]; simpa using hcs
    · obtain ⟨hj1, hj2⟩ := List.getElem?_eq_some_iff.1 hj
      rw [hlen] at hj1
      obtain ⟨_, cs, hK, hl, hat⟩ := hf j hj1
      have hp : p = f j := by rw [← hj2]; simp
      rw [hp]
      exact ⟨cs, hl, hK, hat⟩
    · obtain ⟨i, hi2, rfl⟩ := List.mem_map.1 hx
      exact (hf i (List.mem_range.1 hi2)).1

end Go.Proofs.Ythfbjkniinfgcaa.Pure
