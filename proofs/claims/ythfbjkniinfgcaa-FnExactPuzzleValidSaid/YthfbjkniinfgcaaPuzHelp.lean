/- The laws' own helpers for puzzles: sizes, copies, comparisons. Conditions: as stated in each. -/
import Derived.Test.YthfbjkniinfgcaaWWords
import Derived.Test.YthfbjkniinfgcaaWMore
import Derived.Test.YthfbjkniinfgcaaP14
import Derived.Test.YthfbjkniinfgcaaP16
import Derived.Test.YthfbjkniinfgcaaP19
import Derived.Test.YthfbjkniinfgcaaP20
import Derived.Test.YthfbjkniinfgcaaBase
import Derived.Test.YthfbjkniinfgcaaHelp
import Derived.Test.YthfbjkniinfgcaaRuleHelp
namespace Go.Proofs.Ythfbjkniinfgcaa.Pure
set_option linter.unusedSimpArgs false
set_option linter.unusedVariables false
open Go.RowKit Go.Proofs.YthfbjkniinfgcaaW.PrintWords Go.Proofs.YthfbjkniinfgcaaW.PrintMore Go.Proofs.Ythfbjkniinfgcaa.P

def FilledG {α : Type} (r x : List α) (n : Nat) : Prop := x.length = r.length ∧ x.take n = r.take n
theorem FilledG.fin {α : Type} {r x : List α} (h : FilledG r x r.length) : x = r := by
  obtain ⟨h1, h2⟩ := h
  rw [List.take_length, ← h1, List.take_length] at h2
  exact h2
theorem FilledG.set {α : Type} {r x : List α} {n : Nat} (h : FilledG r x n) (hn : n < r.length) {v : α} (hv : v = r[n]) : FilledG r (x.set n v) (n + 1) := by
  refine ⟨by rw [List.length_set]; exact h.1, ?_⟩
  have hx : n < x.length := by have := h.1; omega
  rw [List.take_succ_eq_append_getElem (by simpa using hx), List.take_succ_eq_append_getElem hn, List.take_set_of_le (Nat.le_refl n), h.2, List.getElem_set_self, hv]
theorem szRule_b (a : Int) (l : List Int) (c b : Int) (hb : 0 ≤ b ∧ b ≤ 1048576) (h : l.length ≤ 9223372036854775807) : laws_szRule.f a l c b = some (if (l.length : Int) ≤ b then b - (l.length : Int) else -1) := by
  unfold laws_szRule.f laws_szIntS.f
  have hw : wrap64 (b - (l.length : Int)) = b - (l.length : Int) := by unfold wrap64; omega
  rw [hw]
  by_cases hl : (l.length : Int) ≤ b
  · have h1 : ¬ b - (l.length : Int) < 0 := by omega
    simp only [hl, h1, if_true, if_false, Option.bind_some]
  · have h1 : b - (l.length : Int) < 0 := by omega
    have h2 : (-1 : Int) < 0 := by decide
    simp only [hl, h1, h2, if_true, if_false, Option.bind_some]
theorem rdL (xs : List S47) {n : Nat} (h : n < xs.length) : rd_T47 xs (n : Int) = xs[n] := by simp [rd_T47, h]
theorem rdI (xs : List S32) {n : Nat} (h : n < xs.length) : rd_T32 xs (n : Int) = xs[n] := by simp [rd_T32, h]
def convR (x : S47) : S32 := ⟨x.f0, x.f1, x.f2⟩
theorem szRuleS_ev (rs : List S47) (b : Int) (hb : 0 ≤ b ∧ b ≤ 1048576) (hl : rs.length ≤ 9223372036854775807) (hr : ∀ x ∈ rs, x.f1.length ≤ 9223372036854775807) :
    ∃ r, Ev (fun k => laws_szRuleS.f k rs b) r ∧ (0 ≤ r → rs.length ≤ 1048576 ∧ ∀ x ∈ rs, x.f1.length ≤ 1048576) := by
  unfold laws_szRuleS.f
  have hw : wrap64 (b - (rs.length : Int)) = b - (rs.length : Int) := by unfold wrap64; omega
  rw [hw]
  by_cases hn : b - (rs.length : Int) < 0
  · refine ⟨-1, ?_, fun h => absurd h (by decide)⟩
    simp only [hn, if_true]
    exact Ev.now _
  · simp only [hn, if_false]
    have hloop : ∀ d n (b : Int), n + d = rs.length → 0 ≤ b ∧ b ≤ 1048576 → (∀ x ∈ rs.take n, x.f1.length ≤ 1048576) → ∃ r, Ev (fun k => laws_szRuleS.l0 k rs b (n : Int)) r ∧ (0 ≤ r → ∀ x ∈ rs, x.f1.length ≤ 1048576) := by
      intro d
      induction d with
      | zero =>
        intro n b hnd hb' ht
        refine ⟨b, ?_, fun _ => ?_⟩
        · refine Ev.step (fun k => laws_szRuleS.l0.eq_2 _ _ _ k) ?_
          have h1 : ¬ (n : Int) < (rs.length : Int) := by omega
          simp only [h1, if_false]
          exact Ev.now _
        · rw [List.take_of_length_le (by omega)] at ht
          exact ht
      | succ d ih =>
        intro n b hnd hb' ht
        have h1 : (n : Int) < (rs.length : Int) := by omega
        have h0 : (0 : Int) ≤ (n : Int) := Int.natCast_nonneg n
        have hx := hr rs[n] (List.getElem_mem (by omega))
        by_cases hle : (rs[n].f1.length : Int) ≤ b
        · obtain ⟨r, he, hr'⟩ := ih (n + 1) (b - (rs[n].f1.length : Int)) (by omega) (by omega) (by
            intro x hx'
            rw [List.take_succ_eq_append_getElem (by omega : n < rs.length), List.mem_append, List.mem_singleton] at hx'
            rcases hx' with hx' | rfl
            · exact ht x hx'
            · omega)
          refine ⟨r, ?_, hr'⟩
          refine Ev.step (fun k => laws_szRuleS.l0.eq_2 _ _ _ k) ?_
          have h2 : ¬ b - (rs[n].f1.length : Int) < 0 := by omega
          simp only [h1, h0, if_true, rdL rs (by omega : n < rs.length), szRule_b _ _ _ b hb' hx, hle, Option.bind_some, h2, if_false, w64n (by omega : n < 9000000000000000000)]
          exact he
        · refine ⟨-1, ?_, fun h => absurd h (by decide)⟩
          refine Ev.step (fun k => laws_szRuleS.l0.eq_2 _ _ _ k) ?_
          have h2 : (-1 : Int) < 0 := by decide
          simp only [h1, h0, if_true, rdL rs (by omega : n < rs.length), szRule_b _ _ _ b hb' hx, hle, if_false, Option.bind_some, h2]
          exact Ev.now _
    obtain ⟨r, he, hr'⟩ := hloop rs.length 0 (b - (rs.length : Int)) (by omega) (by omega) (by simp)
    exact ⟨r, he, fun h => ⟨by omega, hr' h⟩⟩
theorem szPuzzle_ev (s : Int) (g : List Int) (rs : List S47) (hg : g.length ≤ 9223372036854775807) (hl : rs.length ≤ 9223372036854775807) (hr : ∀ x ∈ rs, x.f1.length ≤ 9223372036854775807) :
    ∃ r, Ev (fun k => laws_szPuzzle.f k s g rs 1048576) r ∧ (0 ≤ r → g.length ≤ 1048576 ∧ rs.length ≤ 1048576 ∧ ∀ x ∈ rs, x.f1.length ≤ 1048576) := by
  unfold laws_szPuzzle.f laws_szIntS.f
  have hw : wrap64 (1048576 - (g.length : Int)) = 1048576 - (g.length : Int) := by unfold wrap64; omega
  rw [hw]
  have h2 : (-1 : Int) < 0 := by decide
  by_cases hn : 1048576 - (g.length : Int) < 0
  · refine ⟨-1, ?_, fun h => absurd h (by decide)⟩
    simp only [hn, h2, if_true, Option.bind_some]
    exact Ev.now _
  · obtain ⟨r, he, hr'⟩ := szRuleS_ev rs (1048576 - (g.length : Int)) (by omega) hl hr
    by_cases hr0 : r < 0
    · refine ⟨-1, ?_, fun h => absurd h (by decide)⟩
      simp only [hn, if_false, Option.bind_some]
      refine Ev.bind he ?_
      simp only [hr0, if_true]
      exact Ev.now _
    · refine ⟨r, ?_, fun h => ⟨by omega, hr' h⟩⟩
      simp only [hn, if_false, Option.bind_some]
      refine Ev.bind he ?_
      simp only [hr0, if_false]
      exact Ev.now _
theorem toRuleS_ev (rs : List S47) (hl : rs.length ≤ 1048576) (hr : ∀ x ∈ rs, x.f1.length ≤ 1048576) : Ev (fun k => laws_toRuleS.f k rs) (rs.map convR) := by
  unfold laws_toRuleS.f
  have h0 : (0 : Int) ≤ (rs.length : Int) := Int.natCast_nonneg _
  have h1 : rs.length ≤ 7036874417766 := by omega
  simp only [h0, h1, if_true, Int.toNat_natCast]
  have hm : (rs.map convR).length = rs.length := List.length_map _
  have := Ev.range (L := fun k (x : List S32) i => laws_toRuleS.l0 k rs x i) (R := fun _ _ => rs.map convR) (N := rs.length) (fun x i => FilledG (rs.map convR) x i) ?_ ?_ (List.replicate rs.length z32) 0 (Nat.zero_le _) ⟨by simp, by simp⟩
  · simpa using this
  · intro x hx
    refine Ev.step (fun k => laws_toRuleS.l0.eq_2 _ _ _ k) ?_
    simp only [Int.lt_irrefl, if_false]
    have hx' : FilledG (rs.map convR) x (rs.map convR).length := by rw [hm]; exact hx
    rw [hx'.fin]; exact Ev.now _
  · intro x i hi hx ih
    refine Ev.step (fun k => laws_toRuleS.l0.eq_2 _ _ _ k) ?_
    have h2 : (i : Int) < (rs.length : Int) := by omega
    have h3 : (0 : Int) ≤ (i : Int) := Int.natCast_nonneg i
    have h4 : (i : Int) < (x.length : Int) := by have := hx.1; omega
    simp only [h2, h3, if_true, rdL rs hi]
    have hlen := hr rs[i] (List.getElem_mem hi)
    refine Ev.bind (toRule_ev _ _ _ (by omega)) ?_
    simp only [h4, if_true, Int.toNat_natCast, w64n (by omega : i < 9000000000000000000)]
    refine ih _ (hx.set (by omega) ?_)
    rw [List.getElem_map]; rfl
theorem toPuzzle_ev (s : Int) (g : List Int) (rs : List S47) (hg : g.length ≤ 1048576) (hl : rs.length ≤ 1048576) (hr : ∀ x ∈ rs, x.f1.length ≤ 1048576) : Ev (fun k => laws_toPuzzle.f k s g rs) (s, g, rs.map convR) := by
  unfold laws_toPuzzle.f
  refine Ev.bind (toIntS_ev g (by omega)) ?_
  refine Ev.bind (toRuleS_ev rs hl hr) ?_
  exact Ev.now _
theorem eqRuleS_ev (rs : List S32) (hl : rs.length ≤ 1048576) (hr : ∀ x ∈ rs, x.f1.length ≤ 1048576) : Ev (fun k => laws_eqRuleS.f k rs rs) true := by
  unfold laws_eqRuleS.f
  simp only [if_true]
  have := Ev.range0 (L := fun k i => laws_eqRuleS.l0 k rs rs i) (R := fun _ => true) (N := rs.length) ?_ ?_ 0 (Nat.zero_le _)
  · simpa using this
  · refine Ev.step (fun k => laws_eqRuleS.l0.eq_2 _ _ _ k) ?_
    simp only [Int.lt_irrefl, if_false]
    exact Ev.now _
  · intro i hi ih
    refine Ev.step (fun k => laws_eqRuleS.l0.eq_2 _ _ _ k) ?_
    have h2 : (i : Int) < (rs.length : Int) := by omega
    have h3 : (0 : Int) ≤ (i : Int) := Int.natCast_nonneg i
    simp only [h2, h3, if_true, rdI rs hi]
    have hlen := hr rs[i] (List.getElem_mem hi)
    refine Ev.bind (eqRule_ev _ _ _ (by omega)) ?_
    simp only [if_true, w64n (by omega : i < 9000000000000000000)]
    exact ih
theorem eqPuzzle_ev (s : Int) (g : List Int) (rs : List S32) (hg : g.length ≤ 1048576) (hl : rs.length ≤ 1048576) (hr : ∀ x ∈ rs, x.f1.length ≤ 1048576) : Ev (fun k => laws_eqPuzzle.f k s g rs s g rs) true := by
  unfold laws_eqPuzzle.f
  simp only [if_true]
  refine Ev.bind (eqIntS_ev g g (by omega)) ?_
  simp only [decide_true, if_true]
  refine Ev.bind (eqRuleS_ev rs hl hr) ?_
  simp only [if_true]
  exact Ev.now _

end Go.Proofs.Ythfbjkniinfgcaa.Pure
