/- When the values in a rule's cells hold, in plain Lean. Conditions: as stated in each. -/
import Derived.Test.YtaglakdahmepeaaWWords
import Derived.Test.YtaglakdahmepeaaWMore
import Derived.Test.YtaglakdahmepeaaP20
import Derived.Test.YtaglakdahmepeaaP43
import Derived.Test.YtaglakdahmepeaaP45
import Derived.Test.YtaglakdahmepeaaBase
import Derived.Test.YtaglakdahmepeaaLines
import Derived.Test.YtaglakdahmepeaaRuleI
import Derived.Test.YtaglakdahmepeaaRuleM
namespace Go.Proofs.Ytaglakdahmepeaa.Pure
set_option linter.unusedSimpArgs false
set_option linter.unusedVariables false
open Go.RowKit Go.Proofs.YtaglakdahmepeaaW.PrintWords Go.Proofs.YtaglakdahmepeaaW.PrintMore Go.Proofs.Ytaglakdahmepeaa.P

theorem goodCells_prev {t : Int} {cs : List Int} {n : Nat} (h : goodCells t cs (n + 1) = true) : goodCells t cs n = true := by
  unfold goodCells at h; simp only [Bool.and_eq_true] at h; exact h.1
theorem goodCells_at {t : Int} {cs : List Int} : ∀ {n : Nat}, goodCells t cs n = true → ∀ i, i < n → 0 ≤ rd cs (i : Int) ∧ rd cs (i : Int) < t
  | 0, _, i, hi => absurd hi (Nat.not_lt_zero i)
  | n + 1, h, i, hi => by
    by_cases hin : i < n
    · exact goodCells_at (goodCells_prev h) i hin
    · obtain rfl : i = n := by omega
      unfold goodCells at h
      simp only [Bool.and_eq_true, decide_eq_true_eq] at h
      exact h.2.1
def sumP (l : List Int) : Nat → Int
  | 0 => 0
  | n + 1 => sumP l n + rd l (n : Int)
def prodP (l : List Int) : Nat → Int
  | 0 => 1
  | n + 1 => prodP l n * rd l (n : Int)
def neP (l : List Int) (i : Nat) : Nat → Bool
  | 0 => true
  | j + 1 => neP l i j && (rd l (j : Int) != rd l (i : Int))
def nodupP (l : List Int) : Nat → Bool
  | 0 => true
  | n + 1 => nodupP l n && neP l n n
theorem sumP_le {l : List Int} (h : ∀ x ∈ l, 0 ≤ x ∧ x ≤ 4) : ∀ n, n ≤ l.length → 0 ≤ sumP l n ∧ sumP l n ≤ 4 * (n : Int)
  | 0, _ => by unfold sumP; omega
  | n + 1, hn => by
    have ih := sumP_le h n (by omega)
    have hx := h _ (rd_mem (g := l) (i := (n : Int)) (by omega) (by omega))
    unfold sumP; omega
theorem prodP_le {l : List Int} (h : ∀ x ∈ l, 0 ≤ x ∧ x ≤ 4) : ∀ n, n ≤ l.length → 0 ≤ prodP l n ∧ prodP l n ≤ 4 ^ n
  | 0, _ => by unfold prodP; decide
  | n + 1, hn => by
    have ih := prodP_le h n (by omega)
    have hx := h _ (rd_mem (g := l) (i := (n : Int)) (by omega) (by omega))
    unfold prodP
    refine ⟨Int.mul_nonneg ih.1 hx.1, ?_⟩
    rw [Int.pow_succ]
    exact Int.mul_le_mul ih.2 hx.2 hx.1 (Int.le_trans ih.1 ih.2)
theorem prodP_small {l : List Int} (h : ∀ x ∈ l, 0 ≤ x ∧ x ≤ 4) {n : Nat} (hn : n ≤ l.length) (h4 : n ≤ 4) : 0 ≤ prodP l n ∧ prodP l n ≤ 256 := by
  have := prodP_le h n hn
  have hc : n = 0 ∨ n = 1 ∨ n = 2 ∨ n = 3 ∨ n = 4 := by omega
  refine ⟨this.1, Int.le_trans this.2 ?_⟩
  rcases hc with rfl | rfl | rfl | rfl | rfl <;> decide
theorem neP_iff {l : List Int} {i : Nat} : ∀ j, j ≤ l.length → (neP l i j = true ↔ ∀ d, d < j → rd l (d : Int) ≠ rd l (i : Int))
  | 0, _ => ⟨fun _ d hd => absurd hd (Nat.not_lt_zero d), fun _ => rfl⟩
  | j + 1, hj => by
    unfold neP
    rw [Bool.and_eq_true, neP_iff j (by omega), bne_iff_ne]
    constructor
    · rintro ⟨h1, h2⟩ d hd
      by_cases hdj : d = j
      · rw [hdj]; exact h2
      · exact h1 d (by omega)
    · exact fun h => ⟨fun d hd => h d (by omega), h j (by omega)⟩
theorem neP_mem {l : List Int} {i : Nat} (hi : i < l.length) : neP l i i = !decide (rd l (i : Int) ∈ l.take i) := by
  by_cases hm : rd l (i : Int) ∈ l.take i
  · rw [decide_eq_true hm]
    obtain ⟨j, hj, _, he⟩ := mem_take_iff.1 hm
    refine eq_false_of_ne_true (fun h => ?_)
    exact (neP_iff i (by omega)).1 h j hj he
  · rw [decide_eq_false hm]
    refine (neP_iff i (by omega)).2 (fun d hd he => hm (mem_take_iff.2 ⟨d, hd, by omega, he⟩))
theorem nodupP_le {l : List Int} {n : Nat} (h : nodupP l n = false) : ∀ d, nodupP l (n + d) = false
  | 0 => h
  | d + 1 => by rw [show n + (d + 1) = (n + d) + 1 from rfl, nodupP, nodupP_le h d]; rfl
def holdsB (kind v : Int) (l : List Int) : Bool := if kind = 1 then nodupP l l.length else if kind = 2 then sumP l l.length == v else if kind = 3 then prodP l l.length == v else if kind = 4 then decide (rd l 0 < rd l 1) else mx (rd l 0 - rd l 1) (rd l 1 - rd l 0) == v
/-- What is known of a valid rule and the values in its cells. -/
def ValsOK (kind : Int) (l : List Int) : Prop := l.length ≤ 4 ∧ (∀ x ∈ l, 0 ≤ x ∧ x ≤ 4) ∧ 1 ≤ kind ∧ kind ≤ 5 ∧ (4 ≤ kind → l.length = 2)
theorem bne_tf (a b : Int) : (if (a != b) = true then true else false) = (a != b) := by cases h : (a != b) <;> simp
theorem l4Holds_ev {kind v : Int} {cs l : List Int} (h : ValsOK kind l) : Ev (fun k => spec_l4Holds.f k kind cs v l) (holdsB kind v l) := by
  obtain ⟨h4, hx, hk1, hk5, hk2⟩ := h
  unfold spec_l4Holds.f
  have := Ev.range (L := fun k (p : Int × Int × Bool) i => spec_l4Holds.l0 k l p.1 p.2.1 p.2.2 i kind cs v) (R := fun _ _ => holdsB kind v l) (N := l.length) (fun p i => p = (sumP l i, prodP l i, nodupP l i)) ?_ ?_ (0, 1, true) 0 (Nat.zero_le _) rfl
  · simpa using this
  · rintro p rfl
    refine Ev.step (fun k => spec_l4Holds.l0.eq_2 _ _ _ _ _ _ _ _ k) ?_
    unfold holdsB
    simp only [Int.lt_irrefl, if_false]
    by_cases k1 : kind = 1
    · simp only [k1, if_true]; exact Ev.now _
    · by_cases k2 : kind = 2
      · simp only [k1, k2, if_true, if_false]; exact Ev.now _
      · by_cases k3 : kind = 3
        · simp only [k1, k2, k3, if_true, if_false]; exact Ev.now _
        · have hl2 : l.length = 2 := hk2 (by omega)
          have e0 : (0 : Int) < (l.length : Int) := by omega
          have e1 : (1 : Int) < (l.length : Int) := by omega
          have hr0 := hx _ (rd_mem (g := l) (i := 0) (by decide) e0)
          have hr1 := hx _ (rd_mem (g := l) (i := 1) (by decide) e1)
          have w1 : wrap64 (rd l 0 - rd l 1) = rd l 0 - rd l 1 := by unfold wrap64; omega
          have w2 : wrap64 (-(rd l 0 - rd l 1)) = rd l 1 - rd l 0 := by unfold wrap64; omega
          by_cases k4 : kind = 4
          · simp only [k1, k2, k3, k4, e0, e1, if_true, if_false]; exact Ev.now _
          · simp only [k1, k2, k3, k4, e0, e1, if_true, if_false, w1, w2]; exact Ev.now _
  · rintro p i hi rfl ih
    refine Ev.step (fun k => spec_l4Holds.l0.eq_2 _ _ _ _ _ _ _ _ k) ?_
    have h1 : (i : Int) < (l.length : Int) := by omega
    have h0 : (0 : Int) ≤ (i : Int) := Int.natCast_nonneg i
    have hs := sumP_le hx (i + 1) (by omega)
    have hp := prodP_small hx (n := i + 1) (by omega) (by omega)
    have ws : wrap64 (sumP l i + rd l (i : Int)) = sumP l (i + 1) := by
      rw [show sumP l i + rd l (i : Int) = sumP l (i + 1) from rfl]; exact w64 (by omega) (by omega)
    have wp : wrap64 (prodP l i * rd l (i : Int)) = prodP l (i + 1) := by
      rw [show prodP l i * rd l (i : Int) = prodP l (i + 1) from rfl]; exact w64 (by omega) (by omega)
    simp only [h1, h0, if_true, ws, wp]
    clear hs hp ws wp
    have := Ev.range (L := fun k (b : Bool) j => spec_l4Holds.l1 k l (sumP l (i + 1)) (prodP l (i + 1)) b (i : Int) j kind cs v) (R := fun _ _ => holdsB kind v l) (N := i) (fun b j => b = (nodupP l i && neP l i j)) ?_ ?_ (nodupP l i) 0 (Nat.zero_le _) (by simp [neP])
    · simpa using this
    · rintro b rfl
      refine Ev.step (fun k => spec_l4Holds.l1.eq_2 _ _ _ _ _ _ _ _ _ k) ?_
      simp only [Int.lt_irrefl, if_false, w64n (by omega : i < 9000000000000000000)]
      exact ih (_, _, _) rfl
    · rintro b j hj hb ihj
      refine Ev.step (fun k => spec_l4Holds.l1.eq_2 _ _ _ _ _ _ _ _ _ k) ?_
      have h2 : (j : Int) < (i : Int) := by omega
      have h3 : (j : Int) < (l.length : Int) := by omega
      have h5 : (0 : Int) ≤ (j : Int) := Int.natCast_nonneg j
      simp only [h2, h3, h5, h1, h0, if_true, w64n (by omega : j < 9000000000000000000)]
      cases b with
      | true =>
        simp only [if_true]
        refine ihj _ ?_
        rw [neP, ← Bool.and_assoc, ← hb, Bool.true_and]
      | false =>
        simp only [Bool.false_eq_true, if_false]
        refine ihj _ ?_
        rw [neP, ← Bool.and_assoc, ← hb, Bool.false_and]
theorem valuesHold_ev {kind v : Int} {cs l : List Int} (h : ValsOK kind l) : Ev (fun k => impl_valuesHold.f k kind cs v l) (holdsB kind v l) := by
  obtain ⟨h4, hx, hk1, hk5, hk2⟩ := h
  unfold impl_valuesHold.f
  have := Ev.range (L := fun k (p : Int × Int) i => impl_valuesHold.l0 k l p.1 p.2 l (l.length : Int) i kind cs v) (R := fun _ _ => holdsB kind v l) (N := l.length) (fun p i => p = (sumP l i, prodP l i) ∧ (kind = 1 → nodupP l i = true)) ?_ ?_ (0, 1) 0 (Nat.zero_le _) ⟨rfl, fun _ => rfl⟩
  · simpa using this
  · rintro p ⟨rfl, hd⟩
    refine Ev.step (fun k => impl_valuesHold.l0.eq_2 _ _ _ _ _ _ _ _ _ k) ?_
    unfold holdsB
    simp only [Int.lt_irrefl, if_false]
    by_cases k1 : kind = 1
    · have k2 : ¬ kind = 2 := by omega
      have k3 : ¬ kind = 3 := by omega
      have k4 : ¬ kind = 4 := by omega
      have k5 : ¬ kind = 5 := by omega
      simp only [k2, k3, k4, k5, if_false]
      rw [if_pos k1, hd k1]
      exact Ev.now _
    · by_cases k2 : kind = 2
      · simp only [k1, k2, if_true, if_false]; exact Ev.now _
      · by_cases k3 : kind = 3
        · simp only [k1, k2, k3, if_true, if_false]; exact Ev.now _
        · have hl2 : l.length = 2 := hk2 (by omega)
          have e0 : (0 : Int) < (l.length : Int) := by omega
          have e1 : (1 : Int) < (l.length : Int) := by omega
          have hr0 := hx _ (rd_mem (g := l) (i := 0) (by decide) e0)
          have hr1 := hx _ (rd_mem (g := l) (i := 1) (by decide) e1)
          have w1 : wrap64 (rd l 0 - rd l 1) = rd l 0 - rd l 1 := by unfold wrap64; omega
          have w2 : wrap64 (rd l 1 - rd l 0) = rd l 1 - rd l 0 := by unfold wrap64; omega
          by_cases k4 : kind = 4
          · simp only [k1, k2, k3, k4, e0, e1, if_true, if_false]; exact Ev.now _
          · have k5 : kind = 5 := by omega
            simp only [k1, k2, k3, k4, e0, e1, if_true, if_false, w1, w2]
            simp only [k5, if_true]
            exact Ev.now _
  · rintro p i hi ⟨rfl, hd⟩ ih
    refine Ev.step (fun k => impl_valuesHold.l0.eq_2 _ _ _ _ _ _ _ _ _ k) ?_
    have h1 : (i : Int) < (l.length : Int) := by omega
    have h2 : (i : Int) ≤ (l.length : Int) := by omega
    have h0 : (0 : Int) ≤ (i : Int) := Int.natCast_nonneg i
    have hs := sumP_le hx (i + 1) (by omega)
    have hp := prodP_small hx (n := i + 1) (by omega) (by omega)
    have ws : wrap64 (sumP l i + rd l (i : Int)) = sumP l (i + 1) := by
      rw [show sumP l i + rd l (i : Int) = sumP l (i + 1) from rfl]; exact w64 (by omega) (by omega)
    have wp : wrap64 (prodP l i * rd l (i : Int)) = prodP l (i + 1) := by
      rw [show prodP l i * rd l (i : Int) = prodP l (i + 1) from rfl]; exact w64 (by omega) (by omega)
    simp only [h1, h2, h0, if_true, ws, wp, Int.toNat_natCast, w64n (by omega : i < 9000000000000000000)]
    clear hs hp ws wp
    by_cases k1 : kind = 1
    · simp only [k1, if_true]
      refine Ev.bind (contains_ev _ _ (by rw [List.length_take]; omega)) ?_
      by_cases hm : rd l (i : Int) ∈ l.take i
      · simp only [hm, decide_true, if_true]
        have hf : nodupP l (i + 1) = false := by rw [nodupP, neP_mem hi, decide_eq_true hm]; simp
        have : holdsB 1 v l = false := by
          unfold holdsB
          obtain ⟨d, hd'⟩ : ∃ d, l.length = (i + 1) + d := ⟨l.length - (i + 1), by omega⟩
          rw [if_pos rfl, hd']
          exact nodupP_le hf d
        rw [this]
        exact Ev.now _
      · simp only [hm, decide_false, if_false, Bool.false_eq_true]
        have := ih (_, _) ⟨rfl, fun _ => by rw [nodupP, neP_mem hi, decide_eq_false hm, hd k1]; rfl⟩
        rw [k1] at this
        exact this
    · simp only [k1, if_false]
      exact ih (_, _) ⟨rfl, fun h => absurd h k1⟩

end Go.Proofs.Ytaglakdahmepeaa.Pure
