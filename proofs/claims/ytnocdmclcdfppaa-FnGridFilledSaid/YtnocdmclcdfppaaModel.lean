/- What grids, masks and lines are, in plain Lean. Conditions: as stated in each. -/
import Derived.Test.YtnocdmclcdfppaaWWords
import Derived.Test.YtnocdmclcdfppaaWMore
namespace Go.Proofs.Ytnocdmclcdfppaa.Pure
set_option linter.unusedSimpArgs false
set_option linter.unusedVariables false
open Go.RowKit Go.Proofs.YtnocdmclcdfppaaW.PrintWords Go.Proofs.YtnocdmclcdfppaaW.PrintMore

/-! ## The model -/
def sizeOkB (s : Int) : Bool := decide (2 ≤ s ∧ s ≤ 4)
def gridB (g : List Int) (s : Int) : Bool := sizeOkB s && (decide ((g.length : Int) = s * s) && g.all (fun v => decide (0 ≤ v ∧ v ≤ s)))
/-- The mask of all values. -/
def allM (s : Int) : Int := if s = 2 then 6 else if s = 3 then 14 else 30
def masksB (g : List Int) (s : Int) : Bool := sizeOkB s && (decide ((g.length : Int) = s * s) && g.all (fun v => decide (0 ≤ v ∧ v ≤ allM s ∧ v % 2 = 0)))
/-- Marks k, k + 1, .. -/
def marks (k : Int) : Nat → List Int
  | 0 => []
  | n + 1 => k :: marks (k + 1) n
theorem marks_length (k : Int) (n : Nat) : (marks k n).length = n := by induction n generalizing k with
  | zero => rfl
  | succ n ih => simp [marks, ih]

theorem sizeOkB_iff {s : Int} : sizeOkB s = true ↔ s = 2 ∨ s = 3 ∨ s = 4 := by
  unfold sizeOkB; rw [decide_eq_true_iff]; omega
theorem len_succ {α : Type} {xs : List α} {n : Nat} (h : xs.length = n + 1) : ∃ a t, xs = a :: t ∧ t.length = n := by
  cases xs with
  | nil => simp at h
  | cons a t => exact ⟨a, t, rfl, by simpa using h⟩
theorem len4 {α : Type} {g : List α} (h : g.length = 4) : ∃ a b c d, g = [a, b, c, d] := by
  obtain ⟨a, g0, rfl, h0⟩ := len_succ h
  obtain ⟨b, g1, rfl, h1⟩ := len_succ h0
  obtain ⟨c, g2, rfl, h2⟩ := len_succ h1
  obtain ⟨d, g3, rfl, h3⟩ := len_succ h2
  obtain rfl := List.length_eq_zero_iff.1 h3
  exact ⟨a, b, c, d, rfl⟩
theorem len9 {α : Type} {g : List α} (h : g.length = 9) : ∃ a0 a1 a2 a3 a4 a5 a6 a7 a8, g = [a0, a1, a2, a3, a4, a5, a6, a7, a8] := by
  obtain ⟨a0, g0, rfl, h0⟩ := len_succ h
  obtain ⟨a1, g1, rfl, h1⟩ := len_succ h0
  obtain ⟨a2, g2, rfl, h2⟩ := len_succ h1
  obtain ⟨a3, g3, rfl, h3⟩ := len_succ h2
  obtain ⟨a4, g4, rfl, h4⟩ := len_succ h3
  obtain ⟨a5, a6, a7, a8, rfl⟩ := len4 h4
  exact ⟨a0, a1, a2, a3, a4, a5, a6, a7, a8, rfl⟩
theorem len16 {α : Type} {g : List α} (h : g.length = 16) : ∃ a0 a1 a2 a3 a4 a5 a6 a7 a8 a9 a10 a11 a12 a13 a14 a15, g = [a0, a1, a2, a3, a4, a5, a6, a7, a8, a9, a10, a11, a12, a13, a14, a15] := by
  obtain ⟨a0, g0, rfl, h0⟩ := len_succ h
  obtain ⟨a1, g1, rfl, h1⟩ := len_succ h0
  obtain ⟨a2, g2, rfl, h2⟩ := len_succ h1
  obtain ⟨a3, g3, rfl, h3⟩ := len_succ h2
  obtain ⟨a4, g4, rfl, h4⟩ := len_succ h3
  obtain ⟨a5, g5, rfl, h5⟩ := len_succ h4
  obtain ⟨a6, g6, rfl, h6⟩ := len_succ h5
  obtain ⟨a7, a8, a9, a10, a11, a12, a13, a14, a15, rfl⟩ := len9 h6
  exact ⟨a0, a1, a2, a3, a4, a5, a6, a7, a8, a9, a10, a11, a12, a13, a14, a15, rfl⟩
theorem gridB_size {g : List Int} {s : Int} (h : gridB g s = true) : sizeOkB s = true := by unfold gridB at h; simp only [Bool.and_eq_true] at h; exact h.1
theorem gridB_len {g : List Int} {s : Int} (h : gridB g s = true) : (g.length : Int) = s * s := by unfold gridB at h; simp only [Bool.and_eq_true, decide_eq_true_eq] at h; exact h.2.1
theorem gridB_mem {g : List Int} {s : Int} (h : gridB g s = true) : ∀ v ∈ g, 0 ≤ v ∧ v ≤ s := by
  unfold gridB at h; simp only [Bool.and_eq_true, decide_eq_true_eq, List.all_eq_true] at h; exact h.2.2
theorem gridB_mk {g : List Int} {s : Int} (h : sizeOkB s = true) (hl : (g.length : Int) = s * s) (hm : ∀ v ∈ g, 0 ≤ v ∧ v ≤ s) : gridB g s = true := by
  unfold gridB; simp only [Bool.and_eq_true, decide_eq_true_eq, List.all_eq_true]; exact ⟨h, hl, hm⟩
theorem gridB_le {g : List Int} {s : Int} (h : gridB g s = true) : g.length ≤ 16 := by
  have := gridB_len h
  rcases sizeOkB_iff.1 (gridB_size h) with rfl | rfl | rfl <;> omega
theorem masksB_size {g : List Int} {s : Int} (h : masksB g s = true) : sizeOkB s = true := by unfold masksB at h; simp only [Bool.and_eq_true] at h; exact h.1
theorem masksB_len {g : List Int} {s : Int} (h : masksB g s = true) : (g.length : Int) = s * s := by unfold masksB at h; simp only [Bool.and_eq_true, decide_eq_true_eq] at h; exact h.2.1
theorem masksB_mem {g : List Int} {s : Int} (h : masksB g s = true) : ∀ v ∈ g, 0 ≤ v ∧ v ≤ allM s ∧ v % 2 = 0 := by
  unfold masksB at h; simp only [Bool.and_eq_true, decide_eq_true_eq, List.all_eq_true] at h; exact h.2.2
theorem masksB_mk {g : List Int} {s : Int} (h : sizeOkB s = true) (hl : (g.length : Int) = s * s) (hm : ∀ v ∈ g, 0 ≤ v ∧ v ≤ allM s ∧ v % 2 = 0) : masksB g s = true := by
  unfold masksB; simp only [Bool.and_eq_true, decide_eq_true_eq, List.all_eq_true]; exact ⟨h, hl, hm⟩
theorem masksB_le {g : List Int} {s : Int} (h : masksB g s = true) : g.length ≤ 16 := by
  have := masksB_len h
  rcases sizeOkB_iff.1 (masksB_size h) with rfl | rfl | rfl <;> omega


def countF (g : List Int) : Int := ((g.filter (fun v => decide (0 < v))).length : Int)
def gridFilled (g : List Int) (s : Int) : Int := if gridB g s = true then countF g else -1
theorem countF_cons (v : Int) (g : List Int) : countF (v :: g) = (if 0 < v then 1 else 0) + countF g := by
  unfold countF; by_cases h : 0 < v
  · simp [h]; omega
  · simp [h]
theorem countF_le (g : List Int) : 0 ≤ countF g ∧ countF g ≤ g.length := by
  unfold countF; have := List.length_filter_le (fun v : Int => decide (0 < v)) g; omega

/-! ## Lines -/
def lineOkB (s l : Int) : Bool := sizeOkB s && decide (0 ≤ l ∧ l < 2 * s)
def lineC (s l : Int) : List Int := if lineOkB s l = true then (List.range s.toNat).map (fun i : Nat => if l < s then l * s + (i : Int) else (i : Int) * s + l - s) else []
theorem lineOkB_cases {s l : Int} (h : lineOkB s l = true) : (s = 2 ∧ (l = 0 ∨ l = 1 ∨ l = 2 ∨ l = 3)) ∨ (s = 3 ∧ (l = 0 ∨ l = 1 ∨ l = 2 ∨ l = 3 ∨ l = 4 ∨ l = 5)) ∨ (s = 4 ∧ (l = 0 ∨ l = 1 ∨ l = 2 ∨ l = 3 ∨ l = 4 ∨ l = 5 ∨ l = 6 ∨ l = 7)) := by
  unfold lineOkB at h; simp only [Bool.and_eq_true, decide_eq_true_eq] at h
  obtain ⟨hs, h0, h1⟩ := h
  rcases sizeOkB_iff.1 hs with rfl | rfl | rfl <;> omega
theorem lineC_len (s l : Int) : (lineC s l).length ≤ 16 := by
  unfold lineC; split
  · rename_i h
    rw [List.length_map, List.length_range]
    rcases lineOkB_cases h with ⟨rfl, _⟩ | ⟨rfl, _⟩ | ⟨rfl, _⟩ <;> decide
  · exact Nat.zero_le _

/-! ## Shifted squares -/
def squareOf (s : Int) : List Int := if s = 2 then [1, 2, 2, 1] else if s = 3 then [1, 2, 3, 2, 3, 1, 3, 1, 2] else if s = 4 then [1, 2, 3, 4, 2, 3, 4, 1, 3, 4, 1, 2, 4, 1, 2, 3] else []

/-! ## Turned and mirrored grids -/
def turnL (g : List Int) (n : Nat) : List Int := (List.range (n * n)).map (fun k => g.getD ((n - 1 - k % n) * n + k / n) 0)
def mirrorL (g : List Int) (n : Nat) : List Int := (List.range (n * n)).map (fun k => g.getD (k / n * n + n - 1 - k % n) 0)
def turnG (g : List Int) (s : Int) : List Int := if gridB g s = true then turnL g s.toNat else []
def mirrorG (g : List Int) (s : Int) : List Int := if gridB g s = true then mirrorL g s.toNat else []
theorem turnG_len (g : List Int) (s : Int) : (turnG g s).length ≤ 16 := by
  unfold turnG; split
  · rename_i h
    unfold turnL; rw [List.length_map, List.length_range]
    rcases sizeOkB_iff.1 (gridB_size h) with rfl | rfl | rfl <;> decide
  · exact Nat.zero_le _
theorem mirrorG_len (g : List Int) (s : Int) : (mirrorG g s).length ≤ 16 := by
  unfold mirrorG; split
  · rename_i h
    unfold mirrorL; rw [List.length_map, List.length_range]
    rcases sizeOkB_iff.1 (gridB_size h) with rfl | rfl | rfl <;> decide
  · exact Nat.zero_le _
theorem mod_small {k n : Nat} (h : 0 < n) : k % n ≤ n - 1 := by have := Nat.mod_lt k h; omega

end Go.Proofs.Ytnocdmclcdfppaa.Pure
