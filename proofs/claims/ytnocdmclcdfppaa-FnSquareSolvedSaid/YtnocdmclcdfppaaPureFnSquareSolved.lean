/- The pure statement of the law FnSquareSolved: it answers true. Conditions: those of the row. -/
import Derived.KernelRfl
import Derived.Laws.BitsLemmas
import Derived.OpenShut
import Derived.Test.YtnocdmclcdfppaaP1
import Derived.Test.YtnocdmclcdfppaaP10
import Derived.Test.YtnocdmclcdfppaaP11
import Derived.Test.YtnocdmclcdfppaaP12
import Derived.Test.YtnocdmclcdfppaaP17
import Derived.Test.YtnocdmclcdfppaaP18
import Derived.Test.YtnocdmclcdfppaaP2
import Derived.Test.YtnocdmclcdfppaaP20
import Derived.Test.YtnocdmclcdfppaaP21
import Derived.Test.YtnocdmclcdfppaaP22
import Derived.Test.YtnocdmclcdfppaaP23
import Derived.Test.YtnocdmclcdfppaaP25
import Derived.Test.YtnocdmclcdfppaaP28
import Derived.Test.YtnocdmclcdfppaaP3
import Derived.Test.YtnocdmclcdfppaaP31
import Derived.Test.YtnocdmclcdfppaaP32
import Derived.Test.YtnocdmclcdfppaaP38
import Derived.Test.YtnocdmclcdfppaaP4
import Derived.Test.YtnocdmclcdfppaaP40
import Derived.Test.YtnocdmclcdfppaaP45
import Derived.Test.YtnocdmclcdfppaaP46
import Derived.Test.YtnocdmclcdfppaaP47
import Derived.Test.YtnocdmclcdfppaaP5
import Derived.Test.YtnocdmclcdfppaaP50
import Derived.Test.YtnocdmclcdfppaaP51
import Derived.Test.YtnocdmclcdfppaaP53
import Derived.Test.YtnocdmclcdfppaaP54
import Derived.Test.YtnocdmclcdfppaaP6
import Derived.Test.YtnocdmclcdfppaaP8
import Derived.Test.YtnocdmclcdfppaaP9
import Derived.Test.YtnocdmclcdfppaaWMore
import Derived.Test.YtnocdmclcdfppaaWWords
namespace Go.Proofs.Ytnocdmclcdfppaa.Pure
set_option linter.unusedSimpArgs false
set_option linter.unusedVariables false
open Go.RowKit Go.Proofs.YtnocdmclcdfppaaW.PrintWords Go.Proofs.YtnocdmclcdfppaaW.PrintMore Go.Proofs.Ytnocdmclcdfppaa.P

theorem alive_ev : Ev (fun k => laws_alive.f k) true := Ev.of laws_alive.mono (k := 20) (by decide +kernel)

end Go.Proofs.Ytnocdmclcdfppaa.Pure
namespace Go.Proofs.Ytnocdmclcdfppaa.Pure
set_option linter.unusedSimpArgs false
set_option linter.unusedVariables false
open Go.RowKit Go.Proofs.YtnocdmclcdfppaaW.PrintWords Go.Proofs.YtnocdmclcdfppaaW.PrintMore

theorem w64 {x : Int} (h0 : -9223372036854775808 ≤ x) (h1 : x ≤ 9223372036854775807) : wrap64 x = x := by
  unfold wrap64; omega
theorem w64n {n : Nat} (h : n < 9000000000000000000) : wrap64 ((n : Int) + 1) = ((n + 1 : Nat) : Int) := by
  unfold wrap64; omega

theorem rd_nat (xs : List Int) (n : Nat) : rd xs (n : Int) = xs.getD n 0 := by simp [rd]
theorem rd_lt {xs : List Int} {n : Nat} (h : n < xs.length) : rd xs (n : Int) = xs[n] := by simp [rd, h]

theorem Ev.some {α : Type} {g : Nat → Option α} {r : α} (h : ∀ k, g k = Option.some r) : Ev g r := ⟨0, fun k _ => h k⟩
theorem Ev.uniq {α : Type} {g : Nat → Option α} {r s : α} (h : Ev g r) (k : Ev g s) : r = s := by
  obtain ⟨K, h⟩ := h
  obtain ⟨K', k⟩ := k
  have a := h (max K K') (by omega)
  have b := k (max K K') (by omega)
  rw [a] at b
  exact Option.some.inj b

/-- A loop that counts from n up to N, with a state. -/
theorem Ev.range {σ α : Type} {L : Nat → σ → Int → Option α} {R : σ → Nat → α} {N : Nat} (P : σ → Nat → Prop)
    (hend : ∀ s, P s N → Ev (fun k => L k s (N : Int)) (R s N))
    (hstep : ∀ s n, n < N → P s n → (∀ s', P s' (n + 1) → Ev (fun k => L k s' ((n + 1 : Nat) : Int)) (R s' (n + 1))) → Ev (fun k => L k s (n : Int)) (R s n)) :
    ∀ s n, n ≤ N → P s n → Ev (fun k => L k s (n : Int)) (R s n) := by
  intro s n hn
  obtain ⟨d, hd⟩ : ∃ d, N = n + d := ⟨N - n, by omega⟩
  induction d generalizing s n with
  | zero => obtain rfl : N = n := by omega
            exact hend s
  | succ d ih => exact fun hp => hstep s n (by omega) hp (fun s' hp' => ih s' (n + 1) (by omega) (by omega) hp')

/-- The same without a state. -/
theorem Ev.range0 {α : Type} {L : Nat → Int → Option α} {R : Nat → α} {N : Nat}
    (hend : Ev (fun k => L k (N : Int)) (R N))
    (hstep : ∀ n, n < N → Ev (fun k => L k ((n + 1 : Nat) : Int)) (R (n + 1)) → Ev (fun k => L k (n : Int)) (R n)) :
    ∀ n, n ≤ N → Ev (fun k => L k (n : Int)) (R n) := by
  intro n hn
  exact Ev.range (σ := Unit) (L := fun k _ i => L k i) (R := fun _ n => R n) (fun _ _ => True) (fun _ _ => hend) (fun _ n h _ ih => hstep n h (ih () trivial)) () n hn trivial

theorem rd_ge {xs : List Int} {i : Int} (h : xs.length ≤ i.toNat) : rd xs i = 0 := by simp [rd, List.getElem?_eq_none h]
theorem take_set_succ {x : List Int} {n : Nat} (h : n < x.length) (v : Int) : (x.set n v).take (n + 1) = x.take n ++ [v] := by
  rw [List.take_succ_eq_append_getElem (by simpa using h)]
  simp [List.take_set_of_le (Nat.le_refl n)]
theorem drop_cons {xs : List Int} {n : Nat} (h : n < xs.length) : xs.drop n = xs[n] :: xs.drop (n + 1) := List.drop_eq_getElem_cons h

end Go.Proofs.Ytnocdmclcdfppaa.Pure
namespace Go.Proofs.Ytnocdmclcdfppaa.Pure
set_option linter.unusedSimpArgs false
set_option linter.unusedVariables false
open Go.RowKit Go.Proofs.YtnocdmclcdfppaaW.PrintWords Go.Proofs.YtnocdmclcdfppaaW.PrintMore

/-- The mask has the value. -/
def has (m v : Int) : Bool := decide ((m / 2 ^ v.toNat) % 2 = 1)
theorem has_fin : ∀ m : Fin 31, ∀ v : Fin 5, Int.tmod (shr .i64 (m.val : Int) (v.val : Int)) 2 = (if has (m.val : Int) (v.val : Int) = true then 1 else 0) ∧ Go.bits .and .i64 (shr .i64 (m.val : Int) (v.val : Int)) 1 = (if has (m.val : Int) (v.val : Int) = true then 1 else 0) := by decide +kernel
theorem has_tmod {m v : Int} (h : 0 ≤ m ∧ m ≤ 30) (hv : 0 ≤ v ∧ v ≤ 4) : Int.tmod (shr .i64 m v) 2 = (if has m v = true then 1 else 0) := by
  have := (has_fin ⟨m.toNat, by omega⟩ ⟨v.toNat, by omega⟩).1
  rwa [show ((m.toNat : Nat) : Int) = m by omega, show ((v.toNat : Nat) : Int) = v by omega] at this
theorem has_and {m v : Int} (h : 0 ≤ m ∧ m ≤ 30) (hv : 0 ≤ v ∧ v ≤ 4) : Go.bits .and .i64 (shr .i64 m v) 1 = (if has m v = true then 1 else 0) := by
  have := (has_fin ⟨m.toNat, by omega⟩ ⟨v.toNat, by omega⟩).2
  rwa [show ((m.toNat : Nat) : Int) = m by omega, show ((v.toNat : Nat) : Int) = v by omega] at this
theorem has_zero {m : Int} (h : m % 2 = 0) : has m 0 = false := by
  unfold has; simp; omega

end Go.Proofs.Ytnocdmclcdfppaa.Pure
namespace Go.Proofs.Ytnocdmclcdfppaa.Pure
set_option linter.unusedSimpArgs false
set_option linter.unusedVariables false
open Go.RowKit Go.Proofs.YtnocdmclcdfppaaW.PrintWords Go.Proofs.YtnocdmclcdfppaaW.PrintMore

/-! ## The model -/
def sizeOkB (s : Int) : Bool := decide (2 ≤ s ∧ s ≤ 4)
def gridB (g : List Int) (s : Int) : Bool := sizeOkB s && (decide ((g.length : Int) = s * s) && g.all (fun v => decide (0 ≤ v ∧ v ≤ s)))
/-- The mask of all values. -/
def allM (s : Int) : Int := if s = 2 then 6 else if s = 3 then 14 else 30
def masksB (g : List Int) (s : Int) : Bool := sizeOkB s && (decide ((g.length : Int) = s * s) && g.all (fun v => decide (0 ≤ v ∧ v ≤ allM s ∧ v % 2 = 0)))
/-- Marks k, k + 1, .. -/
def marks (k : Int) : Nat → List Int
  | 0 => []
  | n + 1 => k :: marks (k + 1) n
theorem marks_length (k : Int) (n : Nat) : (marks k n).length = n := by induction n generalizing k with
  | zero => rfl
  | succ n ih => simp [marks, ih]

theorem sizeOkB_iff {s : Int} : sizeOkB s = true ↔ s = 2 ∨ s = 3 ∨ s = 4 := by
  unfold sizeOkB; rw [decide_eq_true_iff]; omega
theorem len_succ {α : Type} {xs : List α} {n : Nat} (h : xs.length = n + 1) : ∃ a t, xs = a :: t ∧ t.length = n := by
  cases xs with
  | nil => simp at h
  | cons a t => exact ⟨a, t, rfl, by simpa using h⟩
theorem len4 {α : Type} {g : List α} (h : g.length = 4) : ∃ a b c d, g = [a, b, c, d] := by
  obtain ⟨a, g0, rfl, h0⟩ := len_succ h
  obtain ⟨b, g1, rfl, h1⟩ := len_succ h0
  obtain ⟨c, g2, rfl, h2⟩ := len_succ h1
  obtain ⟨d, g3, rfl, h3⟩ := len_succ h2
  obtain rfl := List.length_eq_zero_iff.1 h3
  exact ⟨a, b, c, d, rfl⟩
theorem len9 {α : Type} {g : List α} (h : g.length = 9) : ∃ a0 a1 a2 a3 a4 a5 a6 a7 a8, g = [a0, a1, a2, a3, a4, a5, a6, a7, a8] := by
  obtain ⟨a0, g0, rfl, h0⟩ := len_succ h
  obtain ⟨a1, g1, rfl, h1⟩ := len_succ h0
  obtain ⟨a2, g2, rfl, h2⟩ := len_succ h1
  obtain ⟨a3, g3, rfl, h3⟩ := len_succ h2
  obtain ⟨a4, g4, rfl, h4⟩ := len_succ h3
  obtain ⟨a5, a6, a7, a8, rfl⟩ := len4 h4
  exact ⟨a0, a1, a2, a3, a4, a5, a6, a7, a8, rfl⟩
theorem len16 {α : Type} {g : List α} (h : g.length = 16) : ∃ a0 a1 a2 a3 a4 a5 a6 a7 a8 a9 a10 a11 a12 a13 a14 a15, g = [a0, a1, a2, a3, a4, a5, a6, a7, a8, a9, a10, a11, a12, a13, a14, a15] := by
  obtain ⟨a0, g0, rfl, h0⟩ := len_succ h
  obtain ⟨a1, g1, rfl, h1⟩ := len_succ h0
  obtain ⟨a2, g2, rfl, h2⟩ := len_succ h1
  obtain ⟨a3, g3, rfl, h3⟩ := len_succ h2
  obtain ⟨a4, g4, rfl, h4⟩ := len_succ h3
  obtain ⟨a5, g5, rfl, h5⟩ := len_succ h4
  obtain ⟨a6, g6, rfl, h6⟩ := len_succ h5
  obtain ⟨a7, a8, a9, a10, a11, a12, a13, a14, a15, rfl⟩ := len9 h6
  exact ⟨a0, a1, a2, a3, a4, a5, a6, a7, a8, a9, a10, a11, a12, a13, a14, a15, rfl⟩
theorem gridB_size {g : List Int} {s : Int} (h : gridB g s = true) : sizeOkB s = true := by unfold gridB at h; simp only [Bool.and_eq_true] at h; exact h.1
theorem gridB_len {g : List Int} {s : Int} (h : gridB g s = true) : (g.length : Int) = s * s := by unfold gridB at h; simp only [Bool.and_eq_true, decide_eq_true_eq] at h; exact h.2.1
theorem gridB_mem {g : List Int} {s : Int} (h : gridB g s = true) : ∀ v ∈ g, 0 ≤ v ∧ v ≤ s := by
  unfold gridB at h; simp only [Bool.and_eq_true, decide_eq_true_eq, List.all_eq_true] at h; exact h.2.2
theorem gridB_mk {g : List Int} {s : Int} (h : sizeOkB s = true) (hl : (g.length : Int) = s * s) (hm : ∀ v ∈ g, 0 ≤ v ∧ v ≤ s) : gridB g s = true := by
  unfold gridB; simp only [Bool.and_eq_true, decide_eq_true_eq, List.all_eq_true]; exact ⟨h, hl, hm⟩
theorem gridB_le {g : List Int} {s : Int} (h : gridB g s = true) : g.length ≤ 16 := by
  have := gridB_len h
  rcases sizeOkB_iff.1 (gridB_size h) with rfl | rfl | rfl <;> omega
theorem masksB_size {g : List Int} {s : Int} (h : masksB g s = true) : sizeOkB s = true := by unfold masksB at h; simp only [Bool.and_eq_true] at h; exact h.1
theorem masksB_len {g : List Int} {s : Int} (h : masksB g s = true) : (g.length : Int) = s * s := by unfold masksB at h; simp only [Bool.and_eq_true, decide_eq_true_eq] at h; exact h.2.1
theorem masksB_mem {g : List Int} {s : Int} (h : masksB g s = true) : ∀ v ∈ g, 0 ≤ v ∧ v ≤ allM s ∧ v % 2 = 0 := by
  unfold masksB at h; simp only [Bool.and_eq_true, decide_eq_true_eq, List.all_eq_true] at h; exact h.2.2
theorem masksB_mk {g : List Int} {s : Int} (h : sizeOkB s = true) (hl : (g.length : Int) = s * s) (hm : ∀ v ∈ g, 0 ≤ v ∧ v ≤ allM s ∧ v % 2 = 0) : masksB g s = true := by
  unfold masksB; simp only [Bool.and_eq_true, decide_eq_true_eq, List.all_eq_true]; exact ⟨h, hl, hm⟩
theorem masksB_le {g : List Int} {s : Int} (h : masksB g s = true) : g.length ≤ 16 := by
  have := masksB_len h
  rcases sizeOkB_iff.1 (masksB_size h) with rfl | rfl | rfl <;> omega


def countF (g : List Int) : Int := ((g.filter (fun v => decide (0 < v))).length : Int)
def gridFilled (g : List Int) (s : Int) : Int := if gridB g s = true then countF g else -1
theorem countF_cons (v : Int) (g : List Int) : countF (v :: g) = (if 0 < v then 1 else 0) + countF g := by
  unfold countF; by_cases h : 0 < v
  · simp [h]; omega
  · simp [h]
theorem countF_le (g : List Int) : 0 ≤ countF g ∧ countF g ≤ g.length := by
  unfold countF; have := List.length_filter_le (fun v : Int => decide (0 < v)) g; omega

/-! ## Lines -/
def lineOkB (s l : Int) : Bool := sizeOkB s && decide (0 ≤ l ∧ l < 2 * s)
def lineC (s l : Int) : List Int := if lineOkB s l = true then (List.range s.toNat).map (fun i : Nat => if l < s then l * s + (i : Int) else (i : Int) * s + l - s) else []
theorem lineOkB_cases {s l : Int} (h : lineOkB s l = true) : (s = 2 ∧ (l = 0 ∨ l = 1 ∨ l = 2 ∨ l = 3)) ∨ (s = 3 ∧ (l = 0 ∨ l = 1 ∨ l = 2 ∨ l = 3 ∨ l = 4 ∨ l = 5)) ∨ (s = 4 ∧ (l = 0 ∨ l = 1 ∨ l = 2 ∨ l = 3 ∨ l = 4 ∨ l = 5 ∨ l = 6 ∨ l = 7)) := by
  unfold lineOkB at h; simp only [Bool.and_eq_true, decide_eq_true_eq] at h
  obtain ⟨hs, h0, h1⟩ := h
  rcases sizeOkB_iff.1 hs with rfl | rfl | rfl <;> omega
theorem lineC_len (s l : Int) : (lineC s l).length ≤ 16 := by
  unfold lineC; split
  · rename_i h
    rw [List.length_map, List.length_range]
    rcases lineOkB_cases h with ⟨rfl, _⟩ | ⟨rfl, _⟩ | ⟨rfl, _⟩ <;> decide
  · exact Nat.zero_le _

/-! ## Shifted squares -/
def squareOf (s : Int) : List Int := if s = 2 then [1, 2, 2, 1] else if s = 3 then [1, 2, 3, 2, 3, 1, 3, 1, 2] else if s = 4 then [1, 2, 3, 4, 2, 3, 4, 1, 3, 4, 1, 2, 4, 1, 2, 3] else []

/-! ## Turned and mirrored grids -/
def turnL (g : List Int) (n : Nat) : List Int := (List.range (n * n)).map (fun k => g.getD ((n - 1 - k % n) * n + k / n) 0)
def mirrorL (g : List Int) (n : Nat) : List Int := (List.range (n * n)).map (fun k => g.getD (k / n * n + n - 1 - k % n) 0)
def turnG (g : List Int) (s : Int) : List Int := if gridB g s = true then turnL g s.toNat else []
def mirrorG (g : List Int) (s : Int) : List Int := if gridB g s = true then mirrorL g s.toNat else []
theorem turnG_len (g : List Int) (s : Int) : (turnG g s).length ≤ 16 := by
  unfold turnG; split
  · rename_i h
    unfold turnL; rw [List.length_map, List.length_range]
    rcases sizeOkB_iff.1 (gridB_size h) with rfl | rfl | rfl <;> decide
  · exact Nat.zero_le _
theorem mirrorG_len (g : List Int) (s : Int) : (mirrorG g s).length ≤ 16 := by
  unfold mirrorG; split
  · rename_i h
    unfold mirrorL; rw [List.length_map, List.length_range]
    rcases sizeOkB_iff.1 (gridB_size h) with rfl | rfl | rfl <;> decide
  · exact Nat.zero_le _
theorem mod_small {k n : Nat} (h : 0 < n) : k % n ≤ n - 1 := by have := Nat.mod_lt k h; omega

end Go.Proofs.Ytnocdmclcdfppaa.Pure
namespace Go.Proofs.Ytnocdmclcdfppaa.Pure
set_option linter.unusedSimpArgs false
set_option linter.unusedVariables false
open Go.RowKit Go.Proofs.YtnocdmclcdfppaaW.PrintWords Go.Proofs.YtnocdmclcdfppaaW.PrintMore

/-- Cell k of row r / of column c, for a size. -/
def rowCell (n i k : Nat) : Nat := i / n * n + k
def colCell (n i k : Nat) : Nat := k * n + i % n
/-- Does no cell of the row and column of cell i, the first m of each, have the value? -/
def freeB (g : List Int) (n i : Nat) (v : Int) : Nat → Bool
  | 0 => true
  | m + 1 => freeB g n i v m && (decide (rd g (rowCell n i m : Nat) ≠ v) && decide (rd g (colCell n i m : Nat) ≠ v))
/-- The mask of the values that a cell can have: values u .. v - 1. -/
def maskUpto (p : Int → Bool) : Nat → Int
  | 0 => 0
  | n + 1 => maskUpto p n + (if p (n + 1) = true then 2 ^ (n + 1) else 0)
def candCell (g : List Int) (n i : Nat) : Int := if 0 < rd g (i : Nat) then 2 ^ (rd g (i : Nat)).toNat else maskUpto (fun v => freeB g n i v n) n
def candidates (g : List Int) (s : Int) : List Int := if gridB g s = true then (List.range g.length).map (fun i => candCell g s.toNat i) else []
theorem candidates_len (g : List Int) (s : Int) : (candidates g s).length ≤ 16 := by
  unfold candidates; split
  · rename_i h; rw [List.length_map, List.length_range]; exact gridB_le h
  · exact Nat.zero_le _
theorem mask_ext_fin : ∀ a : Fin 32, ∀ b : Fin 32, (a.val % 2 = 0 ∧ b.val % 2 = 0 ∧ (∀ v : Fin 5, 1 ≤ v.val → has (a.val : Int) (v.val : Int) = has (b.val : Int) (v.val : Int))) → a = b := by decide +kernel
/-- Two masks with the same values are the same. -/
theorem mask_ext {a b : Int} (ha : 0 ≤ a ∧ a ≤ 30 ∧ a % 2 = 0) (hb : 0 ≤ b ∧ b ≤ 30 ∧ b % 2 = 0) (h : ∀ v : Int, 1 ≤ v → v ≤ 4 → has a v = has b v) : a = b := by
  have := mask_ext_fin ⟨a.toNat, by omega⟩ ⟨b.toNat, by omega⟩ ⟨by simp only; omega, by simp only; omega, fun v hv => by
    simp only [show ((a.toNat : Nat) : Int) = a by omega, show ((b.toNat : Nat) : Int) = b by omega]
    exact h _ (by omega) (by have := v.isLt; omega)⟩
  simp only [Fin.mk.injEq] at this
  omega
theorem maskUpto_fin : ∀ m : Fin 5, ∀ b1 b2 b3 b4 : Bool, let p : Int → Bool := fun v => if v = 1 then b1 else if v = 2 then b2 else if v = 3 then b3 else b4
    (0 ≤ maskUpto p m.val ∧ maskUpto p m.val ≤ 30 ∧ maskUpto p m.val % 2 = 0) ∧ ∀ v : Fin 5, 1 ≤ v.val → has (maskUpto p m.val) (v.val : Int) = (decide (v.val ≤ m.val) && p (v.val : Int)) := by decide +kernel
theorem or_up_fin : ∀ a : Fin 4, ∀ b1 b2 b3 : Bool, Go.bits .or .i64 (maskUpto (fun v => if v = 1 then b1 else if v = 2 then b2 else b3) a.val) (shl .i64 1 ((a.val : Int) + 1)) = maskUpto (fun v => if v = 1 then b1 else if v = 2 then b2 else b3) a.val + 2 ^ (a.val + 1) := by
  intro a b1 b2 b3
  match a with
  | 0 => revert b1 b2 b3; decide +kernel
  | 1 => revert b1 b2 b3; decide +kernel
  | 2 => revert b1 b2 b3; decide +kernel
  | 3 => revert b1 b2 b3; decide +kernel
theorem maskUpto_congr {p q : Int → Bool} {n : Nat} (h : ∀ v : Int, 1 ≤ v → v ≤ n → p v = q v) : maskUpto p n = maskUpto q n := by
  induction n with
  | zero => rfl
  | succ n ih =>
    unfold maskUpto
    rw [ih (fun v h1 h2 => h v h1 (by omega)), h ((n : Int) + 1) (by omega) (by omega)]
theorem maskUpto_or {p : Int → Bool} {m : Nat} (hm : m < 4) (hp : p ((m : Int) + 1) = true) : Go.bits .or .i64 (maskUpto p m) (shl .i64 1 ((m : Int) + 1)) = maskUpto p (m + 1) := by
  rw [maskUpto, if_pos hp]
  have ho := or_up_fin ⟨m, hm⟩ (p 1) (p 2) (p 3)
  rw [maskUpto_congr (q := p) (n := m) (fun v h1 h2 => by
    have : v = 1 ∨ v = 2 ∨ v = 3 := by omega
    rcases this with rfl | rfl | rfl <;> rfl)] at ho
  exact ho
theorem maskUpto_spec (p : Int → Bool) {n : Nat} (hn : n ≤ 4) : (0 ≤ maskUpto p n ∧ maskUpto p n ≤ 30 ∧ maskUpto p n % 2 = 0) ∧ ∀ v : Int, 1 ≤ v → v ≤ 4 → has (maskUpto p n) v = (decide (v ≤ n) && p v) := by
  have e : maskUpto p n = maskUpto (fun v => if v = 1 then p 1 else if v = 2 then p 2 else if v = 3 then p 3 else p 4) n := by
    apply maskUpto_congr
    intro v h1 h2
    have : v = 1 ∨ v = 2 ∨ v = 3 ∨ v = 4 := by omega
    rcases this with rfl | rfl | rfl | rfl <;> rfl
  have hf := maskUpto_fin ⟨n, by omega⟩ (p 1) (p 2) (p 3) (p 4)
  simp only at hf
  rw [e]
  refine ⟨hf.1, fun v h1 h2 => ?_⟩
  have := hf.2 ⟨v.toNat, by omega⟩ (by simp only; omega)
  simp only [show ((v.toNat : Nat) : Int) = v by omega] at this
  rw [this]
  have hv : v = 1 ∨ v = 2 ∨ v = 3 ∨ v = 4 := by omega
  have hd : decide (v.toNat ≤ n) = decide (v ≤ (n : Int)) := by
    by_cases hle : v ≤ (n : Int)
    · rw [decide_eq_true hle, decide_eq_true (by omega)]
    · rw [decide_eq_false hle, decide_eq_false (by omega)]
  rw [hd]
  rcases hv with rfl | rfl | rfl | rfl <;> rfl
theorem shl1_fin : ∀ v : Fin 5, shl .i64 1 (v.val : Int) = 2 ^ v.val := by decide +kernel
theorem shl1 {v : Int} (h : 0 ≤ v ∧ v ≤ 4) : shl .i64 1 v = 2 ^ v.toNat := by
  have := shl1_fin ⟨v.toNat, by omega⟩
  simp only [show ((v.toNat : Nat) : Int) = v by omega] at this
  exact this
theorem rowcol_lt {n i k : Nat} (hn : n = 2 ∨ n = 3 ∨ n = 4) (hi : i < n * n) (hk : k < n) : rowCell n i k < n * n ∧ colCell n i k < n * n := by
  unfold rowCell colCell
  rcases hn with rfl | rfl | rfl <;> omega
theorem size_or {s : Int} (h : sizeOkB s = true) : (s.toNat = 2 ∨ s.toNat = 3 ∨ s.toNat = 4) ∧ s = (s.toNat : Int) := by
  rcases sizeOkB_iff.1 h with rfl | rfl | rfl <;> decide
theorem row_idx {n i k : Nat} (hn : n = 2 ∨ n = 3 ∨ n = 4) (hi : i < n * n) (hk : k < n) : wrap64 ((wrap64 ((wrap64 (Int.tdiv (i : Int) (n : Int))) * (n : Int))) + (k : Int)) = ((rowCell n i k : Nat) : Int) := by
  rw [Int.tdiv_eq_ediv_of_nonneg (by omega)]
  unfold rowCell wrap64
  rcases hn with rfl | rfl | rfl <;> omega
theorem col_idx {n i k : Nat} (hn : n = 2 ∨ n = 3 ∨ n = 4) (hi : i < n * n) (hk : k < n) : wrap64 ((wrap64 ((k : Int) * (n : Int))) + (Int.tmod (i : Int) (n : Int))) = ((colCell n i k : Nat) : Int) := by
  rw [Int.tmod_eq_emod_of_nonneg (by omega)]
  unfold colCell wrap64
  rcases hn with rfl | rfl | rfl <;> omega
theorem grid_len {g : List Int} {s : Int} (h : gridB g s = true) : g.length = s.toNat * s.toNat := by
  have h1 := gridB_len h
  have h2 := (size_or (gridB_size h)).2
  rw [h2] at h1
  exact_mod_cast h1
theorem freeB_succ_false {g : List Int} {n i : Nat} {v : Int} {m : Nat} (h : freeB g n i v m = false) : ∀ d, freeB g n i v (m + d) = false
  | 0 => h
  | d + 1 => by rw [show m + (d + 1) = (m + d) + 1 from rfl, freeB, freeB_succ_false h d]; rfl

end Go.Proofs.Ytnocdmclcdfppaa.Pure
namespace Go.Proofs.Ytnocdmclcdfppaa.Pure
set_option linter.unusedSimpArgs false
set_option linter.unusedVariables false
open Go.RowKit Go.Proofs.YtnocdmclcdfppaaW.PrintWords Go.Proofs.YtnocdmclcdfppaaW.PrintMore

theorem lineC_mem {s l : Int} : ∀ c ∈ lineC s l, 0 ≤ c ∧ c < s * s := by
  by_cases h : lineOkB s l = true
  · rcases lineOkB_cases h with ⟨rfl, hc⟩ | ⟨rfl, hc⟩ | ⟨rfl, hc⟩
    · rcases hc with rfl | rfl | rfl | rfl <;> decide +kernel
    · rcases hc with rfl | rfl | rfl | rfl | rfl | rfl <;> decide +kernel
    · rcases hc with rfl | rfl | rfl | rfl | rfl | rfl | rfl | rfl <;> decide +kernel
  · unfold lineC; rw [if_neg h]; intro c hc; cases hc
/-- Does a value, apart from 0, stand twice in these cells (or in seen)? -/
def clashL (g : List Int) : List Int → List Int → Bool
  | [], _ => false
  | c :: cs, seen => if 0 < rd g c ∧ rd g c ∈ seen then true else clashL g cs (rd g c :: seen)
/-- Does one of the lines n, n + 1, .. (d of them) clash? -/
def linesClash (g : List Int) (s : Int) (n : Nat) : Nat → Bool
  | 0 => false
  | d + 1 => clashL g (lineC s n) [] || linesClash g s (n + 1) d
def squareFits (g : List Int) (s : Int) : Bool := gridB g s && !linesClash g s 0 (2 * s.toNat)
def squareSolved (g : List Int) (s : Int) : Bool := squareFits g s && decide (gridFilled g s = s * s)
theorem size_nat {s : Int} (h : sizeOkB s = true) : ((s.toNat : Nat) : Int) = s ∧ 2 ≤ s.toNat ∧ s.toNat ≤ 4 := by
  rcases sizeOkB_iff.1 h with rfl | rfl | rfl <;> decide
theorem rd_mem {g : List Int} {i : Int} (h0 : 0 ≤ i) (h1 : i < (g.length : Int)) : rd g i ∈ g := by
  obtain ⟨n, rfl⟩ := Int.eq_ofNat_of_zero_le h0
  rw [rd_lt (by omega : n < g.length)]
  exact List.getElem_mem _

end Go.Proofs.Ytnocdmclcdfppaa.Pure
namespace Go.Proofs.Ytnocdmclcdfppaa.Pure
set_option linter.unusedSimpArgs false
set_option linter.unusedVariables false
open Go.RowKit Go.Proofs.YtnocdmclcdfppaaW.PrintWords Go.Proofs.YtnocdmclcdfppaaW.PrintMore

theorem clashL_iff (g : List Int) : ∀ (cs seen : List Int), clashL g cs seen = false ↔ (∀ c ∈ cs, 0 < rd g c → rd g c ∉ seen) ∧ cs.Pairwise (fun c d => 0 < rd g d → rd g d ≠ rd g c)
  | [], seen => by simp [clashL]
  | c :: cs, seen => by
    unfold clashL
    by_cases h : 0 < rd g c ∧ rd g c ∈ seen
    · rw [if_pos h]
      constructor
      · intro h0; cases h0
      · intro h0; exact absurd h.2 (h0.1 c (List.mem_cons_self ..) h.1)
    · rw [if_neg h, clashL_iff g cs (rd g c :: seen), List.pairwise_cons]
      constructor
      · rintro ⟨h1, h2⟩
        refine ⟨fun d hd hp hm => ?_, fun d hd hp he => (h1 d hd hp) (by rw [he]; exact List.mem_cons_self ..), h2⟩
        rcases List.mem_cons.1 hd with rfl | hd
        · exact h ⟨hp, hm⟩
        · exact h1 d hd hp (List.mem_cons_of_mem _ hm)
      · rintro ⟨h1, h2, h3⟩
        refine ⟨fun d hd hp hm => ?_, h3⟩
        rcases List.mem_cons.1 hm with he | hm
        · exact h2 d hd hp he
        · exact h1 d (List.mem_cons_of_mem _ hd) hp hm
theorem linesClash_iff (g : List Int) (s : Int) : ∀ (d n : Nat), linesClash g s n d = false ↔ ∀ j, j < d → clashL g (lineC s ((n + j : Nat) : Int)) [] = false
  | 0, n => by simp [linesClash]
  | d + 1, n => by
    rw [linesClash, Bool.or_eq_false_iff, linesClash_iff g s d (n + 1)]
    constructor
    · rintro ⟨h1, h2⟩ j hj
      cases j with
      | zero => exact h1
      | succ j => have := h2 j (by omega); rwa [show n + 1 + j = n + (j + 1) by omega] at this
    · intro h
      exact ⟨h 0 (by omega), fun j hj => by have := h (j + 1) (by omega); rwa [show n + (j + 1) = n + 1 + j by omega] at this⟩
/-- Cell i of line l. -/
def lineCell (n l i : Nat) : Nat := if l < n then l * n + i else i * n + (l - n)
theorem lineC_map {n l : Nat} (hn : n = 2 ∨ n = 3 ∨ n = 4) (hl : l < 2 * n) : lineC (n : Int) (l : Int) = (List.range n).map (fun i => ((lineCell n l i : Nat) : Int)) := by
  unfold lineC
  have h : lineOkB (n : Int) (l : Int) = true := by
    unfold lineOkB sizeOkB
    rw [Bool.and_eq_true, decide_eq_true_iff, decide_eq_true_iff]
    omega
  rw [if_pos h, Int.toNat_natCast]
  refine List.map_congr_left (fun i hi => ?_)
  unfold lineCell
  by_cases hln : l < n
  · rw [if_pos (by omega : (l : Int) < (n : Int)), if_pos hln]
    simp
  · rw [if_neg (by omega : ¬ (l : Int) < (n : Int)), if_neg hln]
    have : ((i * n + (l - n) : Nat) : Int) = (i : Int) * (n : Int) + ((l - n : Nat) : Int) := by simp
    rw [this]; omega
theorem lineCell_lt {n l i : Nat} (hn : n = 2 ∨ n = 3 ∨ n = 4) (hl : l < 2 * n) (hi : i < n) : lineCell n l i < n * n := by
  unfold lineCell
  rcases hn with rfl | rfl | rfl <;> split <;> omega
/-- In no line does a value, apart from 0, stand twice. -/
def Fits (g : List Int) (n : Nat) : Prop := ∀ l, l < 2 * n → ∀ i j, i < n → j < n → i ≠ j → 0 < rd g (lineCell n l i : Nat) → rd g (lineCell n l i : Nat) ≠ rd g (lineCell n l j : Nat)
theorem clashLine_iff (g : List Int) {n l : Nat} (hn : n = 2 ∨ n = 3 ∨ n = 4) (hl : l < 2 * n) : clashL g (lineC (n : Int) (l : Int)) [] = false ↔ ∀ i j, i < n → j < n → i ≠ j → 0 < rd g (lineCell n l i : Nat) → rd g (lineCell n l i : Nat) ≠ rd g (lineCell n l j : Nat) := by
  rw [clashL_iff, lineC_map hn hl, List.pairwise_map, List.pairwise_iff_getElem]
  constructor
  · rintro ⟨_, h⟩ i j hi hj hij hp he
    rcases Nat.lt_or_gt_of_ne hij with hlt | hlt
    · have := h i j (by simpa using hi) (by simpa using hj) hlt
      simp only [List.getElem_range] at this
      exact this (by rw [← he]; exact hp) he.symm
    · have := h j i (by simpa using hj) (by simpa using hi) hlt
      simp only [List.getElem_range] at this
      exact this hp he
  · intro h
    refine ⟨fun c _ _ hm => (List.not_mem_nil hm), fun i j hi hj hij => ?_⟩
    simp only [List.getElem_range]
    simp only [List.length_range] at hi hj
    exact fun hp he => h j i hj hi (by omega) hp he
theorem squareFits_iff {g : List Int} {s : Int} (hg : gridB g s = true) : squareFits g s = true ↔ Fits g s.toNat := by
  obtain ⟨hn, hs⟩ := size_or (gridB_size hg)
  unfold squareFits Fits
  rw [hg, Bool.true_and, Bool.not_eq_true', linesClash_iff]
  constructor
  · intro h l hl
    have := h l hl
    rw [Nat.zero_add, hs] at this
    exact (clashLine_iff g hn hl).1 this
  · intro h l hl
    rw [Nat.zero_add, hs]
    exact (clashLine_iff g hn hl).2 (h l hl)
/-- The lines of the one are lines of the other, in some order, with values renamed. -/
def Alike (g g' : List Int) (n : Nat) (f : Int → Int) : Prop := ∀ l, l < 2 * n → ∃ (l' : Nat) (σ : Nat → Nat), l' < 2 * n ∧ (∀ i, i < n → σ i < n) ∧ (∀ i j, i < n → j < n → σ i = σ j → i = j) ∧ ∀ i, i < n → rd g' (lineCell n l i : Nat) = f (rd g (lineCell n l' (σ i) : Nat))
theorem Alike.fits {g g' : List Int} {n : Nat} {f : Int → Int} (h : Alike g g' n f) (hf : ∀ v, 0 < f v → 0 < v) (hi : ∀ u v, f u = f v → u = v) (hg : Fits g n) : Fits g' n := by
  intro l hl i j h1 h2 hij hp he
  obtain ⟨l', σ, hl', hs, hinj, hv⟩ := h l hl
  rw [hv i h1] at hp
  rw [hv i h1, hv j h2] at he
  exact hg l' hl' (σ i) (σ j) (hs i h1) (hs j h2) (fun e => hij (hinj i j h1 h2 e)) (hf _ hp) (hi _ _ he)
theorem rd_turnL {g : List Int} {n k : Nat} (h : k < n * n) : rd (turnL g n) (k : Nat) = rd g (((n - 1 - k % n) * n + k / n : Nat) : Int) := by
  rw [rd_nat, rd_nat]; unfold turnL
  rw [List.getD_eq_getElem?_getD, List.getElem?_eq_getElem (by simpa using h), Option.getD_some]
  simp
theorem rd_mirrorL {g : List Int} {n k : Nat} (h : k < n * n) : rd (mirrorL g n) (k : Nat) = rd g ((k / n * n + n - 1 - k % n : Nat) : Int) := by
  rw [rd_nat, rd_nat]; unfold mirrorL
  rw [List.getD_eq_getElem?_getD, List.getElem?_eq_getElem (by simpa using h), Option.getD_some]
  simp
theorem turn_alike (g : List Int) {n : Nat} (hn : n = 2 ∨ n = 3 ∨ n = 4) : Alike g (turnL g n) n id := by
  intro l hl
  by_cases h : l < n
  · refine ⟨n + l, fun i => n - 1 - i, by omega, fun i hi => by dsimp only; omega, fun i j hi hj e => by dsimp only at e; omega, fun i hi => ?_⟩
    rw [rd_turnL (lineCell_lt hn hl hi)]
    unfold lineCell
    rw [if_pos h, if_neg (by omega)]
    refine congrArg (fun k : Nat => rd g (k : Int)) ?_
    try dsimp only
    rcases hn with rfl | rfl | rfl <;> omega
  · refine ⟨2 * n - 1 - l, fun i => i, by omega, fun i hi => hi, fun i j _ _ e => e, fun i hi => ?_⟩
    rw [rd_turnL (lineCell_lt hn hl hi)]
    unfold lineCell
    rw [if_neg h, if_pos (by omega)]
    refine congrArg (fun k : Nat => rd g (k : Int)) ?_
    try dsimp only
    rcases hn with rfl | rfl | rfl <;> omega
theorem turn_alike' (g : List Int) {n : Nat} (hn : n = 2 ∨ n = 3 ∨ n = 4) : Alike (turnL g n) g n id := by
  intro l hl
  by_cases h : l < n
  · refine ⟨2 * n - 1 - l, fun i => i, by omega, fun i hi => hi, fun i j _ _ e => e, fun i hi => ?_⟩
    show _ = rd (turnL g n) _
    rw [rd_turnL (lineCell_lt hn (by omega) hi)]
    unfold lineCell
    rw [if_pos h, if_neg (by omega)]
    refine congrArg (fun k : Nat => rd g (k : Int)) ?_
    try dsimp only
    rcases hn with rfl | rfl | rfl <;> omega
  · refine ⟨l - n, fun i => n - 1 - i, by omega, fun i hi => by dsimp only; omega, fun i j hi hj e => by dsimp only at e; omega, fun i hi => ?_⟩
    show _ = rd (turnL g n) _
    rw [rd_turnL (lineCell_lt hn (by omega) (by dsimp only; omega))]
    unfold lineCell
    rw [if_neg h, if_pos (by omega)]
    refine congrArg (fun k : Nat => rd g (k : Int)) ?_
    try dsimp only
    rcases hn with rfl | rfl | rfl <;> omega
theorem mirror_alike (g : List Int) {n : Nat} (hn : n = 2 ∨ n = 3 ∨ n = 4) : Alike g (mirrorL g n) n id := by
  intro l hl
  by_cases h : l < n
  · refine ⟨l, fun i => n - 1 - i, by omega, fun i hi => by dsimp only; omega, fun i j hi hj e => by dsimp only at e; omega, fun i hi => ?_⟩
    rw [rd_mirrorL (lineCell_lt hn hl hi)]
    unfold lineCell
    rw [if_pos h, if_pos h]
    refine congrArg (fun k : Nat => rd g (k : Int)) ?_
    try dsimp only
    rcases hn with rfl | rfl | rfl <;> omega
  · refine ⟨3 * n - 1 - l, fun i => i, by omega, fun i hi => hi, fun i j _ _ e => e, fun i hi => ?_⟩
    rw [rd_mirrorL (lineCell_lt hn hl hi)]
    unfold lineCell
    rw [if_neg h, if_neg (by omega)]
    refine congrArg (fun k : Nat => rd g (k : Int)) ?_
    try dsimp only
    rcases hn with rfl | rfl | rfl <;> omega
theorem mirror_alike' (g : List Int) {n : Nat} (hn : n = 2 ∨ n = 3 ∨ n = 4) : Alike (mirrorL g n) g n id := by
  intro l hl
  by_cases h : l < n
  · refine ⟨l, fun i => n - 1 - i, by omega, fun i hi => by dsimp only; omega, fun i j hi hj e => by dsimp only at e; omega, fun i hi => ?_⟩
    show _ = rd (mirrorL g n) _
    rw [rd_mirrorL (lineCell_lt hn (by omega) (by dsimp only; omega))]
    unfold lineCell
    rw [if_pos h, if_pos h]
    refine congrArg (fun k : Nat => rd g (k : Int)) ?_
    try dsimp only
    rcases hn with rfl | rfl | rfl <;> omega
  · refine ⟨3 * n - 1 - l, fun i => i, by omega, fun i hi => hi, fun i j _ _ e => e, fun i hi => ?_⟩
    show _ = rd (mirrorL g n) _
    rw [rd_mirrorL (lineCell_lt hn (by omega) hi)]
    unfold lineCell
    rw [if_neg h, if_neg (by omega)]
    refine congrArg (fun k : Nat => rd g (k : Int)) ?_
    try dsimp only
    rcases hn with rfl | rfl | rfl <;> omega
theorem turnL_grid {g : List Int} {s : Int} (hg : gridB g s = true) : gridB (turnL g s.toNat) s = true := by
  obtain ⟨hn, hs⟩ := size_or (gridB_size hg)
  refine gridB_mk (gridB_size hg) ?_ ?_
  · unfold turnL; rw [List.length_map, List.length_range]; rw [hs]; simp
  · intro v hv
    unfold turnL at hv
    obtain ⟨k, hk, rfl⟩ := List.mem_map.1 hv
    have hk2 := List.mem_range.1 hk
    have hlen := grid_len hg
    have hb : (s.toNat - 1 - k % s.toNat) * s.toNat + k / s.toNat < g.length := by
      rw [hlen]; generalize s.toNat = n at *
      rcases hn with rfl | rfl | rfl <;> omega
    rw [List.getD_eq_getElem?_getD, List.getElem?_eq_getElem hb, Option.getD_some]
    exact gridB_mem hg _ (List.getElem_mem hb)
theorem mirrorL_grid {g : List Int} {s : Int} (hg : gridB g s = true) : gridB (mirrorL g s.toNat) s = true := by
  obtain ⟨hn, hs⟩ := size_or (gridB_size hg)
  refine gridB_mk (gridB_size hg) ?_ ?_
  · unfold mirrorL; rw [List.length_map, List.length_range]; rw [hs]; simp
  · intro v hv
    unfold mirrorL at hv
    obtain ⟨k, hk, rfl⟩ := List.mem_map.1 hv
    have hk2 := List.mem_range.1 hk
    have hlen := grid_len hg
    have hb : k / s.toNat * s.toNat + s.toNat - 1 - k % s.toNat < g.length := by
      rw [hlen]; generalize s.toNat = n at *
      rcases hn with rfl | rfl | rfl <;> omega
    rw [List.getD_eq_getElem?_getD, List.getElem?_eq_getElem hb, Option.getD_some]
    exact gridB_mem hg _ (List.getElem_mem hb)
theorem eq_of_iffB {a b : Bool} (h : a = true ↔ b = true) : a = b := by cases a <;> cases b <;> simp_all
theorem squareFits_turn {g : List Int} {s : Int} (hg : gridB g s = true) : squareFits (turnL g s.toNat) s = squareFits g s := by
  obtain ⟨hn, hs⟩ := size_or (gridB_size hg)
  refine eq_of_iffB ?_
  rw [squareFits_iff hg, squareFits_iff (turnL_grid hg)]
  exact ⟨(turn_alike' g hn).fits (fun _ h => h) (fun _ _ h => h), (turn_alike g hn).fits (fun _ h => h) (fun _ _ h => h)⟩
theorem squareFits_mirror {g : List Int} {s : Int} (hg : gridB g s = true) : squareFits (mirrorL g s.toNat) s = squareFits g s := by
  obtain ⟨hn, hs⟩ := size_or (gridB_size hg)
  refine eq_of_iffB ?_
  rw [squareFits_iff hg, squareFits_iff (mirrorL_grid hg)]
  exact ⟨(mirror_alike' g hn).fits (fun _ h => h) (fun _ _ h => h), (mirror_alike g hn).fits (fun _ h => h) (fun _ _ h => h)⟩
theorem turn4 (g : List Int) {n : Nat} (hn : n = 2 ∨ n = 3 ∨ n = 4) (hl : g.length = n * n) : turnL (turnL (turnL (turnL g n) n) n) n = g := by
  rcases hn with rfl | rfl | rfl
  · obtain ⟨a, b, c, d, rfl⟩ := len4 hl; rfl
  · obtain ⟨a0, a1, a2, a3, a4, a5, a6, a7, a8, rfl⟩ := len9 hl; rfl
  · obtain ⟨a0, a1, a2, a3, a4, a5, a6, a7, a8, a9, a10, a11, a12, a13, a14, a15, rfl⟩ := len16 hl; rfl
theorem mirror2 (g : List Int) {n : Nat} (hn : n = 2 ∨ n = 3 ∨ n = 4) (hl : g.length = n * n) : mirrorL (mirrorL g n) n = g := by
  rcases hn with rfl | rfl | rfl
  · obtain ⟨a, b, c, d, rfl⟩ := len4 hl; rfl
  · obtain ⟨a0, a1, a2, a3, a4, a5, a6, a7, a8, rfl⟩ := len9 hl; rfl
  · obtain ⟨a0, a1, a2, a3, a4, a5, a6, a7, a8, a9, a10, a11, a12, a13, a14, a15, rfl⟩ := len16 hl; rfl
theorem mirror_turn (g : List Int) {n : Nat} (hn : n = 2 ∨ n = 3 ∨ n = 4) (hl : g.length = n * n) : turnL (mirrorL g n) n = mirrorL (turnL (turnL (turnL g n) n) n) n := by
  rcases hn with rfl | rfl | rfl
  · obtain ⟨a, b, c, d, rfl⟩ := len4 hl; rfl
  · obtain ⟨a0, a1, a2, a3, a4, a5, a6, a7, a8, rfl⟩ := len9 hl; rfl
  · obtain ⟨a0, a1, a2, a3, a4, a5, a6, a7, a8, a9, a10, a11, a12, a13, a14, a15, rfl⟩ := len16 hl; rfl
theorem countF_turn (g : List Int) {n : Nat} (hn : n = 2 ∨ n = 3 ∨ n = 4) (hl : g.length = n * n) : countF (turnL g n) = countF g := by
  rcases hn with rfl | rfl | rfl
  · obtain ⟨a, b, c, d, rfl⟩ := len4 hl
    show countF [c, a, d, b] = _
    simp only [countF_cons]; omega
  · obtain ⟨a0, a1, a2, a3, a4, a5, a6, a7, a8, rfl⟩ := len9 hl
    show countF [a6, a3, a0, a7, a4, a1, a8, a5, a2] = _
    simp only [countF_cons]
    generalize (if 0 < a0 then (1 : Int) else 0) = b0; generalize (if 0 < a1 then (1 : Int) else 0) = b1; generalize (if 0 < a2 then (1 : Int) else 0) = b2
    generalize (if 0 < a3 then (1 : Int) else 0) = b3; generalize (if 0 < a4 then (1 : Int) else 0) = b4; generalize (if 0 < a5 then (1 : Int) else 0) = b5
    generalize (if 0 < a6 then (1 : Int) else 0) = b6; generalize (if 0 < a7 then (1 : Int) else 0) = b7; generalize (if 0 < a8 then (1 : Int) else 0) = b8
    omega
  · obtain ⟨a0, a1, a2, a3, a4, a5, a6, a7, a8, a9, a10, a11, a12, a13, a14, a15, rfl⟩ := len16 hl
    show countF [a12, a8, a4, a0, a13, a9, a5, a1, a14, a10, a6, a2, a15, a11, a7, a3] = _
    simp only [countF_cons]
    generalize (if 0 < a0 then (1 : Int) else 0) = b0; generalize (if 0 < a1 then (1 : Int) else 0) = b1; generalize (if 0 < a2 then (1 : Int) else 0) = b2
    generalize (if 0 < a3 then (1 : Int) else 0) = b3; generalize (if 0 < a4 then (1 : Int) else 0) = b4; generalize (if 0 < a5 then (1 : Int) else 0) = b5
    generalize (if 0 < a6 then (1 : Int) else 0) = b6; generalize (if 0 < a7 then (1 : Int) else 0) = b7; generalize (if 0 < a8 then (1 : Int) else 0) = b8
    generalize (if 0 < a9 then (1 : Int) else 0) = b9; generalize (if 0 < a10 then (1 : Int) else 0) = b10; generalize (if 0 < a11 then (1 : Int) else 0) = b11
    generalize (if 0 < a12 then (1 : Int) else 0) = b12; generalize (if 0 < a13 then (1 : Int) else 0) = b13; generalize (if 0 < a14 then (1 : Int) else 0) = b14
    generalize (if 0 < a15 then (1 : Int) else 0) = b15
    omega

end Go.Proofs.Ytnocdmclcdfppaa.Pure
namespace Go.Proofs.Ytnocdmclcdfppaa.Pure
set_option linter.unusedSimpArgs false
set_option linter.unusedVariables false
open Go.RowKit Go.Proofs.YtnocdmclcdfppaaW.PrintWords Go.Proofs.YtnocdmclcdfppaaW.PrintMore

theorem freeB_iff (g : List Int) (n i : Nat) (v : Int) : ∀ m, freeB g n i v m = true ↔ ∀ k, k < m → rd g (rowCell n i k : Nat) ≠ v ∧ rd g (colCell n i k : Nat) ≠ v
  | 0 => by simp [freeB]
  | m + 1 => by
    rw [freeB, Bool.and_eq_true, freeB_iff g n i v m, Bool.and_eq_true, decide_eq_true_iff, decide_eq_true_iff]
    constructor
    · rintro ⟨h1, h2⟩ k hk
      by_cases e : k = m
      · subst e; exact h2
      · exact h1 k (by omega)
    · intro h
      exact ⟨fun k hk => h k (by omega), h m (by omega)⟩
theorem rd_set_eq {g : List Int} {i : Nat} (h : i < g.length) (v : Int) : rd (g.set i v) (i : Nat) = v := by
  rw [rd_lt (by simpa using h)]; simp
theorem rd_set_ne {g : List Int} {i j : Nat} (h : i ≠ j) (v : Int) : rd (g.set i v) (j : Nat) = rd g (j : Nat) := by
  rw [rd_nat, rd_nat, List.getD_eq_getElem?_getD, List.getD_eq_getElem?_getD, List.getElem?_set_ne h]
theorem lineCell_at {n l a i : Nat} (hn : n = 2 ∨ n = 3 ∨ n = 4) (hl : l < 2 * n) (ha : a < n) (h : lineCell n l a = i) : (l < n ∧ l = i / n ∧ a = i % n ∧ ∀ b, lineCell n l b = rowCell n i b) ∨ (¬ l < n ∧ l - n = i % n ∧ a = i / n ∧ ∀ b, lineCell n l b = colCell n i b) := by
  subst h
  by_cases hln : l < n
  · left
    refine ⟨hln, ?_, ?_, fun b => ?_⟩
    · unfold lineCell; rw [if_pos hln]; rcases hn with rfl | rfl | rfl <;> omega
    · unfold lineCell; rw [if_pos hln]; rcases hn with rfl | rfl | rfl <;> omega
    · unfold rowCell lineCell; rw [if_pos hln, if_pos hln]; rcases hn with rfl | rfl | rfl <;> omega
  · right
    refine ⟨hln, ?_, ?_, fun b => ?_⟩
    · unfold lineCell; rw [if_neg hln]; rcases hn with rfl | rfl | rfl <;> omega
    · unfold lineCell; rw [if_neg hln]; rcases hn with rfl | rfl | rfl <;> omega
    · unfold colCell lineCell; rw [if_neg hln, if_neg hln]; rcases hn with rfl | rfl | rfl <;> omega
theorem lineCell_row {n i : Nat} (hn : n = 2 ∨ n = 3 ∨ n = 4) (hi : i < n * n) (b : Nat) : i / n < n ∧ i % n < n ∧ lineCell n (i / n) b = rowCell n i b ∧ lineCell n (n + i % n) b = colCell n i b ∧ rowCell n i (i % n) = i ∧ colCell n i (i / n) = i := by
  have h1 : i / n < n := by rcases hn with rfl | rfl | rfl <;> omega
  refine ⟨h1, ?_, ?_, ?_, ?_, ?_⟩
  · rcases hn with rfl | rfl | rfl <;> omega
  · unfold lineCell rowCell; rw [if_pos h1]
  · unfold lineCell colCell; rw [if_neg (by omega)]; rcases hn with rfl | rfl | rfl <;> omega
  · unfold rowCell; rcases hn with rfl | rfl | rfl <;> omega
  · unfold colCell; rcases hn with rfl | rfl | rfl <;> omega
theorem fits_set {g : List Int} {n i : Nat} {v : Int} (hn : n = 2 ∨ n = 3 ∨ n = 4) (hlen : g.length = n * n) (hi : i < n * n) (hz : rd g (i : Nat) = 0) (hv : 0 < v) (hf : Fits g n) : Fits (g.set i v) n ↔ freeB g n i v n = true := by
  rw [freeB_iff]
  constructor
  · intro h k hk
    obtain ⟨h1, h2, h3, h4, h5, h6⟩ := lineCell_row hn hi k
    constructor
    · intro e
      have hne : i ≠ rowCell n i k := by intro e2; rw [← e2, hz] at e; omega
      have hki : i % n ≠ k := by intro e2; rw [← e2, h5] at hne; exact hne rfl
      refine h (i / n) (by omega) (i % n) k h2 hk hki ?_ ?_
      · rw [(lineCell_row hn hi (i % n)).2.2.1, h5, rd_set_eq (by omega)]; exact hv
      · rw [(lineCell_row hn hi (i % n)).2.2.1, h5, rd_set_eq (by omega), h3, rd_set_ne hne, e]
    · intro e
      have hne : i ≠ colCell n i k := by intro e2; rw [← e2, hz] at e; omega
      have hki : i / n ≠ k := by intro e2; rw [← e2, h6] at hne; exact hne rfl
      refine h (n + i % n) (by omega) (i / n) k h1 hk hki ?_ ?_
      · rw [(lineCell_row hn hi (i / n)).2.2.2.1, h6, rd_set_eq (by omega)]; exact hv
      · rw [(lineCell_row hn hi (i / n)).2.2.2.1, h6, rd_set_eq (by omega), h4, rd_set_ne hne, e]
  · intro h l hl a b ha hb hab hp he
    by_cases ea : lineCell n l a = i
    · have hv2 : ∀ c, c < n → rd g (lineCell n l c : Nat) ≠ v := by
        rcases lineCell_at hn hl ha ea with ⟨_, _, _, hc⟩ | ⟨_, _, _, hc⟩
        · intro c hcn; rw [hc]; exact (h c hcn).1
        · intro c hcn; rw [hc]; exact (h c hcn).2
      have hne : i ≠ lineCell n l b := by
        intro e2
        rcases lineCell_at hn hl ha ea with ⟨q1, _, q2, _⟩ | ⟨q1, _, q2, _⟩ <;> rcases lineCell_at hn hl hb e2.symm with ⟨q3, _, q4, _⟩ | ⟨q3, _, q4, _⟩ <;> omega
      rw [ea, rd_set_eq (by omega), rd_set_ne hne] at he
      exact hv2 b hb he.symm
    · by_cases eb : lineCell n l b = i
      · have hv2 : ∀ c, c < n → rd g (lineCell n l c : Nat) ≠ v := by
          rcases lineCell_at hn hl hb eb with ⟨_, _, _, hc⟩ | ⟨_, _, _, hc⟩
          · intro c hcn; rw [hc]; exact (h c hcn).1
          · intro c hcn; rw [hc]; exact (h c hcn).2
        rw [eb, rd_set_eq (by omega), rd_set_ne (fun e => ea e.symm)] at he
        exact hv2 a ha he
      · rw [rd_set_ne (fun e => ea e.symm)] at hp he
        rw [rd_set_ne (fun e => eb e.symm)] at he
        exact hf l hl a b ha hb hab hp he
theorem grid_set {g : List Int} {s : Int} (hg : gridB g s = true) (i : Nat) {v : Int} (h0 : 0 ≤ v) (h1 : v ≤ s) : gridB (g.set i v) s = true := by
  refine gridB_mk (gridB_size hg) (by rw [List.length_set]; exact gridB_len hg) (fun x hx => ?_)
  rcases List.mem_or_eq_of_mem_set hx with hx | rfl
  · exact gridB_mem hg x hx
  · exact ⟨h0, h1⟩

end Go.Proofs.Ytnocdmclcdfppaa.Pure
namespace Go.Proofs.Ytnocdmclcdfppaa.Pure
set_option linter.unusedSimpArgs false
set_option linter.unusedVariables false
open Go.RowKit Go.Proofs.YtnocdmclcdfppaaW.PrintWords Go.Proofs.YtnocdmclcdfppaaW.PrintMore

def solV (f : List Int → List (List Int)) (g : List Int) (n i : Nat) (v : Int) : Nat → List (List Int)
  | 0 => []
  | m + 1 => (if freeB g n i v n = true then f (g.set i v) else []) ++ solV f g n i (v + 1) m
/-- The full grids that continue g, whose last d cells are empty. -/
def sols (n N : Nat) : Nat → List Int → List (List Int)
  | 0, g => [g]
  | d + 1, g => solV (sols n N d) g n (N - (d + 1)) 1 n
def trV (f : List Int → Int → List Int × Int) (g : List Int) (n i : Nat) (v : Int) : Nat → Int → List Int × Int
  | 0, left => ([], left)
  | m + 1, left => if freeB g n i v n = true then (if 0 < (f (g.set i v) left).1.length then f (g.set i v) left else trV f g n i (v + 1) m (f (g.set i v) left).2) else trV f g n i (v + 1) m left
def srch (n N : Nat) : Nat → List Int → Int → List Int × Int
  | 0, g, left => if left = 0 then (g, left) else ([], left - 1)
  | d + 1, g, left => trV (srch n N d) g n (N - (d + 1)) 1 n left
/-- The list with this number, or how many are left. -/
def numbered (L : List (List Int)) (left : Int) : List Int × Int := if left < (L.length : Int) then (L.getD left.toNat [], 0) else ([], left - L.length)
theorem numbered_append {L1 L2 : List (List Int)} {left : Int} (h : ∀ x ∈ L1, 0 < x.length) (h0 : 0 ≤ left) : numbered (L1 ++ L2) left = if 0 < (numbered L1 left).1.length then numbered L1 left else numbered L2 (numbered L1 left).2 := by
  obtain ⟨m, rfl⟩ := Int.eq_ofNat_of_zero_le h0
  by_cases hm : m < L1.length
  · have e1 : numbered L1 (m : Int) = (L1[m], 0) := by unfold numbered; rw [if_pos (by omega), Int.toNat_natCast, List.getD_eq_getElem?_getD, List.getElem?_eq_getElem hm, Option.getD_some]
    rw [e1, if_pos (h _ (List.getElem_mem hm))]
    unfold numbered
    rw [if_pos (by rw [List.length_append]; omega), Int.toNat_natCast, List.getD_eq_getElem?_getD, List.getElem?_append_left hm, List.getElem?_eq_getElem hm, Option.getD_some]
  · have e1 : numbered L1 (m : Int) = ([], (m : Int) - L1.length) := by unfold numbered; rw [if_neg (by omega)]
    rw [e1, if_neg (by simp)]
    unfold numbered
    by_cases h2 : (m : Int) < ((L1 ++ L2).length : Int)
    · have h3 := h2
      rw [List.length_append] at h3
      rw [if_pos h2, if_pos (by dsimp only; omega), Int.toNat_natCast, List.getD_eq_getElem?_getD, List.getD_eq_getElem?_getD, List.getElem?_append_right (by omega), show ((m : Int) - L1.length).toNat = m - L1.length by omega]
    · have h3 := h2
      rw [List.length_append] at h3
      rw [if_neg h2, if_neg (by dsimp only; omega), List.length_append, Prod.mk.injEq]
      exact ⟨rfl, by dsimp only; omega⟩
theorem solV_mem {f : List Int → List (List Int)} {g : List Int} {n i : Nat} {x : List Int} : ∀ (m : Nat) (v : Int), x ∈ solV f g n i v m → ∃ u, v ≤ u ∧ u < v + m ∧ freeB g n i u n = true ∧ x ∈ f (g.set i u)
  | 0, v, h => by simp [solV] at h
  | m + 1, v, h => by
    rw [solV, List.mem_append] at h
    rcases h with h | h
    · by_cases hf : freeB g n i v n = true
      · rw [if_pos hf] at h; exact ⟨v, by omega, by omega, hf, h⟩
      · rw [if_neg hf] at h; cases h
    · obtain ⟨u, h1, h2, h3, h4⟩ := solV_mem m (v + 1) h
      exact ⟨u, by omega, by omega, h3, h4⟩
theorem sols_len {n N : Nat} {x : List Int} : ∀ (d : Nat) (g : List Int), x ∈ sols n N d g → x.length = g.length
  | 0, g, h => by simp [sols] at h; rw [h]
  | d + 1, g, h => by
    obtain ⟨u, _, _, _, h⟩ := solV_mem _ _ h
    have := sols_len d _ h
    rwa [List.length_set] at this
theorem trV_eq {f : List Int → Int → List Int × Int} {F : List Int → List (List Int)} {g : List Int} {n i : Nat} (hF : ∀ y, ∀ x ∈ F y, x.length = y.length) (hg : 0 < g.length) (hf : ∀ v left, 0 ≤ left → f (g.set i v) left = numbered (F (g.set i v)) left) : ∀ (m : Nat) (v left : Int), 0 ≤ left → trV f g n i v m left = numbered (solV F g n i v m) left
  | 0, v, left, h => by unfold trV solV numbered; rw [if_neg (by simp; omega)]; simp
  | m + 1, v, left, h => by
    unfold trV solV
    have hnn : ∀ L : List (List Int), 0 ≤ (numbered L left).2 := by intro L; unfold numbered; split <;> dsimp only <;> omega
    by_cases hb : freeB g n i v n = true
    · rw [if_pos hb, if_pos hb, hf v left h, numbered_append (fun x hx => by rw [hF _ x hx, List.length_set]; exact hg) h, trV_eq hF hg hf m (v + 1) _ (hnn _)]
    · rw [if_neg hb, if_neg hb, List.nil_append]
      exact trV_eq hF hg hf m (v + 1) left h
theorem srch_eq (n N : Nat) : ∀ (d : Nat) (g : List Int) (left : Int), 0 < g.length → 0 ≤ left → srch n N d g left = numbered (sols n N d g) left
  | 0, g, left, hg, h => by
    unfold srch sols numbered
    by_cases h0 : left = 0
    · subst h0; simp
    · rw [if_neg h0, if_neg (by simp; omega)]; simp
  | d + 1, g, left, hg, h => by
    unfold srch sols
    exact trV_eq (fun y x hx => sols_len d y hx) hg (fun v l hl => srch_eq n N d _ l (by rw [List.length_set]; exact hg) hl) _ _ _ h
theorem srch_left {n N d : Nat} {g : List Int} {left : Int} (hg : 0 < g.length) (h : 0 ≤ left) : 0 ≤ (srch n N d g left).2 ∧ (srch n N d g left).2 ≤ left := by
  rw [srch_eq n N d g left hg h]; unfold numbered; split <;> dsimp only <;> omega
theorem sols_ok {s : Int} (hs : sizeOkB s = true) {x : List Int} : ∀ (d : Nat) (g : List Int), d ≤ s.toNat * s.toNat → gridB g s = true → Fits g s.toNat → (∀ i : Nat, s.toNat * s.toNat - d ≤ i → rd g (i : Int) = 0) → (∀ i : Nat, i < s.toNat * s.toNat - d → 0 < rd g (i : Int)) → x ∈ sols s.toNat (s.toNat * s.toNat) d g → gridB x s = true ∧ Fits x s.toNat ∧ ∀ i : Nat, i < s.toNat * s.toNat → 0 < rd x (i : Int)
  | 0, g, _, hg, hf, _, hp, h => by
    simp only [sols, List.mem_singleton] at h
    subst h
    exact ⟨hg, hf, fun i hi => hp i (by omega)⟩
  | d + 1, g, hd, hg, hf, hz, hp, h => by
    obtain ⟨u, h1, h2, h3, h4⟩ := solV_mem _ _ h
    obtain ⟨hn, hsn⟩ := size_or hs
    have hlen := grid_len hg
    refine sols_ok hs d _ (by omega) (grid_set hg _ (by omega) (by omega)) ((fits_set hn hlen (by omega) (hz _ (Nat.le_refl _)) (by omega) hf).2 h3) (fun i hi => ?_) (fun i hi => ?_) h4
    · rw [rd_set_ne (by omega)]; exact hz i (by omega)
    · by_cases e : i = s.toNat * s.toNat - (d + 1)
      · rw [← e, rd_set_eq (by omega)]; omega
      · rw [rd_set_ne (fun e2 => e e2.symm)]; exact hp i (by omega)
def cntV (f : List Int → Nat) (g : List Int) (n i : Nat) (v : Int) : Nat → Nat
  | 0 => 0
  | m + 1 => (if freeB g n i v n = true then f (g.set i v) else 0) + cntV f g n i (v + 1) m
def cnt (n N : Nat) : Nat → List Int → Nat
  | 0, _ => 1
  | d + 1, g => cntV (cnt n N d) g n (N - (d + 1)) 1 n
theorem cntV_eq {f : List Int → Nat} {F : List Int → List (List Int)} (h : ∀ y, (F y).length = f y) (g : List Int) (n i : Nat) : ∀ (m : Nat) (v : Int), (solV F g n i v m).length = cntV f g n i v m
  | 0, v => rfl
  | m + 1, v => by
    unfold solV cntV
    rw [List.length_append, cntV_eq h g n i m (v + 1)]
    split
    · rw [h]
    · rfl
theorem cnt_eq (n N : Nat) : ∀ (d : Nat) (g : List Int), (sols n N d g).length = cnt n N d g
  | 0, g => rfl
  | d + 1, g => by unfold sols cnt; exact cntV_eq (cnt_eq n N d) g n _ _ _

end Go.Proofs.Ytnocdmclcdfppaa.Pure
namespace Go.Proofs.Ytnocdmclcdfppaa.Pure
set_option linter.unusedSimpArgs false
set_option linter.unusedVariables false
open Go.RowKit Go.Proofs.YtnocdmclcdfppaaW.PrintWords Go.Proofs.YtnocdmclcdfppaaW.PrintMore

theorem cnt2 : cnt 2 4 4 [0, 0, 0, 0] = 2 := by decide +kernel
theorem cnt3 : cnt 3 9 9 [0, 0, 0, 0, 0, 0, 0, 0, 0] = 12 := by decide +kernel
set_option maxRecDepth 100000 in
theorem cnt4_1 : cnt 4 16 15 [1, 0, 0, 0, 0, 0, 0, 0, 0, 0, 0, 0, 0, 0, 0, 0] = 144 := by decide +kernel
set_option maxRecDepth 100000 in
theorem cnt4_2 : cnt 4 16 15 [2, 0, 0, 0, 0, 0, 0, 0, 0, 0, 0, 0, 0, 0, 0, 0] = 144 := by decide +kernel
set_option maxRecDepth 100000 in
theorem cnt4_3 : cnt 4 16 15 [3, 0, 0, 0, 0, 0, 0, 0, 0, 0, 0, 0, 0, 0, 0, 0] = 144 := by decide +kernel
set_option maxRecDepth 100000 in
theorem cnt4_4 : cnt 4 16 15 [4, 0, 0, 0, 0, 0, 0, 0, 0, 0, 0, 0, 0, 0, 0, 0] = 144 := by decide +kernel
theorem free4 : ∀ v : Fin 4, freeB [0, 0, 0, 0, 0, 0, 0, 0, 0, 0, 0, 0, 0, 0, 0, 0] 4 0 ((v.val : Int) + 1) 4 = true := by decide +kernel
theorem cntV4 (f : List Int → Nat) : cntV f [0, 0, 0, 0, 0, 0, 0, 0, 0, 0, 0, 0, 0, 0, 0, 0] 4 0 1 4 = f [1, 0, 0, 0, 0, 0, 0, 0, 0, 0, 0, 0, 0, 0, 0, 0] + (f [2, 0, 0, 0, 0, 0, 0, 0, 0, 0, 0, 0, 0, 0, 0, 0] + (f [3, 0, 0, 0, 0, 0, 0, 0, 0, 0, 0, 0, 0, 0, 0, 0] + (f [4, 0, 0, 0, 0, 0, 0, 0, 0, 0, 0, 0, 0, 0, 0, 0] + 0))) := by
  unfold cntV; rw [if_pos (show freeB [0, 0, 0, 0, 0, 0, 0, 0, 0, 0, 0, 0, 0, 0, 0, 0] 4 0 1 4 = true from free4 0)]
  unfold cntV; rw [if_pos (show freeB [0, 0, 0, 0, 0, 0, 0, 0, 0, 0, 0, 0, 0, 0, 0, 0] 4 0 (1 + 1) 4 = true from free4 1)]
  unfold cntV; rw [if_pos (show freeB [0, 0, 0, 0, 0, 0, 0, 0, 0, 0, 0, 0, 0, 0, 0, 0] 4 0 (1 + 1 + 1) 4 = true from free4 2)]
  unfold cntV; rw [if_pos (show freeB [0, 0, 0, 0, 0, 0, 0, 0, 0, 0, 0, 0, 0, 0, 0, 0] 4 0 (1 + 1 + 1 + 1) 4 = true from free4 3)]
  rfl
theorem cnt4 : cnt 4 16 16 [0, 0, 0, 0, 0, 0, 0, 0, 0, 0, 0, 0, 0, 0, 0, 0] = 576 := by
  rw [cnt, cntV4, cnt4_1, cnt4_2, cnt4_3, cnt4_4]
def zeros (s : Int) : List Int := List.replicate (s.toNat * s.toNat) 0
def allSquares (s : Int) : List (List Int) := sols s.toNat (s.toNat * s.toNat) (s.toNat * s.toNat) (zeros s)
def squaresMany (s : Int) : Int := if s = 2 then 2 else if s = 3 then 12 else 576
theorem allSquares_len {s : Int} (h : sizeOkB s = true) : ((allSquares s).length : Int) = squaresMany s := by
  unfold allSquares
  rw [cnt_eq]
  rcases sizeOkB_iff.1 h with rfl | rfl | rfl
  · exact congrArg Int.ofNat cnt2
  · exact congrArg Int.ofNat cnt3
  · exact congrArg Int.ofNat cnt4
theorem rd_zeros (s : Int) (i : Nat) : rd (zeros s) (i : Int) = 0 := by
  rw [rd_nat]; unfold zeros
  rw [List.getD_eq_getElem?_getD, List.getElem?_replicate]
  split <;> rfl
theorem zeros_grid {s : Int} (h : sizeOkB s = true) : gridB (zeros s) s = true := by rcases sizeOkB_iff.1 h with rfl | rfl | rfl <;> decide +kernel
theorem zeros_fits (s : Int) : Fits (zeros s) s.toNat := by
  intro l _ i j _ _ _ hp; rw [rd_zeros] at hp; omega
theorem allSquares_ok {s : Int} (hs : sizeOkB s = true) {x : List Int} (h : x ∈ allSquares s) : gridB x s = true ∧ Fits x s.toNat ∧ ∀ i : Nat, i < s.toNat * s.toNat → 0 < rd x (i : Int) :=
  sols_ok hs _ _ (Nat.le_refl _) (zeros_grid hs) (zeros_fits s) (fun i _ => rd_zeros s i) (fun i hi => by omega) h
/-- The solved grid with a number. -/
def squareNumber (s m : Int) : List Int := if sizeOkB s = true ∧ 0 ≤ m then (allSquares s).getD m.toNat [] else []
theorem squareNumber_mem {s m : Int} (hs : sizeOkB s = true) (h0 : 0 ≤ m) (h1 : m < squaresMany s) : squareNumber s m ∈ allSquares s := by
  unfold squareNumber
  rw [if_pos ⟨hs, h0⟩]
  have hl := allSquares_len hs
  rw [List.getD_eq_getElem?_getD, List.getElem?_eq_getElem (by omega), Option.getD_some]
  exact List.getElem_mem _
theorem squareNumber_nil {s m : Int} (hs : sizeOkB s = true) (h1 : squaresMany s ≤ m) : squareNumber s m = [] := by
  unfold squareNumber
  have hl := allSquares_len hs
  split
  · rw [List.getD_eq_getElem?_getD, List.getElem?_eq_none (by omega)]; rfl
  · rfl
theorem squareNumber_len (s m : Int) : (squareNumber s m).length ≤ 16 := by
  by_cases h : sizeOkB s = true ∧ 0 ≤ m ∧ m < squaresMany s
  · exact gridB_le (allSquares_ok h.1 (squareNumber_mem h.1 h.2.1 h.2.2)).1
  · unfold squareNumber
    split
    · rename_i h2
      have := squareNumber_nil h2.1 (m := m) (Int.not_lt.1 (fun hlt => h ⟨h2.1, h2.2, hlt⟩))
      unfold squareNumber at this
      rw [if_pos h2] at this
      rw [this]; exact Nat.zero_le _
    · exact Nat.zero_le _

end Go.Proofs.Ytnocdmclcdfppaa.Pure
namespace Go.Proofs.Ytnocdmclcdfppaa.Pure
set_option linter.unusedSimpArgs false
set_option linter.unusedVariables false
open Go.RowKit Go.Proofs.YtnocdmclcdfppaaW.PrintWords Go.Proofs.YtnocdmclcdfppaaW.PrintMore Go.Proofs.Ytnocdmclcdfppaa.P

theorem xor_range {x y : Int} (hx : 0 ≤ x) (hx1 : x < 4611686018427387904) (hy : 0 ≤ y) (hy1 : y < 4611686018427387904) : 0 ≤ Go.bits .xor .i64 x y ∧ Go.bits .xor .i64 x y < 4611686018427387904 := by
  unfold Go.bits
  simp only [IntKind.wrap_i64]
  rw [BitVec.toNat_xor]
  have hb : IntKind.i64.bits = 64 := rfl
  rw [hb]
  have e1 : (BitVec.ofInt 64 x).toNat = x.toNat := by rw [BitVec.toNat_ofInt]; omega
  have e2 : (BitVec.ofInt 64 y).toNat = y.toNat := by rw [BitVec.toNat_ofInt]; omega
  rw [e1, e2]
  have := @Nat.xor_lt_two_pow x.toNat y.toNat 62 (by omega) (by omega)
  omega
/-- Bytes. -/
def Bytes (b : List Int) : Prop := b.length ≤ 2000 ∧ ∀ x ∈ b, 0 ≤ x ∧ x ≤ 255
theorem Bytes.rd {b : List Int} (h : Bytes b) (i : Int) : 0 ≤ rd b i ∧ rd b i ≤ 255 := by
  unfold Go.Proofs.YtnocdmclcdfppaaW.PrintWords.rd
  by_cases hi : i.toNat < b.length
  · have e : b.getD i.toNat 0 = b[i.toNat] := by simp [hi]
    rw [e]; exact h.2 _ (List.getElem_mem hi)
  · have e : b.getD i.toNat 0 = 0 := by simp [List.getElem?_eq_none (by omega : b.length ≤ i.toNat)]
    rw [e]; decide
theorem pick_ev {b : List Int} (hb : Bytes b) {p n : Int} (hp : 0 ≤ p) (hp1 : p ≤ 1000000) (hn : 1 ≤ n) : ∃ r, 0 ≤ r ∧ r < n ∧ Ev (fun k => spec_l20Rd_pick.f k b p n) (r, p + 1) := by
  unfold spec_l20Rd_pick.f
  have hw : wrap64 (p + 1) = p + 1 := w64 (by omega) (by omega)
  have hw1 : wrap64 (p + 1 - 1) = p := by rw [w64 (by omega) (by omega)]; omega
  have h1 : ¬ n < 1 := by omega
  have hn0 : ¬ n = 0 := by omega
  simp only [h1, if_false, hw]
  by_cases hl : b.length = 0
  · refine ⟨0, by omega, by omega, ?_⟩
    have e : ((b.length : Int) == 0) = true := by simp [hl]
    simp only [e]
    refine Ev.step (fun k => spec_l20Rd_pick.j0.eq_2 _ _ _ _ k) ?_
    simp only [if_true]
    exact Ev.now _
  · have e : ((b.length : Int) == 0) = false := by rw [beq_eq_false_iff_ne]; omega
    simp only [e]
    by_cases hk : p < (b.length : Int)
    · refine ⟨Int.tmod (rd b p) n, ?_, ?_, ?_⟩
      · exact Int.tmod_nonneg _ (hb.rd p).1
      · exact Int.tmod_lt_of_pos _ (by omega)
      · refine Ev.step (fun k => spec_l20Rd_pick.j0.eq_2 _ _ _ _ k) ?_
        have hr := hb.rd p
        simp only [Bool.false_eq_true, if_false, hw1, hk, if_true, hp, hn0, w64 (x := rd b p) (by omega) (by omega)]
        exact Ev.now _
    · have hL : ¬ (b.length : Int) = 0 := by omega
      have hLp : (0 : Int) < (b.length : Int) := by omega
      have hLm : (b.length : Int) ≤ 2000 := by have := hb.1; omega
      obtain ⟨L, hLe⟩ : ∃ L, L = (b.length : Int) := ⟨_, rfl⟩
      have hi0 : 0 ≤ Int.tmod p L := Int.tmod_nonneg _ hp
      have hi1 : Int.tmod p L < L := Int.tmod_lt_of_pos _ (by omega)
      have hw7 : wrap64 ((wrap64 (p * 7)) + 3) = p * 7 + 3 := by rw [w64 (x := p * 7) (by omega) (by omega), w64 (by omega) (by omega)]
      have hj0 : 0 ≤ Int.tmod (p * 7 + 3) L := Int.tmod_nonneg _ (by omega)
      have hj1 : Int.tmod (p * 7 + 3) L < L := Int.tmod_lt_of_pos _ (by omega)
      have hq0 : 0 ≤ Int.tdiv p L := Int.tdiv_nonneg hp (by omega)
      have hq1 : Int.tdiv p L ≤ p := by
        rw [Int.tdiv_eq_ediv_of_nonneg hp]; exact Int.ediv_le_self _ hp
      have ha := hb.rd (Int.tmod p L)
      have hc := hb.rd (Int.tmod (p * 7 + 3) L)
      obtain ⟨A, hA⟩ : ∃ A, A = rd b (Int.tmod p L) := ⟨_, rfl⟩
      obtain ⟨C, hC⟩ : ∃ C, C = rd b (Int.tmod (p * 7 + 3) L) := ⟨_, rfl⟩
      obtain ⟨Q, hQ⟩ : ∃ Q, Q = Int.tdiv p L := ⟨_, rfl⟩
      rw [← hA] at ha
      rw [← hC] at hc
      rw [← hQ] at hq0 hq1
      have hX : wrap64 ((wrap64 ((wrap64 ((wrap64 ((wrap64 A) * 131)) + (wrap64 ((wrap64 C) * 1117)))) + (wrap64 (p * 29)))) + (wrap64 ((wrap64 Q) * 53))) = A * 131 + C * 1117 + p * 29 + Q * 53 := by
        rw [w64 (x := A) (by omega) (by omega), w64 (x := C) (by omega) (by omega), w64 (x := Q) (by omega) (by omega), w64 (x := A * 131) (by omega) (by omega), w64 (x := C * 1117) (by omega) (by omega), w64 (x := p * 29) (by omega) (by omega), w64 (x := Q * 53) (by omega) (by omega)]
        rw [w64 (x := A * 131 + C * 1117) (by omega) (by omega), w64 (x := A * 131 + C * 1117 + p * 29) (by omega) (by omega), w64 (by omega) (by omega)]
      obtain ⟨X, hXe⟩ : ∃ X, X = A * 131 + C * 1117 + p * 29 + Q * 53 := ⟨_, rfl⟩
      have hX0 : 0 ≤ X := by omega
      have hX1 : X < 1000000000000 := by omega
      have hD0 : 0 ≤ Int.tdiv X 64 := Int.tdiv_nonneg hX0 (by omega)
      have hD1 : Int.tdiv X 64 ≤ X := by rw [Int.tdiv_eq_ediv_of_nonneg hX0]; exact Int.ediv_le_self _ hX0
      have hxr := xor_range hX0 (by omega) hD0 (by omega)
      rw [← hLe] at hk hL
      refine ⟨Int.tmod (Go.bits .xor .i64 X (Int.tdiv X 64)) n, Int.tmod_nonneg _ hxr.1, Int.tmod_lt_of_pos _ (by omega), ?_⟩
      refine Ev.step (fun k => spec_l20Rd_pick.j0.eq_2 _ _ _ _ k) ?_
      simp only [Bool.false_eq_true, if_false, hw1, hk, hL, ← hLe, hi0, hi1, if_true, hw7, hj0, hj1, hn0, ← hA, ← hC, ← hQ, hX, ← hXe, w64 (x := Int.tdiv X 64) (by omega) (by omega)]
      exact Ev.now _
theorem open_eq (l : List Int) (hl : ∀ x ∈ l, (Lit.int .u8 x).wf = true) : ∃ b, Bytes b ∧ spec_l20Open.f l = some (b, 0) := by
  have hw : ∀ x ∈ l, 0 ≤ x ∧ x ≤ 255 := fun x hx => bounds_u8 (hl x hx)
  unfold spec_l20Open.f
  by_cases h : (l.length : Int) > 2000
  · have h2 : 2000 ≤ (l.length : Int) := by omega
    refine ⟨l.take 2000, ⟨by rw [List.length_take]; omega, fun x hx => hw x (List.mem_of_mem_take hx)⟩, ?_⟩
    simp only [h, h2, if_true]
  · refine ⟨l, ⟨by omega, hw⟩, ?_⟩
    simp only [h, if_false]

end Go.Proofs.Ytnocdmclcdfppaa.Pure
namespace Go.Proofs.Ytnocdmclcdfppaa.Pure
set_option linter.unusedSimpArgs false
set_option linter.unusedVariables false
open Go.RowKit Go.Proofs.YtnocdmclcdfppaaW.PrintWords Go.Proofs.YtnocdmclcdfppaaW.PrintMore Go.Proofs.Ytnocdmclcdfppaa.P

theorem odd_ev {b : List Int} (hb : Bytes b) {p n : Int} (hp : 0 ≤ p) (hp1 : p ≤ 1000000) (hn : 1 ≤ n) (hn1 : n ≤ 1000000) : ∃ r, Ev (fun k => spec_l20Rd_odd.f k b p n) (r, p + 1) := by
  obtain ⟨r, _, _, h⟩ := pick_ev hb hp hp1 hn
  refine ⟨r == wrap64 (n - 1), ?_⟩
  unfold spec_l20Rd_odd.f
  have h1 : n > 0 := by omega
  simp only [h1, if_true]
  refine Ev.bind h ?_
  exact Ev.now _
def SizeDraw (s : Int) : Prop := s = 1 ∨ s = 5 ∨ s = -1 ∨ s = 2 ∨ s = 3 ∨ s = 4
theorem size_ev {b : List Int} (hb : Bytes b) {p n : Int} (hp : 0 ≤ p) (hp1 : p ≤ 900000) (hn : 1 ≤ n) (hn1 : n ≤ 1000000) : ∃ s, SizeDraw s ∧ Ev (fun k => spec_l20Size.f k b p n) (s, p + 1 + 1) := by
  obtain ⟨r, hr⟩ := odd_ev hb hp (by omega) hn hn1
  cases r with
  | true =>
    obtain ⟨i, h0, h1, hi⟩ := pick_ev hb (p := p + 1) (n := 3) (by omega) (by omega) (by decide)
    refine ⟨rd [1, 5, -1] i, ?_, ?_⟩
    · have : i = 0 ∨ i = 1 ∨ i = 2 := by omega
      unfold SizeDraw
      rcases this with rfl | rfl | rfl <;> decide
    · unfold spec_l20Size.f
      refine Ev.bind hr ?_
      simp only [if_true, Option.bind_some]
      refine Ev.bind hi ?_
      have h2 : i < (([1, 5, -1] : List Int).length : Int) := by simp; omega
      simp only [h0, h2, if_true]
      exact Ev.now _
  | false =>
    obtain ⟨i, h0, h1, hi⟩ := pick_ev hb (p := p + 1) (n := 5) (by omega) (by omega) (by decide)
    refine ⟨rd [2, 3, 3, 4, 4] i, ?_, ?_⟩
    · have : i = 0 ∨ i = 1 ∨ i = 2 ∨ i = 3 ∨ i = 4 := by omega
      unfold SizeDraw
      rcases this with rfl | rfl | rfl | rfl | rfl <;> decide
    · unfold spec_l20Size.f
      refine Ev.bind hr ?_
      simp only [Bool.false_eq_true, if_false, Option.bind_some]
      refine Ev.bind hi ?_
      have h2 : i < (([2, 3, 3, 4, 4] : List Int).length : Int) := by simp; omega
      simp only [h0, h2, if_true]
      exact Ev.now _

end Go.Proofs.Ytnocdmclcdfppaa.Pure
namespace Go.Proofs.Ytnocdmclcdfppaa.Pure
set_option linter.unusedSimpArgs false
set_option linter.unusedVariables false
open Go.RowKit Go.Proofs.YtnocdmclcdfppaaW.PrintWords Go.Proofs.YtnocdmclcdfppaaW.PrintMore Go.Proofs.Ytnocdmclcdfppaa.P

theorem l1In_eq (a b c : Int) : spec_l1In.f a b c = some (decide (b ≤ a ∧ a ≤ c)) := by
  unfold spec_l1In.f
  by_cases h : a ≥ b
  · have h' : b ≤ a := h
    simp [h']
  · have h' : ¬ b ≤ a := h
    simp [h']
theorem sizeOk_eq (a : Int) : impl_sizeOk.f a = some (sizeOkB a) := by
  unfold impl_sizeOk.f sizeOkB
  by_cases h : a ≥ 2
  · have h' : 2 ≤ a := h
    simp [h']
  · have h' : ¬ 2 ≤ a := h
    simp [h']
theorem allValues_eq {s : Int} (h : sizeOkB s = true) : impl_allValues.f s = some (allM s) := by
  rcases sizeOkB_iff.1 h with rfl | rfl | rfl <;> decide +kernel

end Go.Proofs.Ytnocdmclcdfppaa.Pure
namespace Go.Proofs.Ytnocdmclcdfppaa.Pure
set_option linter.unusedSimpArgs false
set_option linter.unusedVariables false
open Go.RowKit Go.Proofs.YtnocdmclcdfppaaW.PrintWords Go.Proofs.YtnocdmclcdfppaaW.PrintMore Go.Proofs.Ytnocdmclcdfppaa.P

theorem specGridValid_ev (g : List Int) (s : Int) (h : g.length ≤ 35184372088832) : Ev (fun k => spec_GridValid.f k g s) (gridB g s) := by
  unfold spec_GridValid.f
  have := Ev.range0 (L := fun k i => spec_GridValid.l0 k g s i) (R := fun n => (g.drop n).all (fun v => decide (0 ≤ v ∧ v ≤ s)) && (sizeOkB s && decide ((g.length : Int) = s * s))) (N := g.length) ?_ ?_ 0 (Nat.zero_le _)
  · have e : gridB g s = ((g.drop 0).all (fun v => decide (0 ≤ v ∧ v ≤ s)) && (sizeOkB s && decide ((g.length : Int) = s * s))) := by
      unfold gridB; rw [List.drop_zero]; cases sizeOkB s <;> cases decide ((g.length : Int) = s * s) <;> simp
    rw [e]; simpa using this
  · refine Ev.step (fun k => spec_GridValid.l0.eq_2 _ _ _ k) ?_
    simp only [Int.lt_irrefl, if_false, l1In_eq, Option.bind_some, List.drop_length, List.all_nil, Bool.true_and]
    by_cases hs : sizeOkB s = true
    · have hs' : decide (2 ≤ s ∧ s ≤ 4) = true := hs
      have hw : wrap64 (s * s) = s * s := by rcases sizeOkB_iff.1 hs with rfl | rfl | rfl <;> decide +kernel
      simp only [hs', if_true, hs, hw, Bool.true_and]
      have e : ((g.length : Int) == s * s) = decide ((g.length : Int) = s * s) := by
        by_cases h : (g.length : Int) = s * s <;> simp [h]
      rw [e]; exact Ev.now _
    · have hs' : ¬ decide (2 ≤ s ∧ s ≤ 4) = true := hs
      simp only [hs', hs, if_false, Bool.false_and, eq_false_of_ne_true hs, Bool.false_eq_true]
      exact Ev.now _
  · intro n hn ih
    refine Ev.step (fun k => spec_GridValid.l0.eq_2 _ _ _ k) ?_
    have h1 : (n : Int) < (g.length : Int) := by omega
    have h3 : (0 : Int) ≤ n := by omega
    rw [drop_cons hn]
    simp only [h1, h3, if_true, rd_lt hn, l1In_eq, Option.bind_some, List.all_cons]
    by_cases hv : decide (0 ≤ g[n] ∧ g[n] ≤ s) = true
    · simp only [hv, if_true, w64n (by omega : n < 9000000000000000000), Bool.true_and]
      exact ih
    · simp only [hv, if_false, eq_false_of_ne_true hv, Bool.false_and, Bool.false_eq_true]
      exact Ev.now _
theorem implGridValid_ev (g : List Int) (s : Int) (h : g.length ≤ 35184372088832) : Ev (fun k => impl_GridValid.f k g s) (gridB g s) := by
  unfold impl_GridValid.f
  simp only [sizeOk_eq, Option.bind_some]
  by_cases hs : sizeOkB s = true
  · have hw : wrap64 (s * s) = s * s := by rcases sizeOkB_iff.1 hs with rfl | rfl | rfl <;> decide +kernel
    simp only [hs, if_true, hw]
    refine Ev.step (fun k => impl_GridValid.j0.eq_2 _ _ _ k) ?_
    by_cases hl : (g.length : Int) = s * s
    · have e : ((g.length : Int) != s * s) = false := by simp [hl]
      simp only [e, Bool.false_eq_true, if_false]
      have := Ev.range0 (L := fun k i => impl_GridValid.l0 k s g (g.length : Int) i) (R := fun n => (g.drop n).all (fun v => decide (0 ≤ v ∧ v ≤ s))) (N := g.length) ?_ ?_ 0 (Nat.zero_le _)
      · have e : gridB g s = (g.drop 0).all (fun v => decide (0 ≤ v ∧ v ≤ s)) := by
          unfold gridB; rw [List.drop_zero, hs, hl]; simp
        rw [e]; simpa using this
      · refine Ev.step (fun k => impl_GridValid.l0.eq_2 _ _ _ _ k) ?_
        simp only [Int.lt_irrefl, if_false, List.drop_length, List.all_nil]
        exact Ev.now _
      · intro n hn ih
        refine Ev.step (fun k => impl_GridValid.l0.eq_2 _ _ _ _ k) ?_
        have h1 : (n : Int) < (g.length : Int) := by omega
        have h3 : (0 : Int) ≤ n := by omega
        rw [drop_cons hn]
        simp only [h1, h3, if_true, rd_lt hn, List.all_cons]
        by_cases ha : g[n] < 0
        · have : decide (0 ≤ g[n] ∧ g[n] ≤ s) = false := decide_eq_false (by omega)
          simp only [ha, if_true, this, Bool.false_and]
          exact Ev.now _
        · by_cases hb : g[n] > s
          · have : decide (0 ≤ g[n] ∧ g[n] ≤ s) = false := decide_eq_false (by omega)
            simp only [ha, hb, if_true, if_false, this, Bool.false_and]
            exact Ev.now _
          · have : decide (0 ≤ g[n] ∧ g[n] ≤ s) = true := decide_eq_true (by omega)
            simp only [ha, hb, if_false, this, Bool.true_and, w64n (by omega : n < 9000000000000000000)]
            exact ih
    · have e : ((g.length : Int) != s * s) = true := by simp [hl]
      have e2 : gridB g s = false := by unfold gridB; simp [hl]
      simp only [e, if_true, e2]
      exact Ev.now _
  · have e2 : gridB g s = false := by unfold gridB; simp [hs]
    simp only [hs, if_false, e2, Bool.false_eq_true]
    refine Ev.step (fun k => impl_GridValid.j0.eq_2 _ _ _ k) ?_
    simp only [if_true]
    exact Ev.now _

end Go.Proofs.Ytnocdmclcdfppaa.Pure
namespace Go.Proofs.Ytnocdmclcdfppaa.Pure
set_option linter.unusedSimpArgs false
set_option linter.unusedVariables false
open Go.RowKit Go.Proofs.YtnocdmclcdfppaaW.PrintWords Go.Proofs.YtnocdmclcdfppaaW.PrintMore Go.Proofs.Ytnocdmclcdfppaa.P

theorem specLineCells_ev (s l : Int) : Ev (fun k => spec_LineCells.f k s l) (lineC s l) := by
  by_cases h : lineOkB s l = true
  · rcases lineOkB_cases h with ⟨rfl, hc⟩ | ⟨rfl, hc⟩ | ⟨rfl, hc⟩
    · rcases hc with rfl | rfl | rfl | rfl <;> exact Ev.of (spec_LineCells.mono _ _) (k := 20) (by decide +kernel)
    · rcases hc with rfl | rfl | rfl | rfl | rfl | rfl <;> exact Ev.of (spec_LineCells.mono _ _) (k := 20) (by decide +kernel)
    · rcases hc with rfl | rfl | rfl | rfl | rfl | rfl | rfl | rfl <;> exact Ev.of (spec_LineCells.mono _ _) (k := 20) (by decide +kernel)
  · have e : lineC s l = [] := by unfold lineC; rw [if_neg h]
    rw [e]
    unfold spec_LineCells.f
    have hj : Ev (fun k => spec_LineCells.j1 k s l [] 0 false) ([] : List Int) := by
      refine Ev.step (fun k => spec_LineCells.j1.eq_2 _ _ _ _ _ k) ?_
      simp only [Bool.false_eq_true, if_false]
      exact Ev.now _
    refine Ev.step (fun k => spec_LineCells.l0.eq_2 _ _ _ _ k) ?_
    by_cases h0 : 0 < s
    · simp only [h0, if_true, l1In_eq, Option.bind_some]
      by_cases hs : 2 ≤ s ∧ s ≤ 4
      · have hw : wrap64 (wrap64 (2 * s) - 1) = 2 * s - 1 := by rw [w64 (x := 2 * s) (by omega) (by omega), w64 (by omega) (by omega)]
        have hn : ¬ (0 ≤ l ∧ l ≤ 2 * s - 1) := by
          intro hl; apply h; unfold lineOkB sizeOkB; simp only [Bool.and_eq_true, decide_eq_true_eq]; exact ⟨hs, hl.1, by omega⟩
        simp only [decide_eq_true hs, if_true, hw, decide_eq_false hn]
        exact hj
      · simp only [decide_eq_false hs, Bool.false_eq_true, if_false]
        exact hj
    · simp only [h0, if_false]
      exact hj
theorem implLineCells_ev (s l : Int) : Ev (fun k => impl_LineCells.f k s l) (lineC s l) := by
  by_cases h : lineOkB s l = true
  · rcases lineOkB_cases h with ⟨rfl, hc⟩ | ⟨rfl, hc⟩ | ⟨rfl, hc⟩
    · rcases hc with rfl | rfl | rfl | rfl <;> exact Ev.of (impl_LineCells.mono _ _) (k := 20) (by decide +kernel)
    · rcases hc with rfl | rfl | rfl | rfl | rfl | rfl <;> exact Ev.of (impl_LineCells.mono _ _) (k := 20) (by decide +kernel)
    · rcases hc with rfl | rfl | rfl | rfl | rfl | rfl | rfl | rfl <;> exact Ev.of (impl_LineCells.mono _ _) (k := 20) (by decide +kernel)
  · have e : lineC s l = [] := by unfold lineC; rw [if_neg h]
    rw [e]
    unfold impl_LineCells.f
    simp only [sizeOk_eq, Option.bind_some]
    have hj : Ev (fun k => impl_LineCells.j0 k s l true) ([] : List Int) := by
      refine Ev.step (fun k => impl_LineCells.j0.eq_2 _ _ _ k) ?_
      simp only [if_true]
      exact Ev.now _
    by_cases hs : sizeOkB s = true
    · simp only [hs, if_true]
      by_cases h0 : l < 0
      · simp only [h0, if_true]; exact hj
      · have hs2 : 2 ≤ s ∧ s ≤ 4 := by simpa [sizeOkB] using hs
        have hw : wrap64 (2 * s) = 2 * s := w64 (by omega) (by omega)
        have hl : l ≥ 2 * s := by
          apply Decidable.byContradiction
          intro hl; apply h; unfold lineOkB; rw [hs]; simp only [Bool.true_and, decide_eq_true_eq]; omega
        simp only [h0, if_false, hw, decide_eq_true hl]; exact hj
    · simp only [hs, if_false, Bool.false_eq_true]; exact hj

end Go.Proofs.Ytnocdmclcdfppaa.Pure
namespace Go.Proofs.Ytnocdmclcdfppaa.Pure
set_option linter.unusedSimpArgs false
set_option linter.unusedVariables false
open Go.RowKit Go.Proofs.YtnocdmclcdfppaaW.PrintWords Go.Proofs.YtnocdmclcdfppaaW.PrintMore

def haveL (m g : List Int) : Bool := (List.zip g m).all (fun p => has p.2 p.1)
def masksHave (m : List Int) (s : Int) (g : List Int) : Bool := masksB m s && (gridB g s && haveL m g)
theorem size_le4 {s : Int} (h : sizeOkB s = true) : 2 ≤ s ∧ s ≤ 4 := by rcases sizeOkB_iff.1 h with rfl | rfl | rfl <;> decide
theorem allM_le {s : Int} (h : sizeOkB s = true) : 0 ≤ allM s ∧ allM s ≤ 30 := by rcases sizeOkB_iff.1 h with rfl | rfl | rfl <;> decide
theorem mask_le {m : List Int} {s : Int} (h : masksB m s = true) {x : Int} (hx : x ∈ m) : 0 ≤ x ∧ x ≤ 30 := by
  have h1 := masksB_mem h x hx
  have h2 := allM_le (masksB_size h)
  omega
theorem val_le {g : List Int} {s : Int} (h : gridB g s = true) {x : Int} (hx : x ∈ g) : 0 ≤ x ∧ x ≤ 4 := by
  have h1 := gridB_mem h x hx
  have h2 := size_le4 (gridB_size h)
  omega
theorem zip_drop_cons {g m : List Int} {n : Nat} (hg : n < g.length) (hm : n < m.length) : List.zip (g.drop n) (m.drop n) = (g[n], m[n]) :: List.zip (g.drop (n + 1)) (m.drop (n + 1)) := by
  rw [drop_cons hg, drop_cons hm, List.zip_cons_cons]

end Go.Proofs.Ytnocdmclcdfppaa.Pure
namespace Go.Proofs.Ytnocdmclcdfppaa.Pure
set_option linter.unusedSimpArgs false
set_option linter.unusedVariables false
open Go.RowKit Go.Proofs.YtnocdmclcdfppaaW.PrintWords Go.Proofs.YtnocdmclcdfppaaW.PrintMore Go.Proofs.Ytnocdmclcdfppaa.P

theorem orbit_fin : ∀ m : Fin 32, ∀ v : Fin 5, (0 ≤ Go.bits .or .i64 (m.val : Int) (shl .i64 1 (v.val : Int)) ∧ Go.bits .or .i64 (m.val : Int) (shl .i64 1 (v.val : Int)) ≤ 31) ∧ ∀ u : Fin 5, has (Go.bits .or .i64 (m.val : Int) (shl .i64 1 (v.val : Int))) (u.val : Int) = (decide (u = v) || has (m.val : Int) (u.val : Int)) := by decide +kernel
theorem tmod31_fin : ∀ m : Fin 32, ∀ v : Fin 5, Int.tmod (shr .i64 (m.val : Int) (v.val : Int)) 2 = (if has (m.val : Int) (v.val : Int) = true then 1 else 0) := by decide +kernel
/-- A mask that tells what has been seen. -/
def Seen (m : Int) (seen : List Int) : Prop := 0 ≤ m ∧ m ≤ 31 ∧ ∀ u : Int, 0 ≤ u → u ≤ 4 → (has m u = true ↔ u ∈ seen)
theorem Seen.start : Seen 0 [] := ⟨by decide, by decide, fun u h0 h1 => by
  have : has 0 u = false := by unfold has; simp
  simp [this]⟩
theorem Seen.step {m v : Int} {seen : List Int} (h : Seen m seen) (hv : 0 ≤ v ∧ v ≤ 4) : Seen (Go.bits .or .i64 m (shl .i64 1 v)) (v :: seen) := by
  obtain ⟨h0, h1, h2⟩ := h
  have hf := orbit_fin ⟨m.toNat, by omega⟩ ⟨v.toNat, by omega⟩
  simp only [show ((m.toNat : Nat) : Int) = m by omega, show ((v.toNat : Nat) : Int) = v by omega] at hf
  refine ⟨hf.1.1, hf.1.2, fun u hu0 hu1 => ?_⟩
  have hg := hf.2 ⟨u.toNat, by omega⟩
  simp only [show ((u.toNat : Nat) : Int) = u by omega, Fin.mk.injEq] at hg
  rw [hg, List.mem_cons, Bool.or_eq_true, h2 u hu0 hu1, decide_eq_true_iff]
  constructor
  · rintro (h | h)
    · exact .inl (by omega)
    · exact .inr h
  · rintro (h | h)
    · exact .inl (by omega)
    · exact .inr h
theorem Seen.tmod {m v : Int} {seen : List Int} (h : Seen m seen) (hv : 0 ≤ v ∧ v ≤ 4) : (Int.tmod (shr .i64 m v) 2 = 1) ↔ v ∈ seen := by
  obtain ⟨h0, h1, h2⟩ := h
  have hf := tmod31_fin ⟨m.toNat, by omega⟩ ⟨v.toNat, by omega⟩
  simp only [show ((m.toNat : Nat) : Int) = m by omega, show ((v.toNat : Nat) : Int) = v by omega] at hf
  rw [hf, ← h2 v hv.1 hv.2]
  by_cases hh : has m v = true <;> simp [hh]
theorem l2Clash_ev {g : List Int} {s : Int} (hg : gridB g s = true) : Ev (fun k => spec_l2Clash.f k g s) (linesClash g s 0 (2 * s.toNat)) := by
  unfold spec_l2Clash.f
  obtain ⟨hsn, hs2, hs4⟩ := size_nat (gridB_size hg)
  have hw : wrap64 (2 * s) = ((2 * s.toNat : Nat) : Int) := by unfold wrap64; omega
  have hlen := gridB_len hg
  refine Ev.range0 (L := fun k i => spec_l2Clash.l0 k g s i) (R := fun n => linesClash g s n (2 * s.toNat - n)) (N := 2 * s.toNat) ?_ ?_ 0 (Nat.zero_le _)
  · refine Ev.step (fun k => spec_l2Clash.l0.eq_2 _ _ _ k) ?_
    simp only [hw, Int.lt_irrefl, if_false, Nat.sub_self, linesClash]
    exact Ev.now _
  · intro n hn ih
    refine Ev.step (fun k => spec_l2Clash.l0.eq_2 _ _ _ k) ?_
    have h1 : (n : Int) < ((2 * s.toNat : Nat) : Int) := by omega
    simp only [hw, h1, if_true]
    refine Ev.bind (specLineCells_ev s n) ?_
    have e : 2 * s.toNat - n = (2 * s.toNat - (n + 1)) + 1 := by omega
    rw [e, linesClash]
    have hb := lineC_len s n
    have := Ev.range (L := fun k (x : Int) i => spec_l2Clash.l1 k g s n (lineC s n) x i) (R := fun _ _ => clashL g (lineC s n) [] || linesClash g s (n + 1) (2 * s.toNat - (n + 1))) (N := (lineC s n).length)
      (fun x j => ∃ seen, Seen x seen ∧ clashL g (lineC s n) [] = clashL g ((lineC s n).drop j) seen) ?_ ?_ 0 0 (Nat.zero_le _) ⟨[], Seen.start, by simp⟩
    · simpa using this
    · rintro x ⟨seen, hx, he⟩
      refine Ev.step (fun k => spec_l2Clash.l1.eq_2 _ _ _ _ _ _ k) ?_
      have e2 : clashL g (lineC s n) [] = false := by rw [he, List.drop_length]; rfl
      simp only [Int.lt_irrefl, if_false, e2, Bool.false_or, w64n (by omega : n < 9000000000000000000)]
      exact ih
    · rintro x j hj ⟨seen, hx, he⟩ ihj
      refine Ev.step (fun k => spec_l2Clash.l1.eq_2 _ _ _ _ _ _ k) ?_
      have hc := lineC_mem (lineC s n)[j] (List.getElem_mem hj)
      have h2 : (j : Int) < ((lineC s n).length : Int) := by omega
      have h3 : (0 : Int) ≤ j := by omega
      have h5 : (lineC s n)[j] < (g.length : Int) := by rw [hlen]; exact hc.2
      have hv := val_le hg (rd_mem hc.1 h5)
      rw [drop_cons hj, clashL] at he
      simp only [h2, h3, if_true, rd_lt hj, hc.1, h5, hv.1, w64n (by omega : j < 9000000000000000000)]
      have hstep : ¬ (0 < rd g (lineC s n)[j] ∧ rd g (lineC s n)[j] ∈ seen) → Ev (fun k => spec_l2Clash.l1 k g s n (lineC s n) (Go.bits .or .i64 x (shl .i64 1 (rd g (lineC s n)[j]))) ((j + 1 : Nat) : Int)) (clashL g (lineC s n) [] || linesClash g s (n + 1) (2 * s.toNat - (n + 1))) := by
        intro hn
        rw [if_neg hn] at he
        exact ihj _ ⟨_, hx.step hv, he⟩
      by_cases hp : 0 < rd g (lineC s n)[j]
      · have hp' : rd g (lineC s n)[j] > 0 := hp
        simp only [hp', if_true]
        by_cases ht : Int.tmod (shr .i64 x (rd g (lineC s n)[j])) 2 = 1
        · simp only [ht, if_true]
          rw [if_pos ⟨hp, (hx.tmod hv).1 ht⟩] at he
          rw [he]; exact Ev.now _
        · simp only [ht, if_false]
          exact hstep (fun h => ht ((hx.tmod hv).2 h.2))
      · have hp' : ¬ rd g (lineC s n)[j] > 0 := hp
        simp only [hp', if_false]
        exact hstep (fun h => hp h.1)
theorem specSquareFits_ev (g : List Int) (s : Int) (h : g.length ≤ 35184372088832) : Ev (fun k => spec_SquareFits.f k g s) (squareFits g s) := by
  unfold spec_SquareFits.f squareFits
  refine Ev.bind (specGridValid_ev g s h) ?_
  by_cases hg : gridB g s = true
  · simp only [hg, if_true, Bool.true_and]
    refine Ev.bind (l2Clash_ev hg) ?_
    exact Ev.now _
  · simp only [hg, if_false, eq_false_of_ne_true hg, Bool.false_and, Bool.false_eq_true]
    exact Ev.now _

end Go.Proofs.Ytnocdmclcdfppaa.Pure
namespace Go.Proofs.Ytnocdmclcdfppaa.Pure
set_option linter.unusedSimpArgs false
set_option linter.unusedVariables false
open Go.RowKit Go.Proofs.YtnocdmclcdfppaaW.PrintWords Go.Proofs.YtnocdmclcdfppaaW.PrintMore Go.Proofs.Ytnocdmclcdfppaa.P

theorem clash_free {g : List Int} {s : Int} {i : Nat} {v : Int} (hg : gridB g s = true) (hi : i < s.toNat * s.toNat) (hz : rd g (i : Nat) = 0) (hv : 0 < v) (hvs : v ≤ s) (hf : Fits g s.toNat) : linesClash (g.set i v) s 0 (2 * s.toNat) = !freeB g s.toNat i v s.toNat := by
  have hg2 := grid_set hg i (by omega : 0 ≤ v) hvs
  obtain ⟨hn, hs⟩ := size_or (gridB_size hg)
  have h1 := squareFits_iff hg2
  have h2 := fits_set hn (grid_len hg) hi hz hv hf
  unfold squareFits at h1
  rw [hg2, Bool.true_and, h2] at h1
  clear h2
  generalize linesClash (g.set i v) s 0 (2 * s.toNat) = A at h1 ⊢
  generalize freeB g s.toNat i v s.toNat = B at h1 ⊢
  revert h1
  cases A <;> cases B <;> decide
theorem l2Search_ev {s : Int} (hs : sizeOkB s = true) : ∀ (d : Nat) (g : List Int) (left : Int), d ≤ s.toNat * s.toNat → gridB g s = true → Fits g s.toNat → (∀ i : Nat, s.toNat * s.toNat - d ≤ i → rd g (i : Int) = 0) → 0 ≤ left → left ≤ 9223372036854775807 → Ev (fun k => spec_l2Search.f k g s ((s.toNat * s.toNat - d : Nat) : Int) left) (srch s.toNat (s.toNat * s.toNat) d g left)
  | 0, g, left, _, hg, _, _, h0, h1 => by
    refine Ev.step (fun k => spec_l2Search.f.eq_2 _ _ _ _ k) ?_
    have hlen := grid_len hg
    have e : ((s.toNat * s.toNat - 0 : Nat) : Int) = (g.length : Int) := by omega
    simp only [e, if_true]
    unfold srch
    by_cases hz : left = 0
    · simp only [hz, if_true]; exact Ev.now _
    · simp only [hz, if_false]
      rw [w64 (x := left - 1) (by omega) (by omega)]
      exact Ev.now _
  | d + 1, g, left, hd, hg, hf, hz, h0, h1 => by
    refine Ev.step (fun k => spec_l2Search.f.eq_2 _ _ _ _ k) ?_
    have hlen := grid_len hg
    obtain ⟨hn, hsn⟩ := size_or hs
    have e : ¬ ((s.toNat * s.toNat - (d + 1) : Nat) : Int) = (g.length : Int) := by omega
    have hpos : 0 < g.length := by omega
    simp only [e, if_false]
    unfold srch
    obtain ⟨n, hnn⟩ : ∃ n, s.toNat = n := ⟨_, rfl⟩
    obtain ⟨i, hi⟩ : ∃ i, s.toNat * s.toNat - (d + 1) = i := ⟨_, rfl⟩
    have hi16 : i < 16 ∧ i < g.length ∧ i + (d + 1) = s.toNat * s.toNat := by
      have := gridB_le hg; omega
    rw [hi]
    have := Ev.range (L := fun k (x : Int) j => spec_l2Search.l0 k g s (i : Int) (j + 1) x) (R := fun x j => trV (srch s.toNat (s.toNat * s.toNat) d) g s.toNat i ((j : Int) + 1) (s.toNat - j) x) (N := s.toNat) (fun x j => 0 ≤ x ∧ x ≤ 9223372036854775807) ?_ ?_ left 0 (Nat.zero_le _) ⟨h0, h1⟩
    · simpa using this
    · rintro x ⟨hx0, hx1⟩
      refine Ev.step (fun k => spec_l2Search.l0.eq_2 _ _ _ _ _ k) ?_
      have h1 : ¬ ((s.toNat : Nat) : Int) + 1 ≤ s := by omega
      simp only [h1, if_false, Nat.sub_self, trV]
      exact Ev.now _
    · rintro x j hj ⟨hx0, hx1⟩ ih
      refine Ev.step (fun k => spec_l2Search.l0.eq_2 _ _ _ _ _ k) ?_
      have h1 : (j : Int) + 1 ≤ s := by omega
      have h2 : (0 : Int) ≤ (i : Int) := by omega
      have h3 : (i : Int) < (g.length : Int) := by omega
      have h16 := gridB_le hg
      have h4 : ([] : List Int).length + g.length < 17592186044416 := by simp; omega
      have hilt : i < s.toNat * s.toNat := by omega
      have hj1 : 0 < (j : Int) + 1 := by omega
      simp only [h1, if_true, Option.bind_some, h4, List.nil_append, h2, h3, Int.toNat_natCast]
      have hgs := grid_set hg i (by omega : 0 ≤ (j : Int) + 1) h1
      refine Ev.bind (l2Clash_ev hgs) ?_
      have hzi : rd g (i : Int) = 0 := hz i (by omega)
      rw [clash_free hg hilt hzi hj1 h1 hf]
      have hstep : s.toNat - j = (s.toNat - (j + 1)) + 1 := by omega
      rw [hstep, trV]
      have hw : wrap64 ((j : Int) + 1 + 1) = ((j + 1 : Nat) : Int) + 1 := by unfold wrap64; omega
      have hcast : (((j + 1 : Nat) : Int)) = (j : Int) + 1 := by omega
      cases hb : freeB g s.toNat i ((j : Int) + 1) s.toNat with
      | false =>
        simp only [Bool.not_false, if_true, Bool.false_eq_true, if_false, hw]
        exact ih x ⟨hx0, hx1⟩
      | true =>
        simp only [Bool.not_true, if_true, Bool.false_eq_true, if_false]
        have hfs : Fits (g.set i ((j : Int) + 1)) s.toNat := (fits_set hn hlen hilt hzi hj1 hf).2 hb
        have hrec := l2Search_ev hs d (g.set i ((j : Int) + 1)) x (Nat.le_of_succ_le hd) hgs hfs (fun i' hi' => by rw [rd_set_ne (by clear hw hcast ih; omega)]; exact hz i' (by clear hw hcast ih; omega)) hx0 hx1
        have hwi : wrap64 ((i : Int) + 1) = ((s.toNat * s.toNat - d : Nat) : Int) := by
          clear hw hcast ih
          rw [w64n (by omega)]; omega
        rw [hwi]
        refine Ev.bind hrec ?_
        have hl := srch_left (n := s.toNat) (N := s.toNat * s.toNat) (d := d) (g := g.set i ((j : Int) + 1)) (left := x) (by rw [List.length_set]; exact hpos) hx0
        by_cases hp : 0 < (srch s.toNat (s.toNat * s.toNat) d (g.set i ((j : Int) + 1)) x).1.length
        · have hp2 : ((srch s.toNat (s.toNat * s.toNat) d (g.set i ((j : Int) + 1)) x).1.length : Int) > 0 := by omega
          simp only [hp, hp2, if_true]
          exact Ev.now _
        · have hp2 : ¬ ((srch s.toNat (s.toNat * s.toNat) d (g.set i ((j : Int) + 1)) x).1.length : Int) > 0 := by omega
          simp only [hp, hp2, if_false, hw]
          exact ih _ ⟨hl.1, by omega⟩
theorem specSquareNumber_ev (s m : Int) (h : m ≤ 9223372036854775807) : Ev (fun k => spec_SquareNumber.f k s m) (squareNumber s m) := by
  unfold spec_SquareNumber.f squareNumber
  by_cases hc : 2 ≤ s ∧ s ≤ 4 ∧ 0 ≤ m
  · have hs : sizeOkB s = true := by unfold sizeOkB; rw [decide_eq_true_iff]; exact ⟨hc.1, hc.2.1⟩
    rw [if_pos ⟨hs, hc.2.2⟩]
    simp only [hc, and_self, if_true]
    obtain ⟨hn, hsn⟩ := size_or hs
    have e : List.replicate (wrap64 (s * s)).toNat (0 : Int) = zeros s := by
      unfold zeros
      have : (wrap64 (s * s)).toNat = s.toNat * s.toNat := by rcases sizeOkB_iff.1 hs with rfl | rfl | rfl <;> decide +kernel
      rw [this]
    rw [e]
    have hz0 : (0 : Int) = ((s.toNat * s.toNat - s.toNat * s.toNat : Nat) : Int) := by omega
    have := l2Search_ev hs (s.toNat * s.toNat) (zeros s) m (Nat.le_refl _) (zeros_grid hs) (zeros_fits s) (fun i _ => rd_zeros s i) hc.2.2 h
    rw [← hz0] at this
    refine Ev.bind this ?_
    rw [srch_eq _ _ _ _ _ (by unfold zeros; rw [List.length_replicate]; rcases hn with h | h | h <;> rw [h] <;> decide) hc.2.2]
    have hl := allSquares_len hs
    show Ev (fun _ => if (numbered (allSquares s) m).1.length < 17592186044416 then some (numbered (allSquares s) m).1 else none) ((allSquares s).getD m.toNat [])
    have e2 : (numbered (allSquares s) m).1 = (allSquares s).getD m.toNat [] := by
      unfold numbered
      split
      · rfl
      · rw [List.getD_eq_getElem?_getD, List.getElem?_eq_none (by omega)]; rfl
    rw [e2]
    have h16 := squareNumber_len s m
    unfold squareNumber at h16
    rw [if_pos ⟨hs, hc.2.2⟩] at h16
    rw [if_pos (by omega)]
    exact Ev.now _
  · have hs : ¬ (sizeOkB s = true ∧ 0 ≤ m) := by
      unfold sizeOkB; rw [decide_eq_true_iff]; omega
    rw [if_neg hs]
    simp only [hc, if_false]
    exact Ev.now _

end Go.Proofs.Ytnocdmclcdfppaa.Pure
namespace Go.Proofs.Ytnocdmclcdfppaa.Pure
set_option linter.unusedSimpArgs false
set_option linter.unusedVariables false
open Go.RowKit Go.Proofs.YtnocdmclcdfppaaW.PrintWords Go.Proofs.YtnocdmclcdfppaaW.PrintMore Go.Proofs.Ytnocdmclcdfppaa.P

theorem size0_ev {b : List Int} (hb : Bytes b) {p : Int} (hp : 0 ≤ p) (hp1 : p ≤ 900000) : ∃ s, sizeOkB s = true ∧ Ev (fun k => spec_l20Size.f k b p 0) (s, p + 1) := by
  obtain ⟨i, h0, h1, hi⟩ := pick_ev hb (p := p) (n := 5) hp (by omega) (by decide)
  refine ⟨rd [2, 3, 3, 4, 4] i, ?_, ?_⟩
  · have : i = 0 ∨ i = 1 ∨ i = 2 ∨ i = 3 ∨ i = 4 := by omega
    rcases this with rfl | rfl | rfl | rfl | rfl <;> decide
  · unfold spec_l20Size.f spec_l20Rd_odd.f
    have e : ¬ (0 : Int) > 0 := by decide
    simp only [e, if_false, Option.bind_some, Bool.false_eq_true]
    refine Ev.bind hi ?_
    have h2 : i < (([2, 3, 3, 4, 4] : List Int).length : Int) := by simp; omega
    simp only [h0, h2, if_true]
    exact Ev.now _
theorem many_rd {s : Int} (h : sizeOkB s = true) : 0 ≤ wrap64 (s - 2) ∧ wrap64 (s - 2) < (([2, 12, 576] : List Int).length : Int) ∧ rd [2, 12, 576] (wrap64 (s - 2)) = squaresMany s ∧ 0 < squaresMany s := by
  rcases sizeOkB_iff.1 h with rfl | rfl | rfl <;> decide +kernel
theorem solved_ev {b : List Int} (hb : Bytes b) {p s : Int} (hs : sizeOkB s = true) (hp : 0 ≤ p) (hp1 : p ≤ 900000) : ∃ g, g ∈ allSquares s ∧ Ev (fun k => spec_l20Solved.f k b p s) (g, p + 1 + 1) := by
  obtain ⟨r1, h10, h11, hp1⟩ := pick_ev hb (p := p) (n := 256) hp (by omega) (by decide)
  obtain ⟨r2, h20, h21, hp2⟩ := pick_ev hb (p := p + 1) (n := 3) (by omega) (by omega) (by decide)
  obtain ⟨m0, m1, m2, m3⟩ := many_rd hs
  have hw : wrap64 ((wrap64 (r1 * 3)) + r2) = r1 * 3 + r2 := by rw [w64 (x := r1 * 3) (by omega) (by omega), w64 (by omega) (by omega)]
  have ht0 : 0 ≤ Int.tmod (r1 * 3 + r2) (squaresMany s) := Int.tmod_nonneg _ (by omega)
  have ht1 : Int.tmod (r1 * 3 + r2) (squaresMany s) < squaresMany s := Int.tmod_lt_of_pos _ m3
  have hmany : squaresMany s ≤ 576 := by rcases sizeOkB_iff.1 hs with rfl | rfl | rfl <;> decide
  refine ⟨squareNumber s (Int.tmod (r1 * 3 + r2) (squaresMany s)), squareNumber_mem hs ht0 ht1, ?_⟩
  unfold spec_l20Solved.f
  simp only [Option.bind_some, m0, m1, m2, if_true]
  refine Ev.bind hp1 ?_
  refine Ev.bind hp2 ?_
  have hn : ¬ squaresMany s = 0 := by omega
  simp only [hn, if_false, hw]
  refine Ev.bind (specSquareNumber_ev _ _ (by omega)) ?_
  exact Ev.now _
/-- What a drawn grid is at the least. -/
def Drawn (g : List Int) : Prop := g.length ≤ 16 ∧ ∀ v ∈ g, -1 ≤ v ∧ v ≤ 5
theorem Drawn.set {g : List Int} (h : Drawn g) (i : Nat) {v : Int} (h0 : -1 ≤ v) (h1 : v ≤ 5) : Drawn (g.set i v) := by
  refine ⟨by rw [List.length_set]; exact h.1, fun x hx => ?_⟩
  rcases List.mem_or_eq_of_mem_set hx with hx | rfl
  · exact h.2 x hx
  · exact ⟨h0, h1⟩
theorem Drawn.of_grid {g : List Int} {s : Int} (h : gridB g s = true) : Drawn g := by
  refine ⟨gridB_le h, fun v hv => ?_⟩
  have h1 := gridB_mem h v hv
  rcases sizeOkB_iff.1 (gridB_size h) with rfl | rfl | rfl <;> omega
theorem Drawn.le {g : List Int} (h : Drawn g) : g.length ≤ 35184372088832 := by have := h.1; omega
theorem gridl1_end {b : List Int} (hb : Bytes b) {n s p x : Int} {g : List Int} (hn : 1 ≤ n) (hn1 : n ≤ 1000000) (hs : sizeOkB s = true) (hg : Drawn g) (hg0 : 0 < g.length) (hx : x ≤ 1) (hp : 0 ≤ p) (hp1 : p ≤ 800000) : ∃ g' s' p', Drawn g' ∧ SizeDraw s' ∧ 0 ≤ p' ∧ p' ≤ p + 10 ∧ Ev (fun k => spec_l20Grid.l1 k n s g x b p) (g', s', p') := by
  have hx1 : ¬ x > 1 := by omega
  have hsd : SizeDraw s := by unfold SizeDraw; rcases sizeOkB_iff.1 hs with rfl | rfl | rfl <;> decide
  obtain ⟨r, hr⟩ := odd_ev hb (p := p) (n := n) hp (by omega) hn hn1
  cases r with
  | false =>
    refine ⟨g, s, p + 1, hg, hsd, by omega, by omega, ?_⟩
    refine Ev.step (fun k => spec_l20Grid.l1.eq_2 _ _ _ _ _ _ k) ?_
    simp only [hx1, if_false]
    refine Ev.bind hr ?_
    simp only [Bool.false_eq_true, if_false]
    exact Ev.now _
  | true =>
    obtain ⟨i, h0, h1, hi⟩ := pick_ev hb (p := p + 1) (n := 3) (by omega) (by omega) (by decide)
    by_cases e0 : i = 0
    · obtain ⟨c, c0, c1, hc⟩ := pick_ev hb (p := p + 1 + 1) (n := (g.length : Int)) (by omega) (by omega) (by omega)
      obtain ⟨q, q0, q1, hq⟩ := pick_ev hb (p := p + 1 + 1 + 1) (n := 2) (by omega) (by omega) (by decide)
      have hw : wrap64 (s + 1) = s + 1 := by rcases sizeOkB_iff.1 hs with rfl | rfl | rfl <;> decide +kernel
      have hv : -1 ≤ rd [-1, s + 1] q ∧ rd [-1, s + 1] q ≤ 5 := by
        have : q = 0 ∨ q = 1 := by omega
        rcases sizeOkB_iff.1 hs with rfl | rfl | rfl <;> rcases this with rfl | rfl <;> decide
      refine ⟨g.set c.toNat (rd [-1, s + 1] q), s, p + 1 + 1 + 1 + 1, hg.set _ hv.1 hv.2, hsd, by omega, by omega, ?_⟩
      refine Ev.step (fun k => spec_l20Grid.l1.eq_2 _ _ _ _ _ _ k) ?_
      simp only [hx1, if_false]
      refine Ev.bind hr ?_
      simp only [if_true]
      refine Ev.bind hi ?_
      simp only [e0, if_true]
      refine Ev.bind hc ?_
      simp only [Option.bind_some, hw]
      refine Ev.bind hq ?_
      have h2 : q < (([-1, s + 1] : List Int).length : Int) := by simp; omega
      simp only [q0, h2, c0, c1, if_true]
      exact Ev.now _
    · by_cases e1 : i = 1
      · have hl : 1 ≤ (g.length : Int) := by omega
        refine ⟨g.drop (1 : Int).toNat, s, p + 1 + 1, ⟨by rw [List.length_drop]; have := hg.1; omega, fun v hv => hg.2 v (List.mem_of_mem_drop hv)⟩, hsd, by omega, by omega, ?_⟩
        refine Ev.step (fun k => spec_l20Grid.l1.eq_2 _ _ _ _ _ _ k) ?_
        simp only [hx1, if_false]
        refine Ev.bind hr ?_
        simp only [if_true]
        refine Ev.bind hi ?_
        have e10 : ¬ (1 : Int) = 0 := by decide
        simp only [e1, e10, hl, if_true, if_false]
        exact Ev.now _
      · obtain ⟨s', hs', hp'⟩ := size_ev hb (p := p + 1 + 1) (n := 1) (by omega) (by omega) (by decide) (by decide)
        refine ⟨g, s', p + 1 + 1 + 1 + 1, hg, hs', by omega, by omega, ?_⟩
        refine Ev.step (fun k => spec_l20Grid.l1.eq_2 _ _ _ _ _ _ k) ?_
        simp only [hx1, if_false]
        refine Ev.bind hr ?_
        simp only [if_true]
        refine Ev.bind hi ?_
        simp only [e0, e1, if_false]
        refine Ev.bind hp' ?_
        exact Ev.now _
theorem gridl1_ev {b : List Int} (hb : Bytes b) {n s p x : Int} {g : List Int} (hn : 1 ≤ n) (hn1 : n ≤ 1000000) (hs : sizeOkB s = true) (hg : Drawn g) (hg0 : 0 < g.length) (hx : x ≤ 2) (hp : 0 ≤ p) (hp1 : p ≤ 700000) : ∃ g' s' p', Drawn g' ∧ SizeDraw s' ∧ 0 ≤ p' ∧ p' ≤ p + 20 ∧ Ev (fun k => spec_l20Grid.l1 k n s g x b p) (g', s', p') := by
  by_cases hx1 : x ≤ 1
  · obtain ⟨g', s', p', a1, a2, a3, a4, a5⟩ := gridl1_end hb hn hn1 hs hg hg0 hx1 hp (by omega)
    exact ⟨g', s', p', a1, a2, a3, by omega, a5⟩
  · obtain rfl : x = 2 := by omega
    obtain ⟨c, c0, c1, hc⟩ := pick_ev hb (p := p) (n := (g.length : Int)) (by omega) (by omega) (by omega)
    have hw : wrap64 (s + 1) = s + 1 := by rcases sizeOkB_iff.1 hs with rfl | rfl | rfl <;> decide +kernel
    have hs4 : 2 ≤ s ∧ s ≤ 4 := by rcases sizeOkB_iff.1 hs with rfl | rfl | rfl <;> decide
    obtain ⟨q, q0, q1, hq⟩ := pick_ev hb (p := p + 1) (n := s + 1) (by omega) (by omega) (by omega)
    obtain ⟨g', s', p', a1, a2, a3, a4, a5⟩ := gridl1_end hb (x := 1) (g := g.set c.toNat q) (p := p + 1 + 1) hn hn1 hs (hg.set _ (by omega) (by omega)) (by rw [List.length_set]; exact hg0) (by decide) (by omega) (by omega)
    refine ⟨g', s', p', a1, a2, a3, by omega, ?_⟩
    refine Ev.step (fun k => spec_l20Grid.l1.eq_2 _ _ _ _ _ _ k) ?_
    have h2 : (2 : Int) > 1 := by decide
    have hw2 : wrap64 (2 - 1) = 1 := by decide +kernel
    simp only [h2, if_true, hw]
    refine Ev.bind hc ?_
    refine Ev.bind hq ?_
    simp only [c0, c1, if_true, hw2]
    exact a5
theorem gridl0_ev {b : List Int} (hb : Bytes b) {n s h : Int} (hn : 1 ≤ n) (hn1 : n ≤ 1000000) (hs : sizeOkB s = true) : ∀ (d j : Nat) (g : List Int) (p : Int), Drawn g → 0 < g.length → j + d = g.length → 0 ≤ p → p + (d : Int) ≤ 600000 → ∃ g' s' p', Drawn g' ∧ SizeDraw s' ∧ 0 ≤ p' ∧ p' ≤ p + d + 30 ∧ Ev (fun k => spec_l20Grid.l0 k n s g h (j : Int) b p) (g', s', p')
  | 0, j, g, p, hg, hg0, hj, hp, hp1 => by
    obtain ⟨x, x0, x1, hx⟩ := pick_ev hb (p := p) (n := 3) hp (by omega) (by decide)
    obtain ⟨g', s', p', a1, a2, a3, a4, a5⟩ := gridl1_ev hb (x := x) (p := p + 1) hn hn1 hs hg hg0 (by omega) (by omega) (by omega)
    refine ⟨g', s', p', a1, a2, a3, by omega, ?_⟩
    refine Ev.step (fun k => spec_l20Grid.l0.eq_2 _ _ _ _ _ _ _ k) ?_
    have h1 : ¬ (j : Int) < (g.length : Int) := by omega
    simp only [h1, if_false]
    refine Ev.bind hx ?_
    exact a5
  | d + 1, j, g, p, hg, hg0, hj, hp, hp1 => by
    obtain ⟨x, x0, x1, hx⟩ := pick_ev hb (p := p) (n := 5) hp (by omega) (by decide)
    have h1 : (j : Int) < (g.length : Int) := by omega
    have h0 : (0 : Int) ≤ (j : Int) := by omega
    have hgl := hg.1
    have hw : wrap64 ((j : Int) + 1) = ((j + 1 : Nat) : Int) := w64n (by omega)
    by_cases hc : x < h
    · obtain ⟨g', s', p', a1, a2, a3, a4, a5⟩ := gridl0_ev hb hn hn1 hs d (j + 1) (g.set j 0) (p + 1) (hg.set _ (by decide) (by decide)) (by rw [List.length_set]; exact hg0) (by rw [List.length_set]; omega) (by omega) (by omega)
      refine ⟨g', s', p', a1, a2, a3, by omega, ?_⟩
      refine Ev.step (fun k => spec_l20Grid.l0.eq_2 _ _ _ _ _ _ _ k) ?_
      simp only [h1, if_true]
      refine Ev.bind hx ?_
      simp only [hc, h0, if_true, hw, Int.toNat_natCast]
      exact a5
    · obtain ⟨g', s', p', a1, a2, a3, a4, a5⟩ := gridl0_ev hb hn hn1 hs d (j + 1) g (p + 1) hg hg0 (by omega) (by omega) (by omega)
      refine ⟨g', s', p', a1, a2, a3, by omega, ?_⟩
      refine Ev.step (fun k => spec_l20Grid.l0.eq_2 _ _ _ _ _ _ _ k) ?_
      simp only [h1, if_true]
      refine Ev.bind hx ?_
      simp only [hc, if_false, hw]
      exact a5
theorem grid_ev {b : List Int} (hb : Bytes b) {n p : Int} (hn : 1 ≤ n) (hn1 : n ≤ 1000000) (hp : 0 ≤ p) (hp1 : p ≤ 500000) : ∃ g s p', Drawn g ∧ SizeDraw s ∧ 0 ≤ p' ∧ p' ≤ p + 100 ∧ Ev (fun k => spec_l20Grid.f k b p n) (g, s, p') := by
  obtain ⟨s, hs, h1⟩ := size0_ev hb hp (by omega)
  obtain ⟨g, hgm, h2⟩ := solved_ev hb (p := p + 1) hs (by omega) (by omega)
  obtain ⟨x, x0, x1, h3⟩ := pick_ev hb (p := p + 1 + 1 + 1) (n := 5) (by omega) (by omega) (by decide)
  have hg := (allSquares_ok hs hgm).1
  have hgl := gridB_le hg
  have hg0 : 0 < g.length := by have := gridB_len hg; rcases sizeOkB_iff.1 hs with rfl | rfl | rfl <;> omega
  obtain ⟨g', s', p', a1, a2, a3, a4, a5⟩ := gridl0_ev hb (h := x) hn hn1 hs g.length 0 g (p + 1 + 1 + 1 + 1) (Drawn.of_grid hg) hg0 (by omega) (by omega) (by omega)
  refine ⟨g', s', p', a1, a2, a3, by omega, ?_⟩
  unfold spec_l20Grid.f
  refine Ev.bind h1 ?_
  refine Ev.bind h2 ?_
  refine Ev.bind h3 ?_
  exact a5

end Go.Proofs.Ytnocdmclcdfppaa.Pure
namespace Go.Proofs.Ytnocdmclcdfppaa.Pure
set_option linter.unusedSimpArgs false
set_option linter.unusedVariables false
open Go.RowKit Go.Proofs.YtnocdmclcdfppaaW.PrintWords Go.Proofs.YtnocdmclcdfppaaW.PrintMore

theorem turnG_of {g : List Int} {s : Int} (h : gridB g s = true) : turnG g s = turnL g s.toNat := by unfold turnG; rw [if_pos h]
theorem mirrorG_of {g : List Int} {s : Int} (h : gridB g s = true) : mirrorG g s = mirrorL g s.toNat := by unfold mirrorG; rw [if_pos h]
theorem filled_turn {g : List Int} {s : Int} (h : gridB g s = true) : gridFilled (turnL g s.toNat) s = gridFilled g s := by
  unfold gridFilled
  rw [if_pos h, if_pos (turnL_grid h), countF_turn g (size_or (gridB_size h)).1 (grid_len h)]
theorem turn_end {s : Int} {j : Nat} (hs : sizeOkB s = true) (hj : j < s.toNat) : wrap64 ((wrap64 ((wrap64 ((j : Int) * s)) + s)) - 1) = ((j * s.toNat + s.toNat - 1 : Nat) : Int) := by
  rcases sizeOkB_iff.1 hs with rfl | rfl | rfl
  · have : j = 0 ∨ j = 1 := by have : (2 : Int).toNat = 2 := rfl; omega
    rcases this with rfl | rfl <;> decide +kernel
  · have : j = 0 ∨ j = 1 ∨ j = 2 := by have : (3 : Int).toNat = 3 := rfl; omega
    rcases this with rfl | rfl | rfl <;> decide +kernel
  · have : j = 0 ∨ j = 1 ∨ j = 2 ∨ j = 3 := by have : (4 : Int).toNat = 4 := rfl; omega
    rcases this with rfl | rfl | rfl | rfl <;> decide +kernel
theorem turn_col {g : List Int} {n j : Nat} (hn : n = 2 ∨ n = 3 ∨ n = 4) (hj : j < n) : rd (turnL g n) ((j * n + n - 1 : Nat) : Int) = rd g (j : Int) := by
  rw [rd_turnL (by rcases hn with rfl | rfl | rfl <;> omega)]
  refine congrArg (fun k : Nat => rd g (k : Int)) ?_
  rcases hn with rfl | rfl | rfl <;> omega

end Go.Proofs.Ytnocdmclcdfppaa.Pure
namespace Go.Proofs.Ytnocdmclcdfppaa.Pure
set_option linter.unusedSimpArgs false
set_option linter.unusedVariables false
open Go.RowKit Go.Proofs.YtnocdmclcdfppaaW.PrintWords Go.Proofs.YtnocdmclcdfppaaW.PrintMore

/-- What a copy holds after n cells were turned by f. -/
def Turned (f : Int → Int) (g : List Int) (x : List Int) (n : Nat) : Prop := x.length = g.length ∧ ∀ i, x[i]? = if i < n then (g.map f)[i]? else g[i]?
theorem Turned.start (f : Int → Int) (g : List Int) : Turned f g g 0 := ⟨rfl, fun i => by simp⟩
theorem Turned.fin {f : Int → Int} {g x : List Int} (h : Turned f g x g.length) : x = g.map f := by
  apply List.ext_getElem?
  intro i
  rw [h.2 i]
  by_cases hi : i < g.length
  · rw [if_pos hi]
  · rw [if_neg hi, List.getElem?_eq_none (by omega), List.getElem?_eq_none (by rw [List.length_map]; omega)]
theorem Turned.set {f : Int → Int} {g x : List Int} {n : Nat} (h : Turned f g x n) (hn : n < g.length) {v : Int} (hv : v = f g[n]) : Turned f g (x.set n v) (n + 1) := by
  refine ⟨by rw [List.length_set]; exact h.1, fun i => ?_⟩
  rw [List.getElem?_set]
  by_cases hi : n = i
  · subst hi
    have hx := h.1
    simp only [if_true, if_pos (by omega : n < x.length), if_pos (by omega : n < n + 1)]
    rw [List.getElem?_eq_getElem (by rw [List.length_map]; exact hn), List.getElem_map, hv]
  · rw [if_neg hi, h.2 i]
    by_cases hi2 : i < n
    · rw [if_pos hi2, if_pos (by omega)]
    · rw [if_neg hi2, if_neg (by omega)]
theorem Turned.skip {f : Int → Int} {g x : List Int} {n : Nat} (h : Turned f g x n) (hn : n < g.length) (hv : f g[n] = g[n]) : Turned f g x (n + 1) := by
  refine ⟨h.1, fun i => ?_⟩
  rw [h.2 i]
  by_cases hi : i = n
  · subst hi
    rw [if_neg (by omega), if_pos (by omega), List.getElem?_eq_getElem hn, List.getElem?_eq_getElem (by rw [List.length_map]; exact hn), List.getElem_map, hv]
  · by_cases hi2 : i < n
    · rw [if_pos hi2, if_pos (by omega)]
    · rw [if_neg hi2, if_neg (by omega)]

end Go.Proofs.Ytnocdmclcdfppaa.Pure
namespace Go.Proofs.Ytnocdmclcdfppaa.Pure
set_option linter.unusedSimpArgs false
set_option linter.unusedVariables false
open Go.RowKit Go.Proofs.YtnocdmclcdfppaaW.PrintWords Go.Proofs.YtnocdmclcdfppaaW.PrintMore Go.Proofs.Ytnocdmclcdfppaa.P

def swapV (a b v : Int) : Int := if v = a then b else if v = b then a else v
def swapOkB (g : List Int) (s a b : Int) : Bool := gridB g s && (decide (1 ≤ a ∧ a ≤ s) && decide (1 ≤ b ∧ b ≤ s))
def swapG (g : List Int) (s a b : Int) : List Int := if swapOkB g s a b = true then g.map (swapV a b) else []
theorem swapG_len (g : List Int) (s a b : Int) : (swapG g s a b).length ≤ 16 := by
  unfold swapG; split
  · rename_i h
    unfold swapOkB at h; rw [Bool.and_eq_true] at h
    rw [List.length_map]; exact gridB_le h.1
  · exact Nat.zero_le _
theorem specGridSwap_ev (g : List Int) (s a b : Int) (h : g.length ≤ 35184372088832) : Ev (fun k => spec_GridSwap.f k g s a b) (swapG g s a b) := by
  unfold spec_GridSwap.f swapG
  have hj : ∀ (x : List Int) (i : Int), Ev (fun k => spec_GridSwap.j1 k g s a b x i false) x := by
    intro x i
    refine Ev.step (fun k => spec_GridSwap.j1.eq_2 _ _ _ _ _ _ _ k) ?_
    simp only [Bool.false_eq_true, if_false]; exact Ev.now _
  by_cases ho : swapOkB g s a b = true
  · have ho2 := ho
    unfold swapOkB at ho2
    simp only [Bool.and_eq_true] at ho2
    obtain ⟨hg, ha, hb⟩ := ho2
    simp only [ho, if_true]
    have := Ev.range (L := fun k (x : List Int) i => spec_GridSwap.l0 k g s a b x i) (R := fun _ _ => g.map (swapV a b)) (N := g.length) (fun x n => x = (g.take n).map (swapV a b)) ?_ ?_ [] 0 (Nat.zero_le _) rfl
    · simpa using this
    · rintro x rfl
      refine Ev.step (fun k => spec_GridSwap.l0.eq_2 _ _ _ _ _ _ k) ?_
      simp only [Int.lt_irrefl, if_false, List.take_length]
      exact hj _ _
    · rintro x n hn rfl ih
      refine Ev.step (fun k => spec_GridSwap.l0.eq_2 _ _ _ _ _ _ k) ?_
      have h1 : (n : Int) < (g.length : Int) := by omega
      have h0 : (0 : Int) ≤ n := by omega
      simp only [h1, if_true]
      refine Ev.bind (specGridValid_ev g s h) ?_
      simp only [hg, if_true, l1In_eq, Option.bind_some, ha, hb]
      refine Ev.step (fun k => spec_GridSwap.j1.eq_2 _ _ _ _ _ _ _ k) ?_
      have hlen : ((g.take n).map (swapV a b)).length < 17592186044416 := by
        rw [List.length_map, List.length_take]; have := gridB_le hg; omega
      have hs : ∀ v, swapV a b g[n] = v → Ev (fun k => spec_GridSwap.l0 k g s a b ((g.take n).map (swapV a b) ++ [v]) ((n + 1 : Nat) : Int)) (g.map (swapV a b)) := by
        intro v hv
        refine ih _ ?_
        rw [List.take_succ_eq_append_getElem hn, List.map_append, List.map_singleton, hv]
      simp only [h0, h1, if_true, rd_lt hn, hlen, w64n (by omega : n < 9000000000000000000)]
      by_cases e1 : g[n] = a
      · simp only [e1, if_true]
        exact hs b (by unfold swapV; rw [if_pos e1])
      · by_cases e2 : g[n] = b
        · simp only [e1, if_false, e2, if_true]
          have e3 : ¬ b = a := fun e => e1 (e2.trans e)
          simp only [e3, if_false]
          exact hs a (by unfold swapV; rw [if_neg e1, if_pos e2])
        · simp only [e1, if_false, e2]
          exact hs g[n] (by unfold swapV; rw [if_neg e1, if_neg e2])
  · simp only [ho, if_false, Bool.false_eq_true]
    refine Ev.step (fun k => spec_GridSwap.l0.eq_2 _ _ _ _ _ _ k) ?_
    by_cases h1 : (0 : Int) < (g.length : Int)
    · simp only [h1, if_true]
      refine Ev.bind (specGridValid_ev g s h) ?_
      by_cases hg : gridB g s = true
      · simp only [hg, if_true, l1In_eq, Option.bind_some]
        by_cases ha : decide (1 ≤ a ∧ a ≤ s) = true
        · simp only [ha, if_true]
          have hb : decide (1 ≤ b ∧ b ≤ s) = false := by
            apply eq_false_of_ne_true
            intro hb; apply ho; unfold swapOkB; rw [hg, ha, hb]; rfl
          simp only [hb]
          exact hj _ _
        · simp only [ha, if_false, Bool.false_eq_true]
          exact hj _ _
      · simp only [hg, if_false, Bool.false_eq_true]
        exact hj _ _
    · simp only [h1, if_false]
      exact hj _ _
theorem implGridSwap_ev (g : List Int) (s a b : Int) (h : g.length ≤ 35184372088832) : Ev (fun k => impl_GridSwap.f k g s a b) (swapG g s a b) := by
  unfold impl_GridSwap.f swapG
  refine Ev.bind (implGridValid_ev g s h) ?_
  have hj : Ev (fun k => impl_GridSwap.j0 k g a b true) ([] : List Int) := by
    refine Ev.step (fun k => impl_GridSwap.j0.eq_2 _ _ _ _ k) ?_
    simp only [if_true]; exact Ev.now _
  by_cases hg : gridB g s = true
  · by_cases ha : 1 ≤ a ∧ a ≤ s
    · by_cases hb : 1 ≤ b ∧ b ≤ s
      · have ho : swapOkB g s a b = true := by unfold swapOkB; rw [hg, decide_eq_true ha, decide_eq_true hb]; rfl
        have h1 : ¬ a < 1 := by omega
        have h2 : ¬ a > s := by omega
        have h3 : ¬ b < 1 := by omega
        have h4 : decide (b > s) = false := decide_eq_false (by omega)
        simp only [hg, if_true, h1, h2, h3, h4, if_false, ho]
        refine Ev.step (fun k => impl_GridSwap.j0.eq_2 _ _ _ _ k) ?_
        have hc : slices_Clone_int_int.f g = some g := by
          unfold slices_Clone_int_int.f; rw [if_pos]; have := gridB_le hg; omega
        simp only [Bool.false_eq_true, if_false, hc, Option.bind_some]
        have := Ev.range (L := fun k (x : List Int) i => impl_GridSwap.l0 k a b x g (g.length : Int) i) (R := fun _ _ => g.map (swapV a b)) (N := g.length) (fun x n => Turned (swapV a b) g x n) ?_ ?_ g 0 (Nat.zero_le _) (Turned.start _ _)
        · simpa using this
        · intro x hx
          refine Ev.step (fun k => impl_GridSwap.l0.eq_2 _ _ _ _ _ _ k) ?_
          simp only [Int.lt_irrefl, if_false, hx.fin]
          exact Ev.now _
        · intro x n hn hx ih
          refine Ev.step (fun k => impl_GridSwap.l0.eq_2 _ _ _ _ _ _ k) ?_
          have h5 : (n : Int) < (g.length : Int) := by omega
          have h6 : (0 : Int) ≤ n := by omega
          have h7 : (n : Int) < (x.length : Int) := by have := hx.1; omega
          simp only [h5, h6, h7, if_true, rd_lt hn, Int.toNat_natCast, w64n (by omega : n < 9000000000000000000)]
          by_cases e1 : g[n] = a
          · simp only [e1, if_true]
            exact ih _ (hx.set hn (by unfold swapV; rw [if_pos e1]))
          · by_cases e2 : g[n] = b
            · have e3 : ¬ b = a := fun e => e1 (e2.trans e)
              simp only [e1, if_false, e2, if_true, e3]
              exact ih _ (hx.set hn (by unfold swapV; rw [if_neg e1, if_pos e2]))
            · simp only [e1, if_false, e2]
              exact ih _ (hx.skip hn (by unfold swapV; rw [if_neg e1, if_neg e2]))
      · have ho : swapOkB g s a b = false := by unfold swapOkB; rw [decide_eq_false hb]; simp
        have h1 : ¬ a < 1 := by omega
        have h2 : ¬ a > s := by omega
        simp only [hg, if_true, h1, h2, if_false, ho, Bool.false_eq_true]
        by_cases h3 : b < 1
        · simp only [h3, if_true]; exact hj
        · have h4 : decide (b > s) = true := decide_eq_true (by omega)
          simp only [h3, if_false, h4]; exact hj
    · have ho : swapOkB g s a b = false := by unfold swapOkB; rw [decide_eq_false ha]; simp
      simp only [hg, if_true, ho, if_false, Bool.false_eq_true]
      by_cases h1 : a < 1
      · simp only [h1, if_true]; exact hj
      · have h2 : a > s := by omega
        simp only [h1, if_false, h2, if_true]; exact hj
  · have ho : swapOkB g s a b = false := by unfold swapOkB; rw [eq_false_of_ne_true hg]; simp
    simp only [hg, if_false, ho, Bool.false_eq_true]
    exact hj

end Go.Proofs.Ytnocdmclcdfppaa.Pure
namespace Go.Proofs.Ytnocdmclcdfppaa.Pure
set_option linter.unusedSimpArgs false
set_option linter.unusedVariables false
open Go.RowKit Go.Proofs.YtnocdmclcdfppaaW.PrintWords Go.Proofs.YtnocdmclcdfppaaW.PrintMore

theorem swapV_comm (a b v : Int) : swapV b a v = swapV a b v := by unfold swapV; split <;> split <;> omega
theorem swapV_swapV (a b v : Int) : swapV a b (swapV a b v) = v := by unfold swapV; repeat' split <;> omega
theorem swapG_comm (g : List Int) (s a b : Int) : swapG g s b a = swapG g s a b := by
  have e : swapOkB g s b a = swapOkB g s a b := by
    unfold swapOkB
    cases gridB g s <;> cases decide (1 ≤ a ∧ a ≤ s) <;> cases decide (1 ≤ b ∧ b ≤ s) <;> rfl
  unfold swapG
  rw [e, show swapV b a = swapV a b from funext (swapV_comm a b)]
theorem swapOk_iff {g : List Int} {s a b : Int} (h : swapOkB g s a b = true) : gridB g s = true ∧ (1 ≤ a ∧ a ≤ s) ∧ 1 ≤ b ∧ b ≤ s := by
  unfold swapOkB at h
  simp only [Bool.and_eq_true, decide_eq_true_eq] at h
  exact ⟨h.1, h.2.1, h.2.2⟩
theorem swap_grid {g : List Int} {s a b : Int} (h : swapOkB g s a b = true) : gridB (g.map (swapV a b)) s = true := by
  obtain ⟨hg, ha, hb⟩ := swapOk_iff h
  refine gridB_mk (gridB_size hg) (by rw [List.length_map]; exact gridB_len hg) (fun v hv => ?_)
  obtain ⟨u, hu, rfl⟩ := List.mem_map.1 hv
  have := gridB_mem hg u hu
  unfold swapV; split
  · omega
  · split <;> omega
theorem swap_ok2 {g : List Int} {s a b : Int} (h : swapOkB g s a b = true) : swapOkB (g.map (swapV a b)) s a b = true := by
  obtain ⟨hg, ha, hb⟩ := swapOk_iff h
  unfold swapOkB
  rw [swap_grid h, decide_eq_true ha, decide_eq_true hb]; rfl
theorem swap_back {g : List Int} {s a b : Int} (h : swapOkB g s a b = true) : swapG (g.map (swapV a b)) s a b = g := by
  unfold swapG
  rw [if_pos (swap_ok2 h), List.map_map]
  have : (swapV a b ∘ swapV a b) = id := funext (swapV_swapV a b)
  rw [this, List.map_id]
theorem rd_map {g : List Int} (f : Int → Int) {k : Nat} (h : k < g.length) : rd (g.map f) (k : Nat) = f (rd g (k : Nat)) := by
  rw [rd_lt (by simpa using h), rd_lt h, List.getElem_map]
theorem swap_alike {g : List Int} {n a b : _} (hn : n = 2 ∨ n = 3 ∨ n = 4) (hl : g.length = n * n) : Alike g (g.map (swapV a b)) n (swapV a b) := by
  intro l hl2
  refine ⟨l, fun i => i, hl2, fun i h => h, fun i j _ _ e => e, fun i hi => ?_⟩
  exact rd_map _ (by rw [hl]; exact lineCell_lt hn hl2 hi)
theorem swap_fits {g : List Int} {s a b : Int} (h : swapOkB g s a b = true) : squareFits (g.map (swapV a b)) s = squareFits g s := by
  obtain ⟨hg, ha, hb⟩ := swapOk_iff h
  obtain ⟨hn, hsn⟩ := size_or (gridB_size hg)
  have hl := grid_len hg
  have hpos : ∀ v, 0 < swapV a b v → 0 < v := by
    intro v hv; unfold swapV at hv
    split at hv
    · omega
    · split at hv <;> omega
  have hinj : ∀ u v, swapV a b u = swapV a b v → u = v := by
    intro u v e; rw [← swapV_swapV a b u, e, swapV_swapV]
  refine eq_of_iffB ?_
  rw [squareFits_iff hg, squareFits_iff (swap_grid h)]
  constructor
  · intro hf
    have h1 := (swap_alike (a := a) (b := b) hn (by rw [List.length_map]; exact hl : (g.map (swapV a b)).length = s.toNat * s.toNat)).fits hpos hinj hf
    rw [List.map_map] at h1
    have : (swapV a b ∘ swapV a b) = id := funext (swapV_swapV a b)
    rwa [this, List.map_id] at h1
  · exact (swap_alike hn hl).fits hpos hinj

end Go.Proofs.Ytnocdmclcdfppaa.Pure
namespace Go.Proofs.Ytnocdmclcdfppaa.Pure
set_option linter.unusedSimpArgs false
set_option linter.unusedVariables false
open Go.RowKit Go.Proofs.YtnocdmclcdfppaaW.PrintWords Go.Proofs.YtnocdmclcdfppaaW.PrintMore Go.Proofs.Ytnocdmclcdfppaa.P

/-- The values from v on, n of them, that stand in none of these cells. -/
def missL (g cells : List Int) (v : Int) : Nat → List Int
  | 0 => []
  | n + 1 => (if cells.any (fun c => rd g c == v) = true then [] else [v]) ++ missL g cells (v + 1) n
def missingIn (g : List Int) (s l : Int) : List Int := if gridB g s = true ∧ lineOkB s l = true then missL g (lineC s l) 1 s.toNat else []
theorem missL_len (g cells : List Int) (v : Int) (n : Nat) : (missL g cells v n).length ≤ n := by
  induction n generalizing v with
  | zero => simp [missL]
  | succ n ih => have := ih (v + 1); unfold missL; rw [List.length_append]; split <;> simp <;> omega
theorem missingIn_len (g : List Int) (s l : Int) : (missingIn g s l).length ≤ 16 := by
  unfold missingIn; split
  · rename_i h
    have h1 := missL_len g (lineC s l) 1 s.toNat
    have h2 := (size_nat (gridB_size h.1)).2.2
    omega
  · exact Nat.zero_le _
theorem lineC_pos {s l : Int} (h : lineOkB s l = true) : 0 < (lineC s l).length := by
  unfold lineC; rw [if_pos h, List.length_map, List.length_range]
  rcases lineOkB_cases h with ⟨rfl, _⟩ | ⟨rfl, _⟩ | ⟨rfl, _⟩ <;> decide
theorem lineC_nil {s l : Int} (h : ¬ lineOkB s l = true) : lineC s l = [] := by unfold lineC; rw [if_neg h]
theorem specMissingIn_ev (g : List Int) (s l : Int) (h : g.length ≤ 35184372088832) : Ev (fun k => spec_MissingIn.f k g s l) (missingIn g s l) := by
  unfold spec_MissingIn.f missingIn
  simp only [Option.bind_some]
  refine Ev.bind (specGridValid_ev g s h) ?_
  by_cases hg : gridB g s = true
  · simp only [hg, if_true, true_and]
    refine Ev.bind (specLineCells_ev s l) ?_
    obtain ⟨hsn, hs2, hs4⟩ := size_nat (gridB_size hg)
    have hlen := gridB_len hg
    have hcl := lineC_len s l
    by_cases hl : lineOkB s l = true
    · simp only [hl, if_true]
      have hpos := lineC_pos hl
      have hd : decide (((lineC s l).length : Int) > 0) = true := decide_eq_true (by omega)
      have := Ev.range (L := fun k (x : List Int) i => spec_MissingIn.l0 k g s x (lineC s l) (i + 1)) (R := fun _ _ => missL g (lineC s l) 1 s.toNat) (N := s.toNat) (fun x n => missL g (lineC s l) 1 s.toNat = x ++ missL g (lineC s l) ((n : Int) + 1) (s.toNat - n) ∧ x.length ≤ n) ?_ ?_ [] 0 (Nat.zero_le _) ⟨by simp, Nat.le_refl _⟩
      · simpa using this
      · rintro x ⟨hx, _⟩
        refine Ev.step (fun k => spec_MissingIn.l0.eq_2 _ _ _ _ _ k) ?_
        have h1 : ¬ ((s.toNat : Nat) : Int) + 1 ≤ s := by omega
        simp only [h1, if_false]
        refine Ev.step (fun k => spec_MissingIn.j1.eq_2 _ _ _ _ _ _ k) ?_
        simp only [Bool.false_eq_true, if_false]
        rw [hx, Nat.sub_self, missL, List.append_nil]
        exact Ev.now _
      · rintro x n hn ⟨hx, hxl⟩ ih
        refine Ev.step (fun k => spec_MissingIn.l0.eq_2 _ _ _ _ _ k) ?_
        have h1 : (n : Int) + 1 ≤ s := by omega
        simp only [h1, if_true, hd]
        refine Ev.step (fun k => spec_MissingIn.j1.eq_2 _ _ _ _ _ _ k) ?_
        simp only [if_true]
        have hw : wrap64 ((n : Int) + 1 + 1) = ((n + 1 : Nat) : Int) + 1 := by unfold wrap64; omega
        have e : s.toNat - n = (s.toNat - (n + 1)) + 1 := by omega
        have e2 : (n : Int) + 1 + 1 = ((n + 1 : Nat) : Int) + 1 := by omega
        rw [e, missL, e2] at hx
        have hxs : x.length < 17592186044416 := by omega
        have := Ev.range (L := fun k (b : Bool) i => spec_MissingIn.l1 k g s x (lineC s l) ((n : Int) + 1) b i) (R := fun _ _ => missL g (lineC s l) 1 s.toNat) (N := (lineC s l).length)
          (fun b j => (lineC s l).any (fun c => rd g c == (n : Int) + 1) = (b || ((lineC s l).drop j).any (fun c => rd g c == (n : Int) + 1))) ?_ ?_ false 0 (Nat.zero_le _) (by simp)
        · simpa using this
        · intro b hb
          refine Ev.step (fun k => spec_MissingIn.l1.eq_2 _ _ _ _ _ _ _ k) ?_
          rw [List.drop_length, List.any_nil, Bool.or_false] at hb
          simp only [Int.lt_irrefl, if_false, hw]
          by_cases hbt : b = true
          · simp only [hbt, if_true]
            refine ih x ⟨?_, by omega⟩
            rw [hx, hb, hbt]; simp
          · have hbf : b = false := eq_false_of_ne_true hbt
            simp only [hbf, Bool.false_eq_true, if_false, hxs, if_true]
            refine ih (x ++ [(n : Int) + 1]) ⟨?_, by rw [List.length_append]; simp; omega⟩
            rw [hx, hb, hbf]; simp
        · intro b j hj hb ihj
          refine Ev.step (fun k => spec_MissingIn.l1.eq_2 _ _ _ _ _ _ _ k) ?_
          have hc := lineC_mem (lineC s l)[j] (List.getElem_mem hj)
          have h2 : (j : Int) < ((lineC s l).length : Int) := by omega
          have h3 : (0 : Int) ≤ j := by omega
          have h5 : (lineC s l)[j] < (g.length : Int) := by rw [hlen]; exact hc.2
          rw [drop_cons hj, List.any_cons] at hb
          simp only [h2, h3, if_true, rd_lt hj, hc.1, h5, w64n (by omega : j < 9000000000000000000)]
          by_cases hbt : b = true
          · simp only [hbt, if_true]
            refine ihj true ?_
            rw [hb, hbt]; rfl
          · have hbf : b = false := eq_false_of_ne_true hbt
            simp only [hbf, Bool.false_eq_true, if_false]
            refine ihj _ ?_
            rw [hb, hbf, Bool.false_or]
    · simp only [hl, if_false, Bool.false_eq_true]
      rw [lineC_nil hl]
      have hj : Ev (fun k => spec_MissingIn.j1 k g s [] [] 1 false) ([] : List Int) := by
        refine Ev.step (fun k => spec_MissingIn.j1.eq_2 _ _ _ _ _ _ k) ?_
        simp only [Bool.false_eq_true, if_false]; exact Ev.now _
      refine Ev.step (fun k => spec_MissingIn.l0.eq_2 _ _ _ _ _ k) ?_
      have h1 : (1 : Int) ≤ s := by omega
      have hd : decide ((([] : List Int).length : Int) > 0) = false := by decide
      simp only [h1, if_true, hd]
      exact hj
  · simp only [hg, if_false, false_and, Bool.false_eq_true]
    exact Ev.now _
theorem implMiss_eq (g t : List Int) (v : Int) (n : Nat) : impl_MissingIn.miss g t v n = missL g t v n := by
  induction n generalizing v with
  | zero => rfl
  | succ n ih => unfold impl_MissingIn.miss missL; rw [ih]
theorem implMissingIn_ev (g : List Int) (s l : Int) (h : g.length ≤ 35184372088832) : Ev (fun k => impl_MissingIn.f k g s l) (missingIn g s l) := by
  unfold impl_MissingIn.f missingIn
  by_cases hl : lineOkB s l = true
  · have hl2 := hl
    unfold lineOkB sizeOkB at hl2
    simp only [Bool.and_eq_true, decide_eq_true_eq] at hl2
    have hc : 2 ≤ s ∧ s ≤ 4 ∧ 0 ≤ l ∧ l < 2 * s := ⟨hl2.1.1, hl2.1.2, hl2.2.1, hl2.2.2⟩
    simp only [hc, and_self, if_true]
    refine Ev.bind (implLineCells_ev s l) ?_
    refine Ev.bind (implGridValid_ev g s h) ?_
    by_cases hg : gridB g s = true
    · have hlen := gridB_len hg
      have hcond : (0 < (lineC s l).length ∧ (lineC s l).length ≤ 100) ∧ (∀ x ∈ lineC s l, 0 ≤ x ∧ x < (g.length : Int)) :=
        ⟨⟨lineC_pos hl, by have := lineC_len s l; omega⟩, fun x hx => by rw [hlen]; exact lineC_mem x hx⟩
      simp only [hg, if_true, hl, and_self]
      rw [if_pos hcond, implMiss_eq]
      exact Ev.now _
    · simp only [hg, if_false, false_and, Bool.false_eq_true]
      exact Ev.now _
  · have hc : ¬ (2 ≤ s ∧ s ≤ 4 ∧ 0 ≤ l ∧ l < 2 * s) := by
      intro hc; apply hl; unfold lineOkB sizeOkB; simp only [Bool.and_eq_true, decide_eq_true_eq]; exact ⟨⟨hc.1, hc.2.1⟩, hc.2.2⟩
    have hm : ¬ (gridB g s = true ∧ lineOkB s l = true) := fun h => hl h.2
    simp only [hc, if_false, hm]
    refine Ev.bind (implGridValid_ev g s h) ?_
    exact Ev.now _

end Go.Proofs.Ytnocdmclcdfppaa.Pure
namespace Go.Proofs.Ytnocdmclcdfppaa.Pure
set_option linter.unusedSimpArgs false
set_option linter.unusedVariables false
open Go.RowKit Go.Proofs.YtnocdmclcdfppaaW.PrintWords Go.Proofs.YtnocdmclcdfppaaW.PrintMore Go.Proofs.Ytnocdmclcdfppaa.P

/-- An array that tells what has been seen. -/
def SeenA (x : List Bool) (seen : List Int) : Prop := x.length = 5 ∧ ∀ u : Int, 0 ≤ u → u ≤ 4 → (rdOf false x u = true ↔ u ∈ seen)
theorem SeenA.start : SeenA [false, false, false, false, false] [] := by
  refine ⟨rfl, fun u h0 h1 => ?_⟩
  have : u = 0 ∨ u = 1 ∨ u = 2 ∨ u = 3 ∨ u = 4 := by omega
  rcases this with rfl | rfl | rfl | rfl | rfl <;> decide
theorem SeenA.step {x : List Bool} {v : Int} {seen : List Int} (h : SeenA x seen) (hv : 0 ≤ v ∧ v ≤ 4) : SeenA (x.set v.toNat true) (v :: seen) := by
  obtain ⟨hl, h2⟩ := h
  refine ⟨by rw [List.length_set]; exact hl, fun u h0 h1 => ?_⟩
  have e : rdOf false (x.set v.toNat true) u = (decide (u = v) || rdOf false x u) := by
    unfold rdOf
    rw [List.getD_eq_getElem?_getD, List.getD_eq_getElem?_getD, List.getElem?_set]
    by_cases hu : v.toNat = u.toNat
    · have : u = v := by omega
      rw [if_pos hu, if_pos (by omega), decide_eq_true this]; rfl
    · have : ¬ u = v := by omega
      rw [if_neg hu, decide_eq_false this]; rfl
  rw [e, List.mem_cons, Bool.or_eq_true, h2 u h0 h1, decide_eq_true_iff]
theorem implSquareFits_ev (g : List Int) (s : Int) (h : g.length ≤ 35184372088832) : Ev (fun k => impl_SquareFits.f k g s) (squareFits g s) := by
  unfold impl_SquareFits.f squareFits
  refine Ev.bind (implGridValid_ev g s h) ?_
  by_cases hg : gridB g s = true
  · simp only [hg, if_true, Bool.true_and]
    obtain ⟨hsn, hs2, hs4⟩ := size_nat (gridB_size hg)
    have hw : wrap64 (2 * s) = ((2 * s.toNat : Nat) : Int) := by unfold wrap64; omega
    have hlen := gridB_len hg
    refine Ev.range0 (L := fun k i => impl_SquareFits.l0 k g s i) (R := fun n => !linesClash g s n (2 * s.toNat - n)) (N := 2 * s.toNat) ?_ ?_ 0 (Nat.zero_le _)
    · refine Ev.step (fun k => impl_SquareFits.l0.eq_2 _ _ _ k) ?_
      simp only [hw, Int.lt_irrefl, if_false, Nat.sub_self, linesClash]
      exact Ev.now _
    · intro n hn ih
      refine Ev.step (fun k => impl_SquareFits.l0.eq_2 _ _ _ k) ?_
      have h1 : (n : Int) < ((2 * s.toNat : Nat) : Int) := by omega
      simp only [hw, h1, if_true]
      refine Ev.bind (implLineCells_ev s n) ?_
      have e : 2 * s.toNat - n = (2 * s.toNat - (n + 1)) + 1 := by omega
      rw [e, linesClash]
      have hb := lineC_len s n
      have := Ev.range (L := fun k (x : List Bool) i => impl_SquareFits.l1 k g s n (lineC s n) x i) (R := fun _ _ => !(clashL g (lineC s n) [] || linesClash g s (n + 1) (2 * s.toNat - (n + 1)))) (N := (lineC s n).length)
        (fun x j => ∃ seen, SeenA x seen ∧ clashL g (lineC s n) [] = clashL g ((lineC s n).drop j) seen) ?_ ?_ [false, false, false, false, false] 0 (Nat.zero_le _) ⟨[], SeenA.start, by simp⟩
      · simpa using this
      · rintro x ⟨seen, hx, he⟩
        refine Ev.step (fun k => impl_SquareFits.l1.eq_2 _ _ _ _ _ _ k) ?_
        have e2 : clashL g (lineC s n) [] = false := by rw [he, List.drop_length]; rfl
        simp only [Int.lt_irrefl, if_false, e2, Bool.false_or, w64n (by omega : n < 9000000000000000000)]
        exact ih
      · rintro x j hj ⟨seen, hx, he⟩ ihj
        refine Ev.step (fun k => impl_SquareFits.l1.eq_2 _ _ _ _ _ _ k) ?_
        have hc := lineC_mem (lineC s n)[j] (List.getElem_mem hj)
        have h2 : (j : Int) < ((lineC s n).length : Int) := by omega
        have h3 : (0 : Int) ≤ j := by omega
        have h5 : (lineC s n)[j] < (g.length : Int) := by rw [hlen]; exact hc.2
        have hv := val_le hg (rd_mem hc.1 h5)
        have h6 : rd g (lineC s n)[j] < (x.length : Int) := by rw [hx.1]; omega
        rw [drop_cons hj, clashL] at he
        simp only [h2, h3, if_true, rd_lt hj, hc.1, h5, h6, hv.1, w64n (by omega : j < 9000000000000000000)]
        have hstep : ¬ (0 < rd g (lineC s n)[j] ∧ rd g (lineC s n)[j] ∈ seen) → Ev (fun k => impl_SquareFits.l1 k g s n (lineC s n) (x.set (rd g (lineC s n)[j]).toNat true) ((j + 1 : Nat) : Int)) (!(clashL g (lineC s n) [] || linesClash g s (n + 1) (2 * s.toNat - (n + 1)))) := by
          intro hn
          rw [if_neg hn] at he
          exact ihj _ ⟨_, hx.step hv, he⟩
        by_cases hp : 0 < rd g (lineC s n)[j]
        · have hp' : rd g (lineC s n)[j] > 0 := hp
          simp only [hp', if_true]
          by_cases ht : rdOf false x (rd g (lineC s n)[j]) = true
          · simp only [ht, if_true]
            rw [if_pos ⟨hp, (hx.2 _ hv.1 hv.2).1 ht⟩] at he
            rw [he]; exact Ev.now _
          · simp only [ht, if_false]
            exact hstep (fun h => ht ((hx.2 _ hv.1 hv.2).2 h.2))
        · have hp' : ¬ rd g (lineC s n)[j] > 0 := hp
          simp only [hp', if_false]
          exact hstep (fun h => hp h.1)
  · simp only [hg, if_false, eq_false_of_ne_true hg, Bool.false_and, Bool.false_eq_true]
    exact Ev.now _

end Go.Proofs.Ytnocdmclcdfppaa.Pure
namespace Go.Proofs.Ytnocdmclcdfppaa.Pure
set_option linter.unusedSimpArgs false
set_option linter.unusedVariables false
open Go.RowKit Go.Proofs.YtnocdmclcdfppaaW.PrintWords Go.Proofs.YtnocdmclcdfppaaW.PrintMore Go.Proofs.Ytnocdmclcdfppaa.P

theorem specGridFilled_ev (g : List Int) (s : Int) (h : g.length ≤ 35184372088832) : Ev (fun k => spec_GridFilled.f k g s) (gridFilled g s) := by
  unfold spec_GridFilled.f
  refine Ev.bind (specGridValid_ev g s h) ?_
  unfold gridFilled
  by_cases hg : gridB g s = true
  · simp only [hg, if_true]
    have := Ev.range (L := fun k (x : Int) i => spec_GridFilled.l0 k g x i) (R := fun x n => x + countF (g.drop n)) (N := g.length) (fun x n => 0 ≤ x ∧ x ≤ n) ?_ ?_ 0 0 (Nat.zero_le _) (by decide)
    · simpa using this
    · intro x hx
      refine Ev.step (fun k => spec_GridFilled.l0.eq_2 _ _ _ k) ?_
      have e : countF [] = 0 := rfl
      simp only [Int.lt_irrefl, if_false, List.drop_length, e, Int.add_zero]
      exact Ev.now _
    · intro x n hn hx ih
      refine Ev.step (fun k => spec_GridFilled.l0.eq_2 _ _ _ k) ?_
      have h1 : (n : Int) < (g.length : Int) := by omega
      have h3 : (0 : Int) ≤ n := by omega
      rw [drop_cons hn, countF_cons]
      simp only [h1, h3, if_true, rd_lt hn, w64n (by omega : n < 9000000000000000000)]
      by_cases hv : 0 < g[n]
      · have hv' : g[n] > 0 := hv
        simp only [hv, hv', if_true]
        rw [w64 (x := x + 1) (by omega) (by omega)]
        have := ih (x + 1) (by omega)
        rwa [Int.add_assoc] at this
      · have hv' : ¬ g[n] > 0 := hv
        simp only [hv, hv', if_false]
        have := ih x (by omega)
        rwa [Int.zero_add]
  · simp only [hg, if_false, Bool.false_eq_true]
    exact Ev.now _
theorem implGridFilled_ev (g : List Int) (s : Int) (h : g.length ≤ 35184372088832) : Ev (fun k => impl_GridFilled.f k g s) (gridFilled g s) := by
  unfold impl_GridFilled.f
  refine Ev.bind (implGridValid_ev g s h) ?_
  unfold gridFilled
  by_cases hg : gridB g s = true
  · simp only [hg, if_true]
    have := Ev.range (L := fun k (x : Int) i => impl_GridFilled.l0 k x g (g.length : Int) i) (R := fun x n => x + countF (g.drop n)) (N := g.length) (fun x n => 0 ≤ x ∧ x ≤ n) ?_ ?_ 0 0 (Nat.zero_le _) (by decide)
    · simpa using this
    · intro x hx
      refine Ev.step (fun k => impl_GridFilled.l0.eq_2 _ _ _ _ k) ?_
      have e : countF [] = 0 := rfl
      simp only [Int.lt_irrefl, if_false, List.drop_length, e, Int.add_zero]
      exact Ev.now _
    · intro x n hn hx ih
      refine Ev.step (fun k => impl_GridFilled.l0.eq_2 _ _ _ _ k) ?_
      have h1 : (n : Int) < (g.length : Int) := by omega
      have h3 : (0 : Int) ≤ n := by omega
      rw [drop_cons hn, countF_cons]
      simp only [h1, h3, if_true, rd_lt hn, w64n (by omega : n < 9000000000000000000)]
      by_cases hv : 0 < g[n]
      · have hv' : g[n] > 0 := hv
        simp only [hv, hv', if_true]
        rw [w64 (x := x + 1) (by omega) (by omega)]
        have := ih (x + 1) (by omega)
        rwa [Int.add_assoc] at this
      · have hv' : ¬ g[n] > 0 := hv
        simp only [hv, hv', if_false]
        have := ih x (by omega)
        rwa [Int.zero_add]
  · simp only [hg, if_false, Bool.false_eq_true]
    exact Ev.now _

end Go.Proofs.Ytnocdmclcdfppaa.Pure
namespace Go.Proofs.Ytnocdmclcdfppaa.Pure
set_option linter.unusedSimpArgs false
set_option linter.unusedVariables false
open Go.RowKit Go.Proofs.YtnocdmclcdfppaaW.PrintWords Go.Proofs.YtnocdmclcdfppaaW.PrintMore Go.Proofs.Ytnocdmclcdfppaa.P

theorem squareFits_grid {g : List Int} {s : Int} (h : squareFits g s = true) : gridB g s = true := by
  unfold squareFits at h; rw [Bool.and_eq_true] at h; exact h.1
theorem wrap_sq {s : Int} (h : sizeOkB s = true) : wrap64 (s * s) = s * s := by rcases sizeOkB_iff.1 h with rfl | rfl | rfl <;> decide +kernel
theorem specSquareSolved_ev (g : List Int) (s : Int) (h : g.length ≤ 35184372088832) : Ev (fun k => spec_SquareSolved.f k g s) (squareSolved g s) := by
  unfold spec_SquareSolved.f squareSolved
  refine Ev.bind (specSquareFits_ev g s h) ?_
  by_cases hf : squareFits g s = true
  · simp only [hf, if_true, Bool.true_and]
    refine Ev.bind (specGridFilled_ev g s h) ?_
    rw [wrap_sq (gridB_size (squareFits_grid hf))]
    have e : (gridFilled g s == s * s) = decide (gridFilled g s = s * s) := by
      by_cases h : gridFilled g s = s * s <;> simp [h]
    rw [e]; exact Ev.now _
  · simp only [hf, if_false, eq_false_of_ne_true hf, Bool.false_and, Bool.false_eq_true]
    exact Ev.now _
theorem implSquareSolved_ev (g : List Int) (s : Int) (h : g.length ≤ 35184372088832) : Ev (fun k => impl_SquareSolved.f k g s) (squareSolved g s) := by
  unfold impl_SquareSolved.f squareSolved
  refine Ev.bind (implSquareFits_ev g s h) ?_
  by_cases hf : squareFits g s = true
  · simp only [hf, if_true, Bool.true_and]
    refine Ev.bind (implGridFilled_ev g s h) ?_
    rw [wrap_sq (gridB_size (squareFits_grid hf))]
    have e : (gridFilled g s == s * s) = decide (gridFilled g s = s * s) := by
      by_cases h : gridFilled g s = s * s <;> simp [h]
    rw [e]; exact Ev.now _
  · simp only [hf, if_false, eq_false_of_ne_true hf, Bool.false_and, Bool.false_eq_true]
    exact Ev.now _

end Go.Proofs.Ytnocdmclcdfppaa.Pure
namespace Go.Proofs.Ytnocdmclcdfppaa.Pure
set_option linter.unusedSimpArgs false
set_option linter.unusedVariables false
open Go.RowKit Go.Proofs.YtnocdmclcdfppaaW.PrintWords Go.Proofs.YtnocdmclcdfppaaW.PrintMore

def missV (vs : List Int) (v : Int) : Nat → List Int
  | 0 => []
  | n + 1 => (if vs.any (fun c => c == v) = true then [] else [v]) ++ missV vs (v + 1) n
def clashV : List Int → List Int → Bool
  | [], _ => false
  | v :: vs, seen => if 0 < v ∧ v ∈ seen then true else clashV vs (v :: seen)
def lineV (g : List Int) (s l : Int) : List Int := (lineC s l).map (fun c => rd g c)
theorem missL_eq (g cells : List Int) : ∀ (n : Nat) (v : Int), missL g cells v n = missV (cells.map (fun c => rd g c)) v n
  | 0, v => rfl
  | n + 1, v => by
    unfold missL missV
    rw [missL_eq g cells n (v + 1), List.any_map]; rfl
theorem clashL_eq (g : List Int) : ∀ (cs seen : List Int), clashL g cs seen = clashV (cs.map (fun c => rd g c)) seen
  | [], seen => rfl
  | c :: cs, seen => by
    rw [List.map_cons]
    unfold clashL clashV
    rw [clashL_eq g cs]
def missOk (n : Nat) (vs : List Int) : Bool := (missV vs 1 n).all (fun x => !vs.contains x) && decide ((n : Int) - countF vs ≤ ((missV vs 1 n).length : Int)) && (clashV vs [] || decide (((missV vs 1 n).length : Int) = (n : Int) - countF vs)) && decide ((missV (vs.map (swapV 1 2)) 1 n).length = (missV vs 1 n).length)
theorem missOk2 : ∀ a b : Fin 3, missOk 2 [(a.val : Int), (b.val : Int)] = true := by decide +kernel
theorem missOk3 : ∀ a b c : Fin 4, missOk 3 [(a.val : Int), (b.val : Int), (c.val : Int)] = true := by decide +kernel
set_option maxRecDepth 10000 in
theorem missOk4 : ∀ a b c d : Fin 5, missOk 4 [(a.val : Int), (b.val : Int), (c.val : Int), (d.val : Int)] = true := by decide +kernel
theorem missOk_all {s : Int} {vs : List Int} (hs : sizeOkB s = true) (hl : vs.length = s.toNat) (hv : ∀ v ∈ vs, 0 ≤ v ∧ v ≤ s) : missOk s.toNat vs = true := by
  rcases sizeOkB_iff.1 hs with rfl | rfl | rfl
  · obtain ⟨a, t1, rfl, h1⟩ := len_succ (n := 1) hl
    obtain ⟨b, t2, rfl, h2⟩ := len_succ h1
    obtain rfl := List.length_eq_zero_iff.1 h2
    have ha := hv a (by simp)
    have hb := hv b (by simp)
    have := missOk2 ⟨a.toNat, by omega⟩ ⟨b.toNat, by omega⟩
    simp only [show ((a.toNat : Nat) : Int) = a by omega, show ((b.toNat : Nat) : Int) = b by omega] at this
    exact this
  · obtain ⟨a, t1, rfl, h1⟩ := len_succ (n := 2) hl
    obtain ⟨b, t2, rfl, h2⟩ := len_succ h1
    obtain ⟨c, t3, rfl, h3⟩ := len_succ h2
    obtain rfl := List.length_eq_zero_iff.1 h3
    have ha := hv a (by simp)
    have hb := hv b (by simp)
    have hc := hv c (by simp)
    have := missOk3 ⟨a.toNat, by omega⟩ ⟨b.toNat, by omega⟩ ⟨c.toNat, by omega⟩
    simp only [show ((a.toNat : Nat) : Int) = a by omega, show ((b.toNat : Nat) : Int) = b by omega, show ((c.toNat : Nat) : Int) = c by omega] at this
    exact this
  · obtain ⟨a, b, c, d, rfl⟩ := len4 hl
    have ha := hv a (by simp)
    have hb := hv b (by simp)
    have hc := hv c (by simp)
    have hd := hv d (by simp)
    have := missOk4 ⟨a.toNat, by omega⟩ ⟨b.toNat, by omega⟩ ⟨c.toNat, by omega⟩ ⟨d.toNat, by omega⟩
    simp only [show ((a.toNat : Nat) : Int) = a by omega, show ((b.toNat : Nat) : Int) = b by omega, show ((c.toNat : Nat) : Int) = c by omega, show ((d.toNat : Nat) : Int) = d by omega] at this
    exact this
theorem lineC_in {g : List Int} {s l : Int} (hg : gridB g s = true) : ∀ c ∈ lineC s l, 0 ≤ c ∧ c < (g.length : Int) := by
  intro c hc
  rw [gridB_len hg]
  exact lineC_mem c hc
theorem lineC_lenS {s l : Int} (h : lineOkB s l = true) : (lineC s l).length = s.toNat := by
  unfold lineC; rw [if_pos h, List.length_map, List.length_range]
theorem lineV_ok {g : List Int} {s l : Int} (hg : gridB g s = true) (h : lineOkB s l = true) : missOk s.toNat (lineV g s l) = true := by
  refine missOk_all (gridB_size hg) (by unfold lineV; rw [List.length_map, lineC_lenS h]) (fun v hv => ?_)
  unfold lineV at hv
  obtain ⟨c, hc, rfl⟩ := List.mem_map.1 hv
  obtain ⟨h0, h1⟩ := lineC_in hg c hc
  exact gridB_mem hg _ (rd_mem h0 h1)
theorem missingIn_eq {g : List Int} {s l : Int} (hg : gridB g s = true) (h : lineOkB s l = true) : missingIn g s l = missV (lineV g s l) 1 s.toNat := by
  unfold missingIn; rw [if_pos ⟨hg, h⟩, missL_eq]; rfl
theorem missing_not {g : List Int} {s l : Int} (hg : gridB g s = true) (h : lineOkB s l = true) {v : Int} (hv : v ∈ missingIn g s l) : v ∉ lineV g s l := by
  rw [missingIn_eq hg h] at hv
  have := lineV_ok hg h
  unfold missOk at this
  simp only [Bool.and_eq_true, List.all_eq_true] at this
  have h2 := this.1.1.1 v hv
  simpa using h2
theorem missing_ge {g : List Int} {s l : Int} (hg : gridB g s = true) (h : lineOkB s l = true) : s - countF (lineV g s l) ≤ ((missingIn g s l).length : Int) := by
  rw [missingIn_eq hg h]
  have := lineV_ok hg h
  have hsn := (size_or (gridB_size hg)).2
  unfold missOk at this
  simp only [Bool.and_eq_true, decide_eq_true_eq] at this
  have h2 := this.1.1.2
  omega
theorem missing_eq {g : List Int} {s l : Int} (hf : squareFits g s = true) (h : lineOkB s l = true) : ((missingIn g s l).length : Int) = s - countF (lineV g s l) := by
  have hg := squareFits_grid hf
  rw [missingIn_eq hg h]
  have := lineV_ok hg h
  have hsn := (size_or (gridB_size hg)).2
  unfold missOk at this
  simp only [Bool.and_eq_true, decide_eq_true_eq, Bool.or_eq_true] at this
  rcases this.1.2 with h2 | h2
  · exfalso
    have hc : clashL g (lineC s l) [] = false := by
      unfold lineOkB at h
      simp only [Bool.and_eq_true, decide_eq_true_eq] at h
      unfold squareFits at hf
      rw [Bool.and_eq_true, Bool.not_eq_true', linesClash_iff] at hf
      have h3 := hf.2 l.toNat (by omega)
      rwa [Nat.zero_add, show ((l.toNat : Nat) : Int) = l by omega] at h3
    rw [clashL_eq] at hc
    rw [show clashV (List.map (fun c => rd g c) (lineC s l)) [] = clashV (lineV g s l) [] from rfl, h2] at hc
    cases hc
  · omega
theorem missing_swap {g : List Int} {s l : Int} (hg : gridB g s = true) (h : lineOkB s l = true) : (missingIn (g.map (swapV 1 2)) s l).length = (missingIn g s l).length := by
  have ho : swapOkB g s 1 2 = true := by
    unfold swapOkB
    rw [hg]
    rcases sizeOkB_iff.1 (gridB_size hg) with rfl | rfl | rfl <;> rfl
  rw [missingIn_eq hg h, missingIn_eq (swap_grid ho) h]
  have := lineV_ok hg h
  unfold missOk at this
  simp only [Bool.and_eq_true, decide_eq_true_eq] at this
  have e : lineV (g.map (swapV 1 2)) s l = (lineV g s l).map (swapV 1 2) := by
    unfold lineV
    rw [List.map_map]
    refine List.map_congr_left (fun c hc => ?_)
    obtain ⟨h0, h1⟩ := lineC_in hg c hc
    obtain ⟨n, rfl⟩ := Int.eq_ofNat_of_zero_le h0
    exact rd_map _ (by omega)
  rw [e]
  exact this.2
theorem missing_bad {g : List Int} {s l : Int} (h : ¬ (gridB g s = true ∧ lineOkB s l = true)) : missingIn g s l = [] := by unfold missingIn; rw [if_neg h]

end Go.Proofs.Ytnocdmclcdfppaa.Pure
namespace Go.Proofs.Ytnocdmclcdfppaa.Pure
set_option linter.unusedSimpArgs false
set_option linter.unusedVariables false
open Go.RowKit Go.Proofs.YtnocdmclcdfppaaW.PrintWords Go.Proofs.YtnocdmclcdfppaaW.PrintMore

theorem countF_full : ∀ (g : List Int), countF g = (g.length : Int) → ∀ v ∈ g, 0 < v
  | [], _ => by simp
  | v :: g, h => by
    rw [countF_cons, List.length_cons] at h
    have := countF_le g
    have hv : 0 < v := by
      by_cases hv : 0 < v
      · exact hv
      · rw [if_neg hv] at h; omega
    rw [if_pos hv] at h
    intro u hu
    rcases List.mem_cons.1 hu with rfl | hu
    · exact hv
    · exact countF_full g (by omega) u hu
theorem countF_all : ∀ (g : List Int), (∀ v ∈ g, 0 < v) → countF g = (g.length : Int)
  | [], _ => rfl
  | v :: g, h => by
    rw [countF_cons, List.length_cons, if_pos (h v (by simp)), countF_all g (fun u hu => h u (by simp [hu]))]
    omega
theorem solved_parts {g : List Int} {s : Int} (h : squareSolved g s = true) : squareFits g s = true ∧ gridFilled g s = s * s := by
  unfold squareSolved at h
  simpa using h
theorem solved_missing {g : List Int} {s l : Int} (h : squareSolved g s = true) (hl : lineOkB s l = true) : ((missingIn g s l).length : Int) = 0 := by
  obtain ⟨hf, hc⟩ := solved_parts h
  have hg := squareFits_grid hf
  have hsn := (size_or (gridB_size hg)).2
  have e : gridFilled g s = countF g := by unfold gridFilled; rw [if_pos hg]
  have hall := countF_full g (by rw [← e, hc, gridB_len hg])
  rw [missing_eq hf hl, countF_all]
  · unfold lineV
    rw [List.length_map, lineC_lenS hl]; omega
  · intro v hv
    unfold lineV at hv
    obtain ⟨c, hcc, rfl⟩ := List.mem_map.1 hv
    obtain ⟨h0, h1⟩ := lineC_in hg c hcc
    exact hall _ (rd_mem h0 h1)
theorem solved_turn {g : List Int} {s : Int} (h : squareSolved g s = true) : squareSolved (turnL g s.toNat) s = true := by
  obtain ⟨hf, hc⟩ := solved_parts h
  have hg := squareFits_grid hf
  unfold squareSolved
  rw [squareFits_turn hg, hf, filled_turn hg, hc]
  simp

end Go.Proofs.Ytnocdmclcdfppaa.Pure
namespace Go.Proofs.Ytnocdmclcdfppaa.Pure
set_option linter.unusedSimpArgs false
set_option linter.unusedVariables false
open Go.RowKit Go.Proofs.YtnocdmclcdfppaaW.PrintWords Go.Proofs.YtnocdmclcdfppaaW.PrintMore Go.Proofs.Ytnocdmclcdfppaa.P

theorem specGridTurn_ev (g : List Int) (s : Int) (h : g.length ≤ 35184372088832) : Ev (fun k => spec_GridTurn.f k g s) (turnG g s) := by
  unfold spec_GridTurn.f
  by_cases hg : gridB g s = true
  · have e : turnG g s = turnL g s.toNat := by unfold turnG; rw [if_pos hg]
    have hl := gridB_len hg
    have := Ev.range (L := fun k (x : List Int) i => spec_GridTurn.l0 k g s x i) (R := fun _ _ => turnL g s.toNat) (N := g.length) (fun x n => x = (List.range n).map (fun k => g.getD ((s.toNat - 1 - k % s.toNat) * s.toNat + k / s.toNat) 0)) ?_ ?_ [] 0 (Nat.zero_le _) rfl
    · rw [e]; simpa using this
    · rintro x rfl
      refine Ev.step (fun k => spec_GridTurn.l0.eq_2 _ _ _ _ k) ?_
      simp only [Int.lt_irrefl, if_false]
      have hn : g.length = s.toNat * s.toNat := by
        rcases sizeOkB_iff.1 (gridB_size hg) with rfl | rfl | rfl <;> simp_all <;> omega
      rw [hn]
      exact Ev.now _
    · rintro x n hn rfl ih
      refine Ev.step (fun k => spec_GridTurn.l0.eq_2 _ _ _ _ k) ?_
      have h1 : (n : Int) < (g.length : Int) := by omega
      simp only [h1, if_true]
      refine Ev.bind (specGridValid_ev g s h) ?_
      have hs0 : ¬ s = 0 := by rcases sizeOkB_iff.1 (gridB_size hg) with rfl | rfl | rfl <;> decide
      have hidx : (wrap64 ((wrap64 ((wrap64 ((wrap64 (s - 1)) - (Int.tmod n s))) * s)) + (wrap64 (Int.tdiv n s)))) = (((s.toNat - 1 - n % s.toNat) * s.toNat + n / s.toNat : Nat) : Int) ∧ (s.toNat - 1 - n % s.toNat) * s.toNat + n / s.toNat < g.length := by
        rw [Int.tmod_eq_emod_of_nonneg (by omega), Int.tdiv_eq_ediv_of_nonneg (by omega)]
        unfold wrap64
        rcases sizeOkB_iff.1 (gridB_size hg) with rfl | rfl | rfl
        · have e1 : (2 : Int).toNat = 2 := rfl
          rw [e1]; omega
        · have e1 : (3 : Int).toNat = 3 := rfl
          rw [e1]; omega
        · have e1 : (4 : Int).toNat = 4 := rfl
          rw [e1]; omega
      obtain ⟨hi, hj⟩ := hidx
      have hj1 : (((s.toNat - 1 - n % s.toNat) * s.toNat + n / s.toNat : Nat) : Int) < (g.length : Int) := by omega
      have hj0 : (0 : Int) ≤ (((s.toNat - 1 - n % s.toNat) * s.toNat + n / s.toNat : Nat) : Int) := Int.natCast_nonneg _
      have hlen : ((List.range n).map (fun k => g.getD ((s.toNat - 1 - k % s.toNat) * s.toNat + k / s.toNat) 0)).length < 17592186044416 := by
        rw [List.length_map, List.length_range]; have := gridB_le hg; omega
      simp only [hg, if_true, hs0, if_false, hi, hj1, hj0, hlen, w64n (by omega : n < 9000000000000000000)]
      refine ih _ ?_
      rw [List.range_succ, List.map_append, List.map_singleton, rd_nat]
  · have e : turnG g s = [] := by unfold turnG; rw [if_neg hg]
    rw [e]
    refine Ev.step (fun k => spec_GridTurn.l0.eq_2 _ _ _ _ k) ?_
    by_cases h0 : (0 : Int) < (g.length : Int)
    · simp only [h0, if_true]
      refine Ev.bind (specGridValid_ev g s h) ?_
      simp only [hg, if_false, Bool.false_eq_true]
      exact Ev.now _
    · simp only [h0, if_false]
      exact Ev.now _
theorem implTurn2 (a b c d : Int) : impl_GridTurn.l0 40 [a, b, c, d] 2 [] 2 0 = some (turnL [a, b, c, d] 2) := by kernel_rfl
theorem implTurn3 (a0 a1 a2 a3 a4 a5 a6 a7 a8 : Int) : impl_GridTurn.l0 40 [a0, a1, a2, a3, a4, a5, a6, a7, a8] 3 [] 3 0 = some (turnL [a0, a1, a2, a3, a4, a5, a6, a7, a8] 3) := by kernel_rfl
theorem implTurn4 (a0 a1 a2 a3 a4 a5 a6 a7 a8 a9 a10 a11 a12 a13 a14 a15 : Int) : impl_GridTurn.l0 40 [a0, a1, a2, a3, a4, a5, a6, a7, a8, a9, a10, a11, a12, a13, a14, a15] 4 [] 4 0 = some (turnL [a0, a1, a2, a3, a4, a5, a6, a7, a8, a9, a10, a11, a12, a13, a14, a15] 4) := by kernel_rfl
theorem implTurn_mono_l : ∀ (g : List Int) (s : Int) (x : List Int) (n i : Int), ∀ k, LeO (impl_GridTurn.l0 k g s x n i) (impl_GridTurn.l0 (k + 1) g s x n i) := fun g s x n i k => (impl_GridTurn.mono_l k).1 g s x n i
theorem implGridTurn_ev (g : List Int) (s : Int) (h : g.length ≤ 35184372088832) : Ev (fun k => impl_GridTurn.f k g s) (turnG g s) := by
  unfold impl_GridTurn.f
  refine Ev.bind (implGridValid_ev g s h) ?_
  by_cases hg : gridB g s = true
  · have e : turnG g s = turnL g s.toNat := by unfold turnG; rw [if_pos hg]
    have h0 : (0 : Int) ≤ (g.length : Int) := Int.natCast_nonneg _
    have h1 : ((g.length : Int) : Int).toNat ≤ 35184372088832 := by simpa using h
    simp only [hg, if_true, h0, h1, e]
    have hl := gridB_len hg
    rcases sizeOkB_iff.1 (gridB_size hg) with rfl | rfl | rfl
    · obtain ⟨a, b, c, d, rfl⟩ := len4 (g := g) (by omega)
      exact Ev.of (implTurn_mono_l _ _ _ _ _) (implTurn2 a b c d)
    · obtain ⟨a0, a1, a2, a3, a4, a5, a6, a7, a8, rfl⟩ := len9 (g := g) (by omega)
      exact Ev.of (implTurn_mono_l _ _ _ _ _) (implTurn3 a0 a1 a2 a3 a4 a5 a6 a7 a8)
    · obtain ⟨a0, a1, a2, a3, a4, a5, a6, a7, a8, a9, a10, a11, a12, a13, a14, a15, rfl⟩ := len16 (g := g) (by omega)
      exact Ev.of (implTurn_mono_l _ _ _ _ _) (implTurn4 a0 a1 a2 a3 a4 a5 a6 a7 a8 a9 a10 a11 a12 a13 a14 a15)
  · have e : turnG g s = [] := by unfold turnG; rw [if_neg hg]
    simp only [hg, if_false, e, Bool.false_eq_true]
    exact Ev.now _

end Go.Proofs.Ytnocdmclcdfppaa.Pure
namespace Go.Proofs.Ytnocdmclcdfppaa.Pure
set_option linter.unusedSimpArgs false
set_option linter.unusedVariables false
open Go.RowKit Go.Proofs.YtnocdmclcdfppaaW.PrintWords Go.Proofs.YtnocdmclcdfppaaW.PrintMore Go.Proofs.Ytnocdmclcdfppaa.P

theorem drawSquareSolved_ev (l : List Int) (hl : ∀ x ∈ l, (Lit.int .u8 x).wf = true) : ∃ g s, Drawn g ∧ Ev (fun k => spec_DrawSquareSolved.f k l) (g, s) := by
  obtain ⟨b, hb, ho⟩ := open_eq l hl
  obtain ⟨i, h0, h1, hi⟩ := pick_ev hb (p := 0) (n := 2) (by decide) (by decide) (by decide)
  by_cases e : i = 0
  · obtain ⟨s, hs, h2⟩ := size0_ev hb (p := 0 + 1) (by decide) (by decide)
    obtain ⟨g, hgm, h3⟩ := solved_ev hb (p := 0 + 1 + 1) hs (by decide) (by decide)
    refine ⟨g, s, Drawn.of_grid (allSquares_ok hs hgm).1, ?_⟩
    unfold spec_DrawSquareSolved.f
    simp only [ho, Option.bind_some]
    refine Ev.bind hi ?_
    simp only [e, if_true]
    refine Ev.bind h2 ?_
    refine Ev.bind h3 ?_
    exact Ev.now _
  · obtain ⟨g, s, p', hg, hs, hp0, hp1, hd0⟩ := grid_ev hb (n := 9) (p := 0 + 1) (by decide) (by decide) (by decide) (by decide)
    refine ⟨g, s, hg, ?_⟩
    unfold spec_DrawSquareSolved.f
    simp only [ho, Option.bind_some]
    refine Ev.bind hi ?_
    simp only [e, if_false]
    refine Ev.bind hd0 ?_
    exact Ev.now _
theorem FnSquareSolved : laws_FnSquareSolved.Pure := by
  intro l _ _ hl
  apply Ev.rounds
  unfold laws_FnSquareSolved.f
  by_cases hlen : (l.length : Int) > 1048576
  · simp only [hlen, if_true]; exact Ev.now _
  simp only [hlen, if_false]
  have halive : Ev (fun k => (laws_alive.f k).bind fun t => some t) true := Ev.bind alive_ev (Ev.now _)
  obtain ⟨b, hb, ho⟩ := open_eq l hl
  obtain ⟨g, s, p', hg, hs, hp0, hp1, hd0⟩ := grid_ev hb (n := 9) (p := 0) (by decide) (by decide) (by decide) (by decide)
  clear hg hs hp0 hp1 hd0 ho hb b
  clear g s p'
  obtain ⟨g, s, hg, hd⟩ := drawSquareSolved_ev l hl
  refine Ev.bind hd ?_
  refine Ev.bind (implSquareSolved_ev g s hg.le) ?_
  refine Ev.bind (specSquareSolved_ev g s hg.le) ?_
  simp only [bne_self_eq_false, Bool.false_eq_true, if_false]
  by_cases h : squareSolved g s = true
  · simp only [h, if_true]
    obtain ⟨hf, hc⟩ := solved_parts h
    have hgr := squareFits_grid hf
    obtain ⟨hn, hsn⟩ := size_or (gridB_size hgr)
    have hs4 : wrap64 (2 * s) = ((2 * s.toNat : Nat) : Int) := by rcases sizeOkB_iff.1 (gridB_size hgr) with rfl | rfl | rfl <;> decide +kernel
    have hlen := gridB_le hgr
    have l1 := gridB_le (turnL_grid hgr)
    refine Ev.range0 (L := fun k j => laws_FnSquareSolved.l0 k g s j) (R := fun _ => true) (N := 2 * s.toNat) ?_ ?_ 0 (Nat.zero_le _)
    · refine Ev.step (fun k => laws_FnSquareSolved.l0.eq_2 _ _ _ k) ?_
      simp only [hs4, Int.lt_irrefl, if_false]
      refine Ev.bind (implGridTurn_ev g s hg.le) ?_
      rw [turnG_of hgr]
      refine Ev.bind (implSquareSolved_ev _ s (by omega)) ?_
      rw [solved_turn h]
      simp only [if_true]
      refine Ev.bind (implGridFilled_ev g s hg.le) ?_
      have : wrap64 (s * s) = s * s := by rcases sizeOkB_iff.1 (gridB_size hgr) with rfl | rfl | rfl <;> decide +kernel
      rw [hc, this]
      simp only [beq_self_eq_true]
      exact Ev.now _
    · intro j hj ih
      refine Ev.step (fun k => laws_FnSquareSolved.l0.eq_2 _ _ _ k) ?_
      have h1 : (j : Int) < ((2 * s.toNat : Nat) : Int) := by omega
      simp only [hs4, h1, if_true]
      refine Ev.bind (implMissingIn_ev g s j hg.le) ?_
      have hlo : lineOkB s (j : Int) = true := by
        unfold lineOkB
        rw [gridB_size hgr, Bool.true_and, decide_eq_true_iff]; omega
      have hj2 : j < 9000000000000000000 := by rcases hn with e | e | e <;> omega
      simp only [solved_missing h hlo, if_true, w64n hj2]
      exact ih
  · simp only [h, if_false]
    exact halive

end Go.Proofs.Ytnocdmclcdfppaa.Pure
