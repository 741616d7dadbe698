/- The candidates of a cell. Conditions: as stated in each. -/
import Derived.Test.YtnocdmclcdfppaaWWords
import Derived.Test.YtnocdmclcdfppaaWMore
import Derived.Test.YtnocdmclcdfppaaHas
import Derived.Test.YtnocdmclcdfppaaModel
namespace Go.Proofs.Ytnocdmclcdfppaa.Pure
set_option linter.unusedSimpArgs false
set_option linter.unusedVariables false
open Go.RowKit Go.Proofs.YtnocdmclcdfppaaW.PrintWords Go.Proofs.YtnocdmclcdfppaaW.PrintMore

/-- Cell k of row r / of column c, for a size. -/
def rowCell (n i k : Nat) : Nat := i / n * n + k
def colCell (n i k : Nat) : Nat := k * n + i % n
/-- Does no cell of the row and column of cell i, the first m of each, have the value? -/
def freeB (g : List Int) (n i : Nat) (v : Int) : Nat → Bool
  | 0 => true
  | m + 1 => freeB g n i v m && (decide (rd g (rowCell n i m : Nat) ≠ v) && decide (rd g (colCell n i m : Nat) ≠ v))
/-- The mask of the values that a cell can have: values u .. v - 1. -/
def maskUpto (p : Int → Bool) : Nat → Int
  | 0 => 0
  | n + 1 => maskUpto p n + (if p (n + 1) = true then 2 ^ (n + 1) else 0)
def candCell (g : List Int) (n i : Nat) : Int := if 0 < rd g (i : Nat) then 2 ^ (rd g (i : Nat)).toNat else maskUpto (fun v => freeB g n i v n) n
def candidates (g : List Int) (s : Int) : List Int := if gridB g s = true then (List.range g.length).map (fun i => candCell g s.toNat i) else []
theorem candidates_len (g : List Int) (s : Int) : (candidates g s).length ≤ 16 := by
  unfold candidates; split
  · rename_i h; rw [List.length_map, List.length_range]; exact gridB_le h
  · exact Nat.zero_le _
theorem mask_ext_fin : ∀ a : Fin 32, ∀ b : Fin 32, (a.val % 2 = 0 ∧ b.val % 2 = 0 ∧ (∀ v : Fin 5, 1 ≤ v.val → has (a.val : Int) (v.val : Int) = has (b.val : Int) (v.val : Int))) → a = b := by decide +kernel
/-- Two masks with the same values are the same. -/
theorem mask_ext {a b : Int} (ha : 0 ≤ a ∧ a ≤ 30 ∧ a % 2 = 0) (hb : 0 ≤ b ∧ b ≤ 30 ∧ b % 2 = 0) (h : ∀ v : Int, 1 ≤ v → v ≤ 4 → has a v = has b v) : a = b := by
  have := mask_ext_fin ⟨a.toNat, by omega⟩ ⟨b.toNat, by omega⟩ ⟨by simp only; omega, by simp only; omega, fun v hv => by
    simp only [show ((a.toNat : Nat) : Int) = a by omega, show ((b.toNat : Nat) : Int) = b by omega]
    exact h _ (by omega) (by have := v.isLt; omega)⟩
  simp only [Fin.mk.injEq] at this
  omega
theorem maskUpto_fin : ∀ m : Fin 5, ∀ b1 b2 b3 b4 : Bool, let p : Int → Bool := fun v => if v = 1 then b1 else if v = 2 then b2 else if v = 3 then b3 else b4
    (0 ≤ maskUpto p m.val ∧ maskUpto p m.val ≤ 30 ∧ maskUpto p m.val % 2 = 0) ∧ ∀ v : Fin 5, 1 ≤ v.val → has (maskUpto p m.val) (v.val : Int) = (decide (v.val ≤ m.val) && p (v.val : Int)) := by decide +kernel
theorem or_up_fin : ∀ a : Fin 4, ∀ b1 b2 b3 : Bool, Go.bits .or .i64 (maskUpto (fun v => if v = 1 then b1 else if v = 2 then b2 else b3) a.val) (shl .i64 1 ((a.val : Int) + 1)) = maskUpto (fun v => if v = 1 then b1 else if v = 2 then b2 else b3) a.val + 2 ^ (a.val + 1) := by
  intro a b1 b2 b3
  match a with
  | 0 => revert b1 b2 b3; decide +kernel
  | 1 => revert b1 b2 b3; decide +kernel
  | 2 => revert b1 b2 b3; decide +kernel
  | 3 => revert b1 b2 b3; decide +kernel
theorem maskUpto_congr {p q : Int → Bool} {n : Nat} (h : ∀ v : Int, 1 ≤ v → v ≤ n → p v = q v) : maskUpto p n = maskUpto q n := by
  induction n with
  | zero => rfl
  | succ n ih =>
    unfold maskUpto
    rw [ih (fun v h1 h2 => h v h1 (by omega)), h ((n : Int) + 1) (by omega) (by omega)]
theorem maskUpto_or {p : Int → Bool} {m : Nat} (hm : m < 4) (hp : p ((m : Int) + 1) = true) : Go.bits .or .i64 (maskUpto p m) (shl .i64 1 ((m : Int) + 1)) = maskUpto p (m + 1) := by
  rw [maskUpto, if_pos hp]
  have ho := or_up_fin ⟨m, hm⟩ (p 1) (p 2) (p 3)
  rw [maskUpto_congr (q := p) (n := m) (fun v h1 h2 => by
    have : v = 1 ∨ v = 2 ∨ v = 3 := by omega
    rcases this with rfl | rfl | rfl <;> rfl)] at ho
  exact ho
theorem maskUpto_spec (p : Int → Bool) {n : Nat} (hn : n ≤ 4) : (0 ≤ maskUpto p n ∧ maskUpto p n ≤ 30 ∧ maskUpto p n % 2 = 0) ∧ ∀ v : Int, 1 ≤ v → v ≤ 4 → has (maskUpto p n) v = (decide (v ≤ n) && p v) := by
  have e : maskUpto p n = maskUpto (fun v => if v = 1 then p 1 else if v = 2 then p 2 else if v = 3 then p 3 else p 4) n := by
    apply maskUpto_congr
    intro v h1 h2
    have : v = 1 ∨ v = 2 ∨ v = 3 ∨ v = 4 := by omega
    rcases this with rfl | rfl | rfl | rfl <;> rfl
  have hf := maskUpto_fin ⟨n, by omega⟩ (p 1) (p 2) (p 3) (p 4)
  simp only at hf
  rw [e]
  refine ⟨hf.1, fun v h1 h2 => ?_⟩
  have := hf.2 ⟨v.toNat, by omega⟩ (by simp only; omega)
  simp only [show ((v.toNat : Nat) : Int) = v by omega] at this
  rw [this]
  have hv : v = 1 ∨ v = 2 ∨ v = 3 ∨ v = 4 := by omega
  have hd : decide (v.toNat ≤ n) = decide (v ≤ (n : Int)) := by
    by_cases hle : v ≤ (n : Int)
    · rw [decide_eq_true hle, decide_eq_true (by omega)]
    · rw [decide_eq_false hle, decide_eq_false (by omega)]
  rw [hd]
  rcases hv with rfl | rfl | rfl | rfl <;> rfl
theorem shl1_fin : ∀ v : Fin 5, shl .i64 1 (v.val : Int) = 2 ^ v.val := by decide +kernel
theorem shl1 {v : Int} (h : 0 ≤ v ∧ v ≤ 4) : shl .i64 1 v = 2 ^ v.toNat := by
  have := shl1_fin ⟨v.toNat, by omega⟩
  simp only [show ((v.toNat : Nat) : Int) = v by omega] at this
  exact this
theorem rowcol_lt {n i k : Nat} (hn : n = 2 ∨ n = 3 ∨ n = 4) (hi : i < n * n) (hk : k < n) : rowCell n i k < n * n ∧ colCell n i k < n * n := by
  unfold rowCell colCell
  rcases hn with rfl | rfl | rfl <;> omega
theorem size_or {s : Int} (h : sizeOkB s = true) : (s.toNat = 2 ∨ s.toNat = 3 ∨ s.toNat = 4) ∧ s = (s.toNat : Int) := by
  rcases sizeOkB_iff.1 h with rfl | rfl | rfl <;> decide
theorem row_idx {n i k : Nat} (hn : n = 2 ∨ n = 3 ∨ n = 4) (hi : i < n * n) (hk : k < n) : wrap64 ((wrap64 ((wrap64 (Int.tdiv (i : Int) (n : Int))) * (n : Int))) + (k : Int)) = ((rowCell n i k : Nat) : Int) := by
  rw [Int.tdiv_eq_ediv_of_nonneg (by omega)]
  unfold rowCell wrap64
  rcases hn with rfl | rfl | rfl <;> omega
theorem col_idx {n i k : Nat} (hn : n = 2 ∨ n = 3 ∨ n = 4) (hi : i < n * n) (hk : k < n) : wrap64 ((wrap64 ((k : Int) * (n : Int))) + (Int.tmod (i : Int) (n : Int))) = ((colCell n i k : Nat) : Int) := by
  rw [Int.tmod_eq_emod_of_nonneg (by omega)]
  unfold colCell wrap64
  rcases hn with rfl | rfl | rfl <;> omega
theorem grid_len {g : List Int} {s : Int} (h : gridB g s = true) : g.length = s.toNat * s.toNat := by
  have h1 := gridB_len h
  have h2 := (size_or (gridB_size h)).2
  rw [h2] at h1
  exact_mod_cast h1
theorem freeB_succ_false {g : List Int} {n i : Nat} {v : Int} {m : Nat} (h : freeB g n i v m = false) : ∀ d, freeB g n i v (m + d) = false
  | 0 => h
  | d + 1 => by rw [show m + (d + 1) = (m + d) + 1 from rfl, freeB, freeB_succ_false h d]; rfl

end Go.Proofs.Ytnocdmclcdfppaa.Pure
