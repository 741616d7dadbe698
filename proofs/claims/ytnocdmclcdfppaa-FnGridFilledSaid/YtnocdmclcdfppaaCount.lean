/- How many solved grids there are. Conditions: as stated in each. -/
import Derived.Test.YtnocdmclcdfppaaWWords
import Derived.Test.YtnocdmclcdfppaaWMore
import Derived.Test.YtnocdmclcdfppaaBase
import Derived.Test.YtnocdmclcdfppaaCandA
import Derived.Test.YtnocdmclcdfppaaFits
import Derived.Test.YtnocdmclcdfppaaModel
import Derived.Test.YtnocdmclcdfppaaSols
namespace Go.Proofs.Ytnocdmclcdfppaa.Pure
set_option linter.unusedSimpArgs false
set_option linter.unusedVariables false
open Go.RowKit Go.Proofs.YtnocdmclcdfppaaW.PrintWords Go.Proofs.YtnocdmclcdfppaaW.PrintMore

theorem cnt2 : cnt 2 4 4 [0, 0, 0, 0] = 2 := by decide +kernel
theorem cnt3 : cnt 3 9 9 [0, 0, 0, 0, 0, 0, 0, 0, 0] = 12 := by decide +kernel
set_option maxRecDepth 100000 in
theorem cnt4_1 : cnt 4 16 15 [1, 0, 0, 0, 0, 0, 0, 0, 0, 0, 0, 0, 0, 0, 0, 0] = 144 := by decide +kernel
set_option maxRecDepth 100000 in
theorem cnt4_2 : cnt 4 16 15 [2, 0, 0, 0, 0, 0, 0, 0, 0, 0, 0, 0, 0, 0, 0, 0] = 144 := by decide +kernel
set_option maxRecDepth 100000 in
theorem cnt4_3 : cnt 4 16 15 [3, 0, 0, 0, 0, 0, 0, 0, 0, 0, 0, 0, 0, 0, 0, 0] = 144 := by decide +kernel
set_option maxRecDepth 100000 in
theorem cnt4_4 : cnt 4 16 15 [4, 0, 0, 0, 0, 0, 0, 0, 0, 0, 0, 0, 0, 0, 0, 0] = 144 := by decide +kernel
theorem free4 : ∀ v : Fin 4, freeB [0, 0, 0, 0, 0, 0, 0, 0, 0, 0, 0, 0, 0, 0, 0, 0] 4 0 ((v.val : Int) + 1) 4 = true := by decide +kernel
theorem cntV4 (f : List Int → Nat) : cntV f [0, 0, 0, 0, 0, 0, 0, 0, 0, 0, 0, 0, 0, 0, 0, 0] 4 0 1 4 = f [1, 0, 0, 0, 0, 0, 0, 0, 0, 0, 0, 0, 0, 0, 0, 0] + (f [2, 0, 0, 0, 0, 0, 0, 0, 0, 0, 0, 0, 0, 0, 0, 0] + (f [3, 0, 0, 0, 0, 0, 0, 0, 0, 0, 0, 0, 0, 0, 0, 0] + (f [4, 0, 0, 0, 0, 0, 0, 0, 0, 0, 0, 0, 0, 0, 0, 0] + 0))) := by
  unfold cntV; rw [if_pos (show freeB [0, 0, 0, 0, 0, 0, 0, 0, 0, 0, 0, 0, 0, 0, 0, 0] 4 0 1 4 = true from free4 0)]
  unfold cntV; rw [if_pos (show freeB [0, 0, 0, 0, 0, 0, 0, 0, 0, 0, 0, 0, 0, 0, 0, 0] 4 0 (1 + 1) 4 = true from free4 1)]
  unfold cntV; rw [if_pos (show freeB [0, 0, 0, 0, 0, 0, 0, 0, 0, 0, 0, 0, 0, 0, 0, 0] 4 0 (1 + 1 + 1) 4 = true from free4 2)]
  unfold cntV; rw [if_pos (show freeB [0, 0, 0, 0, 0, 0, 0, 0, 0, 0, 0, 0, 0, 0, 0, 0] 4 0 (1 + 1 + 1 + 1) 4 = true from free4 3)]
  rfl
theorem cnt4 : cnt 4 16 16 [0, 0, 0, 0, 0, 0, 0, 0, 0, 0, 0, 0, 0, 0, 0, 0] = 576 := by
  rw [cnt, cntV4, cnt4_1, cnt4_2, cnt4_3, cnt4_4]
def zeros (s : Int) : List Int := List.replicate (s.toNat * s.toNat) 0
def allSquares (s : Int) : List (List Int) := sols s.toNat (s.toNat * s.toNat) (s.toNat * s.toNat) (zeros s)
def squaresMany (s : Int) : Int := if s = 2 then 2 else if s = 3 then 12 else 576
theorem allSquares_len {s : Int} (h : sizeOkB s = true) : ((allSquares s).length : Int) = squaresMany s := by
  unfold allSquares
  rw [cnt_eq]
  rcases sizeOkB_iff.1 h with rfl | rfl | rfl
  · exact congrArg Int.ofNat cnt2
  · exact congrArg Int.ofNat cnt3
  · exact congrArg Int.ofNat cnt4
theorem rd_zeros (s : Int) (i : Nat) : rd (zeros s) (i : Int) = 0 := by
  rw [rd_nat]; unfold zeros
  rw [List.getD_eq_getElem?_getD, List.getElem?_replicate]
  split <;> rfl
theorem zeros_grid {s : Int} (h : sizeOkB s = true) : gridB (zeros s) s = true := by rcases sizeOkB_iff.1 h with rfl | rfl | rfl <;> decide +kernel
theorem zeros_fits (s : Int) : Fits (zeros s) s.toNat := by
  intro l _ i j _ _ _ hp; rw [rd_zeros] at hp; omega
theorem allSquares_ok {s : Int} (hs : sizeOkB s = true) {x : List Int} (h : x ∈ allSquares s) : gridB x s = true ∧ Fits x s.toNat ∧ ∀ i : Nat, i < s.toNat * s.toNat → 0 < rd x (i : Int) :=
  sols_ok hs _ _ (Nat.le_refl _) (zeros_grid hs) (zeros_fits s) (fun i _ => rd_zeros s i) (fun i hi => by omega) h
/-- The solved grid with a number. -/
def squareNumber (s m : Int) : List Int := if sizeOkB s = true ∧ 0 ≤ m then (allSquares s).getD m.toNat [] else []
theorem squareNumber_mem {s m : Int} (hs : sizeOkB s = true) (h0 : 0 ≤ m) (h1 : m < squaresMany s) : squareNumber s m ∈ allSquares s := by
  unfold squareNumber
  rw [if_pos ⟨hs, h0⟩]
  have hl := allSquares_len hs
  rw [List.getD_eq_getElem?_getD, List.getElem?_eq_getElem (by omega), Option.getD_some]
  exact List.getElem_mem _
theorem squareNumber_nil {s m : Int} (hs : sizeOkB s = true) (h1 : squaresMany s ≤ m) : squareNumber s m = [] := by
  unfold squareNumber
  have hl := allSquares_len hs
  split
  · rw [List.getD_eq_getElem?_getD, List.getElem?_eq_none (by omega)]; rfl
  · rfl
theorem squareNumber_len (s m : Int) : (squareNumber s m).length ≤ 16 := by
  by_cases h : sizeOkB s = true ∧ 0 ≤ m ∧ m < squaresMany s
  · exact gridB_le (allSquares_ok h.1 (squareNumber_mem h.1 h.2.1 h.2.2)).1
  · unfold squareNumber
    split
    · rename_i h2
      have := squareNumber_nil h2.1 (m := m) (Int.not_lt.1 (fun hlt => h ⟨h2.1, h2.2, hlt⟩))
      unfold squareNumber at this
      rw [if_pos h2] at this
      rw [this]; exact Nat.zero_le _
    · exact Nat.zero_le _

end Go.Proofs.Ytnocdmclcdfppaa.Pure
