/- Whether a mask has a value. Conditions: as stated in each. -/
import Derived.Test.YtnocdmclcdfppaaWWords
import Derived.Test.YtnocdmclcdfppaaWMore
namespace Go.Proofs.Ytnocdmclcdfppaa.Pure
set_option linter.unusedSimpArgs false
set_option linter.unusedVariables false
open Go.RowKit Go.Proofs.YtnocdmclcdfppaaW.PrintWords Go.Proofs.YtnocdmclcdfppaaW.PrintMore

/-- The mask has the value. -/
def has (m v : Int) : Bool := decide ((m / 2 ^ v.toNat) % 2 = 1)
theorem has_fin : ∀ m : Fin 31, ∀ v : Fin 5, Int.tmod (shr .i64 (m.val : Int) (v.val : Int)) 2 = (if has (m.val : Int) (v.val : Int) = true then 1 else 0) ∧ Go.bits .and .i64 (shr .i64 (m.val : Int) (v.val : Int)) 1 = (if has (m.val : Int) (v.val : Int) = true then 1 else 0) := by decide +kernel
theorem has_tmod {m v : Int} (h : 0 ≤ m ∧ m ≤ 30) (hv : 0 ≤ v ∧ v ≤ 4) : Int.tmod (shr .i64 m v) 2 = (if has m v = true then 1 else 0) := by
  have := (has_fin ⟨m.toNat, by omega⟩ ⟨v.toNat, by omega⟩).1
  rwa [show ((m.toNat : Nat) : Int) = m by omega, show ((v.toNat : Nat) : Int) = v by omega] at this
theorem has_and {m v : Int} (h : 0 ≤ m ∧ m ≤ 30) (hv : 0 ≤ v ∧ v ≤ 4) : Go.bits .and .i64 (shr .i64 m v) 1 = (if has m v = true then 1 else 0) := by
  have := (has_fin ⟨m.toNat, by omega⟩ ⟨v.toNat, by omega⟩).2
  rwa [show ((m.toNat : Nat) : Int) = m by omega, show ((v.toNat : Nat) : Int) = v by omega] at this
theorem has_zero {m : Int} (h : m % 2 = 0) : has m 0 = false := by
  unfold has; simp; omega

end Go.Proofs.Ytnocdmclcdfppaa.Pure
