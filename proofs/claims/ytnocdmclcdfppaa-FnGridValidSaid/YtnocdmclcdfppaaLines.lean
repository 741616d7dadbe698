/- Lines that repeat a value, in plain Lean. Conditions: as stated in each. -/
import Derived.Test.YtnocdmclcdfppaaWWords
import Derived.Test.YtnocdmclcdfppaaWMore
import Derived.Test.YtnocdmclcdfppaaBase
import Derived.Test.YtnocdmclcdfppaaModel
namespace Go.Proofs.Ytnocdmclcdfppaa.Pure
set_option linter.unusedSimpArgs false
set_option linter.unusedVariables false
open Go.RowKit Go.Proofs.YtnocdmclcdfppaaW.PrintWords Go.Proofs.YtnocdmclcdfppaaW.PrintMore

theorem lineC_mem {s l : Int} : ∀ c ∈ lineC s l, 0 ≤ c ∧ c < s * s := by
  by_cases h : lineOkB s l = true
  · rcases lineOkB_cases h with ⟨rfl, hc⟩ | ⟨rfl, hc⟩ | ⟨rfl, hc⟩
    · rcases hc with rfl | rfl | rfl | rfl <;> decide +kernel
    · rcases hc with rfl | rfl | rfl | rfl | rfl | rfl <;> decide +kernel
    · rcases hc with rfl | rfl | rfl | rfl | rfl | rfl | rfl | rfl <;> decide +kernel
  · unfold lineC; rw [if_neg h]; intro c hc; cases hc
/-- Does a value, apart from 0, stand twice in these cells (or in seen)? -/
def clashL (g : List Int) : List Int → List Int → Bool
  | [], _ => false
  | c :: cs, seen => if 0 < rd g c ∧ rd g c ∈ seen then true else clashL g cs (rd g c :: seen)
/-- Does one of the lines n, n + 1, .. (d of them) clash? -/
def linesClash (g : List Int) (s : Int) (n : Nat) : Nat → Bool
  | 0 => false
  | d + 1 => clashL g (lineC s n) [] || linesClash g s (n + 1) d
def squareFits (g : List Int) (s : Int) : Bool := gridB g s && !linesClash g s 0 (2 * s.toNat)
def squareSolved (g : List Int) (s : Int) : Bool := squareFits g s && decide (gridFilled g s = s * s)
theorem size_nat {s : Int} (h : sizeOkB s = true) : ((s.toNat : Nat) : Int) = s ∧ 2 ≤ s.toNat ∧ s.toNat ≤ 4 := by
  rcases sizeOkB_iff.1 h with rfl | rfl | rfl <;> decide
theorem rd_mem {g : List Int} {i : Int} (h0 : 0 ≤ i) (h1 : i < (g.length : Int)) : rd g i ∈ g := by
  obtain ⟨n, rfl⟩ := Int.eq_ofNat_of_zero_le h0
  rw [rd_lt (by omega : n < g.length)]
  exact List.getElem_mem _

end Go.Proofs.Ytnocdmclcdfppaa.Pure
