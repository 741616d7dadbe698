/- What the tests of a size come to. Conditions: as stated in each. -/
import Derived.Test.YtnocdmclcdfppaaWWords
import Derived.Test.YtnocdmclcdfppaaWMore
import Derived.Test.YtnocdmclcdfppaaP2
import Derived.Test.YtnocdmclcdfppaaP26
import Derived.Test.YtnocdmclcdfppaaP4
import Derived.Test.YtnocdmclcdfppaaModel
namespace Go.Proofs.Ytnocdmclcdfppaa.Pure
set_option linter.unusedSimpArgs false
set_option linter.unusedVariables false
open Go.RowKit Go.Proofs.YtnocdmclcdfppaaW.PrintWords Go.Proofs.YtnocdmclcdfppaaW.PrintMore Go.Proofs.Ytnocdmclcdfppaa.P

theorem l1In_eq (a b c : Int) : spec_l1In.f a b c = some (decide (b ≤ a ∧ a ≤ c)) := by
  unfold spec_l1In.f
  by_cases h : a ≥ b
  · have h' : b ≤ a := h
    simp [h']
  · have h' : ¬ b ≤ a := h
    simp [h']
theorem sizeOk_eq (a : Int) : impl_sizeOk.f a = some (sizeOkB a) := by
  unfold impl_sizeOk.f sizeOkB
  by_cases h : a ≥ 2
  · have h' : 2 ≤ a := h
    simp [h']
  · have h' : ¬ 2 ≤ a := h
    simp [h']
theorem allValues_eq {s : Int} (h : sizeOkB s = true) : impl_allValues.f s = some (allM s) := by
  rcases sizeOkB_iff.1 h with rfl | rfl | rfl <;> decide +kernel

end Go.Proofs.Ytnocdmclcdfppaa.Pure
