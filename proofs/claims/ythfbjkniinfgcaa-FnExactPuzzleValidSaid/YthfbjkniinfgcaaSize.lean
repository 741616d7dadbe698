/- What the tests of a size come to. Conditions: as stated in each. -/
import Derived.Test.YthfbjkniinfgcaaWWords
import Derived.Test.YthfbjkniinfgcaaWMore
import Derived.Test.YthfbjkniinfgcaaP2
import Derived.Test.YthfbjkniinfgcaaP3
import Derived.Test.YthfbjkniinfgcaaP4
import Derived.Test.YthfbjkniinfgcaaModel
namespace Go.Proofs.Ythfbjkniinfgcaa.Pure
set_option linter.unusedSimpArgs false
set_option linter.unusedVariables false
open Go.RowKit Go.Proofs.YthfbjkniinfgcaaW.PrintWords Go.Proofs.YthfbjkniinfgcaaW.PrintMore Go.Proofs.Ythfbjkniinfgcaa.P

theorem l1In_eq (a b c : Int) : spec_l1In.f a b c = some (decide (b ≤ a ∧ a ≤ c)) := by
  unfold spec_l1In.f
  by_cases h : a ≥ b
  · have h' : b ≤ a := h
    simp [h']
  · have h' : ¬ b ≤ a := h
    simp [h']
theorem sizeOk_eq (a : Int) : impl_sizeOk.f a = some (sizeOkB a) := by
  unfold impl_sizeOk.f sizeOkB
  by_cases h : a ≥ 2
  · have h' : 2 ≤ a := h
    simp [h']
  · have h' : ¬ 2 ≤ a := h
    simp [h']
theorem allValues_eq {s : Int} (h : sizeOkB s = true) : impl_allValues.f s = some (allM s) := by
  rcases sizeOkB_iff.1 h with rfl | rfl | rfl <;> decide +kernel

end Go.Proofs.Ythfbjkniinfgcaa.Pure
