/- What MaskValues and onlyValue come to. Conditions: as stated in each. -/
import Derived.Test.YtaglakdahmepeaaWWords
import Derived.Test.YtaglakdahmepeaaWMore
import Derived.Test.YtaglakdahmepeaaP1
import Derived.Test.YtaglakdahmepeaaP7
import Derived.Test.YtaglakdahmepeaaP9
import Derived.Test.YtaglakdahmepeaaSize
namespace Go.Proofs.Ytaglakdahmepeaa.Pure
set_option linter.unusedSimpArgs false
set_option linter.unusedVariables false
open Go.RowKit Go.Proofs.YtaglakdahmepeaaW.PrintWords Go.Proofs.YtaglakdahmepeaaW.PrintMore Go.Proofs.Ytaglakdahmepeaa.P

/-- The values of a mask. -/
def mvals (m : Int) : List Int := if 0 ≤ m ∧ m ≤ 30 ∧ m % 2 = 0 then [1, 2, 3, 4].filter (fun v => decide ((m / 2 ^ v.toNat) % 2 = 1)) else []
/-- The only value of a mask, or 0. -/
def onlyV (m : Int) : Int := if m = 2 then 1 else if m = 4 then 2 else if m = 8 then 3 else if m = 16 then 4 else 0
theorem even_cases {m : Int} (h : 0 ≤ m ∧ m ≤ 30 ∧ m % 2 = 0) : m = 0 ∨ m = 2 ∨ m = 4 ∨ m = 6 ∨ m = 8 ∨ m = 10 ∨ m = 12 ∨ m = 14 ∨ m = 16 ∨ m = 18 ∨ m = 20 ∨ m = 22 ∨ m = 24 ∨ m = 26 ∨ m = 28 ∨ m = 30 := by omega
theorem mvals_length (m : Int) : (mvals m).length ≤ 4 := by
  unfold mvals; split
  · exact List.length_filter_le _ _
  · simp
theorem specMaskValues_ev (m : Int) : Ev (fun k => spec_MaskValues.f k m) (mvals m) := by
  by_cases h : 0 ≤ m ∧ m ≤ 30 ∧ m % 2 = 0
  · rcases even_cases h with rfl | rfl | rfl | rfl | rfl | rfl | rfl | rfl | rfl | rfl | rfl | rfl | rfl | rfl | rfl | rfl <;>
      exact Ev.of (spec_MaskValues.mono _) (k := 12) (by decide +kernel)
  · have e : mvals m = [] := by unfold mvals; rw [if_neg h]
    rw [e]
    unfold spec_MaskValues.f
    refine Ev.step (fun k => spec_MaskValues.l0.eq_2 _ _ _ k) ?_
    have h4 : (1 : Int) ≤ 4 := by decide
    simp only [h4, if_true, l1In_eq, Option.bind_some]
    by_cases hr : 0 ≤ m ∧ m ≤ 30
    · have ht : ¬ Int.tmod m 2 = 0 := by rw [Int.tmod_eq_emod_of_nonneg hr.1]; omega
      have ht2 : (Int.tmod m 2 == 0) = false := by simpa using ht
      simp only [hr, ht2, and_self, decide_true, if_true]
      refine Ev.step (fun k => spec_MaskValues.j1.eq_2 _ _ _ _ k) ?_
      simp only [Bool.false_eq_true, if_false]
      exact Ev.now _
    · simp only [hr, decide_false, Bool.false_eq_true, if_false]
      refine Ev.step (fun k => spec_MaskValues.j1.eq_2 _ _ _ _ k) ?_
      simp only [Bool.false_eq_true, if_false]
      exact Ev.now _
theorem onlyValue_ev {m : Int} (h : 0 ≤ m ∧ m ≤ 30 ∧ m % 2 = 0) : Ev (fun k => impl_onlyValue.f k m) (onlyV m) := by
  rcases even_cases h with rfl | rfl | rfl | rfl | rfl | rfl | rfl | rfl | rfl | rfl | rfl | rfl | rfl | rfl | rfl | rfl <;>
    exact Ev.of (impl_onlyValue.mono _) (k := 12) (by decide +kernel)

end Go.Proofs.Ytaglakdahmepeaa.Pure
