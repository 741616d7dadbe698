/- The pure statement of the law FnMaskValues: it answers true. Conditions: those of the row. -/
import Derived.Test.YtlkgoifmfjcohaaWWords
import Derived.Test.YtlkgoifmfjcohaaWMore
import Derived.Test.YtlkgoifmfjcohaaP23
import Derived.Test.YtlkgoifmfjcohaaP25
import Derived.Test.YtlkgoifmfjcohaaBase
import Derived.Test.YtlkgoifmfjcohaaDraw
import Derived.Test.YtlkgoifmfjcohaaHelp
import Derived.Test.YtlkgoifmfjcohaaMaskVals
namespace Go.Proofs.Ytlkgoifmfjcohaa.Pure
set_option linter.unusedSimpArgs false
set_option linter.unusedVariables false
open Go.RowKit Go.Proofs.YtlkgoifmfjcohaaW.PrintWords Go.Proofs.YtlkgoifmfjcohaaW.PrintMore Go.Proofs.Ytlkgoifmfjcohaa.P

theorem drawMaskValues_ev (l : List Int) (hl : ∀ x ∈ l, (Lit.int .u8 x).wf = true) : ∃ m, -2 ≤ m ∧ m ≤ 32 ∧ Ev (fun k => spec_DrawMaskValues.f k l) m := by
  obtain ⟨b, hb, ho⟩ := open_eq l hl
  obtain ⟨r1, h10, h11, hp1⟩ := pick_ev hb (p := 0) (n := 16) (by decide) (by decide) (by decide)
  obtain ⟨r2, h20, h21, hp2⟩ := pick_ev hb (p := 0 + 1) (n := 9) (by decide) (by decide) (by decide)
  have hw : wrap64 (r1 * 2) = r1 * 2 := w64 (by omega) (by omega)
  have hc : r2 = 0 ∨ r2 = 1 ∨ r2 = 2 ∨ r2 = 3 ∨ r2 = 4 ∨ r2 = 5 ∨ r2 = 6 ∨ r2 = 7 ∨ r2 = 8 := by omega
  have hm : ∃ j : Nat, rd [0, 0, 0, 0, 0, 1, 2, 3, 4] r2 = (j : Int) ∧ j < 5 := by
    rcases hc with rfl | rfl | rfl | rfl | rfl | rfl | rfl | rfl | rfl
    · exact ⟨0, by decide, by decide⟩
    · exact ⟨0, by decide, by decide⟩
    · exact ⟨0, by decide, by decide⟩
    · exact ⟨0, by decide, by decide⟩
    · exact ⟨0, by decide, by decide⟩
    · exact ⟨1, by decide, by decide⟩
    · exact ⟨2, by decide, by decide⟩
    · exact ⟨3, by decide, by decide⟩
    · exact ⟨4, by decide, by decide⟩
  obtain ⟨j, hj, hj5⟩ := hm
  have hv : -2 ≤ rd [r1 * 2, 1, -2, 32, 31] (j : Int) ∧ rd [r1 * 2, 1, -2, 32, 31] (j : Int) ≤ 32 := by
    rw [rd_nat]
    have : j = 0 ∨ j = 1 ∨ j = 2 ∨ j = 3 ∨ j = 4 := by omega
    rcases this with rfl | rfl | rfl | rfl | rfl <;> simp <;> omega
  refine ⟨_, hv.1, hv.2, ?_⟩
  unfold spec_DrawMaskValues.f
  simp only [ho, Option.bind_some]
  refine Ev.bind hp1 ?_
  refine Ev.bind hp2 ?_
  have h3 : r2 < (([0, 0, 0, 0, 0, 1, 2, 3, 4] : List Int).length : Int) := by simp; omega
  have h4 : (0 : Int) ≤ (j : Int) := by omega
  have h5 : (j : Int) < (([r1 * 2, 1, -2, 32, 31] : List Int).length : Int) := by simp; omega
  simp only [h20, h3, if_true, hj, h4, hw, h5]
  exact Ev.now _
theorem maskLaw_l0 (m : Int) (hm : -2 ≤ m ∧ m ≤ 32) : Ev (fun k => laws_FnMaskValues.l0 k m (mvals m) 0 0) true := by
  by_cases h : 0 ≤ m ∧ m ≤ 30 ∧ m % 2 = 0
  · rcases even_cases h with rfl | rfl | rfl | rfl | rfl | rfl | rfl | rfl | rfl | rfl | rfl | rfl | rfl | rfl | rfl | rfl <;>
      exact Ev.of (fun k => laws_FnMaskValues.mono_l k _ _ _ _) (k := 30) (by decide +kernel)
  · have hc : m = -2 ∨ m = -1 ∨ m = 1 ∨ m = 3 ∨ m = 5 ∨ m = 7 ∨ m = 9 ∨ m = 11 ∨ m = 13 ∨ m = 15 ∨ m = 17 ∨ m = 19 ∨ m = 21 ∨ m = 23 ∨ m = 25 ∨ m = 27 ∨ m = 29 ∨ m = 31 ∨ m = 32 := by omega
    rcases hc with rfl | rfl | rfl | rfl | rfl | rfl | rfl | rfl | rfl | rfl | rfl | rfl | rfl | rfl | rfl | rfl | rfl | rfl | rfl <;>
      exact Ev.of (fun k => laws_FnMaskValues.mono_l k _ _ _ _) (k := 30) (by decide +kernel)
theorem FnMaskValues : laws_FnMaskValues.Pure := by
  intro l _ _ hl
  apply Ev.rounds
  unfold laws_FnMaskValues.f
  by_cases hlen : (l.length : Int) > 1048576
  · simp only [hlen, if_true]; exact Ev.now _
  simp only [hlen, if_false]
  obtain ⟨m, h0, h1, hd⟩ := drawMaskValues_ev l hl
  refine Ev.bind hd ?_
  refine Ev.bind (implMaskValues_ev m (by omega)) ?_
  refine Ev.bind (specMaskValues_ev m) ?_
  have := mvals_length m
  refine Ev.bind (sameInts_ev _ _ (by omega)) ?_
  simp only [decide_true, if_true]
  exact maskLaw_l0 m ⟨h0, h1⟩

end Go.Proofs.Ytlkgoifmfjcohaa.Pure
