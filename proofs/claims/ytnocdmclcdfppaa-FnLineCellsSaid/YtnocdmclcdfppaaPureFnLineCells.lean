/- The pure statement of the law FnLineCells: it answers true. Conditions: those of the row. -/
import Derived.Test.YtnocdmclcdfppaaWWords
import Derived.Test.YtnocdmclcdfppaaWMore
import Derived.Test.YtnocdmclcdfppaaP1
import Derived.Test.YtnocdmclcdfppaaP2
import Derived.Test.YtnocdmclcdfppaaP6
import Derived.Test.YtnocdmclcdfppaaAlive
import Derived.Test.YtnocdmclcdfppaaBase
import Derived.Test.YtnocdmclcdfppaaDraw
import Derived.Test.YtnocdmclcdfppaaDrawSize
import Derived.Test.YtnocdmclcdfppaaHelp
import Derived.Test.YtnocdmclcdfppaaLineC
import Derived.Test.YtnocdmclcdfppaaModel
namespace Go.Proofs.Ytnocdmclcdfppaa.Pure
set_option linter.unusedSimpArgs false
set_option linter.unusedVariables false
open Go.RowKit Go.Proofs.YtnocdmclcdfppaaW.PrintWords Go.Proofs.YtnocdmclcdfppaaW.PrintMore Go.Proofs.Ytnocdmclcdfppaa.P

theorem drawLineCells_ev (l : List Int) (hl : ∀ x ∈ l, (Lit.int .u8 x).wf = true) : ∃ s i, SizeDraw s ∧ -1 ≤ i ∧ i ≤ 8 ∧ Ev (fun k => spec_DrawLineCells.f k l) (s, i) := by
  obtain ⟨b, hb, ho⟩ := open_eq l hl
  obtain ⟨s, hs, hp⟩ := size_ev hb (p := 0) (n := 9) (by decide) (by decide) (by decide) (by decide)
  obtain ⟨r, h0, h1, hq⟩ := pick_ev hb (p := 0 + 1 + 1) (n := 10) (by decide) (by decide) (by decide)
  refine ⟨s, r - 1, hs, by omega, by omega, ?_⟩
  unfold spec_DrawLineCells.f
  simp only [ho, Option.bind_some]
  refine Ev.bind hp ?_
  refine Ev.bind hq ?_
  rw [w64 (by omega) (by omega)]
  exact Ev.now _
theorem lineLaw_l0 {s l : Int} (h : lineOkB s l = true) : Ev (fun k => laws_FnLineCells.l0 k s l (lineC s l) 0) true := by
  rcases lineOkB_cases h with ⟨rfl, hc⟩ | ⟨rfl, hc⟩ | ⟨rfl, hc⟩
  · rcases hc with rfl | rfl | rfl | rfl <;> exact Ev.of (fun k => (laws_FnLineCells.mono_l k).1 _ _ _ _) (k := 400) (by decide +kernel)
  · rcases hc with rfl | rfl | rfl | rfl | rfl | rfl <;> exact Ev.of (fun k => (laws_FnLineCells.mono_l k).1 _ _ _ _) (k := 400) (by decide +kernel)
  · rcases hc with rfl | rfl | rfl | rfl | rfl | rfl | rfl | rfl <;> exact Ev.of (fun k => (laws_FnLineCells.mono_l k).1 _ _ _ _) (k := 400) (by decide +kernel)
theorem lineC_ne0 {s l : Int} (h : lineOkB s l = true) : ¬ ((lineC s l).length : Int) = 0 := by
  rcases lineOkB_cases h with ⟨rfl, hc⟩ | ⟨rfl, hc⟩ | ⟨rfl, hc⟩
  · rcases hc with rfl | rfl | rfl | rfl <;> decide
  · rcases hc with rfl | rfl | rfl | rfl | rfl | rfl <;> decide
  · rcases hc with rfl | rfl | rfl | rfl | rfl | rfl | rfl | rfl <;> decide
theorem FnLineCells : laws_FnLineCells.Pure := by
  intro l _ _ hl
  apply Ev.rounds
  unfold laws_FnLineCells.f
  by_cases hlen : (l.length : Int) > 1048576
  · simp only [hlen, if_true]; exact Ev.now _
  simp only [hlen, if_false]
  obtain ⟨s, i, hs, h0, h1, hd⟩ := drawLineCells_ev l hl
  refine Ev.bind hd ?_
  refine Ev.bind (implLineCells_ev s i) ?_
  refine Ev.bind (specLineCells_ev s i) ?_
  have := lineC_len s i
  refine Ev.bind (sameInts_ev _ _ (by omega)) ?_
  simp only [decide_true, if_true]
  by_cases h : lineOkB s i = true
  · simp only [lineC_ne0 h, if_false]
    exact lineLaw_l0 h
  · have he : lineC s i = [] := by unfold lineC; rw [if_neg h]
    have hz : ((lineC s i).length : Int) = 0 := by rw [he]; rfl
    simp only [hz, if_true]
    exact Ev.bind alive_ev (Ev.now _)

end Go.Proofs.Ytnocdmclcdfppaa.Pure
