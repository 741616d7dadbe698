/- The pure statement of the law FnSquareOf: it answers true. Conditions: those of the row. -/
import Derived.Test.YtnocdmclcdfppaaWWords
import Derived.Test.YtnocdmclcdfppaaWMore
import Derived.Test.YtnocdmclcdfppaaP1
import Derived.Test.YtnocdmclcdfppaaP10
import Derived.Test.YtnocdmclcdfppaaP2
import Derived.Test.YtnocdmclcdfppaaP5
import Derived.Test.YtnocdmclcdfppaaP7
import Derived.Test.YtnocdmclcdfppaaAlive
import Derived.Test.YtnocdmclcdfppaaDraw
import Derived.Test.YtnocdmclcdfppaaDrawSize
import Derived.Test.YtnocdmclcdfppaaHelp
import Derived.Test.YtnocdmclcdfppaaModel
import Derived.Test.YtnocdmclcdfppaaSqOf
namespace Go.Proofs.Ytnocdmclcdfppaa.Pure
set_option linter.unusedSimpArgs false
set_option linter.unusedVariables false
open Go.RowKit Go.Proofs.YtnocdmclcdfppaaW.PrintWords Go.Proofs.YtnocdmclcdfppaaW.PrintMore Go.Proofs.Ytnocdmclcdfppaa.P

theorem drawSquareOf_ev (l : List Int) (hl : ∀ x ∈ l, (Lit.int .u8 x).wf = true) : ∃ s, SizeDraw s ∧ Ev (fun k => spec_DrawSquareOf.f k l) s := by
  obtain ⟨b, hb, ho⟩ := open_eq l hl
  obtain ⟨s, hs, hp⟩ := size_ev hb (p := 0) (n := 3) (by decide) (by decide) (by decide) (by decide)
  refine ⟨s, hs, ?_⟩
  unfold spec_DrawSquareOf.f
  simp only [ho, Option.bind_some]
  refine Ev.bind hp ?_
  exact Ev.now _
theorem squareLaw_l0 : ∀ s : Int, s = 2 ∨ s = 3 ∨ s = 4 → Ev (fun k => laws_FnSquareOf.l0 k s (squareOf s) 0) true := by
  rintro s (rfl | rfl | rfl)
  · exact Ev.of (fun k => laws_FnSquareOf.mono_l k _ _ _) (k := 300) (by decide +kernel)
  · exact Ev.of (fun k => laws_FnSquareOf.mono_l k _ _ _) (k := 300) (by decide +kernel)
  · exact Ev.of (fun k => laws_FnSquareOf.mono_l k _ _ _) (k := 300) (by decide +kernel)
theorem squareOf_le (s : Int) : (squareOf s).length ≤ 16 := by unfold squareOf; repeat (first | split | decide)
theorem FnSquareOf : laws_FnSquareOf.Pure := by
  intro l _ _ hl
  apply Ev.rounds
  unfold laws_FnSquareOf.f
  by_cases hlen : (l.length : Int) > 1048576
  · simp only [hlen, if_true]; exact Ev.now _
  simp only [hlen, if_false]
  obtain ⟨s, hs, hd⟩ := drawSquareOf_ev l hl
  refine Ev.bind hd ?_
  refine Ev.bind (implSquareOf_ev s) ?_
  refine Ev.bind (specSquareOf_ev s) ?_
  have := squareOf_le s
  refine Ev.bind (sameInts_ev _ _ (by omega)) ?_
  simp only [decide_true, if_true]
  have halive : Ev (fun k => (laws_alive.f k).bind fun t => some t) true := Ev.bind alive_ev (Ev.now _)
  rcases hs with rfl | rfl | rfl | rfl | rfl | rfl
  · exact halive
  · exact halive
  · exact halive
  · exact squareLaw_l0 2 (.inl rfl)
  · exact squareLaw_l0 3 (.inr (.inl rfl))
  · exact squareLaw_l0 4 (.inr (.inr rfl))

end Go.Proofs.Ytnocdmclcdfppaa.Pure
