/- What the draws of a size come to. Conditions: as stated in each. -/
import Derived.Test.YtnocdmclcdfppaaWWords
import Derived.Test.YtnocdmclcdfppaaWMore
import Derived.Test.YtnocdmclcdfppaaP1
import Derived.Test.YtnocdmclcdfppaaP2
import Derived.Test.YtnocdmclcdfppaaDraw
namespace Go.Proofs.Ytnocdmclcdfppaa.Pure
set_option linter.unusedSimpArgs false
set_option linter.unusedVariables false
open Go.RowKit Go.Proofs.YtnocdmclcdfppaaW.PrintWords Go.Proofs.YtnocdmclcdfppaaW.PrintMore Go.Proofs.Ytnocdmclcdfppaa.P

theorem odd_ev {b : List Int} (hb : Bytes b) {p n : Int} (hp : 0 ≤ p) (hp1 : p ≤ 1000000) (hn : 1 ≤ n) (hn1 : n ≤ 1000000) : ∃ r, Ev (fun k => spec_l20Rd_odd.f k b p n) (r, p + 1) := by
  obtain ⟨r, _, _, h⟩ := pick_ev hb hp hp1 hn
  refine ⟨r == wrap64 (n - 1), ?_⟩
  unfold spec_l20Rd_odd.f
  have h1 : n > 0 := by omega
  simp only [h1, if_true]
  refine Ev.bind h ?_
  exact Ev.now _
def SizeDraw (s : Int) : Prop := s = 1 ∨ s = 5 ∨ s = -1 ∨ s = 2 ∨ s = 3 ∨ s = 4
theorem size_ev {b : List Int} (hb : Bytes b) {p n : Int} (hp : 0 ≤ p) (hp1 : p ≤ 900000) (hn : 1 ≤ n) (hn1 : n ≤ 1000000) : ∃ s, SizeDraw s ∧ Ev (fun k => spec_l20Size.f k b p n) (s, p + 1 + 1) := by
  obtain ⟨r, hr⟩ := odd_ev hb hp (by omega) hn hn1
  cases r with
  | true =>
    obtain ⟨i, h0, h1, hi⟩ := pick_ev hb (p := p + 1) (n := 3) (by omega) (by omega) (by decide)
    refine ⟨rd [1, 5, -1] i, ?_, ?_⟩
    · have : i = 0 ∨ i = 1 ∨ i = 2 := by omega
      unfold SizeDraw
      rcases this with rfl | rfl | rfl <;> decide
    · unfold spec_l20Size.f
      refine Ev.bind hr ?_
      simp only [if_true, Option.bind_some]
      refine Ev.bind hi ?_
      have h2 : i < (([1, 5, -1] : List Int).length : Int) := by simp; omega
      simp only [h0, h2, if_true]
      exact Ev.now _
  | false =>
    obtain ⟨i, h0, h1, hi⟩ := pick_ev hb (p := p + 1) (n := 5) (by omega) (by omega) (by decide)
    refine ⟨rd [2, 3, 3, 4, 4] i, ?_, ?_⟩
    · have : i = 0 ∨ i = 1 ∨ i = 2 ∨ i = 3 ∨ i = 4 := by omega
      unfold SizeDraw
      rcases this with rfl | rfl | rfl | rfl | rfl <;> decide
    · unfold spec_l20Size.f
      refine Ev.bind hr ?_
      simp only [Bool.false_eq_true, if_false, Option.bind_some]
      refine Ev.bind hi ?_
      have h2 : i < (([2, 3, 3, 4, 4] : List Int).length : Int) := by simp; omega
      simp only [h0, h2, if_true]
      exact Ev.now _

end Go.Proofs.Ytnocdmclcdfppaa.Pure
