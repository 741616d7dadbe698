/- The pure statement of the law FnGridValid: it answers true. Conditions: those of the row. -/
import Derived.Test.YtnocdmclcdfppaaWWords
import Derived.Test.YtnocdmclcdfppaaWMore
import Derived.Test.YtnocdmclcdfppaaP1
import Derived.Test.YtnocdmclcdfppaaP11
import Derived.Test.YtnocdmclcdfppaaP12
import Derived.Test.YtnocdmclcdfppaaP13
import Derived.Test.YtnocdmclcdfppaaP14
import Derived.Test.YtnocdmclcdfppaaP15
import Derived.Test.YtnocdmclcdfppaaP2
import Derived.Test.YtnocdmclcdfppaaP5
import Derived.Test.YtnocdmclcdfppaaAlive
import Derived.Test.YtnocdmclcdfppaaBase
import Derived.Test.YtnocdmclcdfppaaDraw
import Derived.Test.YtnocdmclcdfppaaDrawGrid
import Derived.Test.YtnocdmclcdfppaaGridV
import Derived.Test.YtnocdmclcdfppaaModel
namespace Go.Proofs.Ytnocdmclcdfppaa.Pure
set_option linter.unusedSimpArgs false
set_option linter.unusedVariables false
open Go.RowKit Go.Proofs.YtnocdmclcdfppaaW.PrintWords Go.Proofs.YtnocdmclcdfppaaW.PrintMore Go.Proofs.Ytnocdmclcdfppaa.P

theorem gridB_take_false {g : List Int} {s : Int} (hg : gridB g s = true) : gridB (g.take (g.length - 1)) s = false := by
  apply eq_false_of_ne_true
  intro h
  have h1 := gridB_len hg
  have h2 := gridB_len h
  rw [← h1, List.length_take] at h2
  have h3 : 0 < g.length := by rcases sizeOkB_iff.1 (gridB_size hg) with rfl | rfl | rfl <;> omega
  omega
theorem gridB_set_false {g : List Int} {s : Int} (hp : 0 < g.length) : gridB (g.set 0 (s + 1)) s = false := by
  apply eq_false_of_ne_true
  intro h
  have := (gridB_mem h (s + 1) (by rw [List.mem_iff_getElem]; exact ⟨0, by simpa using hp, by simp⟩)).2
  omega
theorem FnGridValid : laws_FnGridValid.Pure := by
  intro l _ _ hl
  apply Ev.rounds
  unfold laws_FnGridValid.f
  by_cases hlen : (l.length : Int) > 1048576
  · simp only [hlen, if_true]; exact Ev.now _
  simp only [hlen, if_false]
  have halive : Ev (fun k => (laws_alive.f k).bind fun t => some t) true := Ev.bind alive_ev (Ev.now _)
  obtain ⟨b, hb, ho⟩ := open_eq l hl
  obtain ⟨g, s, p', hg, hs, hp0, hp1, hd0⟩ := grid_ev hb (n := 2) (p := 0) (by decide) (by decide) (by decide) (by decide)
  have hd : Ev (fun k => spec_DrawGridValid.f k l) (g, s) := by
    unfold spec_DrawGridValid.f
    simp only [ho, Option.bind_some]
    refine Ev.bind hd0 ?_
    exact Ev.now _
  refine Ev.bind hd ?_
  clear hd hd0 ho hb hlen
  refine Ev.bind (implGridValid_ev g s hg.le) ?_
  refine Ev.bind (specGridValid_ev g s hg.le) ?_
  simp only [bne_self_eq_false, Bool.false_eq_true, if_false]
  have hA : Ev (fun k => laws_FnGridValid.j0 k g s true) true := by
    refine Ev.step (fun k => laws_FnGridValid.j0.eq_2 _ _ _ k) ?_
    simp only [if_true]
    exact halive
  by_cases h : gridB g s = true
  · simp only [h, if_true]
    have hpos : 0 < g.length := by
      have := gridB_len h
      rcases sizeOkB_iff.1 (gridB_size h) with rfl | rfl | rfl <;> omega
    have h16 := hg.1
    have e : ((g.length : Int) == 0) = false := by rw [beq_eq_false_iff_ne]; omega
    rw [e]
    refine Ev.step (fun k => laws_FnGridValid.j0.eq_2 _ _ _ k) ?_
    have hw : wrap64 ((g.length : Int) - 1) = ((g.length - 1 : Nat) : Int) := by rw [w64 (by omega) (by omega)]; omega
    have hws : wrap64 (s + 1) = s + 1 := by rcases sizeOkB_iff.1 (gridB_size h) with rfl | rfl | rfl <;> decide +kernel
    have h1 : ([] : List Int).length + g.length < 17592186044416 := by simp; omega
    have h2 : (0 : Int) < (g.length : Int) := by omega
    have h3 : (0 : Int) ≤ ((g.length - 1 : Nat) : Int) := by omega
    have h4 : ((g.length - 1 : Nat) : Int) ≤ (g.length : Int) := by omega
    simp only [Bool.false_eq_true, if_false, Option.bind_some, h1, if_true, List.nil_append, h2, hw, h3, h4, Int.toNat_natCast, hws]
    refine Ev.bind (implGridValid_ev _ s (by rw [List.length_take]; omega)) ?_
    rw [gridB_take_false h]
    simp only [Bool.false_eq_true, if_false]
    refine Ev.bind (implGridValid_ev _ s (by rw [List.length_set]; omega)) ?_
    rw [show (0 : Int).toNat = 0 from rfl, gridB_set_false hpos]
    exact Ev.now _
  · simp only [h, if_false]
    exact hA

end Go.Proofs.Ytnocdmclcdfppaa.Pure
