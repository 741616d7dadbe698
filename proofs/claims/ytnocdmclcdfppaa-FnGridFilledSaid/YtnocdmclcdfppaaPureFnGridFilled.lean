/- The pure statement of the law FnGridFilled: it answers true. Conditions: those of the row. -/
import Derived.Test.YtnocdmclcdfppaaWWords
import Derived.Test.YtnocdmclcdfppaaWMore
import Derived.Test.YtnocdmclcdfppaaP1
import Derived.Test.YtnocdmclcdfppaaP11
import Derived.Test.YtnocdmclcdfppaaP12
import Derived.Test.YtnocdmclcdfppaaP13
import Derived.Test.YtnocdmclcdfppaaP16
import Derived.Test.YtnocdmclcdfppaaP17
import Derived.Test.YtnocdmclcdfppaaP2
import Derived.Test.YtnocdmclcdfppaaP5
import Derived.Test.YtnocdmclcdfppaaAlive
import Derived.Test.YtnocdmclcdfppaaBase
import Derived.Test.YtnocdmclcdfppaaCount
import Derived.Test.YtnocdmclcdfppaaDraw
import Derived.Test.YtnocdmclcdfppaaDrawGrid
import Derived.Test.YtnocdmclcdfppaaFilled
import Derived.Test.YtnocdmclcdfppaaFree
import Derived.Test.YtnocdmclcdfppaaLines
import Derived.Test.YtnocdmclcdfppaaModel
namespace Go.Proofs.Ytnocdmclcdfppaa.Pure
set_option linter.unusedSimpArgs false
set_option linter.unusedVariables false
open Go.RowKit Go.Proofs.YtnocdmclcdfppaaW.PrintWords Go.Proofs.YtnocdmclcdfppaaW.PrintMore Go.Proofs.Ytnocdmclcdfppaa.P

theorem countF_set0 : ∀ (g : List Int) (j : Nat) (_ : j < g.length) (_ : 0 < rd g (j : Nat)), countF (g.set j 0) = countF g - 1
  | [], j, h, _ => by simp at h
  | v :: g, 0, _, hp => by
    rw [List.set_cons_zero, countF_cons, countF_cons]
    have hv : 0 < v := by simpa [rd] using hp
    simp [hv]; omega
  | v :: g, j + 1, h, hp => by
    rw [List.set_cons_succ, countF_cons, countF_cons, countF_set0 g j (by simpa using h) (by rw [rd_nat] at hp ⊢; simpa using hp)]
    omega
theorem filled_zeros {s : Int} (h : sizeOkB s = true) : List.replicate (wrap64 (s * s) : Int).toNat (0 : Int) = zeros s ∧ gridFilled (zeros s) s = 0 ∧ 0 ≤ wrap64 (s * s) ∧ (wrap64 (s * s)).toNat ≤ 35184372088832 ∧ wrap64 (s * s) = s * s := by
  have : (wrap64 (s * s)).toNat = s.toNat * s.toNat := by rcases sizeOkB_iff.1 h with rfl | rfl | rfl <;> decide +kernel
  rw [this]
  refine ⟨rfl, ?_, ?_, ?_, ?_⟩ <;> rcases sizeOkB_iff.1 h with rfl | rfl | rfl <;> decide +kernel
theorem FnGridFilled : laws_FnGridFilled.Pure := by
  intro l _ _ hl
  apply Ev.rounds
  unfold laws_FnGridFilled.f
  by_cases hlen : (l.length : Int) > 1048576
  · simp only [hlen, if_true]; exact Ev.now _
  simp only [hlen, if_false]
  have halive : Ev (fun k => (laws_alive.f k).bind fun t => some t) true := Ev.bind alive_ev (Ev.now _)
  obtain ⟨b, hb, ho⟩ := open_eq l hl
  obtain ⟨g, s, p', hg, hs, hp0, hp1, hd0⟩ := grid_ev hb (n := 9) (p := 0) (by decide) (by decide) (by decide) (by decide)
  have hd : Ev (fun k => spec_DrawGridFilled.f k l) (g, s) := by
    unfold spec_DrawGridFilled.f
    simp only [ho, Option.bind_some]
    refine Ev.bind hd0 ?_
    exact Ev.now _
  refine Ev.bind hd ?_
  clear hd hd0 ho hb hlen
  refine Ev.bind (implGridFilled_ev g s hg.le) ?_
  refine Ev.bind (specGridFilled_ev g s hg.le) ?_
  simp only [if_true]
  by_cases h : gridB g s = true
  · have hc := countF_le g
    have hlen := gridB_len h
    have h16 := hg.1
    have e : gridFilled g s = countF g := by unfold gridFilled; rw [if_pos h]
    have h0 : ¬ countF g < 0 := by omega
    rw [e]
    simp only [h0, if_false]
    obtain ⟨z1, z2, z3, z4, z5⟩ := filled_zeros (gridB_size h)
    refine Ev.range0 (L := fun k j => laws_FnGridFilled.l0 k g s (countF g) j) (R := fun _ => true) (N := g.length) ?_ ?_ 0 (Nat.zero_le _)
    · refine Ev.step (fun k => laws_FnGridFilled.l0.eq_2 _ _ _ _ k) ?_
      have h2 : countF g ≤ s * s := by omega
      simp only [Int.lt_irrefl, if_false, z5, h2, if_true]
      rw [z5] at z1 z3 z4
      simp only [z1, z3, z4, if_true]
      refine Ev.bind (implGridFilled_ev _ s (by have := gridB_le (zeros_grid (gridB_size h)); omega)) ?_
      rw [z2]
      exact Ev.now _
    · intro j hj ih
      refine Ev.step (fun k => laws_FnGridFilled.l0.eq_2 _ _ _ _ k) ?_
      have h1 : (j : Int) < (g.length : Int) := by omega
      have h2 : (0 : Int) ≤ (j : Int) := by omega
      simp only [h1, h2, if_true, w64n (by omega : j < 9000000000000000000)]
      by_cases hz : rd g (j : Int) = 0
      · simp only [hz, if_true]; exact ih
      · have h3 : ([] : List Int).length + g.length < 17592186044416 := by simp; omega
        simp only [hz, if_false, Option.bind_some, h3, if_true, List.nil_append, h1, Int.toNat_natCast]
        refine Ev.bind (implGridFilled_ev _ s (by rw [List.length_set]; omega)) ?_
        have hm := gridB_mem h (rd g (j : Int)) (rd_mem h2 h1)
        have hs2 := grid_set h j (v := 0) (by decide) (by rcases sizeOkB_iff.1 (gridB_size h) with rfl | rfl | rfl <;> decide)
        have e2 : gridFilled (g.set j 0) s = wrap64 (countF g - 1) := by
          unfold gridFilled
          rw [if_pos hs2, countF_set0 g j hj (by omega), w64 (by omega) (by omega)]
        simp only [e2, if_true]
        exact ih
  · have e : gridFilled g s = -1 := by unfold gridFilled; rw [if_neg h]
    have h1 : (-1 : Int) < 0 := by decide
    rw [e]
    simp only [h1, if_true]
    exact halive

end Go.Proofs.Ytnocdmclcdfppaa.Pure
