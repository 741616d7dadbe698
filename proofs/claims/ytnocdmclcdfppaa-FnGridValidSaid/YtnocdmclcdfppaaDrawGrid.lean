/- What the draws of a grid come to. Conditions: as stated in each. -/
import Derived.Test.YtnocdmclcdfppaaWWords
import Derived.Test.YtnocdmclcdfppaaWMore
import Derived.Test.YtnocdmclcdfppaaP1
import Derived.Test.YtnocdmclcdfppaaP11
import Derived.Test.YtnocdmclcdfppaaP12
import Derived.Test.YtnocdmclcdfppaaP13
import Derived.Test.YtnocdmclcdfppaaP2
import Derived.Test.YtnocdmclcdfppaaBase
import Derived.Test.YtnocdmclcdfppaaCount
import Derived.Test.YtnocdmclcdfppaaDraw
import Derived.Test.YtnocdmclcdfppaaDrawSize
import Derived.Test.YtnocdmclcdfppaaModel
import Derived.Test.YtnocdmclcdfppaaSqNumS
namespace Go.Proofs.Ytnocdmclcdfppaa.Pure
set_option linter.unusedSimpArgs false
set_option linter.unusedVariables false
open Go.RowKit Go.Proofs.YtnocdmclcdfppaaW.PrintWords Go.Proofs.YtnocdmclcdfppaaW.PrintMore Go.Proofs.Ytnocdmclcdfppaa.P

theorem size0_ev {b : List Int} (hb : Bytes b) {p : Int} (hp : 0 ≤ p) (hp1 : p ≤ 900000) : ∃ s, sizeOkB s = true ∧ Ev (fun k => spec_l20Size.f k b p 0) (s, p + 1) := by
  obtain ⟨i, h0, h1, hi⟩ := pick_ev hb (p := p) (n := 5) hp (by omega) (by decide)
  refine ⟨rd [2, 3, 3, 4, 4] i, ?_, ?_⟩
  · have : i = 0 ∨ i = 1 ∨ i = 2 ∨ i = 3 ∨ i = 4 := by omega
    rcases this with rfl | rfl | rfl | rfl | rfl <;> decide
  · unfold spec_l20Size.f spec_l20Rd_odd.f
    have e : ¬ (0 : Int) > 0 := by decide
    simp only [e, if_false, Option.bind_some, Bool.false_eq_true]
    refine Ev.bind hi ?_
    have h2 : i < (([2, 3, 3, 4, 4] : List Int).length : Int) := by simp; omega
    simp only [h0, h2, if_true]
    exact Ev.now _
theorem many_rd {s : Int} (h : sizeOkB s = true) : 0 ≤ wrap64 (s - 2) ∧ wrap64 (s - 2) < (([2, 12, 576] : List Int).length : Int) ∧ rd [2, 12, 576] (wrap64 (s - 2)) = squaresMany s ∧ 0 < squaresMany s := by
  rcases sizeOkB_iff.1 h with rfl | rfl | rfl <;> decide +kernel
theorem solved_ev {b : List Int} (hb : Bytes b) {p s : Int} (hs : sizeOkB s = true) (hp : 0 ≤ p) (hp1 : p ≤ 900000) : ∃ g, g ∈ allSquares s ∧ Ev (fun k => spec_l20Solved.f k b p s) (g, p + 1 + 1) := by
  obtain ⟨r1, h10, h11, hp1⟩ := pick_ev hb (p := p) (n := 256) hp (by omega) (by decide)
  obtain ⟨r2, h20, h21, hp2⟩ := pick_ev hb (p := p + 1) (n := 3) (by omega) (by omega) (by decide)
  obtain ⟨m0, m1, m2, m3⟩ := many_rd hs
  have hw : wrap64 ((wrap64 (r1 * 3)) + r2) = r1 * 3 + r2 := by rw [w64 (x := r1 * 3) (by omega) (by omega), w64 (by omega) (by omega)]
  have ht0 : 0 ≤ Int.tmod (r1 * 3 + r2) (squaresMany s) := Int.tmod_nonneg _ (by omega)
  have ht1 : Int.tmod (r1 * 3 + r2) (squaresMany s) < squaresMany s := Int.tmod_lt_of_pos _ m3
  have hmany : squaresMany s ≤ 576 := by rcases sizeOkB_iff.1 hs with rfl | rfl | rfl <;> decide
  refine ⟨squareNumber s (Int.tmod (r1 * 3 + r2) (squaresMany s)), squareNumber_mem hs ht0 ht1, ?_⟩
  unfold spec_l20Solved.f
  simp only [Option.bind_some, m0, m1, m2, if_true]
  refine Ev.bind hp1 ?_
  refine Ev.bind hp2 ?_
  have hn : ¬ squaresMany s = 0 := by omega
  simp only [hn, if_false, hw]
  refine Ev.bind (specSquareNumber_ev _ _ (by omega)) ?_
  exact Ev.now _
/-- What a drawn grid is at the least. -/
def Drawn (g : List Int) : Prop := g.length ≤ 16 ∧ ∀ v ∈ g, -1 ≤ v ∧ v ≤ 5
theorem Drawn.set {g : List Int} (h : Drawn g) (i : Nat) {v : Int} (h0 : -1 ≤ v) (h1 : v ≤ 5) : Drawn (g.set i v) := by
  refine ⟨by rw [List.length_set]; exact h.1, fun x hx => ?_⟩
  rcases List.mem_or_eq_of_mem_set hx with hx | rfl
  · exact h.2 x hx
  · exact ⟨h0, h1⟩
theorem Drawn.of_grid {g : List Int} {s : Int} (h : gridB g s = true) : Drawn g := by
  refine ⟨gridB_le h, fun v hv => ?_⟩
  have h1 := gridB_mem h v hv
  rcases sizeOkB_iff.1 (gridB_size h) with rfl | rfl | rfl <;> omega
theorem Drawn.le {g : List Int} (h : Drawn g) : g.length ≤ 35184372088832 := by have := h.1; omega
theorem gridl1_end {b : List Int} (hb : Bytes b) {n s p x : Int} {g : List Int} (hn : 1 ≤ n) (hn1 : n ≤ 1000000) (hs : sizeOkB s = true) (hg : Drawn g) (hg0 : 0 < g.length) (hx : x ≤ 1) (hp : 0 ≤ p) (hp1 : p ≤ 800000) : ∃ g' s' p', Drawn g' ∧ SizeDraw s' ∧ 0 ≤ p' ∧ p' ≤ p + 10 ∧ Ev (fun k => spec_l20Grid.l1 k n s g x b p) (g', s', p') := by
  have hx1 : ¬ x > 1 := by omega
  have hsd : SizeDraw s := by unfold SizeDraw; rcases sizeOkB_iff.1 hs with rfl | rfl | rfl <;> decide
  obtain ⟨r, hr⟩ := odd_ev hb (p := p) (n := n) hp (by omega) hn hn1
  cases r with
  | false =>
    refine ⟨g, s, p + 1, hg, hsd, by omega, by omega, ?_⟩
    refine Ev.step (fun k => spec_l20Grid.l1.eq_2 _ _ _ _ _ _ k) ?_
    simp only [hx1, if_false]
    refine Ev.bind hr ?_
    simp only [Bool.false_eq_true, if_false]
    exact Ev.now _
  | true =>
    obtain ⟨i, h0, h1, hi⟩ := pick_ev hb (p := p + 1) (n := 3) (by omega) (by omega) (by decide)
    by_cases e0 : i = 0
    · obtain ⟨c, c0, c1, hc⟩ := pick_ev hb (p := p + 1 + 1) (n := (g.length : Int)) (by omega) (by omega) (by omega)
      obtain ⟨q, q0, q1, hq⟩ := pick_ev hb (p := p + 1 + 1 + 1) (n := 2) (by omega) (by omega) (by decide)
      have hw : wrap64 (s + 1) = s + 1 := by rcases sizeOkB_iff.1 hs with rfl | rfl | rfl <;> decide +kernel
      have hv : -1 ≤ rd [-1, s + 1] q ∧ rd [-1, s + 1] q ≤ 5 := by
        have : q = 0 ∨ q = 1 := by omega
        rcases sizeOkB_iff.1 hs with rfl | rfl | rfl <;> rcases this with rfl | rfl <;> decide
      refine ⟨g.set c.toNat (rd [-1, s + 1] q), s, p + 1 + 1 + 1 + 1, hg.set _ hv.1 hv.2, hsd, by omega, by omega, ?_⟩
      refine Ev.step (fun k => spec_l20Grid.l1.eq_2 _ _ _ _ _ _ k) ?_
      simp only [hx1, if_false]
      refine Ev.bind hr ?_
      simp only [if_true]
      refine Ev.bind hi ?_
      simp only [e0, if_true]
      refine Ev.bind hc ?_
      simp only [Option.bind_some, hw]
      refine Ev.bind hq ?_
      have h2 : q < (([-1, s + 1] : List Int).length : Int) := by simp; omega
      simp only [q0, h2, c0, c1, if_true]
      exact Ev.now _
    · by_cases e1 : i = 1
      · have hl : 1 ≤ (g.length : Int) := by omega
        refine ⟨g.drop (1 : Int).toNat, s, p + 1 + 1, ⟨by rw [List.length_drop]; have := hg.1; omega, fun v hv => hg.2 v (List.mem_of_mem_drop hv)⟩, hsd, by omega, by omega, ?_⟩
        refine Ev.step (fun k => spec_l20Grid.l1.eq_2 _ _ _ _ _ _ k) ?_
        simp only [hx1, if_false]
        refine Ev.bind hr ?_
        simp only [if_true]
        refine Ev.bind hi ?_
        have e10 : ¬ (1 : Int) = 0 := by decide
        simp only [e1, e10, hl, if_true, if_false]
        exact Ev.now _
      · obtain ⟨s', hs', hp'⟩ := size_ev hb (p := p + 1 + 1) (n := 1) (by omega) (by omega) (by decide) (by decide)
        refine ⟨g, s', p + 1 + 1 + 1 + 1, hg, hs', by omega, by omega, ?_⟩
        refine Ev.step (fun k => spec_l20Grid.l1.eq_2 _ _ _ _ _ _ k) ?_
        simp only [hx1, if_false]
        refine Ev.bind hr ?_
        simp only [if_true]
        refine Ev.bind hi ?_
        simp only [e0, e1, if_false]
        refine Ev.bind hp' ?_
        exact Ev.now _
theorem gridl1_ev {b : List Int} (hb : Bytes b) {n s p x : Int} {g : List Int} (hn : 1 ≤ n) (hn1 : n ≤ 1000000) (hs : sizeOkB s = true) (hg : Drawn g) (hg0 : 0 < g.length) (hx : x ≤ 2) (hp : 0 ≤ p) (hp1 : p ≤ 700000) : ∃ g' s' p', Drawn g' ∧ SizeDraw s' ∧ 0 ≤ p' ∧ p' ≤ p + 20 ∧ Ev (fun k => spec_l20Grid.l1 k n s g x b p) (g', s', p') := by
  by_cases hx1 : x ≤ 1
  · obtain ⟨g', s', p', a1, a2, a3, a4, a5⟩ := gridl1_end hb hn hn1 hs hg hg0 hx1 hp (by omega)
    exact ⟨g', s', p', a1, a2, a3, by omega, a5⟩
  · obtain rfl : x = 2 := by omega
    obtain ⟨c, c0, c1, hc⟩ := pick_ev hb (p := p) (n := (g.length : Int)) (by omega) (by omega) (by omega)
    have hw : wrap64 (s + 1) = s + 1 := by rcases sizeOkB_iff.1 hs with rfl | rfl | rfl <;> decide +kernel
    have hs4 : 2 ≤ s ∧ s ≤ 4 := by rcases sizeOkB_iff.1 hs with rfl | rfl | rfl <;> decide
    obtain ⟨q, q0, q1, hq⟩ := pick_ev hb (p := p + 1) (n := s + 1) (by omega) (by omega) (by omega)
    obtain ⟨g', s', p', a1, a2, a3, a4, a5⟩ := gridl1_end hb (x := 1) (g := g.set c.toNat q) (p := p + 1 + 1) hn hn1 hs (hg.set _ (by omega) (by omega)) (by rw [List.length_set]; exact hg0) (by decide) (by omega) (by omega)
    refine ⟨g', s', p', a1, a2, a3, by omega, ?_⟩
    refine Ev.step (fun k => spec_l20Grid.l1.eq_2 _ _ _ _ _ _ k) ?_
    have h2 : (2 : Int) > 1 := by decide
    have hw2 : wrap64 (2 - 1) = 1 := by decide +kernel
    simp only [h2, if_true, hw]
    refine Ev.bind hc ?_
    refine Ev.bind hq ?_
    simp only [c0, c1, if_true, hw2]
    exact a5
theorem gridl0_ev {b : List Int} (hb : Bytes b) {n s h : Int} (hn : 1 ≤ n) (hn1 : n ≤ 1000000) (hs : sizeOkB s = true) : ∀ (d j : Nat) (g : List Int) (p : Int), Drawn g → 0 < g.length → j + d = g.length → 0 ≤ p → p + (d : Int) ≤ 600000 → ∃ g' s' p', Drawn g' ∧ SizeDraw s' ∧ 0 ≤ p' ∧ p' ≤ p + d + 30 ∧ Ev (fun k => spec_l20Grid.l0 k n s g h (j : Int) b p) (g', s', p')
  | 0, j, g, p, hg, hg0, hj, hp, hp1 => by
    obtain ⟨x, x0, x1, hx⟩ := pick_ev hb (p := p) (n := 3) hp (by omega) (by decide)
    obtain ⟨g', s', p', a1, a2, a3, a4, a5⟩ := gridl1_ev hb (x := x) (p := p + 1) hn hn1 hs hg hg0 (by omega) (by omega) (by omega)
    refine ⟨g', s', p', a1, a2, a3, by omega, ?_⟩
    refine Ev.step (fun k => spec_l20Grid.l0.eq_2 _ _ _ _ _ _ _ k) ?_
    have h1 : ¬ (j : Int) < (g.length : Int) := by omega
    simp only [h1, if_false]
    refine Ev.bind hx ?_
    exact a5
  | d + 1, j, g, p, hg, hg0, hj, hp, hp1 => by
    obtain ⟨x, x0, x1, hx⟩ := pick_ev hb (p := p) (n := 5) hp (by omega) (by decide)
    have h1 : (j : Int) < (g.length : Int) := by omega
    have h0 : (0 : Int) ≤ (j : Int) := by omega
    have hgl := hg.1
    have hw : wrap64 ((j : Int) + 1) = ((j + 1 : Nat) : Int) := w64n (by omega)
    by_cases hc : x < h
    · obtain ⟨g', s', p', a1, a2, a3, a4, a5⟩ := gridl0_ev hb hn hn1 hs d (j + 1) (g.set j 0) (p + 1) (hg.set _ (by decide) (by decide)) (by rw [List.length_set]; exact hg0) (by rw [List.length_set]; omega) (by omega) (by omega)
      refine ⟨g', s', p', a1, a2, a3, by omega, ?_⟩
      refine Ev.step (fun k => spec_l20Grid.l0.eq_2 _ _ _ _ _ _ _ k) ?_
      simp only [h1, if_true]
      refine Ev.bind hx ?_
      simp only [hc, h0, if_true, hw, Int.toNat_natCast]
      exact a5
    · obtain ⟨g', s', p', a1, a2, a3, a4, a5⟩ := gridl0_ev hb hn hn1 hs d (j + 1) g (p + 1) hg hg0 (by omega) (by omega) (by omega)
      refine ⟨g', s', p', a1, a2, a3, by omega, ?_⟩
      refine Ev.step (fun k => spec_l20Grid.l0.eq_2 _ _ _ _ _ _ _ k) ?_
      simp only [h1, if_true]
      refine Ev.bind hx ?_
      simp only [hc, if_false, hw]
      exact a5
theorem grid_ev {b : List Int} (hb : Bytes b) {n p : Int} (hn : 1 ≤ n) (hn1 : n ≤ 1000000) (hp : 0 ≤ p) (hp1 : p ≤ 500000) : ∃ g s p', Drawn g ∧ SizeDraw s ∧ 0 ≤ p' ∧ p' ≤ p + 100 ∧ Ev (fun k => spec_l20Grid.f k b p n) (g, s, p') := by
  obtain ⟨s, hs, h1⟩ := size0_ev hb hp (by omega)
  obtain ⟨g, hgm, h2⟩ := solved_ev hb (p := p + 1) hs (by omega) (by omega)
  obtain ⟨x, x0, x1, h3⟩ := pick_ev hb (p := p + 1 + 1 + 1) (n := 5) (by omega) (by omega) (by decide)
  have hg := (allSquares_ok hs hgm).1
  have hgl := gridB_le hg
  have hg0 : 0 < g.length := by have := gridB_len hg; rcases sizeOkB_iff.1 hs with rfl | rfl | rfl <;> omega
  obtain ⟨g', s', p', a1, a2, a3, a4, a5⟩ := gridl0_ev hb (h := x) hn hn1 hs g.length 0 g (p + 1 + 1 + 1 + 1) (Drawn.of_grid hg) hg0 (by omega) (by omega) (by omega)
  refine ⟨g', s', p', a1, a2, a3, by omega, ?_⟩
  unfold spec_l20Grid.f
  refine Ev.bind h1 ?_
  refine Ev.bind h2 ?_
  refine Ev.bind h3 ?_
  exact a5

end Go.Proofs.Ytnocdmclcdfppaa.Pure
