/- The machine's side of laws of this seat: each Go function as a plain Lean function and the proof that the machine's call does what that function says; written by this session's own program over the kit's print. -/
import Derived.Test.YtaglakdahmepeaaP0
namespace Go.Proofs.Ytaglakdahmepeaa.P
open Go.RowKit Go.Proofs.YtaglakdahmepeaaW.PrintWords Go.Proofs.YtaglakdahmepeaaW.PrintLast Go.Proofs.YtaglakdahmepeaaW.PrintMore
attribute [local go_sem] max2_int min2_int max_two min_two max_three min_three max_four min_four   -- for this text's walks alone
set_option linter.unusedVariables false
set_option linter.unusedSimpArgs false

/-! ### spec_l4Holds: function 68 -/
mutual
def spec_l4Holds.l0 : Nat → List Int → Int → Int → Bool → Int → Int → List Int → Int → Option (Bool)
  | 0, _, _, _, _, _, _, _, _ => none
  | k + 1, x1, x5, x6, x7, x8, x643000, x643001, x643002 => if x8 < (x1.length : Int) then (if 0 ≤ x8 then (spec_l4Holds.l1 k x1 (wrap64 (x5 + (rd x1 x8))) (wrap64 (x6 * (rd x1 x8))) x7 x8 0 x643000 x643001 x643002) else (none)) else (if x643000 = 1 then (some x7) else (if x643000 = 2 then (some (x5 == x643002)) else (if x643000 = 3 then (some (x6 == x643002)) else (if x643000 = 4 then (if 0 < (x1.length : Int) then (if 1 < (x1.length : Int) then (some (decide ((rd x1 0) < (rd x1 1)))) else (none)) else (none)) else (if 0 < (x1.length : Int) then (if 1 < (x1.length : Int) then (some ((mx (wrap64 ((rd x1 0) - (rd x1 1))) (wrap64 (-(wrap64 ((rd x1 0) - (rd x1 1)))))) == x643002)) else (none)) else (none))))))
def spec_l4Holds.l1 : Nat → List Int → Int → Int → Bool → Int → Int → Int → List Int → Int → Option (Bool)
  | 0, _, _, _, _, _, _, _, _, _ => none
  | k + 1, x1, x5, x6, x7, x8, x9, x643000, x643001, x643002 => if x9 < x8 then (if x7 = true then (if 0 ≤ x9 then (if x9 < (x1.length : Int) then (if 0 ≤ x8 then (if x8 < (x1.length : Int) then (spec_l4Holds.l1 k x1 x5 x6 ((rd x1 x9) != (rd x1 x8)) x8 (wrap64 (x9 + 1)) x643000 x643001 x643002) else (none)) else (none)) else (none)) else (none)) else (spec_l4Holds.l1 k x1 x5 x6 false x8 (wrap64 (x9 + 1)) x643000 x643001 x643002)) else (spec_l4Holds.l0 k x1 x5 x6 x7 (wrap64 (x8 + 1)) x643000 x643001 x643002)
end
def spec_l4Holds.f (k : Nat) (a0_0 : Int) (l0_1 : List Int) (a0_2 : Int) (l1 : List Int) : Option (Bool) := spec_l4Holds.l0 k l1 0 1 true 0 a0_0 l0_1 a0_2
theorem spec_l4Holds.mono_l : ∀ k, (∀ y0 y1 y2 y3 y4 y5 y6 y7, LeO (spec_l4Holds.l0 k y0 y1 y2 y3 y4 y5 y6 y7) (spec_l4Holds.l0 (k + 1) y0 y1 y2 y3 y4 y5 y6 y7)) ∧ (∀ y0 y1 y2 y3 y4 y5 y6 y7 y8, LeO (spec_l4Holds.l1 k y0 y1 y2 y3 y4 y5 y6 y7 y8) (spec_l4Holds.l1 (k + 1) y0 y1 y2 y3 y4 y5 y6 y7 y8))
  | 0 => ⟨fun _ _ _ _ _ _ _ _ r h => by simp [spec_l4Holds.l0] at h, fun _ _ _ _ _ _ _ _ _ r h => by simp [spec_l4Holds.l1] at h⟩
  | k + 1 => by
    obtain ⟨ih0, ih1⟩ := spec_l4Holds.mono_l k
    refine ⟨?_, ?_⟩
    · intro y0 y1 y2 y3 y4 y5 y6 y7
      unfold spec_l4Holds.l0
      repeat' first
      | (with_reducible exact ih0 _ _ _ _ _ _ _ _)
      | (with_reducible exact ih1 _ _ _ _ _ _ _ _ _)
      | (with_reducible exact LeO.refl _)
      | (with_reducible exact LeO.none _)
      | (with_reducible refine LeO.ite ?_ ?_)
      | (with_reducible refine LeO.bind ?_ (fun _ => ?_))
      | exact ih0 _ _ _ _ _ _ _ _
      | exact ih1 _ _ _ _ _ _ _ _ _
      | exact LeO.none _
      | refine LeO.ite ?_ ?_
      | refine LeO.bind ?_ (fun _ => ?_)
    · intro y0 y1 y2 y3 y4 y5 y6 y7 y8
      unfold spec_l4Holds.l1
      repeat' first
      | (with_reducible exact ih0 _ _ _ _ _ _ _ _)
      | (with_reducible exact ih1 _ _ _ _ _ _ _ _ _)
      | (with_reducible exact LeO.refl _)
      | (with_reducible exact LeO.none _)
      | (with_reducible refine LeO.ite ?_ ?_)
      | (with_reducible refine LeO.bind ?_ (fun _ => ?_))
      | exact ih0 _ _ _ _ _ _ _ _
      | exact ih1 _ _ _ _ _ _ _ _ _
      | exact LeO.none _
      | refine LeO.ite ?_ ?_
      | refine LeO.bind ?_ (fun _ => ?_)
theorem spec_l4Holds.mono : ∀ a0 a1 a2 a3 k, LeO (spec_l4Holds.f k a0 a1 a2 a3) (spec_l4Holds.f (k + 1) a0 a1 a2 a3) := by
  intro a0 a1 a2 a3 k
  obtain ⟨ih0, ih1⟩ := spec_l4Holds.mono_l k
  unfold spec_l4Holds.f
  repeat' first
      | (with_reducible exact ih0 _ _ _ _ _ _ _ _)
      | (with_reducible exact ih1 _ _ _ _ _ _ _ _ _)
      | (with_reducible exact LeO.refl _)
      | (with_reducible exact LeO.none _)
      | (with_reducible refine LeO.ite ?_ ?_)
      | (with_reducible refine LeO.bind ?_ (fun _ => ?_))
      | exact ih0 _ _ _ _ _ _ _ _
      | exact ih1 _ _ _ _ _ _ _ _ _
      | exact LeO.none _
      | refine LeO.ite ?_ ?_
      | refine LeO.bind ?_ (fun _ => ?_)
set_option maxHeartbeats 8000000 in
set_option maxRecDepth 100000 in
theorem spec_l4Holds.calls (k : Nat) (a0_0 : Int) (A0_1 : Option Addr) (c0_1 : Nat) (l0_1 : List Int) (a0_2 : Int) (A1 : Option Addr) (c1 : Nat) (l1 : List Int) (r : Bool) (w : World) (hr0_1 : Kd.C (Kd.int .i64) w A0_1 l0_1.length l0_1) (hc0_1 : l0_1.length ≤ c0_1) (hr1 : Kd.C (Kd.int .i64) w A1 l1.length l1) (hc1 : l1.length ≤ c1) (h : spec_l4Holds.f k a0_0 l0_1 a0_2 l1 = some r) :
    Calls Try.prog 68 #[.agg #[.int .i64 a0_0, .slice A0_1 l0_1.length c0_1, .int .i64 a0_2], .slice A1 l1.length c1] w fun e w' => e = .returned (.bool r) ∧ Below w.heap.size w w' := by
  have hu32 := Try.underlying32
  have HR0_1 := Aside0.mk hr0_1
  have HC0_1 := Aside0.mk hc0_1
  clear hr0_1 hc0_1
  have HR1 := Aside0.mk hr1
  have HC1 := Aside0.mk hc1
  clear hr1 hc1
  have HB := Aside0.mk (Below.refl w.heap.size w)
  have H : (spec_l4Holds.l0 k l1 0 1 true 0 a0_0 l0_1 a0_2) = some r := h
  clear h
  have H' := Aside0.mk H
  clear H
  go_enter Try.func68, Try.ntmps68
  go_wp2_with (first | ((with_reducible refine gate_dst (N := 2) rfl ?_); refine box_event ?hg (N := 2) ?hd (cs := #[.int .i64 a0_0, .slice A0_1 l0_1.length c0_1, .int .i64 a0_2]) (t := 32) ?hr ?_; (case hd => rfl); (case hg => rfl); (case hr => first | (go_simp; done) | (go_simp; rfl)); intro gb642 hg w3 hbox hb; have n0_ := Aside0.mk (below_step (by repeat (first | (with_reducible first | exact HB.out | apply below_alloc | apply pw_below_drewN | apply below_drew1) | exact HB.out)) hb); have n1_ := Aside0.mk (hbox); have n2_ := Aside0.mk ((by rw [hg]; exact (below_size (by repeat (first | (with_reducible first | exact HB.out | apply below_alloc | apply pw_below_drewN | apply below_drew1) | exact HB.out))) : w.heap.size ≤ gb642)); have n3_ := Aside0.mk ((by rw [hg]; exact (below_size (by repeat (first | (with_reducible first | exact HB.out | apply below_alloc | apply pw_below_drewN | apply below_drew1) | exact HB.out))) : w.heap.size ≤ gb642)); clear HB; have HB := n0_; have BK642 := n1_; have GW642 := n2_; have GE642 := n3_; clear n0_ n1_ n2_ n3_; clear hb hbox hg))
  repeat (go_quiet (first | ((with_reducible refine gate_dst (N := 2) rfl ?_); refine box_event ?hg (N := 2) ?hd (cs := #[.int .i64 a0_0, .slice A0_1 l0_1.length c0_1, .int .i64 a0_2]) (t := 32) ?hr ?_; (case hd => rfl); (case hg => rfl); (case hr => first | (go_simp; done) | (go_simp; rfl)); intro gb642 hg w3 hbox hb; have n0_ := Aside0.mk (below_step (by repeat (first | (with_reducible first | exact HB.out | apply below_alloc | apply pw_below_drewN | apply below_drew1) | exact HB.out)) hb); have n1_ := Aside0.mk (hbox); have n2_ := Aside0.mk ((by rw [hg]; exact (below_size (by repeat (first | (with_reducible first | exact HB.out | apply below_alloc | apply pw_below_drewN | apply below_drew1) | exact HB.out))) : w.heap.size ≤ gb642)); have n3_ := Aside0.mk ((by rw [hg]; exact (below_size (by repeat (first | (with_reducible first | exact HB.out | apply below_alloc | apply pw_below_drewN | apply below_drew1) | exact HB.out))) : w.heap.size ≤ gb642)); clear HB; have HB := n0_; have BK642 := n1_; have GW642 := n2_; have GE642 := n3_; clear n0_ n1_ n2_ n3_; clear hb hbox hg)); try go_wp2_with (first | ((with_reducible refine gate_dst (N := 2) rfl ?_); refine box_event ?hg (N := 2) ?hd (cs := #[.int .i64 a0_0, .slice A0_1 l0_1.length c0_1, .int .i64 a0_2]) (t := 32) ?hr ?_; (case hd => rfl); (case hg => rfl); (case hr => first | (go_simp; done) | (go_simp; rfl)); intro gb642 hg w3 hbox hb; have n0_ := Aside0.mk (below_step (by repeat (first | (with_reducible first | exact HB.out | apply below_alloc | apply pw_below_drewN | apply below_drew1) | exact HB.out)) hb); have n1_ := Aside0.mk (hbox); have n2_ := Aside0.mk ((by rw [hg]; exact (below_size (by repeat (first | (with_reducible first | exact HB.out | apply below_alloc | apply pw_below_drewN | apply below_drew1) | exact HB.out))) : w.heap.size ≤ gb642)); have n3_ := Aside0.mk ((by rw [hg]; exact (below_size (by repeat (first | (with_reducible first | exact HB.out | apply below_alloc | apply pw_below_drewN | apply below_drew1) | exact HB.out))) : w.heap.size ≤ gb642)); clear HB; have HB := n0_; have BK642 := n1_; have GW642 := n2_; have GE642 := n3_; clear n0_ n1_ n2_ n3_; clear hb hbox hg)))
  go_loopg [5, 6, 7, 8] k (fun kq v5 v6 v7 v8 w' => ∃ (x5_1 : Int) (x6_1 : Int) (x7_1 : Bool) (x8_1 : Int), v5 = .int .i64 x5_1 ∧ v6 = .int .i64 x6_1 ∧ v7 = .bool x7_1 ∧ v8 = .int .i64 x8_1 ∧ Aside0 (spec_l4Holds.l0 kq l1 x5_1 x6_1 x7_1 x8_1 a0_0 l0_1 a0_2 = some r) ∧ Aside0 (kq ≤ k) ∧ Aside0 (w'.heap[gb642]? = some (.cells #[.int .i64 a0_0, (.slice A0_1 l0_1.length c0_1), .int .i64 a0_2] 32 (0, 0))) ∧ Aside0 (Below w.heap.size w w'))
  case atStart => exact ⟨(0), (1), (true), (0), (by first | rfl | (simp; done) | (simp [*]; done)), (by first | rfl | (simp; done) | (simp [*]; done)), (by first | rfl | (simp; done) | (simp [*]; done)), (by first | rfl | (simp; done) | (simp [*]; done)), H', ⟨Nat.le_refl _⟩, ⟨by (with_reducible repeat (first | refine blk_drewN ?_ _ | refine blk_drew ?_ | refine blk_alloc ?_ _)); exact BK642.out⟩, ⟨by repeat (first | (with_reducible first | exact HB.out | apply below_alloc | apply pw_below_drewN | apply below_drew1 | refine below_set ?_ GE642.out) | exact HB.out)⟩⟩
  case round =>
    clear H'
    try clear c1
    try clear p2
    obtain ⟨x5_1, x6_1, x7_1, x8_1, rfl, rfl, rfl, rfl, HA, HK1, BK642, HB⟩ := hrel
    cases gk with
    | zero => exact absurd HA.out (by simp [spec_l4Holds.l0])
    | succ k1 =>
      have H := HA.out
      clear HA
      simp only [spec_l4Holds.l0] at H
      by_cases c4 : x8_1 < (l1.length : Int)
      · rw [if_pos c4] at H
        have c4b0 : decide (x8_1 < (l1.length : Int)) = true := decide_eq_true c4
        clear c4
        by_cases c5 : 0 ≤ x8_1
        · rw [if_pos c5] at H
          have c5b0 : decide (0 ≤ x8_1) = true := decide_eq_true c5
          clear c5
          have H' := Aside0.mk H
          clear H
          have p643 : 0 ≤ (x8_1 : Int) := of_decide_eq_true (by first | (with_reducible assumption) | assumption)
          have q643 : x8_1 < (l1.length : Int) := of_decide_eq_true (by first | (with_reducible assumption) | assumption)
          obtain ⟨ad643, e643, hx643_0⟩ := Kd.at_int HR1.out x8_1 p643 q643
          cases e643
          replace hx643_0 := (HB.out.cell (World.block_lt_of_cell? w _ hx643_0)).trans hx643_0
          replace p643 := eq_true p643
          replace q643 := eq_true q643
          have p644 : 0 ≤ (x8_1 : Int) := of_decide_eq_true (by first | (with_reducible assumption) | assumption)
          have q644 : x8_1 < (l1.length : Int) := of_decide_eq_true (by first | (with_reducible assumption) | assumption)
          obtain ⟨ad644, e644, hx644_0⟩ := Kd.at_int HR1.out x8_1 p644 q644
          obtain rfl : ad643 = ad644 := (by injection e644)
          replace hx644_0 := (HB.out.cell (World.block_lt_of_cell? w _ hx644_0)).trans hx644_0
          replace p644 := eq_true p644
          replace q644 := eq_true q644
          go_wp2
          repeat (go_quiet (fail); try go_wp2)
          go_loopg [7, 9] k1 (fun kq v7 v9 w' => ∃ (x7_2 : Bool) (x9_2 : Int), v7 = .bool x7_2 ∧ v9 = .int .i64 x9_2 ∧ Aside0 (spec_l4Holds.l1 kq l1 (wrap64 (x5_1 + (rd l1 x8_1))) (wrap64 (x6_1 * (rd l1 x8_1))) x7_2 x8_1 x9_2 a0_0 l0_1 a0_2 = some r) ∧ Aside0 (kq ≤ k1) ∧ Aside0 (w'.heap[gb642]? = some (.cells #[.int .i64 a0_0, (.slice A0_1 l0_1.length c0_1), .int .i64 a0_2] 32 (0, 0))) ∧ Aside0 (Below w.heap.size w w'))
          case atStart => exact ⟨(x7_1), (0), (by first | rfl | (simp; done) | (simp [*]; done)), (by first | rfl | (simp; done) | (simp [*]; done)), H', ⟨Nat.le_refl _⟩, ⟨by (with_reducible repeat (first | refine blk_drewN ?_ _ | refine blk_drew ?_ | refine blk_alloc ?_ _)); exact BK642.out⟩, ⟨by repeat (first | (with_reducible first | exact HB.out | apply below_alloc | apply pw_below_drewN | apply below_drew1 | refine below_set ?_ GE642.out) | exact HB.out)⟩⟩
          case round =>
            clear H'
            try clear c1
            try clear p2
            try clear c4
            try clear c4b0
            try clear c5
            try clear c5b0
            try clear hx643_0
            try clear hx644_0
            try clear p2
            try clear p643
            try clear p644
            try clear q643
            try clear q644
            obtain ⟨x7_2, x9_2, rfl, rfl, HA, HK2, BK642, HB⟩ := hrel
            cases gk with
            | zero => exact absurd HA.out (by simp [spec_l4Holds.l1])
            | succ k2 =>
              have H := HA.out
              clear HA
              simp only [spec_l4Holds.l1] at H
              by_cases c6 : x9_2 < x8_1
              · rw [if_pos c6] at H
                have c6b0 : decide (x9_2 < x8_1) = true := decide_eq_true c6
                clear c6
                by_cases c7 : x7_2 = true
                · subst c7
                  have H1 : (if 0 ≤ x9_2 then (if x9_2 < (l1.length : Int) then (if 0 ≤ x8_1 then (if x8_1 < (l1.length : Int) then (spec_l4Holds.l1 k2 l1 (wrap64 (x5_1 + (rd l1 x8_1))) (wrap64 (x6_1 * (rd l1 x8_1))) ((rd l1 x9_2) != (rd l1 x8_1)) x8_1 (wrap64 (x9_2 + 1)) a0_0 l0_1 a0_2) else (none)) else (none)) else (none)) else (none)) = some r := by rw [if_pos rfl] at H; exact H
                  clear H
                  have H := H1
                  clear H1
                  by_cases c8 : 0 ≤ x9_2
                  · rw [if_pos c8] at H
                    have c8b0 : decide (0 ≤ x9_2) = true := decide_eq_true c8
                    clear c8
                    by_cases c9 : x9_2 < (l1.length : Int)
                    · rw [if_pos c9] at H
                      have c9b0 : decide (x9_2 < (l1.length : Int)) = true := decide_eq_true c9
                      clear c9
                      by_cases c10 : 0 ≤ x8_1
                      · rw [if_pos c10] at H
                        have c10b0 : decide (0 ≤ x8_1) = true := decide_eq_true c10
                        clear c10
                        by_cases c11 : x8_1 < (l1.length : Int)
                        · rw [if_pos c11] at H
                          have c11b0 : decide (x8_1 < (l1.length : Int)) = true := decide_eq_true c11
                          clear c11
                          have H' := Aside0.mk H
                          clear H
                          have p645 : 0 ≤ (x9_2 : Int) := of_decide_eq_true (by first | (with_reducible assumption) | assumption)
                          have q645 : x9_2 < (l1.length : Int) := of_decide_eq_true (by first | (with_reducible assumption) | assumption)
                          obtain ⟨ad645, e645, hx645_0⟩ := Kd.at_int HR1.out x9_2 p645 q645
                          obtain rfl : ad643 = ad645 := (by injection e645)
                          replace hx645_0 := (HB.out.cell (World.block_lt_of_cell? w _ hx645_0)).trans hx645_0
                          replace p645 := eq_true p645
                          replace q645 := eq_true q645
                          have p646 : 0 ≤ (x8_1 : Int) := of_decide_eq_true (by first | (with_reducible assumption) | assumption)
                          have q646 : x8_1 < (l1.length : Int) := of_decide_eq_true (by first | (with_reducible assumption) | assumption)
                          obtain ⟨ad646, e646, hx646_0⟩ := Kd.at_int HR1.out x8_1 p646 q646
                          obtain rfl : ad643 = ad646 := (by injection e646)
                          replace hx646_0 := (HB.out.cell (World.block_lt_of_cell? w _ hx646_0)).trans hx646_0
                          replace p646 := eq_true p646
                          replace q646 := eq_true q646
                          go_wp2
                          repeat (go_quiet (fail); try go_wp2)
                          go_roundg k2
                          case measure => have := HK1.out; have := HK2.out; omega
                          case rel => exact ⟨(((rd l1 x9_2) != (rd l1 x8_1))), (wrap64 (x9_2 + 1)), (by first | rfl | (simp; done) | (simp [*]; done)), (by first | rfl | (simp; done) | (simp [*]; done)), H', ⟨by have := HK1.out; have := HK2.out; omega⟩, ⟨by (with_reducible repeat (first | refine blk_drewN ?_ _ | refine blk_drew ?_ | refine blk_alloc ?_ _)); exact BK642.out⟩, ⟨by repeat (first | (with_reducible first | exact HB.out | apply below_alloc | apply pw_below_drewN | apply below_drew1 | refine below_set ?_ GE642.out) | exact HB.out)⟩⟩
                        · rw [if_neg c11] at H
                          exact absurd H (by simp)
                      · rw [if_neg c10] at H
                        exact absurd H (by simp)
                    · rw [if_neg c9] at H
                      exact absurd H (by simp)
                  · rw [if_neg c8] at H
                    exact absurd H (by simp)
                · replace c7 := Bool.eq_false_iff.mpr c7
                  subst c7
                  have H1 : (spec_l4Holds.l1 k2 l1 (wrap64 (x5_1 + (rd l1 x8_1))) (wrap64 (x6_1 * (rd l1 x8_1))) false x8_1 (wrap64 (x9_2 + 1)) a0_0 l0_1 a0_2) = some r := by rw [if_neg (show ¬ (false = true) by decide)] at H; exact H
                  clear H
                  have H := H1
                  clear H1
                  have H' := Aside0.mk H
                  clear H
                  go_wp2
                  repeat (go_quiet (fail); try go_wp2)
                  go_roundg k2
                  case measure => have := HK1.out; have := HK2.out; omega
                  case rel => exact ⟨(false), (wrap64 (x9_2 + 1)), (by first | rfl | (simp; done) | (simp [*]; done)), (by first | rfl | (simp; done) | (simp [*]; done)), H', ⟨by have := HK1.out; have := HK2.out; omega⟩, ⟨by (with_reducible repeat (first | refine blk_drewN ?_ _ | refine blk_drew ?_ | refine blk_alloc ?_ _)); exact BK642.out⟩, ⟨by repeat (first | (with_reducible first | exact HB.out | apply below_alloc | apply pw_below_drewN | apply below_drew1 | refine below_set ?_ GE642.out) | exact HB.out)⟩⟩
              · rw [if_neg c6] at H
                have c6b0 : decide (x9_2 < x8_1) = false := decide_eq_false c6
                clear c6
                have H' := Aside0.mk H
                clear H
                go_wp2
                repeat (go_quiet (fail); try go_wp2)
                go_roundg k2
                case measure => have := HK1.out; have := HK2.out; omega
                case rel => exact ⟨((wrap64 (x5_1 + (rd l1 x8_1)))), ((wrap64 (x6_1 * (rd l1 x8_1)))), (x7_2), (wrap64 (x8_1 + 1)), (by first | rfl | (simp; done) | (simp [*]; done)), (by first | rfl | (simp; done) | (simp [*]; done)), (by first | rfl | (simp; done) | (simp [*]; done)), (by first | rfl | (simp; done) | (simp [*]; done)), H', ⟨by have := HK1.out; have := HK2.out; omega⟩, ⟨by (with_reducible repeat (first | refine blk_drewN ?_ _ | refine blk_drew ?_ | refine blk_alloc ?_ _)); exact BK642.out⟩, ⟨by repeat (first | (with_reducible first | exact HB.out | apply below_alloc | apply pw_below_drewN | apply below_drew1 | refine below_set ?_ GE642.out) | exact HB.out)⟩⟩
        · rw [if_neg c5] at H
          exact absurd H (by simp)
      · rw [if_neg c4] at H
        have c4b0 : decide (x8_1 < (l1.length : Int)) = false := decide_eq_false c4
        clear c4
        by_cases c12 : a0_0 = 1
        · rw [if_pos c12] at H
          have c12b0 : (a0_0 == 1) = true := beq_iff_eq.mpr c12
          have c12b1 : (a0_0 != 1) = false := bne_eq_false_iff_eq.mpr c12
          clear c12
          obtain rfl := Option.some.inj H
          have hcz13_0 : wr.cell? ⟨gb642, 0, none⟩ = some (.int .i64 a0_0) := (blk_cell BK642.out 0).trans rfl
          have hcz13_1 : wr.cell? ⟨gb642, 1, none⟩ = some (.slice A0_1 l0_1.length c0_1) := (blk_cell BK642.out 1).trans rfl
          have hcz13_2 : wr.cell? ⟨gb642, 2, none⟩ = some (.int .i64 a0_2) := (blk_cell BK642.out 2).trans rfl
          have hfz13_0 := blk_frozen BK642.out 0
          have hfz13_1 := blk_frozen BK642.out 1
          have hfz13_2 := blk_frozen BK642.out 2
          go_wp2
          repeat (go_quiet (fail); try go_wp2)
          go_ret
          exact ⟨by first | rfl | (simp [errW_none, errW_some] <;> rfl) | (simp [*, errW_none, errW_some] <;> rfl), by repeat (first | (with_reducible first | exact HB.out | apply below_alloc | apply pw_below_drewN | apply below_drew1 | refine below_set ?_ GE642.out) | exact HB.out)⟩
        · rw [if_neg c12] at H
          have c12b0 : (a0_0 == 1) = false := beq_eq_false_iff_ne.mpr c12
          have c12b1 : (a0_0 != 1) = true := bne_iff_ne.mpr c12
          by_cases c14 : a0_0 = 2
          · rw [if_pos c14] at H
            have c14b0 : (a0_0 == 2) = true := beq_iff_eq.mpr c14
            have c14b1 : (a0_0 != 2) = false := bne_eq_false_iff_eq.mpr c14
            clear c14
            obtain rfl := Option.some.inj H
            have hcz15_0 : wr.cell? ⟨gb642, 0, none⟩ = some (.int .i64 a0_0) := (blk_cell BK642.out 0).trans rfl
            have hcz15_1 : wr.cell? ⟨gb642, 1, none⟩ = some (.slice A0_1 l0_1.length c0_1) := (blk_cell BK642.out 1).trans rfl
            have hcz15_2 : wr.cell? ⟨gb642, 2, none⟩ = some (.int .i64 a0_2) := (blk_cell BK642.out 2).trans rfl
            have hfz15_0 := blk_frozen BK642.out 0
            have hfz15_1 := blk_frozen BK642.out 1
            have hfz15_2 := blk_frozen BK642.out 2
            go_wp2
            repeat (go_quiet (fail); try go_wp2)
            go_ret
            exact ⟨by first | rfl | (simp [errW_none, errW_some] <;> rfl) | (simp [*, errW_none, errW_some] <;> rfl), by repeat (first | (with_reducible first | exact HB.out | apply below_alloc | apply pw_below_drewN | apply below_drew1 | refine below_set ?_ GE642.out) | exact HB.out)⟩
          · rw [if_neg c14] at H
            have c14b0 : (a0_0 == 2) = false := beq_eq_false_iff_ne.mpr c14
            have c14b1 : (a0_0 != 2) = true := bne_iff_ne.mpr c14
            by_cases c16 : a0_0 = 3
            · rw [if_pos c16] at H
              have c16b0 : (a0_0 == 3) = true := beq_iff_eq.mpr c16
              have c16b1 : (a0_0 != 3) = false := bne_eq_false_iff_eq.mpr c16
              clear c16
              obtain rfl := Option.some.inj H
              have hcz17_0 : wr.cell? ⟨gb642, 0, none⟩ = some (.int .i64 a0_0) := (blk_cell BK642.out 0).trans rfl
              have hcz17_1 : wr.cell? ⟨gb642, 1, none⟩ = some (.slice A0_1 l0_1.length c0_1) := (blk_cell BK642.out 1).trans rfl
              have hcz17_2 : wr.cell? ⟨gb642, 2, none⟩ = some (.int .i64 a0_2) := (blk_cell BK642.out 2).trans rfl
              have hfz17_0 := blk_frozen BK642.out 0
              have hfz17_1 := blk_frozen BK642.out 1
              have hfz17_2 := blk_frozen BK642.out 2
              go_wp2
              repeat (go_quiet (fail); try go_wp2)
              go_ret
              exact ⟨by first | rfl | (simp [errW_none, errW_some] <;> rfl) | (simp [*, errW_none, errW_some] <;> rfl), by repeat (first | (with_reducible first | exact HB.out | apply below_alloc | apply pw_below_drewN | apply below_drew1 | refine below_set ?_ GE642.out) | exact HB.out)⟩
            · rw [if_neg c16] at H
              have c16b0 : (a0_0 == 3) = false := beq_eq_false_iff_ne.mpr c16
              have c16b1 : (a0_0 != 3) = true := bne_iff_ne.mpr c16
              by_cases c18 : a0_0 = 4
              · rw [if_pos c18] at H
                have c18b0 : (a0_0 == 4) = true := beq_iff_eq.mpr c18
                have c18b1 : (a0_0 != 4) = false := bne_eq_false_iff_eq.mpr c18
                clear c18
                by_cases c19 : 0 < (l1.length : Int)
                · rw [if_pos c19] at H
                  have c19b0 : decide (0 < (l1.length : Int)) = true := decide_eq_true c19
                  have c19b1 : decide (0 < l1.length) = true := decide_eq_true (by omega)
                  clear c19
                  by_cases c20 : 1 < (l1.length : Int)
                  · rw [if_pos c20] at H
                    have c20b0 : decide (1 < (l1.length : Int)) = true := decide_eq_true c20
                    have c20b1 : decide (1 < l1.length) = true := decide_eq_true (by omega)
                    clear c20
                    obtain rfl := Option.some.inj H
                    have hcz21_0 : wr.cell? ⟨gb642, 0, none⟩ = some (.int .i64 a0_0) := (blk_cell BK642.out 0).trans rfl
                    have hcz21_1 : wr.cell? ⟨gb642, 1, none⟩ = some (.slice A0_1 l0_1.length c0_1) := (blk_cell BK642.out 1).trans rfl
                    have hcz21_2 : wr.cell? ⟨gb642, 2, none⟩ = some (.int .i64 a0_2) := (blk_cell BK642.out 2).trans rfl
                    have hfz21_0 := blk_frozen BK642.out 0
                    have hfz21_1 := blk_frozen BK642.out 1
                    have hfz21_2 := blk_frozen BK642.out 2
                    have p647 : 0 ≤ (0 : Int) := (by omega)
                    have q647 : 0 < (l1.length : Int) := of_decide_eq_true (by first | (with_reducible assumption) | assumption)
                    obtain ⟨ad647, e647, hx647_0⟩ := Kd.at_int HR1.out 0 p647 q647
                    cases e647
                    have qi647 : (0 < l1.length) = True := eq_true (by omega)
                    (try rw [show ((0 : Int)).toNat = 0 from rfl] at hx647_0)
                    (try rw [Addr.add_zero'] at hx647_0)
                    replace hx647_0 := (HB.out.cell (World.block_lt_of_cell? w _ hx647_0)).trans hx647_0
                    replace p647 := eq_true p647
                    replace q647 := eq_true q647
                    have p648 : 0 ≤ (1 : Int) := (by omega)
                    have q648 : 1 < (l1.length : Int) := of_decide_eq_true (by first | (with_reducible assumption) | assumption)
                    obtain ⟨ad648, e648, hx648_0⟩ := Kd.at_int HR1.out 1 p648 q648
                    obtain rfl : ad647 = ad648 := (by injection e648)
                    (try simp only [show (1 : Int).toNat = 1 from rfl, Nat.reduceMul, Nat.reduceEqDiff, Go.Addr.add, ↓reduceIte] at hx648_0)
                    have qi648 : (1 < l1.length) = True := eq_true (by omega)
                    (try rw [show ((1 : Int)).toNat = 1 from rfl] at hx648_0)
                    replace hx648_0 := (HB.out.cell (World.block_lt_of_cell? w _ hx648_0)).trans hx648_0
                    replace p648 := eq_true p648
                    replace q648 := eq_true q648
                    go_wp2
                    repeat (go_quiet (fail); try go_wp2)
                    go_ret
                    exact ⟨by first | rfl | (simp [errW_none, errW_some] <;> rfl) | (simp [*, errW_none, errW_some] <;> rfl), by repeat (first | (with_reducible first | exact HB.out | apply below_alloc | apply pw_below_drewN | apply below_drew1 | refine below_set ?_ GE642.out) | exact HB.out)⟩
                  · rw [if_neg c20] at H
                    exact absurd H (by simp)
                · rw [if_neg c19] at H
                  exact absurd H (by simp)
              · rw [if_neg c18] at H
                have c18b0 : (a0_0 == 4) = false := beq_eq_false_iff_ne.mpr c18
                have c18b1 : (a0_0 != 4) = true := bne_iff_ne.mpr c18
                by_cases c22 : 0 < (l1.length : Int)
                · rw [if_pos c22] at H
                  have c22b0 : decide (0 < (l1.length : Int)) = true := decide_eq_true c22
                  have c22b1 : decide (0 < l1.length) = true := decide_eq_true (by omega)
                  clear c22
                  by_cases c23 : 1 < (l1.length : Int)
                  · rw [if_pos c23] at H
                    have c23b0 : decide (1 < (l1.length : Int)) = true := decide_eq_true c23
                    have c23b1 : decide (1 < l1.length) = true := decide_eq_true (by omega)
                    clear c23
                    obtain ⟨ji24, hji24⟩ : ∃ j_ : Int, (mx (wrap64 ((rd l1 0) - (rd l1 1))) (wrap64 (-(wrap64 ((rd l1 0) - (rd l1 1)))))) = j_ := ⟨_, rfl⟩
                    replace H : (some ((ji24) == a0_2)) = some r := by first | (rw [hji24] at H; exact H) | (simp only [hji24] at H ⊢; exact H)
                    have hji24_ : (if (wrap64 ((rd l1 0) - (rd l1 1))) < (wrap64 (-(wrap64 ((rd l1 0) - (rd l1 1))))) then (wrap64 (-(wrap64 ((rd l1 0) - (rd l1 1))))) else (wrap64 ((rd l1 0) - (rd l1 1)))) = ji24 := hji24
                    obtain rfl := Option.some.inj H
                    have hcz25_0 : wr.cell? ⟨gb642, 0, none⟩ = some (.int .i64 a0_0) := (blk_cell BK642.out 0).trans rfl
                    have hcz25_1 : wr.cell? ⟨gb642, 1, none⟩ = some (.slice A0_1 l0_1.length c0_1) := (blk_cell BK642.out 1).trans rfl
                    have hcz25_2 : wr.cell? ⟨gb642, 2, none⟩ = some (.int .i64 a0_2) := (blk_cell BK642.out 2).trans rfl
                    have hfz25_0 := blk_frozen BK642.out 0
                    have hfz25_1 := blk_frozen BK642.out 1
                    have hfz25_2 := blk_frozen BK642.out 2
                    have p649 : 0 ≤ (0 : Int) := (by omega)
                    have q649 : 0 < (l1.length : Int) := of_decide_eq_true (by first | (with_reducible assumption) | assumption)
                    obtain ⟨ad649, e649, hx649_0⟩ := Kd.at_int HR1.out 0 p649 q649
                    cases e649
                    have qi649 : (0 < l1.length) = True := eq_true (by omega)
                    (try rw [show ((0 : Int)).toNat = 0 from rfl] at hx649_0)
                    (try rw [Addr.add_zero'] at hx649_0)
                    replace hx649_0 := (HB.out.cell (World.block_lt_of_cell? w _ hx649_0)).trans hx649_0
                    replace p649 := eq_true p649
                    replace q649 := eq_true q649
                    have p650 : 0 ≤ (1 : Int) := (by omega)
                    have q650 : 1 < (l1.length : Int) := of_decide_eq_true (by first | (with_reducible assumption) | assumption)
                    obtain ⟨ad650, e650, hx650_0⟩ := Kd.at_int HR1.out 1 p650 q650
                    obtain rfl : ad649 = ad650 := (by injection e650)
                    (try simp only [show (1 : Int).toNat = 1 from rfl, Nat.reduceMul, Nat.reduceEqDiff, Go.Addr.add, ↓reduceIte] at hx650_0)
                    have qi650 : (1 < l1.length) = True := eq_true (by omega)
                    (try rw [show ((1 : Int)).toNat = 1 from rfl] at hx650_0)
                    replace hx650_0 := (HB.out.cell (World.block_lt_of_cell? w _ hx650_0)).trans hx650_0
                    replace p650 := eq_true p650
                    replace q650 := eq_true q650
                    go_wp2
                    repeat (go_quiet (fail); try go_wp2)
                    go_ret
                    exact ⟨by first | rfl | (simp [errW_none, errW_some] <;> rfl) | (simp only [← hji24]; first | rfl | (simp [errW_none, errW_some] <;> rfl)) | (simp [*, errW_none, errW_some] <;> rfl), by repeat (first | (with_reducible first | exact HB.out | apply below_alloc | apply pw_below_drewN | apply below_drew1 | refine below_set ?_ GE642.out) | exact HB.out)⟩
                  · rw [if_neg c23] at H
                    exact absurd H (by simp)
                · rw [if_neg c22] at H
                  exact absurd H (by simp)

end Go.Proofs.Ytaglakdahmepeaa.P
