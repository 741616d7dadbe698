/- The machine's side of laws of this seat: each Go function as a plain Lean function and the proof that the machine's call does what that function says; written by this session's own program over the kit's print. -/
import Derived.Test.YtaglakdahmepeaaP0
import Derived.Test.YtaglakdahmepeaaP20
namespace Go.Proofs.Ytaglakdahmepeaa.P
open Go.RowKit Go.Proofs.YtaglakdahmepeaaW.PrintWords Go.Proofs.YtaglakdahmepeaaW.PrintLast Go.Proofs.YtaglakdahmepeaaW.PrintMore
attribute [local go_sem] max2_int min2_int max_two min_two max_three min_three max_four min_four   -- for this text's walks alone
set_option linter.unusedVariables false
set_option linter.unusedSimpArgs false

/-! ### impl_valuesHold: function 69 -/
def impl_valuesHold.l0 : Nat → List Int → Int → Int → List Int → Int → Int → Int → List Int → Int → Option (Bool)
  | 0, _, _, _, _, _, _, _, _, _ => none
  | k + 1, x1, x5, x6, x9, x10, x11, x666000, x666001, x666002 => if x11 < x10 then (if 0 ≤ x11 then (if x11 < (x9.length : Int) then (if x666000 = 1 then (if x11 ≤ (x1.length : Int) then ((slices_Contains_int_int.f k (x1.take (x11 : Int).toNat) (rd x9 x11)).bind fun t668 => (if t668 = true then (some false) else (impl_valuesHold.l0 k x1 (wrap64 (x5 + (rd x9 x11))) (wrap64 (x6 * (rd x9 x11))) x9 x10 (wrap64 (x11 + 1)) x666000 x666001 x666002))) else (none)) else (impl_valuesHold.l0 k x1 (wrap64 (x5 + (rd x9 x11))) (wrap64 (x6 * (rd x9 x11))) x9 x10 (wrap64 (x11 + 1)) x666000 x666001 x666002)) else (none)) else (none)) else (if x666000 = 2 then (some (x5 == x666002)) else (if x666000 = 3 then (some (x6 == x666002)) else (if x666000 = 4 then (if 0 < (x1.length : Int) then (if 1 < (x1.length : Int) then (some (decide ((rd x1 0) < (rd x1 1)))) else (none)) else (none)) else (if x666000 = 5 then (if 0 < (x1.length : Int) then (if 1 < (x1.length : Int) then (some ((mx (wrap64 ((rd x1 0) - (rd x1 1))) (wrap64 ((rd x1 1) - (rd x1 0)))) == x666002)) else (none)) else (none)) else (some true)))))
def impl_valuesHold.f (k : Nat) (a0_0 : Int) (l0_1 : List Int) (a0_2 : Int) (l1 : List Int) : Option (Bool) := impl_valuesHold.l0 k l1 0 1 l1 (l1.length : Int) 0 a0_0 l0_1 a0_2
theorem impl_valuesHold.mono_l : ∀ k, (∀ y0 y1 y2 y3 y4 y5 y6 y7 y8, LeO (impl_valuesHold.l0 k y0 y1 y2 y3 y4 y5 y6 y7 y8) (impl_valuesHold.l0 (k + 1) y0 y1 y2 y3 y4 y5 y6 y7 y8))
  | 0 => fun _ _ _ _ _ _ _ _ _ r h => by simp [impl_valuesHold.l0] at h
  | k + 1 => by
    have ih0 := impl_valuesHold.mono_l k
    · intro y0 y1 y2 y3 y4 y5 y6 y7 y8
      unfold impl_valuesHold.l0
      repeat' first
      | (with_reducible exact ih0 _ _ _ _ _ _ _ _ _)
      | (with_reducible exact slices_Contains_int_int.mono _ _ _)
      | (with_reducible exact LeO.refl _)
      | (with_reducible exact LeO.none _)
      | (with_reducible refine LeO.ite ?_ ?_)
      | (with_reducible refine LeO.bind ?_ (fun _ => ?_))
      | exact ih0 _ _ _ _ _ _ _ _ _
      | exact slices_Contains_int_int.mono _ _ _
      | exact LeO.none _
      | refine LeO.ite ?_ ?_
      | refine LeO.bind ?_ (fun _ => ?_)
theorem impl_valuesHold.mono : ∀ a0 a1 a2 a3 k, LeO (impl_valuesHold.f k a0 a1 a2 a3) (impl_valuesHold.f (k + 1) a0 a1 a2 a3) := by
  intro a0 a1 a2 a3 k
  have ih0 := impl_valuesHold.mono_l k
  unfold impl_valuesHold.f
  repeat' first
      | (with_reducible exact ih0 _ _ _ _ _ _ _ _ _)
      | (with_reducible exact slices_Contains_int_int.mono _ _ _)
      | (with_reducible exact LeO.refl _)
      | (with_reducible exact LeO.none _)
      | (with_reducible refine LeO.ite ?_ ?_)
      | (with_reducible refine LeO.bind ?_ (fun _ => ?_))
      | exact ih0 _ _ _ _ _ _ _ _ _
      | exact slices_Contains_int_int.mono _ _ _
      | exact LeO.none _
      | refine LeO.ite ?_ ?_
      | refine LeO.bind ?_ (fun _ => ?_)
set_option maxHeartbeats 8000000 in
set_option maxRecDepth 100000 in
theorem impl_valuesHold.calls (k : Nat) (a0_0 : Int) (A0_1 : Option Addr) (c0_1 : Nat) (l0_1 : List Int) (a0_2 : Int) (A1 : Option Addr) (c1 : Nat) (l1 : List Int) (r : Bool) (w : World) (hr0_1 : Kd.C (Kd.int .i64) w A0_1 l0_1.length l0_1) (hc0_1 : l0_1.length ≤ c0_1) (hr1 : Kd.C (Kd.int .i64) w A1 l1.length l1) (hc1 : l1.length ≤ c1) (h : impl_valuesHold.f k a0_0 l0_1 a0_2 l1 = some r) :
    Calls Try.prog 69 #[.agg #[.int .i64 a0_0, .slice A0_1 l0_1.length c0_1, .int .i64 a0_2], .slice A1 l1.length c1] w fun e w' => e = .returned (.bool r) ∧ Below w.heap.size w w' := by
  have hu32 := Try.underlying32
  have HR0_1 := Aside0.mk hr0_1
  have HC0_1 := Aside0.mk hc0_1
  clear hr0_1 hc0_1
  have HR1 := Aside0.mk hr1
  have HC1 := Aside0.mk hc1
  clear hr1 hc1
  have HB := Aside0.mk (Below.refl w.heap.size w)
  have H : (impl_valuesHold.l0 k l1 0 1 l1 (l1.length : Int) 0 a0_0 l0_1 a0_2) = some r := h
  clear h
  have H' := Aside0.mk H
  clear H
  go_enter Try.func69, Try.ntmps69
  go_wp2_with (first | ((with_reducible refine gate_dst (N := 2) rfl ?_); refine box_event ?hg (N := 2) ?hd (cs := #[.int .i64 a0_0, .slice A0_1 l0_1.length c0_1, .int .i64 a0_2]) (t := 32) ?hr ?_; (case hd => rfl); (case hg => rfl); (case hr => first | (go_simp; done) | (go_simp; rfl)); intro gb665 hg w3 hbox hb; have n0_ := Aside0.mk (below_step (by repeat (first | (with_reducible first | exact HB.out | apply below_alloc | apply pw_below_drewN | apply below_drew1) | exact HB.out)) hb); have n1_ := Aside0.mk (hbox); have n2_ := Aside0.mk ((by rw [hg]; exact (below_size (by repeat (first | (with_reducible first | exact HB.out | apply below_alloc | apply pw_below_drewN | apply below_drew1) | exact HB.out))) : w.heap.size ≤ gb665)); have n3_ := Aside0.mk ((by rw [hg]; exact (below_size (by repeat (first | (with_reducible first | exact HB.out | apply below_alloc | apply pw_below_drewN | apply below_drew1) | exact HB.out))) : w.heap.size ≤ gb665)); clear HB; have HB := n0_; have BK665 := n1_; have GW665 := n2_; have GE665 := n3_; clear n0_ n1_ n2_ n3_; clear hb hbox hg))
  repeat (go_quiet (first | ((with_reducible refine gate_dst (N := 2) rfl ?_); refine box_event ?hg (N := 2) ?hd (cs := #[.int .i64 a0_0, .slice A0_1 l0_1.length c0_1, .int .i64 a0_2]) (t := 32) ?hr ?_; (case hd => rfl); (case hg => rfl); (case hr => first | (go_simp; done) | (go_simp; rfl)); intro gb665 hg w3 hbox hb; have n0_ := Aside0.mk (below_step (by repeat (first | (with_reducible first | exact HB.out | apply below_alloc | apply pw_below_drewN | apply below_drew1) | exact HB.out)) hb); have n1_ := Aside0.mk (hbox); have n2_ := Aside0.mk ((by rw [hg]; exact (below_size (by repeat (first | (with_reducible first | exact HB.out | apply below_alloc | apply pw_below_drewN | apply below_drew1) | exact HB.out))) : w.heap.size ≤ gb665)); have n3_ := Aside0.mk ((by rw [hg]; exact (below_size (by repeat (first | (with_reducible first | exact HB.out | apply below_alloc | apply pw_below_drewN | apply below_drew1) | exact HB.out))) : w.heap.size ≤ gb665)); clear HB; have HB := n0_; have BK665 := n1_; have GW665 := n2_; have GE665 := n3_; clear n0_ n1_ n2_ n3_; clear hb hbox hg)); try go_wp2_with (first | ((with_reducible refine gate_dst (N := 2) rfl ?_); refine box_event ?hg (N := 2) ?hd (cs := #[.int .i64 a0_0, .slice A0_1 l0_1.length c0_1, .int .i64 a0_2]) (t := 32) ?hr ?_; (case hd => rfl); (case hg => rfl); (case hr => first | (go_simp; done) | (go_simp; rfl)); intro gb665 hg w3 hbox hb; have n0_ := Aside0.mk (below_step (by repeat (first | (with_reducible first | exact HB.out | apply below_alloc | apply pw_below_drewN | apply below_drew1) | exact HB.out)) hb); have n1_ := Aside0.mk (hbox); have n2_ := Aside0.mk ((by rw [hg]; exact (below_size (by repeat (first | (with_reducible first | exact HB.out | apply below_alloc | apply pw_below_drewN | apply below_drew1) | exact HB.out))) : w.heap.size ≤ gb665)); have n3_ := Aside0.mk ((by rw [hg]; exact (below_size (by repeat (first | (with_reducible first | exact HB.out | apply below_alloc | apply pw_below_drewN | apply below_drew1) | exact HB.out))) : w.heap.size ≤ gb665)); clear HB; have HB := n0_; have BK665 := n1_; have GW665 := n2_; have GE665 := n3_; clear n0_ n1_ n2_ n3_; clear hb hbox hg)))
  go_loopg [5, 6, 11] k (fun kq v5 v6 v11 w' => ∃ (x5_1 : Int) (x6_1 : Int) (x11_1 : Int), v5 = .int .i64 x5_1 ∧ v6 = .int .i64 x6_1 ∧ v11 = .int .i64 x11_1 ∧ Aside0 (impl_valuesHold.l0 kq l1 x5_1 x6_1 l1 (l1.length : Int) x11_1 a0_0 l0_1 a0_2 = some r) ∧ Aside0 (kq ≤ k) ∧ Aside0 (w'.heap[gb665]? = some (.cells #[.int .i64 a0_0, (.slice A0_1 l0_1.length c0_1), .int .i64 a0_2] 32 (0, 0))) ∧ Aside0 (Below w.heap.size w w'))
  case atStart => exact ⟨(0), (1), (0), (by first | rfl | (simp; done) | (simp [*]; done)), (by first | rfl | (simp; done) | (simp [*]; done)), (by first | rfl | (simp; done) | (simp [*]; done)), H', ⟨Nat.le_refl _⟩, ⟨by (with_reducible repeat (first | refine blk_drewN ?_ _ | refine blk_drew ?_ | refine blk_alloc ?_ _)); exact BK665.out⟩, ⟨by repeat (first | (with_reducible first | exact HB.out | apply below_alloc | apply pw_below_drewN | apply below_drew1 | refine below_set ?_ GE665.out) | exact HB.out)⟩⟩
  case round =>
    clear H'
    try clear c1
    try clear p2
    obtain ⟨x5_1, x6_1, x11_1, rfl, rfl, rfl, HA, HK1, BK665, HB⟩ := hrel
    cases gk with
    | zero => exact absurd HA.out (by simp [impl_valuesHold.l0])
    | succ k1 =>
      have H := HA.out
      clear HA
      simp only [impl_valuesHold.l0] at H
      by_cases c4 : x11_1 < (l1.length : Int)
      · rw [if_pos c4] at H
        have c4b0 : decide (x11_1 < (l1.length : Int)) = true := decide_eq_true c4
        clear c4
        by_cases c5 : 0 ≤ x11_1
        · rw [if_pos c5] at H
          have c5b0 : decide (0 ≤ x11_1) = true := decide_eq_true c5
          clear c5
          by_cases c6 : x11_1 < (l1.length : Int)
          · rw [if_pos c6] at H
            have c6b0 : decide (x11_1 < (l1.length : Int)) = true := decide_eq_true c6
            clear c6
            by_cases c7 : a0_0 = 1
            · rw [if_pos c7] at H
              have c7b0 : (a0_0 == 1) = true := beq_iff_eq.mpr c7
              have c7b1 : (a0_0 != 1) = false := bne_eq_false_iff_eq.mpr c7
              clear c7
              have c8b0 := eq_true (of_decide_eq_true (by first | (with_reducible assumption) | assumption) : 0 ≤ x11_1)
              by_cases c9 : x11_1 ≤ (l1.length : Int)
              · rw [if_pos c9] at H
                have c9b0 := eq_true c9
                have c9b1 : decide (x11_1 ≤ (l1.length : Int)) = true := decide_eq_true c9
                clear c9
                replace H := Option.bind_eq_some_iff.mp H
                obtain ⟨t668, A100, H⟩ := H
                replace H : (if t668 = true then (some false) else (impl_valuesHold.l0 k1 l1 (wrap64 (x5_1 + (rd l1 x11_1))) (wrap64 (x6_1 * (rd l1 x11_1))) l1 (l1.length : Int) (wrap64 (x11_1 + 1)) a0_0 l0_1 a0_2)) = some r := H
                have A10 := Aside0.mk A100
                clear A100
                by_cases c11 : t668 = true
                · subst c11
                  have H1 : (some false) = some r := by rw [if_pos rfl] at H; exact H
                  clear H
                  have H := H1
                  clear H1
                  obtain rfl := Option.some.inj H
                  have p666 : 0 ≤ (x11_1 : Int) := of_decide_eq_true (by first | (with_reducible assumption) | assumption)
                  have q666 : x11_1 < (l1.length : Int) := of_decide_eq_true (by first | (with_reducible assumption) | assumption)
                  obtain ⟨ad666, e666, hx666_0⟩ := Kd.at_int HR1.out x11_1 p666 q666
                  cases e666
                  replace hx666_0 := (HB.out.cell (World.block_lt_of_cell? w _ hx666_0)).trans hx666_0
                  replace p666 := eq_true p666
                  replace q666 := eq_true q666
                  have hcz12_0 : wr.cell? ⟨gb665, 0, none⟩ = some (.int .i64 a0_0) := (blk_cell BK665.out 0).trans rfl
                  have hcz12_1 : wr.cell? ⟨gb665, 1, none⟩ = some (.slice A0_1 l0_1.length c0_1) := (blk_cell BK665.out 1).trans rfl
                  have hcz12_2 : wr.cell? ⟨gb665, 2, none⟩ = some (.int .i64 a0_2) := (blk_cell BK665.out 2).trans rfl
                  have hfz12_0 := blk_frozen BK665.out 0
                  have hfz12_1 := blk_frozen BK665.out 1
                  have hfz12_2 := blk_frozen BK665.out 2
                  obtain ⟨i013, hi013, _, hsz13, _⟩ := info_parts info3
                  obtain ⟨hcut13, hA13, hC13⟩ := print_take_of (P := Try.prog) (Value.int .i64) 0 22 3 .i64 Try.underlying22 hi013 hsz13 (some ad666) c1 l1 x11_1 (of_decide_eq_true (by first | (with_reducible assumption) | assumption)) (of_decide_eq_true (by first | (with_reducible assumption) | assumption)) HC1.out
                  have hl13_ : (l1.take (x11_1 : Int).toNat).length = (x11_1 : Int).toNat := by
                    have e0_ : 0 ≤ (x11_1 : Int) := of_decide_eq_true (by first | (with_reducible assumption) | assumption)
                    have e1_ : (x11_1 : Int) ≤ (l1.length : Int) := of_decide_eq_true (by first | (with_reducible assumption) | assumption)
                    rw [List.length_take]; omega
                  have HR667 := Aside0.mk (Kd.C_of_reads (h1 := fun _ => rfl) (hA13 _ (Kd.reads_of_C HR1.out)))
                  have HC667 := Aside0.mk hC13
                  clear hA13 hC13 hi013 hsz13
                  go_wp2_with (first | (go_at_call 60; (first | (with_reducible refine (slices_Contains_int_int.calls k1 _ _ (l1.take (x11_1 : Int).toNat) (rd l1 x11_1) true _ ?side1 ?side2 A10.out).mono ?_) | (rw [← hl13_]; (with_reducible refine (slices_Contains_int_int.calls k1 _ _ (l1.take (x11_1 : Int).toNat) (rd l1 x11_1) true _ ?side1 ?side2 A10.out).mono ?_))); (case side1 => repeat (first | exact (Kd.C_below HR667.out HB.out) | (with_reducible refine Kd.C_alloc ?_ _) | (with_reducible refine Kd.C_drewN ?_ _) | (with_reducible refine Kd.C_drew ?_))); (case side2 => exact HC667.out); rintro e w' ⟨rfl, ⟨nd, rfl⟩⟩; (try first | exact ⟨rfl, _, World.drewN_drewN _ _ _⟩ | exact ⟨rfl, _, Eq.trans (World.drewN_drewN _ _ _) (congrArg (World.drewN _) (Nat.add_assoc _ _ _))⟩)))
                  repeat (go_quiet (first | (go_at_call 60; (first | (with_reducible refine (slices_Contains_int_int.calls k1 _ _ (l1.take (x11_1 : Int).toNat) (rd l1 x11_1) true _ ?side1 ?side2 A10.out).mono ?_) | (rw [← hl13_]; (with_reducible refine (slices_Contains_int_int.calls k1 _ _ (l1.take (x11_1 : Int).toNat) (rd l1 x11_1) true _ ?side1 ?side2 A10.out).mono ?_))); (case side1 => repeat (first | exact (Kd.C_below HR667.out HB.out) | (with_reducible refine Kd.C_alloc ?_ _) | (with_reducible refine Kd.C_drewN ?_ _) | (with_reducible refine Kd.C_drew ?_))); (case side2 => exact HC667.out); rintro e w' ⟨rfl, ⟨nd, rfl⟩⟩; (try first | exact ⟨rfl, _, World.drewN_drewN _ _ _⟩ | exact ⟨rfl, _, Eq.trans (World.drewN_drewN _ _ _) (congrArg (World.drewN _) (Nat.add_assoc _ _ _))⟩))); try go_wp2_with (first | (go_at_call 60; (first | (with_reducible refine (slices_Contains_int_int.calls k1 _ _ (l1.take (x11_1 : Int).toNat) (rd l1 x11_1) true _ ?side1 ?side2 A10.out).mono ?_) | (rw [← hl13_]; (with_reducible refine (slices_Contains_int_int.calls k1 _ _ (l1.take (x11_1 : Int).toNat) (rd l1 x11_1) true _ ?side1 ?side2 A10.out).mono ?_))); (case side1 => repeat (first | exact (Kd.C_below HR667.out HB.out) | (with_reducible refine Kd.C_alloc ?_ _) | (with_reducible refine Kd.C_drewN ?_ _) | (with_reducible refine Kd.C_drew ?_))); (case side2 => exact HC667.out); rintro e w' ⟨rfl, ⟨nd, rfl⟩⟩; (try first | exact ⟨rfl, _, World.drewN_drewN _ _ _⟩ | exact ⟨rfl, _, Eq.trans (World.drewN_drewN _ _ _) (congrArg (World.drewN _) (Nat.add_assoc _ _ _))⟩))))
                  go_ret
                  exact ⟨by first | rfl | (simp [errW_none, errW_some] <;> rfl) | (simp [*, errW_none, errW_some] <;> rfl), by repeat (first | (with_reducible first | exact HB.out | apply below_alloc | apply pw_below_drewN | apply below_drew1 | refine below_set ?_ GE665.out) | exact HB.out)⟩
                · replace c11 := Bool.eq_false_iff.mpr c11
                  subst c11
                  have H1 : (impl_valuesHold.l0 k1 l1 (wrap64 (x5_1 + (rd l1 x11_1))) (wrap64 (x6_1 * (rd l1 x11_1))) l1 (l1.length : Int) (wrap64 (x11_1 + 1)) a0_0 l0_1 a0_2) = some r := by rw [if_neg (show ¬ (false = true) by decide)] at H; exact H
                  clear H
                  have H := H1
                  clear H1
                  have H' := Aside0.mk H
                  clear H
                  have p666 : 0 ≤ (x11_1 : Int) := of_decide_eq_true (by first | (with_reducible assumption) | assumption)
                  have q666 : x11_1 < (l1.length : Int) := of_decide_eq_true (by first | (with_reducible assumption) | assumption)
                  obtain ⟨ad666, e666, hx666_0⟩ := Kd.at_int HR1.out x11_1 p666 q666
                  cases e666
                  replace hx666_0 := (HB.out.cell (World.block_lt_of_cell? w _ hx666_0)).trans hx666_0
                  replace p666 := eq_true p666
                  replace q666 := eq_true q666
                  have hcz14_0 : wr.cell? ⟨gb665, 0, none⟩ = some (.int .i64 a0_0) := (blk_cell BK665.out 0).trans rfl
                  have hcz14_1 : wr.cell? ⟨gb665, 1, none⟩ = some (.slice A0_1 l0_1.length c0_1) := (blk_cell BK665.out 1).trans rfl
                  have hcz14_2 : wr.cell? ⟨gb665, 2, none⟩ = some (.int .i64 a0_2) := (blk_cell BK665.out 2).trans rfl
                  have hfz14_0 := blk_frozen BK665.out 0
                  have hfz14_1 := blk_frozen BK665.out 1
                  have hfz14_2 := blk_frozen BK665.out 2
                  obtain ⟨i015, hi015, _, hsz15, _⟩ := info_parts info3
                  obtain ⟨hcut15, hA15, hC15⟩ := print_take_of (P := Try.prog) (Value.int .i64) 0 22 3 .i64 Try.underlying22 hi015 hsz15 (some ad666) c1 l1 x11_1 (of_decide_eq_true (by first | (with_reducible assumption) | assumption)) (of_decide_eq_true (by first | (with_reducible assumption) | assumption)) HC1.out
                  have hl15_ : (l1.take (x11_1 : Int).toNat).length = (x11_1 : Int).toNat := by
                    have e0_ : 0 ≤ (x11_1 : Int) := of_decide_eq_true (by first | (with_reducible assumption) | assumption)
                    have e1_ : (x11_1 : Int) ≤ (l1.length : Int) := of_decide_eq_true (by first | (with_reducible assumption) | assumption)
                    rw [List.length_take]; omega
                  have HR667 := Aside0.mk (Kd.C_of_reads (h1 := fun _ => rfl) (hA15 _ (Kd.reads_of_C HR1.out)))
                  have HC667 := Aside0.mk hC15
                  clear hA15 hC15 hi015 hsz15
                  go_wp2_with (first | (go_at_call 60; (first | (with_reducible refine (slices_Contains_int_int.calls k1 _ _ (l1.take (x11_1 : Int).toNat) (rd l1 x11_1) false _ ?side1 ?side2 A10.out).mono ?_) | (rw [← hl15_]; (with_reducible refine (slices_Contains_int_int.calls k1 _ _ (l1.take (x11_1 : Int).toNat) (rd l1 x11_1) false _ ?side1 ?side2 A10.out).mono ?_))); (case side1 => repeat (first | exact (Kd.C_below HR667.out HB.out) | (with_reducible refine Kd.C_alloc ?_ _) | (with_reducible refine Kd.C_drewN ?_ _) | (with_reducible refine Kd.C_drew ?_))); (case side2 => exact HC667.out); rintro e w' ⟨rfl, ⟨nd, rfl⟩⟩; (try first | exact ⟨rfl, _, World.drewN_drewN _ _ _⟩ | exact ⟨rfl, _, Eq.trans (World.drewN_drewN _ _ _) (congrArg (World.drewN _) (Nat.add_assoc _ _ _))⟩)))
                  repeat (go_quiet (first | (go_at_call 60; (first | (with_reducible refine (slices_Contains_int_int.calls k1 _ _ (l1.take (x11_1 : Int).toNat) (rd l1 x11_1) false _ ?side1 ?side2 A10.out).mono ?_) | (rw [← hl15_]; (with_reducible refine (slices_Contains_int_int.calls k1 _ _ (l1.take (x11_1 : Int).toNat) (rd l1 x11_1) false _ ?side1 ?side2 A10.out).mono ?_))); (case side1 => repeat (first | exact (Kd.C_below HR667.out HB.out) | (with_reducible refine Kd.C_alloc ?_ _) | (with_reducible refine Kd.C_drewN ?_ _) | (with_reducible refine Kd.C_drew ?_))); (case side2 => exact HC667.out); rintro e w' ⟨rfl, ⟨nd, rfl⟩⟩; (try first | exact ⟨rfl, _, World.drewN_drewN _ _ _⟩ | exact ⟨rfl, _, Eq.trans (World.drewN_drewN _ _ _) (congrArg (World.drewN _) (Nat.add_assoc _ _ _))⟩))); try go_wp2_with (first | (go_at_call 60; (first | (with_reducible refine (slices_Contains_int_int.calls k1 _ _ (l1.take (x11_1 : Int).toNat) (rd l1 x11_1) false _ ?side1 ?side2 A10.out).mono ?_) | (rw [← hl15_]; (with_reducible refine (slices_Contains_int_int.calls k1 _ _ (l1.take (x11_1 : Int).toNat) (rd l1 x11_1) false _ ?side1 ?side2 A10.out).mono ?_))); (case side1 => repeat (first | exact (Kd.C_below HR667.out HB.out) | (with_reducible refine Kd.C_alloc ?_ _) | (with_reducible refine Kd.C_drewN ?_ _) | (with_reducible refine Kd.C_drew ?_))); (case side2 => exact HC667.out); rintro e w' ⟨rfl, ⟨nd, rfl⟩⟩; (try first | exact ⟨rfl, _, World.drewN_drewN _ _ _⟩ | exact ⟨rfl, _, Eq.trans (World.drewN_drewN _ _ _) (congrArg (World.drewN _) (Nat.add_assoc _ _ _))⟩))))
                  go_roundg k1
                  case measure => have := HK1.out; omega
                  case rel => exact ⟨(wrap64 (x5_1 + (rd l1 x11_1))), (wrap64 (x6_1 * (rd l1 x11_1))), (wrap64 (x11_1 + 1)), (by first | rfl | (simp; done) | (simp [*]; done)), (by first | rfl | (simp; done) | (simp [*]; done)), (by first | rfl | (simp; done) | (simp [*]; done)), H', ⟨by have := HK1.out; omega⟩, ⟨by (with_reducible repeat (first | refine blk_drewN ?_ _ | refine blk_drew ?_ | refine blk_alloc ?_ _)); exact BK665.out⟩, ⟨by repeat (first | (with_reducible first | exact HB.out | apply below_alloc | apply pw_below_drewN | apply below_drew1 | refine below_set ?_ GE665.out) | exact HB.out)⟩⟩
              · rw [if_neg c9] at H
                exact absurd H (by simp)
            · rw [if_neg c7] at H
              have c7b0 : (a0_0 == 1) = false := beq_eq_false_iff_ne.mpr c7
              have c7b1 : (a0_0 != 1) = true := bne_iff_ne.mpr c7
              have H' := Aside0.mk H
              clear H
              have p666 : 0 ≤ (x11_1 : Int) := of_decide_eq_true (by first | (with_reducible assumption) | assumption)
              have q666 : x11_1 < (l1.length : Int) := of_decide_eq_true (by first | (with_reducible assumption) | assumption)
              obtain ⟨ad666, e666, hx666_0⟩ := Kd.at_int HR1.out x11_1 p666 q666
              cases e666
              replace hx666_0 := (HB.out.cell (World.block_lt_of_cell? w _ hx666_0)).trans hx666_0
              replace p666 := eq_true p666
              replace q666 := eq_true q666
              have hcz16_0 : wr.cell? ⟨gb665, 0, none⟩ = some (.int .i64 a0_0) := (blk_cell BK665.out 0).trans rfl
              have hcz16_1 : wr.cell? ⟨gb665, 1, none⟩ = some (.slice A0_1 l0_1.length c0_1) := (blk_cell BK665.out 1).trans rfl
              have hcz16_2 : wr.cell? ⟨gb665, 2, none⟩ = some (.int .i64 a0_2) := (blk_cell BK665.out 2).trans rfl
              have hfz16_0 := blk_frozen BK665.out 0
              have hfz16_1 := blk_frozen BK665.out 1
              have hfz16_2 := blk_frozen BK665.out 2
              go_wp2
              repeat (go_quiet (fail); try go_wp2)
              go_roundg k1
              case measure => have := HK1.out; omega
              case rel => exact ⟨(wrap64 (x5_1 + (rd l1 x11_1))), (wrap64 (x6_1 * (rd l1 x11_1))), (wrap64 (x11_1 + 1)), (by first | rfl | (simp; done) | (simp [*]; done)), (by first | rfl | (simp; done) | (simp [*]; done)), (by first | rfl | (simp; done) | (simp [*]; done)), H', ⟨by have := HK1.out; omega⟩, ⟨by (with_reducible repeat (first | refine blk_drewN ?_ _ | refine blk_drew ?_ | refine blk_alloc ?_ _)); exact BK665.out⟩, ⟨by repeat (first | (with_reducible first | exact HB.out | apply below_alloc | apply pw_below_drewN | apply below_drew1 | refine below_set ?_ GE665.out) | exact HB.out)⟩⟩
          · rw [if_neg c6] at H
            exact absurd H (by simp)
        · rw [if_neg c5] at H
          exact absurd H (by simp)
      · rw [if_neg c4] at H
        have c4b0 : decide (x11_1 < (l1.length : Int)) = false := decide_eq_false c4
        clear c4
        by_cases c17 : a0_0 = 2
        · rw [if_pos c17] at H
          have c17b0 : (a0_0 == 2) = true := beq_iff_eq.mpr c17
          have c17b1 : (a0_0 != 2) = false := bne_eq_false_iff_eq.mpr c17
          clear c17
          obtain rfl := Option.some.inj H
          have hcz18_0 : wr.cell? ⟨gb665, 0, none⟩ = some (.int .i64 a0_0) := (blk_cell BK665.out 0).trans rfl
          have hcz18_1 : wr.cell? ⟨gb665, 1, none⟩ = some (.slice A0_1 l0_1.length c0_1) := (blk_cell BK665.out 1).trans rfl
          have hcz18_2 : wr.cell? ⟨gb665, 2, none⟩ = some (.int .i64 a0_2) := (blk_cell BK665.out 2).trans rfl
          have hfz18_0 := blk_frozen BK665.out 0
          have hfz18_1 := blk_frozen BK665.out 1
          have hfz18_2 := blk_frozen BK665.out 2
          go_wp2
          repeat (go_quiet (fail); try go_wp2)
          go_ret
          exact ⟨by first | rfl | (simp [errW_none, errW_some] <;> rfl) | (simp [*, errW_none, errW_some] <;> rfl), by repeat (first | (with_reducible first | exact HB.out | apply below_alloc | apply pw_below_drewN | apply below_drew1 | refine below_set ?_ GE665.out) | exact HB.out)⟩
        · rw [if_neg c17] at H
          have c17b0 : (a0_0 == 2) = false := beq_eq_false_iff_ne.mpr c17
          have c17b1 : (a0_0 != 2) = true := bne_iff_ne.mpr c17
          by_cases c19 : a0_0 = 3
          · rw [if_pos c19] at H
            have c19b0 : (a0_0 == 3) = true := beq_iff_eq.mpr c19
            have c19b1 : (a0_0 != 3) = false := bne_eq_false_iff_eq.mpr c19
            clear c19
            obtain rfl := Option.some.inj H
            have hcz20_0 : wr.cell? ⟨gb665, 0, none⟩ = some (.int .i64 a0_0) := (blk_cell BK665.out 0).trans rfl
            have hcz20_1 : wr.cell? ⟨gb665, 1, none⟩ = some (.slice A0_1 l0_1.length c0_1) := (blk_cell BK665.out 1).trans rfl
            have hcz20_2 : wr.cell? ⟨gb665, 2, none⟩ = some (.int .i64 a0_2) := (blk_cell BK665.out 2).trans rfl
            have hfz20_0 := blk_frozen BK665.out 0
            have hfz20_1 := blk_frozen BK665.out 1
            have hfz20_2 := blk_frozen BK665.out 2
            go_wp2
            repeat (go_quiet (fail); try go_wp2)
            go_ret
            exact ⟨by first | rfl | (simp [errW_none, errW_some] <;> rfl) | (simp [*, errW_none, errW_some] <;> rfl), by repeat (first | (with_reducible first | exact HB.out | apply below_alloc | apply pw_below_drewN | apply below_drew1 | refine below_set ?_ GE665.out) | exact HB.out)⟩
          · rw [if_neg c19] at H
            have c19b0 : (a0_0 == 3) = false := beq_eq_false_iff_ne.mpr c19
            have c19b1 : (a0_0 != 3) = true := bne_iff_ne.mpr c19
            by_cases c21 : a0_0 = 4
            · rw [if_pos c21] at H
              have c21b0 : (a0_0 == 4) = true := beq_iff_eq.mpr c21
              have c21b1 : (a0_0 != 4) = false := bne_eq_false_iff_eq.mpr c21
              clear c21
              by_cases c22 : 0 < (l1.length : Int)
              · rw [if_pos c22] at H
                have c22b0 : decide (0 < (l1.length : Int)) = true := decide_eq_true c22
                have c22b1 : decide (0 < l1.length) = true := decide_eq_true (by omega)
                clear c22
                by_cases c23 : 1 < (l1.length : Int)
                · rw [if_pos c23] at H
                  have c23b0 : decide (1 < (l1.length : Int)) = true := decide_eq_true c23
                  have c23b1 : decide (1 < l1.length) = true := decide_eq_true (by omega)
                  clear c23
                  obtain rfl := Option.some.inj H
                  have hcz24_0 : wr.cell? ⟨gb665, 0, none⟩ = some (.int .i64 a0_0) := (blk_cell BK665.out 0).trans rfl
                  have hcz24_1 : wr.cell? ⟨gb665, 1, none⟩ = some (.slice A0_1 l0_1.length c0_1) := (blk_cell BK665.out 1).trans rfl
                  have hcz24_2 : wr.cell? ⟨gb665, 2, none⟩ = some (.int .i64 a0_2) := (blk_cell BK665.out 2).trans rfl
                  have hfz24_0 := blk_frozen BK665.out 0
                  have hfz24_1 := blk_frozen BK665.out 1
                  have hfz24_2 := blk_frozen BK665.out 2
                  have p669 : 0 ≤ (0 : Int) := (by omega)
                  have q669 : 0 < (l1.length : Int) := of_decide_eq_true (by first | (with_reducible assumption) | assumption)
                  obtain ⟨ad669, e669, hx669_0⟩ := Kd.at_int HR1.out 0 p669 q669
                  cases e669
                  have qi669 : (0 < l1.length) = True := eq_true (by omega)
                  (try rw [show ((0 : Int)).toNat = 0 from rfl] at hx669_0)
                  (try rw [Addr.add_zero'] at hx669_0)
                  replace hx669_0 := (HB.out.cell (World.block_lt_of_cell? w _ hx669_0)).trans hx669_0
                  replace p669 := eq_true p669
                  replace q669 := eq_true q669
                  have p670 : 0 ≤ (1 : Int) := (by omega)
                  have q670 : 1 < (l1.length : Int) := of_decide_eq_true (by first | (with_reducible assumption) | assumption)
                  obtain ⟨ad670, e670, hx670_0⟩ := Kd.at_int HR1.out 1 p670 q670
                  obtain rfl : ad669 = ad670 := (by injection e670)
                  (try simp only [show (1 : Int).toNat = 1 from rfl, Nat.reduceMul, Nat.reduceEqDiff, Go.Addr.add, ↓reduceIte] at hx670_0)
                  have qi670 : (1 < l1.length) = True := eq_true (by omega)
                  (try rw [show ((1 : Int)).toNat = 1 from rfl] at hx670_0)
                  replace hx670_0 := (HB.out.cell (World.block_lt_of_cell? w _ hx670_0)).trans hx670_0
                  replace p670 := eq_true p670
                  replace q670 := eq_true q670
                  go_wp2
                  repeat (go_quiet (fail); try go_wp2)
                  go_ret
                  exact ⟨by first | rfl | (simp [errW_none, errW_some] <;> rfl) | (simp [*, errW_none, errW_some] <;> rfl), by repeat (first | (with_reducible first | exact HB.out | apply below_alloc | apply pw_below_drewN | apply below_drew1 | refine below_set ?_ GE665.out) | exact HB.out)⟩
                · rw [if_neg c23] at H
                  exact absurd H (by simp)
              · rw [if_neg c22] at H
                exact absurd H (by simp)
            · rw [if_neg c21] at H
              have c21b0 : (a0_0 == 4) = false := beq_eq_false_iff_ne.mpr c21
              have c21b1 : (a0_0 != 4) = true := bne_iff_ne.mpr c21
              by_cases c25 : a0_0 = 5
              · rw [if_pos c25] at H
                have c25b0 : (a0_0 == 5) = true := beq_iff_eq.mpr c25
                have c25b1 : (a0_0 != 5) = false := bne_eq_false_iff_eq.mpr c25
                clear c25
                by_cases c26 : 0 < (l1.length : Int)
                · rw [if_pos c26] at H
                  have c26b0 : decide (0 < (l1.length : Int)) = true := decide_eq_true c26
                  have c26b1 : decide (0 < l1.length) = true := decide_eq_true (by omega)
                  clear c26
                  by_cases c27 : 1 < (l1.length : Int)
                  · rw [if_pos c27] at H
                    have c27b0 : decide (1 < (l1.length : Int)) = true := decide_eq_true c27
                    have c27b1 : decide (1 < l1.length) = true := decide_eq_true (by omega)
                    clear c27
                    obtain ⟨ji28, hji28⟩ : ∃ j_ : Int, (mx (wrap64 ((rd l1 0) - (rd l1 1))) (wrap64 ((rd l1 1) - (rd l1 0)))) = j_ := ⟨_, rfl⟩
                    replace H : (some ((ji28) == a0_2)) = some r := by first | (rw [hji28] at H; exact H) | (simp only [hji28] at H ⊢; exact H)
                    have hji28_ : (if (wrap64 ((rd l1 0) - (rd l1 1))) < (wrap64 ((rd l1 1) - (rd l1 0))) then (wrap64 ((rd l1 1) - (rd l1 0))) else (wrap64 ((rd l1 0) - (rd l1 1)))) = ji28 := hji28
                    obtain rfl := Option.some.inj H
                    have hcz29_0 : wr.cell? ⟨gb665, 0, none⟩ = some (.int .i64 a0_0) := (blk_cell BK665.out 0).trans rfl
                    have hcz29_1 : wr.cell? ⟨gb665, 1, none⟩ = some (.slice A0_1 l0_1.length c0_1) := (blk_cell BK665.out 1).trans rfl
                    have hcz29_2 : wr.cell? ⟨gb665, 2, none⟩ = some (.int .i64 a0_2) := (blk_cell BK665.out 2).trans rfl
                    have hfz29_0 := blk_frozen BK665.out 0
                    have hfz29_1 := blk_frozen BK665.out 1
                    have hfz29_2 := blk_frozen BK665.out 2
                    have p671 : 0 ≤ (0 : Int) := (by omega)
                    have q671 : 0 < (l1.length : Int) := of_decide_eq_true (by first | (with_reducible assumption) | assumption)
                    obtain ⟨ad671, e671, hx671_0⟩ := Kd.at_int HR1.out 0 p671 q671
                    cases e671
                    have qi671 : (0 < l1.length) = True := eq_true (by omega)
                    (try rw [show ((0 : Int)).toNat = 0 from rfl] at hx671_0)
                    (try rw [Addr.add_zero'] at hx671_0)
                    replace hx671_0 := (HB.out.cell (World.block_lt_of_cell? w _ hx671_0)).trans hx671_0
                    replace p671 := eq_true p671
                    replace q671 := eq_true q671
                    have p672 : 0 ≤ (1 : Int) := (by omega)
                    have q672 : 1 < (l1.length : Int) := of_decide_eq_true (by first | (with_reducible assumption) | assumption)
                    obtain ⟨ad672, e672, hx672_0⟩ := Kd.at_int HR1.out 1 p672 q672
                    obtain rfl : ad671 = ad672 := (by injection e672)
                    (try simp only [show (1 : Int).toNat = 1 from rfl, Nat.reduceMul, Nat.reduceEqDiff, Go.Addr.add, ↓reduceIte] at hx672_0)
                    have qi672 : (1 < l1.length) = True := eq_true (by omega)
                    (try rw [show ((1 : Int)).toNat = 1 from rfl] at hx672_0)
                    replace hx672_0 := (HB.out.cell (World.block_lt_of_cell? w _ hx672_0)).trans hx672_0
                    replace p672 := eq_true p672
                    replace q672 := eq_true q672
                    have p673 : 0 ≤ (1 : Int) := (by omega)
                    have q673 : 1 < (l1.length : Int) := of_decide_eq_true (by first | (with_reducible assumption) | assumption)
                    obtain ⟨ad673, e673, hx673_0⟩ := Kd.at_int HR1.out 1 p673 q673
                    obtain rfl : ad671 = ad673 := (by injection e673)
                    (try simp only [show (1 : Int).toNat = 1 from rfl, Nat.reduceMul, Nat.reduceEqDiff, Go.Addr.add, ↓reduceIte] at hx673_0)
                    have qi673 : (1 < l1.length) = True := eq_true (by omega)
                    (try rw [show ((1 : Int)).toNat = 1 from rfl] at hx673_0)
                    replace hx673_0 := (HB.out.cell (World.block_lt_of_cell? w _ hx673_0)).trans hx673_0
                    replace p673 := eq_true p673
                    replace q673 := eq_true q673
                    have p674 : 0 ≤ (0 : Int) := (by omega)
                    have q674 : 0 < (l1.length : Int) := of_decide_eq_true (by first | (with_reducible assumption) | assumption)
                    obtain ⟨ad674, e674, hx674_0⟩ := Kd.at_int HR1.out 0 p674 q674
                    obtain rfl : ad671 = ad674 := (by injection e674)
                    have qi674 : (0 < l1.length) = True := eq_true (by omega)
                    (try rw [show ((0 : Int)).toNat = 0 from rfl] at hx674_0)
                    (try rw [Addr.add_zero'] at hx674_0)
                    replace hx674_0 := (HB.out.cell (World.block_lt_of_cell? w _ hx674_0)).trans hx674_0
                    replace p674 := eq_true p674
                    replace q674 := eq_true q674
                    go_wp2
                    repeat (go_quiet (fail); try go_wp2)
                    go_ret
                    exact ⟨by first | rfl | (simp [errW_none, errW_some] <;> rfl) | (simp only [← hji28]; first | rfl | (simp [errW_none, errW_some] <;> rfl)) | (simp [*, errW_none, errW_some] <;> rfl), by repeat (first | (with_reducible first | exact HB.out | apply below_alloc | apply pw_below_drewN | apply below_drew1 | refine below_set ?_ GE665.out) | exact HB.out)⟩
                  · rw [if_neg c27] at H
                    exact absurd H (by simp)
                · rw [if_neg c26] at H
                  exact absurd H (by simp)
              · rw [if_neg c25] at H
                have c25b0 : (a0_0 == 5) = false := beq_eq_false_iff_ne.mpr c25
                have c25b1 : (a0_0 != 5) = true := bne_iff_ne.mpr c25
                obtain rfl := Option.some.inj H
                have hcz30_0 : wr.cell? ⟨gb665, 0, none⟩ = some (.int .i64 a0_0) := (blk_cell BK665.out 0).trans rfl
                have hcz30_1 : wr.cell? ⟨gb665, 1, none⟩ = some (.slice A0_1 l0_1.length c0_1) := (blk_cell BK665.out 1).trans rfl
                have hcz30_2 : wr.cell? ⟨gb665, 2, none⟩ = some (.int .i64 a0_2) := (blk_cell BK665.out 2).trans rfl
                have hfz30_0 := blk_frozen BK665.out 0
                have hfz30_1 := blk_frozen BK665.out 1
                have hfz30_2 := blk_frozen BK665.out 2
                go_wp2
                repeat (go_quiet (fail); try go_wp2)
                go_ret
                exact ⟨by first | rfl | (simp [errW_none, errW_some] <;> rfl) | (simp [*, errW_none, errW_some] <;> rfl), by repeat (first | (with_reducible first | exact HB.out | apply below_alloc | apply pw_below_drewN | apply below_drew1 | refine below_set ?_ GE665.out) | exact HB.out)⟩

end Go.Proofs.Ytaglakdahmepeaa.P
