/- The machine's side: each Go function as a plain Lean function and the proof that the machine's call does what that function says; written by this session's own program over the kit's print. -/
import Derived.Test.YtmjbnghhfadapaaZP1
import Derived.Test.YtmjbnghhfadapaaZP2
namespace Go.Proofs.Ytmjbnghhfadapaa.P
open Go.RowKit Go.Proofs.YtmjbnghhfadapaaW.PrintWords Go.Proofs.YtmjbnghhfadapaaW.PrintLast Go.Proofs.YtmjbnghhfadapaaW.PrintMore
attribute [local go_sem] max2_int min2_int max_two min_two max_three min_three max_four min_four   -- for this text's walks alone
set_option linter.unusedVariables false
set_option linter.unusedSimpArgs false
/-! ### spec_l4Holds: function 99 -/
mutual
def spec_l4Holds.l0 : Nat → List Int → Int → Int → Bool → Int → Int → List Int → Int → Option (Bool)
 | 0, _, _, _, _, _, _, _, _ => none
 | k + 1, x1, x5, x6, x7, x8, x340000, x340001, x340002 => if x8 < (x1.length : Int) then (if 0 ≤ x8 then (spec_l4Holds.l1 k x1 (wrap64 (x5 + (rd x1 x8))) (wrap64 (x6 * (rd x1 x8))) x7 x8 0 x340000 x340001 x340002) else (none)) else (if x340000 = 1 then (some x7) else (if x340000 = 2 then (some (x5 == x340002)) else (if x340000 = 3 then (some (x6 == x340002)) else (if x340000 = 4 then (if 0 < (x1.length : Int) then (if 1 < (x1.length : Int) then (some (decide ((rd x1 0) < (rd x1 1)))) else (none)) else (none)) else (if 0 < (x1.length : Int) then (if 1 < (x1.length : Int) then (some ((mx (wrap64 ((rd x1 0) - (rd x1 1))) (wrap64 (-(wrap64 ((rd x1 0) - (rd x1 1)))))) == x340002)) else (none)) else (none))))))
def spec_l4Holds.l1 : Nat → List Int → Int → Int → Bool → Int → Int → Int → List Int → Int → Option (Bool)
 | 0, _, _, _, _, _, _, _, _, _ => none
 | k + 1, x1, x5, x6, x7, x8, x9, x340000, x340001, x340002 => if x9 < x8 then (if x7 = true then (if 0 ≤ x9 then (if x9 < (x1.length : Int) then (if 0 ≤ x8 then (if x8 < (x1.length : Int) then (spec_l4Holds.l1 k x1 x5 x6 ((rd x1 x9) != (rd x1 x8)) x8 (wrap64 (x9 + 1)) x340000 x340001 x340002) else (none)) else (none)) else (none)) else (none)) else (spec_l4Holds.l1 k x1 x5 x6 false x8 (wrap64 (x9 + 1)) x340000 x340001 x340002)) else (spec_l4Holds.l0 k x1 x5 x6 x7 (wrap64 (x8 + 1)) x340000 x340001 x340002)
end
def spec_l4Holds.f (k : Nat) (a0_0 : Int) (l0_1 : List Int) (a0_2 : Int) (l1 : List Int) : Option (Bool) := spec_l4Holds.l0 k l1 0 1 true 0 a0_0 l0_1 a0_2
set_option maxHeartbeats 8000000 in
set_option maxRecDepth 100000 in
theorem spec_l4Holds.calls (k : Nat) (a0_0 : Int) (A0_1 : Option Addr) (c0_1 : Nat) (l0_1 : List Int) (a0_2 : Int) (A1 : Option Addr) (c1 : Nat) (l1 : List Int) (r : Bool) (w : World) (hr0_1 : Kd.C (Kd.int .i64) w A0_1 l0_1.length l0_1) (hc0_1 : l0_1.length ≤ c0_1) (hr1 : Kd.C (Kd.int .i64) w A1 l1.length l1) (hc1 : l1.length ≤ c1) (h : spec_l4Holds.f k a0_0 l0_1 a0_2 l1 = some r) :
  Calls Try.prog 99 #[.agg #[.int .i64 a0_0, .slice A0_1 l0_1.length c0_1, .int .i64 a0_2], .slice A1 l1.length c1] w fun e w' => e = .returned (.bool r) ∧ Below w.heap.size w w' := by
 have hu73 := Try.underlying73
 have HR0_1 := yam hr0_1
 have HC0_1 := yam hc0_1
 clear hr0_1 hc0_1
 have HR1 := yam hr1
 have HC1 := yam hc1
 clear hr1 hc1
 have HB := yam (Below.refl w.heap.size w)
 have H : (spec_l4Holds.l0 k l1 0 1 true 0 a0_0 l0_1 a0_2) = some r := h
 clear h
 have H' := yam H
 clear H
 go_enter Try.func99, Try.ntmps99
 go_wp2_with (first | ((with_reducible refine gate_dst (N := 2) rfl ?_); refine box_event ?hg (N := 2) ?hd (cs := #[.int .i64 a0_0, .slice A0_1 l0_1.length c0_1, .int .i64 a0_2]) (t := 73) ?hr ?_; (case hd => rfl); (case hg => rfl); (case hr => first | (go_simp; done) | (go_simp; rfl)); intro gb339 hg w3 hbox hb; have n0_ := yam (below_step (yez HB.out) hb); have n1_ := yam (hbox); have n2_ := yam ((by rw [hg]; exact (below_size (yez HB.out)) : w.heap.size ≤ gb339)); have n3_ := n2_; clear HB; have HB := n0_; have BK339 := n1_; have GW339 := n2_; have GE339 := n3_; clear n0_ n1_ n2_ n3_; clear hb hbox hg))
 repeat (go_quiet (first | ((with_reducible refine gate_dst (N := 2) rfl ?_); refine box_event ?hg (N := 2) ?hd (cs := #[.int .i64 a0_0, .slice A0_1 l0_1.length c0_1, .int .i64 a0_2]) (t := 73) ?hr ?_; (case hd => rfl); (case hg => rfl); (case hr => first | (go_simp; done) | (go_simp; rfl)); intro gb339 hg w3 hbox hb; have n0_ := yam (below_step (yez HB.out) hb); have n1_ := yam (hbox); have n2_ := yam ((by rw [hg]; exact (below_size (yez HB.out)) : w.heap.size ≤ gb339)); have n3_ := n2_; clear HB; have HB := n0_; have BK339 := n1_; have GW339 := n2_; have GE339 := n3_; clear n0_ n1_ n2_ n3_; clear hb hbox hg)); try go_wp2_with (first | ((with_reducible refine gate_dst (N := 2) rfl ?_); refine box_event ?hg (N := 2) ?hd (cs := #[.int .i64 a0_0, .slice A0_1 l0_1.length c0_1, .int .i64 a0_2]) (t := 73) ?hr ?_; (case hd => rfl); (case hg => rfl); (case hr => first | (go_simp; done) | (go_simp; rfl)); intro gb339 hg w3 hbox hb; have n0_ := yam (below_step (yez HB.out) hb); have n1_ := yam (hbox); have n2_ := yam ((by rw [hg]; exact (below_size (yez HB.out)) : w.heap.size ≤ gb339)); have n3_ := n2_; clear HB; have HB := n0_; have BK339 := n1_; have GW339 := n2_; have GE339 := n3_; clear n0_ n1_ n2_ n3_; clear hb hbox hg)))
 go_loopg [5, 6, 7, 8] k (fun kq v5 v6 v7 v8 w' => ∃ (x5_1 : Int) (x6_1 : Int) (x7_1 : Bool) (x8_1 : Int), v5 = .int .i64 x5_1 ∧ v6 = .int .i64 x6_1 ∧ v7 = .bool x7_1 ∧ v8 = .int .i64 x8_1 ∧ Aside0 (spec_l4Holds.l0 kq l1 x5_1 x6_1 x7_1 x8_1 a0_0 l0_1 a0_2 = some r) ∧ Aside0 (kq ≤ k) ∧ Aside0 (w'.heap[gb339]? = some (.cells #[.int .i64 a0_0, (.slice A0_1 l0_1.length c0_1), .int .i64 a0_2] 73 (0, 0))) ∧ Aside0 (Below w.heap.size w w'))
 case atStart => exact ⟨(0), (1), (true), (0), (by first | rfl | (simp; done) | (simp [*]; done)), (by first | rfl | (simp; done) | (simp [*]; done)), (by first | rfl | (simp; done) | (simp [*]; done)), (by first | rfl | (simp; done) | (simp [*]; done)), H', ⟨Nat.le_refl _⟩, ⟨by (with_reducible repeat (first | refine ybn ?_ _ | refine ybd ?_ | refine yba ?_ _)); exact BK339.out⟩, ⟨by repeat (first | (with_reducible first | exact HB.out | apply yea | apply yen | apply yed | refine below_set ?_ GE339.out) | exact HB.out)⟩⟩
 case round =>
  clear H'
  try clear c1
  try clear p2
  obtain ⟨x5_1, x6_1, x7_1, x8_1, rfl, rfl, rfl, rfl, HA, HK1, BK339, HB⟩ := hrel
  cases gk with
  | zero => exact absurd HA.out (by simp [spec_l4Holds.l0])
  | succ k1 =>
   have H := HA.out
   clear HA
   simp only [spec_l4Holds.l0] at H
   by_cases c4 : x8_1 < (l1.length : Int)
   ·rw [if_pos c4] at H
    have c4b0 : decide (x8_1 < (l1.length : Int)) = true := decide_eq_true c4
    clear c4
    by_cases c5 : 0 ≤ x8_1
    rotate_left
    ·rw [if_neg c5] at H
     exact absurd H (by simp)
    rw [if_pos c5] at H
    have c5b0 : decide (0 ≤ x8_1) = true := decide_eq_true c5
    clear c5
    have H' := yam H
    clear H
    have p340 : 0 ≤ (x8_1 : Int) := of_decide_eq_true (by first | (with_reducible assumption) | assumption)
    have q340 : x8_1 < (l1.length : Int) := of_decide_eq_true (by first | (with_reducible assumption) | assumption)
    obtain ⟨ad340, e340, hx340_0⟩ := Kd.at_int HR1.out x8_1 p340 q340
    cases e340
    replace hx340_0 := (HB.out.cell (World.block_lt_of_cell? w _ hx340_0)).trans hx340_0
    replace p340 := eq_true p340
    replace q340 := eq_true q340
    have p341 : 0 ≤ (x8_1 : Int) := of_decide_eq_true (by first | (with_reducible assumption) | assumption)
    have q341 : x8_1 < (l1.length : Int) := of_decide_eq_true (by first | (with_reducible assumption) | assumption)
    obtain ⟨ad341, e341, hx341_0⟩ := Kd.at_int HR1.out x8_1 p341 q341
    obtain rfl : ad340 = ad341 := (by injection e341)
    replace hx341_0 := (HB.out.cell (World.block_lt_of_cell? w _ hx341_0)).trans hx341_0
    replace p341 := eq_true p341
    replace q341 := eq_true q341
    go_wp2
    repeat (go_quiet (fail); try go_wp2)
    go_loopg [7, 9] k1 (fun kq v7 v9 w' => ∃ (x7_2 : Bool) (x9_2 : Int), v7 = .bool x7_2 ∧ v9 = .int .i64 x9_2 ∧ Aside0 (spec_l4Holds.l1 kq l1 (wrap64 (x5_1 + (rd l1 x8_1))) (wrap64 (x6_1 * (rd l1 x8_1))) x7_2 x8_1 x9_2 a0_0 l0_1 a0_2 = some r) ∧ Aside0 (kq ≤ k1) ∧ Aside0 (w'.heap[gb339]? = some (.cells #[.int .i64 a0_0, (.slice A0_1 l0_1.length c0_1), .int .i64 a0_2] 73 (0, 0))) ∧ Aside0 (Below w.heap.size w w'))
    case atStart => exact ⟨(x7_1), (0), (by first | rfl | (simp; done) | (simp [*]; done)), (by first | rfl | (simp; done) | (simp [*]; done)), H', ⟨Nat.le_refl _⟩, ⟨by (with_reducible repeat (first | refine ybn ?_ _ | refine ybd ?_ | refine yba ?_ _)); exact BK339.out⟩, ⟨by repeat (first | (with_reducible first | exact HB.out | apply yea | apply yen | apply yed | refine below_set ?_ GE339.out) | exact HB.out)⟩⟩
    case round =>
     clear H'
     try clear c1
     try clear p2
     try clear p3
     try clear q3
     try clear hx3
     try clear c4
     try clear c4b0
     try clear c5
     try clear c5b0
     try clear hx340_0
     try clear hx341_0
     try clear p2
     try clear p340
     try clear p341
     try clear q340
     try clear q341
     obtain ⟨x7_2, x9_2, rfl, rfl, HA, HK2, BK339, HB⟩ := hrel
     cases gk with
     | zero => exact absurd HA.out (by simp [spec_l4Holds.l1])
     | succ k2 =>
      have H := HA.out
      clear HA
      simp only [spec_l4Holds.l1] at H
      by_cases c6 : x9_2 < x8_1
      rotate_left
      ·rw [if_neg c6] at H
       have c6b0 : decide (x9_2 < x8_1) = false := decide_eq_false c6
       clear c6
       have H' := yam H
       clear H
       go_wp2
       repeat (go_quiet (fail); try go_wp2)
       go_roundg k2
       case measure => have := HK1.out; have := HK2.out; omega
       case rel => exact ⟨((wrap64 (x5_1 + (rd l1 x8_1)))), ((wrap64 (x6_1 * (rd l1 x8_1)))), (x7_2), (wrap64 (x8_1 + 1)), (by first | rfl | (simp; done) | (simp [*]; done)), (by first | rfl | (simp; done) | (simp [*]; done)), (by first | rfl | (simp; done) | (simp [*]; done)), (by first | rfl | (simp; done) | (simp [*]; done)), H', ⟨by have := HK1.out; have := HK2.out; omega⟩, ⟨by (with_reducible repeat (first | refine ybn ?_ _ | refine ybd ?_ | refine yba ?_ _)); exact BK339.out⟩, ⟨by repeat (first | (with_reducible first | exact HB.out | apply yea | apply yen | apply yed | refine below_set ?_ GE339.out) | exact HB.out)⟩⟩
      rw [if_pos c6] at H
      have c6b0 : decide (x9_2 < x8_1) = true := decide_eq_true c6
      clear c6
      by_cases c7 : x7_2 = true
      rotate_left
      ·replace c7 := Bool.eq_false_iff.mpr c7
       subst c7
       have H1 : (spec_l4Holds.l1 k2 l1 (wrap64 (x5_1 + (rd l1 x8_1))) (wrap64 (x6_1 * (rd l1 x8_1))) false x8_1 (wrap64 (x9_2 + 1)) a0_0 l0_1 a0_2) = some r := by rw [if_neg (show ¬ (false = true) by decide)] at H; exact H
       clear H
       have H := H1
       clear H1
       have H' := yam H
       clear H
       go_wp2
       repeat (go_quiet (fail); try go_wp2)
       go_roundg k2
       case measure => have := HK1.out; have := HK2.out; omega
       case rel => exact ⟨(false), (wrap64 (x9_2 + 1)), (by first | rfl | (simp; done) | (simp [*]; done)), (by first | rfl | (simp; done) | (simp [*]; done)), H', ⟨by have := HK1.out; have := HK2.out; omega⟩, ⟨by (with_reducible repeat (first | refine ybn ?_ _ | refine ybd ?_ | refine yba ?_ _)); exact BK339.out⟩, ⟨by repeat (first | (with_reducible first | exact HB.out | apply yea | apply yen | apply yed | refine below_set ?_ GE339.out) | exact HB.out)⟩⟩
      subst c7
      have H1 : (if 0 ≤ x9_2 then (if x9_2 < (l1.length : Int) then (if 0 ≤ x8_1 then (if x8_1 < (l1.length : Int) then (spec_l4Holds.l1 k2 l1 (wrap64 (x5_1 + (rd l1 x8_1))) (wrap64 (x6_1 * (rd l1 x8_1))) ((rd l1 x9_2) != (rd l1 x8_1)) x8_1 (wrap64 (x9_2 + 1)) a0_0 l0_1 a0_2) else (none)) else (none)) else (none)) else (none)) = some r := by rw [if_pos rfl] at H; exact H
      clear H
      have H := H1
      clear H1
      by_cases c8 : 0 ≤ x9_2
      rotate_left
      ·rw [if_neg c8] at H
       exact absurd H (by simp)
      rw [if_pos c8] at H
      have c8b0 : decide (0 ≤ x9_2) = true := decide_eq_true c8
      clear c8
      by_cases c9 : x9_2 < (l1.length : Int)
      rotate_left
      ·rw [if_neg c9] at H
       exact absurd H (by simp)
      rw [if_pos c9] at H
      have c9b0 : decide (x9_2 < (l1.length : Int)) = true := decide_eq_true c9
      clear c9
      by_cases c10 : 0 ≤ x8_1
      rotate_left
      ·rw [if_neg c10] at H
       exact absurd H (by simp)
      rw [if_pos c10] at H
      have c10b0 : decide (0 ≤ x8_1) = true := decide_eq_true c10
      clear c10
      by_cases c11 : x8_1 < (l1.length : Int)
      rotate_left
      ·rw [if_neg c11] at H
       exact absurd H (by simp)
      rw [if_pos c11] at H
      have c11b0 : decide (x8_1 < (l1.length : Int)) = true := decide_eq_true c11
      clear c11
      have H' := yam H
      clear H
      have p342 : 0 ≤ (x9_2 : Int) := of_decide_eq_true (by first | (with_reducible assumption) | assumption)
      have q342 : x9_2 < (l1.length : Int) := of_decide_eq_true (by first | (with_reducible assumption) | assumption)
      obtain ⟨ad342, e342, hx342_0⟩ := Kd.at_int HR1.out x9_2 p342 q342
      obtain rfl : ad340 = ad342 := (by injection e342)
      replace hx342_0 := (HB.out.cell (World.block_lt_of_cell? w _ hx342_0)).trans hx342_0
      replace p342 := eq_true p342
      replace q342 := eq_true q342
      have p343 : 0 ≤ (x8_1 : Int) := of_decide_eq_true (by first | (with_reducible assumption) | assumption)
      have q343 : x8_1 < (l1.length : Int) := of_decide_eq_true (by first | (with_reducible assumption) | assumption)
      obtain ⟨ad343, e343, hx343_0⟩ := Kd.at_int HR1.out x8_1 p343 q343
      obtain rfl : ad340 = ad343 := (by injection e343)
      replace hx343_0 := (HB.out.cell (World.block_lt_of_cell? w _ hx343_0)).trans hx343_0
      replace p343 := eq_true p343
      replace q343 := eq_true q343
      go_wp2
      repeat (go_quiet (fail); try go_wp2)
      go_roundg k2
      case measure => have := HK1.out; have := HK2.out; omega
      case rel => exact ⟨(((rd l1 x9_2) != (rd l1 x8_1))), (wrap64 (x9_2 + 1)), (by first | rfl | (simp; done) | (simp [*]; done)), (by first | rfl | (simp; done) | (simp [*]; done)), H', ⟨by have := HK1.out; have := HK2.out; omega⟩, ⟨by (with_reducible repeat (first | refine ybn ?_ _ | refine ybd ?_ | refine yba ?_ _)); exact BK339.out⟩, ⟨by repeat (first | (with_reducible first | exact HB.out | apply yea | apply yen | apply yed | refine below_set ?_ GE339.out) | exact HB.out)⟩⟩
   rw [if_neg c4] at H
   have c4b0 : decide (x8_1 < (l1.length : Int)) = false := decide_eq_false c4
   clear c4
   by_cases c12 : a0_0 = 1
   ·rw [if_pos c12] at H
    have c12b0 : (a0_0 == 1) = true := beq_iff_eq.mpr c12
    have c12b1 : (a0_0 != 1) = false := bne_eq_false_iff_eq.mpr c12
    clear c12
    obtain rfl := Option.some.inj H
    obtain ⟨hcz13_0, hcz13_1, hcz13_2, hfz13_0, hfz13_1, hfz13_2⟩ := ybc BK339.out
    go_wp2
    repeat (go_quiet (fail); try go_wp2)
    go_ret
    exact ⟨by first | rfl | (simp [errW_none, errW_some] <;> rfl) | (simp [*, errW_none, errW_some] <;> rfl), by repeat (first | (with_reducible first | exact HB.out | apply yea | apply yen | apply yed | refine below_set ?_ GE339.out) | exact HB.out)⟩
   rw [if_neg c12] at H
   have c12b0 : (a0_0 == 1) = false := beq_eq_false_iff_ne.mpr c12
   have c12b1 : (a0_0 != 1) = true := bne_iff_ne.mpr c12
   by_cases c14 : a0_0 = 2
   ·rw [if_pos c14] at H
    have c14b0 : (a0_0 == 2) = true := beq_iff_eq.mpr c14
    have c14b1 : (a0_0 != 2) = false := bne_eq_false_iff_eq.mpr c14
    clear c14
    obtain rfl := Option.some.inj H
    obtain ⟨hcz15_0, hcz15_1, hcz15_2, hfz15_0, hfz15_1, hfz15_2⟩ := ybc BK339.out
    go_wp2
    repeat (go_quiet (fail); try go_wp2)
    go_ret
    exact ⟨by first | rfl | (simp [errW_none, errW_some] <;> rfl) | (simp [*, errW_none, errW_some] <;> rfl), by repeat (first | (with_reducible first | exact HB.out | apply yea | apply yen | apply yed | refine below_set ?_ GE339.out) | exact HB.out)⟩
   rw [if_neg c14] at H
   have c14b0 : (a0_0 == 2) = false := beq_eq_false_iff_ne.mpr c14
   have c14b1 : (a0_0 != 2) = true := bne_iff_ne.mpr c14
   by_cases c16 : a0_0 = 3
   ·rw [if_pos c16] at H
    have c16b0 : (a0_0 == 3) = true := beq_iff_eq.mpr c16
    have c16b1 : (a0_0 != 3) = false := bne_eq_false_iff_eq.mpr c16
    clear c16
    obtain rfl := Option.some.inj H
    obtain ⟨hcz17_0, hcz17_1, hcz17_2, hfz17_0, hfz17_1, hfz17_2⟩ := ybc BK339.out
    go_wp2
    repeat (go_quiet (fail); try go_wp2)
    go_ret
    exact ⟨by first | rfl | (simp [errW_none, errW_some] <;> rfl) | (simp [*, errW_none, errW_some] <;> rfl), by repeat (first | (with_reducible first | exact HB.out | apply yea | apply yen | apply yed | refine below_set ?_ GE339.out) | exact HB.out)⟩
   rw [if_neg c16] at H
   have c16b0 : (a0_0 == 3) = false := beq_eq_false_iff_ne.mpr c16
   have c16b1 : (a0_0 != 3) = true := bne_iff_ne.mpr c16
   by_cases c18 : a0_0 = 4
   ·rw [if_pos c18] at H
    have c18b0 : (a0_0 == 4) = true := beq_iff_eq.mpr c18
    have c18b1 : (a0_0 != 4) = false := bne_eq_false_iff_eq.mpr c18
    clear c18
    by_cases c19 : 0 < (l1.length : Int)
    rotate_left
    ·rw [if_neg c19] at H
     exact absurd H (by simp)
    rw [if_pos c19] at H
    have c19b0 : decide (0 < (l1.length : Int)) = true := decide_eq_true c19
    have c19b1 : decide (0 < l1.length) = true := decide_eq_true (by omega)
    clear c19
    by_cases c20 : 1 < (l1.length : Int)
    rotate_left
    ·rw [if_neg c20] at H
     exact absurd H (by simp)
    rw [if_pos c20] at H
    have c20b0 : decide (1 < (l1.length : Int)) = true := decide_eq_true c20
    have c20b1 : decide (1 < l1.length) = true := decide_eq_true (by omega)
    clear c20
    obtain rfl := Option.some.inj H
    obtain ⟨hcz21_0, hcz21_1, hcz21_2, hfz21_0, hfz21_1, hfz21_2⟩ := ybc BK339.out
    have p344 : 0 ≤ (0 : Int) := (by omega)
    have q344 : 0 < (l1.length : Int) := of_decide_eq_true (by first | (with_reducible assumption) | assumption)
    obtain ⟨ad344, e344, hx344_0⟩ := Kd.at_int HR1.out 0 p344 q344
    cases e344
    have qi344 : (0 < l1.length) = True := eq_true (by omega)
    (try rw [show ((0 : Int)).toNat = 0 from rfl] at hx344_0)
    (try rw [Addr.add_zero'] at hx344_0)
    replace hx344_0 := (HB.out.cell (World.block_lt_of_cell? w _ hx344_0)).trans hx344_0
    replace p344 := eq_true p344
    replace q344 := eq_true q344
    have p345 : 0 ≤ (1 : Int) := (by omega)
    have q345 : 1 < (l1.length : Int) := of_decide_eq_true (by first | (with_reducible assumption) | assumption)
    obtain ⟨ad345, e345, hx345_0⟩ := Kd.at_int HR1.out 1 p345 q345
    obtain rfl : ad344 = ad345 := (by injection e345)
    (try simp only [show (1 : Int).toNat = 1 from rfl, Nat.reduceMul, Nat.reduceEqDiff, Go.Addr.add, ↓reduceIte] at hx345_0)
    have qi345 : (1 < l1.length) = True := eq_true (by omega)
    (try rw [show ((1 : Int)).toNat = 1 from rfl] at hx345_0)
    replace hx345_0 := (HB.out.cell (World.block_lt_of_cell? w _ hx345_0)).trans hx345_0
    replace p345 := eq_true p345
    replace q345 := eq_true q345
    go_wp2
    repeat (go_quiet (fail); try go_wp2)
    go_ret
    exact ⟨by first | rfl | (simp [errW_none, errW_some] <;> rfl) | (simp [*, errW_none, errW_some] <;> rfl), by repeat (first | (with_reducible first | exact HB.out | apply yea | apply yen | apply yed | refine below_set ?_ GE339.out) | exact HB.out)⟩
   rw [if_neg c18] at H
   have c18b0 : (a0_0 == 4) = false := beq_eq_false_iff_ne.mpr c18
   have c18b1 : (a0_0 != 4) = true := bne_iff_ne.mpr c18
   by_cases c22 : 0 < (l1.length : Int)
   rotate_left
   ·rw [if_neg c22] at H
    exact absurd H (by simp)

   rw [if_pos c22] at H
   have c22b0 : decide (0 < (l1.length : Int)) = true := decide_eq_true c22
   have c22b1 : decide (0 < l1.length) = true := decide_eq_true (by omega)
   clear c22
   by_cases c23 : 1 < (l1.length : Int)
   rotate_left
   ·rw [if_neg c23] at H
    exact absurd H (by simp)
   rw [if_pos c23] at H
   have c23b0 : decide (1 < (l1.length : Int)) = true := decide_eq_true c23
   have c23b1 : decide (1 < l1.length) = true := decide_eq_true (by omega)
   clear c23
   obtain ⟨ji24, hji24⟩ : ∃ j_ : Int, (mx (wrap64 ((rd l1 0) - (rd l1 1))) (wrap64 (-(wrap64 ((rd l1 0) - (rd l1 1)))))) = j_ := ⟨_, rfl⟩
   replace H : (some ((ji24) == a0_2)) = some r := by first | (rw [hji24] at H; exact H) | (simp only [hji24] at H ⊢; exact H)
   have hji24_ : (if (wrap64 ((rd l1 0) - (rd l1 1))) < (wrap64 (-(wrap64 ((rd l1 0) - (rd l1 1))))) then (wrap64 (-(wrap64 ((rd l1 0) - (rd l1 1))))) else (wrap64 ((rd l1 0) - (rd l1 1)))) = ji24 := hji24
   obtain rfl := Option.some.inj H
   obtain ⟨hcz25_0, hcz25_1, hcz25_2, hfz25_0, hfz25_1, hfz25_2⟩ := ybc BK339.out
   have p346 : 0 ≤ (0 : Int) := (by omega)
   have q346 : 0 < (l1.length : Int) := of_decide_eq_true (by first | (with_reducible assumption) | assumption)
   obtain ⟨ad346, e346, hx346_0⟩ := Kd.at_int HR1.out 0 p346 q346
   cases e346
   have qi346 : (0 < l1.length) = True := eq_true (by omega)
   (try rw [show ((0 : Int)).toNat = 0 from rfl] at hx346_0)
   (try rw [Addr.add_zero'] at hx346_0)
   replace hx346_0 := (HB.out.cell (World.block_lt_of_cell? w _ hx346_0)).trans hx346_0
   replace p346 := eq_true p346
   replace q346 := eq_true q346
   have p347 : 0 ≤ (1 : Int) := (by omega)
   have q347 : 1 < (l1.length : Int) := of_decide_eq_true (by first | (with_reducible assumption) | assumption)
   obtain ⟨ad347, e347, hx347_0⟩ := Kd.at_int HR1.out 1 p347 q347
   obtain rfl : ad346 = ad347 := (by injection e347)
   (try simp only [show (1 : Int).toNat = 1 from rfl, Nat.reduceMul, Nat.reduceEqDiff, Go.Addr.add, ↓reduceIte] at hx347_0)
   have qi347 : (1 < l1.length) = True := eq_true (by omega)
   (try rw [show ((1 : Int)).toNat = 1 from rfl] at hx347_0)
   replace hx347_0 := (HB.out.cell (World.block_lt_of_cell? w _ hx347_0)).trans hx347_0
   replace p347 := eq_true p347
   replace q347 := eq_true q347
   go_wp2
   repeat (go_quiet (fail); try go_wp2)
   go_ret
   exact ⟨by first | rfl | (simp [errW_none, errW_some] <;> rfl) | (simp only [← hji24]; first | rfl | (simp [errW_none, errW_some] <;> rfl)) | (simp [*, errW_none, errW_some] <;> rfl), by repeat (first | (with_reducible first | exact HB.out | apply yea | apply yen | apply yed | refine below_set ?_ GE339.out) | exact HB.out)⟩
/-! ### spec_MaskValues: function 100 -/
mutual
def spec_MaskValues.l0 : Nat → Int → List Int → Int → Option (List Int)
 | 0, _, _, _ => none
 | k + 1, x0, x3, x4 => if x4 ≤ 4 then ((spec_l1In.f x0 0 30).bind fun t351 => (if t351 = true then (spec_MaskValues.j1 k x0 x3 x4 ((Int.tmod x0 2) == 0)) else (spec_MaskValues.j1 k x0 x3 x4 false))) else (spec_MaskValues.j1 k x0 x3 x4 false)
def spec_MaskValues.j1 : Nat → Int → List Int → Int → Bool → Option (List Int)
 | 0, _, _, _, _ => none
 | k + 1, x0, x3, x4, x16 => if x16 = true then (if 0 ≤ x4 then (if (Int.tmod (shr .i64 x0 x4) 2) = 1 then (if x3.length < 17592186044416 then (spec_MaskValues.l0 k x0 (x3 ++ [x4]) (wrap64 (x4 + 1))) else (none)) else (spec_MaskValues.l0 k x0 x3 (wrap64 (x4 + 1)))) else (none)) else (some x3)
end
def spec_MaskValues.f (k : Nat) (a0 : Int) : Option (List Int) := spec_MaskValues.l0 k a0 (([] : List Int)) 1
theorem spec_MaskValues.mono_l : ∀ k, (∀ y0 y1 y2, LeO (spec_MaskValues.l0 k y0 y1 y2) (spec_MaskValues.l0 (k + 1) y0 y1 y2)) ∧ (∀ y0 y1 y2 y3, LeO (spec_MaskValues.j1 k y0 y1 y2 y3) (spec_MaskValues.j1 (k + 1) y0 y1 y2 y3))
 | 0 => ⟨fun _ _ _ r h => by simp [spec_MaskValues.l0] at h, fun _ _ _ _ r h => by simp [spec_MaskValues.j1] at h⟩
 | k + 1 => by
  obtain ⟨ih0, ih1⟩ := spec_MaskValues.mono_l k
  refine ⟨?_, ?_⟩
  ·intro y0 y1 y2
   unfold spec_MaskValues.l0
   repeat' first
   | (with_reducible exact ih0 _ _ _)
   | (with_reducible exact ih1 _ _ _ _)
   | (with_reducible exact LeO.refl _)
   | (with_reducible exact LeO.none _)
   | (with_reducible refine LeO.ite ?_ ?_)
   | (with_reducible refine LeO.bind ?_ (fun _ => ?_))
   | exact ih0 _ _ _
   | exact ih1 _ _ _ _
   | exact LeO.none _
   | refine LeO.ite ?_ ?_
   | refine LeO.bind ?_ (fun _ => ?_)
  ·intro y0 y1 y2 y3
   unfold spec_MaskValues.j1
   repeat' first
   | (with_reducible exact ih0 _ _ _)
   | (with_reducible exact ih1 _ _ _ _)
   | (with_reducible exact LeO.refl _)
   | (with_reducible exact LeO.none _)
   | (with_reducible refine LeO.ite ?_ ?_)
   | (with_reducible refine LeO.bind ?_ (fun _ => ?_))
   | exact ih0 _ _ _
   | exact ih1 _ _ _ _
   | exact LeO.none _
   | refine LeO.ite ?_ ?_
   | refine LeO.bind ?_ (fun _ => ?_)
theorem spec_MaskValues.mono : ∀ a0 k, LeO (spec_MaskValues.f k a0) (spec_MaskValues.f (k + 1) a0) := by
 intro a0 k
 obtain ⟨ih0, ih1⟩ := spec_MaskValues.mono_l k
 unfold spec_MaskValues.f
 repeat' first
   | (with_reducible exact ih0 _ _ _)
   | (with_reducible exact ih1 _ _ _ _)
   | (with_reducible exact LeO.refl _)
   | (with_reducible exact LeO.none _)
   | (with_reducible refine LeO.ite ?_ ?_)
   | (with_reducible refine LeO.bind ?_ (fun _ => ?_))
   | exact ih0 _ _ _
   | exact ih1 _ _ _ _
   | exact LeO.none _
   | refine LeO.ite ?_ ?_
   | refine LeO.bind ?_ (fun _ => ?_)
set_option maxHeartbeats 8000000 in
set_option maxRecDepth 100000 in
theorem spec_MaskValues.calls (k : Nat) (a0 : Int) (r : List Int) (w : World) (h : spec_MaskValues.f k a0 = some r) :
  Calls Try.prog 100 #[.int .i64 a0] w fun e w' => ∃ v0_ : Value, e = .returned (v0_) ∧ Kd.R (Kd.int .i64) 3 w' w.heap.size (fun _ => True) v0_ r ∧ Below w.heap.size w w' := by
 have HB := yam (Below.refl w.heap.size w)
 have H : (spec_MaskValues.l0 k a0 (([] : List Int)) 1) = some r := h
 clear h
 obtain ⟨y348, hy348⟩ : ∃ y_ : List Int, y_ = (([] : List Int)) := ⟨_, rfl⟩
 replace H : (spec_MaskValues.l0 k a0 y348 1) = some r := by first | (rw [hy348]; with_reducible exact H) | (have H2_ := (Option.bind_some _ _).symm.trans H; rw [hy348]; with_reducible exact H2_) | (have H2_ := (Option.bind_some _ _).symm.trans H; with_reducible exact H2_) | with_reducible exact H | (rw [hy348]; exact H) | exact H
 have Ny348 := yam hy348
 clear hy348
 have H' := yam H
 clear H
 go_enter Try.func100, Try.ntmps100
 go_wp2_with (first | ((with_reducible refine gate_dst (N := 5) rfl ?_); refine Kd.R_lit (Kd.int .i64) _ 3 ?hg (N := 5) ?hd (xs := ([] : List Int)) (inner := []) (ok := fun _ => True) (okp := fun _ => True) ?hr ?hp (fun _ hk => hk) trivial (Below.refl _ _) (Nat.le_refl _) (by simp) ?_; (case hd => rfl); (case hg => rfl); (case hr => first | (go_simp; done) | (go_simp; rfl)); (case hp => exact (Reps.none _ _)); intro v349 w2 ho3 hb hg_ hnew_; clear hg_ hnew_; (first | rw [← Ny348.out] at ho3 | (simp only [Int.reduceToNat] at ho3; rw [← Ny348.out] at ho3)); have n0_ := yam (Kd.R_lower ho3 (below_size (yez HB.out))); have n1_ := yam (below_step (yez HB.out) hb); clear HB; have HO350 := n0_; have HB := n1_; clear n0_ n1_; clear hb ho3))
 go_loopg [3, 4] k (fun kq v3 v4 w' => ∃ (x3_1 : List Int) (x4_1 : Int), v4 = .int .i64 x4_1 ∧ Aside0 (spec_MaskValues.l0 kq a0 x3_1 x4_1 = some r) ∧ Aside0 (kq ≤ k) ∧ Aside0 (Kd.R (Kd.int .i64) 3 w' w.heap.size (fun _ => True) v3 x3_1) ∧ Aside0 (Below w.heap.size w w'))
 case atStart => exact ⟨(y348), (1), (by first | rfl | (simp; done) | (simp [*]; done)), H', ⟨Nat.le_refl _⟩, ⟨by (with_reducible repeat (first | apply Kd.Ya | apply Kd.Yn | apply Kd.Yd)); exact HO350.out⟩, ⟨by repeat (first | (with_reducible first | exact HB.out | apply yea | apply yen | apply yed) | exact HB.out)⟩⟩
 case round =>
  clear H'
  try clear c1
  try clear p2
  obtain ⟨x3_1, x4_1, rfl, HA, HK1, HO_3, HB⟩ := hrel
  cases gk with
  | zero => exact absurd HA.out (by simp [spec_MaskValues.l0])
  | succ k1 =>
   have H := HA.out
   clear HA
   simp only [spec_MaskValues.l0] at H
   have HC4 := yam H
   clear H
   go_upto_region 3 with (fail)
   go_cut [16] (fun v16 wc => ∃ (kq : Nat) (x16_3 : Bool), v16 = .bool x16_3 ∧ Aside0 (spec_MaskValues.j1 kq a0 x3_1 x4_1 x16_3 = some r) ∧ Aside0 (kq ≤ k1) ∧ Aside0 (Kd.R (Kd.int .i64) 3 wc w.heap.size (fun _ => True) u3 x3_1) ∧ Aside0 (Below w.heap.size w wc))
   case first =>
    have H := HC4.out
    clear HC4
    by_cases c5 : x4_1 ≤ 4
    rotate_left
    ·rw [if_neg c5] at H
     have c5b0 : decide (x4_1 ≤ 4) = false := decide_eq_false c5
     clear c5
     (first | rw [c5b0] | (simp only [i64_w, i32_w]; rw [c5b0]) | skip)
     have H' := yam H
     clear H
     go_wp2
     go_meet
     case rel => exact ⟨_, (false), (by first | rfl | (simp; done) | (simp [*]; done)), H', ⟨by have := HK1.out; first | omega | exact Nat.le_refl _⟩, ⟨by (with_reducible repeat (first | apply Kd.Ya | apply Kd.Yn | apply Kd.Yd)); exact HO_3.out⟩, ⟨by repeat (first | (with_reducible first | exact HB.out | apply yea | apply yen | apply yed) | exact HB.out)⟩⟩
    rw [if_pos c5] at H
    have c5b0 : decide (x4_1 ≤ 4) = true := decide_eq_true c5
    clear c5
    (first | rw [c5b0] | (simp only [i64_w, i32_w]; rw [c5b0]) | skip)
    replace H := Option.bind_eq_some_iff.mp H
    obtain ⟨t351, A60, H⟩ := H
    try dsimp only at H
    have A6 := yam A60
    clear A60
    by_cases c7 : t351 = true
    ·subst c7
     have H1 : (spec_MaskValues.j1 k1 a0 x3_1 x4_1 ((Int.tmod a0 2) == 0)) = some r := by rw [if_pos rfl] at H; exact H
     clear H
     have H := H1
     clear H1
     have H' := yam H
     clear H
     go_wp2_with (first | (go_at_call 42; (with_reducible refine (spec_l1In.calls a0 0 30 true _ A6.out).mono ?_); rintro e w' ⟨rfl, ⟨nd, rfl⟩⟩))
     go_meet
     case rel => exact ⟨_, (((Int.tmod a0 2) == 0)), (by first | rfl | (simp; done) | (simp [*]; done)), H', ⟨by have := HK1.out; first | omega | exact Nat.le_refl _⟩, ⟨by (with_reducible repeat (first | apply Kd.Ya | apply Kd.Yn | apply Kd.Yd)); exact HO_3.out⟩, ⟨by repeat (first | (with_reducible first | exact HB.out | apply yea | apply yen | apply yed) | exact HB.out)⟩⟩
    replace c7 := Bool.eq_false_iff.mpr c7
    subst c7
    have H1 : (spec_MaskValues.j1 k1 a0 x3_1 x4_1 false) = some r := by rw [if_neg (show ¬ (false = true) by decide)] at H; exact H
    clear H
    have H := H1
    clear H1
    have H' := yam H
    clear H
    go_wp2_with (first | (go_at_call 42; (with_reducible refine (spec_l1In.calls a0 0 30 false _ A6.out).mono ?_); rintro e w' ⟨rfl, ⟨nd, rfl⟩⟩))
    go_meet
    case rel => exact ⟨_, (false), (by first | rfl | (simp; done) | (simp [*]; done)), H', ⟨by have := HK1.out; first | omega | exact Nat.le_refl _⟩, ⟨by (with_reducible repeat (first | apply Kd.Ya | apply Kd.Yn | apply Kd.Yd)); exact HO_3.out⟩, ⟨by repeat (first | (with_reducible first | exact HB.out | apply yea | apply yen | apply yed) | exact HB.out)⟩⟩
   case rest =>
    clear HC4
    try clear c1
    try clear p2
    try clear c5
    try clear c5b0
    try clear c7
    try clear p2
    obtain ⟨kq, x16_3, rfl, HA, HJ3, HO_3, HB⟩ := hcut
    cases kq with
    | zero => exact absurd HA.out (by simp [spec_MaskValues.j1])
    | succ kj3 =>
     have H := HA.out
     clear HA
     simp only [spec_MaskValues.j1] at H
     by_cases c8 : x16_3 = true
     rotate_left
     ·replace c8 := Bool.eq_false_iff.mpr c8
      subst c8
      have H1 : (some x3_1) = some r := by rw [if_neg (show ¬ (false = true) by decide)] at H; exact H
      clear H
      have H := H1
      clear H1
      obtain rfl := Option.some.inj H
      go_wp2
      go_ret
      exact ⟨_, by first | rfl | (simp [errW_none, errW_some] <;> rfl) | (simp [*, errW_none, errW_some] <;> rfl), by (with_reducible repeat (first | apply Kd.Ya | apply Kd.Yn | apply Kd.Yd)); exact HO_3.out, by repeat (first | (with_reducible first | exact HB.out | apply yea | apply yen | apply yed) | exact HB.out)⟩

     subst c8
     have H1 : (if 0 ≤ x4_1 then (if (Int.tmod (shr .i64 a0 x4_1) 2) = 1 then (if x3_1.length < 17592186044416 then (spec_MaskValues.l0 kj3 a0 (x3_1 ++ [x4_1]) (wrap64 (x4_1 + 1))) else (none)) else (spec_MaskValues.l0 kj3 a0 x3_1 (wrap64 (x4_1 + 1)))) else (none)) = some r := by rw [if_pos rfl] at H; exact H
     clear H
     have H := H1
     clear H1
     by_cases c9 : 0 ≤ x4_1
     rotate_left
     ·rw [if_neg c9] at H
      exact absurd H (by simp)
     rw [if_pos c9] at H
     have c9b0 := eq_true c9
     have c9b1 : decide (0 ≤ x4_1) = true := decide_eq_true c9
     clear c9
     obtain ⟨ji10, hji10⟩ : ∃ j_ : Int, (shr .i64 a0 x4_1) = j_ := ⟨_, rfl⟩
     replace H : (if (Int.tmod (ji10) 2) = 1 then (if x3_1.length < 17592186044416 then (spec_MaskValues.l0 kj3 a0 (x3_1 ++ [x4_1]) (wrap64 (x4_1 + 1))) else (none)) else (spec_MaskValues.l0 kj3 a0 x3_1 (wrap64 (x4_1 + 1)))) = some r := by first | (rw [hji10] at H; exact H) | (simp only [hji10] at H ⊢; exact H)
     have hji10_ : (a0 / 2 ^ min x4_1.toNat 64) = ji10 := hji10
     have hji10z : x4_1 ≤ 64 → (a0 / 2 ^ x4_1.toNat) = ji10 := shr_small hji10
     by_cases c11 : (Int.tmod (ji10) 2) = 1
     rotate_left
     ·rw [if_neg c11] at H
      have c11b0 : ((Int.tmod (ji10) 2) == 1) = false := beq_eq_false_iff_ne.mpr c11
      have c11b1 : ((Int.tmod (ji10) 2) != 1) = true := bne_iff_ne.mpr c11
      have H' := yam H
      clear H
      go_wp2
      go_roundg kj3
      case measure => have := HK1.out; have := HJ3.out; omega
      case rel => exact ⟨(x3_1), (wrap64 (x4_1 + 1)), (by first | rfl | (simp; done) | (simp [*]; done)), H', ⟨by have := HK1.out; have := HJ3.out; omega⟩, ⟨by (with_reducible repeat (first | apply Kd.Ya | apply Kd.Yn | apply Kd.Yd)); exact HO_3.out⟩, ⟨by repeat (first | (with_reducible first | exact HB.out | apply yea | apply yen | apply yed) | exact HB.out)⟩⟩
     rw [if_pos c11] at H
     have c11b0 : ((Int.tmod (ji10) 2) == 1) = true := beq_iff_eq.mpr c11
     have c11b1 : ((Int.tmod (ji10) 2) != 1) = false := bne_eq_false_iff_eq.mpr c11
     clear c11
     by_cases c12 : x3_1.length < 17592186044416
     rotate_left
     ·rw [if_neg c12] at H
      exact absurd H (by simp)
     rw [if_pos c12] at H
     have LMc12 := yam c12
     clear c12
     obtain ⟨y352, hy352⟩ : ∃ y_ : List Int, y_ = (x3_1 ++ [x4_1]) := ⟨_, rfl⟩
     replace H : (spec_MaskValues.l0 kj3 a0 y352 (wrap64 (x4_1 + 1))) = some r := by first | (rw [hy352]; with_reducible exact H) | (have H2_ := (Option.bind_some _ _).symm.trans H; rw [hy352]; with_reducible exact H2_) | (have H2_ := (Option.bind_some _ _).symm.trans H; with_reducible exact H2_) | with_reducible exact H | (rw [hy352]; exact H) | exact H
     have Ny352 := yam hy352
     clear hy352
     have H' := yam H
     clear H
     go_wp2_with (first | ((with_reducible refine gate_builtin (b := .append) (xs := #[.tmp 24, .tmp 26]) rfl ?_); at_builtin; refine Kd.R_append (Kd.int .i64) (w0 := w) w.heap.size rfl (.tmp 24) (.tmp 26) 22 3 (.int .i64 0) 8 rfl Try.underlying22 info3 rfl (by decide) (by omega) u3 x3_1 x4_1 [.int .i64 x4_1] (fun _ => True) (fun _ => False) rfl rfl ?aP (fun _ hk => hk.elim) ?aF ?aO ?aB ?aS ?aL ?_; (case aP => exact rfl); (case aB => exact (yez HB.out)); (case aF => exact (fun _ _ => trivial)); (case aO => exact (Kd.Yz HO_3.out)); (case aS => exact (below_size (yez HB.out))); (case aL => have := LMc12.out; omega); intro v353 w13 ho hb hg hat; rw [← Ny352.out] at ho; have n0_ := yam (hb); have n1_ := yam (ho); clear HB; clear HO_3; have HB := n0_; have HO354 := n1_; clear n0_ n1_; clear ho hb hg hat))
     go_roundg kj3
     case measure => have := HK1.out; have := HJ3.out; omega
     case rel => exact ⟨(y352), (wrap64 (x4_1 + 1)), (by first | rfl | (simp; done) | (simp [*]; done)), H', ⟨by have := HK1.out; have := HJ3.out; omega⟩, ⟨by (with_reducible repeat (first | apply Kd.Ya | apply Kd.Yn | apply Kd.Yd)); exact HO354.out⟩, ⟨by repeat (first | (with_reducible first | exact HB.out | apply yea | apply yen | apply yed) | exact HB.out)⟩⟩
/-! ### spec_l4Ways: function 98 -/
mutual
def spec_l4Ways.l0 : Nat → List Int → List Int → Int → Int → Option (List Int)
 | 0, _, _, _, _ => none
 | k + 1, x2, x3, x8, x9 => if x9 < x8 then (if 0 ≤ x9 then (if x9 < (x3.length : Int) then (if x9 < (x2.length : Int) then (if 0 ≤ (rd x2 x9) then (spec_l4Ways.l0 k x2 (x3.set (x9 : Int).toNat (Go.bits .or .i64 (rd x3 x9) (shl .i64 1 (rd x2 x9)))) x8 (wrap64 (x9 + 1))) else (none)) else (none)) else (none)) else (none)) else (some x3)
def spec_l4Ways.l1 : Nat → List Int → List Int → List Int → List Int → Int → Int → List Int → Int → Option (List Int)
 | 0, _, _, _, _, _, _, _, _ => none
 | k + 1, x1, x2, x3, x10, x11, x356000, x356001, x356002 => if x11 < (x10.length : Int) then ((some (([] : List Int) : List Int)).bind fun y365 => (if y365.length + x2.length < 17592186044416 then ((some (y365 ++ x2 : List Int)).bind fun y368 => (if 0 ≤ x11 then ((some (([rd x10 x11] : List Int) : List Int)).bind fun y372 => (if y368.length + y372.length < 17592186044416 then ((spec_l4Ways.f k x356000 x356001 x356002 x1 (y368 ++ y372) x3).bind fun t378 => (spec_l4Ways.l1 k x1 x2 t378 x10 (wrap64 (x11 + 1)) x356000 x356001 x356002)) else (none))) else (none))) else (none))) else (some x3)
def spec_l4Ways.f : Nat → Int → List Int → Int → List Int → List Int → List Int → Option (List Int)
 | 0, _, _, _, _, _, _ => none
 | k + 1, a0_0, l0_1, a0_2, l1, l2, l3 => if (l2.length : Int) = (l0_1.length : Int) then ((spec_l4Holds.f k a0_0 l0_1 a0_2 l2).bind fun t356 => (if t356 = true then (spec_l4Ways.l0 k l2 l3 (l2.length : Int) 0) else (some l3))) else (if 0 ≤ (l2.length : Int) then (if (l2.length : Int) < (l0_1.length : Int) then (if 0 ≤ (rd l0_1 (l2.length : Int)) then (if (rd l0_1 (l2.length : Int)) < (l1.length : Int) then ((spec_MaskValues.f k (rd l1 (rd l0_1 (l2.length : Int)))).bind fun t362 => (spec_l4Ways.l1 k l1 l2 l3 t362 0 a0_0 l0_1 a0_2)) else (none)) else (none)) else (none)) else (none))
end
def spec_l4Ways.T7 : Bool × List (List Nat × List Nat) := (true, [([], []), ([], []), ([], []), ([], []), ([2, 3], [2, 3]), ([4], [4]), ([], []), ([], []), ([6, 7], [6, 7]), ([8], [8]), ([9], [9]), ([5, 10], [5, 10]), ([0, 1, 0, 1, 2, 3, 4, 5, 6, 7, 8, 9, 10, 11], [0, 1]), ([12, 11, 0, 1, 2, 3, 4, 5, 6, 7, 8, 9, 10, 11], [11, 12])])
def spec_l4Ways.B7 : List Nat := [0, 0, 0, 0, 12, 28, 0, 0, 192, 448, 960, 2044, 4095, 8191]
theorem spec_l4Ways.tab7 : rtab .any (opsOf Try.f98 7) = spec_l4Ways.T7 := by kernel_rfl
theorem spec_l4Ways.bits7 : waitsOk spec_l4Ways.T7.2 spec_l4Ways.B7 = true := by kernel_rfl
def spec_l4Ways.T12 : Bool × List (List Nat × List Nat) := (true, [([], []), ([], []), ([], []), ([], []), ([2, 3], [2, 3]), ([], []), ([], []), ([5, 6], [5, 6]), ([7], [7]), ([8], [8]), ([4, 9, 4], [4, 9]), ([], []), ([0, 1, 10, 11, 10], [0, 1, 10, 11])])
def spec_l4Ways.B12 : List Nat := [0, 0, 0, 0, 12, 0, 0, 96, 224, 480, 1020, 0, 4095]
theorem spec_l4Ways.tab12 : rtab .any (opsOf Try.f98 12) = spec_l4Ways.T12 := by kernel_rfl
theorem spec_l4Ways.bits12 : waitsOk spec_l4Ways.T12.2 spec_l4Ways.B12 = true := by kernel_rfl
set_option maxHeartbeats 8000000 in
set_option maxRecDepth 100000 in
theorem spec_l4Ways.calls (k : Nat) : ∀ (a0_0 : Int) (A0_1 : Option Addr) (c0_1 : Nat) (l0_1 : List Int) (a0_2 : Int) (A1 : Option Addr) (c1 : Nat) (l1 : List Int) (A2 : Option Addr) (c2 : Nat) (l2 : List Int) (P3_ : Nat → Prop) (u9000_ : Value) (l3 : List Int) (r : List Int) (w0 w : World) (hB : Below w0.heap.size w0 w) (hr0_1 : ∀ W_, Kept w W_ (fun k_ => P3_ k_) → Kd.C (Kd.int .i64) W_ A0_1 l0_1.length l0_1) (hc0_1 : l0_1.length ≤ c0_1) (hr1 : ∀ W_, Kept w W_ (fun k_ => P3_ k_) → Kd.C (Kd.int .i64) W_ A1 l1.length l1) (hc1 : l1.length ≤ c1) (hr2 : ∀ W_, Kept w W_ (fun k_ => P3_ k_) → Kd.C (Kd.int .i64) W_ A2 l2.length l2) (hc2 : l2.length ≤ c2) (ho3 : Kd.R (Kd.int .i64) 3 w w0.heap.size P3_ u9000_ l3) (h : spec_l4Ways.f k a0_0 l0_1 a0_2 l1 l2 l3 = some r),
  Calls Try.prog 98 #[.agg #[.int .i64 a0_0, .slice A0_1 l0_1.length c0_1, .int .i64 a0_2], .slice A1 l1.length c1, .slice A2 l2.length c2, u9000_] w fun e w' => e = .returned (.tuple #[]) ∧ Kd.R (Kd.int .i64) 3 w' w0.heap.size (fun k_ => (P3_ k_ ∨ w.heap.size ≤ k_)) u9000_ r ∧ Below w0.heap.size w0 w' ∧ Kept w w' (fun k_ => P3_ k_) := by
 induction k using Nat.strongRecOn with
 | _ k ih =>
 intro a0_0 A0_1 c0_1 l0_1 a0_2 A1 c1 l1 A2 c2 l2 P3_ u9000_ l3 r w0 w hB hr0_1 hc0_1 hr1 hc1 hr2 hc2 ho3 h
 cases k with
 | zero => exact absurd h (by simp [spec_l4Ways.f])
 | succ k =>
 simp only [spec_l4Ways.f] at h
 have hu73 := Try.underlying73
 have HR0_1 := yam hr0_1
 have HC0_1 := yam hc0_1
 clear hr0_1 hc0_1
 have HR1 := yam hr1
 have HC1 := yam hc1
 clear hr1 hc1
 have HR2 := yam hr2
 have HC2 := yam hc2
 clear hr2 hc2
 have HO3 := yam (show Kd.R (Kd.int .i64) 3 w w0.heap.size (fun k_ => (P3_ k_ ∨ w.heap.size ≤ k_)) u9000_ l3 from Kd.R_mono ho3 (fun k_ hk => (.inl hk)))
 have HK := yam (Kept.refl w (fun k_ => P3_ k_))
 have HW0 := yam hB.size
 have HB := yam hB
 clear hB
 have H : (if (l2.length : Int) = (l0_1.length : Int) then ((spec_l4Holds.f k a0_0 l0_1 a0_2 l2).bind fun t356 => (if t356 = true then (spec_l4Ways.l0 k l2 l3 (l2.length : Int) 0) else (some l3))) else (if 0 ≤ (l2.length : Int) then (if (l2.length : Int) < (l0_1.length : Int) then (if 0 ≤ (rd l0_1 (l2.length : Int)) then (if (rd l0_1 (l2.length : Int)) < (l1.length : Int) then ((spec_MaskValues.f k (rd l1 (rd l0_1 (l2.length : Int)))).bind fun t362 => (spec_l4Ways.l1 k l1 l2 l3 t362 0 a0_0 l0_1 a0_2)) else (none)) else (none)) else (none)) else (none))) = some r := h
 clear h
 by_cases c5 : (l2.length : Int) = (l0_1.length : Int)
 ·rw [if_pos c5] at H
  have c5b0 : ((l2.length : Int) == (l0_1.length : Int)) = true := beq_iff_eq.mpr c5
  have c5b1 : ((l2.length : Int) != (l0_1.length : Int)) = false := bne_eq_false_iff_eq.mpr c5
  have c5b2 : (l2.length == l0_1.length) = true := by first | simpa using c5 | (simp at c5 ⊢; omega)
  clear c5
  replace H := Option.bind_eq_some_iff.mp H
  obtain ⟨t356, A60, H⟩ := H
  try dsimp only at H
  have A6 := yam A60
  clear A60
  by_cases c7 : t356 = true
  rotate_left
  ·replace c7 := Bool.eq_false_iff.mpr c7
   subst c7
   have H1 : (some l3) = some r := by rw [if_neg (show ¬ (false = true) by decide)] at H; exact H
   clear H
   have H := H1
   clear H1
   obtain rfl := Option.some.inj H
   go_enter Try.func98, Try.ntmps98
   go_wp2_with (first | ((with_reducible refine gate_dst (N := 4) rfl ?_); refine box_event ?hg (N := 4) ?hd (cs := #[.int .i64 a0_0, .slice A0_1 l0_1.length c0_1, .int .i64 a0_2]) (t := 73) ?hr ?_; (case hd => rfl); (case hg => rfl); (case hr => first | (go_simp; done) | (go_simp; rfl)); intro gb355 hg w21 hbox hb; have n0_ := yam (Kd.R_below (Kd.Yz HO3.out) hb); have n1_ := yam (Kept.below (S := (fun k_ => P3_ k_)) (by repeat (first | (with_reducible first | exact HK.out | apply Kept.alloc | apply Kept.drewN | apply Kept.drew) | exact HK.out)) hb); have n2_ := yam (below_step (yez HB.out) hb); have n3_ := yam (hbox); have n4_ := yam ((by rw [hg]; exact (by first | exact HK.out.1 | exact (show Kept w _ (fun k_ => P3_ k_) from by repeat (first | (with_reducible first | exact HK.out | apply Kept.alloc | apply Kept.drewN | apply Kept.drew) | exact HK.out)).1) : w.heap.size ≤ gb355)); have n5_ := yam ((by rw [hg]; exact (below_size (yez HB.out)) : w0.heap.size ≤ gb355)); clear HO3; clear HK; clear HB; have HO3 := n0_; have HK := n1_; have HB := n2_; have BK355 := n3_; have GW355 := n4_; have GE355 := n5_; clear n0_ n1_ n2_ n3_ n4_ n5_; clear hb hbox hg; obtain ⟨hcz22_0, hcz22_1, hcz22_2, hfz22_0, hfz22_1, hfz22_2⟩ := ybc BK355.out) | ((with_reducible refine gate_callee (f := 99) rfl ?_); refine goesL_ (some 21) rfl rfl Try.func99 (by kernel_rfl) rfl #[.agg #[.int .i64 a0_0, .slice A0_1 l0_1.length c0_1, .int .i64 a0_2], .slice A2 l2.length c2] rfl (by (try simp only [List.map_toArray, List.map_cons, List.map_nil]); first | done | rfl | (simp only [List.length_drop, List.length_take]; rfl)) ?_; (with_reducible refine (spec_l4Holds.calls k a0_0 _ _ l0_1 a0_2 _ _ l2 false _ ?side1 ?side2 ?side3 ?side4 A6.out).mono ?_); (case side1 => exact Kd.C_kept_now HR0_1.out (by repeat (first | (with_reducible first | exact HK.out | apply Kept.alloc | apply Kept.drewN | apply Kept.drew | refine Kept.setCell ?_ (.inr GW355.out) _) | exact HK.out))); (case side2 => exact HC0_1.out); (case side3 => exact Kd.C_kept_now HR2.out (by repeat (first | (with_reducible first | exact HK.out | apply Kept.alloc | apply Kept.drewN | apply Kept.drew | refine Kept.setCell ?_ (.inr GW355.out) _) | exact HK.out))); (case side4 => exact HC2.out); rintro e w23 ⟨rfl, hb⟩; refine ⟨_, rfl, ?_⟩; have n0_ := yam (Kd.R_below (Kd.Yz HO3.out) hb); have n1_ := yam (blk_below (g := gb355) (o := .cells #[.int .i64 a0_0, .slice A0_1 l0_1.length c0_1, .int .i64 a0_2] 73 (0, 0)) (ybz BK355.out) hb); have n2_ := yam (Kept.below (S := (fun k_ => P3_ k_)) (by repeat (first | (with_reducible first | exact HK.out | apply Kept.alloc | apply Kept.drewN | apply Kept.drew | refine Kept.setCell ?_ (.inr GW355.out) _) | exact HK.out)) hb); have n3_ := yam (below_step (by repeat (first | (with_reducible first | exact HB.out | apply yea | apply yen | apply yed | refine below_set ?_ GE355.out) | exact HB.out)) hb); clear HO3; clear BK355; clear HK; clear HB; have HO3 := n0_; have BK355 := n1_; have HK := n2_; have HB := n3_; clear n0_ n1_ n2_ n3_; (try clear hb); (try clear hb2); (try clear hk); (try clear hi)))
   first | go_end0 | ((try simp only [Exit.inBlock, Exit.then]); refine bodyPost_ret (results_none rfl _ _ _) rfl ?_)
   exact ⟨by first | rfl | (simp [errW_none, errW_some] <;> rfl) | (simp [*, errW_none, errW_some] <;> rfl), by (with_reducible repeat (first | apply Kd.Ya | apply Kd.Yn | apply Kd.Yd)); exact HO3.out, by repeat (first | (with_reducible first | exact HB.out | apply yea | apply yen | apply yed | refine below_set ?_ GE355.out) | exact HB.out), by repeat (first | (with_reducible first | exact HK.out | apply Kept.alloc | apply Kept.drewN | apply Kept.drew | refine Kept.setCell ?_ (.inr GW355.out) _) | exact HK.out)⟩
  subst c7
  have H1 : (spec_l4Ways.l0 k l2 l3 (l2.length : Int) 0) = some r := by rw [if_pos rfl] at H; exact H
  clear H
  have H := H1
  clear H1
  have H' := yam H
  clear H
  go_enter Try.func98, Try.ntmps98
  go_wp2_with (first | ((with_reducible refine gate_dst (N := 4) rfl ?_); refine box_event ?hg (N := 4) ?hd (cs := #[.int .i64 a0_0, .slice A0_1 l0_1.length c0_1, .int .i64 a0_2]) (t := 73) ?hr ?_; (case hd => rfl); (case hg => rfl); (case hr => first | (go_simp; done) | (go_simp; rfl)); intro gb355 hg w8 hbox hb; have n0_ := yam (Kd.R_below (Kd.Yz HO3.out) hb); have n1_ := yam (Kept.below (S := (fun k_ => P3_ k_)) (by repeat (first | (with_reducible first | exact HK.out | apply Kept.alloc | apply Kept.drewN | apply Kept.drew) | exact HK.out)) hb); have n2_ := yam (below_step (yez HB.out) hb); have n3_ := yam (hbox); have n4_ := yam ((by rw [hg]; exact (by first | exact HK.out.1 | exact (show Kept w _ (fun k_ => P3_ k_) from by repeat (first | (with_reducible first | exact HK.out | apply Kept.alloc | apply Kept.drewN | apply Kept.drew) | exact HK.out)).1) : w.heap.size ≤ gb355)); have n5_ := yam ((by rw [hg]; exact (below_size (yez HB.out)) : w0.heap.size ≤ gb355)); clear HO3; clear HK; clear HB; have HO3 := n0_; have HK := n1_; have HB := n2_; have BK355 := n3_; have GW355 := n4_; have GE355 := n5_; clear n0_ n1_ n2_ n3_ n4_ n5_; clear hb hbox hg; obtain ⟨hcz9_0, hcz9_1, hcz9_2, hfz9_0, hfz9_1, hfz9_2⟩ := ybc BK355.out) | ((with_reducible refine gate_callee (f := 99) rfl ?_); refine goesL_ (some 21) rfl rfl Try.func99 (by kernel_rfl) rfl #[.agg #[.int .i64 a0_0, .slice A0_1 l0_1.length c0_1, .int .i64 a0_2], .slice A2 l2.length c2] rfl (by (try simp only [List.map_toArray, List.map_cons, List.map_nil]); first | done | rfl | (simp only [List.length_drop, List.length_take]; rfl)) ?_; (with_reducible refine (spec_l4Holds.calls k a0_0 _ _ l0_1 a0_2 _ _ l2 true _ ?side1 ?side2 ?side3 ?side4 A6.out).mono ?_); (case side1 => exact Kd.C_kept_now HR0_1.out (by repeat (first | (with_reducible first | exact HK.out | apply Kept.alloc | apply Kept.drewN | apply Kept.drew | refine Kept.setCell ?_ (.inr GW355.out) _) | exact HK.out))); (case side2 => exact HC0_1.out); (case side3 => exact Kd.C_kept_now HR2.out (by repeat (first | (with_reducible first | exact HK.out | apply Kept.alloc | apply Kept.drewN | apply Kept.drew | refine Kept.setCell ?_ (.inr GW355.out) _) | exact HK.out))); (case side4 => exact HC2.out); rintro e w10 ⟨rfl, hb⟩; refine ⟨_, rfl, ?_⟩; have n0_ := yam (Kd.R_below (Kd.Yz HO3.out) hb); have n1_ := yam (blk_below (g := gb355) (o := .cells #[.int .i64 a0_0, .slice A0_1 l0_1.length c0_1, .int .i64 a0_2] 73 (0, 0)) (ybz BK355.out) hb); have n2_ := yam (Kept.below (S := (fun k_ => P3_ k_)) (by repeat (first | (with_reducible first | exact HK.out | apply Kept.alloc | apply Kept.drewN | apply Kept.drew | refine Kept.setCell ?_ (.inr GW355.out) _) | exact HK.out)) hb); have n3_ := yam (below_step (by repeat (first | (with_reducible first | exact HB.out | apply yea | apply yen | apply yed | refine below_set ?_ GE355.out) | exact HB.out)) hb); clear HO3; clear BK355; clear HK; clear HB; have HO3 := n0_; have BK355 := n1_; have HK := n2_; have HB := n3_; clear n0_ n1_ n2_ n3_; (try clear hb); (try clear hb2); (try clear hk); (try clear hi)))
  go_loopg [9] k (fun kq v9 w' => ∃ (x3_1 : List Int) (x9_1 : Int), v9 = .int .i64 x9_1 ∧ Aside0 (spec_l4Ways.l0 kq l2 x3_1 (l2.length : Int) x9_1 = some r) ∧ Aside0 (kq ≤ k) ∧ Aside0 (Kd.R (Kd.int .i64) 3 w' w0.heap.size (fun k_ => (P3_ k_ ∨ w.heap.size ≤ k_)) u9000_ x3_1) ∧ Aside0 (w'.heap[gb355]? = some (.cells #[.int .i64 a0_0, (.slice A0_1 l0_1.length c0_1), .int .i64 a0_2] 73 (0, 0))) ∧ Aside0 (Kept w w' (fun k_ => P3_ k_)) ∧ Aside0 (Below w0.heap.size w0 w'))
  case atStart => exact ⟨(l3), (0), (by first | rfl | (simp; done) | (simp [*]; done)), H', ⟨Nat.le_refl _⟩, ⟨by (with_reducible repeat (first | apply Kd.Ya | apply Kd.Yn | apply Kd.Yd)); exact HO3.out⟩, ⟨by (with_reducible repeat (first | refine ybn ?_ _ | refine ybd ?_ | refine yba ?_ _)); exact BK355.out⟩, ⟨by repeat (first | (with_reducible first | exact HK.out | apply Kept.alloc | apply Kept.drewN | apply Kept.drew | refine Kept.setCell ?_ (.inr GW355.out) _) | exact HK.out)⟩, ⟨by repeat (first | (with_reducible first | exact HB.out | apply yea | apply yen | apply yed | refine below_set ?_ GE355.out) | exact HB.out)⟩⟩
  case round =>
   clear H'
   try clear c1
   try clear c2
   try clear p2
   try clear c5
   try clear c5b0
   try clear c5b1
   try clear c5b2
   try clear c7
   try clear c9
   try clear hcz9_0
   try clear hcz9_1
   try clear hcz9_2
   try clear hfz9_0
   try clear hfz9_1
   try clear hfz9_2
   obtain ⟨x3_1, x9_1, rfl, HA, HK1, HO_3, BK355, HK, HB⟩ := hrel
   cases gk with
   | zero => exact absurd HA.out (by simp [spec_l4Ways.l0])
   | succ k1 =>
    have H := HA.out
    clear HA
    simp only [spec_l4Ways.l0] at H
    by_cases c11 : x9_1 < (l2.length : Int)
    rotate_left
    ·rw [if_neg c11] at H
     have c11b0 : decide (x9_1 < (l2.length : Int)) = false := decide_eq_false c11
     clear c11
     obtain rfl := Option.some.inj H
     go_wp2
     first | go_end0 | ((try simp only [Exit.inBlock, Exit.then]); refine bodyPost_ret (results_none rfl _ _ _) rfl ?_)
     exact ⟨by first | rfl | (simp [errW_none, errW_some] <;> rfl) | (simp [*, errW_none, errW_some] <;> rfl), by (with_reducible repeat (first | apply Kd.Ya | apply Kd.Yn | apply Kd.Yd)); exact HO_3.out, by repeat (first | (with_reducible first | exact HB.out | apply yea | apply yen | apply yed | refine below_set ?_ GE355.out) | exact HB.out), by repeat (first | (with_reducible first | exact HK.out | apply Kept.alloc | apply Kept.drewN | apply Kept.drew | refine Kept.setCell ?_ (.inr GW355.out) _) | exact HK.out)⟩
    rw [if_pos c11] at H
    have c11b0 : decide (x9_1 < (l2.length : Int)) = true := decide_eq_true c11
    clear c11
    by_cases c12 : 0 ≤ x9_1
    rotate_left
    ·rw [if_neg c12] at H
     exact absurd H (by simp)
    rw [if_pos c12] at H
    have c12b0 : decide (0 ≤ x9_1) = true := decide_eq_true c12
    clear c12
    by_cases c13 : x9_1 < (x3_1.length : Int)
    rotate_left
    ·rw [if_neg c13] at H
     exact absurd H (by simp)
    rw [if_pos c13] at H
    have c13b0 : decide (x9_1 < (x3_1.length : Int)) = true := decide_eq_true c13
    clear c13
    by_cases c14 : x9_1 < (l2.length : Int)
    rotate_left
    ·rw [if_neg c14] at H
     exact absurd H (by simp)
    rw [if_pos c14] at H
    have c14b0 : decide (x9_1 < (l2.length : Int)) = true := decide_eq_true c14
    clear c14
    by_cases c15 : 0 ≤ (rd l2 x9_1)
    rotate_left
    ·rw [if_neg c15] at H
     exact absurd H (by simp)
    rw [if_pos c15] at H
    have c15b0 := eq_true c15
    have c15b1 : decide (0 ≤ (rd l2 x9_1)) = true := decide_eq_true c15
    clear c15
    obtain ⟨ji16, hji16⟩ : ∃ j_ : Int, (shl .i64 1 (rd l2 x9_1)) = j_ := ⟨_, rfl⟩
    replace H : (spec_l4Ways.l0 k1 l2 (x3_1.set (x9_1 : Int).toNat (Go.bits .or .i64 (rd x3_1 x9_1) (ji16))) (l2.length : Int) (wrap64 (x9_1 + 1))) = some r := by first | (rw [hji16] at H; exact H) | (simp only [hji16] at H ⊢; exact H)
    have hji16_ : (IntKind.i64.wrap (1 * 2 ^ min (rd l2 x9_1).toNat 64)) = ji16 := hji16
    have hji16z : (rd l2 x9_1) ≤ 64 → (IntKind.i64.wrap (1 * 2 ^ (rd l2 x9_1).toNat)) = ji16 := shl_small hji16
    have hji16u : (IntKind.i64.wrap (2 ^ min (rd l2 x9_1).toNat 64)) = ji16 := by have h_ := hji16_; rw [Int.one_mul] at h_; exact h_
    have hji16v : (rd l2 x9_1) ≤ 64 → (IntKind.i64.wrap (2 ^ (rd l2 x9_1).toNat)) = ji16 := fun hle_ => by have h_ := hji16z hle_; rw [Int.one_mul] at h_; exact h_
    have hji16y : (wrap64 (1 * 2 ^ min (rd l2 x9_1).toNat 64)) = ji16 := (i64_w _).symm.trans hji16_
    have hji16x : (rd l2 x9_1) ≤ 64 → (wrap64 (1 * 2 ^ (rd l2 x9_1).toNat)) = ji16 := fun h_ => (i64_w _).symm.trans (hji16z h_)
    obtain ⟨y359, hy359⟩ : ∃ y_ : List Int, y_ = (x3_1.set (x9_1 : Int).toNat (Go.bits .or .i64 (rd x3_1 x9_1) (ji16))) := ⟨_, rfl⟩
    replace H : (spec_l4Ways.l0 k1 l2 y359 (l2.length : Int) (wrap64 (x9_1 + 1))) = some r := by first | (rw [hy359]; with_reducible exact H) | (have H2_ := (Option.bind_some _ _).symm.trans H; rw [hy359]; with_reducible exact H2_) | (have H2_ := (Option.bind_some _ _).symm.trans H; with_reducible exact H2_) | with_reducible exact H | (rw [hy359]; exact H) | exact H
    have Ny359 := yam hy359
    clear hy359
    have H' := yam H
    clear H
    try go_wp2
    have n0_ := yam (Kd.Yd HO_3.out)
    have n1_ := yam (ybd BK355.out)
    have n2_ := yam (Kept.drew HK.out)
    have n3_ := yam (yed HB.out)
    clear HO_3
    clear BK355
    clear HK
    clear HB
    have HO_3 := n0_
    have BK355 := n1_
    have HK := n2_
    have HB := n3_
    clear n0_ n1_ n2_ n3_
    obtain ⟨Ao19, co19, eo19⟩ := Kd.R_slice HO_3.out
    (first | subst eo19 | (injection eo19 with f1_ f2_ f3_; have f4_ := f1_.symm; have f5_ := f3_.symm; clear f1_ f2_ f3_; subst f4_; subst f5_))
    have p357 : 0 ≤ (x9_1 : Int) := of_decide_eq_true (by first | (with_reducible assumption) | assumption)
    have q357 : x9_1 < (x3_1.length : Int) := of_decide_eq_true (by first | (with_reducible assumption) | assumption)
    obtain ⟨ad357, e357, hx357_0⟩ := Kd.at_int (Kd.Yr HO_3.out).2.2 x9_1 p357 q357
    cases e357
    replace p357 := eq_true p357
    replace q357 := eq_true q357
    have p358 : 0 ≤ (x9_1 : Int) := of_decide_eq_true (by first | (with_reducible assumption) | assumption)
    have q358 : x9_1 < (l2.length : Int) := of_decide_eq_true (by first | (with_reducible assumption) | assumption)
    obtain ⟨ad358, e358, hx358_0⟩ := Kd.at_int (Kd.C_kept_now HR2.out HK.out) x9_1 p358 q358
    have hw358_0 := hx358_0
    cases e358
    replace p358 := eq_true p358
    replace q358 := eq_true q358
    have p17 : 0 ≤ (x9_1 : Int) := of_decide_eq_true (by first | (with_reducible assumption) | assumption)
    have q17 : (x9_1 : Int) < ((x3_1.length : Int) : Int) := of_decide_eq_true (by first | (with_reducible assumption) | assumption)
    obtain ⟨go17, co17, eo17, gb17, gl17, cl17, HG17⟩ := Kd.R_form HO_3.out (by omega)
    (first | cases eo17 | (injection eo17 with ea_ en_ ec_; (first | subst ea_ | (injection ea_ with ea_; subst ea_)); subst ec_; clear en_))
    have GB17 := yam gb17
    have GG17 := yam HG17
    clear gb17 gl17 HG17
    have HMgo17 := yam (show (P3_ go17 ∨ w.heap.size ≤ go17) from (HO_3.out.1 _ rfl))
    (first | simp only [add_plain] at hx357_0 | skip)
    obtain ⟨hx17_0, hf17_0⟩ := Kd.R_celln 0 HO_3.out (x9_1 : Int) p17 q17
    replace p17 := eq_true p17
    replace q17 := eq_true q17
    have HP20 := Kd.R_putn HO_3.out (x9_1 : Int) (Go.bits .or .i64 (rd x3_1 x9_1) (ji16))
    rw [← Ny359.out] at HP20
    have HQ20 := yam HP20
    clear HP20
    refine start_ (n := 14) (S := fun w' => w'.cell? ⟨go17, (x9_1).toNat, none⟩ = some (.int .i64 (rd x3_1 x9_1)) ∧ w'.cell? (ad358.add (x9_1).toNat) = some (.int .i64 (rd l2 x9_1))) (ds := [13]) #[false, false, false, false, false, false, false, false, false, false, false, false, false, false] (by kernel_rfl) rfl rfl ⟨hx357_0, (Kd.foot_int (HR2.out _ (by repeat (first | exact HK.out | apply Kept.alloc | apply Kept.drewN | apply Kept.drew | refine Kept.setCell ?_ HMgo17.out _))) x9_1 (of_eq_true p358) (of_eq_true q358))⟩ (fun hHeld => ?_); refine with_tabW spec_l4Ways.tab7 spec_l4Ways.bits7 (fun HT_ HW_ => ?_)
    generalize wr.drew = w18 at HO_3 BK355 HK HB GG17 HQ20 hf17_0 hx17_0 hx357_0 hx358_0 hHeld ⊢
    refine yvp 0 27 (yvb 14 1) HT_.out ?_
    refine yvp 1 28 (yvb 14 3) HT_.out ?_
    refine yvp 2 29 (yvb 14 7) HT_.out ?_
    refine yvp 3 30 (yvb 14 15) HT_.out ?_
    refine yvp 4 31 (yvb 14 31) HT_.out ?_
    refine yvp 6 33 (yvb 14 95) HT_.out ?_
    refine yvp 7 34 (yvb 14 223) HT_.out ?_
    refine yvp 8 35 (yvb 14 479) HT_.out ?_
    refine yvt 5 32 (yvb 14 511) HT_.out HW_.out hHeld ?_
    refine yvt 9 36 (yvb 14 1023) HT_.out HW_.out hHeld ?_
    refine yvp 10 37 (yvb 14 2047) HT_.out ?_
    refine yvp 11 38 (yvb 14 4095) HT_.out ?_
    refine yvp 12 39 (yvb 14 8191) HT_.out ?_
    refine last_ (i := 13) (N := none) #[true, true, true, true, true, true, true, true, true, true, true, true, true, true] rfl rfl (one_of HT_.out (by kernel_rfl)) (by decide) (fun K hK => ?_)
    refine skip_ (w1 := ?_) (by rfl) rfl ?_ ?_
    rotate_left
    ·go_simp
     rfl
    refine hK.out _ _ ?_
    clear hK K
    refine done_ (done_of HT_.out (by kernel_rfl)) ?_
    try go_wp2
    go_roundg k1
    case measure => have := HK1.out; omega
    case rel => exact ⟨(y359), (wrap64 (x9_1 + 1)), (by first | rfl | (simp; done) | (simp [*]; done)), H', ⟨by have := HK1.out; omega⟩, ⟨by (with_reducible repeat (first | apply Kd.Ya | apply Kd.Yn | apply Kd.Yd)); exact HQ20.out⟩, ⟨by (with_reducible repeat (first | refine ybn ?_ _ | refine ybd ?_ | refine yba ?_ _)); refine blk_far ?_ (by have h_ := Kd.R_ne HO_3.out BK355.out (by decide); intro e_; exact h_ (by rw [e_]; rfl)) _; (with_reducible repeat (first | refine ybn ?_ _ | refine ybd ?_ | refine yba ?_ _)); exact BK355.out⟩, ⟨by repeat (first | (with_reducible first | exact HK.out | apply Kept.alloc | apply Kept.drewN | apply Kept.drew | refine Kept.setCell ?_ HMgo17.out _ | refine Kept.setCell ?_ (.inr GW355.out) _) | exact HK.out)⟩, ⟨by repeat (first | (with_reducible first | exact HB.out | apply yea | apply yen | apply yed | refine below_set ?_ GB17.out | refine below_set ?_ GE355.out) | exact HB.out)⟩⟩
 rw [if_neg c5] at H
 have c5b0 : ((l2.length : Int) == (l0_1.length : Int)) = false := beq_eq_false_iff_ne.mpr c5
 have c5b1 : ((l2.length : Int) != (l0_1.length : Int)) = true := bne_iff_ne.mpr c5
 have c5b2 : (l2.length == l0_1.length) = false := by first | simpa using c5 | (simp at c5 ⊢; omega)
 by_cases c24 : 0 ≤ (l2.length : Int)
 rotate_left
 ·rw [if_neg c24] at H
  exact absurd H (by simp)

 rw [if_pos c24] at H
 have c24b0 : decide (0 ≤ (l2.length : Int)) = true := decide_eq_true c24
 have c24b1 : decide (0 ≤ l2.length) = true := decide_eq_true (by omega)
 clear c24
 by_cases c25 : (l2.length : Int) < (l0_1.length : Int)
 rotate_left
 ·rw [if_neg c25] at H
  exact absurd H (by simp)
 rw [if_pos c25] at H
 have c25b0 : decide ((l2.length : Int) < (l0_1.length : Int)) = true := decide_eq_true c25
 have c25b1 : decide (l2.length < l0_1.length) = true := decide_eq_true (Int.ofNat_lt.mp c25)
 clear c25
 by_cases c26 : 0 ≤ (rd l0_1 (l2.length : Int))
 rotate_left
 ·rw [if_neg c26] at H
  exact absurd H (by simp)
 rw [if_pos c26] at H
 have c26b0 : decide (0 ≤ (rd l0_1 (l2.length : Int))) = true := decide_eq_true c26
 clear c26
 by_cases c27 : (rd l0_1 (l2.length : Int)) < (l1.length : Int)
 rotate_left
 ·rw [if_neg c27] at H
  exact absurd H (by simp)
 rw [if_pos c27] at H
 have c27b0 : decide ((rd l0_1 (l2.length : Int)) < (l1.length : Int)) = true := decide_eq_true c27
 clear c27
 replace H := Option.bind_eq_some_iff.mp H
 obtain ⟨t362, A280, H⟩ := H
 try dsimp only at H
 have A28 := yam A280
 clear A280
 have H' := yam H
 clear H
 go_enter Try.func98, Try.ntmps98
 go_wp2_with (first | ((with_reducible refine gate_dst (N := 4) rfl ?_); refine box_event ?hg (N := 4) ?hd (cs := #[.int .i64 a0_0, .slice A0_1 l0_1.length c0_1, .int .i64 a0_2]) (t := 73) ?hr ?_; (case hd => rfl); (case hg => rfl); (case hr => first | (go_simp; done) | (go_simp; rfl)); intro gb355 hg w29 hbox hb; have n0_ := yam (Kd.R_below (Kd.Yz HO3.out) hb); have n1_ := yam (Kept.below (S := (fun k_ => P3_ k_)) (by repeat (first | (with_reducible first | exact HK.out | apply Kept.alloc | apply Kept.drewN | apply Kept.drew) | exact HK.out)) hb); have n2_ := yam (below_step (yez HB.out) hb); have n3_ := yam (hbox); have n4_ := yam ((by rw [hg]; exact (by first | exact HK.out.1 | exact (show Kept w _ (fun k_ => P3_ k_) from by repeat (first | (with_reducible first | exact HK.out | apply Kept.alloc | apply Kept.drewN | apply Kept.drew) | exact HK.out)).1) : w.heap.size ≤ gb355)); have n5_ := yam ((by rw [hg]; exact (below_size (yez HB.out)) : w0.heap.size ≤ gb355)); clear HO3; clear HK; clear HB; have HO3 := n0_; have HK := n1_; have HB := n2_; have BK355 := n3_; have GW355 := n4_; have GE355 := n5_; clear n0_ n1_ n2_ n3_ n4_ n5_; clear hb hbox hg; obtain ⟨hcz30_0, hcz30_1, hcz30_2, hfz30_0, hfz30_1, hfz30_2⟩ := ybc BK355.out; have p360 : 0 ≤ ((l2.length : Int) : Int) := of_decide_eq_true (by first | (with_reducible assumption) | assumption); have q360 : (l2.length : Int) < (l0_1.length : Int) := of_decide_eq_true (by first | (with_reducible assumption) | assumption); obtain ⟨ad360, e360, hx360_0⟩ := Kd.at_int (Kd.C_kept_now HR0_1.out HK.out) (l2.length : Int) p360 q360; cases e360; (try simp only [Go.IntWalk.toNatUp] at hx360_0); replace p360 := eq_true p360; replace q360 := eq_true q360; have p361 : 0 ≤ ((rd l0_1 (l2.length : Int)) : Int) := of_decide_eq_true (by first | (with_reducible assumption) | assumption); have q361 : (rd l0_1 (l2.length : Int)) < (l1.length : Int) := of_decide_eq_true (by first | (with_reducible assumption) | assumption); obtain ⟨ad361, e361, hx361_0⟩ := Kd.at_int (Kd.C_kept_now HR1.out HK.out) (rd l0_1 (l2.length : Int)) p361 q361; cases e361; (try simp only [Go.IntWalk.toNatUp] at hx361_0); replace p361 := eq_true p361; replace q361 := eq_true q361) | ((with_reducible refine gate_callee (f := 100) rfl ?_); refine goesL_ (some 48) rfl rfl Try.func100 (by kernel_rfl) rfl #[.int .i64 (rd l1 (rd l0_1 (l2.length : Int)))] rfl (by (try simp only [List.map_toArray, List.map_cons, List.map_nil]); first | done | rfl | (simp only [List.length_drop, List.length_take]; rfl)) ?_; (with_reducible refine (spec_MaskValues.calls k (rd l1 (rd l0_1 (l2.length : Int))) t362 _ A28.out).mono ?_); rintro e w31 ⟨v363, rfl, ho0, hb⟩; refine ⟨_, rfl, ?_⟩; have n0_ := yam (Kd.Ye (Kd.Yz HO3.out) (Kd.Yb ho0) hb); have n1_ := yam (Kd.R_lower (Kd.Yw (Kd.R_newM (M := fun k_ => (P3_ k_ ∨ w.heap.size ≤ k_)) ho0 (by first | exact HK.out.1 | exact (show Kept w _ (fun k_ => P3_ k_) from by repeat (first | (with_reducible first | exact HK.out | apply Kept.alloc | apply Kept.drewN | apply Kept.drew | refine Kept.setCell ?_ (.inr GW355.out) _) | exact HK.out)).1) (fun k_ h_ => .inr h_)) (Kd.R_lt (Kd.Yz HO3.out))) (below_size (by repeat (first | (with_reducible first | exact HB.out | apply yea | apply yen | apply yed | refine below_set ?_ GE355.out) | exact HB.out)))); have n2_ := yam (blk_below (g := gb355) (o := .cells #[.int .i64 a0_0, .slice (some ad360) l0_1.length c0_1, .int .i64 a0_2] 73 (0, 0)) (ybz BK355.out) hb); have n3_ := yam (Kept.below (S := (fun k_ => P3_ k_)) (by repeat (first | (with_reducible first | exact HK.out | apply Kept.alloc | apply Kept.drewN | apply Kept.drew | refine Kept.setCell ?_ (.inr GW355.out) _) | exact HK.out)) hb); have n4_ := yam (below_step (by repeat (first | (with_reducible first | exact HB.out | apply yea | apply yen | apply yed | refine below_set ?_ GE355.out) | exact HB.out)) hb); clear HO3; clear BK355; clear HK; clear HB; have HO3 := n0_; have HO364 := n1_; have BK355 := n2_; have HK := n3_; have HB := n4_; clear n0_ n1_ n2_ n3_ n4_; (try clear hb); (try clear hb2); (try clear hk); (try clear hi); (try clear ho0)))
 go_loopg [11] k (fun kq v11 w' => ∃ (x3_1 : List Int) (x11_1 : Int), v11 = .int .i64 x11_1 ∧ Aside0 (spec_l4Ways.l1 kq l1 l2 x3_1 t362 x11_1 a0_0 l0_1 a0_2 = some r) ∧ Aside0 (kq ≤ k) ∧ Aside0 (Kd.R (Kd.int .i64) 3 w' w0.heap.size (fun k_ => (P3_ k_ ∨ w.heap.size ≤ k_) ∧ some k_ ≠ (v363 : Value).ownBlock) u9000_ x3_1) ∧ Aside0 (Kd.R (Kd.int .i64) 3 w' w0.heap.size (fun k_ => (P3_ k_ ∨ w.heap.size ≤ k_) ∧ some k_ ≠ (u9000_ : Value).ownBlock) v363 t362) ∧ Aside0 (w'.heap[gb355]? = some (.cells #[.int .i64 a0_0, (.slice (some ad360) l0_1.length c0_1), .int .i64 a0_2] 73 (0, 0))) ∧ Aside0 (Kept w w' (fun k_ => P3_ k_)) ∧ Aside0 (Below w0.heap.size w0 w'))
 case atStart => exact ⟨(l3), (0), (by first | rfl | (simp; done) | (simp [*]; done)), H', ⟨Nat.le_refl _⟩, ⟨by (with_reducible repeat (first | apply Kd.Ya | apply Kd.Yn | apply Kd.Yd)); exact HO3.out⟩, ⟨by (with_reducible repeat (first | apply Kd.Ya | apply Kd.Yn | apply Kd.Yd)); exact Kd.R_mono HO364.out (fun _ hk => ⟨hk.1.1, hk.2⟩)⟩, ⟨by (with_reducible repeat (first | refine ybn ?_ _ | refine ybd ?_ | refine yba ?_ _)); exact BK355.out⟩, ⟨by repeat (first | (with_reducible first | exact HK.out | apply Kept.alloc | apply Kept.drewN | apply Kept.drew | refine Kept.setCell ?_ (.inr GW355.out) _) | exact HK.out)⟩, ⟨by repeat (first | (with_reducible first | exact HB.out | apply yea | apply yen | apply yed | refine below_set ?_ GE355.out) | exact HB.out)⟩⟩
 case round =>
  clear H'
  try clear c1
  try clear p1
  try clear q1
  try clear hx1
  try clear c2
  try clear p2
  try clear p3
  try clear q3
  try clear hx3
  try clear c5
  try clear c5b0
  try clear c5b1
  try clear c5b2
  try clear p6
  try clear c7
  try clear c9
  try clear c10
  try clear c11
  try clear c11b0
  try clear c12
  try clear c12b0
  try clear c13
  try clear c13b0
  try clear c14
  try clear c14b0
  try clear c15
  try clear c15b0
  try clear c15b1
  try clear p17
  try clear q17
  try clear hx17
  try clear hf17
  try clear c24
  try clear c24b0
  try clear c24b1
  try clear c25
  try clear c25b0
  try clear c25b1
  try clear c26
  try clear c26b0
  try clear c27
  try clear c27b0
  try clear hcz22_0
  try clear hcz22_1
  try clear hcz22_2
  try clear hcz30_0
  try clear hcz30_1
  try clear hcz30_2
  try clear hcz9_0
  try clear hcz9_1
  try clear hcz9_2
  try clear hfz22_0
  try clear hfz22_1
  try clear hfz22_2
  try clear hfz30_0
  try clear hfz30_1
  try clear hfz30_2
  try clear hfz9_0
  try clear hfz9_1
  try clear hfz9_2
  try clear hx17_0
  try clear hx357_0
  try clear hx358_0
  try clear hx360_0
  try clear hx361_0
  try clear p17
  try clear p2
  try clear p357
  try clear p358
  try clear p360
  try clear p361
  try clear q17
  try clear q357
  try clear q358
  try clear q360
  try clear q361
  obtain ⟨x3_1, x11_1, rfl, HA, HK1, HO_3, HO_10, BK355, HK, HB⟩ := hrel
  cases gk with
  | zero => exact absurd HA.out (by simp [spec_l4Ways.l1])
  | succ k1 =>
   have H := HA.out
   clear HA
   simp only [spec_l4Ways.l1] at H
   by_cases c32 : x11_1 < (t362.length : Int)
   rotate_left
   ·rw [if_neg c32] at H
    have c32b0 : decide (x11_1 < (t362.length : Int)) = false := decide_eq_false c32
    clear c32
    obtain rfl := Option.some.inj H
    obtain ⟨Ao50, co50, eo50⟩ := Kd.R_slice HO_10.out
    subst eo50
    go_wp2
    first | go_end0 | ((try simp only [Exit.inBlock, Exit.then]); refine bodyPost_ret (results_none rfl _ _ _) rfl ?_)
    exact ⟨by first | rfl | (simp [errW_none, errW_some] <;> rfl) | (simp [*, errW_none, errW_some] <;> rfl), by (with_reducible repeat (first | apply Kd.Ya | apply Kd.Yn | apply Kd.Yd)); exact Kd.R_mono HO_3.out (fun _ hk => hk.1), by repeat (first | (with_reducible first | exact HB.out | apply yea | apply yen | apply yed | refine below_set ?_ GE355.out) | exact HB.out), by repeat (first | (with_reducible first | exact HK.out | apply Kept.alloc | apply Kept.drewN | apply Kept.drew | refine Kept.setCell ?_ (.inr GW355.out) _) | exact HK.out)⟩
   rw [if_pos c32] at H
   have c32b0 : decide (x11_1 < (t362.length : Int)) = true := decide_eq_true c32
   clear c32
   obtain ⟨y365, hy365⟩ : ∃ y_ : List Int, y_ = (([] : List Int)) := ⟨_, rfl⟩
   replace H : (if y365.length + l2.length < 17592186044416 then ((some (y365 ++ l2 : List Int)).bind fun y368 => (if 0 ≤ x11_1 then ((some (([rd t362 x11_1] : List Int) : List Int)).bind fun y372 => (if y368.length + y372.length < 17592186044416 then ((spec_l4Ways.f k1 a0_0 l0_1 a0_2 l1 (y368 ++ y372) x3_1).bind fun t378 => (spec_l4Ways.l1 k1 l1 l2 t378 t362 (wrap64 (x11_1 + 1)) a0_0 l0_1 a0_2)) else (none))) else (none))) else (none)) = some r := by first | (rw [hy365]; with_reducible exact H) | (have H2_ := (Option.bind_some _ _).symm.trans H; rw [hy365]; with_reducible exact H2_) | (have H2_ := (Option.bind_some _ _).symm.trans H; with_reducible exact H2_) | with_reducible exact H | (rw [hy365]; exact H) | exact H
   have Ny365 := yam hy365
   clear hy365
   by_cases c33 : y365.length + l2.length < 17592186044416
   rotate_left
   ·rw [if_neg c33] at H
    exact absurd H (by simp)
   rw [if_pos c33] at H
   have LMc33 := yam c33
   clear c33
   obtain ⟨y368, hy368⟩ : ∃ y_ : List Int, y_ = (y365 ++ l2) := ⟨_, rfl⟩
   replace H : (if 0 ≤ x11_1 then ((some (([rd t362 x11_1] : List Int) : List Int)).bind fun y372 => (if y368.length + y372.length < 17592186044416 then ((spec_l4Ways.f k1 a0_0 l0_1 a0_2 l1 (y368 ++ y372) x3_1).bind fun t378 => (spec_l4Ways.l1 k1 l1 l2 t378 t362 (wrap64 (x11_1 + 1)) a0_0 l0_1 a0_2)) else (none))) else (none)) = some r := by first | (rw [hy368]; with_reducible exact H) | (have H2_ := (Option.bind_some _ _).symm.trans H; rw [hy368]; with_reducible exact H2_) | (have H2_ := (Option.bind_some _ _).symm.trans H; with_reducible exact H2_) | with_reducible exact H | (rw [hy368]; exact H) | exact H
   have Ny368 := yam hy368
   clear hy368
   by_cases c34 : 0 ≤ x11_1
   rotate_left
   ·rw [if_neg c34] at H
    exact absurd H (by simp)
   rw [if_pos c34] at H
   have c34b0 : decide (0 ≤ x11_1) = true := decide_eq_true c34
   clear c34
   obtain ⟨y372, hy372⟩ : ∃ y_ : List Int, y_ = (([rd t362 x11_1] : List Int)) := ⟨_, rfl⟩
   replace H : (if y368.length + y372.length < 17592186044416 then ((spec_l4Ways.f k1 a0_0 l0_1 a0_2 l1 (y368 ++ y372) x3_1).bind fun t378 => (spec_l4Ways.l1 k1 l1 l2 t378 t362 (wrap64 (x11_1 + 1)) a0_0 l0_1 a0_2)) else (none)) = some r := by first | (rw [hy372]; with_reducible exact H) | (have H2_ := (Option.bind_some _ _).symm.trans H; rw [hy372]; with_reducible exact H2_) | (have H2_ := (Option.bind_some _ _).symm.trans H; with_reducible exact H2_) | with_reducible exact H | (rw [hy372]; exact H) | exact H
   have Ny372 := yam hy372
   clear hy372
   by_cases c35 : y368.length + y372.length < 17592186044416
   rotate_left
   ·rw [if_neg c35] at H
    exact absurd H (by simp)
   rw [if_pos c35] at H
   have LMc35 := yam c35
   clear c35
   obtain ⟨y375, hy375⟩ : ∃ y_ : List Int, y_ = (y368 ++ y372) := ⟨_, rfl⟩
   replace H : ((spec_l4Ways.f k1 a0_0 l0_1 a0_2 l1 y375 x3_1).bind fun t378 => (spec_l4Ways.l1 k1 l1 l2 t378 t362 (wrap64 (x11_1 + 1)) a0_0 l0_1 a0_2)) = some r := by first | (rw [hy375]; with_reducible exact H) | (have H2_ := (Option.bind_some _ _).symm.trans H; rw [hy375]; with_reducible exact H2_) | (have H2_ := (Option.bind_some _ _).symm.trans H; with_reducible exact H2_) | with_reducible exact H | (rw [hy375]; exact H) | exact H
   have Ny375 := yam hy375
   clear hy375
   replace H := Option.bind_eq_some_iff.mp H
   obtain ⟨t378, A360, H⟩ := H
   try dsimp only at H
   have A36 := yam A360
   clear A360
   have H' := yam H
   clear H
   obtain ⟨Ao37, co37, eo37⟩ := Kd.R_slice HO_10.out
   subst eo37
   obtain ⟨Ao38, co38, eo38⟩ := Kd.R_slice HO_3.out
   subst eo38
   try go_wp2
   have n0_ := yam (Kd.Yd HO_3.out)
   have n1_ := yam (Kd.Yd HO_10.out)
   have n2_ := yam (ybd BK355.out)
   have n3_ := yam (Kept.drew HK.out)
   have n4_ := yam (yed HB.out)
   clear HO_3
   clear HO_10
   clear BK355
   clear HK
   clear HB
   have HO_3 := n0_
   have HO_10 := n1_
   have BK355 := n2_
   have HK := n3_
   have HB := n4_
   clear n0_ n1_ n2_ n3_ n4_
   have p371 : 0 ≤ (x11_1 : Int) := of_decide_eq_true (by first | (with_reducible assumption) | assumption)
   have q371 : x11_1 < (t362.length : Int) := of_decide_eq_true (by first | (with_reducible assumption) | assumption)
   obtain ⟨ad371, e371, hx371_0⟩ := Kd.at_int (Kd.Yr HO_10.out).2.2 x11_1 p371 q371
   cases e371
   replace p371 := eq_true p371
   replace q371 := eq_true q371
   refine start_ (n := 13) (S := fun w' => w'.cell? ⟨gb355, 0, none⟩ = some (.int .i64 a0_0) ∧ w'.cell? ⟨gb355, 1, none⟩ = some (.slice (some ad360) l0_1.length c0_1) ∧ w'.cell? ⟨gb355, 2, none⟩ = some (.int .i64 a0_2) ∧ w'.cell? (ad371.add (x11_1).toNat) = some (.int .i64 (rd t362 x11_1))) (ds := []) #[false, false, false, false, false, false, false, false, false, false, false, false, false] (by kernel_rfl) rfl rfl ⟨(blk_cell BK355.out 0).trans rfl, (blk_cell BK355.out 1).trans rfl, (blk_cell BK355.out 2).trans rfl, hx371_0⟩ (fun hHeld => ?_); refine with_tabW spec_l4Ways.tab12 spec_l4Ways.bits12 (fun HT_ HW_ => ?_)
   generalize wr.drew = w39 at HO_3 HO_10 BK355 HK HB hx371_0 hHeld ⊢
   refine yvp 1 56 (yvb 13 2) HT_.out ?_
   refine yvp 3 58 (yvb 13 10) HT_.out ?_
   refine yvp 5 60 (yvb 13 42) HT_.out ?_
   refine yvp 6 61 (yvb 13 106) HT_.out ?_
   refine yvp 7 62 (yvb 13 234) HT_.out ?_
   refine yvp 11 66 (yvb 13 2282) HT_.out ?_
   refine yvt 0 55 (yvb 13 2283) HT_.out HW_.out hHeld ?_
   refine yvt 8 63 (yvb 13 2539) HT_.out HW_.out hHeld ?_
   refine join_ (σ := Value × Value × Value) 2 #[true, true, true, true, true, true, true, true, true, true, false, true, false] (fun s_ => [(57, s_.1), (59, s_.2.1), (64, s_.2.2)]) (fun s_ w' => (w'.cell? ⟨gb355, 0, none⟩ = some (.int .i64 a0_0) ∧ w'.cell? ⟨gb355, 1, none⟩ = some (.slice (some ad360) l0_1.length c0_1) ∧ w'.cell? ⟨gb355, 2, none⟩ = some (.int .i64 a0_2) ∧ w'.cell? (ad371.add (x11_1).toNat) = some (.int .i64 (rd t362 x11_1))) ∧ (Kd.R (Kd.int .i64) 3 w' w0.heap.size (fun k_ => (P3_ k_ ∨ w.heap.size ≤ k_) ∧ some k_ ≠ (s_.2.2 : Value).ownBlock ∧ some k_ ≠ (.slice (some ad371) t362.length co37 : Value).ownBlock ∧ some k_ ≠ (.slice Ao38 x3_1.length co38 : Value).ownBlock) s_.2.1 y368) ∧ (Kd.R (Kd.int .i64) 3 w' w0.heap.size (fun k_ => (P3_ k_ ∨ w.heap.size ≤ k_) ∧ some k_ ≠ (s_.2.1 : Value).ownBlock ∧ some k_ ≠ (.slice (some ad371) t362.length co37 : Value).ownBlock ∧ some k_ ≠ (.slice Ao38 x3_1.length co38 : Value).ownBlock) s_.2.2 y372) ∧ (Kd.R (Kd.int .i64) 3 w' w0.heap.size (fun k_ => (P3_ k_ ∨ w.heap.size ≤ k_) ∧ some k_ ≠ (s_.2.1 : Value).ownBlock ∧ some k_ ≠ (s_.2.2 : Value).ownBlock ∧ some k_ ≠ (.slice Ao38 x3_1.length co38 : Value).ownBlock) (.slice (some ad371) t362.length co37) t362) ∧ (Kd.R (Kd.int .i64) 3 w' w0.heap.size (fun k_ => (P3_ k_ ∨ w.heap.size ≤ k_) ∧ some k_ ≠ (s_.2.1 : Value).ownBlock ∧ some k_ ≠ (s_.2.2 : Value).ownBlock ∧ some k_ ≠ (.slice (some ad371) t362.length co37 : Value).ownBlock) (.slice Ao38 x3_1.length co38) x3_1) ∧ (w'.heap[gb355]? = some (.cells #[.int .i64 a0_0, .slice (some ad360) l0_1.length c0_1, .int .i64 a0_2] 73 (0, 0))) ∧ (Kept w w' (fun k_ => P3_ k_)) ∧ (Below w0.heap.size w0 w')) ?_ ?_
   rotate_left
   ·intro hCont
    refine two_ (i := 2) (j := 9) (Ni := some 57) (Nj := some 64) #[true, true, true, true, false, true, true, true, true, false, false, true, false] #[true, true, false, true, false, true, true, true, true, true, false, true, false] rfl rfl rfl rfl (two_of HT_.out (by kernel_rfl)) (by decide) (by decide) (fun K hK => ?_) (fun K hK => ?_)
    ·skip
     refine Kd.R_lit_step (Kd.int .i64) _ 3 ?hg (N := 57) ?hd (xs := ([] : List Int)) (inner := []) (ok := fun _ => True) (okp := fun _ => True) ?hr ?hp (fun _ hk => hk) trivial (Below.refl _ _) (Nat.le_refl _) (by simp) ?_; (case hd => rfl); (case hg => rfl); (case hr => first | (go_simp; done) | (go_simp; rfl)); (case hp => exact (Reps.none _ _))
     intro v366 w40 ho41 hb hg_ hnew_
     have HS3_ := (hb.cell (World.block_lt_of_cell? _ _ (hHeld.2.2.2))).trans (hHeld.2.2.2)
     clear hg_ hnew_
     (first | rw [← Ny365.out] at ho41 | (simp only [Int.reduceToNat] at ho41; rw [← Ny365.out] at ho41))
     have n0_ := yam (Kd.Ye (Kd.Yz HO_3.out) (Kd.Yb ho41) hb)
     have n1_ := yam (Kd.Ye (Kd.Yz HO_10.out) (Kd.Yb ho41) hb)
     have n2_ := yam (Kd.R_lower (Kd.Yw (Kd.Yw (Kd.R_newM (M := fun k_ => (P3_ k_ ∨ w.heap.size ≤ k_)) ho41 (by first | exact HK.out.1 | exact (show Kept w _ (fun k_ => P3_ k_) from by repeat (first | (with_reducible first | exact HK.out | apply Kept.alloc | apply Kept.drewN | apply Kept.drew | refine Kept.setCell ?_ (.inr GW355.out) _) | exact HK.out)).1) (fun k_ h_ => .inr h_)) (Kd.R_lt (Kd.Yz HO_3.out))) (Kd.R_lt (Kd.Yz HO_10.out))) (below_size (by repeat (first | (with_reducible first | exact HB.out | apply yea | apply yen | apply yed | refine below_set ?_ GE355.out) | exact HB.out))))
     have n3_ := yam (blk_below (g := gb355) (o := .cells #[.int .i64 a0_0, .slice (some ad360) l0_1.length c0_1, .int .i64 a0_2] 73 (0, 0)) (ybz BK355.out) hb)
     have n4_ := yam (Kept.below (S := (fun k_ => P3_ k_)) (by repeat (first | (with_reducible first | exact HK.out | apply Kept.alloc | apply Kept.drewN | apply Kept.drew | refine Kept.setCell ?_ (.inr GW355.out) _) | exact HK.out)) hb)
     have n5_ := yam (below_step (by repeat (first | (with_reducible first | exact HB.out | apply yea | apply yen | apply yed | refine below_set ?_ GE355.out) | exact HB.out)) hb)
     clear HO_3
     clear HO_10
     clear BK355
     clear HK
     clear HB
     have HO_3 := n0_
     have HO_10 := n1_
     have HO367 := n2_
     have BK355 := n3_
     have HK := n4_
     have HB := n5_
     clear n0_ n1_ n2_ n3_ n4_ n5_
     clear hb ho41
     refine hK.out _ _ ⟨(blk_cell BK355.out 0).trans rfl, (blk_cell BK355.out 1).trans rfl, (blk_cell BK355.out 2).trans rfl, HS3_⟩ (fun hHeld => ?_)
     clear hK K
     refine norm_ (a' := ?_) ?_ ?_
     rotate_left
     ·show Act.put _ (some 57) _ = _
      simp only [Act.put, yps, i64_w, i32_w]
      rfl
     refine two_ (i := 4) (j := 9) (Ni := some 59) (Nj := some 64) #[true, true, true, true, true, true, true, true, true, false, false, true, false] #[true, true, true, true, false, true, true, true, true, true, false, true, false] rfl rfl rfl rfl (two_of HT_.out (by kernel_rfl)) (by decide) (by decide) (fun K hK => ?_) (fun K hK => ?_)
     ·skip
      refine Kd.R_append_rows_step (Kd.int .i64) (w0 := w0) w0.heap.size (by rfl) (.tmp 57) (.tmp 58) 22 3 (.int .i64 0) 8 rfl Try.underlying22 info3 rfl (by decide) (by omega) v366 y365 l2 _ _ _ (fun k_ => (P3_ k_ ∨ w.heap.size ≤ k_) ∧ some k_ ≠ (.slice Ao38 x3_1.length co38 : Value).ownBlock ∧ some k_ ≠ (.slice (some ad371) t362.length co37 : Value).ownBlock) (fun _ => False) rfl rfl ?aO ?aR (fun _ _ h => h) (fun _ h => h.elim) ?aF ?aB ?aS ?aL ?_
      (case aR => exact Kd.C_kept_now HR2.out (by repeat (first | (with_reducible first | exact HK.out | apply Kept.alloc | apply Kept.drewN | apply Kept.drew | refine Kept.setCell ?_ (.inr GW355.out) _) | exact HK.out)))
      (case aB => exact (by repeat (first | (with_reducible first | exact HB.out | apply yea | apply yen | apply yed | refine below_set ?_ GE355.out) | exact HB.out)))
      (case aF => exact (fun k_ hk => ⟨(.inr (Nat.le_trans (by first | exact HK.out.1 | exact (show Kept w _ (fun k_ => P3_ k_) from by repeat (first | (with_reducible first | exact HK.out | apply Kept.alloc | apply Kept.drewN | apply Kept.drew | refine Kept.setCell ?_ (.inr GW355.out) _) | exact HK.out)).1) hk)), Kd.fresh' (Kd.R_lt (Kd.Yz HO_3.out)) k_ hk, Kd.fresh' (Kd.R_lt (Kd.Yz HO_10.out)) k_ hk⟩))
      (case aO => exact (by (with_reducible repeat (first | apply Kd.Ya | apply Kd.Yn | apply Kd.Yd)); exact Kd.R_mono HO367.out (fun _ hk => ⟨hk.1.1.1, ⟨hk.1.2, hk.2⟩⟩)))
      (case aS => exact (below_size (by repeat (first | (with_reducible first | exact HB.out | apply yea | apply yen | apply yed | refine below_set ?_ GE355.out) | exact HB.out))))
      (case aL => have := LMc33.out; omega)
      intro v369 w42 ho hb hg hat
      have HS3_ := cell_grown hg (hHeld.2.2.2) (by first | (rw [add_block]; exact (fun e_ => (by first | exact (HO367.out.1 _ e_.symm) rfl | exact (HO367.out.1 _ e_.symm).1 rfl | exact (HO367.out.1 _ e_.symm).2 rfl | exact (HO367.out.1 _ e_.symm).1.1 rfl | exact (HO367.out.1 _ e_.symm).1.2 rfl | exact (HO367.out.1 _ e_.symm).2.1 rfl | exact (HO367.out.1 _ e_.symm).2.2 rfl | exact (HO367.out.1 _ e_.symm).1.1.1 rfl | exact (HO367.out.1 _ e_.symm).1.1.2 rfl | exact (HO367.out.1 _ e_.symm).1.2.1 rfl | exact (HO367.out.1 _ e_.symm).1.2.2 rfl | exact (HO367.out.1 _ e_.symm).2.1.1 rfl | exact (HO367.out.1 _ e_.symm).2.1.2 rfl | exact (HO367.out.1 _ e_.symm).2.2.1 rfl | exact (HO367.out.1 _ e_.symm).2.2.2 rfl | exact (HO367.out.1 _ e_.symm).1.1.1.1 rfl | exact (HO367.out.1 _ e_.symm).1.1.1.2 rfl | exact (HO367.out.1 _ e_.symm).1.1.2.1 rfl | exact (HO367.out.1 _ e_.symm).1.1.2.2 rfl | exact (HO367.out.1 _ e_.symm).1.2.1.1 rfl | exact (HO367.out.1 _ e_.symm).1.2.1.2 rfl | exact (HO367.out.1 _ e_.symm).1.2.2.1 rfl | exact (HO367.out.1 _ e_.symm).1.2.2.2 rfl | exact (HO367.out.1 _ e_.symm).2.1.1.1 rfl | exact (HO367.out.1 _ e_.symm).2.1.1.2 rfl | exact (HO367.out.1 _ e_.symm).2.1.2.1 rfl | exact (HO367.out.1 _ e_.symm).2.1.2.2 rfl | exact (HO367.out.1 _ e_.symm).2.2.1.1 rfl | exact (HO367.out.1 _ e_.symm).2.2.1.2 rfl | exact (HO367.out.1 _ e_.symm).2.2.2.1 rfl | exact (HO367.out.1 _ e_.symm).2.2.2.2 rfl))) | (show some (Addr.add _ _).block ≠ _; rw [add_block]; exact (fun e_ => (by first | exact (HO367.out.1 _ e_.symm) rfl | exact (HO367.out.1 _ e_.symm).1 rfl | exact (HO367.out.1 _ e_.symm).2 rfl | exact (HO367.out.1 _ e_.symm).1.1 rfl | exact (HO367.out.1 _ e_.symm).1.2 rfl | exact (HO367.out.1 _ e_.symm).2.1 rfl | exact (HO367.out.1 _ e_.symm).2.2 rfl | exact (HO367.out.1 _ e_.symm).1.1.1 rfl | exact (HO367.out.1 _ e_.symm).1.1.2 rfl | exact (HO367.out.1 _ e_.symm).1.2.1 rfl | exact (HO367.out.1 _ e_.symm).1.2.2 rfl | exact (HO367.out.1 _ e_.symm).2.1.1 rfl | exact (HO367.out.1 _ e_.symm).2.1.2 rfl | exact (HO367.out.1 _ e_.symm).2.2.1 rfl | exact (HO367.out.1 _ e_.symm).2.2.2 rfl | exact (HO367.out.1 _ e_.symm).1.1.1.1 rfl | exact (HO367.out.1 _ e_.symm).1.1.1.2 rfl | exact (HO367.out.1 _ e_.symm).1.1.2.1 rfl | exact (HO367.out.1 _ e_.symm).1.1.2.2 rfl | exact (HO367.out.1 _ e_.symm).1.2.1.1 rfl | exact (HO367.out.1 _ e_.symm).1.2.1.2 rfl | exact (HO367.out.1 _ e_.symm).1.2.2.1 rfl | exact (HO367.out.1 _ e_.symm).1.2.2.2 rfl | exact (HO367.out.1 _ e_.symm).2.1.1.1 rfl | exact (HO367.out.1 _ e_.symm).2.1.1.2 rfl | exact (HO367.out.1 _ e_.symm).2.1.2.1 rfl | exact (HO367.out.1 _ e_.symm).2.1.2.2 rfl | exact (HO367.out.1 _ e_.symm).2.2.1.1 rfl | exact (HO367.out.1 _ e_.symm).2.2.1.2 rfl | exact (HO367.out.1 _ e_.symm).2.2.2.1 rfl | exact (HO367.out.1 _ e_.symm).2.2.2.2 rfl))) | exact (fun e_ => (by first | exact (HO367.out.1 _ e_.symm) rfl | exact (HO367.out.1 _ e_.symm).1 rfl | exact (HO367.out.1 _ e_.symm).2 rfl | exact (HO367.out.1 _ e_.symm).1.1 rfl | exact (HO367.out.1 _ e_.symm).1.2 rfl | exact (HO367.out.1 _ e_.symm).2.1 rfl | exact (HO367.out.1 _ e_.symm).2.2 rfl | exact (HO367.out.1 _ e_.symm).1.1.1 rfl | exact (HO367.out.1 _ e_.symm).1.1.2 rfl | exact (HO367.out.1 _ e_.symm).1.2.1 rfl | exact (HO367.out.1 _ e_.symm).1.2.2 rfl | exact (HO367.out.1 _ e_.symm).2.1.1 rfl | exact (HO367.out.1 _ e_.symm).2.1.2 rfl | exact (HO367.out.1 _ e_.symm).2.2.1 rfl | exact (HO367.out.1 _ e_.symm).2.2.2 rfl | exact (HO367.out.1 _ e_.symm).1.1.1.1 rfl | exact (HO367.out.1 _ e_.symm).1.1.1.2 rfl | exact (HO367.out.1 _ e_.symm).1.1.2.1 rfl | exact (HO367.out.1 _ e_.symm).1.1.2.2 rfl | exact (HO367.out.1 _ e_.symm).1.2.1.1 rfl | exact (HO367.out.1 _ e_.symm).1.2.1.2 rfl | exact (HO367.out.1 _ e_.symm).1.2.2.1 rfl | exact (HO367.out.1 _ e_.symm).1.2.2.2 rfl | exact (HO367.out.1 _ e_.symm).2.1.1.1 rfl | exact (HO367.out.1 _ e_.symm).2.1.1.2 rfl | exact (HO367.out.1 _ e_.symm).2.1.2.1 rfl | exact (HO367.out.1 _ e_.symm).2.1.2.2 rfl | exact (HO367.out.1 _ e_.symm).2.2.1.1 rfl | exact (HO367.out.1 _ e_.symm).2.2.1.2 rfl | exact (HO367.out.1 _ e_.symm).2.2.2.1 rfl | exact (HO367.out.1 _ e_.symm).2.2.2.2 rfl)))
      rw [← Ny368.out] at ho
      have n0_ := yam (Kd.R_after (ok := (fun k_ => (P3_ k_ ∨ w.heap.size ≤ k_) ∧ some k_ ≠ (.slice (some ad371) t362.length co37 : Value).ownBlock)) (Kd.Yz HO_3.out) hg hat)
      have n1_ := yam (Kd.R_after (ok := (fun k_ => (P3_ k_ ∨ w.heap.size ≤ k_) ∧ some k_ ≠ (.slice Ao38 x3_1.length co38 : Value).ownBlock)) (Kd.Yz HO_10.out) hg hat)
      have n2_ := yam (blk_grown (g := gb355) (o := .cells #[.int .i64 a0_0, .slice (some ad360) l0_1.length c0_1, .int .i64 a0_2] 73 (0, 0)) (ybz BK355.out) hg (Kd.R_ne HO367.out BK355.out (by decide)))
      have n3_ := yam (hb)
      have n4_ := yam (Kept.of_grown (S := (fun k_ => P3_ k_)) hg (by repeat (first | (with_reducible first | exact HK.out | apply Kept.alloc | apply Kept.drewN | apply Kept.drew | refine Kept.setCell ?_ (.inr GW355.out) _) | exact HK.out)) (fun k_ e_ => (HO367.out.1 k_ e_).1.1.1))
      have n5_ := yam (ho)
      clear HO_3
      clear HO_10
      clear BK355
      clear HB
      clear HK
      clear HO367
      have HO_3 := n0_
      have HO_10 := n1_
      have BK355 := n2_
      have HB := n3_
      have HK := n4_
      have HO370 := n5_
      clear n0_ n1_ n2_ n3_ n4_ n5_
      clear ho hb hg hat
      refine hK.out _ _ ⟨(blk_cell BK355.out 0).trans rfl, (blk_cell BK355.out 1).trans rfl, (blk_cell BK355.out 2).trans rfl, HS3_⟩ (fun hHeld => ?_)
      clear hK K
      refine norm_ (a' := ?_) ?_ ?_
      rotate_left
      ·show Act.put _ (some 59) _ = _
       simp only [Act.put, yps, i64_w, i32_w]
       rfl
      refine one_ (i := 9) (N := some 64) #[true, true, true, true, true, true, true, true, true, true, false, true, false] rfl rfl (one_of HT_.out (by kernel_rfl)) (by decide) (fun K hK => ?_)
      refine Kd.R_lit_step (Kd.int .i64) _ 3 ?hg (N := 64) ?hd (xs := ([rd t362 x11_1] : List Int)) (inner := [.int .i64 (rd t362 x11_1)]) (ok := fun _ => True) (okp := fun _ => True) ?hr ?hp (fun _ hk => hk) trivial (Below.refl _ _) (Nat.le_refl _) (by simp) ?_; (case hd => rfl); (case hg => rfl); (case hr => first | (go_simp; done) | (go_simp; rfl)); (case hp => exact (Reps.one (show Kd.M (Kd.int .i64) _ _ _ (rd t362 x11_1) [.int .i64 (rd t362 x11_1)] from rfl) (Reps.none _ _)))
      intro v373 w43 ho44 hb hg_ hnew_
      have HS3_ := (hb.cell (World.block_lt_of_cell? _ _ (hHeld.2.2.2))).trans (hHeld.2.2.2)
      clear hg_ hnew_
      (first | rw [← Ny372.out] at ho44 | (simp only [Int.reduceToNat] at ho44; rw [← Ny372.out] at ho44))
      have n0_ := yam (Kd.Ye (Kd.Yz HO_3.out) (Kd.Yb ho44) hb)
      have n1_ := yam (Kd.Ye (Kd.Yz HO_10.out) (Kd.Yb ho44) hb)
      have n2_ := yam (Kd.Ye (Kd.Yz HO370.out) (Kd.Yb ho44) hb)
      have n3_ := yam (Kd.R_lower (Kd.Yw (Kd.Yw (Kd.Yw (Kd.R_newM (M := fun k_ => (P3_ k_ ∨ w.heap.size ≤ k_)) ho44 (by first | exact HK.out.1 | exact (show Kept w _ (fun k_ => P3_ k_) from by repeat (first | (with_reducible first | exact HK.out | apply Kept.alloc | apply Kept.drewN | apply Kept.drew | refine Kept.setCell ?_ (.inr GW355.out) _) | exact HK.out)).1) (fun k_ h_ => .inr h_)) (Kd.R_lt (Kd.Yz HO_3.out))) (Kd.R_lt (Kd.Yz HO_10.out))) (Kd.R_lt (Kd.Yz HO370.out))) (below_size (by repeat (first | (with_reducible first | exact HB.out | apply yea | apply yen | apply yed | refine below_set ?_ GE355.out) | exact HB.out))))
      have n4_ := yam (blk_below (g := gb355) (o := .cells #[.int .i64 a0_0, .slice (some ad360) l0_1.length c0_1, .int .i64 a0_2] 73 (0, 0)) (ybz BK355.out) hb)
      have n5_ := yam (Kept.below (S := (fun k_ => P3_ k_)) (by repeat (first | (with_reducible first | exact HK.out | apply Kept.alloc | apply Kept.drewN | apply Kept.drew | refine Kept.setCell ?_ (.inr GW355.out) _) | exact HK.out)) hb)
      have n6_ := yam (below_step (by repeat (first | (with_reducible first | exact HB.out | apply yea | apply yen | apply yed | refine below_set ?_ GE355.out) | exact HB.out)) hb)
      clear HO_3
      clear HO_10
      clear HO370
      clear BK355
      clear HK
      clear HB
      have HO_3 := n0_
      have HO_10 := n1_
      have HO370 := n2_
      have HO374 := n3_
      have BK355 := n4_
      have HK := n5_
      have HB := n6_
      clear n0_ n1_ n2_ n3_ n4_ n5_ n6_
      clear hb ho44
      refine hK.out _ _ ⟨(blk_cell BK355.out 0).trans rfl, (blk_cell BK355.out 1).trans rfl, (blk_cell BK355.out 2).trans rfl, HS3_⟩ (fun hHeld => ?_)
      clear hK K
      refine norm_ (a' := ?_) ?_ ?_
      rotate_left
      ·show Act.put _ (some 64) _ = _
       simp only [Act.put, yps, i64_w, i32_w]
       rfl
      exact norm_ (by simp only [putAll, Act.put, yps]) (hCont (v366, v369, v373) _ ⟨hHeld, (by (with_reducible repeat (first | apply Kd.Ya | apply Kd.Yn | apply Kd.Yd)); exact Kd.R_mono HO370.out (fun _ hk => ⟨hk.1.1, ⟨hk.2, ⟨hk.1.2.2, hk.1.2.1⟩⟩⟩)), (by (with_reducible repeat (first | apply Kd.Ya | apply Kd.Yn | apply Kd.Yd)); exact Kd.R_mono HO374.out (fun _ hk => ⟨hk.1.1.1.1, ⟨hk.2, ⟨hk.1.2, hk.1.1.2⟩⟩⟩)), (by (with_reducible repeat (first | apply Kd.Ya | apply Kd.Yn | apply Kd.Yd)); exact Kd.R_mono HO_10.out (fun _ hk => ⟨hk.1.1.1, ⟨hk.1.2, ⟨hk.2, hk.1.1.2⟩⟩⟩)), (by (with_reducible repeat (first | apply Kd.Ya | apply Kd.Yn | apply Kd.Yd)); exact Kd.R_mono HO_3.out (fun _ hk => ⟨hk.1.1.1, ⟨hk.1.2, ⟨hk.2, hk.1.1.2⟩⟩⟩)), (ybz BK355.out), (by repeat (first | (with_reducible first | exact HK.out | apply Kept.alloc | apply Kept.drewN | apply Kept.drew | refine Kept.setCell ?_ (.inr GW355.out) _) | exact HK.out)), (by repeat (first | (with_reducible first | exact HB.out | apply yea | apply yen | apply yed | refine below_set ?_ GE355.out) | exact HB.out))⟩)
     ·skip
      refine Kd.R_lit_step (Kd.int .i64) _ 3 ?hg (N := 64) ?hd (xs := ([rd t362 x11_1] : List Int)) (inner := [.int .i64 (rd t362 x11_1)]) (ok := fun _ => True) (okp := fun _ => True) ?hr ?hp (fun _ hk => hk) trivial (Below.refl _ _) (Nat.le_refl _) (by simp) ?_; (case hd => rfl); (case hg => rfl); (case hr => first | (go_simp; done) | (go_simp; rfl)); (case hp => exact (Reps.one (show Kd.M (Kd.int .i64) _ _ _ (rd t362 x11_1) [.int .i64 (rd t362 x11_1)] from rfl) (Reps.none _ _)))
      intro v373 w42 ho43 hb hg_ hnew_
      have HS3_ := (hb.cell (World.block_lt_of_cell? _ _ (hHeld.2.2.2))).trans (hHeld.2.2.2)
      clear hg_ hnew_
      (first | rw [← Ny372.out] at ho43 | (simp only [Int.reduceToNat] at ho43; rw [← Ny372.out] at ho43))
      have n0_ := yam (Kd.Ye (Kd.Yz HO_3.out) (Kd.Yb ho43) hb)
      have n1_ := yam (Kd.Ye (Kd.Yz HO_10.out) (Kd.Yb ho43) hb)
      have n2_ := yam (Kd.Ye (Kd.Yz HO367.out) (Kd.Yb ho43) hb)
      have n3_ := yam (Kd.R_lower (Kd.Yw (Kd.Yw (Kd.Yw (Kd.R_newM (M := fun k_ => (P3_ k_ ∨ w.heap.size ≤ k_)) ho43 (by first | exact HK.out.1 | exact (show Kept w _ (fun k_ => P3_ k_) from by repeat (first | (with_reducible first | exact HK.out | apply Kept.alloc | apply Kept.drewN | apply Kept.drew | refine Kept.setCell ?_ (.inr GW355.out) _) | exact HK.out)).1) (fun k_ h_ => .inr h_)) (Kd.R_lt (Kd.Yz HO_3.out))) (Kd.R_lt (Kd.Yz HO_10.out))) (Kd.R_lt (Kd.Yz HO367.out))) (below_size (by repeat (first | (with_reducible first | exact HB.out | apply yea | apply yen | apply yed | refine below_set ?_ GE355.out) | exact HB.out))))
      have n4_ := yam (blk_below (g := gb355) (o := .cells #[.int .i64 a0_0, .slice (some ad360) l0_1.length c0_1, .int .i64 a0_2] 73 (0, 0)) (ybz BK355.out) hb)
      have n5_ := yam (Kept.below (S := (fun k_ => P3_ k_)) (by repeat (first | (with_reducible first | exact HK.out | apply Kept.alloc | apply Kept.drewN | apply Kept.drew | refine Kept.setCell ?_ (.inr GW355.out) _) | exact HK.out)) hb)
      have n6_ := yam (below_step (by repeat (first | (with_reducible first | exact HB.out | apply yea | apply yen | apply yed | refine below_set ?_ GE355.out) | exact HB.out)) hb)
      clear HO_3
      clear HO_10
      clear HO367
      clear BK355
      clear HK
      clear HB
      have HO_3 := n0_
      have HO_10 := n1_
      have HO367 := n2_
      have HO374 := n3_
      have BK355 := n4_
      have HK := n5_
      have HB := n6_
      clear n0_ n1_ n2_ n3_ n4_ n5_ n6_
      clear hb ho43
      refine hK.out _ _ ⟨(blk_cell BK355.out 0).trans rfl, (blk_cell BK355.out 1).trans rfl, (blk_cell BK355.out 2).trans rfl, HS3_⟩ (fun hHeld => ?_)
      clear hK K
      refine norm_ (a' := ?_) ?_ ?_
      rotate_left
      ·show Act.put _ (some 64) _ = _
       simp only [Act.put, yps, i64_w, i32_w]
       rfl
      refine one_ (i := 4) (N := some 59) #[true, true, true, true, true, true, true, true, true, true, false, true, false] rfl rfl (one_of HT_.out (by kernel_rfl)) (by decide) (fun K hK => ?_)
      refine Kd.R_append_rows_step (Kd.int .i64) (w0 := w0) w0.heap.size (by rfl) (.tmp 57) (.tmp 58) 22 3 (.int .i64 0) 8 rfl Try.underlying22 info3 rfl (by decide) (by omega) v366 y365 l2 _ _ _ (fun k_ => (P3_ k_ ∨ w.heap.size ≤ k_) ∧ some k_ ≠ (.slice Ao38 x3_1.length co38 : Value).ownBlock ∧ some k_ ≠ (.slice (some ad371) t362.length co37 : Value).ownBlock ∧ some k_ ≠ (v373 : Value).ownBlock) (fun _ => False) rfl rfl ?aO ?aR (fun _ _ h => h) (fun _ h => h.elim) ?aF ?aB ?aS ?aL ?_
      (case aR => exact Kd.C_kept_now HR2.out (by repeat (first | (with_reducible first | exact HK.out | apply Kept.alloc | apply Kept.drewN | apply Kept.drew | refine Kept.setCell ?_ (.inr GW355.out) _) | exact HK.out)))
      (case aB => exact (by repeat (first | (with_reducible first | exact HB.out | apply yea | apply yen | apply yed | refine below_set ?_ GE355.out) | exact HB.out)))
      (case aF => exact (fun k_ hk => ⟨(.inr (Nat.le_trans (by first | exact HK.out.1 | exact (show Kept w _ (fun k_ => P3_ k_) from by repeat (first | (with_reducible first | exact HK.out | apply Kept.alloc | apply Kept.drewN | apply Kept.drew | refine Kept.setCell ?_ (.inr GW355.out) _) | exact HK.out)).1) hk)), Kd.fresh' (Kd.R_lt (Kd.Yz HO_3.out)) k_ hk, Kd.fresh' (Kd.R_lt (Kd.Yz HO_10.out)) k_ hk, Kd.fresh' (Kd.R_lt (Kd.Yz HO374.out)) k_ hk⟩))
      (case aO => exact (by (with_reducible repeat (first | apply Kd.Ya | apply Kd.Yn | apply Kd.Yd)); exact Kd.R_mono HO367.out (fun _ hk => ⟨hk.1.1.1.1, ⟨hk.1.1.2, ⟨hk.1.2, hk.2⟩⟩⟩)))
      (case aS => exact (below_size (by repeat (first | (with_reducible first | exact HB.out | apply yea | apply yen | apply yed | refine below_set ?_ GE355.out) | exact HB.out))))
      (case aL => have := LMc33.out; omega)
      intro v369 w44 ho hb hg hat
      have HS3_ := cell_grown hg (hHeld.2.2.2) (by first | (rw [add_block]; exact (fun e_ => (by first | exact (HO367.out.1 _ e_.symm) rfl | exact (HO367.out.1 _ e_.symm).1 rfl | exact (HO367.out.1 _ e_.symm).2 rfl | exact (HO367.out.1 _ e_.symm).1.1 rfl | exact (HO367.out.1 _ e_.symm).1.2 rfl | exact (HO367.out.1 _ e_.symm).2.1 rfl | exact (HO367.out.1 _ e_.symm).2.2 rfl | exact (HO367.out.1 _ e_.symm).1.1.1 rfl | exact (HO367.out.1 _ e_.symm).1.1.2 rfl | exact (HO367.out.1 _ e_.symm).1.2.1 rfl | exact (HO367.out.1 _ e_.symm).1.2.2 rfl | exact (HO367.out.1 _ e_.symm).2.1.1 rfl | exact (HO367.out.1 _ e_.symm).2.1.2 rfl | exact (HO367.out.1 _ e_.symm).2.2.1 rfl | exact (HO367.out.1 _ e_.symm).2.2.2 rfl | exact (HO367.out.1 _ e_.symm).1.1.1.1 rfl | exact (HO367.out.1 _ e_.symm).1.1.1.2 rfl | exact (HO367.out.1 _ e_.symm).1.1.2.1 rfl | exact (HO367.out.1 _ e_.symm).1.1.2.2 rfl | exact (HO367.out.1 _ e_.symm).1.2.1.1 rfl | exact (HO367.out.1 _ e_.symm).1.2.1.2 rfl | exact (HO367.out.1 _ e_.symm).1.2.2.1 rfl | exact (HO367.out.1 _ e_.symm).1.2.2.2 rfl | exact (HO367.out.1 _ e_.symm).2.1.1.1 rfl | exact (HO367.out.1 _ e_.symm).2.1.1.2 rfl | exact (HO367.out.1 _ e_.symm).2.1.2.1 rfl | exact (HO367.out.1 _ e_.symm).2.1.2.2 rfl | exact (HO367.out.1 _ e_.symm).2.2.1.1 rfl | exact (HO367.out.1 _ e_.symm).2.2.1.2 rfl | exact (HO367.out.1 _ e_.symm).2.2.2.1 rfl | exact (HO367.out.1 _ e_.symm).2.2.2.2 rfl))) | (show some (Addr.add _ _).block ≠ _; rw [add_block]; exact (fun e_ => (by first | exact (HO367.out.1 _ e_.symm) rfl | exact (HO367.out.1 _ e_.symm).1 rfl | exact (HO367.out.1 _ e_.symm).2 rfl | exact (HO367.out.1 _ e_.symm).1.1 rfl | exact (HO367.out.1 _ e_.symm).1.2 rfl | exact (HO367.out.1 _ e_.symm).2.1 rfl | exact (HO367.out.1 _ e_.symm).2.2 rfl | exact (HO367.out.1 _ e_.symm).1.1.1 rfl | exact (HO367.out.1 _ e_.symm).1.1.2 rfl | exact (HO367.out.1 _ e_.symm).1.2.1 rfl | exact (HO367.out.1 _ e_.symm).1.2.2 rfl | exact (HO367.out.1 _ e_.symm).2.1.1 rfl | exact (HO367.out.1 _ e_.symm).2.1.2 rfl | exact (HO367.out.1 _ e_.symm).2.2.1 rfl | exact (HO367.out.1 _ e_.symm).2.2.2 rfl | exact (HO367.out.1 _ e_.symm).1.1.1.1 rfl | exact (HO367.out.1 _ e_.symm).1.1.1.2 rfl | exact (HO367.out.1 _ e_.symm).1.1.2.1 rfl | exact (HO367.out.1 _ e_.symm).1.1.2.2 rfl | exact (HO367.out.1 _ e_.symm).1.2.1.1 rfl | exact (HO367.out.1 _ e_.symm).1.2.1.2 rfl | exact (HO367.out.1 _ e_.symm).1.2.2.1 rfl | exact (HO367.out.1 _ e_.symm).1.2.2.2 rfl | exact (HO367.out.1 _ e_.symm).2.1.1.1 rfl | exact (HO367.out.1 _ e_.symm).2.1.1.2 rfl | exact (HO367.out.1 _ e_.symm).2.1.2.1 rfl | exact (HO367.out.1 _ e_.symm).2.1.2.2 rfl | exact (HO367.out.1 _ e_.symm).2.2.1.1 rfl | exact (HO367.out.1 _ e_.symm).2.2.1.2 rfl | exact (HO367.out.1 _ e_.symm).2.2.2.1 rfl | exact (HO367.out.1 _ e_.symm).2.2.2.2 rfl))) | exact (fun e_ => (by first | exact (HO367.out.1 _ e_.symm) rfl | exact (HO367.out.1 _ e_.symm).1 rfl | exact (HO367.out.1 _ e_.symm).2 rfl | exact (HO367.out.1 _ e_.symm).1.1 rfl | exact (HO367.out.1 _ e_.symm).1.2 rfl | exact (HO367.out.1 _ e_.symm).2.1 rfl | exact (HO367.out.1 _ e_.symm).2.2 rfl | exact (HO367.out.1 _ e_.symm).1.1.1 rfl | exact (HO367.out.1 _ e_.symm).1.1.2 rfl | exact (HO367.out.1 _ e_.symm).1.2.1 rfl | exact (HO367.out.1 _ e_.symm).1.2.2 rfl | exact (HO367.out.1 _ e_.symm).2.1.1 rfl | exact (HO367.out.1 _ e_.symm).2.1.2 rfl | exact (HO367.out.1 _ e_.symm).2.2.1 rfl | exact (HO367.out.1 _ e_.symm).2.2.2 rfl | exact (HO367.out.1 _ e_.symm).1.1.1.1 rfl | exact (HO367.out.1 _ e_.symm).1.1.1.2 rfl | exact (HO367.out.1 _ e_.symm).1.1.2.1 rfl | exact (HO367.out.1 _ e_.symm).1.1.2.2 rfl | exact (HO367.out.1 _ e_.symm).1.2.1.1 rfl | exact (HO367.out.1 _ e_.symm).1.2.1.2 rfl | exact (HO367.out.1 _ e_.symm).1.2.2.1 rfl | exact (HO367.out.1 _ e_.symm).1.2.2.2 rfl | exact (HO367.out.1 _ e_.symm).2.1.1.1 rfl | exact (HO367.out.1 _ e_.symm).2.1.1.2 rfl | exact (HO367.out.1 _ e_.symm).2.1.2.1 rfl | exact (HO367.out.1 _ e_.symm).2.1.2.2 rfl | exact (HO367.out.1 _ e_.symm).2.2.1.1 rfl | exact (HO367.out.1 _ e_.symm).2.2.1.2 rfl | exact (HO367.out.1 _ e_.symm).2.2.2.1 rfl | exact (HO367.out.1 _ e_.symm).2.2.2.2 rfl)))
      rw [← Ny368.out] at ho
      have n0_ := yam (Kd.R_after (ok := (fun k_ => (P3_ k_ ∨ w.heap.size ≤ k_) ∧ some k_ ≠ (.slice (some ad371) t362.length co37 : Value).ownBlock ∧ some k_ ≠ (v373 : Value).ownBlock)) (by (with_reducible repeat (first | apply Kd.Ya | apply Kd.Yn | apply Kd.Yd)); exact Kd.R_mono HO_3.out (fun _ hk => ⟨⟨hk.1.1.1, ⟨hk.1.1.2, hk.2⟩⟩, hk.1.2⟩)) hg hat)
      have n1_ := yam (Kd.R_after (ok := (fun k_ => (P3_ k_ ∨ w.heap.size ≤ k_) ∧ some k_ ≠ (.slice Ao38 x3_1.length co38 : Value).ownBlock ∧ some k_ ≠ (v373 : Value).ownBlock)) (by (with_reducible repeat (first | apply Kd.Ya | apply Kd.Yn | apply Kd.Yd)); exact Kd.R_mono HO_10.out (fun _ hk => ⟨⟨hk.1.1.1, ⟨hk.1.1.2, hk.2⟩⟩, hk.1.2⟩)) hg hat)
      have n2_ := yam (blk_grown (g := gb355) (o := .cells #[.int .i64 a0_0, .slice (some ad360) l0_1.length c0_1, .int .i64 a0_2] 73 (0, 0)) (ybz BK355.out) hg (Kd.R_ne HO367.out BK355.out (by decide)))
      have n3_ := yam (Kd.R_after (ok := (fun k_ => (P3_ k_ ∨ w.heap.size ≤ k_) ∧ some k_ ≠ (.slice Ao38 x3_1.length co38 : Value).ownBlock ∧ some k_ ≠ (.slice (some ad371) t362.length co37 : Value).ownBlock)) (by (with_reducible repeat (first | apply Kd.Ya | apply Kd.Yn | apply Kd.Yd)); exact Kd.R_mono HO374.out (fun _ hk => ⟨⟨hk.1.1.1.1, ⟨hk.1.1.2, hk.1.2⟩⟩, hk.2⟩)) hg hat)
      have n4_ := yam (hb)
      have n5_ := yam (Kept.of_grown (S := (fun k_ => P3_ k_)) hg (by repeat (first | (with_reducible first | exact HK.out | apply Kept.alloc | apply Kept.drewN | apply Kept.drew | refine Kept.setCell ?_ (.inr GW355.out) _) | exact HK.out)) (fun k_ e_ => (HO367.out.1 k_ e_).1.1.1.1))
      have n6_ := yam (ho)
      clear HO_3
      clear HO_10
      clear BK355
      clear HO374
      clear HB
      clear HK
      clear HO367
      have HO_3 := n0_
      have HO_10 := n1_
      have BK355 := n2_
      have HO374 := n3_
      have HB := n4_
      have HK := n5_
      have HO370 := n6_
      clear n0_ n1_ n2_ n3_ n4_ n5_ n6_
      clear ho hb hg hat
      refine hK.out _ _ ⟨(blk_cell BK355.out 0).trans rfl, (blk_cell BK355.out 1).trans rfl, (blk_cell BK355.out 2).trans rfl, HS3_⟩ (fun hHeld => ?_)
      clear hK K
      refine norm_ (a' := ?_) ?_ ?_
      rotate_left
      ·show Act.put _ (some 59) _ = _
       simp only [Act.put, yps, i64_w, i32_w]
       rfl
      exact norm_ (by simp only [putAll, Act.put, yps]) (hCont (v366, v369, v373) _ ⟨hHeld, (by (with_reducible repeat (first | apply Kd.Ya | apply Kd.Yn | apply Kd.Yd)); exact Kd.R_mono HO370.out (fun _ hk => ⟨hk.1, ⟨hk.2.2.2, ⟨hk.2.2.1, hk.2.1⟩⟩⟩)), (by (with_reducible repeat (first | apply Kd.Ya | apply Kd.Yn | apply Kd.Yd)); exact Kd.R_mono HO374.out (fun _ hk => ⟨hk.1.1, ⟨hk.2, ⟨hk.1.2.2, hk.1.2.1⟩⟩⟩)), (by (with_reducible repeat (first | apply Kd.Ya | apply Kd.Yn | apply Kd.Yd)); exact Kd.R_mono HO_10.out (fun _ hk => ⟨hk.1.1, ⟨hk.2, ⟨hk.1.2.2, hk.1.2.1⟩⟩⟩)), (by (with_reducible repeat (first | apply Kd.Ya | apply Kd.Yn | apply Kd.Yd)); exact Kd.R_mono HO_3.out (fun _ hk => ⟨hk.1.1, ⟨hk.2, ⟨hk.1.2.2, hk.1.2.1⟩⟩⟩)), (ybz BK355.out), (by repeat (first | (with_reducible first | exact HK.out | apply Kept.alloc | apply Kept.drewN | apply Kept.drew | refine Kept.setCell ?_ (.inr GW355.out) _) | exact HK.out)), (by repeat (first | (with_reducible first | exact HB.out | apply yea | apply yen | apply yed | refine below_set ?_ GE355.out) | exact HB.out))⟩)
    ·skip
     refine Kd.R_lit_step (Kd.int .i64) _ 3 ?hg (N := 64) ?hd (xs := ([rd t362 x11_1] : List Int)) (inner := [.int .i64 (rd t362 x11_1)]) (ok := fun _ => True) (okp := fun _ => True) ?hr ?hp (fun _ hk => hk) trivial (Below.refl _ _) (Nat.le_refl _) (by simp) ?_; (case hd => rfl); (case hg => rfl); (case hr => first | (go_simp; done) | (go_simp; rfl)); (case hp => exact (Reps.one (show Kd.M (Kd.int .i64) _ _ _ (rd t362 x11_1) [.int .i64 (rd t362 x11_1)] from rfl) (Reps.none _ _)))
     intro v373 w40 ho41 hb hg_ hnew_
     have HS3_ := (hb.cell (World.block_lt_of_cell? _ _ (hHeld.2.2.2))).trans (hHeld.2.2.2)
     clear hg_ hnew_
     (first | rw [← Ny372.out] at ho41 | (simp only [Int.reduceToNat] at ho41; rw [← Ny372.out] at ho41))
     have n0_ := yam (Kd.Ye (Kd.Yz HO_3.out) (Kd.Yb ho41) hb)
     have n1_ := yam (Kd.Ye (Kd.Yz HO_10.out) (Kd.Yb ho41) hb)
     have n2_ := yam (Kd.R_lower (Kd.Yw (Kd.Yw (Kd.R_newM (M := fun k_ => (P3_ k_ ∨ w.heap.size ≤ k_)) ho41 (by first | exact HK.out.1 | exact (show Kept w _ (fun k_ => P3_ k_) from by repeat (first | (with_reducible first | exact HK.out | apply Kept.alloc | apply Kept.drewN | apply Kept.drew | refine Kept.setCell ?_ (.inr GW355.out) _) | exact HK.out)).1) (fun k_ h_ => .inr h_)) (Kd.R_lt (Kd.Yz HO_3.out))) (Kd.R_lt (Kd.Yz HO_10.out))) (below_size (by repeat (first | (with_reducible first | exact HB.out | apply yea | apply yen | apply yed | refine below_set ?_ GE355.out) | exact HB.out))))
     have n3_ := yam (blk_below (g := gb355) (o := .cells #[.int .i64 a0_0, .slice (some ad360) l0_1.length c0_1, .int .i64 a0_2] 73 (0, 0)) (ybz BK355.out) hb)
     have n4_ := yam (Kept.below (S := (fun k_ => P3_ k_)) (by repeat (first | (with_reducible first | exact HK.out | apply Kept.alloc | apply Kept.drewN | apply Kept.drew | refine Kept.setCell ?_ (.inr GW355.out) _) | exact HK.out)) hb)
     have n5_ := yam (below_step (by repeat (first | (with_reducible first | exact HB.out | apply yea | apply yen | apply yed | refine below_set ?_ GE355.out) | exact HB.out)) hb)
     clear HO_3
     clear HO_10
     clear BK355
     clear HK
     clear HB
     have HO_3 := n0_
     have HO_10 := n1_
     have HO374 := n2_
     have BK355 := n3_
     have HK := n4_
     have HB := n5_
     clear n0_ n1_ n2_ n3_ n4_ n5_
     clear hb ho41
     refine hK.out _ _ ⟨(blk_cell BK355.out 0).trans rfl, (blk_cell BK355.out 1).trans rfl, (blk_cell BK355.out 2).trans rfl, HS3_⟩ (fun hHeld => ?_)
     clear hK K
     refine norm_ (a' := ?_) ?_ ?_
     rotate_left
     ·show Act.put _ (some 64) _ = _
      simp only [Act.put, yps, i64_w, i32_w]
      rfl
     refine one_ (i := 2) (N := some 57) #[true, true, true, true, false, true, true, true, true, true, false, true, false] rfl rfl (one_of HT_.out (by kernel_rfl)) (by decide) (fun K hK => ?_)
     refine Kd.R_lit_step (Kd.int .i64) _ 3 ?hg (N := 57) ?hd (xs := ([] : List Int)) (inner := []) (ok := fun _ => True) (okp := fun _ => True) ?hr ?hp (fun _ hk => hk) trivial (Below.refl _ _) (Nat.le_refl _) (by simp) ?_; (case hd => rfl); (case hg => rfl); (case hr => first | (go_simp; done) | (go_simp; rfl)); (case hp => exact (Reps.none _ _))
     intro v366 w42 ho43 hb hg_ hnew_
     have HS3_ := (hb.cell (World.block_lt_of_cell? _ _ (hHeld.2.2.2))).trans (hHeld.2.2.2)
     clear hg_ hnew_
     (first | rw [← Ny365.out] at ho43 | (simp only [Int.reduceToNat] at ho43; rw [← Ny365.out] at ho43))
     have n0_ := yam (Kd.Ye (Kd.Yz HO_3.out) (Kd.Yb ho43) hb)
     have n1_ := yam (Kd.Ye (Kd.Yz HO_10.out) (Kd.Yb ho43) hb)
     have n2_ := yam (Kd.Ye (Kd.Yz HO374.out) (Kd.Yb ho43) hb)
     have n3_ := yam (Kd.R_lower (Kd.Yw (Kd.Yw (Kd.Yw (Kd.R_newM (M := fun k_ => (P3_ k_ ∨ w.heap.size ≤ k_)) ho43 (by first | exact HK.out.1 | exact (show Kept w _ (fun k_ => P3_ k_) from by repeat (first | (with_reducible first | exact HK.out | apply Kept.alloc | apply Kept.drewN | apply Kept.drew | refine Kept.setCell ?_ (.inr GW355.out) _) | exact HK.out)).1) (fun k_ h_ => .inr h_)) (Kd.R_lt (Kd.Yz HO_3.out))) (Kd.R_lt (Kd.Yz HO_10.out))) (Kd.R_lt (Kd.Yz HO374.out))) (below_size (by repeat (first | (with_reducible first | exact HB.out | apply yea | apply yen | apply yed | refine below_set ?_ GE355.out) | exact HB.out))))
     have n4_ := yam (blk_below (g := gb355) (o := .cells #[.int .i64 a0_0, .slice (some ad360) l0_1.length c0_1, .int .i64 a0_2] 73 (0, 0)) (ybz BK355.out) hb)
     have n5_ := yam (Kept.below (S := (fun k_ => P3_ k_)) (by repeat (first | (with_reducible first | exact HK.out | apply Kept.alloc | apply Kept.drewN | apply Kept.drew | refine Kept.setCell ?_ (.inr GW355.out) _) | exact HK.out)) hb)
     have n6_ := yam (below_step (by repeat (first | (with_reducible first | exact HB.out | apply yea | apply yen | apply yed | refine below_set ?_ GE355.out) | exact HB.out)) hb)
     clear HO_3
     clear HO_10
     clear HO374
     clear BK355
     clear HK
     clear HB
     have HO_3 := n0_
     have HO_10 := n1_
     have HO374 := n2_
     have HO367 := n3_
     have BK355 := n4_
     have HK := n5_
     have HB := n6_
     clear n0_ n1_ n2_ n3_ n4_ n5_ n6_
     clear hb ho43
     refine hK.out _ _ ⟨(blk_cell BK355.out 0).trans rfl, (blk_cell BK355.out 1).trans rfl, (blk_cell BK355.out 2).trans rfl, HS3_⟩ (fun hHeld => ?_)
     clear hK K
     refine norm_ (a' := ?_) ?_ ?_
     rotate_left
     ·show Act.put _ (some 57) _ = _
      simp only [Act.put, yps, i64_w, i32_w]
      rfl
     refine one_ (i := 4) (N := some 59) #[true, true, true, true, true, true, true, true, true, true, false, true, false] rfl rfl (one_of HT_.out (by kernel_rfl)) (by decide) (fun K hK => ?_)
     refine Kd.R_append_rows_step (Kd.int .i64) (w0 := w0) w0.heap.size (by rfl) (.tmp 57) (.tmp 58) 22 3 (.int .i64 0) 8 rfl Try.underlying22 info3 rfl (by decide) (by omega) v366 y365 l2 _ _ _ (fun k_ => (P3_ k_ ∨ w.heap.size ≤ k_) ∧ some k_ ≠ (.slice Ao38 x3_1.length co38 : Value).ownBlock ∧ some k_ ≠ (.slice (some ad371) t362.length co37 : Value).ownBlock ∧ some k_ ≠ (v373 : Value).ownBlock) (fun _ => False) rfl rfl ?aO ?aR (fun _ _ h => h) (fun _ h => h.elim) ?aF ?aB ?aS ?aL ?_
     (case aR => exact Kd.C_kept_now HR2.out (by repeat (first | (with_reducible first | exact HK.out | apply Kept.alloc | apply Kept.drewN | apply Kept.drew | refine Kept.setCell ?_ (.inr GW355.out) _) | exact HK.out)))
     (case aB => exact (by repeat (first | (with_reducible first | exact HB.out | apply yea | apply yen | apply yed | refine below_set ?_ GE355.out) | exact HB.out)))
     (case aF => exact (fun k_ hk => ⟨(.inr (Nat.le_trans (by first | exact HK.out.1 | exact (show Kept w _ (fun k_ => P3_ k_) from by repeat (first | (with_reducible first | exact HK.out | apply Kept.alloc | apply Kept.drewN | apply Kept.drew | refine Kept.setCell ?_ (.inr GW355.out) _) | exact HK.out)).1) hk)), Kd.fresh' (Kd.R_lt (Kd.Yz HO_3.out)) k_ hk, Kd.fresh' (Kd.R_lt (Kd.Yz HO_10.out)) k_ hk, Kd.fresh' (Kd.R_lt (Kd.Yz HO374.out)) k_ hk⟩))
     (case aO => exact (by (with_reducible repeat (first | apply Kd.Ya | apply Kd.Yn | apply Kd.Yd)); exact Kd.R_mono HO367.out (fun _ hk => ⟨hk.1.1.1.1, ⟨hk.1.1.2, ⟨hk.1.2, hk.2⟩⟩⟩)))
     (case aS => exact (below_size (by repeat (first | (with_reducible first | exact HB.out | apply yea | apply yen | apply yed | refine below_set ?_ GE355.out) | exact HB.out))))
     (case aL => have := LMc33.out; omega)
     intro v369 w44 ho hb hg hat
     have HS3_ := cell_grown hg (hHeld.2.2.2) (by first | (rw [add_block]; exact (fun e_ => (by first | exact (HO367.out.1 _ e_.symm) rfl | exact (HO367.out.1 _ e_.symm).1 rfl | exact (HO367.out.1 _ e_.symm).2 rfl | exact (HO367.out.1 _ e_.symm).1.1 rfl | exact (HO367.out.1 _ e_.symm).1.2 rfl | exact (HO367.out.1 _ e_.symm).2.1 rfl | exact (HO367.out.1 _ e_.symm).2.2 rfl | exact (HO367.out.1 _ e_.symm).1.1.1 rfl | exact (HO367.out.1 _ e_.symm).1.1.2 rfl | exact (HO367.out.1 _ e_.symm).1.2.1 rfl | exact (HO367.out.1 _ e_.symm).1.2.2 rfl | exact (HO367.out.1 _ e_.symm).2.1.1 rfl | exact (HO367.out.1 _ e_.symm).2.1.2 rfl | exact (HO367.out.1 _ e_.symm).2.2.1 rfl | exact (HO367.out.1 _ e_.symm).2.2.2 rfl | exact (HO367.out.1 _ e_.symm).1.1.1.1 rfl | exact (HO367.out.1 _ e_.symm).1.1.1.2 rfl | exact (HO367.out.1 _ e_.symm).1.1.2.1 rfl | exact (HO367.out.1 _ e_.symm).1.1.2.2 rfl | exact (HO367.out.1 _ e_.symm).1.2.1.1 rfl | exact (HO367.out.1 _ e_.symm).1.2.1.2 rfl | exact (HO367.out.1 _ e_.symm).1.2.2.1 rfl | exact (HO367.out.1 _ e_.symm).1.2.2.2 rfl | exact (HO367.out.1 _ e_.symm).2.1.1.1 rfl | exact (HO367.out.1 _ e_.symm).2.1.1.2 rfl | exact (HO367.out.1 _ e_.symm).2.1.2.1 rfl | exact (HO367.out.1 _ e_.symm).2.1.2.2 rfl | exact (HO367.out.1 _ e_.symm).2.2.1.1 rfl | exact (HO367.out.1 _ e_.symm).2.2.1.2 rfl | exact (HO367.out.1 _ e_.symm).2.2.2.1 rfl | exact (HO367.out.1 _ e_.symm).2.2.2.2 rfl))) | (show some (Addr.add _ _).block ≠ _; rw [add_block]; exact (fun e_ => (by first | exact (HO367.out.1 _ e_.symm) rfl | exact (HO367.out.1 _ e_.symm).1 rfl | exact (HO367.out.1 _ e_.symm).2 rfl | exact (HO367.out.1 _ e_.symm).1.1 rfl | exact (HO367.out.1 _ e_.symm).1.2 rfl | exact (HO367.out.1 _ e_.symm).2.1 rfl | exact (HO367.out.1 _ e_.symm).2.2 rfl | exact (HO367.out.1 _ e_.symm).1.1.1 rfl | exact (HO367.out.1 _ e_.symm).1.1.2 rfl | exact (HO367.out.1 _ e_.symm).1.2.1 rfl | exact (HO367.out.1 _ e_.symm).1.2.2 rfl | exact (HO367.out.1 _ e_.symm).2.1.1 rfl | exact (HO367.out.1 _ e_.symm).2.1.2 rfl | exact (HO367.out.1 _ e_.symm).2.2.1 rfl | exact (HO367.out.1 _ e_.symm).2.2.2 rfl | exact (HO367.out.1 _ e_.symm).1.1.1.1 rfl | exact (HO367.out.1 _ e_.symm).1.1.1.2 rfl | exact (HO367.out.1 _ e_.symm).1.1.2.1 rfl | exact (HO367.out.1 _ e_.symm).1.1.2.2 rfl | exact (HO367.out.1 _ e_.symm).1.2.1.1 rfl | exact (HO367.out.1 _ e_.symm).1.2.1.2 rfl | exact (HO367.out.1 _ e_.symm).1.2.2.1 rfl | exact (HO367.out.1 _ e_.symm).1.2.2.2 rfl | exact (HO367.out.1 _ e_.symm).2.1.1.1 rfl | exact (HO367.out.1 _ e_.symm).2.1.1.2 rfl | exact (HO367.out.1 _ e_.symm).2.1.2.1 rfl | exact (HO367.out.1 _ e_.symm).2.1.2.2 rfl | exact (HO367.out.1 _ e_.symm).2.2.1.1 rfl | exact (HO367.out.1 _ e_.symm).2.2.1.2 rfl | exact (HO367.out.1 _ e_.symm).2.2.2.1 rfl | exact (HO367.out.1 _ e_.symm).2.2.2.2 rfl))) | exact (fun e_ => (by first | exact (HO367.out.1 _ e_.symm) rfl | exact (HO367.out.1 _ e_.symm).1 rfl | exact (HO367.out.1 _ e_.symm).2 rfl | exact (HO367.out.1 _ e_.symm).1.1 rfl | exact (HO367.out.1 _ e_.symm).1.2 rfl | exact (HO367.out.1 _ e_.symm).2.1 rfl | exact (HO367.out.1 _ e_.symm).2.2 rfl | exact (HO367.out.1 _ e_.symm).1.1.1 rfl | exact (HO367.out.1 _ e_.symm).1.1.2 rfl | exact (HO367.out.1 _ e_.symm).1.2.1 rfl | exact (HO367.out.1 _ e_.symm).1.2.2 rfl | exact (HO367.out.1 _ e_.symm).2.1.1 rfl | exact (HO367.out.1 _ e_.symm).2.1.2 rfl | exact (HO367.out.1 _ e_.symm).2.2.1 rfl | exact (HO367.out.1 _ e_.symm).2.2.2 rfl | exact (HO367.out.1 _ e_.symm).1.1.1.1 rfl | exact (HO367.out.1 _ e_.symm).1.1.1.2 rfl | exact (HO367.out.1 _ e_.symm).1.1.2.1 rfl | exact (HO367.out.1 _ e_.symm).1.1.2.2 rfl | exact (HO367.out.1 _ e_.symm).1.2.1.1 rfl | exact (HO367.out.1 _ e_.symm).1.2.1.2 rfl | exact (HO367.out.1 _ e_.symm).1.2.2.1 rfl | exact (HO367.out.1 _ e_.symm).1.2.2.2 rfl | exact (HO367.out.1 _ e_.symm).2.1.1.1 rfl | exact (HO367.out.1 _ e_.symm).2.1.1.2 rfl | exact (HO367.out.1 _ e_.symm).2.1.2.1 rfl | exact (HO367.out.1 _ e_.symm).2.1.2.2 rfl | exact (HO367.out.1 _ e_.symm).2.2.1.1 rfl | exact (HO367.out.1 _ e_.symm).2.2.1.2 rfl | exact (HO367.out.1 _ e_.symm).2.2.2.1 rfl | exact (HO367.out.1 _ e_.symm).2.2.2.2 rfl)))
     rw [← Ny368.out] at ho
     have n0_ := yam (Kd.R_after (ok := (fun k_ => (P3_ k_ ∨ w.heap.size ≤ k_) ∧ some k_ ≠ (.slice (some ad371) t362.length co37 : Value).ownBlock ∧ some k_ ≠ (v373 : Value).ownBlock)) (by (with_reducible repeat (first | apply Kd.Ya | apply Kd.Yn | apply Kd.Yd)); exact Kd.R_mono HO_3.out (fun _ hk => ⟨⟨hk.1.1.1, ⟨hk.1.1.2, hk.1.2⟩⟩, hk.2⟩)) hg hat)
     have n1_ := yam (Kd.R_after (ok := (fun k_ => (P3_ k_ ∨ w.heap.size ≤ k_) ∧ some k_ ≠ (.slice Ao38 x3_1.length co38 : Value).ownBlock ∧ some k_ ≠ (v373 : Value).ownBlock)) (by (with_reducible repeat (first | apply Kd.Ya | apply Kd.Yn | apply Kd.Yd)); exact Kd.R_mono HO_10.out (fun _ hk => ⟨⟨hk.1.1.1, ⟨hk.1.1.2, hk.1.2⟩⟩, hk.2⟩)) hg hat)
     have n2_ := yam (blk_grown (g := gb355) (o := .cells #[.int .i64 a0_0, .slice (some ad360) l0_1.length c0_1, .int .i64 a0_2] 73 (0, 0)) (ybz BK355.out) hg (Kd.R_ne HO367.out BK355.out (by decide)))
     have n3_ := yam (Kd.R_after (ok := (fun k_ => (P3_ k_ ∨ w.heap.size ≤ k_) ∧ some k_ ≠ (.slice Ao38 x3_1.length co38 : Value).ownBlock ∧ some k_ ≠ (.slice (some ad371) t362.length co37 : Value).ownBlock)) (by (with_reducible repeat (first | apply Kd.Ya | apply Kd.Yn | apply Kd.Yd)); exact Kd.R_mono HO374.out (fun _ hk => ⟨⟨hk.1.1.1.1, ⟨hk.1.1.2, hk.1.2⟩⟩, hk.2⟩)) hg hat)
     have n4_ := yam (hb)
     have n5_ := yam (Kept.of_grown (S := (fun k_ => P3_ k_)) hg (by repeat (first | (with_reducible first | exact HK.out | apply Kept.alloc | apply Kept.drewN | apply Kept.drew | refine Kept.setCell ?_ (.inr GW355.out) _) | exact HK.out)) (fun k_ e_ => (HO367.out.1 k_ e_).1.1.1.1))
     have n6_ := yam (ho)
     clear HO_3
     clear HO_10
     clear BK355
     clear HO374
     clear HB
     clear HK
     clear HO367
     have HO_3 := n0_
     have HO_10 := n1_
     have BK355 := n2_
     have HO374 := n3_
     have HB := n4_
     have HK := n5_
     have HO370 := n6_
     clear n0_ n1_ n2_ n3_ n4_ n5_ n6_
     clear ho hb hg hat
     refine hK.out _ _ ⟨(blk_cell BK355.out 0).trans rfl, (blk_cell BK355.out 1).trans rfl, (blk_cell BK355.out 2).trans rfl, HS3_⟩ (fun hHeld => ?_)
     clear hK K
     refine norm_ (a' := ?_) ?_ ?_
     rotate_left
     ·show Act.put _ (some 59) _ = _
      simp only [Act.put, yps, i64_w, i32_w]
      rfl
     exact norm_ (by simp only [putAll, Act.put, yps]) (hCont (v366, v369, v373) _ ⟨hHeld, (by (with_reducible repeat (first | apply Kd.Ya | apply Kd.Yn | apply Kd.Yd)); exact Kd.R_mono HO370.out (fun _ hk => ⟨hk.1, ⟨hk.2.2.2, ⟨hk.2.2.1, hk.2.1⟩⟩⟩)), (by (with_reducible repeat (first | apply Kd.Ya | apply Kd.Yn | apply Kd.Yd)); exact Kd.R_mono HO374.out (fun _ hk => ⟨hk.1.1, ⟨hk.2, ⟨hk.1.2.2, hk.1.2.1⟩⟩⟩)), (by (with_reducible repeat (first | apply Kd.Ya | apply Kd.Yn | apply Kd.Yd)); exact Kd.R_mono HO_10.out (fun _ hk => ⟨hk.1.1, ⟨hk.2, ⟨hk.1.2.2, hk.1.2.1⟩⟩⟩)), (by (with_reducible repeat (first | apply Kd.Ya | apply Kd.Yn | apply Kd.Yd)); exact Kd.R_mono HO_3.out (fun _ hk => ⟨hk.1.1, ⟨hk.2, ⟨hk.1.2.2, hk.1.2.1⟩⟩⟩)), (ybz BK355.out), (by repeat (first | (with_reducible first | exact HK.out | apply Kept.alloc | apply Kept.drewN | apply Kept.drew | refine Kept.setCell ?_ (.inr GW355.out) _) | exact HK.out)), (by repeat (first | (with_reducible first | exact HB.out | apply yea | apply yen | apply yed | refine below_set ?_ GE355.out) | exact HB.out))⟩)
   rintro ⟨v366, v369, v373⟩ w45 ⟨hS_, h0_, h1_, h2_, h3_, h4_, h5_, h6_⟩
   have n0_ : Aside0 (Kd.R (Kd.int .i64) 3 w45 w0.heap.size (fun k_ => (P3_ k_ ∨ w.heap.size ≤ k_) ∧ some k_ ≠ (v373 : Value).ownBlock ∧ some k_ ≠ (.slice (some ad371) t362.length co37 : Value).ownBlock ∧ some k_ ≠ (.slice Ao38 x3_1.length co38 : Value).ownBlock) v369 y368) := ⟨h0_⟩
   have n1_ : Aside0 (Kd.R (Kd.int .i64) 3 w45 w0.heap.size (fun k_ => (P3_ k_ ∨ w.heap.size ≤ k_) ∧ some k_ ≠ (v369 : Value).ownBlock ∧ some k_ ≠ (.slice (some ad371) t362.length co37 : Value).ownBlock ∧ some k_ ≠ (.slice Ao38 x3_1.length co38 : Value).ownBlock) v373 y372) := ⟨h1_⟩
   have n2_ : Aside0 (Kd.R (Kd.int .i64) 3 w45 w0.heap.size (fun k_ => (P3_ k_ ∨ w.heap.size ≤ k_) ∧ some k_ ≠ (v369 : Value).ownBlock ∧ some k_ ≠ (v373 : Value).ownBlock ∧ some k_ ≠ (.slice Ao38 x3_1.length co38 : Value).ownBlock) (.slice (some ad371) t362.length co37) t362) := ⟨h2_⟩
   have n3_ : Aside0 (Kd.R (Kd.int .i64) 3 w45 w0.heap.size (fun k_ => (P3_ k_ ∨ w.heap.size ≤ k_) ∧ some k_ ≠ (v369 : Value).ownBlock ∧ some k_ ≠ (v373 : Value).ownBlock ∧ some k_ ≠ (.slice (some ad371) t362.length co37 : Value).ownBlock) (.slice Ao38 x3_1.length co38) x3_1) := ⟨h3_⟩
   have n4_ : Aside0 (w45.heap[gb355]? = some (.cells #[.int .i64 a0_0, .slice (some ad360) l0_1.length c0_1, .int .i64 a0_2] 73 (0, 0))) := ⟨h4_⟩
   have n5_ : Aside0 (Kept w w45 (fun k_ => P3_ k_)) := ⟨h5_⟩
   have n6_ : Aside0 (Below w0.heap.size w0 w45) := ⟨h6_⟩
   clear HO_3
   clear HO_10
   clear BK355
   clear HK
   clear HB
   clear h0_ h1_ h2_ h3_ h4_ h5_ h6_
   have HO370 := n0_
   have HO374 := n1_
   have HO_10 := n2_
   have HO_3 := n3_
   have BK355 := n4_
   have HK := n5_
   have HB := n6_
   clear n0_ n1_ n2_ n3_ n4_ n5_ n6_
   have hHeld : w45.cell? ⟨gb355, 0, none⟩ = some (.int .i64 a0_0) ∧ w45.cell? ⟨gb355, 1, none⟩ = some (.slice (some ad360) l0_1.length c0_1) ∧ w45.cell? ⟨gb355, 2, none⟩ = some (.int .i64 a0_2) ∧ w45.cell? (ad371.add (x11_1).toNat) = some (.int .i64 (rd t362 x11_1)) := hS_
   obtain ⟨Ao47, co47, eo47⟩ := Kd.R_slice HO374.out
   (first | subst eo47 | (injection eo47 with f1_ f2_ f3_; have f4_ := f1_.symm; have f5_ := f3_.symm; clear f1_ f2_ f3_; subst f4_; subst f5_))
   refine norm_ (a' := ?_) ?_ ?_
   rotate_left
   ·simp only [putAll, Act.put, yps]
    rfl
   refine one_ (i := 10) (N := some 65) #[true, true, true, true, true, true, true, true, true, true, true, true, false] rfl rfl (one_of HT_.out (by kernel_rfl)) (by decide) (fun K hK => ?_)
   refine Kd.R_append_rows_step (Kd.int .i64) (w0 := w0) w0.heap.size (by rfl) (.tmp 59) (.tmp 64) 22 3 (.int .i64 0) 8 rfl Try.underlying22 info3 rfl (by decide) (by omega) v369 y368 y372 _ _ _ (fun k_ => (P3_ k_ ∨ w.heap.size ≤ k_) ∧ some k_ ≠ (.slice Ao38 x3_1.length co38 : Value).ownBlock ∧ some k_ ≠ (.slice (some ad371) t362.length co37 : Value).ownBlock ∧ some k_ ≠ (.slice Ao47 y372.length co47 : Value).ownBlock) (fun _ => False) rfl rfl ?aO ?aR (fun _ _ h => h) (fun _ h => h.elim) ?aF ?aB ?aS ?aL ?_
   (case aR => repeat (first | exact (Kd.Yr HO374.out).2.2 | (with_reducible refine Kd.C_alloc ?_ _) | (with_reducible refine Kd.C_drewN ?_ _) | (with_reducible refine Kd.C_drew ?_)))
   (case aB => exact (by repeat (first | (with_reducible first | exact HB.out | apply yea | apply yen | apply yed | refine below_set ?_ GE355.out) | exact HB.out)))
   (case aF => exact (fun k_ hk => ⟨(.inr (Nat.le_trans (by first | exact HK.out.1 | exact (show Kept w _ (fun k_ => P3_ k_) from by repeat (first | (with_reducible first | exact HK.out | apply Kept.alloc | apply Kept.drewN | apply Kept.drew | refine Kept.setCell ?_ (.inr GW355.out) _) | exact HK.out)).1) hk)), Kd.fresh' (Kd.R_lt (Kd.Yz HO_3.out)) k_ hk, Kd.fresh' (Kd.R_lt (Kd.Yz HO_10.out)) k_ hk, Kd.fresh' (Kd.R_lt (Kd.Yz HO374.out)) k_ hk⟩))
   (case aO => exact (by (with_reducible repeat (first | apply Kd.Ya | apply Kd.Yn | apply Kd.Yd)); exact Kd.R_mono HO370.out (fun _ hk => ⟨hk.1, ⟨hk.2.2.2, ⟨hk.2.2.1, hk.2.1⟩⟩⟩)))
   (case aS => exact (below_size (by repeat (first | (with_reducible first | exact HB.out | apply yea | apply yen | apply yed | refine below_set ?_ GE355.out) | exact HB.out))))
   (case aL => have := LMc35.out; omega)
   intro v376 w46 ho hb hg hat
   have HS3_ := cell_grown hg (hHeld.2.2.2) (by first | (rw [add_block]; exact (fun e_ => (by first | exact (HO370.out.1 _ e_.symm) rfl | exact (HO370.out.1 _ e_.symm).1 rfl | exact (HO370.out.1 _ e_.symm).2 rfl | exact (HO370.out.1 _ e_.symm).1.1 rfl | exact (HO370.out.1 _ e_.symm).1.2 rfl | exact (HO370.out.1 _ e_.symm).2.1 rfl | exact (HO370.out.1 _ e_.symm).2.2 rfl | exact (HO370.out.1 _ e_.symm).1.1.1 rfl | exact (HO370.out.1 _ e_.symm).1.1.2 rfl | exact (HO370.out.1 _ e_.symm).1.2.1 rfl | exact (HO370.out.1 _ e_.symm).1.2.2 rfl | exact (HO370.out.1 _ e_.symm).2.1.1 rfl | exact (HO370.out.1 _ e_.symm).2.1.2 rfl | exact (HO370.out.1 _ e_.symm).2.2.1 rfl | exact (HO370.out.1 _ e_.symm).2.2.2 rfl | exact (HO370.out.1 _ e_.symm).1.1.1.1 rfl | exact (HO370.out.1 _ e_.symm).1.1.1.2 rfl | exact (HO370.out.1 _ e_.symm).1.1.2.1 rfl | exact (HO370.out.1 _ e_.symm).1.1.2.2 rfl | exact (HO370.out.1 _ e_.symm).1.2.1.1 rfl | exact (HO370.out.1 _ e_.symm).1.2.1.2 rfl | exact (HO370.out.1 _ e_.symm).1.2.2.1 rfl | exact (HO370.out.1 _ e_.symm).1.2.2.2 rfl | exact (HO370.out.1 _ e_.symm).2.1.1.1 rfl | exact (HO370.out.1 _ e_.symm).2.1.1.2 rfl | exact (HO370.out.1 _ e_.symm).2.1.2.1 rfl | exact (HO370.out.1 _ e_.symm).2.1.2.2 rfl | exact (HO370.out.1 _ e_.symm).2.2.1.1 rfl | exact (HO370.out.1 _ e_.symm).2.2.1.2 rfl | exact (HO370.out.1 _ e_.symm).2.2.2.1 rfl | exact (HO370.out.1 _ e_.symm).2.2.2.2 rfl))) | (show some (Addr.add _ _).block ≠ _; rw [add_block]; exact (fun e_ => (by first | exact (HO370.out.1 _ e_.symm) rfl | exact (HO370.out.1 _ e_.symm).1 rfl | exact (HO370.out.1 _ e_.symm).2 rfl | exact (HO370.out.1 _ e_.symm).1.1 rfl | exact (HO370.out.1 _ e_.symm).1.2 rfl | exact (HO370.out.1 _ e_.symm).2.1 rfl | exact (HO370.out.1 _ e_.symm).2.2 rfl | exact (HO370.out.1 _ e_.symm).1.1.1 rfl | exact (HO370.out.1 _ e_.symm).1.1.2 rfl | exact (HO370.out.1 _ e_.symm).1.2.1 rfl | exact (HO370.out.1 _ e_.symm).1.2.2 rfl | exact (HO370.out.1 _ e_.symm).2.1.1 rfl | exact (HO370.out.1 _ e_.symm).2.1.2 rfl | exact (HO370.out.1 _ e_.symm).2.2.1 rfl | exact (HO370.out.1 _ e_.symm).2.2.2 rfl | exact (HO370.out.1 _ e_.symm).1.1.1.1 rfl | exact (HO370.out.1 _ e_.symm).1.1.1.2 rfl | exact (HO370.out.1 _ e_.symm).1.1.2.1 rfl | exact (HO370.out.1 _ e_.symm).1.1.2.2 rfl | exact (HO370.out.1 _ e_.symm).1.2.1.1 rfl | exact (HO370.out.1 _ e_.symm).1.2.1.2 rfl | exact (HO370.out.1 _ e_.symm).1.2.2.1 rfl | exact (HO370.out.1 _ e_.symm).1.2.2.2 rfl | exact (HO370.out.1 _ e_.symm).2.1.1.1 rfl | exact (HO370.out.1 _ e_.symm).2.1.1.2 rfl | exact (HO370.out.1 _ e_.symm).2.1.2.1 rfl | exact (HO370.out.1 _ e_.symm).2.1.2.2 rfl | exact (HO370.out.1 _ e_.symm).2.2.1.1 rfl | exact (HO370.out.1 _ e_.symm).2.2.1.2 rfl | exact (HO370.out.1 _ e_.symm).2.2.2.1 rfl | exact (HO370.out.1 _ e_.symm).2.2.2.2 rfl))) | exact (fun e_ => (by first | exact (HO370.out.1 _ e_.symm) rfl | exact (HO370.out.1 _ e_.symm).1 rfl | exact (HO370.out.1 _ e_.symm).2 rfl | exact (HO370.out.1 _ e_.symm).1.1 rfl | exact (HO370.out.1 _ e_.symm).1.2 rfl | exact (HO370.out.1 _ e_.symm).2.1 rfl | exact (HO370.out.1 _ e_.symm).2.2 rfl | exact (HO370.out.1 _ e_.symm).1.1.1 rfl | exact (HO370.out.1 _ e_.symm).1.1.2 rfl | exact (HO370.out.1 _ e_.symm).1.2.1 rfl | exact (HO370.out.1 _ e_.symm).1.2.2 rfl | exact (HO370.out.1 _ e_.symm).2.1.1 rfl | exact (HO370.out.1 _ e_.symm).2.1.2 rfl | exact (HO370.out.1 _ e_.symm).2.2.1 rfl | exact (HO370.out.1 _ e_.symm).2.2.2 rfl | exact (HO370.out.1 _ e_.symm).1.1.1.1 rfl | exact (HO370.out.1 _ e_.symm).1.1.1.2 rfl | exact (HO370.out.1 _ e_.symm).1.1.2.1 rfl | exact (HO370.out.1 _ e_.symm).1.1.2.2 rfl | exact (HO370.out.1 _ e_.symm).1.2.1.1 rfl | exact (HO370.out.1 _ e_.symm).1.2.1.2 rfl | exact (HO370.out.1 _ e_.symm).1.2.2.1 rfl | exact (HO370.out.1 _ e_.symm).1.2.2.2 rfl | exact (HO370.out.1 _ e_.symm).2.1.1.1 rfl | exact (HO370.out.1 _ e_.symm).2.1.1.2 rfl | exact (HO370.out.1 _ e_.symm).2.1.2.1 rfl | exact (HO370.out.1 _ e_.symm).2.1.2.2 rfl | exact (HO370.out.1 _ e_.symm).2.2.1.1 rfl | exact (HO370.out.1 _ e_.symm).2.2.1.2 rfl | exact (HO370.out.1 _ e_.symm).2.2.2.1 rfl | exact (HO370.out.1 _ e_.symm).2.2.2.2 rfl)))
   rw [← Ny375.out] at ho
   have n0_ := yam (Kd.R_after (ok := (fun k_ => (P3_ k_ ∨ w.heap.size ≤ k_) ∧ some k_ ≠ (.slice (some ad371) t362.length co37 : Value).ownBlock ∧ some k_ ≠ (.slice Ao47 y372.length co47 : Value).ownBlock)) (by (with_reducible repeat (first | apply Kd.Ya | apply Kd.Yn | apply Kd.Yd)); exact Kd.R_mono HO_3.out (fun _ hk => ⟨⟨hk.1, ⟨hk.2.2.2, hk.2.2.1⟩⟩, hk.2.1⟩)) hg hat)
   have n1_ := yam (Kd.R_after (ok := (fun k_ => (P3_ k_ ∨ w.heap.size ≤ k_) ∧ some k_ ≠ (.slice Ao38 x3_1.length co38 : Value).ownBlock ∧ some k_ ≠ (.slice Ao47 y372.length co47 : Value).ownBlock)) (by (with_reducible repeat (first | apply Kd.Ya | apply Kd.Yn | apply Kd.Yd)); exact Kd.R_mono HO_10.out (fun _ hk => ⟨⟨hk.1, ⟨hk.2.2.2, hk.2.2.1⟩⟩, hk.2.1⟩)) hg hat)
   have n2_ := yam (blk_grown (g := gb355) (o := .cells #[.int .i64 a0_0, .slice (some ad360) l0_1.length c0_1, .int .i64 a0_2] 73 (0, 0)) (ybz BK355.out) hg (Kd.R_ne HO370.out BK355.out (by decide)))
   have n3_ := yam (Kd.R_after (ok := (fun k_ => (P3_ k_ ∨ w.heap.size ≤ k_) ∧ some k_ ≠ (.slice Ao38 x3_1.length co38 : Value).ownBlock ∧ some k_ ≠ (.slice (some ad371) t362.length co37 : Value).ownBlock)) (by (with_reducible repeat (first | apply Kd.Ya | apply Kd.Yn | apply Kd.Yd)); exact Kd.R_mono HO374.out (fun _ hk => ⟨⟨hk.1, ⟨hk.2.2.2, hk.2.2.1⟩⟩, hk.2.1⟩)) hg hat)
   have n4_ := yam (hb)
   have n5_ := yam (Kept.of_grown (S := (fun k_ => P3_ k_)) hg (by repeat (first | (with_reducible first | exact HK.out | apply Kept.alloc | apply Kept.drewN | apply Kept.drew | refine Kept.setCell ?_ (.inr GW355.out) _) | exact HK.out)) (fun k_ e_ => (HO370.out.1 k_ e_).1))
   have n6_ := yam (ho)
   clear HO_3
   clear HO_10
   clear BK355
   clear HO374
   clear HB
   clear HK
   clear HO370
   have HO_3 := n0_
   have HO_10 := n1_
   have BK355 := n2_
   have HO374 := n3_
   have HB := n4_
   have HK := n5_
   have HO377 := n6_
   clear n0_ n1_ n2_ n3_ n4_ n5_ n6_
   clear ho hb hg hat
   obtain ⟨Ao48, co48, eo48⟩ := Kd.R_slice HO377.out
   (first | subst eo48 | (injection eo48 with f1_ f2_ f3_; have f4_ := f1_.symm; have f5_ := f3_.symm; clear f1_ f2_ f3_; subst f4_; subst f5_))
   refine hK.out _ _ ⟨(blk_cell BK355.out 0).trans rfl, (blk_cell BK355.out 1).trans rfl, (blk_cell BK355.out 2).trans rfl, HS3_⟩ (fun hHeld => ?_)
   clear hK K
   refine norm_ (a' := ?_) ?_ ?_
   rotate_left
   ·show Act.put _ (some 65) _ = _
    simp only [Act.put, yps, i64_w, i32_w]
    rfl
   refine one_ (i := 12) (N := some 67) #[true, true, true, true, true, true, true, true, true, true, true, true, true] rfl rfl (one_of HT_.out (by kernel_rfl)) (by decide) (fun K hK => ?_)
   refine goes_ Try.func98 (by kernel_rfl) rfl #[.agg #[.int .i64 a0_0, .slice (some ad360) l0_1.length c0_1, .int .i64 a0_2], .slice (some ad361) l1.length c1, .slice Ao48 y375.length co48, .slice Ao38 x3_1.length co38] (by rfl) rfl rfl (by (try simp only [List.map_toArray, List.map_cons, List.map_nil]); first | done | rfl | (simp only [List.length_drop, List.length_take]; rfl)) ?_
   with_reducible refine (ih k1 (by have := HK1.out; omega) a0_0 _ _ l0_1 a0_2 _ _ l1 _ _ y375 (fun k_ => some k_ = (.slice Ao38 x3_1.length co38 : Value).ownBlock) (.slice Ao38 x3_1.length co38) x3_1 t378 w0 _ ?side1 ?side2 ?side3 ?side4 ?side5 ?side6 ?side7 ?side8 A36.out).mono ?_
   (case side1 => repeat (first | (with_reducible first | exact HB.out | apply yea | apply yen | apply yed | refine below_set ?_ GE355.out) | exact HB.out))
   (case side2 => exact Kd.C_kept_call HR0_1.out (by repeat (first | (with_reducible first | exact HK.out | apply Kept.alloc | apply Kept.drewN | apply Kept.drew | refine Kept.setCell ?_ (.inr GW355.out) _) | exact HK.out)) (fun k_ hs_ => (fun e_ => (HO_3.out.1 k_ e_.symm).1.1) hs_))
   (case side3 => exact HC0_1.out)
   (case side4 => exact Kd.C_kept_call HR1.out (by repeat (first | (with_reducible first | exact HK.out | apply Kept.alloc | apply Kept.drewN | apply Kept.drew | refine Kept.setCell ?_ (.inr GW355.out) _) | exact HK.out)) (fun k_ hs_ => (fun e_ => (HO_3.out.1 k_ e_.symm).1.1) hs_))
   (case side5 => exact HC1.out)
   (case side6 => exact Kd.C_kept_own (HO377.out) (fun k_ hk_ hs_ => (hk_.2.1) hs_))
   (case side7 => exact (Kd.Yr HO377.out).2.1)
   (case side8 => exact Kd.R_tight rfl HO_3.out)
   rintro e w49 ⟨rfl, hy0, hb, hkp⟩
   have HS3_ := cell_kept (hHeld.2.2.2) hkp (by first | (rw [add_block]; exact (fun hs_ => (((HO_10.out).1 _ rfl).1.2.1) hs_)) | (show ¬ _; simp only [add_block]; exact (fun hs_ => (((HO_10.out).1 _ rfl).1.2.1) hs_)) | exact (fun hs_ => (((HO_10.out).1 _ rfl).1.2.1) hs_))
   refine ⟨_, rfl, ?_⟩
   have n0_ := yam (Kd.R_reok rfl hy0 (fun k_ e_ => HO_3.out.1 k_ e_))
   have n1_ := yam (Kd.R_mono (ok' := fun k_ => (P3_ k_ ∨ w.heap.size ≤ k_) ∧ some k_ ≠ (.slice Ao38 x3_1.length co38 : Value).ownBlock ∧ some k_ ≠ (.slice Ao47 y372.length co47 : Value).ownBlock ∧ some k_ ≠ (.slice Ao48 y375.length co48 : Value).ownBlock) (Kd.R_keptB (HO_10.out) hkp (fun k_ hk_ hs_ => (hk_.1.2.1) hs_)) (fun k_ hk_ => ⟨hk_.1.1.1, hk_.1.1.2.1, hk_.1.1.2.2, hk_.1.2⟩))
   have n2_ := yam (blk_kept (ybz BK355.out) hkp (fun hs_ => (fun e_ => (Kd.R_ne HO_3.out BK355.out (by decide)) e_) hs_))
   have n3_ := yam (Kd.R_mono (ok' := fun k_ => (P3_ k_ ∨ w.heap.size ≤ k_) ∧ some k_ ≠ (.slice Ao38 x3_1.length co38 : Value).ownBlock ∧ some k_ ≠ (.slice (some ad371) t362.length co37 : Value).ownBlock ∧ some k_ ≠ (.slice Ao48 y375.length co48 : Value).ownBlock) (Kd.R_keptB (HO374.out) hkp (fun k_ hk_ hs_ => (hk_.1.2.1) hs_)) (fun k_ hk_ => ⟨hk_.1.1.1, hk_.1.1.2.1, hk_.1.1.2.2, hk_.1.2⟩))
   have n4_ := yam (Kd.R_mono (ok' := fun k_ => (P3_ k_ ∨ w.heap.size ≤ k_) ∧ some k_ ≠ (.slice Ao38 x3_1.length co38 : Value).ownBlock ∧ some k_ ≠ (.slice (some ad371) t362.length co37 : Value).ownBlock ∧ some k_ ≠ (.slice Ao47 y372.length co47 : Value).ownBlock) (Kd.R_keptB (HO377.out) hkp (fun k_ hk_ hs_ => (hk_.2.1) hs_)) (fun k_ hk_ => ⟨hk_.1.1, hk_.1.2.1, hk_.1.2.2.1, hk_.1.2.2.2⟩))
   have n5_ := yam (Kept.then_ (S := (fun k_ => P3_ k_)) (by repeat (first | (with_reducible first | exact HK.out | apply Kept.alloc | apply Kept.drewN | apply Kept.drew | refine Kept.setCell ?_ (.inr GW355.out) _) | exact HK.out)) hkp (fun k_ hs_ => (fun e_ => (HO_3.out.1 k_ e_.symm).1.1) hs_))
   have n6_ := yam (hb)
   clear HO_3
   clear HO_10
   clear BK355
   clear HO374
   clear HO377
   clear HK
   clear HB
   have HO_3 := n0_
   have HO_10 := n1_
   have BK355 := n2_
   have HO374 := n3_
   have HO377 := n4_
   have HK := n5_
   have HB := n6_
   clear n0_ n1_ n2_ n3_ n4_ n5_ n6_
   (try clear hb)
   (try clear hkp)
   (try clear hy0)
   refine hK.out _ _ ⟨(blk_cell BK355.out 0).trans rfl, (blk_cell BK355.out 1).trans rfl, (blk_cell BK355.out 2).trans rfl, HS3_⟩ (fun hHeld => ?_)
   clear hK K
   refine norm_ (a' := ?_) ?_ ?_
   rotate_left
   ·show Act.put _ (some 67) _ = _
    simp only [Act.put, yps, i64_w, i32_w]
    rfl
   refine done_ (done_of HT_.out (by kernel_rfl)) ?_
   try go_wp2
   go_roundg k1
   case measure => have := HK1.out; omega
   case rel => exact ⟨(t378), (wrap64 (x11_1 + 1)), (by first | rfl | (simp; done) | (simp [*]; done)), H', ⟨by have := HK1.out; omega⟩, ⟨by (with_reducible repeat (first | apply Kd.Ya | apply Kd.Yn | apply Kd.Yd)); exact Kd.R_mono HO_3.out (fun _ hk => ⟨hk.1.1, hk.1.2.1⟩)⟩, ⟨by (with_reducible repeat (first | apply Kd.Ya | apply Kd.Yn | apply Kd.Yd)); exact Kd.R_mono HO_10.out (fun _ hk => ⟨hk.1, hk.2.1⟩)⟩, ⟨by (with_reducible repeat (first | refine ybn ?_ _ | refine ybd ?_ | refine yba ?_ _)); exact BK355.out⟩, ⟨by repeat (first | (with_reducible first | exact HK.out | apply Kept.alloc | apply Kept.drewN | apply Kept.drew | refine Kept.setCell ?_ (.inr GW355.out) _) | exact HK.out)⟩, ⟨by repeat (first | (with_reducible first | exact HB.out | apply yea | apply yen | apply yed | refine below_set ?_ GE355.out) | exact HB.out)⟩⟩
end Go.Proofs.Ytmjbnghhfadapaa.P
