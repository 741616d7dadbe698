/- The machine's side: each Go function as a plain Lean function and the proof that the machine's call does what that function says; written by this session's own program over the kit's print. -/
import Derived.Test.YtdemlminhkhonaaZP1
import Derived.Test.YtdemlminhkhonaaZP4
import Derived.Test.YtdemlminhkhonaaZP6
namespace Go.Proofs.Ytdemlminhkhonaa.P
open Go.RowKit Go.Proofs.YtdemlminhkhonaaW.PrintWords Go.Proofs.YtdemlminhkhonaaW.PrintLast Go.Proofs.YtdemlminhkhonaaW.PrintMore
attribute [local go_sem] max2_int min2_int max_two min_two max_three min_three max_four min_four   -- for this text's walks alone
set_option linter.unusedVariables false
set_option linter.unusedSimpArgs false
/-! ### laws_eqRule: function 71 -/
def laws_eqRule.f (k : Nat) (a0_0 : Int) (l0_1 : List Int) (a0_2 : Int) (a1_0 : Int) (l1_1 : List Int) (a1_2 : Int) : Option (Bool) := if a0_0 = a1_0 then ((laws_eqIntS.f k l0_1 l1_1).bind fun t548 => (if t548 = true then (if a0_2 = a1_2 then (some true) else (some false)) else (some false))) else (some false)
set_option maxHeartbeats 8000000 in
set_option maxRecDepth 100000 in
theorem laws_eqRule.calls (k : Nat) (a0_0 : Int) (A0_1 : Option Addr) (c0_1 : Nat) (l0_1 : List Int) (a0_2 : Int) (a1_0 : Int) (A1_1 : Option Addr) (c1_1 : Nat) (l1_1 : List Int) (a1_2 : Int) (r : Bool) (w : World) (hr0_1 : Kd.C (Kd.int .i64) w A0_1 l0_1.length l0_1) (hc0_1 : l0_1.length ≤ c0_1) (hr1_1 : Kd.C (Kd.int .i64) w A1_1 l1_1.length l1_1) (hc1_1 : l1_1.length ≤ c1_1) (h : laws_eqRule.f k a0_0 l0_1 a0_2 a1_0 l1_1 a1_2 = some r) :
  Calls Try.prog 71 #[.agg #[.int .i64 a0_0, .slice A0_1 l0_1.length c0_1, .int .i64 a0_2], .agg #[.int .i64 a1_0, .slice A1_1 l1_1.length c1_1, .int .i64 a1_2]] w fun e w' => e = .returned (.bool r) ∧ Below w.heap.size w w' := by
 have hu67 := Try.underlying67
 have HR0_1 := yam hr0_1
 have HC0_1 := yam hc0_1
 clear hr0_1 hc0_1
 have HR1_1 := yam hr1_1
 have HC1_1 := yam hc1_1
 clear hr1_1 hc1_1
 have HB := yam (Below.refl w.heap.size w)
 have H : (if a0_0 = a1_0 then ((laws_eqIntS.f k l0_1 l1_1).bind fun t548 => (if t548 = true then (if a0_2 = a1_2 then (some true) else (some false)) else (some false))) else (some false)) = some r := h
 clear h
 by_cases c3 : a0_0 = a1_0
 rotate_left
 ·rw [if_neg c3] at H
  have c3b0 : (a0_0 == a1_0) = false := beq_eq_false_iff_ne.mpr c3
  have c3b1 : (a0_0 != a1_0) = true := bne_iff_ne.mpr c3
  obtain rfl := Option.some.inj H
  go_enter Try.func71, Try.ntmps71
  go_wp2_with (first | ((with_reducible refine gate_dst (N := 2) rfl ?_); refine box_event ?hg (N := 2) ?hd (cs := #[.int .i64 a0_0, .slice A0_1 l0_1.length c0_1, .int .i64 a0_2]) (t := 67) ?hr ?_; (case hd => rfl); (case hg => rfl); (case hr => first | (go_simp; done) | (go_simp; rfl)); intro gb546 hg w22 hbox hb; have n0_ := yam (below_step (yez HB.out) hb); have n1_ := yam (hbox); have n2_ := yam ((by rw [hg]; exact (below_size (yez HB.out)) : w.heap.size ≤ gb546)); have n3_ := n2_; clear HB; have HB := n0_; have BK546 := n1_; have GW546 := n2_; have GE546 := n3_; clear n0_ n1_ n2_ n3_; clear hb hbox hg) | ((with_reducible refine gate_dst (N := 3) rfl ?_); refine box_event ?hg (N := 3) ?hd (cs := #[.int .i64 a1_0, .slice A1_1 l1_1.length c1_1, .int .i64 a1_2]) (t := 67) ?hr ?_; (case hd => rfl); (case hg => rfl); (case hr => first | (go_simp; done) | (go_simp; rfl)); intro gb547 hg w23 hbox hb; have n0_ := yam (blk_below (g := gb546) (o := .cells #[.int .i64 a0_0, .slice A0_1 l0_1.length c0_1, .int .i64 a0_2] 67 (0, 0)) (ybz BK546.out) hb); have n1_ := yam (below_step yhb hb); have n2_ := yam (hbox); have n3_ := yam ((by rw [hg]; exact (below_size yhb) : w.heap.size ≤ gb547)); have n4_ := n3_; have n5_ := yam ((by rw [hg]; exact Nat.ne_of_lt (blk_lt (g := gb546) (o := .cells #[.int .i64 a0_0, .slice A0_1 l0_1.length c0_1, .int .i64 a0_2] 67 (0, 0)) (ybz BK546.out)) : gb546 ≠ gb547)); have n6_ := yam ((by rw [hg]; exact Nat.ne_of_gt (blk_lt (g := gb546) (o := .cells #[.int .i64 a0_0, .slice A0_1 l0_1.length c0_1, .int .i64 a0_2] 67 (0, 0)) (ybz BK546.out)) : gb547 ≠ gb546)); clear BK546; clear HB; have BK546 := n0_; have HB := n1_; have BK547 := n2_; have GW547 := n3_; have GE547 := n4_; have NB546_547 := n5_; have NB547_546 := n6_; clear n0_ n1_ n2_ n3_ n4_ n5_ n6_; clear hb hbox hg; have hnb24 := NB546_547.out; have hnc24 := NB547_546.out; obtain ⟨hcz25_0, hcz25_1, hcz25_2, hfz25_0, hfz25_1, hfz25_2⟩ := ybc BK546.out; obtain ⟨hcz26_0, hcz26_1, hcz26_2, hfz26_0, hfz26_1, hfz26_2⟩ := ybc BK547.out))
  go_ret
  exact ⟨yer, yhb⟩

 rw [if_pos c3] at H
 have c3b0 : (a0_0 == a1_0) = true := beq_iff_eq.mpr c3
 have c3b1 : (a0_0 != a1_0) = false := bne_eq_false_iff_eq.mpr c3
 clear c3
 replace H := Option.bind_eq_some_iff.mp H
 obtain ⟨t548, A40, H⟩ := H
 try dsimp only at H
 have A4 := yam A40
 clear A40
 by_cases c5 : t548 = true
 rotate_left
 ·replace c5 := Bool.eq_false_iff.mpr c5
  subst c5
  have H1 : (some false) = some r := by rw [if_neg (show ¬ (false = true) by decide)] at H; exact H
  clear H
  have H := H1
  clear H1
  obtain rfl := Option.some.inj H
  go_enter Try.func71, Try.ntmps71
  go_wp2_with (first | ((with_reducible refine gate_dst (N := 2) rfl ?_); refine box_event ?hg (N := 2) ?hd (cs := #[.int .i64 a0_0, .slice A0_1 l0_1.length c0_1, .int .i64 a0_2]) (t := 67) ?hr ?_; (case hd => rfl); (case hg => rfl); (case hr => first | (go_simp; done) | (go_simp; rfl)); intro gb546 hg w17 hbox hb; have n0_ := yam (below_step (yez HB.out) hb); have n1_ := yam (hbox); have n2_ := yam ((by rw [hg]; exact (below_size (yez HB.out)) : w.heap.size ≤ gb546)); have n3_ := n2_; clear HB; have HB := n0_; have BK546 := n1_; have GW546 := n2_; have GE546 := n3_; clear n0_ n1_ n2_ n3_; clear hb hbox hg) | ((with_reducible refine gate_dst (N := 3) rfl ?_); refine box_event ?hg (N := 3) ?hd (cs := #[.int .i64 a1_0, .slice A1_1 l1_1.length c1_1, .int .i64 a1_2]) (t := 67) ?hr ?_; (case hd => rfl); (case hg => rfl); (case hr => first | (go_simp; done) | (go_simp; rfl)); intro gb547 hg w18 hbox hb; have n0_ := yam (blk_below (g := gb546) (o := .cells #[.int .i64 a0_0, .slice A0_1 l0_1.length c0_1, .int .i64 a0_2] 67 (0, 0)) (ybz BK546.out) hb); have n1_ := yam (below_step yhb hb); have n2_ := yam (hbox); have n3_ := yam ((by rw [hg]; exact (below_size yhb) : w.heap.size ≤ gb547)); have n4_ := n3_; have n5_ := yam ((by rw [hg]; exact Nat.ne_of_lt (blk_lt (g := gb546) (o := .cells #[.int .i64 a0_0, .slice A0_1 l0_1.length c0_1, .int .i64 a0_2] 67 (0, 0)) (ybz BK546.out)) : gb546 ≠ gb547)); have n6_ := yam ((by rw [hg]; exact Nat.ne_of_gt (blk_lt (g := gb546) (o := .cells #[.int .i64 a0_0, .slice A0_1 l0_1.length c0_1, .int .i64 a0_2] 67 (0, 0)) (ybz BK546.out)) : gb547 ≠ gb546)); clear BK546; clear HB; have BK546 := n0_; have HB := n1_; have BK547 := n2_; have GW547 := n3_; have GE547 := n4_; have NB546_547 := n5_; have NB547_546 := n6_; clear n0_ n1_ n2_ n3_ n4_ n5_ n6_; clear hb hbox hg; have hnb19 := NB546_547.out; have hnc19 := NB547_546.out; obtain ⟨hcz20_0, hcz20_1, hcz20_2, hfz20_0, hfz20_1, hfz20_2⟩ := ybc BK546.out; obtain ⟨hcz21_0, hcz21_1, hcz21_2, hfz21_0, hfz21_1, hfz21_2⟩ := ybc BK547.out) | ((with_reducible refine gate_callee (f := 13) rfl ?_); refine goesL_ (some 14) rfl rfl Try.func13 (by kernel_rfl) rfl #[.slice A0_1 l0_1.length c0_1, .slice A1_1 l1_1.length c1_1] rfl (by (try simp only [List.map_toArray, List.map_cons, List.map_nil]); first | done | rfl | (simp only [List.length_drop, List.length_take]; rfl)) ?_; (with_reducible refine (laws_eqIntS.calls k _ _ l0_1 _ _ l1_1 false _ ?side1 ?side2 ?side3 ?side4 A4.out).mono ?_); (case side1 => exact Kd.Cz ((Kd.C_below HR0_1.out HB.out))); (case side2 => exact HC0_1.out); (case side3 => exact Kd.Cz ((Kd.C_below HR1_1.out HB.out))); (case side4 => exact HC1_1.out); rintro e w' ⟨rfl, ⟨nd, rfl⟩⟩; refine ⟨_, rfl, ?_⟩))
  go_ret
  exact ⟨yer, yhb⟩
 subst c5
 have H1 : (if a0_2 = a1_2 then (some true) else (some false)) = some r := by rw [if_pos rfl] at H; exact H
 clear H
 have H := H1
 clear H1
 by_cases c6 : a0_2 = a1_2
 rotate_left
 ·rw [if_neg c6] at H
  have c6b0 : (a0_2 == a1_2) = false := beq_eq_false_iff_ne.mpr c6
  have c6b1 : (a0_2 != a1_2) = true := bne_iff_ne.mpr c6
  obtain rfl := Option.some.inj H
  go_enter Try.func71, Try.ntmps71
  go_wp2_with (first | ((with_reducible refine gate_dst (N := 2) rfl ?_); refine box_event ?hg (N := 2) ?hd (cs := #[.int .i64 a0_0, .slice A0_1 l0_1.length c0_1, .int .i64 a0_2]) (t := 67) ?hr ?_; (case hd => rfl); (case hg => rfl); (case hr => first | (go_simp; done) | (go_simp; rfl)); intro gb546 hg w12 hbox hb; have n0_ := yam (below_step (yez HB.out) hb); have n1_ := yam (hbox); have n2_ := yam ((by rw [hg]; exact (below_size (yez HB.out)) : w.heap.size ≤ gb546)); have n3_ := n2_; clear HB; have HB := n0_; have BK546 := n1_; have GW546 := n2_; have GE546 := n3_; clear n0_ n1_ n2_ n3_; clear hb hbox hg) | ((with_reducible refine gate_dst (N := 3) rfl ?_); refine box_event ?hg (N := 3) ?hd (cs := #[.int .i64 a1_0, .slice A1_1 l1_1.length c1_1, .int .i64 a1_2]) (t := 67) ?hr ?_; (case hd => rfl); (case hg => rfl); (case hr => first | (go_simp; done) | (go_simp; rfl)); intro gb547 hg w13 hbox hb; have n0_ := yam (blk_below (g := gb546) (o := .cells #[.int .i64 a0_0, .slice A0_1 l0_1.length c0_1, .int .i64 a0_2] 67 (0, 0)) (ybz BK546.out) hb); have n1_ := yam (below_step yhb hb); have n2_ := yam (hbox); have n3_ := yam ((by rw [hg]; exact (below_size yhb) : w.heap.size ≤ gb547)); have n4_ := n3_; have n5_ := yam ((by rw [hg]; exact Nat.ne_of_lt (blk_lt (g := gb546) (o := .cells #[.int .i64 a0_0, .slice A0_1 l0_1.length c0_1, .int .i64 a0_2] 67 (0, 0)) (ybz BK546.out)) : gb546 ≠ gb547)); have n6_ := yam ((by rw [hg]; exact Nat.ne_of_gt (blk_lt (g := gb546) (o := .cells #[.int .i64 a0_0, .slice A0_1 l0_1.length c0_1, .int .i64 a0_2] 67 (0, 0)) (ybz BK546.out)) : gb547 ≠ gb546)); clear BK546; clear HB; have BK546 := n0_; have HB := n1_; have BK547 := n2_; have GW547 := n3_; have GE547 := n4_; have NB546_547 := n5_; have NB547_546 := n6_; clear n0_ n1_ n2_ n3_ n4_ n5_ n6_; clear hb hbox hg; have hnb14 := NB546_547.out; have hnc14 := NB547_546.out; obtain ⟨hcz15_0, hcz15_1, hcz15_2, hfz15_0, hfz15_1, hfz15_2⟩ := ybc BK546.out; obtain ⟨hcz16_0, hcz16_1, hcz16_2, hfz16_0, hfz16_1, hfz16_2⟩ := ybc BK547.out) | ((with_reducible refine gate_callee (f := 13) rfl ?_); refine goesL_ (some 14) rfl rfl Try.func13 (by kernel_rfl) rfl #[.slice A0_1 l0_1.length c0_1, .slice A1_1 l1_1.length c1_1] rfl (by (try simp only [List.map_toArray, List.map_cons, List.map_nil]); first | done | rfl | (simp only [List.length_drop, List.length_take]; rfl)) ?_; (with_reducible refine (laws_eqIntS.calls k _ _ l0_1 _ _ l1_1 true _ ?side1 ?side2 ?side3 ?side4 A4.out).mono ?_); (case side1 => exact Kd.Cz ((Kd.C_below HR0_1.out HB.out))); (case side2 => exact HC0_1.out); (case side3 => exact Kd.Cz ((Kd.C_below HR1_1.out HB.out))); (case side4 => exact HC1_1.out); rintro e w' ⟨rfl, ⟨nd, rfl⟩⟩; refine ⟨_, rfl, ?_⟩))
  go_ret
  exact ⟨yer, yhb⟩
 rw [if_pos c6] at H
 have c6b0 : (a0_2 == a1_2) = true := beq_iff_eq.mpr c6
 have c6b1 : (a0_2 != a1_2) = false := bne_eq_false_iff_eq.mpr c6
 clear c6
 obtain rfl := Option.some.inj H
 go_enter Try.func71, Try.ntmps71
 go_wp2_with (first | ((with_reducible refine gate_dst (N := 2) rfl ?_); refine box_event ?hg (N := 2) ?hd (cs := #[.int .i64 a0_0, .slice A0_1 l0_1.length c0_1, .int .i64 a0_2]) (t := 67) ?hr ?_; (case hd => rfl); (case hg => rfl); (case hr => first | (go_simp; done) | (go_simp; rfl)); intro gb546 hg w7 hbox hb; have n0_ := yam (below_step (yez HB.out) hb); have n1_ := yam (hbox); have n2_ := yam ((by rw [hg]; exact (below_size (yez HB.out)) : w.heap.size ≤ gb546)); have n3_ := n2_; clear HB; have HB := n0_; have BK546 := n1_; have GW546 := n2_; have GE546 := n3_; clear n0_ n1_ n2_ n3_; clear hb hbox hg) | ((with_reducible refine gate_dst (N := 3) rfl ?_); refine box_event ?hg (N := 3) ?hd (cs := #[.int .i64 a1_0, .slice A1_1 l1_1.length c1_1, .int .i64 a1_2]) (t := 67) ?hr ?_; (case hd => rfl); (case hg => rfl); (case hr => first | (go_simp; done) | (go_simp; rfl)); intro gb547 hg w8 hbox hb; have n0_ := yam (blk_below (g := gb546) (o := .cells #[.int .i64 a0_0, .slice A0_1 l0_1.length c0_1, .int .i64 a0_2] 67 (0, 0)) (ybz BK546.out) hb); have n1_ := yam (below_step yhb hb); have n2_ := yam (hbox); have n3_ := yam ((by rw [hg]; exact (below_size yhb) : w.heap.size ≤ gb547)); have n4_ := n3_; have n5_ := yam ((by rw [hg]; exact Nat.ne_of_lt (blk_lt (g := gb546) (o := .cells #[.int .i64 a0_0, .slice A0_1 l0_1.length c0_1, .int .i64 a0_2] 67 (0, 0)) (ybz BK546.out)) : gb546 ≠ gb547)); have n6_ := yam ((by rw [hg]; exact Nat.ne_of_gt (blk_lt (g := gb546) (o := .cells #[.int .i64 a0_0, .slice A0_1 l0_1.length c0_1, .int .i64 a0_2] 67 (0, 0)) (ybz BK546.out)) : gb547 ≠ gb546)); clear BK546; clear HB; have BK546 := n0_; have HB := n1_; have BK547 := n2_; have GW547 := n3_; have GE547 := n4_; have NB546_547 := n5_; have NB547_546 := n6_; clear n0_ n1_ n2_ n3_ n4_ n5_ n6_; clear hb hbox hg; have hnb9 := NB546_547.out; have hnc9 := NB547_546.out; obtain ⟨hcz10_0, hcz10_1, hcz10_2, hfz10_0, hfz10_1, hfz10_2⟩ := ybc BK546.out; obtain ⟨hcz11_0, hcz11_1, hcz11_2, hfz11_0, hfz11_1, hfz11_2⟩ := ybc BK547.out) | ((with_reducible refine gate_callee (f := 13) rfl ?_); refine goesL_ (some 14) rfl rfl Try.func13 (by kernel_rfl) rfl #[.slice A0_1 l0_1.length c0_1, .slice A1_1 l1_1.length c1_1] rfl (by (try simp only [List.map_toArray, List.map_cons, List.map_nil]); first | done | rfl | (simp only [List.length_drop, List.length_take]; rfl)) ?_; (with_reducible refine (laws_eqIntS.calls k _ _ l0_1 _ _ l1_1 true _ ?side1 ?side2 ?side3 ?side4 A4.out).mono ?_); (case side1 => exact Kd.Cz ((Kd.C_below HR0_1.out HB.out))); (case side2 => exact HC0_1.out); (case side3 => exact Kd.Cz ((Kd.C_below HR1_1.out HB.out))); (case side4 => exact HC1_1.out); rintro e w' ⟨rfl, ⟨nd, rfl⟩⟩; refine ⟨_, rfl, ?_⟩))
 go_ret
 exact ⟨yer, yhb⟩
/-! ### laws_eqRuleS: function 37 -/
def laws_eqRuleS.l0 : Nat → List (S67) → List (S67) → Int → Option (Bool)
 | 0, _, _, _ => none
 | k + 1, x0, x1, x5 => if x5 < (x0.length : Int) then (if 0 ≤ x5 then (if x5 < (x1.length : Int) then ((laws_eqRule.f k ((rd_T67 x0 x5).f0) ((rd_T67 x0 x5).f1) ((rd_T67 x0 x5).f2) ((rd_T67 x1 x5).f0) ((rd_T67 x1 x5).f1) ((rd_T67 x1 x5).f2)).bind fun t551 => (if t551 = true then (laws_eqRuleS.l0 k x0 x1 (wrap64 (x5 + 1))) else (some false))) else (none)) else (none)) else (some true)
def laws_eqRuleS.f (k : Nat) (l0 : List (S67)) (l1 : List (S67)) : Option (Bool) := if (l0.length : Int) = (l1.length : Int) then (laws_eqRuleS.l0 k l0 l1 0) else (some false)
def laws_eqRuleS.T6 : Bool × List (List Nat × List Nat) := (true, [([], []), ([], []), ([0, 1], [0, 1]), ([2], [2]), ([], []), ([], []), ([4, 5], [4, 5]), ([6], [6]), ([3, 7], [3, 7]), ([8], [8])])
def laws_eqRuleS.B6 : List Nat := [0, 0, 3, 7, 0, 0, 48, 112, 255, 511]
theorem laws_eqRuleS.tab6 : rtab .any (opsOf Try.f37 6) = laws_eqRuleS.T6 := by kernel_rfl
theorem laws_eqRuleS.bits6 : waitsOk laws_eqRuleS.T6.2 laws_eqRuleS.B6 = true := by kernel_rfl
set_option maxHeartbeats 8000000 in
set_option maxRecDepth 100000 in
theorem laws_eqRuleS.calls (k : Nat) (A0 : Option Addr) (c0 : Nat) (l0 : List (S67)) (A1 : Option Addr) (c1 : Nat) (l1 : List (S67)) (r : Bool) (w : World) (hr0 : Kd.C k67 w A0 l0.length l0) (hc0 : l0.length ≤ c0) (hr1 : Kd.C k67 w A1 l1.length l1) (hc1 : l1.length ≤ c1) (h : laws_eqRuleS.f k l0 l1 = some r) :
  Calls Try.prog 37 #[.slice A0 l0.length c0, .slice A1 l1.length c1] w fun e w' => e = .returned (.bool r) ∧ Below w.heap.size w w' := by
 have hu67 := Try.underlying67
 have HR0 := yam hr0
 have HC0 := yam hc0
 clear hr0 hc0
 have HR1 := yam hr1
 have HC1 := yam hc1
 clear hr1 hc1
 have HB := yam (Below.refl w.heap.size w)
 have H : (if (l0.length : Int) = (l1.length : Int) then (laws_eqRuleS.l0 k l0 l1 0) else (some false)) = some r := h
 clear h
 by_cases c3 : (l0.length : Int) = (l1.length : Int)
 rotate_left
 ·rw [if_neg c3] at H
  have c3b0 : ((l0.length : Int) == (l1.length : Int)) = false := beq_eq_false_iff_ne.mpr c3
  have c3b1 : ((l0.length : Int) != (l1.length : Int)) = true := bne_iff_ne.mpr c3
  have c3b2 : (l0.length == l1.length) = false := by first | simpa using c3 | (simp at c3 ⊢; omega)
  obtain rfl := Option.some.inj H
  go_enter Try.func37, Try.ntmps37
  go_wp2
  go_ret
  exact ⟨yer, yhb⟩

 rw [if_pos c3] at H
 have c3b0 : ((l0.length : Int) == (l1.length : Int)) = true := beq_iff_eq.mpr c3
 have c3b1 : ((l0.length : Int) != (l1.length : Int)) = false := bne_eq_false_iff_eq.mpr c3
 have c3b2 : (l0.length == l1.length) = true := by first | simpa using c3 | (simp at c3 ⊢; omega)
 clear c3
 have H' := yam H
 clear H
 go_enter Try.func37, Try.ntmps37
 go_wp2
 go_loopg [5] k (fun kq v5 w' => ∃ (x5_1 : Int), v5 = .int .i64 x5_1 ∧ Aside0 (laws_eqRuleS.l0 kq l0 l1 x5_1 = some r) ∧ Aside0 (kq ≤ k) ∧ Aside0 (Below w.heap.size w w'))
 case atStart => exact ⟨(0), yeq, H', ⟨Nat.le_refl _⟩, ⟨yhb⟩⟩
 case round =>
  clear H'
  try clear c1
  try clear p2
  try clear c3
  try clear c3b0
  try clear c3b1
  try clear c3b2
  obtain ⟨x5_1, rfl, HA, HK1, HB⟩ := hrel
  cases gk with
  | zero => exact absurd HA.out (by simp [laws_eqRuleS.l0])
  | succ k1 =>
   have H := HA.out
   clear HA
   simp only [laws_eqRuleS.l0] at H
   by_cases c4 : x5_1 < (l0.length : Int)
   rotate_left
   ·rw [if_neg c4] at H
    have c4b0 : decide (x5_1 < (l0.length : Int)) = false := decide_eq_false c4
    clear c4
    obtain rfl := Option.some.inj H
    go_wp2
    go_ret
    exact ⟨yer, yhb⟩
   rw [if_pos c4] at H
   have c4b0 : decide (x5_1 < (l0.length : Int)) = true := decide_eq_true c4
   clear c4
   by_cases c5 : 0 ≤ x5_1
   rotate_left
   ·rw [if_neg c5] at H
    exact absurd H (by simp)
   rw [if_pos c5] at H
   have c5b0 : decide (0 ≤ x5_1) = true := decide_eq_true c5
   clear c5
   by_cases c6 : x5_1 < (l1.length : Int)
   rotate_left
   ·rw [if_neg c6] at H
    exact absurd H (by simp)
   rw [if_pos c6] at H
   have c6b0 : decide (x5_1 < (l1.length : Int)) = true := decide_eq_true c6
   clear c6
   replace H := Option.bind_eq_some_iff.mp H
   obtain ⟨t551, A70, H⟩ := H
   try dsimp only at H
   have A7 := yam A70
   clear A70
   by_cases c8 : t551 = true
   rotate_left
   ·replace c8 := Bool.eq_false_iff.mpr c8
    subst c8
    have H1 : (some false) = some r := by rw [if_neg (show ¬ (false = true) by decide)] at H; exact H
    clear H
    have H := H1
    clear H1
    obtain rfl := Option.some.inj H
    try go_wp2
    have n0_ := yam (yed HB.out)
    clear HB
    have HB := n0_
    clear n0_
    have p549 : 0 ≤ (x5_1 : Int) := of_decide_eq_true (by first | (with_reducible assumption) | assumption)
    have q549 : x5_1 < (l0.length : Int) := of_decide_eq_true (by first | (with_reducible assumption) | assumption)
    obtain ⟨ad549, A549_1, c549_1, e549, hx549_0, hx549_1, hx549_2, hl549_1, hi549_1⟩ := at_T67 HR0.out x5_1 p549 q549
    have hw549_2 := hx549_2
    have hw549_1 := hx549_1
    have hw549_0 := hx549_0
    cases e549
    replace hx549_0 := ybx HB.out hx549_0
    replace hx549_1 := ybx HB.out hx549_1
    replace hx549_2 := ybx HB.out hx549_2
    have HR549_1 := yam hi549_1
    have HC549_1 := yam hl549_1
    clear hi549_1 hl549_1
    replace p549 := eq_true p549
    replace q549 := eq_true q549
    have p550 : 0 ≤ (x5_1 : Int) := of_decide_eq_true (by first | (with_reducible assumption) | assumption)
    have q550 : x5_1 < (l1.length : Int) := of_decide_eq_true (by first | (with_reducible assumption) | assumption)
    obtain ⟨ad550, A550_1, c550_1, e550, hx550_0, hx550_1, hx550_2, hl550_1, hi550_1⟩ := at_T67 HR1.out x5_1 p550 q550
    have hw550_2 := hx550_2
    have hw550_1 := hx550_1
    have hw550_0 := hx550_0
    cases e550
    replace hx550_0 := ybx HB.out hx550_0
    replace hx550_1 := ybx HB.out hx550_1
    replace hx550_2 := ybx HB.out hx550_2
    have HR550_1 := yam hi550_1
    have HC550_1 := yam hl550_1
    clear hi550_1 hl550_1
    replace p550 := eq_true p550
    replace q550 := eq_true q550
    refine start_ (n := 10) (S := fun w' => w'.cell? (ad549.add ((x5_1).toNat * 3)) = some (.int .i64 ((rd_T67 l0 x5_1).f0)) ∧ w'.cell? ⟨(ad549.add ((x5_1).toNat * 3)).block, (ad549.add ((x5_1).toNat * 3)).off + 1, none⟩ = some (.slice A549_1 ((rd_T67 l0 x5_1).f1).length c549_1) ∧ w'.cell? ⟨(ad549.add ((x5_1).toNat * 3)).block, (ad549.add ((x5_1).toNat * 3)).off + 2, none⟩ = some (.int .i64 ((rd_T67 l0 x5_1).f2)) ∧ w'.cell? (ad550.add ((x5_1).toNat * 3)) = some (.int .i64 ((rd_T67 l1 x5_1).f0)) ∧ w'.cell? ⟨(ad550.add ((x5_1).toNat * 3)).block, (ad550.add ((x5_1).toNat * 3)).off + 1, none⟩ = some (.slice A550_1 ((rd_T67 l1 x5_1).f1).length c550_1) ∧ w'.cell? ⟨(ad550.add ((x5_1).toNat * 3)).block, (ad550.add ((x5_1).toNat * 3)).off + 2, none⟩ = some (.int .i64 ((rd_T67 l1 x5_1).f2))) (ds := []) #[false, false, false, false, false, false, false, false, false, false] (by kernel_rfl) rfl rfl ⟨((HB.out.cell (World.block_lt_of_cell? w _ hw549_0)).trans hw549_0), ((HB.out.cell (World.block_lt_of_cell? w _ hw549_1)).trans hw549_1), ((HB.out.cell (World.block_lt_of_cell? w _ hw549_2)).trans hw549_2), ((HB.out.cell (World.block_lt_of_cell? w _ hw550_0)).trans hw550_0), ((HB.out.cell (World.block_lt_of_cell? w _ hw550_1)).trans hw550_1), ((HB.out.cell (World.block_lt_of_cell? w _ hw550_2)).trans hw550_2)⟩ (fun hHeld => ?_); refine with_tabW laws_eqRuleS.tab6 laws_eqRuleS.bits6 (fun HT_ HW_ => ?_)
    generalize wr.drew = w11 at HB HR549_1 HR550_1 hx549_0 hx549_1 hx549_2 hx550_0 hx550_1 hx550_2 hHeld ⊢
    refine yvp 0 17 (yvb 10 1) HT_.out ?_
    refine yvp 1 18 (yvb 10 3) HT_.out ?_
    refine yvp 2 19 (yvb 10 7) HT_.out ?_
    refine yvp 4 21 (yvb 10 23) HT_.out ?_
    refine yvp 5 22 (yvb 10 55) HT_.out ?_
    refine yvp 6 23 (yvb 10 119) HT_.out ?_
    refine yvt 3 20 (yvb 10 127) HT_.out HW_.out hHeld ?_
    refine yvt 7 24 (yvb 10 255) HT_.out HW_.out hHeld ?_
    refine one_ (i := 8) (N := some 25) #[true, true, true, true, true, true, true, true, true, false] rfl rfl (one_of HT_.out (by kernel_rfl)) (by decide) (fun K hK => ?_)
    refine goes_ Try.func71 (by kernel_rfl) rfl #[.agg #[.int .i64 ((rd_T67 l0 x5_1).f0), .slice A549_1 ((rd_T67 l0 x5_1).f1).length c549_1, .int .i64 ((rd_T67 l0 x5_1).f2)], .agg #[.int .i64 ((rd_T67 l1 x5_1).f0), .slice A550_1 ((rd_T67 l1 x5_1).f1).length c550_1, .int .i64 ((rd_T67 l1 x5_1).f2)]] (by rfl) rfl rfl (by (try simp only [List.map_toArray, List.map_cons, List.map_nil]); first | done | rfl | (simp only [List.length_drop, List.length_take]; rfl)) ?_
    with_reducible refine (laws_eqRule.calls k1 ((rd_T67 l0 x5_1).f0) _ _ ((rd_T67 l0 x5_1).f1) ((rd_T67 l0 x5_1).f2) ((rd_T67 l1 x5_1).f0) _ _ ((rd_T67 l1 x5_1).f1) ((rd_T67 l1 x5_1).f2) false _ ?side1 ?side2 ?side3 ?side4 A7.out).mono ?_
    (case side1 => exact Kd.Cz ((Kd.C_below HR549_1.out HB.out)))
    (case side2 => exact HC549_1.out)
    (case side3 => exact Kd.Cz ((Kd.C_below HR550_1.out HB.out)))
    (case side4 => exact HC550_1.out)
    rintro e w12 ⟨rfl, hb⟩
    refine ⟨_, rfl, ?_⟩
    have n0_ := yam (below_step (yez HB.out) hb)
    clear HB
    have HB := n0_
    clear n0_
    (try clear hb)
    (try clear hb2)
    (try clear hk)
    (try clear hi)
    refine hK.out _ _ ⟨((HB.out.cell (World.block_lt_of_cell? w _ hw549_0)).trans hw549_0), ((HB.out.cell (World.block_lt_of_cell? w _ hw549_1)).trans hw549_1), ((HB.out.cell (World.block_lt_of_cell? w _ hw549_2)).trans hw549_2), ((HB.out.cell (World.block_lt_of_cell? w _ hw550_0)).trans hw550_0), ((HB.out.cell (World.block_lt_of_cell? w _ hw550_1)).trans hw550_1), ((HB.out.cell (World.block_lt_of_cell? w _ hw550_2)).trans hw550_2)⟩ (fun hHeld => ?_)
    clear hK K
    refine norm_ (a' := ?_) ?_ ?_
    rotate_left
    ·show Act.put _ (some 25) _ = _
     simp only [Act.put, yps, i64_w, i32_w]
     rfl
    refine yvp 9 26 (yvb 10 1023) HT_.out ?_
    refine done_ (done_of HT_.out (by kernel_rfl)) ?_
    try go_wp2
    go_ret
    exact ⟨yer, yhb⟩
   subst c8
   have H1 : (laws_eqRuleS.l0 k1 l0 l1 (wrap64 (x5_1 + 1))) = some r := by rw [if_pos rfl] at H; exact H
   clear H
   have H := H1
   clear H1
   have H' := yam H
   clear H
   try go_wp2
   have n0_ := yam (yed HB.out)
   clear HB
   have HB := n0_
   clear n0_
   have p549 : 0 ≤ (x5_1 : Int) := of_decide_eq_true (by first | (with_reducible assumption) | assumption)
   have q549 : x5_1 < (l0.length : Int) := of_decide_eq_true (by first | (with_reducible assumption) | assumption)
   obtain ⟨ad549, A549_1, c549_1, e549, hx549_0, hx549_1, hx549_2, hl549_1, hi549_1⟩ := at_T67 HR0.out x5_1 p549 q549
   have hw549_2 := hx549_2
   have hw549_1 := hx549_1
   have hw549_0 := hx549_0
   cases e549
   replace hx549_0 := ybx HB.out hx549_0
   replace hx549_1 := ybx HB.out hx549_1
   replace hx549_2 := ybx HB.out hx549_2
   have HR549_1 := yam hi549_1
   have HC549_1 := yam hl549_1
   clear hi549_1 hl549_1
   replace p549 := eq_true p549
   replace q549 := eq_true q549
   have p550 : 0 ≤ (x5_1 : Int) := of_decide_eq_true (by first | (with_reducible assumption) | assumption)
   have q550 : x5_1 < (l1.length : Int) := of_decide_eq_true (by first | (with_reducible assumption) | assumption)
   obtain ⟨ad550, A550_1, c550_1, e550, hx550_0, hx550_1, hx550_2, hl550_1, hi550_1⟩ := at_T67 HR1.out x5_1 p550 q550
   have hw550_2 := hx550_2
   have hw550_1 := hx550_1
   have hw550_0 := hx550_0
   cases e550
   replace hx550_0 := ybx HB.out hx550_0
   replace hx550_1 := ybx HB.out hx550_1
   replace hx550_2 := ybx HB.out hx550_2
   have HR550_1 := yam hi550_1
   have HC550_1 := yam hl550_1
   clear hi550_1 hl550_1
   replace p550 := eq_true p550
   replace q550 := eq_true q550
   refine start_ (n := 10) (S := fun w' => w'.cell? (ad549.add ((x5_1).toNat * 3)) = some (.int .i64 ((rd_T67 l0 x5_1).f0)) ∧ w'.cell? ⟨(ad549.add ((x5_1).toNat * 3)).block, (ad549.add ((x5_1).toNat * 3)).off + 1, none⟩ = some (.slice A549_1 ((rd_T67 l0 x5_1).f1).length c549_1) ∧ w'.cell? ⟨(ad549.add ((x5_1).toNat * 3)).block, (ad549.add ((x5_1).toNat * 3)).off + 2, none⟩ = some (.int .i64 ((rd_T67 l0 x5_1).f2)) ∧ w'.cell? (ad550.add ((x5_1).toNat * 3)) = some (.int .i64 ((rd_T67 l1 x5_1).f0)) ∧ w'.cell? ⟨(ad550.add ((x5_1).toNat * 3)).block, (ad550.add ((x5_1).toNat * 3)).off + 1, none⟩ = some (.slice A550_1 ((rd_T67 l1 x5_1).f1).length c550_1) ∧ w'.cell? ⟨(ad550.add ((x5_1).toNat * 3)).block, (ad550.add ((x5_1).toNat * 3)).off + 2, none⟩ = some (.int .i64 ((rd_T67 l1 x5_1).f2))) (ds := []) #[false, false, false, false, false, false, false, false, false, false] (by kernel_rfl) rfl rfl ⟨((HB.out.cell (World.block_lt_of_cell? w _ hw549_0)).trans hw549_0), ((HB.out.cell (World.block_lt_of_cell? w _ hw549_1)).trans hw549_1), ((HB.out.cell (World.block_lt_of_cell? w _ hw549_2)).trans hw549_2), ((HB.out.cell (World.block_lt_of_cell? w _ hw550_0)).trans hw550_0), ((HB.out.cell (World.block_lt_of_cell? w _ hw550_1)).trans hw550_1), ((HB.out.cell (World.block_lt_of_cell? w _ hw550_2)).trans hw550_2)⟩ (fun hHeld => ?_); refine with_tabW laws_eqRuleS.tab6 laws_eqRuleS.bits6 (fun HT_ HW_ => ?_)
   generalize wr.drew = w9 at HB HR549_1 HR550_1 hx549_0 hx549_1 hx549_2 hx550_0 hx550_1 hx550_2 hHeld ⊢
   refine yvp 0 17 (yvb 10 1) HT_.out ?_
   refine yvp 1 18 (yvb 10 3) HT_.out ?_
   refine yvp 2 19 (yvb 10 7) HT_.out ?_
   refine yvp 4 21 (yvb 10 23) HT_.out ?_
   refine yvp 5 22 (yvb 10 55) HT_.out ?_
   refine yvp 6 23 (yvb 10 119) HT_.out ?_
   refine yvt 3 20 (yvb 10 127) HT_.out HW_.out hHeld ?_
   refine yvt 7 24 (yvb 10 255) HT_.out HW_.out hHeld ?_
   refine one_ (i := 8) (N := some 25) #[true, true, true, true, true, true, true, true, true, false] rfl rfl (one_of HT_.out (by kernel_rfl)) (by decide) (fun K hK => ?_)
   refine goes_ Try.func71 (by kernel_rfl) rfl #[.agg #[.int .i64 ((rd_T67 l0 x5_1).f0), .slice A549_1 ((rd_T67 l0 x5_1).f1).length c549_1, .int .i64 ((rd_T67 l0 x5_1).f2)], .agg #[.int .i64 ((rd_T67 l1 x5_1).f0), .slice A550_1 ((rd_T67 l1 x5_1).f1).length c550_1, .int .i64 ((rd_T67 l1 x5_1).f2)]] (by rfl) rfl rfl (by (try simp only [List.map_toArray, List.map_cons, List.map_nil]); first | done | rfl | (simp only [List.length_drop, List.length_take]; rfl)) ?_
   with_reducible refine (laws_eqRule.calls k1 ((rd_T67 l0 x5_1).f0) _ _ ((rd_T67 l0 x5_1).f1) ((rd_T67 l0 x5_1).f2) ((rd_T67 l1 x5_1).f0) _ _ ((rd_T67 l1 x5_1).f1) ((rd_T67 l1 x5_1).f2) true _ ?side1 ?side2 ?side3 ?side4 A7.out).mono ?_
   (case side1 => exact Kd.Cz ((Kd.C_below HR549_1.out HB.out)))
   (case side2 => exact HC549_1.out)
   (case side3 => exact Kd.Cz ((Kd.C_below HR550_1.out HB.out)))
   (case side4 => exact HC550_1.out)
   rintro e w10 ⟨rfl, hb⟩
   refine ⟨_, rfl, ?_⟩
   have n0_ := yam (below_step (yez HB.out) hb)
   clear HB
   have HB := n0_
   clear n0_
   (try clear hb)
   (try clear hb2)
   (try clear hk)
   (try clear hi)
   refine hK.out _ _ ⟨((HB.out.cell (World.block_lt_of_cell? w _ hw549_0)).trans hw549_0), ((HB.out.cell (World.block_lt_of_cell? w _ hw549_1)).trans hw549_1), ((HB.out.cell (World.block_lt_of_cell? w _ hw549_2)).trans hw549_2), ((HB.out.cell (World.block_lt_of_cell? w _ hw550_0)).trans hw550_0), ((HB.out.cell (World.block_lt_of_cell? w _ hw550_1)).trans hw550_1), ((HB.out.cell (World.block_lt_of_cell? w _ hw550_2)).trans hw550_2)⟩ (fun hHeld => ?_)
   clear hK K
   refine norm_ (a' := ?_) ?_ ?_
   rotate_left
   ·show Act.put _ (some 25) _ = _
    simp only [Act.put, yps, i64_w, i32_w]
    rfl
   refine yvp 9 26 (yvb 10 1023) HT_.out ?_
   refine done_ (done_of HT_.out (by kernel_rfl)) ?_
   try go_wp2
   go_roundg k1
   case measure => have := HK1.out; omega
   case rel => exact ⟨(wrap64 (x5_1 + 1)), yeq, H', ⟨by have := HK1.out; omega⟩, ⟨yhb⟩⟩
/-! ### laws_eqPuzzle: function 14 -/
def laws_eqPuzzle.f (k : Nat) (a0_0 : Int) (l0_1 : List Int) (l0_2 : List (S67)) (a1_0 : Int) (l1_1 : List Int) (l1_2 : List (S67)) : Option (Bool) := if a0_0 = a1_0 then ((laws_eqIntS.f k l0_1 l1_1).bind fun t554 => (if t554 = true then ((laws_eqRuleS.f k l0_2 l1_2).bind fun t555 => (if t555 = true then (some true) else (some false))) else (some false))) else (some false)
set_option maxHeartbeats 8000000 in
set_option maxRecDepth 100000 in
theorem laws_eqPuzzle.calls (k : Nat) (a0_0 : Int) (A0_1 : Option Addr) (c0_1 : Nat) (l0_1 : List Int) (A0_2 : Option Addr) (c0_2 : Nat) (l0_2 : List (S67)) (a1_0 : Int) (A1_1 : Option Addr) (c1_1 : Nat) (l1_1 : List Int) (A1_2 : Option Addr) (c1_2 : Nat) (l1_2 : List (S67)) (r : Bool) (w : World) (hr0_1 : Kd.C (Kd.int .i64) w A0_1 l0_1.length l0_1) (hc0_1 : l0_1.length ≤ c0_1) (hr0_2 : Kd.C k67 w A0_2 l0_2.length l0_2) (hc0_2 : l0_2.length ≤ c0_2) (hr1_1 : Kd.C (Kd.int .i64) w A1_1 l1_1.length l1_1) (hc1_1 : l1_1.length ≤ c1_1) (hr1_2 : Kd.C k67 w A1_2 l1_2.length l1_2) (hc1_2 : l1_2.length ≤ c1_2) (h : laws_eqPuzzle.f k a0_0 l0_1 l0_2 a1_0 l1_1 l1_2 = some r) :
  Calls Try.prog 14 #[.agg #[.int .i64 a0_0, .slice A0_1 l0_1.length c0_1, .slice A0_2 l0_2.length c0_2], .agg #[.int .i64 a1_0, .slice A1_1 l1_1.length c1_1, .slice A1_2 l1_2.length c1_2]] w fun e w' => e = .returned (.bool r) ∧ Below w.heap.size w w' := by
 have hu30 := Try.underlying30
 have HR0_1 := yam hr0_1
 have HC0_1 := yam hc0_1
 clear hr0_1 hc0_1
 have HR0_2 := yam hr0_2
 have HC0_2 := yam hc0_2
 clear hr0_2 hc0_2
 have HR1_1 := yam hr1_1
 have HC1_1 := yam hc1_1
 clear hr1_1 hc1_1
 have HR1_2 := yam hr1_2
 have HC1_2 := yam hc1_2
 clear hr1_2 hc1_2
 have HB := yam (Below.refl w.heap.size w)
 have H : (if a0_0 = a1_0 then ((laws_eqIntS.f k l0_1 l1_1).bind fun t554 => (if t554 = true then ((laws_eqRuleS.f k l0_2 l1_2).bind fun t555 => (if t555 = true then (some true) else (some false))) else (some false))) else (some false)) = some r := h
 clear h
 by_cases c3 : a0_0 = a1_0
 rotate_left
 ·rw [if_neg c3] at H
  have c3b0 : (a0_0 == a1_0) = false := beq_eq_false_iff_ne.mpr c3
  have c3b1 : (a0_0 != a1_0) = true := bne_iff_ne.mpr c3
  obtain rfl := Option.some.inj H
  go_enter Try.func14, Try.ntmps14
  go_wp2_with (first | ((with_reducible refine gate_dst (N := 2) rfl ?_); refine box_event ?hg (N := 2) ?hd (cs := #[.int .i64 a0_0, .slice A0_1 l0_1.length c0_1, .slice A0_2 l0_2.length c0_2]) (t := 30) ?hr ?_; (case hd => rfl); (case hg => rfl); (case hr => first | (go_simp; done) | (go_simp; rfl)); intro gb552 hg w25 hbox hb; have n0_ := yam (below_step (yez HB.out) hb); have n1_ := yam (hbox); have n2_ := yam ((by rw [hg]; exact (below_size (yez HB.out)) : w.heap.size ≤ gb552)); have n3_ := n2_; clear HB; have HB := n0_; have BK552 := n1_; have GW552 := n2_; have GE552 := n3_; clear n0_ n1_ n2_ n3_; clear hb hbox hg) | ((with_reducible refine gate_dst (N := 3) rfl ?_); refine box_event ?hg (N := 3) ?hd (cs := #[.int .i64 a1_0, .slice A1_1 l1_1.length c1_1, .slice A1_2 l1_2.length c1_2]) (t := 30) ?hr ?_; (case hd => rfl); (case hg => rfl); (case hr => first | (go_simp; done) | (go_simp; rfl)); intro gb553 hg w26 hbox hb; have n0_ := yam (blk_below (g := gb552) (o := .cells #[.int .i64 a0_0, .slice A0_1 l0_1.length c0_1, .slice A0_2 l0_2.length c0_2] 30 (0, 0)) (ybz BK552.out) hb); have n1_ := yam (below_step yhb hb); have n2_ := yam (hbox); have n3_ := yam ((by rw [hg]; exact (below_size yhb) : w.heap.size ≤ gb553)); have n4_ := n3_; have n5_ := yam ((by rw [hg]; exact Nat.ne_of_lt (blk_lt (g := gb552) (o := .cells #[.int .i64 a0_0, .slice A0_1 l0_1.length c0_1, .slice A0_2 l0_2.length c0_2] 30 (0, 0)) (ybz BK552.out)) : gb552 ≠ gb553)); have n6_ := yam ((by rw [hg]; exact Nat.ne_of_gt (blk_lt (g := gb552) (o := .cells #[.int .i64 a0_0, .slice A0_1 l0_1.length c0_1, .slice A0_2 l0_2.length c0_2] 30 (0, 0)) (ybz BK552.out)) : gb553 ≠ gb552)); clear BK552; clear HB; have BK552 := n0_; have HB := n1_; have BK553 := n2_; have GW553 := n3_; have GE553 := n4_; have NB552_553 := n5_; have NB553_552 := n6_; clear n0_ n1_ n2_ n3_ n4_ n5_ n6_; clear hb hbox hg; have hnb27 := NB552_553.out; have hnc27 := NB553_552.out; obtain ⟨hcz28_0, hcz28_1, hcz28_2, hfz28_0, hfz28_1, hfz28_2⟩ := ybc BK552.out; obtain ⟨hcz29_0, hcz29_1, hcz29_2, hfz29_0, hfz29_1, hfz29_2⟩ := ybc BK553.out))
  go_ret
  exact ⟨yer, yhb⟩

 rw [if_pos c3] at H
 have c3b0 : (a0_0 == a1_0) = true := beq_iff_eq.mpr c3
 have c3b1 : (a0_0 != a1_0) = false := bne_eq_false_iff_eq.mpr c3
 clear c3
 replace H := Option.bind_eq_some_iff.mp H
 obtain ⟨t554, A40, H⟩ := H
 try dsimp only at H
 have A4 := yam A40
 clear A40
 by_cases c5 : t554 = true
 rotate_left
 ·replace c5 := Bool.eq_false_iff.mpr c5
  subst c5
  have H1 : (some false) = some r := by rw [if_neg (show ¬ (false = true) by decide)] at H; exact H
  clear H
  have H := H1
  clear H1
  obtain rfl := Option.some.inj H
  go_enter Try.func14, Try.ntmps14
  go_wp2_with (first | ((with_reducible refine gate_dst (N := 2) rfl ?_); refine box_event ?hg (N := 2) ?hd (cs := #[.int .i64 a0_0, .slice A0_1 l0_1.length c0_1, .slice A0_2 l0_2.length c0_2]) (t := 30) ?hr ?_; (case hd => rfl); (case hg => rfl); (case hr => first | (go_simp; done) | (go_simp; rfl)); intro gb552 hg w20 hbox hb; have n0_ := yam (below_step (yez HB.out) hb); have n1_ := yam (hbox); have n2_ := yam ((by rw [hg]; exact (below_size (yez HB.out)) : w.heap.size ≤ gb552)); have n3_ := n2_; clear HB; have HB := n0_; have BK552 := n1_; have GW552 := n2_; have GE552 := n3_; clear n0_ n1_ n2_ n3_; clear hb hbox hg) | ((with_reducible refine gate_dst (N := 3) rfl ?_); refine box_event ?hg (N := 3) ?hd (cs := #[.int .i64 a1_0, .slice A1_1 l1_1.length c1_1, .slice A1_2 l1_2.length c1_2]) (t := 30) ?hr ?_; (case hd => rfl); (case hg => rfl); (case hr => first | (go_simp; done) | (go_simp; rfl)); intro gb553 hg w21 hbox hb; have n0_ := yam (blk_below (g := gb552) (o := .cells #[.int .i64 a0_0, .slice A0_1 l0_1.length c0_1, .slice A0_2 l0_2.length c0_2] 30 (0, 0)) (ybz BK552.out) hb); have n1_ := yam (below_step yhb hb); have n2_ := yam (hbox); have n3_ := yam ((by rw [hg]; exact (below_size yhb) : w.heap.size ≤ gb553)); have n4_ := n3_; have n5_ := yam ((by rw [hg]; exact Nat.ne_of_lt (blk_lt (g := gb552) (o := .cells #[.int .i64 a0_0, .slice A0_1 l0_1.length c0_1, .slice A0_2 l0_2.length c0_2] 30 (0, 0)) (ybz BK552.out)) : gb552 ≠ gb553)); have n6_ := yam ((by rw [hg]; exact Nat.ne_of_gt (blk_lt (g := gb552) (o := .cells #[.int .i64 a0_0, .slice A0_1 l0_1.length c0_1, .slice A0_2 l0_2.length c0_2] 30 (0, 0)) (ybz BK552.out)) : gb553 ≠ gb552)); clear BK552; clear HB; have BK552 := n0_; have HB := n1_; have BK553 := n2_; have GW553 := n3_; have GE553 := n4_; have NB552_553 := n5_; have NB553_552 := n6_; clear n0_ n1_ n2_ n3_ n4_ n5_ n6_; clear hb hbox hg; have hnb22 := NB552_553.out; have hnc22 := NB553_552.out; obtain ⟨hcz23_0, hcz23_1, hcz23_2, hfz23_0, hfz23_1, hfz23_2⟩ := ybc BK552.out; obtain ⟨hcz24_0, hcz24_1, hcz24_2, hfz24_0, hfz24_1, hfz24_2⟩ := ybc BK553.out) | ((with_reducible refine gate_callee (f := 13) rfl ?_); refine goesL_ (some 14) rfl rfl Try.func13 (by kernel_rfl) rfl #[.slice A0_1 l0_1.length c0_1, .slice A1_1 l1_1.length c1_1] rfl (by (try simp only [List.map_toArray, List.map_cons, List.map_nil]); first | done | rfl | (simp only [List.length_drop, List.length_take]; rfl)) ?_; (with_reducible refine (laws_eqIntS.calls k _ _ l0_1 _ _ l1_1 false _ ?side1 ?side2 ?side3 ?side4 A4.out).mono ?_); (case side1 => exact Kd.Cz ((Kd.C_below HR0_1.out HB.out))); (case side2 => exact HC0_1.out); (case side3 => exact Kd.Cz ((Kd.C_below HR1_1.out HB.out))); (case side4 => exact HC1_1.out); rintro e w' ⟨rfl, ⟨nd, rfl⟩⟩; refine ⟨_, rfl, ?_⟩))
  go_ret
  exact ⟨yer, yhb⟩
 subst c5
 have H1 : ((laws_eqRuleS.f k l0_2 l1_2).bind fun t555 => (if t555 = true then (some true) else (some false))) = some r := by rw [if_pos rfl] at H; exact H
 clear H
 have H := H1
 clear H1
 replace H := Option.bind_eq_some_iff.mp H
 obtain ⟨t555, A60, H⟩ := H
 try dsimp only at H
 have A6 := yam A60
 clear A60
 by_cases c7 : t555 = true
 ·subst c7
  have H1 : (some true) = some r := by rw [if_pos rfl] at H; exact H
  clear H
  have H := H1
  clear H1
  obtain rfl := Option.some.inj H
  go_enter Try.func14, Try.ntmps14
  go_wp2_with (first | ((with_reducible refine gate_dst (N := 2) rfl ?_); refine box_event ?hg (N := 2) ?hd (cs := #[.int .i64 a0_0, .slice A0_1 l0_1.length c0_1, .slice A0_2 l0_2.length c0_2]) (t := 30) ?hr ?_; (case hd => rfl); (case hg => rfl); (case hr => first | (go_simp; done) | (go_simp; rfl)); intro gb552 hg w8 hbox hb; have n0_ := yam (below_step (yez HB.out) hb); have n1_ := yam (hbox); have n2_ := yam ((by rw [hg]; exact (below_size (yez HB.out)) : w.heap.size ≤ gb552)); have n3_ := n2_; clear HB; have HB := n0_; have BK552 := n1_; have GW552 := n2_; have GE552 := n3_; clear n0_ n1_ n2_ n3_; clear hb hbox hg) | ((with_reducible refine gate_dst (N := 3) rfl ?_); refine box_event ?hg (N := 3) ?hd (cs := #[.int .i64 a1_0, .slice A1_1 l1_1.length c1_1, .slice A1_2 l1_2.length c1_2]) (t := 30) ?hr ?_; (case hd => rfl); (case hg => rfl); (case hr => first | (go_simp; done) | (go_simp; rfl)); intro gb553 hg w9 hbox hb; have n0_ := yam (blk_below (g := gb552) (o := .cells #[.int .i64 a0_0, .slice A0_1 l0_1.length c0_1, .slice A0_2 l0_2.length c0_2] 30 (0, 0)) (ybz BK552.out) hb); have n1_ := yam (below_step yhb hb); have n2_ := yam (hbox); have n3_ := yam ((by rw [hg]; exact (below_size yhb) : w.heap.size ≤ gb553)); have n4_ := n3_; have n5_ := yam ((by rw [hg]; exact Nat.ne_of_lt (blk_lt (g := gb552) (o := .cells #[.int .i64 a0_0, .slice A0_1 l0_1.length c0_1, .slice A0_2 l0_2.length c0_2] 30 (0, 0)) (ybz BK552.out)) : gb552 ≠ gb553)); have n6_ := yam ((by rw [hg]; exact Nat.ne_of_gt (blk_lt (g := gb552) (o := .cells #[.int .i64 a0_0, .slice A0_1 l0_1.length c0_1, .slice A0_2 l0_2.length c0_2] 30 (0, 0)) (ybz BK552.out)) : gb553 ≠ gb552)); clear BK552; clear HB; have BK552 := n0_; have HB := n1_; have BK553 := n2_; have GW553 := n3_; have GE553 := n4_; have NB552_553 := n5_; have NB553_552 := n6_; clear n0_ n1_ n2_ n3_ n4_ n5_ n6_; clear hb hbox hg; have hnb10 := NB552_553.out; have hnc10 := NB553_552.out; obtain ⟨hcz11_0, hcz11_1, hcz11_2, hfz11_0, hfz11_1, hfz11_2⟩ := ybc BK552.out; obtain ⟨hcz12_0, hcz12_1, hcz12_2, hfz12_0, hfz12_1, hfz12_2⟩ := ybc BK553.out) | ((with_reducible refine gate_callee (f := 13) rfl ?_); refine goesL_ (some 14) rfl rfl Try.func13 (by kernel_rfl) rfl #[.slice A0_1 l0_1.length c0_1, .slice A1_1 l1_1.length c1_1] rfl (by (try simp only [List.map_toArray, List.map_cons, List.map_nil]); first | done | rfl | (simp only [List.length_drop, List.length_take]; rfl)) ?_; (with_reducible refine (laws_eqIntS.calls k _ _ l0_1 _ _ l1_1 true _ ?side1 ?side2 ?side3 ?side4 A4.out).mono ?_); (case side1 => exact Kd.Cz ((Kd.C_below HR0_1.out HB.out))); (case side2 => exact HC0_1.out); (case side3 => exact Kd.Cz ((Kd.C_below HR1_1.out HB.out))); (case side4 => exact HC1_1.out); rintro e w' ⟨rfl, ⟨nd, rfl⟩⟩; refine ⟨_, rfl, ?_⟩) | ((with_reducible refine gate_callee (f := 37) rfl ?_); refine goesL_ (some 20) rfl rfl Try.func37 (by kernel_rfl) rfl #[.slice A0_2 l0_2.length c0_2, .slice A1_2 l1_2.length c1_2] rfl (by (try simp only [List.map_toArray, List.map_cons, List.map_nil]); first | done | rfl | (simp only [List.length_drop, List.length_take]; rfl)) ?_; (with_reducible refine (laws_eqRuleS.calls k _ _ l0_2 _ _ l1_2 true _ ?side1 ?side2 ?side3 ?side4 A6.out).mono ?_); (case side1 => repeat (first | exact (Kd.C_below HR0_2.out yhb) | (with_reducible refine Kd.C_alloc ?_ _) | (with_reducible refine Kd.C_drewN ?_ _) | (with_reducible refine Kd.C_drew ?_))); (case side2 => exact HC0_2.out); (case side3 => repeat (first | exact (Kd.C_below HR1_2.out yhb) | (with_reducible refine Kd.C_alloc ?_ _) | (with_reducible refine Kd.C_drewN ?_ _) | (with_reducible refine Kd.C_drew ?_))); (case side4 => exact HC1_2.out); rintro e w13 ⟨rfl, hb⟩; refine ⟨_, rfl, ?_⟩; have n0_ := yam (blk_below (g := gb552) (o := .cells #[.int .i64 a0_0, .slice A0_1 l0_1.length c0_1, .slice A0_2 l0_2.length c0_2] 30 (0, 0)) (ybz BK552.out) hb); have n1_ := yam (blk_below (g := gb553) (o := .cells #[.int .i64 a1_0, .slice A1_1 l1_1.length c1_1, .slice A1_2 l1_2.length c1_2] 30 (0, 0)) (ybz BK553.out) hb); have n2_ := yam (below_step yhb hb); clear BK552; clear BK553; clear HB; have BK552 := n0_; have BK553 := n1_; have HB := n2_; clear n0_ n1_ n2_; (try clear hb); (try clear hb2); (try clear hk); (try clear hi)))
  go_ret
  exact ⟨yer, yhb⟩
 replace c7 := Bool.eq_false_iff.mpr c7
 subst c7
 have H1 : (some false) = some r := by rw [if_neg (show ¬ (false = true) by decide)] at H; exact H
 clear H
 have H := H1
 clear H1
 obtain rfl := Option.some.inj H
 go_enter Try.func14, Try.ntmps14
 go_wp2_with (first | ((with_reducible refine gate_dst (N := 2) rfl ?_); refine box_event ?hg (N := 2) ?hd (cs := #[.int .i64 a0_0, .slice A0_1 l0_1.length c0_1, .slice A0_2 l0_2.length c0_2]) (t := 30) ?hr ?_; (case hd => rfl); (case hg => rfl); (case hr => first | (go_simp; done) | (go_simp; rfl)); intro gb552 hg w14 hbox hb; have n0_ := yam (below_step (yez HB.out) hb); have n1_ := yam (hbox); have n2_ := yam ((by rw [hg]; exact (below_size (yez HB.out)) : w.heap.size ≤ gb552)); have n3_ := n2_; clear HB; have HB := n0_; have BK552 := n1_; have GW552 := n2_; have GE552 := n3_; clear n0_ n1_ n2_ n3_; clear hb hbox hg) | ((with_reducible refine gate_dst (N := 3) rfl ?_); refine box_event ?hg (N := 3) ?hd (cs := #[.int .i64 a1_0, .slice A1_1 l1_1.length c1_1, .slice A1_2 l1_2.length c1_2]) (t := 30) ?hr ?_; (case hd => rfl); (case hg => rfl); (case hr => first | (go_simp; done) | (go_simp; rfl)); intro gb553 hg w15 hbox hb; have n0_ := yam (blk_below (g := gb552) (o := .cells #[.int .i64 a0_0, .slice A0_1 l0_1.length c0_1, .slice A0_2 l0_2.length c0_2] 30 (0, 0)) (ybz BK552.out) hb); have n1_ := yam (below_step yhb hb); have n2_ := yam (hbox); have n3_ := yam ((by rw [hg]; exact (below_size yhb) : w.heap.size ≤ gb553)); have n4_ := n3_; have n5_ := yam ((by rw [hg]; exact Nat.ne_of_lt (blk_lt (g := gb552) (o := .cells #[.int .i64 a0_0, .slice A0_1 l0_1.length c0_1, .slice A0_2 l0_2.length c0_2] 30 (0, 0)) (ybz BK552.out)) : gb552 ≠ gb553)); have n6_ := yam ((by rw [hg]; exact Nat.ne_of_gt (blk_lt (g := gb552) (o := .cells #[.int .i64 a0_0, .slice A0_1 l0_1.length c0_1, .slice A0_2 l0_2.length c0_2] 30 (0, 0)) (ybz BK552.out)) : gb553 ≠ gb552)); clear BK552; clear HB; have BK552 := n0_; have HB := n1_; have BK553 := n2_; have GW553 := n3_; have GE553 := n4_; have NB552_553 := n5_; have NB553_552 := n6_; clear n0_ n1_ n2_ n3_ n4_ n5_ n6_; clear hb hbox hg; have hnb16 := NB552_553.out; have hnc16 := NB553_552.out; obtain ⟨hcz17_0, hcz17_1, hcz17_2, hfz17_0, hfz17_1, hfz17_2⟩ := ybc BK552.out; obtain ⟨hcz18_0, hcz18_1, hcz18_2, hfz18_0, hfz18_1, hfz18_2⟩ := ybc BK553.out) | ((with_reducible refine gate_callee (f := 13) rfl ?_); refine goesL_ (some 14) rfl rfl Try.func13 (by kernel_rfl) rfl #[.slice A0_1 l0_1.length c0_1, .slice A1_1 l1_1.length c1_1] rfl (by (try simp only [List.map_toArray, List.map_cons, List.map_nil]); first | done | rfl | (simp only [List.length_drop, List.length_take]; rfl)) ?_; (with_reducible refine (laws_eqIntS.calls k _ _ l0_1 _ _ l1_1 true _ ?side1 ?side2 ?side3 ?side4 A4.out).mono ?_); (case side1 => exact Kd.Cz ((Kd.C_below HR0_1.out HB.out))); (case side2 => exact HC0_1.out); (case side3 => exact Kd.Cz ((Kd.C_below HR1_1.out HB.out))); (case side4 => exact HC1_1.out); rintro e w' ⟨rfl, ⟨nd, rfl⟩⟩; refine ⟨_, rfl, ?_⟩) | ((with_reducible refine gate_callee (f := 37) rfl ?_); refine goesL_ (some 20) rfl rfl Try.func37 (by kernel_rfl) rfl #[.slice A0_2 l0_2.length c0_2, .slice A1_2 l1_2.length c1_2] rfl (by (try simp only [List.map_toArray, List.map_cons, List.map_nil]); first | done | rfl | (simp only [List.length_drop, List.length_take]; rfl)) ?_; (with_reducible refine (laws_eqRuleS.calls k _ _ l0_2 _ _ l1_2 false _ ?side1 ?side2 ?side3 ?side4 A6.out).mono ?_); (case side1 => repeat (first | exact (Kd.C_below HR0_2.out yhb) | (with_reducible refine Kd.C_alloc ?_ _) | (with_reducible refine Kd.C_drewN ?_ _) | (with_reducible refine Kd.C_drew ?_))); (case side2 => exact HC0_2.out); (case side3 => repeat (first | exact (Kd.C_below HR1_2.out yhb) | (with_reducible refine Kd.C_alloc ?_ _) | (with_reducible refine Kd.C_drewN ?_ _) | (with_reducible refine Kd.C_drew ?_))); (case side4 => exact HC1_2.out); rintro e w19 ⟨rfl, hb⟩; refine ⟨_, rfl, ?_⟩; have n0_ := yam (blk_below (g := gb552) (o := .cells #[.int .i64 a0_0, .slice A0_1 l0_1.length c0_1, .slice A0_2 l0_2.length c0_2] 30 (0, 0)) (ybz BK552.out) hb); have n1_ := yam (blk_below (g := gb553) (o := .cells #[.int .i64 a1_0, .slice A1_1 l1_1.length c1_1, .slice A1_2 l1_2.length c1_2] 30 (0, 0)) (ybz BK553.out) hb); have n2_ := yam (below_step yhb hb); clear BK552; clear BK553; clear HB; have BK552 := n0_; have BK553 := n1_; have HB := n2_; clear n0_ n1_ n2_; (try clear hb); (try clear hb2); (try clear hk); (try clear hi)))
 go_ret
 exact ⟨yer, yhb⟩
/-! ### laws_markIntS: function 16 -/
def laws_markIntS.l0 : Nat → List Int → Int → Int → Option (Int × List Int)
 | 0, _, _, _ => none
 | k + 1, x0, x1, x5 => if x5 < (x0.length : Int) then (if 0 ≤ x5 then (laws_markIntS.l0 k (x0.set (x5 : Int).toNat x1) (wrap64 (x1 + 1)) (wrap64 (x5 + 1))) else (none)) else (some (x1, x0))
def laws_markIntS.f (k : Nat) (l0 : List Int) (a1 : Int) : Option (Int × List Int) := laws_markIntS.l0 k l0 a1 0
set_option maxHeartbeats 8000000 in
set_option maxRecDepth 100000 in
theorem laws_markIntS.calls (k : Nat) (P0_ : Nat → Prop) (u9000_ : Value) (l0 : List Int) (a1 : Int) (r1 : Int) (r2 : List Int) (w0 w : World) (hB : Below w0.heap.size w0 w) (ho0 : Kd.R (Kd.int .i64) 3 w w0.heap.size P0_ u9000_ l0) (h : laws_markIntS.f k l0 a1 = some (r1, r2)) :
  Calls Try.prog 16 #[u9000_, .int .i64 a1] w fun e w' => e = .returned (.int .i64 r1) ∧ Kd.R (Kd.int .i64) 3 w' w0.heap.size (fun k_ => (P0_ k_ ∨ w.heap.size ≤ k_)) u9000_ r2 ∧ Below w0.heap.size w0 w' ∧ Kept w w' (fun k_ => P0_ k_) := by
 have HO0 := yam (show Kd.R (Kd.int .i64) 3 w w0.heap.size (fun k_ => (P0_ k_ ∨ w.heap.size ≤ k_)) u9000_ l0 from Kd.R_mono ho0 (fun k_ hk => (.inl hk)))
 have HK := yam (Kept.refl w (fun k_ => P0_ k_))
 have HW0 := yam hB.size
 have HB := yam hB
 clear hB
 have H : (laws_markIntS.l0 k l0 a1 0) = some (r1, r2) := h
 clear h
 have H' := yam H
 clear H
 go_enter Try.func16, Try.ntmps16
 go_wp2
 go_loopg [1, 5] k (fun kq v1 v5 w' => ∃ (x0_1 : List Int) (x1_1 : Int) (x5_1 : Int), v1 = .int .i64 x1_1 ∧ v5 = .int .i64 x5_1 ∧ Aside0 (laws_markIntS.l0 kq x0_1 x1_1 x5_1 = some (r1, r2)) ∧ Aside0 (kq ≤ k) ∧ Aside0 (Kd.R (Kd.int .i64) 3 w' w0.heap.size (fun k_ => (P0_ k_ ∨ w.heap.size ≤ k_)) u9000_ x0_1) ∧ Aside0 (Kept w w' (fun k_ => P0_ k_)) ∧ Aside0 (Below w0.heap.size w0 w'))
 case atStart => exact ⟨(l0), (a1), (0), yeq, yeq, H', ⟨Nat.le_refl _⟩, ⟨by (with_reducible repeat (first | apply Kd.Ya | apply Kd.Yn | apply Kd.Yd)); exact HO0.out⟩, ⟨by repeat (first | (with_reducible first | exact HK.out | apply Kept.alloc | apply Kept.drewN | apply Kept.drew) | exact HK.out)⟩, ⟨yhb⟩⟩
 case round =>
  clear H'
  try clear c1
  try clear p2
  obtain ⟨x0_1, x1_1, x5_1, rfl, rfl, HA, HK1, HO_0, HK, HB⟩ := hrel
  cases gk with
  | zero => exact absurd HA.out (by simp [laws_markIntS.l0])
  | succ k1 =>
   have H := HA.out
   clear HA
   simp only [laws_markIntS.l0] at H
   by_cases c3 : x5_1 < (x0_1.length : Int)
   rotate_left
   ·rw [if_neg c3] at H
    have c3b0 : decide (x5_1 < (x0_1.length : Int)) = false := decide_eq_false c3
    clear c3
    simp only [Option.some.injEq, Prod.mk.injEq] at H
    obtain ⟨rfl, rfl⟩ := H
    obtain ⟨Ao9, co9, eo9⟩ := Kd.R_slice HO_0.out
    subst eo9
    go_wp2
    go_ret
    exact ⟨yer, by (with_reducible repeat (first | apply Kd.Ya | apply Kd.Yn | apply Kd.Yd)); exact HO_0.out, yhb, by repeat (first | (with_reducible first | exact HK.out | apply Kept.alloc | apply Kept.drewN | apply Kept.drew) | exact HK.out)⟩

   rw [if_pos c3] at H
   have c3b0 : decide (x5_1 < (x0_1.length : Int)) = true := decide_eq_true c3
   clear c3
   by_cases c4 : 0 ≤ x5_1
   rotate_left
   ·rw [if_neg c4] at H
    exact absurd H (by simp)
   rw [if_pos c4] at H
   have c4b0 : decide (0 ≤ x5_1) = true := decide_eq_true c4
   clear c4
   obtain ⟨y556, hy556⟩ : ∃ y_ : List Int, y_ = (x0_1.set (x5_1 : Int).toNat x1_1) := ⟨_, rfl⟩
   replace H : (laws_markIntS.l0 k1 y556 (wrap64 (x1_1 + 1)) (wrap64 (x5_1 + 1))) = some (r1, r2) := by first | (rw [hy556]; with_reducible exact H) | (have H2_ := (Option.bind_some _ _).symm.trans H; rw [hy556]; with_reducible exact H2_) | (have H2_ := (Option.bind_some _ _).symm.trans H; with_reducible exact H2_) | with_reducible exact H | (rw [hy556]; exact H) | exact H
   have Ny556 := yam hy556
   clear hy556
   have H' := yam H
   clear H
   obtain ⟨Ao6, co6, eo6⟩ := Kd.R_slice HO_0.out
   subst eo6
   have p5 : 0 ≤ (x5_1 : Int) := of_decide_eq_true (by first | (with_reducible assumption) | assumption)
   have q5 : (x5_1 : Int) < ((x0_1.length : Int) : Int) := of_decide_eq_true (by first | (with_reducible assumption) | assumption)
   obtain ⟨go5, co5, eo5, gb5, gl5, cl5, HG5⟩ := Kd.R_form HO_0.out (by omega)
   (first | cases eo5 | (injection eo5 with ea_ en_ ec_; (first | subst ea_ | (injection ea_ with ea_; subst ea_)); subst ec_; clear en_))
   have GB5 := yam gb5
   have GG5 := yam HG5
   clear gb5 gl5 HG5
   have HMgo5 := yam (show (P0_ go5 ∨ w.heap.size ≤ go5) from (HO_0.out.1 _ rfl))
   obtain ⟨hx5_0, hf5_0⟩ := Kd.R_celln 0 HO_0.out (x5_1 : Int) p5 q5
   replace p5 := eq_true p5
   replace q5 := eq_true q5
   have HP7 := Kd.R_putg HO_0.out (x5_1 : Int) x1_1
   go_wp2_with (first | ((with_reducible refine gate_store (t := 3) (p := 15) rfl ?_); refine store_event (t := 3) (p := 15) (v := ?vo_w8) (w1 := (wr.setCell ⟨go5, (x5_1 : Int).toNat, none⟩ (.int .i64 x1_1))) ?hg ?ho ?hn ?hr ?_; (case ho => rfl); (case hg => rfl); (case hn => rfl); (case hr => first | (go_simp; done) | (go_simp; rfl)); intro w8 hw; have hg : wr.grownBy w8 (some go5) := (by rw [hw]; exact HP7.2); have hp_ : Kd.R (Kd.int .i64) 3 w8 w0.heap.size (fun k_ => (P0_ k_ ∨ w.heap.size ≤ k_)) (.slice (some ⟨go5, 0, none⟩) x0_1.length co6) y556 := (by rw [hw, Ny556.out]; exact HP7.1); clear HP7; have n0_ := yam (hp_); have n1_ := yam ((by rw [hw]; exact below_set (HB.out) GB5.out : Below w0.heap.size w0 w8)); have n2_ := yam (Kept.of_grown (S := (fun k_ => P0_ k_)) hg (by repeat (first | (with_reducible first | exact HK.out | apply Kept.alloc | apply Kept.drewN | apply Kept.drew) | exact HK.out)) (fun k_ e_ => (HO_0.out.1 k_ e_))); clear HO_0; clear HB; clear HK; have HO_0 := n0_; have HB := n1_; have HK := n2_; clear n0_ n1_ n2_; clear hg hw hp_))
   go_roundg k1
   case measure => have := HK1.out; omega
   case rel => exact ⟨(y556), (wrap64 (x1_1 + 1)), (wrap64 (x5_1 + 1)), yeq, yeq, H', ⟨by have := HK1.out; omega⟩, ⟨by (with_reducible repeat (first | apply Kd.Ya | apply Kd.Yn | apply Kd.Yd)); exact HO_0.out⟩, ⟨by repeat (first | (with_reducible first | exact HK.out | apply Kept.alloc | apply Kept.drewN | apply Kept.drew) | exact HK.out)⟩, ⟨yhb⟩⟩
/-! ### laws_markRuleS: function 38 -/
/-- A rule's three cells. -/
theorem rule_M {W : World} {base : Nat} {ok : Nat → Prop} {x : S67} {c : List Value} (h : k67.M W base ok x c) : ∃ v, c = [.int .i64 x.f0, v, .int .i64 x.f2] ∧ Kd.R (Kd.int .i64) 3 W base ok v x.f1 := by
 obtain ⟨c0, c1, rfl, h0, c2, c3, rfl, ⟨v, rfl, hR⟩, h3⟩ := h
 obtain rfl : c0 = [.int .i64 x.f0] := h0
 obtain rfl : c3 = [.int .i64 x.f2] := h3
 exact ⟨v, rfl, hR⟩
theorem rule_M_mk {W : World} {base : Nat} {ok : Nat → Prop} (x : S67) {v : Value} (h : Kd.R (Kd.int .i64) 3 W base ok v x.f1) : k67.M W base ok x [.int .i64 x.f0, v, .int .i64 x.f2] :=
 ⟨[.int .i64 x.f0], [v, .int .i64 x.f2], rfl, rfl, [v], [.int .i64 x.f2], rfl, ⟨v, rfl, h⟩, rfl⟩
/-- A rule of a row of rules that is the call's own: its cells, its own row of cells, and what becomes of the row where a field is written. -/
theorem rule_elem {W : World} {base g n cap : Nat} {ok : Nat → Prop} {xs : List S67} (h : Kd.S k67 67 W base ok (.slice (some ⟨g, 0, none⟩) n cap) xs) (i : Int) (h0 : 0 ≤ i) (h1 : i < n) :
  ∃ (oki : Nat → Prop) (A : Option Addr) (c : Nat), W.cell? ⟨g, i.toNat * 3, none⟩ = some (.int .i64 (rd_T67 xs i).f0) ∧ W.cell? ⟨g, i.toNat * 3 + 1, none⟩ = some (.slice A (rd_T67 xs i).f1.length c) ∧ W.cell? ⟨g, i.toNat * 3 + 2, none⟩ = some (.int .i64 (rd_T67 xs i).f2) ∧ (∀ j, W.frozen? ⟨g, i.toNat * 3 + j, none⟩ = false) ∧ Kd.R (Kd.int .i64) 3 W base oki (.slice A (rd_T67 xs i).f1.length c) (rd_T67 xs i).f1 ∧ (∀ k, oki k → ok k ∧ k ≠ g) ∧
   (∀ a : Int, Kd.S k67 67 (W.setCell ⟨g, i.toNat * 3, none⟩ (.int .i64 a)) base ok (.slice (some ⟨g, 0, none⟩) n cap) (xs.set i.toNat ⟨a, (rd_T67 xs i).f1, (rd_T67 xs i).f2⟩) ∧ W.grownBy (W.setCell ⟨g, i.toNat * 3, none⟩ (.int .i64 a)) (some g)) ∧
   (∀ a : Int, Kd.S k67 67 (W.setCell ⟨g, i.toNat * 3 + 2, none⟩ (.int .i64 a)) base ok (.slice (some ⟨g, 0, none⟩) n cap) (xs.set i.toNat ⟨(rd_T67 xs i).f0, (rd_T67 xs i).f1, a⟩) ∧ W.grownBy (W.setCell ⟨g, i.toNat * 3 + 2, none⟩ (.int .i64 a)) (some g)) ∧
   (∀ (w1 : World) (ok1 : Nat → Prop) (l : List Int), Kept W w1 oki → Kd.R (Kd.int .i64) 3 w1 base ok1 (.slice A (rd_T67 xs i).f1.length c) l → Kd.S k67 67 w1 base ok (.slice (some ⟨g, 0, none⟩) n cap) (xs.set i.toNat ⟨(rd_T67 xs i).f0, l, (rd_T67 xs i).f2⟩)) := by
 have hz : rd_T67 xs i = xs.getD i.toNat z67 := rfl
 obtain ⟨oki, c, hcl, hM, hcc, hfr, hoki, hH⟩ := Kd.S_elem h z67 i h0 h1
 rw [← hz] at hM
 obtain ⟨v, rfl, hR⟩ := rule_M hM
 obtain ⟨A, cv, rfl⟩ := Kd.R_slice hR
 have hH0 : Kd.H k67 67 W base (fun k => ok k ∧ ¬ False) (.slice (some ⟨g, 0, none⟩) n cap) xs i oki [.int .i64 (rd_T67 xs i).f0, .slice A (rd_T67 xs i).f1.length cv, .int .i64 (rd_T67 xs i).f2] := Kd.H_mono hH (fun k hk => ⟨hk, id⟩)
 refine ⟨oki, A, cv, hcc 0 _ rfl, hcc 1 _ rfl, hcc 2 _ rfl, hfr, hR, hoki, fun a => ?_, fun a => ?_, fun w1 ok1 l hk hR1 => ?_⟩
 ·exact Kd.S_seg (okg := fun _ => False) (okp := oki) (j := 0) (seg := [.int .i64 a]) hH0 h0 h1 (by show _ ≤ 3; simp) (rule_M_mk ⟨a, (rd_T67 xs i).f1, (rd_T67 xs i).f2⟩ hR) (fun k hk => .inl hk) (fun k hk => hk.elim)
 ·exact Kd.S_seg (okg := fun _ => False) (okp := oki) (j := 2) (seg := [.int .i64 a]) hH0 h0 h1 (by show _ ≤ 3; simp) (rule_M_mk ⟨(rd_T67 xs i).f0, (rd_T67 xs i).f1, a⟩ hR) (fun k hk => .inl hk) (fun k hk => hk.elim)
 ·exact Kd.H_back (Kd.H_kept hH hk (fun k _ hn => hn)) (rule_M_mk ⟨(rd_T67 xs i).f0, l, (rd_T67 xs i).f2⟩ (Kd.R_mono (Kd.R_tight rfl hR1) (fun k hk => hR.1 k hk.symm))) (fun _ hk => hk)
def laws_markRuleS.l0 : Nat → List S67 → Int → Int → Option (Int × List S67)
 | 0, _, _, _ => none
 | k + 1, x0, x1, x5 => if x5 < (x0.length : Int) then (if 0 ≤ x5 then (laws_markIntS.f k (rd_T67 x0 x5).f1 (wrap64 (x1 + 1))).bind fun t => laws_markRuleS.l0 k (x0.set x5.toNat ⟨x1, t.2, t.1⟩) (wrap64 (t.1 + 1)) (wrap64 (x5 + 1)) else none) else some (x1, x0)
def laws_markRuleS.f (k : Nat) (l0 : List S67) (a1 : Int) : Option (Int × List S67) := laws_markRuleS.l0 k l0 a1 0
theorem rd_T_set {xs : List S67} {i : Int} (h0 : 0 ≤ i) (h1 : i < (xs.length : Int)) (y : S67) : rd_T67 (xs.set i.toNat y) i = y := by
 unfold rd_T67
 rw [List.getD_eq_getElem?_getD, List.getElem?_set_self (by omega)]
 rfl
set_option maxHeartbeats 8000000 in
set_option maxRecDepth 100000 in
theorem laws_markRuleS.calls (k : Nat) (P : Nat → Prop) (A : Option Addr) (c : Nat) (l0 : List S67) (a1 : Int) (r1 : Int) (r2 : List S67) (w0 w : World) (hB : Below w0.heap.size w0 w) (ho0 : Kd.S k67 67 w w0.heap.size P (.slice A l0.length c) l0) (h : laws_markRuleS.f k l0 a1 = some (r1, r2)) :
  Calls Try.prog 38 #[.slice A l0.length c, .int .i64 a1] w fun e w' => e = .returned (.int .i64 r1) ∧ Kd.S k67 67 w' w0.heap.size P (.slice A l0.length c) r2 ∧ Below w0.heap.size w0 w' ∧ Kept w w' P := by
 have HO := Aside0.mk ho0
 have HK := Aside0.mk (Kept.refl w P)
 have HB := Aside0.mk hB
 have HA := Aside0.mk (show laws_markRuleS.l0 k l0 a1 0 = some (r1, r2) from h)
 clear hB ho0 h
 go_enter Try.func38, Try.ntmps38
 go_wp2
 go_loopg [1, 5] k (fun kq v1 v5 w' => ∃ (xs : List S67) (x1 : Int) (x5 : Int), v1 = .int .i64 x1 ∧ v5 = .int .i64 x5 ∧ Aside0 (laws_markRuleS.l0 kq xs x1 x5 = some (r1, r2)) ∧ Aside0 (xs.length = l0.length) ∧ Aside0 (Kd.S k67 67 w' w0.heap.size P (.slice A l0.length c) xs) ∧ Aside0 (Kept w w' P) ∧ Aside0 (Below w0.heap.size w0 w'))
 case atStart => exact ⟨l0, a1, 0, rfl, rfl, HA, ⟨rfl⟩, HO, HK, HB⟩
 case round =>
  clear HA HO HK HB
  obtain ⟨xs, x1, x5, rfl, rfl, HA, HL, HO, HK, HB⟩ := hrel
  cases gk with
  | zero => exact absurd HA.out (by simp [laws_markRuleS.l0])
  | succ k1 =>
   have H := HA.out
   clear HA
   simp only [laws_markRuleS.l0] at H
   by_cases c3 : x5 < (xs.length : Int)
   rotate_left
   ·rw [if_neg c3] at H
    have c3b0 : decide (x5 < (l0.length : Int)) = false := decide_eq_false (by rw [← HL.out]; exact c3)
    clear c3
    simp only [Option.some.injEq, Prod.mk.injEq] at H
    obtain ⟨rfl, rfl⟩ := H
    go_wp2
    go_ret
    exact ⟨rfl, HO.out, HB.out, HK.out⟩
   rw [if_pos c3] at H
   by_cases c4 : 0 ≤ x5
   rotate_left
   ·rw [if_neg c4] at H
    exact absurd H (by simp)
   rw [if_pos c4] at H
   obtain ⟨⟨t1, t2⟩, hM, H2⟩ := Option.bind_eq_some_iff.1 H
   have HM := Aside0.mk hM
   have HA := Aside0.mk H2
   clear hM H H2
   have hlt : x5 < ((l0.length : Nat) : Int) := by rw [← HL.out]; exact c3
   have HC3 := Aside0.mk c3
   clear c3
   have c3b0 : decide (x5 < (l0.length : Int)) = true := decide_eq_true hlt
   have c4b0 : decide (0 ≤ x5) = true := decide_eq_true c4
   obtain ⟨g, cap, eA, gb, gl, gc_⟩ := Kd.R_form (Kd.S_R HO.out) (by have := HL.out; omega)
   injection eA with eA1 eA2 eA3
   subst eA1
   clear eA2 eA3
   have GB := Aside0.mk gb
   clear gb gl gc_
   obtain ⟨oki0, Ai0, ci0, hx0, hx1_, hx2_, hfr, hr_, hk_, hset0, hs1_, hs2_⟩ := rule_elem HO.out x5 c4 hlt
   clear hx1_ hx2_ hr_ hk_ hs1_ hs2_
   have hf0 := hfr 0
   clear hfr
   rw [Nat.add_zero] at hf0
   have HPG := Aside0.mk ((Kd.S_R HO.out).1 g rfl)
   have HSET := Aside0.mk (hset0 x1)
   clear hset0
   have p4 := eq_true c4
   have p3 := eq_true hlt
   have C4 := Aside0.mk c4
   have HLT := Aside0.mk hlt
   clear c4 hlt
   go_wp2_with (first
    | ((with_reducible refine gate_store (t := 3) (p := 16) rfl ?_); refine store_event (t := 3) (p := 16) (v := ?vo1) (w1 := wr.setCell ⟨g, x5.toNat * 3, none⟩ (.int .i64 x1)) ?hg ?ho ?hn ?hr ?_; (case ho => rfl); (case hg => rfl); (case hn => rfl); (case hr => first | (go_simp; done) | (go_simp; rfl)); intro w8 hw; have hs := HSET.out; rw [← hw] at hs; have hb8 : Below w0.heap.size w0 w8 := (by rw [hw]; exact below_set HB.out GB.out); have hk8 : Kept w w8 P := Kept.of_grown hs.2 HK.out (fun k_ e_ => .inl (by injection e_ with e_; rw [← e_]; exact HPG.out)); have hl8 : x5 < (((xs.set x5.toNat ⟨x1, (rd_T67 xs x5).f1, (rd_T67 xs x5).f2⟩ : List S67).length : Nat) : Int) := (by rw [List.length_set]; exact HC3.out); obtain ⟨oki, Ai, ci, hx0_, hx1, hx2_, hfr_, hRi, hoki, hs1_, hs2_, hback⟩ := rule_elem hs.1 x5 C4.out HLT.out; clear hx0_ hx2_ hfr_ hs1_ hs2_; rw [rd_T_set C4.out HC3.out] at hx1 hRi hback; simp only [List.set_set] at hback; have HR := Aside0.mk hRi; have HOK := Aside0.mk hoki; have HBK := Aside0.mk hback; have HB8 := Aside0.mk hb8; have HK8 := Aside0.mk hk8; clear hs hb8 hk8 hl8 hRi hoki hback hw hx0 hf0 HSET HB HK HO)
    | ((with_reducible refine gate_callee (f := 16) rfl ?_); refine goesL_ (some 25) rfl rfl Try.func16 (by kernel_rfl) rfl #[.slice Ai (rd_T67 xs x5).f1.length ci, .int .i64 (wrap64 (x1 + 1))] rfl yma ?_; (with_reducible refine (laws_markIntS.calls k1 oki _ (rd_T67 xs x5).f1 (wrap64 (x1 + 1)) t1 t2 w0 w8 HB8.out HR.out HM.out).mono ?_); rintro e w9 ⟨rfl, hR9, hb9, hk9⟩; refine ⟨_, rfl, ?_⟩; have hs9 := HBK.out w9 _ t2 hk9 hR9; have HK9 := Aside0.mk (Kept.then_ HK8.out hk9 (fun k_ h_ => .inl (HOK.out k_ h_).1)); obtain ⟨oki9, Ai9, ci9, hx0_, hx1_, hx2, hfr2, hr_, hk_, hs1_, hset2, hs2_⟩ := rule_elem hs9 x5 C4.out HLT.out; clear hx0_ hx1_ hr_ hk_ hs1_ hs2_; have hf2 := hfr2 2; clear hfr2; have HSET := Aside0.mk (hset2 t1); clear hset2; rw [rd_T_set C4.out HC3.out] at HSET; simp only [List.set_set] at HSET; have HB9 := Aside0.mk hb9; clear hs9 hR9 hb9 hk9 HBK HR HOK HB8 HK8 hx1)
    | ((with_reducible refine gate_store (t := 3) (p := 30) rfl ?_); refine store_event (t := 3) (p := 30) (v := ?vo2) (w1 := w9.setCell ⟨g, x5.toNat * 3 + 2, none⟩ (.int .i64 t1)) ?hg ?ho ?hn ?hr ?_; (case ho => rfl); (case hg => rfl); (case hn => rfl); (case hr => first | (go_simp; done) | (go_simp; rfl)); intro w10 hw; have hs := HSET.out; rw [← hw] at hs; have HB10 : Aside0 (Below w0.heap.size w0 w10) := ⟨by rw [hw]; exact below_set HB9.out GB.out⟩; have HK10 := Aside0.mk (Kept.of_grown hs.2 HK9.out (fun k_ e_ => .inl (by injection e_ with e_; rw [← e_]; exact HPG.out))); have HO10 := Aside0.mk hs.1; clear hs hw hx2 hf2 HSET HB9 HK9))
   go_roundg k1
   case measure => omega
   case rel => exact ⟨_, wrap64 (t1 + 1), wrap64 (x5 + 1), rfl, rfl, HA, ⟨by rw [List.length_set]; exact HL.out⟩, HO10, HK10, HB10⟩
/-! ### laws_markPuzzle: function 15 -/
def laws_markPuzzle.f (k : Nat) (_a0_0 : Int) (l0_1 : List Int) (l0_2 : List S67) (a1 : Int) : Option (Int × List Int × List S67) := (laws_markIntS.f k l0_1 a1).bind fun t => (laws_markRuleS.f k l0_2 t.1).bind fun u => some (u.1, t.2, u.2)
set_option maxHeartbeats 8000000 in
set_option maxRecDepth 100000 in
theorem laws_markPuzzle.calls (k : Nat) (a0_0 : Int) (P Q : Nat → Prop) (A0_1 : Option Addr) (c0_1 : Nat) (l0_1 : List Int) (A0_2 : Option Addr) (c0_2 : Nat) (l0_2 : List S67) (a1 : Int) (r1 : Int) (r2 : List Int) (r3 : List S67) (w0 w : World) (hB : Below w0.heap.size w0 w) (hPQ : ∀ k_, P k_ → ¬ Q k_) (ho1 : Kd.R (Kd.int .i64) 3 w w0.heap.size P (.slice A0_1 l0_1.length c0_1) l0_1) (ho2 : Kd.S k67 67 w w0.heap.size Q (.slice A0_2 l0_2.length c0_2) l0_2) (h : laws_markPuzzle.f k a0_0 l0_1 l0_2 a1 = some (r1, r2, r3)) :
  Calls Try.prog 15 #[.agg #[.int .i64 a0_0, .slice A0_1 l0_1.length c0_1, .slice A0_2 l0_2.length c0_2], .int .i64 a1] w fun e w' => e = .returned (.int .i64 r1) ∧ Kd.R (Kd.int .i64) 3 w' w0.heap.size P (.slice A0_1 l0_1.length c0_1) r2 ∧ Kd.S k67 67 w' w0.heap.size Q (.slice A0_2 l0_2.length c0_2) r3 ∧ Below w0.heap.size w0 w' ∧ Kept w w' (fun k_ => P k_ ∨ Q k_) := by
 unfold laws_markPuzzle.f at h
 obtain ⟨⟨t1, t2⟩, hM, h2⟩ := Option.bind_eq_some_iff.1 h
 obtain ⟨⟨u1, u2⟩, hN, h3⟩ := Option.bind_eq_some_iff.1 h2
 simp only [Option.some.injEq, Prod.mk.injEq] at h3
 obtain ⟨rfl, rfl, rfl⟩ := h3
 have HM := Aside0.mk hM
 have HN := Aside0.mk hN
 have HPQ := Aside0.mk hPQ
 have HP := Aside0.mk ho1.1
 have HO1 := Aside0.mk ho1
 have HO2 := Aside0.mk ho2
 have HB := Aside0.mk hB
 clear h h2 hM hN hPQ ho1 ho2 hB
 go_enter Try.func15, Try.ntmps15
 go_wp2_with (first
  | ((with_reducible refine gate_dst (N := 2) rfl ?_); refine box_event ?hg (N := 2) ?hd (cs := #[.int .i64 a0_0, .slice A0_1 l0_1.length c0_1, .slice A0_2 l0_2.length c0_2]) (t := 30) ?hr ?_; (case hd => rfl); (case hg => rfl); (case hr => first | (go_simp; done) | (go_simp; rfl)); intro gb hg w3 hbox hb; have HBX := Aside0.mk hbox; have HGB := Aside0.mk hg; have hcz1 : w3.cell? ⟨gb, 1, none⟩ = some (.slice A0_1 l0_1.length c0_1) := (blk_cell hbox 1).trans rfl; have hcz2 : w3.cell? ⟨gb, 2, none⟩ = some (.slice A0_2 l0_2.length c0_2) := (blk_cell hbox 2).trans rfl; have HO1_ := Aside0.mk (Kd.R_below HO1.out hb); have HO2_ := Aside0.mk (Kd.S_below HO2.out hb); have HB_ := Aside0.mk (below_step HB.out hb); have HK := Aside0.mk (Kept.of_below hb (fun k_ => P k_ ∨ Q k_)); have HL1 := Aside0.mk (Kd.R_lt HO1.out); have HL2 := Aside0.mk (Kd.S_bound HO2.out); clear HO1 HO2 HB hg hbox hb)
  | ((with_reducible refine gate_callee (f := 16) rfl ?_); refine goesL_ (some 8) rfl rfl Try.func16 (by kernel_rfl) rfl #[.slice A0_1 l0_1.length c0_1, .int .i64 a1] rfl yma ?_; (with_reducible refine (laws_markIntS.calls k (fun k_ => some k_ = (Value.slice A0_1 l0_1.length c0_1).ownBlock) _ l0_1 a1 t1 t2 w0 w3 HB_.out (Kd.R_tight rfl HO1_.out) HM.out).mono ?_); rintro e w4 ⟨rfl, hR4, hb4, hk4⟩; refine ⟨_, rfl, ?_⟩; have hne : gb ≠ gb ∨ ¬ some gb = (Value.slice A0_1 l0_1.length c0_1).ownBlock := .inr (fun e_ => by have := HL1.out gb e_.symm; have := HGB.out; omega); have hbx4 := blk_kept HBX.out hk4 (hne.resolve_left (fun h_ => h_ rfl)); have hcz2 : w4.cell? ⟨gb, 2, none⟩ = some (.slice A0_2 l0_2.length c0_2) := (blk_cell hbx4 2).trans rfl; have HR4 := Aside0.mk (Kd.R_tight rfl hR4); have HS4 := Aside0.mk (Kd.S_kept HO2_.out hk4 (fun k_ hq_ hp_ => HPQ.out k_ (HP.out k_ hp_.symm) hq_)); have HB4 := Aside0.mk hb4; have HK4 := Aside0.mk (Kept.then_ HK.out hk4 (fun k_ h_ => .inl (.inl (HP.out k_ h_.symm)))); clear hne hbx4 hR4 hb4 hk4 HK HB_ HO1_ HO2_ HBX HGB HL1 HL2 hcz1)
  | ((with_reducible refine gate_callee (f := 38) rfl ?_); refine goesL_ (some 12) rfl rfl Try.func38 (by kernel_rfl) rfl #[.slice A0_2 l0_2.length c0_2, .int .i64 t1] rfl yma ?_; (with_reducible refine (laws_markRuleS.calls k Q A0_2 c0_2 l0_2 t1 u1 u2 w0 w4 HB4.out HS4.out HN.out).mono ?_); rintro e w5 ⟨rfl, hS5, hb5, hk5⟩; refine ⟨_, rfl, ?_⟩; have HR5 := Aside0.mk (Kd.R_kept HR4.out hk5 (fun k_ hp_ hq_ => HPQ.out k_ (HP.out k_ hp_.symm) hq_)); have HS5 := Aside0.mk hS5; have HB5 := Aside0.mk hb5; have HK5 := Aside0.mk (Kept.then_ HK4.out hk5 (fun k_ h_ => .inl (.inr h_))); clear hS5 hb5 hk5 HR4 HS4 HB4 HK4 hcz2))
 go_ret
 exact ⟨rfl, Kd.R_mono HR5.out (fun k_ h_ => HP.out k_ h_.symm), HS5.out, HB5.out, HK5.out⟩
/-! ### laws_heldIntS: function 17 -/
def laws_heldIntS.l0 : Nat → List Int → Int → Int → Option (Int)
 | 0, _, _, _ => none
 | k + 1, x0, x1, x5 => if x5 < (x0.length : Int) then (if 0 ≤ x5 then (if (rd x0 x5) = x1 then (laws_heldIntS.l0 k x0 (wrap64 (x1 + 1)) (wrap64 (x5 + 1))) else (some (-1))) else (none)) else (some x1)
def laws_heldIntS.f (k : Nat) (l0 : List Int) (a1 : Int) : Option (Int) := laws_heldIntS.l0 k l0 a1 0
set_option maxHeartbeats 8000000 in
set_option maxRecDepth 100000 in
theorem laws_heldIntS.calls (k : Nat) (A0 : Option Addr) (c0 : Nat) (l0 : List Int) (a1 : Int) (r : Int) (w : World) (hr0 : Kd.C (Kd.int .i64) w A0 l0.length l0) (hc0 : l0.length ≤ c0) (h : laws_heldIntS.f k l0 a1 = some r) :
  Calls Try.prog 17 #[.slice A0 l0.length c0, .int .i64 a1] w fun e w' => e = .returned (.int .i64 r) ∧ Drawn0 w w' := by
 have HR0 := yam hr0
 have HC0 := yam hc0
 clear hr0 hc0
 have H : (laws_heldIntS.l0 k l0 a1 0) = some r := h
 clear h
 have H' := yam H
 clear H
 go_enter Try.func17, Try.ntmps17
 go_wp2
 go_loopg [1, 5] k (fun kq v1 v5 w' => ∃ (x1_1 : Int) (x5_1 : Int), v1 = .int .i64 x1_1 ∧ v5 = .int .i64 x5_1 ∧ Aside0 (laws_heldIntS.l0 kq l0 x1_1 x5_1 = some r) ∧ Aside0 (kq ≤ k) ∧ Drawn0 w w')
 case atStart => exact ⟨(a1), (0), yeq, yeq, H', ⟨Nat.le_refl _⟩, by repeat (first | exact Drawn0.refl _ | apply Drawn0.step)⟩
 case round =>
  clear H'
  try clear c1
  try clear p2
  obtain ⟨x1_1, x5_1, rfl, rfl, HA, HK1, ⟨m1, rfl⟩⟩ := hrel
  cases gk with
  | zero => exact absurd HA.out (by simp [laws_heldIntS.l0])
  | succ k1 =>
   have H := HA.out
   clear HA
   simp only [laws_heldIntS.l0] at H
   by_cases c3 : x5_1 < (l0.length : Int)
   rotate_left
   ·rw [if_neg c3] at H
    have c3b0 : decide (x5_1 < (l0.length : Int)) = false := decide_eq_false c3
    clear c3
    obtain rfl := Option.some.inj H
    go_wp2
    go_ret
    exact ⟨yeq, by repeat (first | exact Drawn0.refl _ | apply Drawn0.step)⟩

   rw [if_pos c3] at H
   have c3b0 : decide (x5_1 < (l0.length : Int)) = true := decide_eq_true c3
   clear c3
   by_cases c4 : 0 ≤ x5_1
   rotate_left
   ·rw [if_neg c4] at H
    exact absurd H (by simp)
   rw [if_pos c4] at H
   have c4b0 : decide (0 ≤ x5_1) = true := decide_eq_true c4
   clear c4
   by_cases c5 : (rd l0 x5_1) = x1_1
   rotate_left
   ·rw [if_neg c5] at H
    have c5b0 : ((rd l0 x5_1) == x1_1) = false := beq_eq_false_iff_ne.mpr c5
    have c5b1 : ((rd l0 x5_1) != x1_1) = true := bne_iff_ne.mpr c5
    obtain rfl := Option.some.inj H
    have p557 : 0 ≤ (x5_1 : Int) := of_decide_eq_true (by first | (with_reducible assumption) | assumption)
    have q557 : x5_1 < (l0.length : Int) := of_decide_eq_true (by first | (with_reducible assumption) | assumption)
    obtain ⟨ad557, e557, hx557_0⟩ := Kd.at_int HR0.out x5_1 p557 q557
    cases e557
    replace p557 := eq_true p557
    replace q557 := eq_true q557
    go_wp2
    go_ret
    exact ⟨yeq, by repeat (first | exact Drawn0.refl _ | apply Drawn0.step)⟩
   rw [if_pos c5] at H
   have c5b0 : ((rd l0 x5_1) == x1_1) = true := beq_iff_eq.mpr c5
   have c5b1 : ((rd l0 x5_1) != x1_1) = false := bne_eq_false_iff_eq.mpr c5
   clear c5
   have H' := yam H
   clear H
   have p557 : 0 ≤ (x5_1 : Int) := of_decide_eq_true (by first | (with_reducible assumption) | assumption)
   have q557 : x5_1 < (l0.length : Int) := of_decide_eq_true (by first | (with_reducible assumption) | assumption)
   obtain ⟨ad557, e557, hx557_0⟩ := Kd.at_int HR0.out x5_1 p557 q557
   cases e557
   replace p557 := eq_true p557
   replace q557 := eq_true q557
   go_wp2
   go_roundg k1
   case measure => have := HK1.out; omega
   case rel => exact ⟨(wrap64 (x1_1 + 1)), (wrap64 (x5_1 + 1)), yeq, yeq, H', ⟨by have := HK1.out; omega⟩, by repeat (first | exact Drawn0.refl _ | apply Drawn0.step)⟩
/-! ### laws_FnExactNarrowBy: function 6 -/
def laws_FnExactNarrowBy.f (k : Nat) (a0_0 : Int) (l0_1 : List Int) (l0_2 : List S65) (l1 : List Int) (a2 : Int) : Option Bool := if (l1.length : Int) > 1048576 then some true else (laws_szPuzzle.f k a0_0 l0_1 l0_2 1048576).bind fun u104 => if u104 < 0 then some true else (laws_toPuzzle.f k a0_0 l0_1 l0_2).bind fun u105 => (laws_toIntS.f k l1).bind fun u106 => (spec_NarrowBy.f k u105.1 u105.2.1 u105.2.2 u106 a2).bind fun u107 => (laws_toPuzzle.f k a0_0 l0_1 l0_2).bind fun u108 => (laws_toIntS.f k l1).bind fun u109 => (impl_NarrowBy.f k u108.1 u108.2.1 u108.2.2 u109 a2).bind fun u110 => (laws_eqIntS.f k u110 u107).bind fun u111 => if u111 = true then (laws_toPuzzle.f k a0_0 l0_1 l0_2).bind fun u112 => (laws_eqPuzzle.f k u108.1 u108.2.1 u108.2.2 u112.1 u112.2.1 u112.2.2).bind fun u113 => if u113 = true then (laws_toIntS.f k l1).bind fun u114 => (laws_eqIntS.f k u109 u114).bind fun u115 => if u115 = true then (laws_markPuzzle.f k u108.1 u108.2.1 u108.2.2 1).bind fun u116 => (laws_markIntS.f k u109 u116.1).bind fun u117 => if u117.1 < 0 then some false else (laws_eqIntS.f k u110 u107).bind fun u118 => if u118 = true then (laws_markIntS.f k u110 1).bind fun u119 => (laws_heldIntS.f k u119.2 1).bind fun u120 => if u120 < 0 then some false else if (u120 != u119.1) = true then some false else (laws_toPuzzle.f k a0_0 l0_1 l0_2).bind fun u121 => (laws_toIntS.f k l1).bind fun u122 => (impl_NarrowBy.f k u121.1 u121.2.1 u121.2.2 u122 a2).bind fun u123 => (laws_eqIntS.f k u123 u107).bind fun u124 => if u124 = true then (laws_heldIntS.f k u119.2 1).bind fun u125 => if u125 < 0 then some false else if (u125 != u119.1) = true then some false else some true else some false else some false else some false else some false else some false
set_option maxHeartbeats 8000000 in
set_option maxRecDepth 100000 in
theorem laws_FnExactNarrowBy.calls (k : Nat) (a0_0 : Int) (A0_1 : Option Addr) (c0_1 : Nat) (l0_1 : List Int) (A0_2 : Option Addr) (c0_2 : Nat) (l0_2 : List S65) (A1 : Option Addr) (c1 : Nat) (l1 : List Int) (a2 : Int) (_r : Bool) (w : World) (hr0_1 : Kd.C (Kd.int .i64) w A0_1 l0_1.length l0_1) (hc0_1 : l0_1.length ≤ c0_1) (hr0_2 : Kd.C k65 w A0_2 l0_2.length l0_2) (hc0_2 : l0_2.length ≤ c0_2) (hr1 : Kd.C (Kd.int .i64) w A1 l1.length l1) (hc1 : l1.length ≤ c1) (h : laws_FnExactNarrowBy.f k a0_0 l0_1 l0_2 l1 a2 = some true) :
  Calls Try.prog 6 #[.agg #[.int .i64 a0_0, .slice A0_1 l0_1.length c0_1, .slice A0_2 l0_2.length c0_2], .slice A1 l1.length c1, .int .i64 a2] w fun e w' => e = .returned (.bool true) ∧ Below w.heap.size w w' := by
 have HR0_1 := Aside0.mk hr0_1
 have HC0_1 := Aside0.mk hc0_1
 clear hr0_1 hc0_1
 have HR0_2 := Aside0.mk hr0_2
 have HC0_2 := Aside0.mk hc0_2
 clear hr0_2 hc0_2
 have HR1 := Aside0.mk hr1
 have HC1 := Aside0.mk hc1
 clear hr1 hc1
 have HB := Aside0.mk (Below.refl w.heap.size w)
 unfold laws_FnExactNarrowBy.f at h
 by_cases q1 : (l1.length : Int) > 1048576
 ·clear h
  have b1 : decide (1048576 < (l1.length : Int)) = true := decide_eq_true q1
  have bb1 : decide (1048576 < l1.length) = true := decide_eq_true (by omega)
  clear q1
  go_enter Try.func6, Try.ntmps6
  go_wp2_with (first
   | ((with_reducible refine gate_dst (N := 3) rfl ?_); refine box_event ?hg (N := 3) ?hd (cs := #[.int .i64 a0_0, .slice A0_1 l0_1.length c0_1, .slice A0_2 l0_2.length c0_2]) (t := 25) ?hr ?_; (case hd => rfl); (case hg => rfl); (case hr => first | (go_simp; done) | (go_simp; rfl)); intro g1 hg w1_ hbox hb; have Bg1 := Aside0.mk hbox; have Gg1 := Aside0.mk (show w.heap.size ≤ g1 ∧ g1 < w1_.heap.size from ⟨Nat.le_of_eq hg.symm, blk_lt hbox⟩); have Zw1_ := Aside0.mk hb.size; replace HB := Aside0.mk (below_step HB.out hb); clear hb hbox hg))
  go_ret
  exact ⟨rfl, HB.out⟩
 rw [if_neg q1] at h
 have b1 : decide (1048576 < (l1.length : Int)) = false := decide_eq_false q1
 have bb1 : decide (1048576 < l1.length) = false := decide_eq_false (by omega)
 clear q1
 replace h := Option.bind_eq_some_iff.1 h
 obtain ⟨t3, e_, h⟩ := h
 try dsimp only at h
 have E2 := Aside0.mk e_
 clear e_
 by_cases q2 : t3 < 0
 ·clear h
  have b2 := decide_eq_true q2
  clear q2
  go_enter Try.func6, Try.ntmps6
  go_wp2_with (first
   | ((with_reducible refine gate_dst (N := 3) rfl ?_); refine box_event ?hg (N := 3) ?hd (cs := #[.int .i64 a0_0, .slice A0_1 l0_1.length c0_1, .slice A0_2 l0_2.length c0_2]) (t := 25) ?hr ?_; (case hd => rfl); (case hg => rfl); (case hr => first | (go_simp; done) | (go_simp; rfl)); intro g1 hg w1_ hbox hb; have Bg1 := Aside0.mk hbox; have Gg1 := Aside0.mk (show w.heap.size ≤ g1 ∧ g1 < w1_.heap.size from ⟨Nat.le_of_eq hg.symm, blk_lt hbox⟩); have Zw1_ := Aside0.mk hb.size; replace HB := Aside0.mk (below_step HB.out hb); have hzg1_0 : w1_.cell? ⟨g1, 0, none⟩ = some (.int .i64 a0_0) := (blk_cell Bg1.out 0).trans rfl; have hzg1_1 : w1_.cell? ⟨g1, 1, none⟩ = some (.slice A0_1 l0_1.length c0_1) := (blk_cell Bg1.out 1).trans rfl; have hzg1_2 : w1_.cell? ⟨g1, 2, none⟩ = some (.slice A0_2 l0_2.length c0_2) := (blk_cell Bg1.out 2).trans rfl; clear hb hbox hg)
   | ((with_reducible refine gate_callee (f := 9) rfl ?_); refine goesL_ (some 21) rfl rfl Try.func9 (by kernel_rfl) rfl #[.agg #[.int .i64 a0_0, .slice A0_1 l0_1.length c0_1, .slice A0_2 l0_2.length c0_2], .int .i64 1048576] rfl yma ?_; (with_reducible refine (laws_szPuzzle.calls k a0_0 _ _ l0_1 _ _ l0_2 1048576 t3 _ (Kd.C_below HR0_1.out HB.out) HC0_1.out (Kd.C_below HR0_2.out HB.out) HC0_2.out E2.out).mono ?_); rintro e w2_ ⟨rfl, hb⟩; refine ⟨_, rfl, ?_⟩; clear Bg1; have Zw2_ := Aside0.mk hb.size; replace HB := Aside0.mk (below_step HB.out hb); clear hb; clear hzg1_0; clear hzg1_1; clear hzg1_2; skip))
  go_ret
  exact ⟨rfl, HB.out⟩
 rw [if_neg q2] at h
 have b2 := decide_eq_false q2
 clear q2
 replace h := Option.bind_eq_some_iff.1 h
 obtain ⟨⟨t5, t6, t10⟩, e_, h⟩ := h
 try dsimp only at h
 have E4 := Aside0.mk e_
 clear e_
 replace h := Option.bind_eq_some_iff.1 h
 obtain ⟨t15, e_, h⟩ := h
 try dsimp only at h
 have E14 := Aside0.mk e_
 clear e_
 replace h := Option.bind_eq_some_iff.1 h
 obtain ⟨t20, e_, h⟩ := h
 try dsimp only at h
 have E19 := Aside0.mk e_
 clear e_
 replace h := Option.bind_eq_some_iff.1 h
 obtain ⟨⟨t25, t26, t30⟩, e_, h⟩ := h
 try dsimp only at h
 have E24 := Aside0.mk e_
 clear e_
 replace h := Option.bind_eq_some_iff.1 h
 obtain ⟨t36, e_, h⟩ := h
 try dsimp only at h
 have E35 := Aside0.mk e_
 clear e_
 replace h := Option.bind_eq_some_iff.1 h
 obtain ⟨t41, e_, h⟩ := h
 try dsimp only at h
 have E40 := Aside0.mk e_
 clear e_
 replace h := Option.bind_eq_some_iff.1 h
 obtain ⟨t46, e_, h⟩ := h
 try dsimp only at h
 have E45 := Aside0.mk e_
 clear e_
 by_cases q3 : t46 = true
 rotate_left
 ·rw [if_neg q3] at h
  exact absurd h (by decide)
 rw [if_pos q3] at h
 subst q3
 replace h := Option.bind_eq_some_iff.1 h
 obtain ⟨⟨t48, t49, t53⟩, e_, h⟩ := h
 try dsimp only at h
 have E47 := Aside0.mk e_
 clear e_
 replace h := Option.bind_eq_some_iff.1 h
 obtain ⟨t58, e_, h⟩ := h
 try dsimp only at h
 have E57 := Aside0.mk e_
 clear e_
 by_cases q4 : t58 = true
 rotate_left
 ·rw [if_neg q4] at h
  exact absurd h (by decide)
 rw [if_pos q4] at h
 subst q4
 replace h := Option.bind_eq_some_iff.1 h
 obtain ⟨t60, e_, h⟩ := h
 try dsimp only at h
 have E59 := Aside0.mk e_
 clear e_
 replace h := Option.bind_eq_some_iff.1 h
 obtain ⟨t65, e_, h⟩ := h
 try dsimp only at h
 have E64 := Aside0.mk e_
 clear e_
 by_cases q5 : t65 = true
 rotate_left
 ·rw [if_neg q5] at h
  exact absurd h (by decide)
 rw [if_pos q5] at h
 subst q5
 replace h := Option.bind_eq_some_iff.1 h
 obtain ⟨⟨t67, t68, t69⟩, e_, h⟩ := h
 try dsimp only at h
 have E66 := Aside0.mk e_
 clear e_
 replace h := Option.bind_eq_some_iff.1 h
 obtain ⟨⟨t71, t72⟩, e_, h⟩ := h
 try dsimp only at h
 have E70 := Aside0.mk e_
 clear e_
 by_cases q6 : t71 < 0
 ·rw [if_pos q6] at h
  exact absurd h (by decide)
 rw [if_neg q6] at h
 have b6 := decide_eq_false q6
 clear q6
 replace h := Option.bind_eq_some_iff.1 h
 obtain ⟨t74, e_, h⟩ := h
 try dsimp only at h
 have E73 := Aside0.mk e_
 clear e_
 by_cases q7 : t74 = true
 rotate_left
 ·rw [if_neg q7] at h
  exact absurd h (by decide)
 rw [if_pos q7] at h
 subst q7
 replace h := Option.bind_eq_some_iff.1 h
 obtain ⟨⟨t76, t77⟩, e_, h⟩ := h
 try dsimp only at h
 have E75 := Aside0.mk e_
 clear e_
 replace h := Option.bind_eq_some_iff.1 h
 obtain ⟨t79, e_, h⟩ := h
 try dsimp only at h
 have E78 := Aside0.mk e_
 clear e_
 by_cases q8 : t79 < 0
 ·rw [if_pos q8] at h
  exact absurd h (by decide)
 rw [if_neg q8] at h
 have b8 := decide_eq_false q8
 clear q8
 by_cases q9 : (t79 != t76) = true
 ·rw [if_pos q9] at h
  exact absurd h (by decide)
 rw [if_neg q9] at h
 have b9 : (t79 != t76) = false := by simpa using q9
 have bb9 : t79 = t76 := by simpa using q9
 clear q9
 have bc9 := Aside0.mk bb9
 clear bb9
 replace h := Option.bind_eq_some_iff.1 h
 obtain ⟨⟨t81, t82, t86⟩, e_, h⟩ := h
 try dsimp only at h
 have E80 := Aside0.mk e_
 clear e_
 replace h := Option.bind_eq_some_iff.1 h
 obtain ⟨t91, e_, h⟩ := h
 try dsimp only at h
 have E90 := Aside0.mk e_
 clear e_
 replace h := Option.bind_eq_some_iff.1 h
 obtain ⟨t96, e_, h⟩ := h
 try dsimp only at h
 have E95 := Aside0.mk e_
 clear e_
 replace h := Option.bind_eq_some_iff.1 h
 obtain ⟨t101, e_, h⟩ := h
 try dsimp only at h
 have E100 := Aside0.mk e_
 clear e_
 by_cases q10 : t101 = true
 rotate_left
 ·rw [if_neg q10] at h
  exact absurd h (by decide)
 rw [if_pos q10] at h
 subst q10
 replace h := Option.bind_eq_some_iff.1 h
 obtain ⟨t103, e_, h⟩ := h
 try dsimp only at h
 have E102 := Aside0.mk e_
 clear e_
 by_cases q11 : t103 < 0
 ·rw [if_pos q11] at h
  exact absurd h (by decide)
 rw [if_neg q11] at h
 have b11 := decide_eq_false q11
 clear q11
 by_cases q12 : (t103 != t76) = true
 ·rw [if_pos q12] at h
  exact absurd h (by decide)
 rw [if_neg q12] at h
 have b12 : (t103 != t76) = false := by simpa using q12
 have bb12 : t103 = t76 := by simpa using q12
 clear q12
 have bc12 := Aside0.mk bb12
 clear bb12
 clear h
 go_enter Try.func6, Try.ntmps6
 go_wp2_with (first
  | ((with_reducible refine gate_dst (N := 3) rfl ?_); refine box_event ?hg (N := 3) ?hd (cs := #[.int .i64 a0_0, .slice A0_1 l0_1.length c0_1, .slice A0_2 l0_2.length c0_2]) (t := 25) ?hr ?_; (case hd => rfl); (case hg => rfl); (case hr => first | (go_simp; done) | (go_simp; rfl)); intro g1 hg w1_ hbox hb; have Bg1 := Aside0.mk hbox; have Gg1 := Aside0.mk (show w.heap.size ≤ g1 ∧ g1 < w1_.heap.size from ⟨Nat.le_of_eq hg.symm, blk_lt hbox⟩); have Zw1_ := Aside0.mk hb.size; replace HB := Aside0.mk (below_step HB.out hb); have hzg1_0 : w1_.cell? ⟨g1, 0, none⟩ = some (.int .i64 a0_0) := (blk_cell Bg1.out 0).trans rfl; have hzg1_1 : w1_.cell? ⟨g1, 1, none⟩ = some (.slice A0_1 l0_1.length c0_1) := (blk_cell Bg1.out 1).trans rfl; have hzg1_2 : w1_.cell? ⟨g1, 2, none⟩ = some (.slice A0_2 l0_2.length c0_2) := (blk_cell Bg1.out 2).trans rfl; clear hb hbox hg)
  | ((with_reducible refine gate_callee (f := 9) rfl ?_); refine goesL_ (some 21) rfl rfl Try.func9 (by kernel_rfl) rfl #[.agg #[.int .i64 a0_0, .slice A0_1 l0_1.length c0_1, .slice A0_2 l0_2.length c0_2], .int .i64 1048576] rfl yma ?_; (with_reducible refine (laws_szPuzzle.calls k a0_0 _ _ l0_1 _ _ l0_2 1048576 t3 _ (Kd.C_below HR0_1.out HB.out) HC0_1.out (Kd.C_below HR0_2.out HB.out) HC0_2.out E2.out).mono ?_); rintro e w2_ ⟨rfl, hb⟩; refine ⟨_, rfl, ?_⟩; replace Bg1 := Aside0.mk (blk_below Bg1.out hb); have Zw2_ := Aside0.mk hb.size; replace HB := Aside0.mk (below_step HB.out hb); clear hb; clear hzg1_0; clear hzg1_1; clear hzg1_2; have hzg1_0 : w2_.cell? ⟨g1, 0, none⟩ = some (.int .i64 a0_0) := (blk_cell Bg1.out 0).trans rfl; have hzg1_1 : w2_.cell? ⟨g1, 1, none⟩ = some (.slice A0_1 l0_1.length c0_1) := (blk_cell Bg1.out 1).trans rfl; have hzg1_2 : w2_.cell? ⟨g1, 2, none⟩ = some (.slice A0_2 l0_2.length c0_2) := (blk_cell Bg1.out 2).trans rfl; skip)
  | ((with_reducible refine gate_callee (f := 11) rfl ?_); refine goesL_ (some 25) rfl rfl Try.func11 (by kernel_rfl) rfl #[.agg #[.int .i64 a0_0, .slice A0_1 l0_1.length c0_1, .slice A0_2 l0_2.length c0_2]] rfl yma ?_; (with_reducible refine (laws_toPuzzle.calls k a0_0 _ _ l0_1 _ _ l0_2 t5 t6 t10 _ (Kd.C_below HR0_1.out HB.out) HC0_1.out (Kd.C_below HR0_2.out HB.out) HC0_2.out E4.out).mono ?_); rintro e w3_ ⟨v0_, v1_, rfl, ho0_, ho1_, hb⟩; refine ⟨_, rfl, ?_⟩; replace Bg1 := Aside0.mk (blk_below Bg1.out hb); have O7 := Aside0.mk (Kd.R_born ho0_ (below_size HB.out)); obtain ⟨A8, c9, e_⟩ := Kd.R_slice O7.out; subst e_; have O11 := Aside0.mk (Kd.S_born ho1_ (below_size HB.out)); obtain ⟨A12, c13, e_⟩ := Kd.S_slice O11.out; subst e_; have Zw3_ := Aside0.mk hb.size; replace HB := Aside0.mk (below_step HB.out hb); clear hb ho0_ ho1_; clear hzg1_0; clear hzg1_1; clear hzg1_2; have hzg1_0 : w3_.cell? ⟨g1, 0, none⟩ = some (.int .i64 a0_0) := (blk_cell Bg1.out 0).trans rfl; have hzg1_1 : w3_.cell? ⟨g1, 1, none⟩ = some (.slice A0_1 l0_1.length c0_1) := (blk_cell Bg1.out 1).trans rfl; have hzg1_2 : w3_.cell? ⟨g1, 2, none⟩ = some (.slice A0_2 l0_2.length c0_2) := (blk_cell Bg1.out 2).trans rfl; skip)
  | ((with_reducible refine gate_callee (f := 26) rfl ?_); refine goesL_ (some 27) rfl rfl Try.func26 (by kernel_rfl) rfl #[.slice A1 l1.length c1] rfl yma ?_; (with_reducible refine (laws_toIntS.calls k _ _ l1 t15 _ (Kd.C_below HR1.out HB.out) HC1.out E14.out).mono ?_); rintro e w4_ ⟨v0_, rfl, ho0_, hb⟩; refine ⟨_, rfl, ?_⟩; replace O7 := Aside0.mk (Kd.R_below O7.out hb); replace O11 := Aside0.mk (Kd.S_below O11.out hb); replace Bg1 := Aside0.mk (blk_below Bg1.out hb); have O16 := Aside0.mk (Kd.R_born ho0_ (below_size HB.out)); obtain ⟨A17, c18, e_⟩ := Kd.R_slice O16.out; subst e_; have Zw4_ := Aside0.mk hb.size; replace HB := Aside0.mk (below_step HB.out hb); clear hb ho0_; clear hzg1_0; clear hzg1_1; clear hzg1_2; have hzg1_0 : w4_.cell? ⟨g1, 0, none⟩ = some (.int .i64 a0_0) := (blk_cell Bg1.out 0).trans rfl; have hzg1_1 : w4_.cell? ⟨g1, 1, none⟩ = some (.slice A0_1 l0_1.length c0_1) := (blk_cell Bg1.out 1).trans rfl; have hzg1_2 : w4_.cell? ⟨g1, 2, none⟩ = some (.slice A0_2 l0_2.length c0_2) := (blk_cell Bg1.out 2).trans rfl; skip)
  | ((with_reducible refine gate_callee (f := 25) rfl ?_); refine goesL_ (some 29) rfl rfl Try.func25 (by kernel_rfl) rfl #[.agg #[.int .i64 t5, .slice A8 t6.length c9, .slice A12 t10.length c13], .slice A17 t15.length c18, .int .i64 a2] rfl yma ?_; (with_reducible refine (spec_NarrowBy.calls k t5 _ _ t6 _ _ t10 _ _ t15 a2 t20 _ (Kd.R_reads' O7.out).2.2 (Kd.R_reads' O7.out).2.1 (Kd.R_reads' (Kd.S_R O11.out)).2.2 (Kd.R_reads' (Kd.S_R O11.out)).2.1 (Kd.R_reads' O16.out).2.2 (Kd.R_reads' O16.out).2.1 E19.out).mono ?_); rintro e w5_ ⟨v0_, rfl, ho0_, hb⟩; refine ⟨_, rfl, ?_⟩; replace Bg1 := Aside0.mk (blk_below Bg1.out hb); clear O7; clear O11; clear O16; have O21 := Aside0.mk (Kd.R_born ho0_ (below_size HB.out)); obtain ⟨A22, c23, e_⟩ := Kd.R_slice O21.out; subst e_; have Zw5_ := Aside0.mk hb.size; replace HB := Aside0.mk (below_step HB.out hb); clear hb ho0_; clear hzg1_0; clear hzg1_1; clear hzg1_2; have hzg1_0 : w5_.cell? ⟨g1, 0, none⟩ = some (.int .i64 a0_0) := (blk_cell Bg1.out 0).trans rfl; have hzg1_1 : w5_.cell? ⟨g1, 1, none⟩ = some (.slice A0_1 l0_1.length c0_1) := (blk_cell Bg1.out 1).trans rfl; have hzg1_2 : w5_.cell? ⟨g1, 2, none⟩ = some (.slice A0_2 l0_2.length c0_2) := (blk_cell Bg1.out 2).trans rfl; skip)
  | ((with_reducible refine gate_callee (f := 11) rfl ?_); refine goesL_ (some 31) rfl rfl Try.func11 (by kernel_rfl) rfl #[.agg #[.int .i64 a0_0, .slice A0_1 l0_1.length c0_1, .slice A0_2 l0_2.length c0_2]] rfl yma ?_; (with_reducible refine (laws_toPuzzle.calls k a0_0 _ _ l0_1 _ _ l0_2 t25 t26 t30 _ (Kd.C_below HR0_1.out HB.out) HC0_1.out (Kd.C_below HR0_2.out HB.out) HC0_2.out E24.out).mono ?_); rintro e w6_ ⟨v0_, v1_, rfl, ho0_, ho1_, hb⟩; refine ⟨_, rfl, ?_⟩; replace O21 := Aside0.mk (Kd.R_below O21.out hb); replace Bg1 := Aside0.mk (blk_below Bg1.out hb); have O27 := Aside0.mk (Kd.R_born ho0_ (below_size HB.out)); obtain ⟨A28, c29, e_⟩ := Kd.R_slice O27.out; subst e_; have O31 := Aside0.mk (Kd.S_born ho1_ (below_size HB.out)); obtain ⟨A32, c33, e_⟩ := Kd.S_slice O31.out; subst e_; have Zw6_ := Aside0.mk hb.size; replace HB := Aside0.mk (below_step HB.out hb); clear hb ho0_ ho1_; clear hzg1_0; clear hzg1_1; clear hzg1_2; skip)
  | ((with_reducible refine gate_dst (N := 9) rfl ?_); refine box_event ?hg (N := 9) ?hd (cs := #[.int .i64 0, .slice none 0 0, .slice none 0 0]) (t := 30) ?hr ?_; (case hd => rfl); (case hg => rfl); (case hr => first | (go_simp; done) | (go_simp; rfl)); intro g34 hg w7_ hbox hb; replace O21 := Aside0.mk (Kd.R_below O21.out hb); replace O27 := Aside0.mk (Kd.R_below O27.out hb); replace O31 := Aside0.mk (Kd.S_below O31.out hb); replace Bg1 := Aside0.mk (blk_below Bg1.out hb); have Bg34 := Aside0.mk hbox; have Gg34 := Aside0.mk (show w6_.heap.size ≤ g34 ∧ g34 < w7_.heap.size from ⟨Nat.le_of_eq hg.symm, blk_lt hbox⟩); have Zw7_ := Aside0.mk hb.size; have Lg34 := Aside0.mk (show w.heap.size ≤ g34 from Nat.le_trans (below_size HB.out) (Nat.le_of_eq hg.symm)); replace HB := Aside0.mk (below_step HB.out hb); have hzg34_0 : w7_.cell? ⟨g34, 0, none⟩ = some (.int .i64 0) := (blk_cell Bg34.out 0).trans rfl; have hzg34_1 : w7_.cell? ⟨g34, 1, none⟩ = some (.slice none 0 0) := (blk_cell Bg34.out 1).trans rfl; have hzg34_2 : w7_.cell? ⟨g34, 2, none⟩ = some (.slice none 0 0) := (blk_cell Bg34.out 2).trans rfl; have hzfg34_0 := blk_frozen Bg34.out 0; have hzfg34_1 := blk_frozen Bg34.out 1; have hzfg34_2 := blk_frozen Bg34.out 2; clear hb hbox hg)
  | ((with_reducible refine gate_store (t := 30) (p := 9) rfl ?_); refine store_event (t := 30) (p := 9) (v := ?vog34) (w1 := ((w7_.setCell ⟨g34, 0, none⟩ (.int .i64 t25)).setCell ⟨g34, 1, none⟩ (.slice A28 t26.length c29)).setCell ⟨g34, 2, none⟩ (.slice A32 t30.length c33)) ?hg ?ho ?hn ?hr ?_; (case ho => rfl); (case hg => rfl); (case hn => rfl); (case hr => first | (go_simp; done) | (go_simp; rfl)); intro w8_ hw; have hk : Kept w7_ w8_ (fun k_ => k_ = g34) := (by rw [hw]; exact box3_kept _ _ _ _ _); have hx : w8_.heap[g34]? = some (.cells #[.int .i64 t25, .slice A28 t26.length c29, .slice A32 t30.length c33] 30 (0, 0)) := (by rw [hw]; exact box3_blk Bg34.out _ _ _); have hb : Below w.heap.size w w8_ := (by rw [hw]; exact box3_below HB.out Lg34.out _ _ _); clear hw; replace O21 := Aside0.mk (Kd.R_kept O21.out hk (fun k_ h_ s_ => by have hx_ := Gg34.out; have hy_ := h_.1; have hz_ := s_; have := Zw1_.out; have := Zw2_.out; have := Zw3_.out; have := Zw4_.out; have := Zw5_.out; have := Zw6_.out; have := Zw7_.out; omega)); replace O27 := Aside0.mk (Kd.R_kept O27.out hk (fun k_ h_ s_ => by have hx_ := Gg34.out; have hy_ := h_.1; have hz_ := s_; have := Zw1_.out; have := Zw2_.out; have := Zw3_.out; have := Zw4_.out; have := Zw5_.out; have := Zw6_.out; have := Zw7_.out; omega)); replace O31 := Aside0.mk (Kd.S_kept O31.out hk (fun k_ h_ s_ => by have hx_ := Gg34.out; have hy_ := h_.1; have hz_ := s_; have := Zw1_.out; have := Zw2_.out; have := Zw3_.out; have := Zw4_.out; have := Zw5_.out; have := Zw6_.out; have := Zw7_.out; omega)); replace Bg1 := Aside0.mk (blk_kept Bg1.out hk (fun s_ => by have hx_ := Gg34.out; have hy_ := Gg1.out; have hz_ := s_; have := Zw1_.out; have := Zw2_.out; have := Zw3_.out; have := Zw4_.out; have := Zw5_.out; have := Zw6_.out; have := Zw7_.out; omega)); replace Bg34 := Aside0.mk hx; have Zw8_ := Aside0.mk hk.1; replace HB := Aside0.mk hb; clear hzfg34_0; clear hzfg34_1; clear hzfg34_2; clear hzg34_0; clear hzg34_1; clear hzg34_2; have hzg34_0 : w8_.cell? ⟨g34, 0, none⟩ = some (.int .i64 t25) := (blk_cell Bg34.out 0).trans rfl; have hzg34_1 : w8_.cell? ⟨g34, 1, none⟩ = some (.slice A28 t26.length c29) := (blk_cell Bg34.out 1).trans rfl; have hzg34_2 : w8_.cell? ⟨g34, 2, none⟩ = some (.slice A32 t30.length c33) := (blk_cell Bg34.out 2).trans rfl; clear hk hx hb)
  | ((with_reducible refine gate_callee (f := 26) rfl ?_); refine goesL_ (some 33) rfl rfl Try.func26 (by kernel_rfl) rfl #[.slice A1 l1.length c1] rfl yma ?_; (with_reducible refine (laws_toIntS.calls k _ _ l1 t36 _ (Kd.C_below HR1.out HB.out) HC1.out E35.out).mono ?_); rintro e w9_ ⟨v0_, rfl, ho0_, hb⟩; refine ⟨_, rfl, ?_⟩; replace O21 := Aside0.mk (Kd.R_below O21.out hb); replace O27 := Aside0.mk (Kd.R_below O27.out hb); replace O31 := Aside0.mk (Kd.S_below O31.out hb); replace Bg1 := Aside0.mk (blk_below Bg1.out hb); replace Bg34 := Aside0.mk (blk_below Bg34.out hb); have O37 := Aside0.mk (Kd.R_born ho0_ (below_size HB.out)); obtain ⟨A38, c39, e_⟩ := Kd.R_slice O37.out; subst e_; have Zw9_ := Aside0.mk hb.size; replace HB := Aside0.mk (below_step HB.out hb); clear hb ho0_; clear hzg34_0; clear hzg34_1; clear hzg34_2; have hzg34_0 : w9_.cell? ⟨g34, 0, none⟩ = some (.int .i64 t25) := (blk_cell Bg34.out 0).trans rfl; have hzg34_1 : w9_.cell? ⟨g34, 1, none⟩ = some (.slice A28 t26.length c29) := (blk_cell Bg34.out 1).trans rfl; have hzg34_2 : w9_.cell? ⟨g34, 2, none⟩ = some (.slice A32 t30.length c33) := (blk_cell Bg34.out 2).trans rfl; skip)
  | ((with_reducible refine gate_callee (f := 27) rfl ?_); refine goesL_ (some 37) rfl rfl Try.func27 (by kernel_rfl) rfl #[.agg #[.int .i64 t25, .slice A28 t26.length c29, .slice A32 t30.length c33], .slice A38 t36.length c39, .int .i64 a2] rfl yma ?_; (with_reducible refine (impl_NarrowBy.calls k t25 _ _ t26 _ _ t30 _ _ t36 a2 t41 _ (Kd.R_reads' O27.out).2.2 (Kd.R_reads' O27.out).2.1 (Kd.R_reads' (Kd.S_R O31.out)).2.2 (Kd.R_reads' (Kd.S_R O31.out)).2.1 (Kd.R_reads' O37.out).2.2 (Kd.R_reads' O37.out).2.1 E40.out).mono ?_); rintro e w10_ ⟨v0_, rfl, ho0_, hb⟩; refine ⟨_, rfl, ?_⟩; replace O21 := Aside0.mk (Kd.R_below O21.out hb); replace O27 := Aside0.mk (Kd.R_below O27.out hb); replace O31 := Aside0.mk (Kd.S_below O31.out hb); replace O37 := Aside0.mk (Kd.R_below O37.out hb); replace Bg1 := Aside0.mk (blk_below Bg1.out hb); replace Bg34 := Aside0.mk (blk_below Bg34.out hb); have O42 := Aside0.mk (Kd.R_born ho0_ (below_size HB.out)); obtain ⟨A43, c44, e_⟩ := Kd.R_slice O42.out; subst e_; have Zw10_ := Aside0.mk hb.size; replace HB := Aside0.mk (below_step HB.out hb); clear hb ho0_; clear hzg34_0; clear hzg34_1; clear hzg34_2; skip)
  | ((with_reducible refine gate_callee (f := 13) rfl ?_); refine goesL_ (some 40) rfl rfl Try.func13 (by kernel_rfl) rfl #[.slice A43 t41.length c44, .slice A22 t20.length c23] rfl yma ?_; (with_reducible refine (laws_eqIntS.calls k _ _ t41 _ _ t20 true _ (Kd.R_reads' O42.out).2.2 (Kd.R_reads' O42.out).2.1 (Kd.R_reads' O21.out).2.2 (Kd.R_reads' O21.out).2.1 E45.out).mono ?_); rintro e w11_ ⟨rfl, hd⟩; refine ⟨_, rfl, ?_⟩; have hb := hd.below; clear hd; replace O21 := Aside0.mk (Kd.R_below O21.out hb); replace O27 := Aside0.mk (Kd.R_below O27.out hb); replace O31 := Aside0.mk (Kd.S_below O31.out hb); replace O37 := Aside0.mk (Kd.R_below O37.out hb); replace O42 := Aside0.mk (Kd.R_below O42.out hb); replace Bg1 := Aside0.mk (blk_below Bg1.out hb); replace Bg34 := Aside0.mk (blk_below Bg34.out hb); have Zw11_ := Aside0.mk hb.size; replace HB := Aside0.mk (below_step HB.out hb); clear hb; skip))
 refine start_ (n := 5) (S := fun w' => w'.cell? ⟨g34, 0, none⟩ = some (.int .i64 t25) ∧ w'.cell? ⟨g34, 1, none⟩ = some (.slice A28 t26.length c29) ∧ w'.cell? ⟨g34, 2, none⟩ = some (.slice A32 t30.length c33) ∧ w'.cell? ⟨g1, 0, none⟩ = some (.int .i64 a0_0) ∧ w'.cell? ⟨g1, 1, none⟩ = some (.slice A0_1 l0_1.length c0_1) ∧ w'.cell? ⟨g1, 2, none⟩ = some (.slice A0_2 l0_2.length c0_2)) (ds := []) #[false, false, false, false, false] (by kernel_rfl) rfl rfl ⟨(blk_cell Bg34.out 0).trans rfl, (blk_cell Bg34.out 1).trans rfl, (blk_cell Bg34.out 2).trans rfl, (blk_cell Bg1.out 0).trans rfl, (blk_cell Bg1.out 1).trans rfl, (blk_cell Bg1.out 2).trans rfl⟩ (fun hHeld => ?_)
 replace O21 := Aside0.mk (Kd.R_drew O21.out)
 replace O27 := Aside0.mk (Kd.R_drew O27.out)
 replace O31 := Aside0.mk (Kd.S_drew O31.out)
 replace O37 := Aside0.mk (Kd.R_drew O37.out)
 replace O42 := Aside0.mk (Kd.R_drew O42.out)
 have HB_ := Aside0.mk (show Below w.heap.size w w11_.drew from below_drew HB.out)
 have hdz_ := Aside0.mk (show w11_.heap.size ≤ w11_.drew.heap.size from Nat.le_refl _)
 clear HB
 have HB := HB_
 clear HB_
 have n_ := Aside0.mk (show w11_.drew.heap[g1]? = _ from Bg1.out)
 clear Bg1
 have Bg1 := n_
 clear n_
 have n_ := Aside0.mk (show w11_.drew.heap[g34]? = _ from Bg34.out)
 clear Bg34
 have Bg34 := n_
 clear n_
 generalize w11_.drew = w12_ at hHeld HB hdz_ O21 O27 O31 O37 O42 Bg1 Bg34 ⊢
 have Zw12_ := hdz_
 clear hdz_
 refine take_ (i := 0) (N := some 42) (v := ?_) (a' := ?_) #[true, false, false, false, false] rfl rfl (by kernel_rfl) (fun _ _ _ h => h) (Or.inl ⟨by rfl, ?_⟩) hHeld ?_ ?_
 rotate_left
 ·rintro w' ⟨s0, s1, s2, s3, s4, s5⟩
  go_simp
  with_reducible rfl
 rotate_left
 ·simp only [Act.put, yps, i64_w, i32_w]
  rfl
 refine take_ (i := 1) (N := some 43) (v := ?_) (a' := ?_) #[true, true, false, false, false] rfl rfl (by kernel_rfl) (fun _ _ _ h => h) (Or.inl ⟨by rfl, ?_⟩) hHeld ?_ ?_
 rotate_left
 ·rintro w' ⟨s0, s1, s2, s3, s4, s5⟩
  go_simp
  with_reducible rfl
 rotate_left
 ·simp only [Act.put, yps, i64_w, i32_w]
  rfl
 refine one_ (i := 2) (N := some 44) #[true, true, true, false, false] rfl rfl (by kernel_rfl) (by decide) (fun K hK => ?_)
 refine goes_ Try.func11 (by kernel_rfl) rfl #[.agg #[.int .i64 a0_0, .slice A0_1 l0_1.length c0_1, .slice A0_2 l0_2.length c0_2]] (by rfl) rfl rfl yma ?_
 with_reducible refine (laws_toPuzzle.calls k a0_0 _ _ l0_1 _ _ l0_2 t48 t49 t53 _ (Kd.C_below HR0_1.out HB.out) HC0_1.out (Kd.C_below HR0_2.out HB.out) HC0_2.out E47.out).mono ?_
 rintro e w13_ ⟨v0_, v1_, rfl, ho0_, ho1_, hb⟩
 refine ⟨_, rfl, ?_⟩
 replace O21 := Aside0.mk (Kd.R_below O21.out hb)
 replace O27 := Aside0.mk (Kd.R_below O27.out hb)
 replace O31 := Aside0.mk (Kd.S_below O31.out hb)
 replace O37 := Aside0.mk (Kd.R_below O37.out hb)
 replace O42 := Aside0.mk (Kd.R_below O42.out hb)
 replace Bg1 := Aside0.mk (blk_below Bg1.out hb)
 replace Bg34 := Aside0.mk (blk_below Bg34.out hb)
 have O50 := Aside0.mk (Kd.R_born ho0_ (below_size HB.out))
 obtain ⟨A51, c52, e_⟩ := Kd.R_slice O50.out
 subst e_
 have O54 := Aside0.mk (Kd.S_born ho1_ (below_size HB.out))
 obtain ⟨A55, c56, e_⟩ := Kd.S_slice O54.out
 subst e_
 have Zw13_ := Aside0.mk hb.size
 replace HB := Aside0.mk (below_step HB.out hb)
 clear hb ho0_ ho1_
 refine hK.out _ _ ⟨(blk_cell Bg34.out 0).trans rfl, (blk_cell Bg34.out 1).trans rfl, (blk_cell Bg34.out 2).trans rfl, (blk_cell Bg1.out 0).trans rfl, (blk_cell Bg1.out 1).trans rfl, (blk_cell Bg1.out 2).trans rfl⟩ (fun hHeld => ?_)
 clear hK K
 refine norm_ (a' := ?_) ?_ ?_
 rotate_left
 ·show Act.put _ (some 44) _ = _
  simp only [Act.put, yps, i64_w, i32_w]
  rfl
 refine one_ (i := 3) (N := some 45) #[true, true, true, true, false] rfl rfl (by kernel_rfl) (by decide) (fun K hK => ?_)
 refine goes_ Try.func14 (by kernel_rfl) rfl #[.agg #[.int .i64 t25, .slice A28 t26.length c29, .slice A32 t30.length c33], .agg #[.int .i64 t48, .slice A51 t49.length c52, .slice A55 t53.length c56]] (by rfl) rfl rfl yma ?_
 with_reducible refine (laws_eqPuzzle.calls k t25 _ _ t26 _ _ t30 t48 _ _ t49 _ _ t53 true _ (Kd.R_reads' O27.out).2.2 (Kd.R_reads' O27.out).2.1 (Kd.R_reads' (Kd.S_R O31.out)).2.2 (Kd.R_reads' (Kd.S_R O31.out)).2.1 (Kd.R_reads' O50.out).2.2 (Kd.R_reads' O50.out).2.1 (Kd.R_reads' (Kd.S_R O54.out)).2.2 (Kd.R_reads' (Kd.S_R O54.out)).2.1 E57.out).mono ?_
 rintro e w14_ ⟨rfl, hb⟩
 refine ⟨_, rfl, ?_⟩
 replace O21 := Aside0.mk (Kd.R_below O21.out hb)
 replace O27 := Aside0.mk (Kd.R_below O27.out hb)
 replace O31 := Aside0.mk (Kd.S_below O31.out hb)
 replace O37 := Aside0.mk (Kd.R_below O37.out hb)
 replace O42 := Aside0.mk (Kd.R_below O42.out hb)
 replace Bg1 := Aside0.mk (blk_below Bg1.out hb)
 replace Bg34 := Aside0.mk (blk_below Bg34.out hb)
 clear O50
 clear O54
 have Zw14_ := Aside0.mk hb.size
 replace HB := Aside0.mk (below_step HB.out hb)
 clear hb
 refine hK.out _ _ ⟨(blk_cell Bg34.out 0).trans rfl, (blk_cell Bg34.out 1).trans rfl, (blk_cell Bg34.out 2).trans rfl, (blk_cell Bg1.out 0).trans rfl, (blk_cell Bg1.out 1).trans rfl, (blk_cell Bg1.out 2).trans rfl⟩ (fun hHeld => ?_)
 clear hK K
 refine norm_ (a' := ?_) ?_ ?_
 rotate_left
 ·show Act.put _ (some 45) _ = _
  simp only [Act.put, yps, i64_w, i32_w]
  rfl
 refine pure_ (i := 4) (N := some 46) (v := ?_) (a' := ?_) #[true, true, true, true, true] rfl rfl (by kernel_rfl) (fun _ _ _ h => h) (Or.inl ⟨by rfl, ?_⟩) ?_ ?_
 rotate_left
 ·intro w'
  go_simp
  with_reducible rfl
 rotate_left
 ·simp only [Act.put, yps, i64_w, i32_w]
  rfl
 refine done_ (by kernel_rfl) ?_
 have hzg1_0 : w14_.cell? ⟨g1, 0, none⟩ = some (.int .i64 a0_0) := (blk_cell Bg1.out 0).trans rfl
 have hzg1_1 : w14_.cell? ⟨g1, 1, none⟩ = some (.slice A0_1 l0_1.length c0_1) := (blk_cell Bg1.out 1).trans rfl
 have hzg1_2 : w14_.cell? ⟨g1, 2, none⟩ = some (.slice A0_2 l0_2.length c0_2) := (blk_cell Bg1.out 2).trans rfl
 have hzg34_0 : w14_.cell? ⟨g34, 0, none⟩ = some (.int .i64 t25) := (blk_cell Bg34.out 0).trans rfl
 have hzg34_1 : w14_.cell? ⟨g34, 1, none⟩ = some (.slice A28 t26.length c29) := (blk_cell Bg34.out 1).trans rfl
 have hzg34_2 : w14_.cell? ⟨g34, 2, none⟩ = some (.slice A32 t30.length c33) := (blk_cell Bg34.out 2).trans rfl
 go_wp2_with (first
  | ((with_reducible refine gate_callee (f := 26) rfl ?_); refine goesL_ (some 49) rfl rfl Try.func26 (by kernel_rfl) rfl #[.slice A1 l1.length c1] rfl yma ?_; (with_reducible refine (laws_toIntS.calls k _ _ l1 t60 _ (Kd.C_below HR1.out HB.out) HC1.out E59.out).mono ?_); rintro e w15_ ⟨v0_, rfl, ho0_, hb⟩; refine ⟨_, rfl, ?_⟩; replace O21 := Aside0.mk (Kd.R_below O21.out hb); replace O27 := Aside0.mk (Kd.R_below O27.out hb); replace O31 := Aside0.mk (Kd.S_below O31.out hb); replace O37 := Aside0.mk (Kd.R_below O37.out hb); replace O42 := Aside0.mk (Kd.R_below O42.out hb); replace Bg1 := Aside0.mk (blk_below Bg1.out hb); replace Bg34 := Aside0.mk (blk_below Bg34.out hb); have O61 := Aside0.mk (Kd.R_born ho0_ (below_size HB.out)); obtain ⟨A62, c63, e_⟩ := Kd.R_slice O61.out; subst e_; have Zw15_ := Aside0.mk hb.size; replace HB := Aside0.mk (below_step HB.out hb); clear hb ho0_; clear hzg1_0; clear hzg1_1; clear hzg1_2; clear hzg34_0; clear hzg34_1; clear hzg34_2; have hzg1_0 : w15_.cell? ⟨g1, 0, none⟩ = some (.int .i64 a0_0) := (blk_cell Bg1.out 0).trans rfl; have hzg1_1 : w15_.cell? ⟨g1, 1, none⟩ = some (.slice A0_1 l0_1.length c0_1) := (blk_cell Bg1.out 1).trans rfl; have hzg1_2 : w15_.cell? ⟨g1, 2, none⟩ = some (.slice A0_2 l0_2.length c0_2) := (blk_cell Bg1.out 2).trans rfl; have hzg34_0 : w15_.cell? ⟨g34, 0, none⟩ = some (.int .i64 t25) := (blk_cell Bg34.out 0).trans rfl; have hzg34_1 : w15_.cell? ⟨g34, 1, none⟩ = some (.slice A28 t26.length c29) := (blk_cell Bg34.out 1).trans rfl; have hzg34_2 : w15_.cell? ⟨g34, 2, none⟩ = some (.slice A32 t30.length c33) := (blk_cell Bg34.out 2).trans rfl; skip)
  | ((with_reducible refine gate_callee (f := 13) rfl ?_); refine goesL_ (some 50) rfl rfl Try.func13 (by kernel_rfl) rfl #[.slice A38 t36.length c39, .slice A62 t60.length c63] rfl yma ?_; (with_reducible refine (laws_eqIntS.calls k _ _ t36 _ _ t60 true _ (Kd.R_reads' O37.out).2.2 (Kd.R_reads' O37.out).2.1 (Kd.R_reads' O61.out).2.2 (Kd.R_reads' O61.out).2.1 E64.out).mono ?_); rintro e w16_ ⟨rfl, hd⟩; refine ⟨_, rfl, ?_⟩; have hb := hd.below; clear hd; replace O21 := Aside0.mk (Kd.R_below O21.out hb); replace O27 := Aside0.mk (Kd.R_below O27.out hb); replace O31 := Aside0.mk (Kd.S_below O31.out hb); replace O37 := Aside0.mk (Kd.R_below O37.out hb); replace O42 := Aside0.mk (Kd.R_below O42.out hb); replace Bg1 := Aside0.mk (blk_below Bg1.out hb); replace Bg34 := Aside0.mk (blk_below Bg34.out hb); clear O61; have Zw16_ := Aside0.mk hb.size; replace HB := Aside0.mk (below_step HB.out hb); clear hb; clear hzg1_0; clear hzg1_1; clear hzg1_2; clear hzg34_0; clear hzg34_1; clear hzg34_2; have hzg1_0 : w16_.cell? ⟨g1, 0, none⟩ = some (.int .i64 a0_0) := (blk_cell Bg1.out 0).trans rfl; have hzg1_1 : w16_.cell? ⟨g1, 1, none⟩ = some (.slice A0_1 l0_1.length c0_1) := (blk_cell Bg1.out 1).trans rfl; have hzg1_2 : w16_.cell? ⟨g1, 2, none⟩ = some (.slice A0_2 l0_2.length c0_2) := (blk_cell Bg1.out 2).trans rfl; have hzg34_0 : w16_.cell? ⟨g34, 0, none⟩ = some (.int .i64 t25) := (blk_cell Bg34.out 0).trans rfl; have hzg34_1 : w16_.cell? ⟨g34, 1, none⟩ = some (.slice A28 t26.length c29) := (blk_cell Bg34.out 1).trans rfl; have hzg34_2 : w16_.cell? ⟨g34, 2, none⟩ = some (.slice A32 t30.length c33) := (blk_cell Bg34.out 2).trans rfl; skip)
  | ((with_reducible refine gate_callee (f := 15) rfl ?_); refine goesL_ (some 54) rfl rfl Try.func15 (by kernel_rfl) rfl #[.agg #[.int .i64 t25, .slice A28 t26.length c29, .slice A32 t30.length c33], .int .i64 1] rfl yma ?_; (with_reducible refine (laws_markPuzzle.calls k t25 _ _ _ _ t26 _ _ t30 1 t67 t68 t69 w w16_ HB.out apart_own (Kd.R_tight rfl O27.out) O31.out E66.out).mono ?_); rintro e w17_ ⟨rfl, hm0_, hm1_, hb, hk⟩; refine ⟨_, rfl, ?_⟩; replace O21 := Aside0.mk (Kd.R_kept O21.out hk (fun k_ h_ s_ => s_.elim (fun p_ => by have hx_ := (O27.out.1 _ p_.symm).1; have hy_ := h_.1; have := Zw1_.out; have := Zw2_.out; have := Zw3_.out; have := Zw4_.out; have := Zw5_.out; have := Zw6_.out; have := Zw7_.out; have := Zw8_.out; have := Zw9_.out; have := Zw10_.out; have := Zw11_.out; have := Zw12_.out; have := Zw13_.out; have := Zw14_.out; have := Zw15_.out; have := Zw16_.out; omega) (fun q_ => by have hx_ := q_.1; have hy_ := h_.1; have := Zw1_.out; have := Zw2_.out; have := Zw3_.out; have := Zw4_.out; have := Zw5_.out; have := Zw6_.out; have := Zw7_.out; have := Zw8_.out; have := Zw9_.out; have := Zw10_.out; have := Zw11_.out; have := Zw12_.out; have := Zw13_.out; have := Zw14_.out; have := Zw15_.out; have := Zw16_.out; omega))); replace O37 := Aside0.mk (Kd.R_kept O37.out hk (fun k_ h_ s_ => s_.elim (fun p_ => by have hx_ := (O27.out.1 _ p_.symm).1; have hy_ := h_.1; have := Zw1_.out; have := Zw2_.out; have := Zw3_.out; have := Zw4_.out; have := Zw5_.out; have := Zw6_.out; have := Zw7_.out; have := Zw8_.out; have := Zw9_.out; have := Zw10_.out; have := Zw11_.out; have := Zw12_.out; have := Zw13_.out; have := Zw14_.out; have := Zw15_.out; have := Zw16_.out; omega) (fun q_ => by have hx_ := q_.1; have hy_ := h_.1; have := Zw1_.out; have := Zw2_.out; have := Zw3_.out; have := Zw4_.out; have := Zw5_.out; have := Zw6_.out; have := Zw7_.out; have := Zw8_.out; have := Zw9_.out; have := Zw10_.out; have := Zw11_.out; have := Zw12_.out; have := Zw13_.out; have := Zw14_.out; have := Zw15_.out; have := Zw16_.out; omega))); replace O42 := Aside0.mk (Kd.R_kept O42.out hk (fun k_ h_ s_ => s_.elim (fun p_ => by have hx_ := (O27.out.1 _ p_.symm).1; have hy_ := h_.1; have := Zw1_.out; have := Zw2_.out; have := Zw3_.out; have := Zw4_.out; have := Zw5_.out; have := Zw6_.out; have := Zw7_.out; have := Zw8_.out; have := Zw9_.out; have := Zw10_.out; have := Zw11_.out; have := Zw12_.out; have := Zw13_.out; have := Zw14_.out; have := Zw15_.out; have := Zw16_.out; omega) (fun q_ => by have hx_ := q_.1; have hy_ := h_.1; have := Zw1_.out; have := Zw2_.out; have := Zw3_.out; have := Zw4_.out; have := Zw5_.out; have := Zw6_.out; have := Zw7_.out; have := Zw8_.out; have := Zw9_.out; have := Zw10_.out; have := Zw11_.out; have := Zw12_.out; have := Zw13_.out; have := Zw14_.out; have := Zw15_.out; have := Zw16_.out; omega))); replace Bg1 := Aside0.mk (blk_kept Bg1.out hk (fun s_ => s_.elim (fun p_ => by have hx_ := (O27.out.1 _ p_.symm).1; have hy_ := Gg1.out; have := Zw1_.out; have := Zw2_.out; have := Zw3_.out; have := Zw4_.out; have := Zw5_.out; have := Zw6_.out; have := Zw7_.out; have := Zw8_.out; have := Zw9_.out; have := Zw10_.out; have := Zw11_.out; have := Zw12_.out; have := Zw13_.out; have := Zw14_.out; have := Zw15_.out; have := Zw16_.out; omega) (fun q_ => by have hx_ := q_.1; have hy_ := Gg1.out; have := Zw1_.out; have := Zw2_.out; have := Zw3_.out; have := Zw4_.out; have := Zw5_.out; have := Zw6_.out; have := Zw7_.out; have := Zw8_.out; have := Zw9_.out; have := Zw10_.out; have := Zw11_.out; have := Zw12_.out; have := Zw13_.out; have := Zw14_.out; have := Zw15_.out; have := Zw16_.out; omega))); clear O27; clear O31; clear Bg34; have Zw17_ := Aside0.mk hk.1; replace HB := Aside0.mk hb; clear hk hb hm0_ hm1_; clear hzg1_0; clear hzg1_1; clear hzg1_2; clear hzg34_0; clear hzg34_1; clear hzg34_2; have hzg1_0 : w17_.cell? ⟨g1, 0, none⟩ = some (.int .i64 a0_0) := (blk_cell Bg1.out 0).trans rfl; have hzg1_1 : w17_.cell? ⟨g1, 1, none⟩ = some (.slice A0_1 l0_1.length c0_1) := (blk_cell Bg1.out 1).trans rfl; have hzg1_2 : w17_.cell? ⟨g1, 2, none⟩ = some (.slice A0_2 l0_2.length c0_2) := (blk_cell Bg1.out 2).trans rfl; skip)
  | ((with_reducible refine gate_callee (f := 16) rfl ?_); refine goesL_ (some 57) rfl rfl Try.func16 (by kernel_rfl) rfl #[.slice A38 t36.length c39, .int .i64 t67] rfl yma ?_; (with_reducible refine (laws_markIntS.calls k _ _ t36 t67 t71 t72 w w17_ HB.out (Kd.R_tight rfl O37.out) E70.out).mono ?_); rintro e w18_ ⟨rfl, hm0_, hb, hk⟩; refine ⟨_, rfl, ?_⟩; replace O21 := Aside0.mk (Kd.R_kept O21.out hk (fun k_ h_ s_ => by have hx_ := (O37.out.1 _ s_.symm).1; have hy_ := h_.1; have := Zw1_.out; have := Zw2_.out; have := Zw3_.out; have := Zw4_.out; have := Zw5_.out; have := Zw6_.out; have := Zw7_.out; have := Zw8_.out; have := Zw9_.out; have := Zw10_.out; have := Zw11_.out; have := Zw12_.out; have := Zw13_.out; have := Zw14_.out; have := Zw15_.out; have := Zw16_.out; have := Zw17_.out; omega)); replace O42 := Aside0.mk (Kd.R_kept O42.out hk (fun k_ h_ s_ => by have hx_ := (O37.out.1 _ s_.symm).1; have hy_ := h_.1; have := Zw1_.out; have := Zw2_.out; have := Zw3_.out; have := Zw4_.out; have := Zw5_.out; have := Zw6_.out; have := Zw7_.out; have := Zw8_.out; have := Zw9_.out; have := Zw10_.out; have := Zw11_.out; have := Zw12_.out; have := Zw13_.out; have := Zw14_.out; have := Zw15_.out; have := Zw16_.out; have := Zw17_.out; omega)); replace Bg1 := Aside0.mk (blk_kept Bg1.out hk (fun s_ => by have hx_ := (O37.out.1 _ s_.symm).1; have hy_ := Gg1.out; have := Zw1_.out; have := Zw2_.out; have := Zw3_.out; have := Zw4_.out; have := Zw5_.out; have := Zw6_.out; have := Zw7_.out; have := Zw8_.out; have := Zw9_.out; have := Zw10_.out; have := Zw11_.out; have := Zw12_.out; have := Zw13_.out; have := Zw14_.out; have := Zw15_.out; have := Zw16_.out; have := Zw17_.out; omega)); clear O37; have Zw18_ := Aside0.mk hk.1; replace HB := Aside0.mk hb; clear hk hb hm0_; clear hzg1_0; clear hzg1_1; clear hzg1_2; have hzg1_0 : w18_.cell? ⟨g1, 0, none⟩ = some (.int .i64 a0_0) := (blk_cell Bg1.out 0).trans rfl; have hzg1_1 : w18_.cell? ⟨g1, 1, none⟩ = some (.slice A0_1 l0_1.length c0_1) := (blk_cell Bg1.out 1).trans rfl; have hzg1_2 : w18_.cell? ⟨g1, 2, none⟩ = some (.slice A0_2 l0_2.length c0_2) := (blk_cell Bg1.out 2).trans rfl; skip)
  | (go_at_call 13; (with_reducible refine (laws_eqIntS.calls k _ _ t41 _ _ t20 true _ (Kd.R_reads' O42.out).2.2 (Kd.R_reads' O42.out).2.1 (Kd.R_reads' O21.out).2.2 (Kd.R_reads' O21.out).2.1 E73.out).mono ?_); rintro e w19_ ⟨rfl, hd⟩; have hb := hd.below; clear hd; replace O21 := Aside0.mk (Kd.R_below O21.out hb); replace O42 := Aside0.mk (Kd.R_below O42.out hb); replace Bg1 := Aside0.mk (blk_below Bg1.out hb); have Zw19_ := Aside0.mk hb.size; replace HB := Aside0.mk (below_step HB.out hb); clear hb; clear hzg1_0; clear hzg1_1; clear hzg1_2; have hzg1_0 : w19_.cell? ⟨g1, 0, none⟩ = some (.int .i64 a0_0) := (blk_cell Bg1.out 0).trans rfl; have hzg1_1 : w19_.cell? ⟨g1, 1, none⟩ = some (.slice A0_1 l0_1.length c0_1) := (blk_cell Bg1.out 1).trans rfl; have hzg1_2 : w19_.cell? ⟨g1, 2, none⟩ = some (.slice A0_2 l0_2.length c0_2) := (blk_cell Bg1.out 2).trans rfl; skip)
  | ((with_reducible refine gate_callee (f := 16) rfl ?_); refine goesL_ (some 68) rfl rfl Try.func16 (by kernel_rfl) rfl #[.slice A43 t41.length c44, .int .i64 1] rfl yma ?_; (with_reducible refine (laws_markIntS.calls k _ _ t41 1 t76 t77 w w19_ HB.out (Kd.R_tight rfl O42.out) E75.out).mono ?_); rintro e w20_ ⟨rfl, hm0_, hb, hk⟩; refine ⟨_, rfl, ?_⟩; replace O21 := Aside0.mk (Kd.R_kept O21.out hk (fun k_ h_ s_ => by have hx_ := (O42.out.1 _ s_.symm).1; have hy_ := h_.1; have := Zw1_.out; have := Zw2_.out; have := Zw3_.out; have := Zw4_.out; have := Zw5_.out; have := Zw6_.out; have := Zw7_.out; have := Zw8_.out; have := Zw9_.out; have := Zw10_.out; have := Zw11_.out; have := Zw12_.out; have := Zw13_.out; have := Zw14_.out; have := Zw15_.out; have := Zw16_.out; have := Zw17_.out; have := Zw18_.out; have := Zw19_.out; omega)); replace Bg1 := Aside0.mk (blk_kept Bg1.out hk (fun s_ => by have hx_ := (O42.out.1 _ s_.symm).1; have hy_ := Gg1.out; have := Zw1_.out; have := Zw2_.out; have := Zw3_.out; have := Zw4_.out; have := Zw5_.out; have := Zw6_.out; have := Zw7_.out; have := Zw8_.out; have := Zw9_.out; have := Zw10_.out; have := Zw11_.out; have := Zw12_.out; have := Zw13_.out; have := Zw14_.out; have := Zw15_.out; have := Zw16_.out; have := Zw17_.out; have := Zw18_.out; have := Zw19_.out; omega)); replace O42 := Aside0.mk hm0_; have Lt77 := Aside0.mk (Kd.R_reads' hm0_).1.symm; have Zw20_ := Aside0.mk hk.1; replace HB := Aside0.mk hb; clear hk hb hm0_; clear hzg1_0; clear hzg1_1; clear hzg1_2; have hzg1_0 : w20_.cell? ⟨g1, 0, none⟩ = some (.int .i64 a0_0) := (blk_cell Bg1.out 0).trans rfl; have hzg1_1 : w20_.cell? ⟨g1, 1, none⟩ = some (.slice A0_1 l0_1.length c0_1) := (blk_cell Bg1.out 1).trans rfl; have hzg1_2 : w20_.cell? ⟨g1, 2, none⟩ = some (.slice A0_2 l0_2.length c0_2) := (blk_cell Bg1.out 2).trans rfl; skip)
  | ((with_reducible refine gate_callee (f := 17) rfl ?_); refine goesL_ (some 71) rfl rfl Try.func17 (by kernel_rfl) rfl #[.slice A43 t77.length c44, .int .i64 1] rfl (by (try simp only [List.map_toArray, List.map_cons, List.map_nil]); first | done | rfl | (rw [Lt77.out]; rfl)) ?_; (with_reducible refine (laws_heldIntS.calls k _ _ t77 1 t79 _ (Kd.R_reads' O42.out).2.2 (by rw [Lt77.out]; exact (Kd.R_reads' O42.out).2.1) E78.out).mono ?_); rintro e w21_ ⟨rfl, hd⟩; refine ⟨_, rfl, ?_⟩; have hb := hd.below; clear hd; replace O21 := Aside0.mk (Kd.R_below O21.out hb); replace O42 := Aside0.mk (Kd.R_below O42.out hb); replace Bg1 := Aside0.mk (blk_below Bg1.out hb); have Zw21_ := Aside0.mk hb.size; replace HB := Aside0.mk (below_step HB.out hb); clear hb; clear hzg1_0; clear hzg1_1; clear hzg1_2; have hzg1_0 : w21_.cell? ⟨g1, 0, none⟩ = some (.int .i64 a0_0) := (blk_cell Bg1.out 0).trans rfl; have hzg1_1 : w21_.cell? ⟨g1, 1, none⟩ = some (.slice A0_1 l0_1.length c0_1) := (blk_cell Bg1.out 1).trans rfl; have hzg1_2 : w21_.cell? ⟨g1, 2, none⟩ = some (.slice A0_2 l0_2.length c0_2) := (blk_cell Bg1.out 2).trans rfl; skip)
  | ((with_reducible refine gate_callee (f := 11) rfl ?_); refine goesL_ (some 78) rfl rfl Try.func11 (by kernel_rfl) rfl #[.agg #[.int .i64 a0_0, .slice A0_1 l0_1.length c0_1, .slice A0_2 l0_2.length c0_2]] rfl yma ?_; (with_reducible refine (laws_toPuzzle.calls k a0_0 _ _ l0_1 _ _ l0_2 t81 t82 t86 _ (Kd.C_below HR0_1.out HB.out) HC0_1.out (Kd.C_below HR0_2.out HB.out) HC0_2.out E80.out).mono ?_); rintro e w22_ ⟨v0_, v1_, rfl, ho0_, ho1_, hb⟩; refine ⟨_, rfl, ?_⟩; replace O21 := Aside0.mk (Kd.R_below O21.out hb); replace O42 := Aside0.mk (Kd.R_below O42.out hb); clear Bg1; have O83 := Aside0.mk (Kd.R_born ho0_ (below_size HB.out)); obtain ⟨A84, c85, e_⟩ := Kd.R_slice O83.out; subst e_; have O87 := Aside0.mk (Kd.S_born ho1_ (below_size HB.out)); obtain ⟨A88, c89, e_⟩ := Kd.S_slice O87.out; subst e_; have Zw22_ := Aside0.mk hb.size; replace HB := Aside0.mk (below_step HB.out hb); clear hb ho0_ ho1_; clear hzg1_0; clear hzg1_1; clear hzg1_2; skip)
  | ((with_reducible refine gate_callee (f := 26) rfl ?_); refine goesL_ (some 80) rfl rfl Try.func26 (by kernel_rfl) rfl #[.slice A1 l1.length c1] rfl yma ?_; (with_reducible refine (laws_toIntS.calls k _ _ l1 t91 _ (Kd.C_below HR1.out HB.out) HC1.out E90.out).mono ?_); rintro e w23_ ⟨v0_, rfl, ho0_, hb⟩; refine ⟨_, rfl, ?_⟩; replace O21 := Aside0.mk (Kd.R_below O21.out hb); replace O42 := Aside0.mk (Kd.R_below O42.out hb); replace O83 := Aside0.mk (Kd.R_below O83.out hb); replace O87 := Aside0.mk (Kd.S_below O87.out hb); have O92 := Aside0.mk (Kd.R_born ho0_ (below_size HB.out)); obtain ⟨A93, c94, e_⟩ := Kd.R_slice O92.out; subst e_; have Zw23_ := Aside0.mk hb.size; replace HB := Aside0.mk (below_step HB.out hb); clear hb ho0_; skip)
  | ((with_reducible refine gate_callee (f := 27) rfl ?_); refine goesL_ (some 82) rfl rfl Try.func27 (by kernel_rfl) rfl #[.agg #[.int .i64 t81, .slice A84 t82.length c85, .slice A88 t86.length c89], .slice A93 t91.length c94, .int .i64 a2] rfl yma ?_; (with_reducible refine (impl_NarrowBy.calls k t81 _ _ t82 _ _ t86 _ _ t91 a2 t96 _ (Kd.R_reads' O83.out).2.2 (Kd.R_reads' O83.out).2.1 (Kd.R_reads' (Kd.S_R O87.out)).2.2 (Kd.R_reads' (Kd.S_R O87.out)).2.1 (Kd.R_reads' O92.out).2.2 (Kd.R_reads' O92.out).2.1 E95.out).mono ?_); rintro e w24_ ⟨v0_, rfl, ho0_, hb⟩; refine ⟨_, rfl, ?_⟩; replace O21 := Aside0.mk (Kd.R_below O21.out hb); replace O42 := Aside0.mk (Kd.R_below O42.out hb); clear O83; clear O87; clear O92; have O97 := Aside0.mk (Kd.R_born ho0_ (below_size HB.out)); obtain ⟨A98, c99, e_⟩ := Kd.R_slice O97.out; subst e_; have Zw24_ := Aside0.mk hb.size; replace HB := Aside0.mk (below_step HB.out hb); clear hb ho0_; skip)
  | ((with_reducible refine gate_callee (f := 13) rfl ?_); refine goesL_ (some 85) rfl rfl Try.func13 (by kernel_rfl) rfl #[.slice A98 t96.length c99, .slice A22 t20.length c23] rfl yma ?_; (with_reducible refine (laws_eqIntS.calls k _ _ t96 _ _ t20 true _ (Kd.R_reads' O97.out).2.2 (Kd.R_reads' O97.out).2.1 (Kd.R_reads' O21.out).2.2 (Kd.R_reads' O21.out).2.1 E100.out).mono ?_); rintro e w25_ ⟨rfl, hd⟩; refine ⟨_, rfl, ?_⟩; have hb := hd.below; clear hd; replace O42 := Aside0.mk (Kd.R_below O42.out hb); clear O21; clear O97; have Zw25_ := Aside0.mk hb.size; replace HB := Aside0.mk (below_step HB.out hb); clear hb; skip)
  | ((with_reducible refine gate_callee (f := 17) rfl ?_); refine goesL_ (some 89) rfl rfl Try.func17 (by kernel_rfl) rfl #[.slice A43 t77.length c44, .int .i64 1] rfl (by (try simp only [List.map_toArray, List.map_cons, List.map_nil]); first | done | rfl | (rw [Lt77.out]; rfl)) ?_; (with_reducible refine (laws_heldIntS.calls k _ _ t77 1 t103 _ (Kd.R_reads' O42.out).2.2 (by rw [Lt77.out]; exact (Kd.R_reads' O42.out).2.1) E102.out).mono ?_); rintro e w26_ ⟨rfl, hd⟩; refine ⟨_, rfl, ?_⟩; have hb := hd.below; clear hd; clear O42; have Zw26_ := Aside0.mk hb.size; replace HB := Aside0.mk (below_step HB.out hb); clear hb; skip))
 go_ret
 exact ⟨rfl, HB.out⟩
end Go.Proofs.Ytdemlminhkhonaa.P
