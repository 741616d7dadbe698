/- The machine's side: each Go function as a plain Lean function and the proof that the machine's call does what that function says; written by this session's own program over the kit's print. -/
import Derived.Test.YtmjbnghhfadapaaZP1
import Derived.Test.YtmjbnghhfadapaaZP4
import Derived.Test.YtmjbnghhfadapaaZP5
import Derived.Test.YtmjbnghhfadapaaZP7
namespace Go.Proofs.Ytmjbnghhfadapaa.P
open Go.RowKit Go.Proofs.YtmjbnghhfadapaaW.PrintWords Go.Proofs.YtmjbnghhfadapaaW.PrintLast Go.Proofs.YtmjbnghhfadapaaW.PrintMore
attribute [local go_sem] max2_int min2_int max_two min_two max_three min_three max_four min_four   -- for this text's walks alone
set_option linter.unusedVariables false
set_option linter.unusedSimpArgs false
/-! ### laws_FnExactCountSolutions: function 6 -/
def laws_FnExactCountSolutions.f (k : Nat) (a0_0 : Int) (l0_1 : List Int) (l0_2 : List (S70)) (a1 : Int) : Option (Bool) := (laws_szPuzzle.f k a0_0 l0_1 l0_2 1048576).bind fun t612 => (if t612 < 0 then (some true) else ((laws_toPuzzle.f k a0_0 l0_1 l0_2).bind fun bt613 => ((spec_CountSolutions.f k bt613.1 bt613.2.1 bt613.2.2 a1).bind fun t620 => ((laws_toPuzzle.f k a0_0 l0_1 l0_2).bind fun bt621 => ((impl_CountSolutions.f k bt621.1 bt621.2.1 bt621.2.2 a1).bind fun t629 => (if t629 = t620 then ((laws_toPuzzle.f k a0_0 l0_1 l0_2).bind fun bt630 => ((laws_eqPuzzle.f k bt621.1 bt621.2.1 bt621.2.2 bt630.1 bt630.2.1 bt630.2.2).bind fun t637 => (if t637 = true then (some true) else (some false)))) else (some false)))))))
set_option maxHeartbeats 8000000 in
set_option maxRecDepth 100000 in
theorem laws_FnExactCountSolutions.calls (k : Nat) (a0_0 : Int) (A0_1 : Option Addr) (c0_1 : Nat) (l0_1 : List Int) (A0_2 : Option Addr) (c0_2 : Nat) (l0_2 : List (S70)) (a1 : Int) (r : Bool) (w : World) (hr0_1 : Kd.C (Kd.int .i64) w A0_1 l0_1.length l0_1) (hc0_1 : l0_1.length ≤ c0_1) (hr0_2 : Kd.C k70 w A0_2 l0_2.length l0_2) (hc0_2 : l0_2.length ≤ c0_2) (h : laws_FnExactCountSolutions.f k a0_0 l0_1 l0_2 a1 = some r) :
  Calls Try.prog 6 #[.agg #[.int .i64 a0_0, .slice A0_1 l0_1.length c0_1, .slice A0_2 l0_2.length c0_2], .int .i64 a1] w fun e w' => e = .returned (.bool r) ∧ Below w.heap.size w w' := by
 have hu48 := Try.underlying48
 have hu37 := Try.underlying37
 have HR0_1 := yam hr0_1
 have HC0_1 := yam hc0_1
 clear hr0_1 hc0_1
 have HR0_2 := yam hr0_2
 have HC0_2 := yam hc0_2
 clear hr0_2 hc0_2
 have HB := yam (Below.refl w.heap.size w)
 have H : ((laws_szPuzzle.f k a0_0 l0_1 l0_2 1048576).bind fun t612 => (if t612 < 0 then (some true) else ((laws_toPuzzle.f k a0_0 l0_1 l0_2).bind fun bt613 => ((spec_CountSolutions.f k bt613.1 bt613.2.1 bt613.2.2 a1).bind fun t620 => ((laws_toPuzzle.f k a0_0 l0_1 l0_2).bind fun bt621 => ((impl_CountSolutions.f k bt621.1 bt621.2.1 bt621.2.2 a1).bind fun t629 => (if t629 = t620 then ((laws_toPuzzle.f k a0_0 l0_1 l0_2).bind fun bt630 => ((laws_eqPuzzle.f k bt621.1 bt621.2.1 bt621.2.2 bt630.1 bt630.2.1 bt630.2.2).bind fun t637 => (if t637 = true then (some true) else (some false)))) else (some false)))))))) = some r := h
 clear h
 replace H := Option.bind_eq_some_iff.mp H
 obtain ⟨t612, A30, H⟩ := H
 try dsimp only at H
 have A3 := yam A30
 clear A30
 by_cases c4 : t612 < 0
 ·rw [if_pos c4] at H
  have c4b0 : decide (t612 < 0) = true := decide_eq_true c4
  clear c4
  obtain rfl := Option.some.inj H
  go_enter Try.func6, Try.ntmps6
  go_wp2_with (first | ((with_reducible refine gate_dst (N := 2) rfl ?_); refine box_event ?hg (N := 2) ?hd (cs := #[.int .i64 a0_0, .slice A0_1 l0_1.length c0_1, .slice A0_2 l0_2.length c0_2]) (t := 48) ?hr ?_; (case hd => rfl); (case hg => rfl); (case hr => first | (go_simp; done) | (go_simp; rfl)); intro gb611 hg w5 hbox hb; have n0_ := yam (below_step (yez HB.out) hb); have n1_ := yam (hbox); have n2_ := yam ((by rw [hg]; exact (below_size (yez HB.out)) : w.heap.size ≤ gb611)); have n3_ := n2_; clear HB; have HB := n0_; have BK611 := n1_; have GW611 := n2_; have GE611 := n3_; clear n0_ n1_ n2_ n3_; clear hb hbox hg; obtain ⟨hcz6_0, hcz6_1, hcz6_2, hfz6_0, hfz6_1, hfz6_2⟩ := ybc BK611.out) | ((with_reducible refine gate_callee (f := 30) rfl ?_); refine goesL_ (some 11) rfl rfl Try.func30 (by kernel_rfl) rfl #[.agg #[.int .i64 a0_0, .slice A0_1 l0_1.length c0_1, .slice A0_2 l0_2.length c0_2], .int .i64 1048576] rfl (by (try simp only [List.map_toArray, List.map_cons, List.map_nil]); first | done | rfl | (simp only [List.length_drop, List.length_take]; rfl)) ?_; (with_reducible refine (laws_szPuzzle.calls k a0_0 _ _ l0_1 _ _ l0_2 1048576 t612 _ ?side1 ?side2 ?side3 ?side4 A3.out).mono ?_); (case side1 => exact Kd.Cz ((Kd.C_below HR0_1.out HB.out))); (case side2 => exact HC0_1.out); (case side3 => exact Kd.Cz ((Kd.C_below HR0_2.out HB.out))); (case side4 => exact HC0_2.out); rintro e w7 ⟨rfl, hb⟩; refine ⟨_, rfl, ?_⟩; have n0_ := yam (blk_below (g := gb611) (o := .cells #[.int .i64 a0_0, .slice A0_1 l0_1.length c0_1, .slice A0_2 l0_2.length c0_2] 48 (0, 0)) (ybz BK611.out) hb); have n1_ := yam (below_step (by repeat (first | (with_reducible first | exact HB.out | apply yea | apply yen | apply yed | refine below_set ?_ GE611.out) | exact HB.out)) hb); clear BK611; clear HB; have BK611 := n0_; have HB := n1_; clear n0_ n1_; (try clear hb); (try clear hb2); (try clear hk); (try clear hi)))
  go_ret
  exact ⟨by first | rfl | (simp [errW_none, errW_some] <;> rfl) | (simp [*, errW_none, errW_some] <;> rfl), by repeat (first | (with_reducible first | exact HB.out | apply yea | apply yen | apply yed | refine below_set ?_ GE611.out) | exact HB.out)⟩
 rw [if_neg c4] at H
 have c4b0 : decide (t612 < 0) = false := decide_eq_false c4
 clear c4
 replace H := Option.bind_eq_some_iff.mp H
 obtain ⟨⟨t613, t614, t617⟩, A80, H⟩ := H
 try dsimp only at H
 have A8 := yam A80
 clear A80
 replace H := Option.bind_eq_some_iff.mp H
 obtain ⟨t620, A90, H⟩ := H
 try dsimp only at H
 have A9 := yam A90
 clear A90
 replace H := Option.bind_eq_some_iff.mp H
 obtain ⟨⟨t621, t622, t625⟩, A100, H⟩ := H
 try dsimp only at H
 have A10 := yam A100
 clear A100
 replace H := Option.bind_eq_some_iff.mp H
 obtain ⟨t629, A110, H⟩ := H
 try dsimp only at H
 have A11 := yam A110
 clear A110
 by_cases c12 : t629 = t620
 rotate_left
 ·rw [if_neg c12] at H
  have c12b0 : (t629 == t620) = false := beq_eq_false_iff_ne.mpr c12
  have c12b1 : (t629 != t620) = true := bne_iff_ne.mpr c12
  obtain rfl := Option.some.inj H
  go_enter Try.func6, Try.ntmps6
  go_wp2_with (first | ((with_reducible refine gate_dst (N := 2) rfl ?_); refine box_event ?hg (N := 2) ?hd (cs := #[.int .i64 a0_0, .slice A0_1 l0_1.length c0_1, .slice A0_2 l0_2.length c0_2]) (t := 48) ?hr ?_; (case hd => rfl); (case hg => rfl); (case hr => first | (go_simp; done) | (go_simp; rfl)); intro gb611 hg w58 hbox hb; have n0_ := yam (below_step (yez HB.out) hb); have n1_ := yam (hbox); have n2_ := yam ((by rw [hg]; exact (below_size (yez HB.out)) : w.heap.size ≤ gb611)); have n3_ := n2_; clear HB; have HB := n0_; have BK611 := n1_; have GW611 := n2_; have GE611 := n3_; clear n0_ n1_ n2_ n3_; clear hb hbox hg; obtain ⟨hcz59_0, hcz59_1, hcz59_2, hfz59_0, hfz59_1, hfz59_2⟩ := ybc BK611.out) | ((with_reducible refine gate_callee (f := 30) rfl ?_); refine goesL_ (some 11) rfl rfl Try.func30 (by kernel_rfl) rfl #[.agg #[.int .i64 a0_0, .slice A0_1 l0_1.length c0_1, .slice A0_2 l0_2.length c0_2], .int .i64 1048576] rfl (by (try simp only [List.map_toArray, List.map_cons, List.map_nil]); first | done | rfl | (simp only [List.length_drop, List.length_take]; rfl)) ?_; (with_reducible refine (laws_szPuzzle.calls k a0_0 _ _ l0_1 _ _ l0_2 1048576 t612 _ ?side1 ?side2 ?side3 ?side4 A3.out).mono ?_); (case side1 => exact Kd.Cz ((Kd.C_below HR0_1.out HB.out))); (case side2 => exact HC0_1.out); (case side3 => exact Kd.Cz ((Kd.C_below HR0_2.out HB.out))); (case side4 => exact HC0_2.out); rintro e w60 ⟨rfl, hb⟩; refine ⟨_, rfl, ?_⟩; have n0_ := yam (blk_below (g := gb611) (o := .cells #[.int .i64 a0_0, .slice A0_1 l0_1.length c0_1, .slice A0_2 l0_2.length c0_2] 48 (0, 0)) (ybz BK611.out) hb); have n1_ := yam (below_step (by repeat (first | (with_reducible first | exact HB.out | apply yea | apply yen | apply yed | refine below_set ?_ GE611.out) | exact HB.out)) hb); clear BK611; clear HB; have BK611 := n0_; have HB := n1_; clear n0_ n1_; (try clear hb); (try clear hb2); (try clear hk); (try clear hi); obtain ⟨hcz61_0, hcz61_1, hcz61_2, hfz61_0, hfz61_1, hfz61_2⟩ := ybc BK611.out) | ((with_reducible refine gate_callee (f := 32) rfl ?_); refine goesL_ (some 15) rfl rfl Try.func32 (by kernel_rfl) rfl #[.agg #[.int .i64 a0_0, .slice A0_1 l0_1.length c0_1, .slice A0_2 l0_2.length c0_2]] rfl (by (try simp only [List.map_toArray, List.map_cons, List.map_nil]); first | done | rfl | (simp only [List.length_drop, List.length_take]; rfl)) ?_; (with_reducible refine (laws_toPuzzle.calls k a0_0 _ _ l0_1 _ _ l0_2 t613 t614 t617 _ ?side1 ?side2 ?side3 ?side4 A8.out).mono ?_); (case side1 => exact Kd.Cz ((Kd.C_below HR0_1.out HB.out))); (case side2 => exact HC0_1.out); (case side3 => exact Kd.Cz ((Kd.C_below HR0_2.out HB.out))); (case side4 => exact HC0_2.out); rintro e w62 ⟨v615, v618, rfl, ho0, ho1, hb⟩; refine ⟨_, rfl, ?_⟩; have n0_ := yam (Kd.R_lower ho0 (below_size (by repeat (first | (with_reducible first | exact HB.out | apply yea | apply yen | apply yed | refine below_set ?_ GE611.out) | exact HB.out)))); have n1_ := yam (Kd.S_lower ho1 (below_size (by repeat (first | (with_reducible first | exact HB.out | apply yea | apply yen | apply yed | refine below_set ?_ GE611.out) | exact HB.out)))); have n2_ := yam (blk_below (g := gb611) (o := .cells #[.int .i64 a0_0, .slice A0_1 l0_1.length c0_1, .slice A0_2 l0_2.length c0_2] 48 (0, 0)) (ybz BK611.out) hb); have n3_ := yam (below_step (by repeat (first | (with_reducible first | exact HB.out | apply yea | apply yen | apply yed | refine below_set ?_ GE611.out) | exact HB.out)) hb); clear BK611; clear HB; have HO616 := n0_; have HO619 := n1_; have BK611 := n2_; have HB := n3_; clear n0_ n1_ n2_ n3_; (try clear hb); (try clear hb2); (try clear hk); (try clear hi); (try clear ho0); (try clear ho1); obtain ⟨Ao63, co63, eo63⟩ := Kd.R_slice HO616.out; subst eo63; obtain ⟨Ao64, co64, eo64⟩ := Kd.S_slice HO619.out; subst eo64) | ((with_reducible refine gate_callee (f := 31) rfl ?_); refine goesL_ (some 17) rfl rfl Try.func31 (by kernel_rfl) rfl #[.agg #[.int .i64 t613, .slice Ao63 t614.length co63, .slice Ao64 t617.length co64], .int .i64 a1] rfl (by (try simp only [List.map_toArray, List.map_cons, List.map_nil]); first | done | rfl | (simp only [List.length_drop, List.length_take]; rfl)) ?_; (with_reducible refine (spec_CountSolutions.calls k t613 _ _ t614 _ _ t617 a1 t620 _ ?side1 ?side2 ?side3 ?side4 A9.out).mono ?_); (case side1 => repeat (first | exact (Kd.Yr HO616.out).2.2 | (with_reducible refine Kd.C_alloc ?_ _) | (with_reducible refine Kd.C_drewN ?_ _) | (with_reducible refine Kd.C_drew ?_))); (case side2 => exact (Kd.Yr HO616.out).2.1); (case side3 => repeat (first | exact (Kd.S_reads' HO619.out).2.2 | (with_reducible refine Kd.C_alloc ?_ _) | (with_reducible refine Kd.C_drewN ?_ _) | (with_reducible refine Kd.C_drew ?_))); (case side4 => exact (Kd.S_reads' HO619.out).2.1); rintro e w65 ⟨rfl, hb⟩; refine ⟨_, rfl, ?_⟩; have n0_ := yam (Kd.R_below (Kd.Yz HO616.out) hb); have n1_ := yam (Kd.S_below (by (with_reducible repeat (first | apply Kd.S_alloc | apply Kd.S_drewN | apply Kd.S_drew)); exact HO619.out) hb); have n2_ := yam (blk_below (g := gb611) (o := .cells #[.int .i64 a0_0, .slice A0_1 l0_1.length c0_1, .slice A0_2 l0_2.length c0_2] 48 (0, 0)) (ybz BK611.out) hb); have n3_ := yam (below_step (by repeat (first | (with_reducible first | exact HB.out | apply yea | apply yen | apply yed | refine below_set ?_ GE611.out) | exact HB.out)) hb); clear HO616; clear HO619; clear BK611; clear HB; have HO616 := n0_; have HO619 := n1_; have BK611 := n2_; have HB := n3_; clear n0_ n1_ n2_ n3_; (try clear hb); (try clear hb2); (try clear hk); (try clear hi); obtain ⟨hcz66_0, hcz66_1, hcz66_2, hfz66_0, hfz66_1, hfz66_2⟩ := ybc BK611.out) | ((with_reducible refine gate_callee (f := 32) rfl ?_); refine goesL_ (some 19) rfl rfl Try.func32 (by kernel_rfl) rfl #[.agg #[.int .i64 a0_0, .slice A0_1 l0_1.length c0_1, .slice A0_2 l0_2.length c0_2]] rfl (by (try simp only [List.map_toArray, List.map_cons, List.map_nil]); first | done | rfl | (simp only [List.length_drop, List.length_take]; rfl)) ?_; (with_reducible refine (laws_toPuzzle.calls k a0_0 _ _ l0_1 _ _ l0_2 t621 t622 t625 _ ?side1 ?side2 ?side3 ?side4 A10.out).mono ?_); (case side1 => exact Kd.Cz ((Kd.C_below HR0_1.out HB.out))); (case side2 => exact HC0_1.out); (case side3 => exact Kd.Cz ((Kd.C_below HR0_2.out HB.out))); (case side4 => exact HC0_2.out); rintro e w67 ⟨v623, v626, rfl, ho0, ho1, hb⟩; refine ⟨_, rfl, ?_⟩; have n0_ := yam (Kd.Ye (Kd.Yz HO616.out) (Kd.Yb ho0) hb); have n1_ := yam (Kd.S_mono (Kd.S_told (Kd.S_told (Kd.S_old (by (with_reducible repeat (first | apply Kd.S_alloc | apply Kd.S_drewN | apply Kd.S_drew)); exact HO619.out) hb) (Kd.Yb ho0)) (Kd.S_base ho1)) (fun _ h_ => h_.1)); have n2_ := yam (Kd.R_lower (Kd.Yw ho0 (Kd.R_lt (Kd.Yz HO616.out))) (below_size (by repeat (first | (with_reducible first | exact HB.out | apply yea | apply yen | apply yed | refine below_set ?_ GE611.out) | exact HB.out)))); have n3_ := yam (Kd.S_lower (Kd.S_new' (Kd.S_new' ho1 (Kd.R_lt (Kd.Yz HO616.out))) (Kd.S_lt (by (with_reducible repeat (first | apply Kd.S_alloc | apply Kd.S_drewN | apply Kd.S_drew)); exact HO619.out))) (below_size (by repeat (first | (with_reducible first | exact HB.out | apply yea | apply yen | apply yed | refine below_set ?_ GE611.out) | exact HB.out)))); have n4_ := yam (blk_below (g := gb611) (o := .cells #[.int .i64 a0_0, .slice A0_1 l0_1.length c0_1, .slice A0_2 l0_2.length c0_2] 48 (0, 0)) (ybz BK611.out) hb); have n5_ := yam (below_step (by repeat (first | (with_reducible first | exact HB.out | apply yea | apply yen | apply yed | refine below_set ?_ GE611.out) | exact HB.out)) hb); clear HO616; clear HO619; clear BK611; clear HB; have HO616 := n0_; have HO619 := n1_; have HO624 := n2_; have HO627 := n3_; have BK611 := n4_; have HB := n5_; clear n0_ n1_ n2_ n3_ n4_ n5_; (try clear hb); (try clear hb2); (try clear hk); (try clear hi); (try clear ho0); (try clear ho1)) | ((with_reducible refine gate_dst (N := 7) rfl ?_); refine box_event ?hg (N := 7) ?hd (cs := #[.int .i64 0, .slice none 0 0, .slice none 0 0]) (t := 37) ?hr ?_; (case hd => rfl); (case hg => rfl); (case hr => first | (go_simp; done) | (go_simp; rfl)); intro gb628 hg w68 hbox hb; have n0_ := yam (Kd.R_below (Kd.Yz HO616.out) hb); have n1_ := yam (Kd.S_below (by (with_reducible repeat (first | apply Kd.S_alloc | apply Kd.S_drewN | apply Kd.S_drew)); exact HO619.out) hb); have n2_ := yam (Kd.R_below (Kd.Yz HO624.out) hb); have n3_ := yam (Kd.S_below (by (with_reducible repeat (first | apply Kd.S_alloc | apply Kd.S_drewN | apply Kd.S_drew)); exact HO627.out) hb); have n4_ := yam (blk_below (g := gb611) (o := .cells #[.int .i64 a0_0, .slice A0_1 l0_1.length c0_1, .slice A0_2 l0_2.length c0_2] 48 (0, 0)) (ybz BK611.out) hb); have n5_ := yam (below_step (by repeat (first | (with_reducible first | exact HB.out | apply yea | apply yen | apply yed | refine below_set ?_ GE611.out) | exact HB.out)) hb); have n6_ := yam (hbox); have n7_ := yam ((by rw [hg]; exact (below_size (by repeat (first | (with_reducible first | exact HB.out | apply yea | apply yen | apply yed | refine below_set ?_ GE611.out) | exact HB.out))) : w.heap.size ≤ gb628)); have n8_ := n7_; have n9_ := yam ((by rw [hg]; exact Nat.ne_of_lt (blk_lt (g := gb611) (o := .cells #[.int .i64 a0_0, .slice A0_1 l0_1.length c0_1, .slice A0_2 l0_2.length c0_2] 48 (0, 0)) (ybz BK611.out)) : gb611 ≠ gb628)); have n10_ := yam ((by rw [hg]; exact Nat.ne_of_gt (blk_lt (g := gb611) (o := .cells #[.int .i64 a0_0, .slice A0_1 l0_1.length c0_1, .slice A0_2 l0_2.length c0_2] 48 (0, 0)) (ybz BK611.out)) : gb628 ≠ gb611)); clear HO616; clear HO619; clear HO624; clear HO627; clear BK611; clear HB; have HO616 := n0_; have HO619 := n1_; have HO624 := n2_; have HO627 := n3_; have BK611 := n4_; have HB := n5_; have BK628 := n6_; have GW628 := n7_; have GE628 := n8_; have NB611_628 := n9_; have NB628_611 := n10_; clear n0_ n1_ n2_ n3_ n4_ n5_ n6_ n7_ n8_ n9_ n10_; clear hb hbox hg; have hnb69 := NB628_611.out; have hnc69 := NB611_628.out; obtain ⟨hcz70_0, hcz70_1, hcz70_2, hfz70_0, hfz70_1, hfz70_2⟩ := ybc BK628.out; obtain ⟨Ao71, co71, eo71⟩ := Kd.R_slice HO624.out; subst eo71; obtain ⟨Ao72, co72, eo72⟩ := Kd.S_slice HO627.out; subst eo72) | ((with_reducible refine gate_callee (f := 33) rfl ?_); refine goesL_ (some 22) rfl rfl Try.func33 (by kernel_rfl) rfl #[.agg #[.int .i64 t621, .slice Ao71 t622.length co71, .slice Ao72 t625.length co72], .int .i64 a1] rfl (by (try simp only [List.map_toArray, List.map_cons, List.map_nil]); first | done | rfl | (simp only [List.length_drop, List.length_take]; rfl)) ?_; (with_reducible refine (impl_CountSolutions.calls k t621 _ _ t622 _ _ t625 a1 t629 _ ?side1 ?side2 ?side3 ?side4 A11.out).mono ?_); (case side1 => refine (Kd.Yr (e := 3) (base := w.heap.size) (ok := fun k_ => (True ∧ some k_ ≠ (.slice Ao63 t614.length co63 : Value).ownBlock)) (n := t622.length) (c := co71) ?_).2.2; exact (by (with_reducible repeat (first | apply Kd.Ya | apply Kd.Yn | apply Kd.Yd)); exact (Kd.R_mono (Kd.R_far (p := ⟨gb628, 2, none⟩) (Kd.R_far (p := ⟨gb628, 1, none⟩) (Kd.R_far (p := ⟨gb628, 0, none⟩) (Kd.R_types HO624.out BK628.out (by decide)) (fun _ hk => hk.2) (.int .i64 t621)) (fun _ hk => hk.2) (.slice Ao71 t622.length co71)) (fun _ hk => hk.2) (.slice Ao72 t625.length co72)) (fun _ h_ => h_.1)))); (case side2 => exact (Kd.Yr HO624.out).2.1); (case side3 => refine (Kd.S_reads' (e := 73) (base := w.heap.size) (ok := fun k_ => ((some k_ ≠ (.slice Ao71 t622.length co71 : Value).ownBlock ∧ some k_ ≠ (.slice Ao63 t614.length co63 : Value).ownBlock) ∧ some k_ ≠ (.slice Ao64 t617.length co64 : Value).ownBlock)) (n := t625.length) (c := co72) ?_).2.2; exact (by (with_reducible repeat (first | apply Kd.S_alloc | apply Kd.S_drewN | apply Kd.S_drew)); exact (Kd.S_mono (Kd.S_far (p := ⟨gb628, 2, none⟩) (Kd.S_far (p := ⟨gb628, 1, none⟩) (Kd.S_far (p := ⟨gb628, 0, none⟩) (Kd.S_types HO627.out BK628.out (by decide)) (fun _ hk => hk.2) (.int .i64 t621)) (fun _ hk => hk.2) (.slice Ao71 t622.length co71)) (fun _ hk => hk.2) (.slice Ao72 t625.length co72)) (fun _ h_ => h_.1)))); (case side4 => exact (Kd.S_reads' HO627.out).2.1); rintro e w73 ⟨rfl, hb⟩; refine ⟨_, rfl, ?_⟩; have n0_ := yam (Kd.R_below (by (with_reducible repeat (first | apply Kd.Ya | apply Kd.Yn | apply Kd.Yd)); exact (Kd.R_mono (Kd.R_far (p := ⟨gb628, 2, none⟩) (Kd.R_far (p := ⟨gb628, 1, none⟩) (Kd.R_far (p := ⟨gb628, 0, none⟩) (Kd.R_types HO616.out BK628.out (by decide)) (fun _ hk => hk.2) (.int .i64 t621)) (fun _ hk => hk.2) (.slice Ao71 t622.length co71)) (fun _ hk => hk.2) (.slice Ao72 t625.length co72)) (fun _ h_ => h_.1))) hb); have n1_ := yam (Kd.S_below (by (with_reducible repeat (first | apply Kd.S_alloc | apply Kd.S_drewN | apply Kd.S_drew)); exact (Kd.S_mono (Kd.S_far (p := ⟨gb628, 2, none⟩) (Kd.S_far (p := ⟨gb628, 1, none⟩) (Kd.S_far (p := ⟨gb628, 0, none⟩) (Kd.S_types HO619.out BK628.out (by decide)) (fun _ hk => hk.2) (.int .i64 t621)) (fun _ hk => hk.2) (.slice Ao71 t622.length co71)) (fun _ hk => hk.2) (.slice Ao72 t625.length co72)) (fun _ h_ => h_.1))) hb); have n2_ := yam (Kd.R_below (by (with_reducible repeat (first | apply Kd.Ya | apply Kd.Yn | apply Kd.Yd)); exact (Kd.R_mono (Kd.R_far (p := ⟨gb628, 2, none⟩) (Kd.R_far (p := ⟨gb628, 1, none⟩) (Kd.R_far (p := ⟨gb628, 0, none⟩) (Kd.R_types HO624.out BK628.out (by decide)) (fun _ hk => hk.2) (.int .i64 t621)) (fun _ hk => hk.2) (.slice Ao71 t622.length co71)) (fun _ hk => hk.2) (.slice Ao72 t625.length co72)) (fun _ h_ => h_.1))) hb); have n3_ := yam (Kd.S_below (by (with_reducible repeat (first | apply Kd.S_alloc | apply Kd.S_drewN | apply Kd.S_drew)); exact (Kd.S_mono (Kd.S_far (p := ⟨gb628, 2, none⟩) (Kd.S_far (p := ⟨gb628, 1, none⟩) (Kd.S_far (p := ⟨gb628, 0, none⟩) (Kd.S_types HO627.out BK628.out (by decide)) (fun _ hk => hk.2) (.int .i64 t621)) (fun _ hk => hk.2) (.slice Ao71 t622.length co71)) (fun _ hk => hk.2) (.slice Ao72 t625.length co72)) (fun _ h_ => h_.1))) hb); have n4_ := yam (blk_below (g := gb611) (o := .cells #[.int .i64 a0_0, .slice A0_1 l0_1.length c0_1, .slice A0_2 l0_2.length c0_2] 48 (0, 0)) (by (with_reducible repeat (first | refine ybn ?_ _ | refine ybd ?_ | refine yba ?_ _)); refine blk_far ?_ NB611_628.out _; (with_reducible repeat (first | refine ybn ?_ _ | refine ybd ?_ | refine yba ?_ _)); refine blk_far ?_ NB611_628.out _; (with_reducible repeat (first | refine ybn ?_ _ | refine ybd ?_ | refine yba ?_ _)); refine blk_far ?_ NB611_628.out _; (with_reducible repeat (first | refine ybn ?_ _ | refine ybd ?_ | refine yba ?_ _)); exact BK611.out) hb); have n5_ := yam (blk_below (g := gb628) (o := .cells #[.int .i64 t621, .slice Ao71 t622.length co71, .slice Ao72 t625.length co72] 37 (0, 0)) (by (with_reducible repeat (first | refine ybn ?_ _ | refine ybd ?_ | refine yba ?_ _)); refine blk_put (cs := #[.int .i64 t621, .slice Ao71 t622.length co71, .slice none 0 0]) ?_ 2 _ rfl; (with_reducible repeat (first | refine ybn ?_ _ | refine ybd ?_ | refine yba ?_ _)); refine blk_put (cs := #[.int .i64 t621, .slice none 0 0, .slice none 0 0]) ?_ 1 _ rfl; (with_reducible repeat (first | refine ybn ?_ _ | refine ybd ?_ | refine yba ?_ _)); refine blk_put (cs := #[.int .i64 0, .slice none 0 0, .slice none 0 0]) ?_ 0 _ rfl; (with_reducible repeat (first | refine ybn ?_ _ | refine ybd ?_ | refine yba ?_ _)); exact BK628.out) hb); have n6_ := yam (below_step (by repeat (first | (with_reducible first | exact HB.out | apply yea | apply yen | apply yed | refine below_set ?_ GE611.out | refine below_set ?_ GE628.out) | exact HB.out)) hb); clear HO616; clear HO619; clear HO624; clear HO627; clear BK611; clear BK628; clear HB; have HO616 := n0_; have HO619 := n1_; have HO624 := n2_; have HO627 := n3_; have BK611 := n4_; have BK628 := n5_; have HB := n6_; clear n0_ n1_ n2_ n3_ n4_ n5_ n6_; (try clear hb); (try clear hb2); (try clear hk); (try clear hi)))
  go_ret
  exact ⟨by first | rfl | (simp [errW_none, errW_some] <;> rfl) | (simp [*, errW_none, errW_some] <;> rfl), by repeat (first | (with_reducible first | exact HB.out | apply yea | apply yen | apply yed | refine below_set ?_ GE611.out | refine below_set ?_ GE628.out) | exact HB.out)⟩

 rw [if_pos c12] at H
 have c12b0 : (t629 == t620) = true := beq_iff_eq.mpr c12
 have c12b1 : (t629 != t620) = false := bne_eq_false_iff_eq.mpr c12
 clear c12
 replace H := Option.bind_eq_some_iff.mp H
 obtain ⟨⟨t630, t631, t634⟩, A130, H⟩ := H
 try dsimp only at H
 have A13 := yam A130
 clear A130
 replace H := Option.bind_eq_some_iff.mp H
 obtain ⟨t637, A140, H⟩ := H
 try dsimp only at H
 have A14 := yam A140
 clear A140
 by_cases c15 : t637 = true
 ·subst c15
  have H1 : (some true) = some r := by rw [if_pos rfl] at H; exact H
  clear H
  have H := H1
  clear H1
  obtain rfl := Option.some.inj H
  go_enter Try.func6, Try.ntmps6
  try go_wp2_with (first | ((with_reducible refine gate_dst (N := 2) rfl ?_); refine box_event ?hg (N := 2) ?hd (cs := #[.int .i64 a0_0, .slice A0_1 l0_1.length c0_1, .slice A0_2 l0_2.length c0_2]) (t := 48) ?hr ?_; (case hd => rfl); (case hg => rfl); (case hr => first | (go_simp; done) | (go_simp; rfl)); intro gb611 hg w16 hbox hb; have n0_ := yam (below_step (yez HB.out) hb); have n1_ := yam (hbox); have n2_ := yam ((by rw [hg]; exact (below_size (yez HB.out)) : w.heap.size ≤ gb611)); have n3_ := n2_; clear HB; have HB := n0_; have BK611 := n1_; have GW611 := n2_; have GE611 := n3_; clear n0_ n1_ n2_ n3_; clear hb hbox hg; obtain ⟨hcz17_0, hcz17_1, hcz17_2, hfz17_0, hfz17_1, hfz17_2⟩ := ybc BK611.out) | ((with_reducible refine gate_callee (f := 30) rfl ?_); refine goesL_ (some 11) rfl rfl Try.func30 (by kernel_rfl) rfl #[.agg #[.int .i64 a0_0, .slice A0_1 l0_1.length c0_1, .slice A0_2 l0_2.length c0_2], .int .i64 1048576] rfl (by (try simp only [List.map_toArray, List.map_cons, List.map_nil]); first | done | rfl | (simp only [List.length_drop, List.length_take]; rfl)) ?_; (with_reducible refine (laws_szPuzzle.calls k a0_0 _ _ l0_1 _ _ l0_2 1048576 t612 _ ?side1 ?side2 ?side3 ?side4 A3.out).mono ?_); (case side1 => exact Kd.Cz ((Kd.C_below HR0_1.out HB.out))); (case side2 => exact HC0_1.out); (case side3 => exact Kd.Cz ((Kd.C_below HR0_2.out HB.out))); (case side4 => exact HC0_2.out); rintro e w18 ⟨rfl, hb⟩; refine ⟨_, rfl, ?_⟩; have n0_ := yam (blk_below (g := gb611) (o := .cells #[.int .i64 a0_0, .slice A0_1 l0_1.length c0_1, .slice A0_2 l0_2.length c0_2] 48 (0, 0)) (ybz BK611.out) hb); have n1_ := yam (below_step (by repeat (first | (with_reducible first | exact HB.out | apply yea | apply yen | apply yed | refine below_set ?_ GE611.out) | exact HB.out)) hb); clear BK611; clear HB; have BK611 := n0_; have HB := n1_; clear n0_ n1_; (try clear hb); (try clear hb2); (try clear hk); (try clear hi); obtain ⟨hcz19_0, hcz19_1, hcz19_2, hfz19_0, hfz19_1, hfz19_2⟩ := ybc BK611.out) | ((with_reducible refine gate_callee (f := 32) rfl ?_); refine goesL_ (some 15) rfl rfl Try.func32 (by kernel_rfl) rfl #[.agg #[.int .i64 a0_0, .slice A0_1 l0_1.length c0_1, .slice A0_2 l0_2.length c0_2]] rfl (by (try simp only [List.map_toArray, List.map_cons, List.map_nil]); first | done | rfl | (simp only [List.length_drop, List.length_take]; rfl)) ?_; (with_reducible refine (laws_toPuzzle.calls k a0_0 _ _ l0_1 _ _ l0_2 t613 t614 t617 _ ?side1 ?side2 ?side3 ?side4 A8.out).mono ?_); (case side1 => exact Kd.Cz ((Kd.C_below HR0_1.out HB.out))); (case side2 => exact HC0_1.out); (case side3 => exact Kd.Cz ((Kd.C_below HR0_2.out HB.out))); (case side4 => exact HC0_2.out); rintro e w20 ⟨v615, v618, rfl, ho0, ho1, hb⟩; refine ⟨_, rfl, ?_⟩; have n0_ := yam (Kd.R_lower ho0 (below_size (by repeat (first | (with_reducible first | exact HB.out | apply yea | apply yen | apply yed | refine below_set ?_ GE611.out) | exact HB.out)))); have n1_ := yam (Kd.S_lower ho1 (below_size (by repeat (first | (with_reducible first | exact HB.out | apply yea | apply yen | apply yed | refine below_set ?_ GE611.out) | exact HB.out)))); have n2_ := yam (blk_below (g := gb611) (o := .cells #[.int .i64 a0_0, .slice A0_1 l0_1.length c0_1, .slice A0_2 l0_2.length c0_2] 48 (0, 0)) (ybz BK611.out) hb); have n3_ := yam (below_step (by repeat (first | (with_reducible first | exact HB.out | apply yea | apply yen | apply yed | refine below_set ?_ GE611.out) | exact HB.out)) hb); clear BK611; clear HB; have HO616 := n0_; have HO619 := n1_; have BK611 := n2_; have HB := n3_; clear n0_ n1_ n2_ n3_; (try clear hb); (try clear hb2); (try clear hk); (try clear hi); (try clear ho0); (try clear ho1); obtain ⟨Ao21, co21, eo21⟩ := Kd.R_slice HO616.out; subst eo21; obtain ⟨Ao22, co22, eo22⟩ := Kd.S_slice HO619.out; subst eo22) | ((with_reducible refine gate_callee (f := 31) rfl ?_); refine goesL_ (some 17) rfl rfl Try.func31 (by kernel_rfl) rfl #[.agg #[.int .i64 t613, .slice Ao21 t614.length co21, .slice Ao22 t617.length co22], .int .i64 a1] rfl (by (try simp only [List.map_toArray, List.map_cons, List.map_nil]); first | done | rfl | (simp only [List.length_drop, List.length_take]; rfl)) ?_; (with_reducible refine (spec_CountSolutions.calls k t613 _ _ t614 _ _ t617 a1 t620 _ ?side1 ?side2 ?side3 ?side4 A9.out).mono ?_); (case side1 => repeat (first | exact (Kd.Yr HO616.out).2.2 | (with_reducible refine Kd.C_alloc ?_ _) | (with_reducible refine Kd.C_drewN ?_ _) | (with_reducible refine Kd.C_drew ?_))); (case side2 => exact (Kd.Yr HO616.out).2.1); (case side3 => repeat (first | exact (Kd.S_reads' HO619.out).2.2 | (with_reducible refine Kd.C_alloc ?_ _) | (with_reducible refine Kd.C_drewN ?_ _) | (with_reducible refine Kd.C_drew ?_))); (case side4 => exact (Kd.S_reads' HO619.out).2.1); rintro e w23 ⟨rfl, hb⟩; refine ⟨_, rfl, ?_⟩; have n0_ := yam (Kd.R_below (Kd.Yz HO616.out) hb); have n1_ := yam (Kd.S_below (by (with_reducible repeat (first | apply Kd.S_alloc | apply Kd.S_drewN | apply Kd.S_drew)); exact HO619.out) hb); have n2_ := yam (blk_below (g := gb611) (o := .cells #[.int .i64 a0_0, .slice A0_1 l0_1.length c0_1, .slice A0_2 l0_2.length c0_2] 48 (0, 0)) (ybz BK611.out) hb); have n3_ := yam (below_step (by repeat (first | (with_reducible first | exact HB.out | apply yea | apply yen | apply yed | refine below_set ?_ GE611.out) | exact HB.out)) hb); clear HO616; clear HO619; clear BK611; clear HB; have HO616 := n0_; have HO619 := n1_; have BK611 := n2_; have HB := n3_; clear n0_ n1_ n2_ n3_; (try clear hb); (try clear hb2); (try clear hk); (try clear hi); obtain ⟨hcz24_0, hcz24_1, hcz24_2, hfz24_0, hfz24_1, hfz24_2⟩ := ybc BK611.out) | ((with_reducible refine gate_callee (f := 32) rfl ?_); refine goesL_ (some 19) rfl rfl Try.func32 (by kernel_rfl) rfl #[.agg #[.int .i64 a0_0, .slice A0_1 l0_1.length c0_1, .slice A0_2 l0_2.length c0_2]] rfl (by (try simp only [List.map_toArray, List.map_cons, List.map_nil]); first | done | rfl | (simp only [List.length_drop, List.length_take]; rfl)) ?_; (with_reducible refine (laws_toPuzzle.calls k a0_0 _ _ l0_1 _ _ l0_2 t621 t622 t625 _ ?side1 ?side2 ?side3 ?side4 A10.out).mono ?_); (case side1 => exact Kd.Cz ((Kd.C_below HR0_1.out HB.out))); (case side2 => exact HC0_1.out); (case side3 => exact Kd.Cz ((Kd.C_below HR0_2.out HB.out))); (case side4 => exact HC0_2.out); rintro e w25 ⟨v623, v626, rfl, ho0, ho1, hb⟩; refine ⟨_, rfl, ?_⟩; have n0_ := yam (Kd.Ye (Kd.Yz HO616.out) (Kd.Yb ho0) hb); have n1_ := yam (Kd.S_mono (Kd.S_told (Kd.S_told (Kd.S_old (by (with_reducible repeat (first | apply Kd.S_alloc | apply Kd.S_drewN | apply Kd.S_drew)); exact HO619.out) hb) (Kd.Yb ho0)) (Kd.S_base ho1)) (fun _ h_ => h_.1)); have n2_ := yam (Kd.R_lower (Kd.Yw ho0 (Kd.R_lt (Kd.Yz HO616.out))) (below_size (by repeat (first | (with_reducible first | exact HB.out | apply yea | apply yen | apply yed | refine below_set ?_ GE611.out) | exact HB.out)))); have n3_ := yam (Kd.S_lower (Kd.S_new' (Kd.S_new' ho1 (Kd.R_lt (Kd.Yz HO616.out))) (Kd.S_lt (by (with_reducible repeat (first | apply Kd.S_alloc | apply Kd.S_drewN | apply Kd.S_drew)); exact HO619.out))) (below_size (by repeat (first | (with_reducible first | exact HB.out | apply yea | apply yen | apply yed | refine below_set ?_ GE611.out) | exact HB.out)))); have n4_ := yam (blk_below (g := gb611) (o := .cells #[.int .i64 a0_0, .slice A0_1 l0_1.length c0_1, .slice A0_2 l0_2.length c0_2] 48 (0, 0)) (ybz BK611.out) hb); have n5_ := yam (below_step (by repeat (first | (with_reducible first | exact HB.out | apply yea | apply yen | apply yed | refine below_set ?_ GE611.out) | exact HB.out)) hb); clear HO616; clear HO619; clear BK611; clear HB; have HO616 := n0_; have HO619 := n1_; have HO624 := n2_; have HO627 := n3_; have BK611 := n4_; have HB := n5_; clear n0_ n1_ n2_ n3_ n4_ n5_; (try clear hb); (try clear hb2); (try clear hk); (try clear hi); (try clear ho0); (try clear ho1)) | ((with_reducible refine gate_dst (N := 7) rfl ?_); refine box_event ?hg (N := 7) ?hd (cs := #[.int .i64 0, .slice none 0 0, .slice none 0 0]) (t := 37) ?hr ?_; (case hd => rfl); (case hg => rfl); (case hr => first | (go_simp; done) | (go_simp; rfl)); intro gb628 hg w26 hbox hb; have n0_ := yam (Kd.R_below (Kd.Yz HO616.out) hb); have n1_ := yam (Kd.S_below (by (with_reducible repeat (first | apply Kd.S_alloc | apply Kd.S_drewN | apply Kd.S_drew)); exact HO619.out) hb); have n2_ := yam (Kd.R_below (Kd.Yz HO624.out) hb); have n3_ := yam (Kd.S_below (by (with_reducible repeat (first | apply Kd.S_alloc | apply Kd.S_drewN | apply Kd.S_drew)); exact HO627.out) hb); have n4_ := yam (blk_below (g := gb611) (o := .cells #[.int .i64 a0_0, .slice A0_1 l0_1.length c0_1, .slice A0_2 l0_2.length c0_2] 48 (0, 0)) (ybz BK611.out) hb); have n5_ := yam (below_step (by repeat (first | (with_reducible first | exact HB.out | apply yea | apply yen | apply yed | refine below_set ?_ GE611.out) | exact HB.out)) hb); have n6_ := yam (hbox); have n7_ := yam ((by rw [hg]; exact (below_size (by repeat (first | (with_reducible first | exact HB.out | apply yea | apply yen | apply yed | refine below_set ?_ GE611.out) | exact HB.out))) : w.heap.size ≤ gb628)); have n8_ := n7_; have n9_ := yam ((by rw [hg]; exact Nat.ne_of_lt (blk_lt (g := gb611) (o := .cells #[.int .i64 a0_0, .slice A0_1 l0_1.length c0_1, .slice A0_2 l0_2.length c0_2] 48 (0, 0)) (ybz BK611.out)) : gb611 ≠ gb628)); have n10_ := yam ((by rw [hg]; exact Nat.ne_of_gt (blk_lt (g := gb611) (o := .cells #[.int .i64 a0_0, .slice A0_1 l0_1.length c0_1, .slice A0_2 l0_2.length c0_2] 48 (0, 0)) (ybz BK611.out)) : gb628 ≠ gb611)); clear HO616; clear HO619; clear HO624; clear HO627; clear BK611; clear HB; have HO616 := n0_; have HO619 := n1_; have HO624 := n2_; have HO627 := n3_; have BK611 := n4_; have HB := n5_; have BK628 := n6_; have GW628 := n7_; have GE628 := n8_; have NB611_628 := n9_; have NB628_611 := n10_; clear n0_ n1_ n2_ n3_ n4_ n5_ n6_ n7_ n8_ n9_ n10_; clear hb hbox hg; have hnb27 := NB628_611.out; have hnc27 := NB611_628.out; obtain ⟨hcz28_0, hcz28_1, hcz28_2, hfz28_0, hfz28_1, hfz28_2⟩ := ybc BK628.out; obtain ⟨Ao29, co29, eo29⟩ := Kd.R_slice HO624.out; subst eo29; obtain ⟨Ao30, co30, eo30⟩ := Kd.S_slice HO627.out; subst eo30) | ((with_reducible refine gate_callee (f := 33) rfl ?_); refine goesL_ (some 22) rfl rfl Try.func33 (by kernel_rfl) rfl #[.agg #[.int .i64 t621, .slice Ao29 t622.length co29, .slice Ao30 t625.length co30], .int .i64 a1] rfl (by (try simp only [List.map_toArray, List.map_cons, List.map_nil]); first | done | rfl | (simp only [List.length_drop, List.length_take]; rfl)) ?_; (with_reducible refine (impl_CountSolutions.calls k t621 _ _ t622 _ _ t625 a1 t629 _ ?side1 ?side2 ?side3 ?side4 A11.out).mono ?_); (case side1 => refine (Kd.Yr (e := 3) (base := w.heap.size) (ok := fun k_ => (True ∧ some k_ ≠ (.slice Ao21 t614.length co21 : Value).ownBlock)) (n := t622.length) (c := co29) ?_).2.2; exact (by (with_reducible repeat (first | apply Kd.Ya | apply Kd.Yn | apply Kd.Yd)); exact (Kd.R_mono (Kd.R_far (p := ⟨gb628, 2, none⟩) (Kd.R_far (p := ⟨gb628, 1, none⟩) (Kd.R_far (p := ⟨gb628, 0, none⟩) (Kd.R_types HO624.out BK628.out (by decide)) (fun _ hk => hk.2) (.int .i64 t621)) (fun _ hk => hk.2) (.slice Ao29 t622.length co29)) (fun _ hk => hk.2) (.slice Ao30 t625.length co30)) (fun _ h_ => h_.1)))); (case side2 => exact (Kd.Yr HO624.out).2.1); (case side3 => refine (Kd.S_reads' (e := 73) (base := w.heap.size) (ok := fun k_ => ((some k_ ≠ (.slice Ao29 t622.length co29 : Value).ownBlock ∧ some k_ ≠ (.slice Ao21 t614.length co21 : Value).ownBlock) ∧ some k_ ≠ (.slice Ao22 t617.length co22 : Value).ownBlock)) (n := t625.length) (c := co30) ?_).2.2; exact (by (with_reducible repeat (first | apply Kd.S_alloc | apply Kd.S_drewN | apply Kd.S_drew)); exact (Kd.S_mono (Kd.S_far (p := ⟨gb628, 2, none⟩) (Kd.S_far (p := ⟨gb628, 1, none⟩) (Kd.S_far (p := ⟨gb628, 0, none⟩) (Kd.S_types HO627.out BK628.out (by decide)) (fun _ hk => hk.2) (.int .i64 t621)) (fun _ hk => hk.2) (.slice Ao29 t622.length co29)) (fun _ hk => hk.2) (.slice Ao30 t625.length co30)) (fun _ h_ => h_.1)))); (case side4 => exact (Kd.S_reads' HO627.out).2.1); rintro e w31 ⟨rfl, hb⟩; refine ⟨_, rfl, ?_⟩; have n0_ := yam (Kd.R_below (by (with_reducible repeat (first | apply Kd.Ya | apply Kd.Yn | apply Kd.Yd)); exact (Kd.R_mono (Kd.R_far (p := ⟨gb628, 2, none⟩) (Kd.R_far (p := ⟨gb628, 1, none⟩) (Kd.R_far (p := ⟨gb628, 0, none⟩) (Kd.R_types HO616.out BK628.out (by decide)) (fun _ hk => hk.2) (.int .i64 t621)) (fun _ hk => hk.2) (.slice Ao29 t622.length co29)) (fun _ hk => hk.2) (.slice Ao30 t625.length co30)) (fun _ h_ => h_.1))) hb); have n1_ := yam (Kd.S_below (by (with_reducible repeat (first | apply Kd.S_alloc | apply Kd.S_drewN | apply Kd.S_drew)); exact (Kd.S_mono (Kd.S_far (p := ⟨gb628, 2, none⟩) (Kd.S_far (p := ⟨gb628, 1, none⟩) (Kd.S_far (p := ⟨gb628, 0, none⟩) (Kd.S_types HO619.out BK628.out (by decide)) (fun _ hk => hk.2) (.int .i64 t621)) (fun _ hk => hk.2) (.slice Ao29 t622.length co29)) (fun _ hk => hk.2) (.slice Ao30 t625.length co30)) (fun _ h_ => h_.1))) hb); have n2_ := yam (Kd.R_below (by (with_reducible repeat (first | apply Kd.Ya | apply Kd.Yn | apply Kd.Yd)); exact (Kd.R_mono (Kd.R_far (p := ⟨gb628, 2, none⟩) (Kd.R_far (p := ⟨gb628, 1, none⟩) (Kd.R_far (p := ⟨gb628, 0, none⟩) (Kd.R_types HO624.out BK628.out (by decide)) (fun _ hk => hk.2) (.int .i64 t621)) (fun _ hk => hk.2) (.slice Ao29 t622.length co29)) (fun _ hk => hk.2) (.slice Ao30 t625.length co30)) (fun _ h_ => h_.1))) hb); have n3_ := yam (Kd.S_below (by (with_reducible repeat (first | apply Kd.S_alloc | apply Kd.S_drewN | apply Kd.S_drew)); exact (Kd.S_mono (Kd.S_far (p := ⟨gb628, 2, none⟩) (Kd.S_far (p := ⟨gb628, 1, none⟩) (Kd.S_far (p := ⟨gb628, 0, none⟩) (Kd.S_types HO627.out BK628.out (by decide)) (fun _ hk => hk.2) (.int .i64 t621)) (fun _ hk => hk.2) (.slice Ao29 t622.length co29)) (fun _ hk => hk.2) (.slice Ao30 t625.length co30)) (fun _ h_ => h_.1))) hb); have n4_ := yam (blk_below (g := gb611) (o := .cells #[.int .i64 a0_0, .slice A0_1 l0_1.length c0_1, .slice A0_2 l0_2.length c0_2] 48 (0, 0)) (by (with_reducible repeat (first | refine ybn ?_ _ | refine ybd ?_ | refine yba ?_ _)); refine blk_far ?_ NB611_628.out _; (with_reducible repeat (first | refine ybn ?_ _ | refine ybd ?_ | refine yba ?_ _)); refine blk_far ?_ NB611_628.out _; (with_reducible repeat (first | refine ybn ?_ _ | refine ybd ?_ | refine yba ?_ _)); refine blk_far ?_ NB611_628.out _; (with_reducible repeat (first | refine ybn ?_ _ | refine ybd ?_ | refine yba ?_ _)); exact BK611.out) hb); have n5_ := yam (blk_below (g := gb628) (o := .cells #[.int .i64 t621, .slice Ao29 t622.length co29, .slice Ao30 t625.length co30] 37 (0, 0)) (by (with_reducible repeat (first | refine ybn ?_ _ | refine ybd ?_ | refine yba ?_ _)); refine blk_put (cs := #[.int .i64 t621, .slice Ao29 t622.length co29, .slice none 0 0]) ?_ 2 _ rfl; (with_reducible repeat (first | refine ybn ?_ _ | refine ybd ?_ | refine yba ?_ _)); refine blk_put (cs := #[.int .i64 t621, .slice none 0 0, .slice none 0 0]) ?_ 1 _ rfl; (with_reducible repeat (first | refine ybn ?_ _ | refine ybd ?_ | refine yba ?_ _)); refine blk_put (cs := #[.int .i64 0, .slice none 0 0, .slice none 0 0]) ?_ 0 _ rfl; (with_reducible repeat (first | refine ybn ?_ _ | refine ybd ?_ | refine yba ?_ _)); exact BK628.out) hb); have n6_ := yam (below_step (by repeat (first | (with_reducible first | exact HB.out | apply yea | apply yen | apply yed | refine below_set ?_ GE611.out | refine below_set ?_ GE628.out) | exact HB.out)) hb); clear HO616; clear HO619; clear HO624; clear HO627; clear BK611; clear BK628; clear HB; have HO616 := n0_; have HO619 := n1_; have HO624 := n2_; have HO627 := n3_; have BK611 := n4_; have BK628 := n5_; have HB := n6_; clear n0_ n1_ n2_ n3_ n4_ n5_ n6_; (try clear hb); (try clear hb2); (try clear hk); (try clear hi)))
  have n0_ := yam (Kd.Yd HO616.out)
  have n1_ := yam (Kd.S_drew HO619.out)
  have n2_ := yam (Kd.Yd HO624.out)
  have n3_ := yam (Kd.S_drew HO627.out)
  have n4_ := yam (ybd BK611.out)
  have n5_ := yam (ybd BK628.out)
  have n6_ := yam (yed HB.out)
  clear HO616
  clear HO619
  clear HO624
  clear HO627
  clear BK611
  clear BK628
  clear HB
  have HO616 := n0_
  have HO619 := n1_
  have HO624 := n2_
  have HO627 := n3_
  have BK611 := n4_
  have BK628 := n5_
  have HB := n6_
  clear n0_ n1_ n2_ n3_ n4_ n5_ n6_
  refine start_ (n := 5) (S := fun w' => w'.cell? ⟨gb628, 0, none⟩ = some (.int .i64 t621) ∧ w'.cell? ⟨gb628, 1, none⟩ = some (.slice Ao29 t622.length co29) ∧ w'.cell? ⟨gb628, 2, none⟩ = some (.slice Ao30 t625.length co30) ∧ w'.cell? ⟨gb611, 0, none⟩ = some (.int .i64 a0_0) ∧ w'.cell? ⟨gb611, 1, none⟩ = some (.slice A0_1 l0_1.length c0_1) ∧ w'.cell? ⟨gb611, 2, none⟩ = some (.slice A0_2 l0_2.length c0_2)) (ds := []) #[false, false, false, false, false] (by kernel_rfl) rfl rfl ⟨(blk_cell BK628.out 0).trans rfl, (blk_cell BK628.out 1).trans rfl, (blk_cell BK628.out 2).trans rfl, (blk_cell BK611.out 0).trans rfl, (blk_cell BK611.out 1).trans rfl, (blk_cell BK611.out 2).trans rfl⟩ (fun hHeld => ?_)
  generalize w31.drew = w32 at HO616 HO619 HO624 HO627 BK611 BK628 HB hHeld ⊢
  refine take_ (i := 0) (N := some 26) (v := ?_) (a' := ?_) #[true, false, false, false, false] rfl rfl (by kernel_rfl) (fun _ _ _ h => h) (Or.inl ⟨by rfl, ?_⟩) hHeld ?_ ?_
  rotate_left
  ·rintro w' ⟨s0, s1, s2, s3, s4, s5⟩
   go_simp
   with_reducible rfl
  rotate_left
  ·simp only [Act.put, yps, i64_w, i32_w]
   rfl
  refine take_ (i := 1) (N := some 27) (v := ?_) (a' := ?_) #[true, true, false, false, false] rfl rfl (by kernel_rfl) (fun _ _ _ h => h) (Or.inl ⟨by rfl, ?_⟩) hHeld ?_ ?_
  rotate_left
  ·rintro w' ⟨s0, s1, s2, s3, s4, s5⟩
   go_simp
   with_reducible rfl
  rotate_left
  ·simp only [Act.put, yps, i64_w, i32_w]
   rfl
  refine one_ (i := 2) (N := some 28) #[true, true, true, false, false] rfl rfl (by kernel_rfl) (by decide) (fun K hK => ?_)
  refine goes_ Try.func32 (by kernel_rfl) rfl #[.agg #[.int .i64 a0_0, .slice A0_1 l0_1.length c0_1, .slice A0_2 l0_2.length c0_2]] (by rfl) rfl rfl (by (try simp only [List.map_toArray, List.map_cons, List.map_nil]); first | done | rfl | (simp only [List.length_drop, List.length_take]; rfl)) ?_
  with_reducible refine (laws_toPuzzle.calls k a0_0 _ _ l0_1 _ _ l0_2 t630 t631 t634 _ ?side1 ?side2 ?side3 ?side4 A13.out).mono ?_
  (case side1 => exact Kd.Cz ((Kd.C_below HR0_1.out HB.out)))
  (case side2 => exact HC0_1.out)
  (case side3 => exact Kd.Cz ((Kd.C_below HR0_2.out HB.out)))
  (case side4 => exact HC0_2.out)
  rintro e w33 ⟨v632, v635, rfl, ho0, ho1, hb⟩
  refine ⟨_, rfl, ?_⟩
  have n0_ := yam (Kd.Ye (Kd.Yz HO616.out) (Kd.Yb ho0) hb)
  have n1_ := yam (Kd.S_mono (Kd.S_told (Kd.S_told (Kd.S_old (by (with_reducible repeat (first | apply Kd.S_alloc | apply Kd.S_drewN | apply Kd.S_drew)); exact HO619.out) hb) (Kd.Yb ho0)) (Kd.S_base ho1)) (fun _ h_ => h_.1))
  have n2_ := yam (Kd.Ye (Kd.Yz HO624.out) (Kd.Yb ho0) hb)
  have n3_ := yam (Kd.S_mono (Kd.S_told (Kd.S_told (Kd.S_old (by (with_reducible repeat (first | apply Kd.S_alloc | apply Kd.S_drewN | apply Kd.S_drew)); exact HO627.out) hb) (Kd.Yb ho0)) (Kd.S_base ho1)) (fun _ h_ => h_.1))
  have n4_ := yam (Kd.R_lower (Kd.Yw (Kd.Yw ho0 (Kd.R_lt (Kd.Yz HO616.out))) (Kd.R_lt (Kd.Yz HO624.out))) (below_size (by repeat (first | (with_reducible first | exact HB.out | apply yea | apply yen | apply yed | refine below_set ?_ GE611.out | refine below_set ?_ GE628.out) | exact HB.out))))
  have n5_ := yam (Kd.S_lower (Kd.S_new' (Kd.S_new' (Kd.S_new' (Kd.S_new' ho1 (Kd.R_lt (Kd.Yz HO616.out))) (Kd.S_lt (by (with_reducible repeat (first | apply Kd.S_alloc | apply Kd.S_drewN | apply Kd.S_drew)); exact HO619.out))) (Kd.R_lt (Kd.Yz HO624.out))) (Kd.S_lt (by (with_reducible repeat (first | apply Kd.S_alloc | apply Kd.S_drewN | apply Kd.S_drew)); exact HO627.out))) (below_size (by repeat (first | (with_reducible first | exact HB.out | apply yea | apply yen | apply yed | refine below_set ?_ GE611.out | refine below_set ?_ GE628.out) | exact HB.out))))
  have n6_ := yam (blk_below (g := gb611) (o := .cells #[.int .i64 a0_0, .slice A0_1 l0_1.length c0_1, .slice A0_2 l0_2.length c0_2] 48 (0, 0)) (ybz BK611.out) hb)
  have n7_ := yam (blk_below (g := gb628) (o := .cells #[.int .i64 t621, .slice Ao29 t622.length co29, .slice Ao30 t625.length co30] 37 (0, 0)) (ybz BK628.out) hb)
  have n8_ := yam (below_step (by repeat (first | (with_reducible first | exact HB.out | apply yea | apply yen | apply yed | refine below_set ?_ GE611.out | refine below_set ?_ GE628.out) | exact HB.out)) hb)
  clear HO616
  clear HO619
  clear HO624
  clear HO627
  clear BK611
  clear BK628
  clear HB
  have HO616 := n0_
  have HO619 := n1_
  have HO624 := n2_
  have HO627 := n3_
  have HO633 := n4_
  have HO636 := n5_
  have BK611 := n6_
  have BK628 := n7_
  have HB := n8_
  clear n0_ n1_ n2_ n3_ n4_ n5_ n6_ n7_ n8_
  (try clear hb)
  (try clear hb2)
  (try clear hk)
  (try clear hi)
  (try clear ho0)
  (try clear ho1)
  obtain ⟨Ao34, co34, eo34⟩ := Kd.R_slice HO633.out
  (first | subst eo34 | (injection eo34 with f1_ f2_ f3_; have f4_ := f1_.symm; have f5_ := f3_.symm; clear f1_ f2_ f3_; subst f4_; subst f5_))
  obtain ⟨Ao35, co35, eo35⟩ := Kd.S_slice HO636.out
  (first | subst eo35 | (injection eo35 with f1_ f2_ f3_; have f4_ := f1_.symm; have f5_ := f3_.symm; clear f1_ f2_ f3_; subst f4_; subst f5_))
  refine hK.out _ _ ⟨(blk_cell BK628.out 0).trans rfl, (blk_cell BK628.out 1).trans rfl, (blk_cell BK628.out 2).trans rfl, (blk_cell BK611.out 0).trans rfl, (blk_cell BK611.out 1).trans rfl, (blk_cell BK611.out 2).trans rfl⟩ (fun hHeld => ?_)
  clear hK K
  refine norm_ (a' := ?_) ?_ ?_
  rotate_left
  ·show Act.put _ (some 28) _ = _
   simp only [Act.put, yps, i64_w, i32_w]
   rfl
  refine one_ (i := 3) (N := some 29) #[true, true, true, true, false] rfl rfl (by kernel_rfl) (by decide) (fun K hK => ?_)
  refine goes_ Try.func25 (by kernel_rfl) rfl #[.agg #[.int .i64 t621, .slice Ao29 t622.length co29, .slice Ao30 t625.length co30], .agg #[.int .i64 t630, .slice Ao34 t631.length co34, .slice Ao35 t634.length co35]] (by rfl) rfl rfl (by (try simp only [List.map_toArray, List.map_cons, List.map_nil]); first | done | rfl | (simp only [List.length_drop, List.length_take]; rfl)) ?_
  with_reducible refine (laws_eqPuzzle.calls k t621 _ _ t622 _ _ t625 t630 _ _ t631 _ _ t634 true _ ?side1 ?side2 ?side3 ?side4 ?side5 ?side6 ?side7 ?side8 A14.out).mono ?_
  (case side1 => repeat (first | exact (Kd.Yr HO624.out).2.2 | (with_reducible refine Kd.C_alloc ?_ _) | (with_reducible refine Kd.C_drewN ?_ _) | (with_reducible refine Kd.C_drew ?_)))
  (case side2 => exact (Kd.Yr HO624.out).2.1)
  (case side3 => repeat (first | exact (Kd.S_reads' HO627.out).2.2 | (with_reducible refine Kd.C_alloc ?_ _) | (with_reducible refine Kd.C_drewN ?_ _) | (with_reducible refine Kd.C_drew ?_)))
  (case side4 => exact (Kd.S_reads' HO627.out).2.1)
  (case side5 => repeat (first | exact (Kd.Yr HO633.out).2.2 | (with_reducible refine Kd.C_alloc ?_ _) | (with_reducible refine Kd.C_drewN ?_ _) | (with_reducible refine Kd.C_drew ?_)))
  (case side6 => exact (Kd.Yr HO633.out).2.1)
  (case side7 => repeat (first | exact (Kd.S_reads' HO636.out).2.2 | (with_reducible refine Kd.C_alloc ?_ _) | (with_reducible refine Kd.C_drewN ?_ _) | (with_reducible refine Kd.C_drew ?_)))
  (case side8 => exact (Kd.S_reads' HO636.out).2.1)
  rintro e w36 ⟨rfl, hb⟩
  refine ⟨_, rfl, ?_⟩
  have n0_ := yam (Kd.R_below (Kd.Yz HO616.out) hb)
  have n1_ := yam (Kd.S_below (by (with_reducible repeat (first | apply Kd.S_alloc | apply Kd.S_drewN | apply Kd.S_drew)); exact HO619.out) hb)
  have n2_ := yam (Kd.R_below (Kd.Yz HO624.out) hb)
  have n3_ := yam (Kd.S_below (by (with_reducible repeat (first | apply Kd.S_alloc | apply Kd.S_drewN | apply Kd.S_drew)); exact HO627.out) hb)
  have n4_ := yam (Kd.R_below (Kd.Yz HO633.out) hb)
  have n5_ := yam (Kd.S_below (by (with_reducible repeat (first | apply Kd.S_alloc | apply Kd.S_drewN | apply Kd.S_drew)); exact HO636.out) hb)
  have n6_ := yam (blk_below (g := gb611) (o := .cells #[.int .i64 a0_0, .slice A0_1 l0_1.length c0_1, .slice A0_2 l0_2.length c0_2] 48 (0, 0)) (ybz BK611.out) hb)
  have n7_ := yam (blk_below (g := gb628) (o := .cells #[.int .i64 t621, .slice Ao29 t622.length co29, .slice Ao30 t625.length co30] 37 (0, 0)) (ybz BK628.out) hb)
  have n8_ := yam (below_step (by repeat (first | (with_reducible first | exact HB.out | apply yea | apply yen | apply yed | refine below_set ?_ GE611.out | refine below_set ?_ GE628.out) | exact HB.out)) hb)
  clear HO616
  clear HO619
  clear HO624
  clear HO627
  clear HO633
  clear HO636
  clear BK611
  clear BK628
  clear HB
  have HO616 := n0_
  have HO619 := n1_
  have HO624 := n2_
  have HO627 := n3_
  have HO633 := n4_
  have HO636 := n5_
  have BK611 := n6_
  have BK628 := n7_
  have HB := n8_
  clear n0_ n1_ n2_ n3_ n4_ n5_ n6_ n7_ n8_
  (try clear hb)
  (try clear hb2)
  (try clear hk)
  (try clear hi)
  refine hK.out _ _ ⟨(blk_cell BK628.out 0).trans rfl, (blk_cell BK628.out 1).trans rfl, (blk_cell BK628.out 2).trans rfl, (blk_cell BK611.out 0).trans rfl, (blk_cell BK611.out 1).trans rfl, (blk_cell BK611.out 2).trans rfl⟩ (fun hHeld => ?_)
  clear hK K
  refine norm_ (a' := ?_) ?_ ?_
  rotate_left
  ·show Act.put _ (some 29) _ = _
   simp only [Act.put, yps, i64_w, i32_w]
   rfl
  refine pure_ (i := 4) (N := some 30) (v := ?_) (a' := ?_) #[true, true, true, true, true] rfl rfl (by kernel_rfl) (fun _ _ _ h => h) (Or.inl ⟨by rfl, ?_⟩) ?_ ?_
  rotate_left
  ·intro w'
   go_simp
   with_reducible rfl
  rotate_left
  ·simp only [Act.put, yps, i64_w, i32_w]
   rfl
  refine done_ (by kernel_rfl) ?_
  try go_wp2
  go_ret
  exact ⟨by first | rfl | (simp [errW_none, errW_some] <;> rfl) | (simp [*, errW_none, errW_some] <;> rfl), by repeat (first | (with_reducible first | exact HB.out | apply yea | apply yen | apply yed | refine below_set ?_ GE611.out | refine below_set ?_ GE628.out) | exact HB.out)⟩
 replace c15 := Bool.eq_false_iff.mpr c15
 subst c15
 have H1 : (some false) = some r := by rw [if_neg (show ¬ (false = true) by decide)] at H; exact H
 clear H
 have H := H1
 clear H1
 obtain rfl := Option.some.inj H
 go_enter Try.func6, Try.ntmps6
 try go_wp2_with (first | ((with_reducible refine gate_dst (N := 2) rfl ?_); refine box_event ?hg (N := 2) ?hd (cs := #[.int .i64 a0_0, .slice A0_1 l0_1.length c0_1, .slice A0_2 l0_2.length c0_2]) (t := 48) ?hr ?_; (case hd => rfl); (case hg => rfl); (case hr => first | (go_simp; done) | (go_simp; rfl)); intro gb611 hg w37 hbox hb; have n0_ := yam (below_step (yez HB.out) hb); have n1_ := yam (hbox); have n2_ := yam ((by rw [hg]; exact (below_size (yez HB.out)) : w.heap.size ≤ gb611)); have n3_ := n2_; clear HB; have HB := n0_; have BK611 := n1_; have GW611 := n2_; have GE611 := n3_; clear n0_ n1_ n2_ n3_; clear hb hbox hg; obtain ⟨hcz38_0, hcz38_1, hcz38_2, hfz38_0, hfz38_1, hfz38_2⟩ := ybc BK611.out) | ((with_reducible refine gate_callee (f := 30) rfl ?_); refine goesL_ (some 11) rfl rfl Try.func30 (by kernel_rfl) rfl #[.agg #[.int .i64 a0_0, .slice A0_1 l0_1.length c0_1, .slice A0_2 l0_2.length c0_2], .int .i64 1048576] rfl (by (try simp only [List.map_toArray, List.map_cons, List.map_nil]); first | done | rfl | (simp only [List.length_drop, List.length_take]; rfl)) ?_; (with_reducible refine (laws_szPuzzle.calls k a0_0 _ _ l0_1 _ _ l0_2 1048576 t612 _ ?side1 ?side2 ?side3 ?side4 A3.out).mono ?_); (case side1 => exact Kd.Cz ((Kd.C_below HR0_1.out HB.out))); (case side2 => exact HC0_1.out); (case side3 => exact Kd.Cz ((Kd.C_below HR0_2.out HB.out))); (case side4 => exact HC0_2.out); rintro e w39 ⟨rfl, hb⟩; refine ⟨_, rfl, ?_⟩; have n0_ := yam (blk_below (g := gb611) (o := .cells #[.int .i64 a0_0, .slice A0_1 l0_1.length c0_1, .slice A0_2 l0_2.length c0_2] 48 (0, 0)) (ybz BK611.out) hb); have n1_ := yam (below_step (by repeat (first | (with_reducible first | exact HB.out | apply yea | apply yen | apply yed | refine below_set ?_ GE611.out) | exact HB.out)) hb); clear BK611; clear HB; have BK611 := n0_; have HB := n1_; clear n0_ n1_; (try clear hb); (try clear hb2); (try clear hk); (try clear hi); obtain ⟨hcz40_0, hcz40_1, hcz40_2, hfz40_0, hfz40_1, hfz40_2⟩ := ybc BK611.out) | ((with_reducible refine gate_callee (f := 32) rfl ?_); refine goesL_ (some 15) rfl rfl Try.func32 (by kernel_rfl) rfl #[.agg #[.int .i64 a0_0, .slice A0_1 l0_1.length c0_1, .slice A0_2 l0_2.length c0_2]] rfl (by (try simp only [List.map_toArray, List.map_cons, List.map_nil]); first | done | rfl | (simp only [List.length_drop, List.length_take]; rfl)) ?_; (with_reducible refine (laws_toPuzzle.calls k a0_0 _ _ l0_1 _ _ l0_2 t613 t614 t617 _ ?side1 ?side2 ?side3 ?side4 A8.out).mono ?_); (case side1 => exact Kd.Cz ((Kd.C_below HR0_1.out HB.out))); (case side2 => exact HC0_1.out); (case side3 => exact Kd.Cz ((Kd.C_below HR0_2.out HB.out))); (case side4 => exact HC0_2.out); rintro e w41 ⟨v615, v618, rfl, ho0, ho1, hb⟩; refine ⟨_, rfl, ?_⟩; have n0_ := yam (Kd.R_lower ho0 (below_size (by repeat (first | (with_reducible first | exact HB.out | apply yea | apply yen | apply yed | refine below_set ?_ GE611.out) | exact HB.out)))); have n1_ := yam (Kd.S_lower ho1 (below_size (by repeat (first | (with_reducible first | exact HB.out | apply yea | apply yen | apply yed | refine below_set ?_ GE611.out) | exact HB.out)))); have n2_ := yam (blk_below (g := gb611) (o := .cells #[.int .i64 a0_0, .slice A0_1 l0_1.length c0_1, .slice A0_2 l0_2.length c0_2] 48 (0, 0)) (ybz BK611.out) hb); have n3_ := yam (below_step (by repeat (first | (with_reducible first | exact HB.out | apply yea | apply yen | apply yed | refine below_set ?_ GE611.out) | exact HB.out)) hb); clear BK611; clear HB; have HO616 := n0_; have HO619 := n1_; have BK611 := n2_; have HB := n3_; clear n0_ n1_ n2_ n3_; (try clear hb); (try clear hb2); (try clear hk); (try clear hi); (try clear ho0); (try clear ho1); obtain ⟨Ao42, co42, eo42⟩ := Kd.R_slice HO616.out; subst eo42; obtain ⟨Ao43, co43, eo43⟩ := Kd.S_slice HO619.out; subst eo43) | ((with_reducible refine gate_callee (f := 31) rfl ?_); refine goesL_ (some 17) rfl rfl Try.func31 (by kernel_rfl) rfl #[.agg #[.int .i64 t613, .slice Ao42 t614.length co42, .slice Ao43 t617.length co43], .int .i64 a1] rfl (by (try simp only [List.map_toArray, List.map_cons, List.map_nil]); first | done | rfl | (simp only [List.length_drop, List.length_take]; rfl)) ?_; (with_reducible refine (spec_CountSolutions.calls k t613 _ _ t614 _ _ t617 a1 t620 _ ?side1 ?side2 ?side3 ?side4 A9.out).mono ?_); (case side1 => repeat (first | exact (Kd.Yr HO616.out).2.2 | (with_reducible refine Kd.C_alloc ?_ _) | (with_reducible refine Kd.C_drewN ?_ _) | (with_reducible refine Kd.C_drew ?_))); (case side2 => exact (Kd.Yr HO616.out).2.1); (case side3 => repeat (first | exact (Kd.S_reads' HO619.out).2.2 | (with_reducible refine Kd.C_alloc ?_ _) | (with_reducible refine Kd.C_drewN ?_ _) | (with_reducible refine Kd.C_drew ?_))); (case side4 => exact (Kd.S_reads' HO619.out).2.1); rintro e w44 ⟨rfl, hb⟩; refine ⟨_, rfl, ?_⟩; have n0_ := yam (Kd.R_below (Kd.Yz HO616.out) hb); have n1_ := yam (Kd.S_below (by (with_reducible repeat (first | apply Kd.S_alloc | apply Kd.S_drewN | apply Kd.S_drew)); exact HO619.out) hb); have n2_ := yam (blk_below (g := gb611) (o := .cells #[.int .i64 a0_0, .slice A0_1 l0_1.length c0_1, .slice A0_2 l0_2.length c0_2] 48 (0, 0)) (ybz BK611.out) hb); have n3_ := yam (below_step (by repeat (first | (with_reducible first | exact HB.out | apply yea | apply yen | apply yed | refine below_set ?_ GE611.out) | exact HB.out)) hb); clear HO616; clear HO619; clear BK611; clear HB; have HO616 := n0_; have HO619 := n1_; have BK611 := n2_; have HB := n3_; clear n0_ n1_ n2_ n3_; (try clear hb); (try clear hb2); (try clear hk); (try clear hi); obtain ⟨hcz45_0, hcz45_1, hcz45_2, hfz45_0, hfz45_1, hfz45_2⟩ := ybc BK611.out) | ((with_reducible refine gate_callee (f := 32) rfl ?_); refine goesL_ (some 19) rfl rfl Try.func32 (by kernel_rfl) rfl #[.agg #[.int .i64 a0_0, .slice A0_1 l0_1.length c0_1, .slice A0_2 l0_2.length c0_2]] rfl (by (try simp only [List.map_toArray, List.map_cons, List.map_nil]); first | done | rfl | (simp only [List.length_drop, List.length_take]; rfl)) ?_; (with_reducible refine (laws_toPuzzle.calls k a0_0 _ _ l0_1 _ _ l0_2 t621 t622 t625 _ ?side1 ?side2 ?side3 ?side4 A10.out).mono ?_); (case side1 => exact Kd.Cz ((Kd.C_below HR0_1.out HB.out))); (case side2 => exact HC0_1.out); (case side3 => exact Kd.Cz ((Kd.C_below HR0_2.out HB.out))); (case side4 => exact HC0_2.out); rintro e w46 ⟨v623, v626, rfl, ho0, ho1, hb⟩; refine ⟨_, rfl, ?_⟩; have n0_ := yam (Kd.Ye (Kd.Yz HO616.out) (Kd.Yb ho0) hb); have n1_ := yam (Kd.S_mono (Kd.S_told (Kd.S_told (Kd.S_old (by (with_reducible repeat (first | apply Kd.S_alloc | apply Kd.S_drewN | apply Kd.S_drew)); exact HO619.out) hb) (Kd.Yb ho0)) (Kd.S_base ho1)) (fun _ h_ => h_.1)); have n2_ := yam (Kd.R_lower (Kd.Yw ho0 (Kd.R_lt (Kd.Yz HO616.out))) (below_size (by repeat (first | (with_reducible first | exact HB.out | apply yea | apply yen | apply yed | refine below_set ?_ GE611.out) | exact HB.out)))); have n3_ := yam (Kd.S_lower (Kd.S_new' (Kd.S_new' ho1 (Kd.R_lt (Kd.Yz HO616.out))) (Kd.S_lt (by (with_reducible repeat (first | apply Kd.S_alloc | apply Kd.S_drewN | apply Kd.S_drew)); exact HO619.out))) (below_size (by repeat (first | (with_reducible first | exact HB.out | apply yea | apply yen | apply yed | refine below_set ?_ GE611.out) | exact HB.out)))); have n4_ := yam (blk_below (g := gb611) (o := .cells #[.int .i64 a0_0, .slice A0_1 l0_1.length c0_1, .slice A0_2 l0_2.length c0_2] 48 (0, 0)) (ybz BK611.out) hb); have n5_ := yam (below_step (by repeat (first | (with_reducible first | exact HB.out | apply yea | apply yen | apply yed | refine below_set ?_ GE611.out) | exact HB.out)) hb); clear HO616; clear HO619; clear BK611; clear HB; have HO616 := n0_; have HO619 := n1_; have HO624 := n2_; have HO627 := n3_; have BK611 := n4_; have HB := n5_; clear n0_ n1_ n2_ n3_ n4_ n5_; (try clear hb); (try clear hb2); (try clear hk); (try clear hi); (try clear ho0); (try clear ho1)) | ((with_reducible refine gate_dst (N := 7) rfl ?_); refine box_event ?hg (N := 7) ?hd (cs := #[.int .i64 0, .slice none 0 0, .slice none 0 0]) (t := 37) ?hr ?_; (case hd => rfl); (case hg => rfl); (case hr => first | (go_simp; done) | (go_simp; rfl)); intro gb628 hg w47 hbox hb; have n0_ := yam (Kd.R_below (Kd.Yz HO616.out) hb); have n1_ := yam (Kd.S_below (by (with_reducible repeat (first | apply Kd.S_alloc | apply Kd.S_drewN | apply Kd.S_drew)); exact HO619.out) hb); have n2_ := yam (Kd.R_below (Kd.Yz HO624.out) hb); have n3_ := yam (Kd.S_below (by (with_reducible repeat (first | apply Kd.S_alloc | apply Kd.S_drewN | apply Kd.S_drew)); exact HO627.out) hb); have n4_ := yam (blk_below (g := gb611) (o := .cells #[.int .i64 a0_0, .slice A0_1 l0_1.length c0_1, .slice A0_2 l0_2.length c0_2] 48 (0, 0)) (ybz BK611.out) hb); have n5_ := yam (below_step (by repeat (first | (with_reducible first | exact HB.out | apply yea | apply yen | apply yed | refine below_set ?_ GE611.out) | exact HB.out)) hb); have n6_ := yam (hbox); have n7_ := yam ((by rw [hg]; exact (below_size (by repeat (first | (with_reducible first | exact HB.out | apply yea | apply yen | apply yed | refine below_set ?_ GE611.out) | exact HB.out))) : w.heap.size ≤ gb628)); have n8_ := n7_; have n9_ := yam ((by rw [hg]; exact Nat.ne_of_lt (blk_lt (g := gb611) (o := .cells #[.int .i64 a0_0, .slice A0_1 l0_1.length c0_1, .slice A0_2 l0_2.length c0_2] 48 (0, 0)) (ybz BK611.out)) : gb611 ≠ gb628)); have n10_ := yam ((by rw [hg]; exact Nat.ne_of_gt (blk_lt (g := gb611) (o := .cells #[.int .i64 a0_0, .slice A0_1 l0_1.length c0_1, .slice A0_2 l0_2.length c0_2] 48 (0, 0)) (ybz BK611.out)) : gb628 ≠ gb611)); clear HO616; clear HO619; clear HO624; clear HO627; clear BK611; clear HB; have HO616 := n0_; have HO619 := n1_; have HO624 := n2_; have HO627 := n3_; have BK611 := n4_; have HB := n5_; have BK628 := n6_; have GW628 := n7_; have GE628 := n8_; have NB611_628 := n9_; have NB628_611 := n10_; clear n0_ n1_ n2_ n3_ n4_ n5_ n6_ n7_ n8_ n9_ n10_; clear hb hbox hg; have hnb48 := NB628_611.out; have hnc48 := NB611_628.out; obtain ⟨hcz49_0, hcz49_1, hcz49_2, hfz49_0, hfz49_1, hfz49_2⟩ := ybc BK628.out; obtain ⟨Ao50, co50, eo50⟩ := Kd.R_slice HO624.out; subst eo50; obtain ⟨Ao51, co51, eo51⟩ := Kd.S_slice HO627.out; subst eo51) | ((with_reducible refine gate_callee (f := 33) rfl ?_); refine goesL_ (some 22) rfl rfl Try.func33 (by kernel_rfl) rfl #[.agg #[.int .i64 t621, .slice Ao50 t622.length co50, .slice Ao51 t625.length co51], .int .i64 a1] rfl (by (try simp only [List.map_toArray, List.map_cons, List.map_nil]); first | done | rfl | (simp only [List.length_drop, List.length_take]; rfl)) ?_; (with_reducible refine (impl_CountSolutions.calls k t621 _ _ t622 _ _ t625 a1 t629 _ ?side1 ?side2 ?side3 ?side4 A11.out).mono ?_); (case side1 => refine (Kd.Yr (e := 3) (base := w.heap.size) (ok := fun k_ => (True ∧ some k_ ≠ (.slice Ao42 t614.length co42 : Value).ownBlock)) (n := t622.length) (c := co50) ?_).2.2; exact (by (with_reducible repeat (first | apply Kd.Ya | apply Kd.Yn | apply Kd.Yd)); exact (Kd.R_mono (Kd.R_far (p := ⟨gb628, 2, none⟩) (Kd.R_far (p := ⟨gb628, 1, none⟩) (Kd.R_far (p := ⟨gb628, 0, none⟩) (Kd.R_types HO624.out BK628.out (by decide)) (fun _ hk => hk.2) (.int .i64 t621)) (fun _ hk => hk.2) (.slice Ao50 t622.length co50)) (fun _ hk => hk.2) (.slice Ao51 t625.length co51)) (fun _ h_ => h_.1)))); (case side2 => exact (Kd.Yr HO624.out).2.1); (case side3 => refine (Kd.S_reads' (e := 73) (base := w.heap.size) (ok := fun k_ => ((some k_ ≠ (.slice Ao50 t622.length co50 : Value).ownBlock ∧ some k_ ≠ (.slice Ao42 t614.length co42 : Value).ownBlock) ∧ some k_ ≠ (.slice Ao43 t617.length co43 : Value).ownBlock)) (n := t625.length) (c := co51) ?_).2.2; exact (by (with_reducible repeat (first | apply Kd.S_alloc | apply Kd.S_drewN | apply Kd.S_drew)); exact (Kd.S_mono (Kd.S_far (p := ⟨gb628, 2, none⟩) (Kd.S_far (p := ⟨gb628, 1, none⟩) (Kd.S_far (p := ⟨gb628, 0, none⟩) (Kd.S_types HO627.out BK628.out (by decide)) (fun _ hk => hk.2) (.int .i64 t621)) (fun _ hk => hk.2) (.slice Ao50 t622.length co50)) (fun _ hk => hk.2) (.slice Ao51 t625.length co51)) (fun _ h_ => h_.1)))); (case side4 => exact (Kd.S_reads' HO627.out).2.1); rintro e w52 ⟨rfl, hb⟩; refine ⟨_, rfl, ?_⟩; have n0_ := yam (Kd.R_below (by (with_reducible repeat (first | apply Kd.Ya | apply Kd.Yn | apply Kd.Yd)); exact (Kd.R_mono (Kd.R_far (p := ⟨gb628, 2, none⟩) (Kd.R_far (p := ⟨gb628, 1, none⟩) (Kd.R_far (p := ⟨gb628, 0, none⟩) (Kd.R_types HO616.out BK628.out (by decide)) (fun _ hk => hk.2) (.int .i64 t621)) (fun _ hk => hk.2) (.slice Ao50 t622.length co50)) (fun _ hk => hk.2) (.slice Ao51 t625.length co51)) (fun _ h_ => h_.1))) hb); have n1_ := yam (Kd.S_below (by (with_reducible repeat (first | apply Kd.S_alloc | apply Kd.S_drewN | apply Kd.S_drew)); exact (Kd.S_mono (Kd.S_far (p := ⟨gb628, 2, none⟩) (Kd.S_far (p := ⟨gb628, 1, none⟩) (Kd.S_far (p := ⟨gb628, 0, none⟩) (Kd.S_types HO619.out BK628.out (by decide)) (fun _ hk => hk.2) (.int .i64 t621)) (fun _ hk => hk.2) (.slice Ao50 t622.length co50)) (fun _ hk => hk.2) (.slice Ao51 t625.length co51)) (fun _ h_ => h_.1))) hb); have n2_ := yam (Kd.R_below (by (with_reducible repeat (first | apply Kd.Ya | apply Kd.Yn | apply Kd.Yd)); exact (Kd.R_mono (Kd.R_far (p := ⟨gb628, 2, none⟩) (Kd.R_far (p := ⟨gb628, 1, none⟩) (Kd.R_far (p := ⟨gb628, 0, none⟩) (Kd.R_types HO624.out BK628.out (by decide)) (fun _ hk => hk.2) (.int .i64 t621)) (fun _ hk => hk.2) (.slice Ao50 t622.length co50)) (fun _ hk => hk.2) (.slice Ao51 t625.length co51)) (fun _ h_ => h_.1))) hb); have n3_ := yam (Kd.S_below (by (with_reducible repeat (first | apply Kd.S_alloc | apply Kd.S_drewN | apply Kd.S_drew)); exact (Kd.S_mono (Kd.S_far (p := ⟨gb628, 2, none⟩) (Kd.S_far (p := ⟨gb628, 1, none⟩) (Kd.S_far (p := ⟨gb628, 0, none⟩) (Kd.S_types HO627.out BK628.out (by decide)) (fun _ hk => hk.2) (.int .i64 t621)) (fun _ hk => hk.2) (.slice Ao50 t622.length co50)) (fun _ hk => hk.2) (.slice Ao51 t625.length co51)) (fun _ h_ => h_.1))) hb); have n4_ := yam (blk_below (g := gb611) (o := .cells #[.int .i64 a0_0, .slice A0_1 l0_1.length c0_1, .slice A0_2 l0_2.length c0_2] 48 (0, 0)) (by (with_reducible repeat (first | refine ybn ?_ _ | refine ybd ?_ | refine yba ?_ _)); refine blk_far ?_ NB611_628.out _; (with_reducible repeat (first | refine ybn ?_ _ | refine ybd ?_ | refine yba ?_ _)); refine blk_far ?_ NB611_628.out _; (with_reducible repeat (first | refine ybn ?_ _ | refine ybd ?_ | refine yba ?_ _)); refine blk_far ?_ NB611_628.out _; (with_reducible repeat (first | refine ybn ?_ _ | refine ybd ?_ | refine yba ?_ _)); exact BK611.out) hb); have n5_ := yam (blk_below (g := gb628) (o := .cells #[.int .i64 t621, .slice Ao50 t622.length co50, .slice Ao51 t625.length co51] 37 (0, 0)) (by (with_reducible repeat (first | refine ybn ?_ _ | refine ybd ?_ | refine yba ?_ _)); refine blk_put (cs := #[.int .i64 t621, .slice Ao50 t622.length co50, .slice none 0 0]) ?_ 2 _ rfl; (with_reducible repeat (first | refine ybn ?_ _ | refine ybd ?_ | refine yba ?_ _)); refine blk_put (cs := #[.int .i64 t621, .slice none 0 0, .slice none 0 0]) ?_ 1 _ rfl; (with_reducible repeat (first | refine ybn ?_ _ | refine ybd ?_ | refine yba ?_ _)); refine blk_put (cs := #[.int .i64 0, .slice none 0 0, .slice none 0 0]) ?_ 0 _ rfl; (with_reducible repeat (first | refine ybn ?_ _ | refine ybd ?_ | refine yba ?_ _)); exact BK628.out) hb); have n6_ := yam (below_step (by repeat (first | (with_reducible first | exact HB.out | apply yea | apply yen | apply yed | refine below_set ?_ GE611.out | refine below_set ?_ GE628.out) | exact HB.out)) hb); clear HO616; clear HO619; clear HO624; clear HO627; clear BK611; clear BK628; clear HB; have HO616 := n0_; have HO619 := n1_; have HO624 := n2_; have HO627 := n3_; have BK611 := n4_; have BK628 := n5_; have HB := n6_; clear n0_ n1_ n2_ n3_ n4_ n5_ n6_; (try clear hb); (try clear hb2); (try clear hk); (try clear hi)))
 have n0_ := yam (Kd.Yd HO616.out)
 have n1_ := yam (Kd.S_drew HO619.out)
 have n2_ := yam (Kd.Yd HO624.out)
 have n3_ := yam (Kd.S_drew HO627.out)
 have n4_ := yam (ybd BK611.out)
 have n5_ := yam (ybd BK628.out)
 have n6_ := yam (yed HB.out)
 clear HO616
 clear HO619
 clear HO624
 clear HO627
 clear BK611
 clear BK628
 clear HB
 have HO616 := n0_
 have HO619 := n1_
 have HO624 := n2_
 have HO627 := n3_
 have BK611 := n4_
 have BK628 := n5_
 have HB := n6_
 clear n0_ n1_ n2_ n3_ n4_ n5_ n6_
 refine start_ (n := 5) (S := fun w' => w'.cell? ⟨gb628, 0, none⟩ = some (.int .i64 t621) ∧ w'.cell? ⟨gb628, 1, none⟩ = some (.slice Ao50 t622.length co50) ∧ w'.cell? ⟨gb628, 2, none⟩ = some (.slice Ao51 t625.length co51) ∧ w'.cell? ⟨gb611, 0, none⟩ = some (.int .i64 a0_0) ∧ w'.cell? ⟨gb611, 1, none⟩ = some (.slice A0_1 l0_1.length c0_1) ∧ w'.cell? ⟨gb611, 2, none⟩ = some (.slice A0_2 l0_2.length c0_2)) (ds := []) #[false, false, false, false, false] (by kernel_rfl) rfl rfl ⟨(blk_cell BK628.out 0).trans rfl, (blk_cell BK628.out 1).trans rfl, (blk_cell BK628.out 2).trans rfl, (blk_cell BK611.out 0).trans rfl, (blk_cell BK611.out 1).trans rfl, (blk_cell BK611.out 2).trans rfl⟩ (fun hHeld => ?_)
 generalize w52.drew = w53 at HO616 HO619 HO624 HO627 BK611 BK628 HB hHeld ⊢
 refine take_ (i := 0) (N := some 26) (v := ?_) (a' := ?_) #[true, false, false, false, false] rfl rfl (by kernel_rfl) (fun _ _ _ h => h) (Or.inl ⟨by rfl, ?_⟩) hHeld ?_ ?_
 rotate_left
 ·rintro w' ⟨s0, s1, s2, s3, s4, s5⟩
  go_simp
  with_reducible rfl
 rotate_left
 ·simp only [Act.put, yps, i64_w, i32_w]
  rfl
 refine take_ (i := 1) (N := some 27) (v := ?_) (a' := ?_) #[true, true, false, false, false] rfl rfl (by kernel_rfl) (fun _ _ _ h => h) (Or.inl ⟨by rfl, ?_⟩) hHeld ?_ ?_
 rotate_left
 ·rintro w' ⟨s0, s1, s2, s3, s4, s5⟩
  go_simp
  with_reducible rfl
 rotate_left
 ·simp only [Act.put, yps, i64_w, i32_w]
  rfl
 refine one_ (i := 2) (N := some 28) #[true, true, true, false, false] rfl rfl (by kernel_rfl) (by decide) (fun K hK => ?_)
 refine goes_ Try.func32 (by kernel_rfl) rfl #[.agg #[.int .i64 a0_0, .slice A0_1 l0_1.length c0_1, .slice A0_2 l0_2.length c0_2]] (by rfl) rfl rfl (by (try simp only [List.map_toArray, List.map_cons, List.map_nil]); first | done | rfl | (simp only [List.length_drop, List.length_take]; rfl)) ?_
 with_reducible refine (laws_toPuzzle.calls k a0_0 _ _ l0_1 _ _ l0_2 t630 t631 t634 _ ?side1 ?side2 ?side3 ?side4 A13.out).mono ?_
 (case side1 => exact Kd.Cz ((Kd.C_below HR0_1.out HB.out)))
 (case side2 => exact HC0_1.out)
 (case side3 => exact Kd.Cz ((Kd.C_below HR0_2.out HB.out)))
 (case side4 => exact HC0_2.out)
 rintro e w54 ⟨v632, v635, rfl, ho0, ho1, hb⟩
 refine ⟨_, rfl, ?_⟩
 have n0_ := yam (Kd.Ye (Kd.Yz HO616.out) (Kd.Yb ho0) hb)
 have n1_ := yam (Kd.S_mono (Kd.S_told (Kd.S_told (Kd.S_old (by (with_reducible repeat (first | apply Kd.S_alloc | apply Kd.S_drewN | apply Kd.S_drew)); exact HO619.out) hb) (Kd.Yb ho0)) (Kd.S_base ho1)) (fun _ h_ => h_.1))
 have n2_ := yam (Kd.Ye (Kd.Yz HO624.out) (Kd.Yb ho0) hb)
 have n3_ := yam (Kd.S_mono (Kd.S_told (Kd.S_told (Kd.S_old (by (with_reducible repeat (first | apply Kd.S_alloc | apply Kd.S_drewN | apply Kd.S_drew)); exact HO627.out) hb) (Kd.Yb ho0)) (Kd.S_base ho1)) (fun _ h_ => h_.1))
 have n4_ := yam (Kd.R_lower (Kd.Yw (Kd.Yw ho0 (Kd.R_lt (Kd.Yz HO616.out))) (Kd.R_lt (Kd.Yz HO624.out))) (below_size (by repeat (first | (with_reducible first | exact HB.out | apply yea | apply yen | apply yed | refine below_set ?_ GE611.out | refine below_set ?_ GE628.out) | exact HB.out))))
 have n5_ := yam (Kd.S_lower (Kd.S_new' (Kd.S_new' (Kd.S_new' (Kd.S_new' ho1 (Kd.R_lt (Kd.Yz HO616.out))) (Kd.S_lt (by (with_reducible repeat (first | apply Kd.S_alloc | apply Kd.S_drewN | apply Kd.S_drew)); exact HO619.out))) (Kd.R_lt (Kd.Yz HO624.out))) (Kd.S_lt (by (with_reducible repeat (first | apply Kd.S_alloc | apply Kd.S_drewN | apply Kd.S_drew)); exact HO627.out))) (below_size (by repeat (first | (with_reducible first | exact HB.out | apply yea | apply yen | apply yed | refine below_set ?_ GE611.out | refine below_set ?_ GE628.out) | exact HB.out))))
 have n6_ := yam (blk_below (g := gb611) (o := .cells #[.int .i64 a0_0, .slice A0_1 l0_1.length c0_1, .slice A0_2 l0_2.length c0_2] 48 (0, 0)) (ybz BK611.out) hb)
 have n7_ := yam (blk_below (g := gb628) (o := .cells #[.int .i64 t621, .slice Ao50 t622.length co50, .slice Ao51 t625.length co51] 37 (0, 0)) (ybz BK628.out) hb)
 have n8_ := yam (below_step (by repeat (first | (with_reducible first | exact HB.out | apply yea | apply yen | apply yed | refine below_set ?_ GE611.out | refine below_set ?_ GE628.out) | exact HB.out)) hb)
 clear HO616
 clear HO619
 clear HO624
 clear HO627
 clear BK611
 clear BK628
 clear HB
 have HO616 := n0_
 have HO619 := n1_
 have HO624 := n2_
 have HO627 := n3_
 have HO633 := n4_
 have HO636 := n5_
 have BK611 := n6_
 have BK628 := n7_
 have HB := n8_
 clear n0_ n1_ n2_ n3_ n4_ n5_ n6_ n7_ n8_
 (try clear hb)
 (try clear hb2)
 (try clear hk)
 (try clear hi)
 (try clear ho0)
 (try clear ho1)
 obtain ⟨Ao55, co55, eo55⟩ := Kd.R_slice HO633.out
 (first | subst eo55 | (injection eo55 with f1_ f2_ f3_; have f4_ := f1_.symm; have f5_ := f3_.symm; clear f1_ f2_ f3_; subst f4_; subst f5_))
 obtain ⟨Ao56, co56, eo56⟩ := Kd.S_slice HO636.out
 (first | subst eo56 | (injection eo56 with f1_ f2_ f3_; have f4_ := f1_.symm; have f5_ := f3_.symm; clear f1_ f2_ f3_; subst f4_; subst f5_))
 refine hK.out _ _ ⟨(blk_cell BK628.out 0).trans rfl, (blk_cell BK628.out 1).trans rfl, (blk_cell BK628.out 2).trans rfl, (blk_cell BK611.out 0).trans rfl, (blk_cell BK611.out 1).trans rfl, (blk_cell BK611.out 2).trans rfl⟩ (fun hHeld => ?_)
 clear hK K
 refine norm_ (a' := ?_) ?_ ?_
 rotate_left
 ·show Act.put _ (some 28) _ = _
  simp only [Act.put, yps, i64_w, i32_w]
  rfl
 refine one_ (i := 3) (N := some 29) #[true, true, true, true, false] rfl rfl (by kernel_rfl) (by decide) (fun K hK => ?_)
 refine goes_ Try.func25 (by kernel_rfl) rfl #[.agg #[.int .i64 t621, .slice Ao50 t622.length co50, .slice Ao51 t625.length co51], .agg #[.int .i64 t630, .slice Ao55 t631.length co55, .slice Ao56 t634.length co56]] (by rfl) rfl rfl (by (try simp only [List.map_toArray, List.map_cons, List.map_nil]); first | done | rfl | (simp only [List.length_drop, List.length_take]; rfl)) ?_
 with_reducible refine (laws_eqPuzzle.calls k t621 _ _ t622 _ _ t625 t630 _ _ t631 _ _ t634 false _ ?side1 ?side2 ?side3 ?side4 ?side5 ?side6 ?side7 ?side8 A14.out).mono ?_
 (case side1 => repeat (first | exact (Kd.Yr HO624.out).2.2 | (with_reducible refine Kd.C_alloc ?_ _) | (with_reducible refine Kd.C_drewN ?_ _) | (with_reducible refine Kd.C_drew ?_)))
 (case side2 => exact (Kd.Yr HO624.out).2.1)
 (case side3 => repeat (first | exact (Kd.S_reads' HO627.out).2.2 | (with_reducible refine Kd.C_alloc ?_ _) | (with_reducible refine Kd.C_drewN ?_ _) | (with_reducible refine Kd.C_drew ?_)))
 (case side4 => exact (Kd.S_reads' HO627.out).2.1)
 (case side5 => repeat (first | exact (Kd.Yr HO633.out).2.2 | (with_reducible refine Kd.C_alloc ?_ _) | (with_reducible refine Kd.C_drewN ?_ _) | (with_reducible refine Kd.C_drew ?_)))
 (case side6 => exact (Kd.Yr HO633.out).2.1)
 (case side7 => repeat (first | exact (Kd.S_reads' HO636.out).2.2 | (with_reducible refine Kd.C_alloc ?_ _) | (with_reducible refine Kd.C_drewN ?_ _) | (with_reducible refine Kd.C_drew ?_)))
 (case side8 => exact (Kd.S_reads' HO636.out).2.1)
 rintro e w57 ⟨rfl, hb⟩
 refine ⟨_, rfl, ?_⟩
 have n0_ := yam (Kd.R_below (Kd.Yz HO616.out) hb)
 have n1_ := yam (Kd.S_below (by (with_reducible repeat (first | apply Kd.S_alloc | apply Kd.S_drewN | apply Kd.S_drew)); exact HO619.out) hb)
 have n2_ := yam (Kd.R_below (Kd.Yz HO624.out) hb)
 have n3_ := yam (Kd.S_below (by (with_reducible repeat (first | apply Kd.S_alloc | apply Kd.S_drewN | apply Kd.S_drew)); exact HO627.out) hb)
 have n4_ := yam (Kd.R_below (Kd.Yz HO633.out) hb)
 have n5_ := yam (Kd.S_below (by (with_reducible repeat (first | apply Kd.S_alloc | apply Kd.S_drewN | apply Kd.S_drew)); exact HO636.out) hb)
 have n6_ := yam (blk_below (g := gb611) (o := .cells #[.int .i64 a0_0, .slice A0_1 l0_1.length c0_1, .slice A0_2 l0_2.length c0_2] 48 (0, 0)) (ybz BK611.out) hb)
 have n7_ := yam (blk_below (g := gb628) (o := .cells #[.int .i64 t621, .slice Ao50 t622.length co50, .slice Ao51 t625.length co51] 37 (0, 0)) (ybz BK628.out) hb)
 have n8_ := yam (below_step (by repeat (first | (with_reducible first | exact HB.out | apply yea | apply yen | apply yed | refine below_set ?_ GE611.out | refine below_set ?_ GE628.out) | exact HB.out)) hb)
 clear HO616
 clear HO619
 clear HO624
 clear HO627
 clear HO633
 clear HO636
 clear BK611
 clear BK628
 clear HB
 have HO616 := n0_
 have HO619 := n1_
 have HO624 := n2_
 have HO627 := n3_
 have HO633 := n4_
 have HO636 := n5_
 have BK611 := n6_
 have BK628 := n7_
 have HB := n8_
 clear n0_ n1_ n2_ n3_ n4_ n5_ n6_ n7_ n8_
 (try clear hb)
 (try clear hb2)
 (try clear hk)
 (try clear hi)
 refine hK.out _ _ ⟨(blk_cell BK628.out 0).trans rfl, (blk_cell BK628.out 1).trans rfl, (blk_cell BK628.out 2).trans rfl, (blk_cell BK611.out 0).trans rfl, (blk_cell BK611.out 1).trans rfl, (blk_cell BK611.out 2).trans rfl⟩ (fun hHeld => ?_)
 clear hK K
 refine norm_ (a' := ?_) ?_ ?_
 rotate_left
 ·show Act.put _ (some 29) _ = _
  simp only [Act.put, yps, i64_w, i32_w]
  rfl
 refine pure_ (i := 4) (N := some 30) (v := ?_) (a' := ?_) #[true, true, true, true, true] rfl rfl (by kernel_rfl) (fun _ _ _ h => h) (Or.inl ⟨by rfl, ?_⟩) ?_ ?_
 rotate_left
 ·intro w'
  go_simp
  with_reducible rfl
 rotate_left
 ·simp only [Act.put, yps, i64_w, i32_w]
  rfl
 refine done_ (by kernel_rfl) ?_
 try go_wp2
 go_ret
 exact ⟨by first | rfl | (simp [errW_none, errW_some] <;> rfl) | (simp [*, errW_none, errW_some] <;> rfl), by repeat (first | (with_reducible first | exact HB.out | apply yea | apply yen | apply yed | refine below_set ?_ GE611.out | refine below_set ?_ GE628.out) | exact HB.out)⟩
end Go.Proofs.Ytmjbnghhfadapaa.P
