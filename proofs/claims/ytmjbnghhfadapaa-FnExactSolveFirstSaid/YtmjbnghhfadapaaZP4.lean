/- The machine's side: each Go function as a plain Lean function and the proof that the machine's call does what that function says; written by this session's own program over the kit's print. -/
import Derived.Test.YtmjbnghhfadapaaZP1
import Derived.Test.YtmjbnghhfadapaaZP2
import Derived.Test.YtmjbnghhfadapaaZP3
namespace Go.Proofs.Ytmjbnghhfadapaa.P
open Go.RowKit Go.Proofs.YtmjbnghhfadapaaW.PrintWords Go.Proofs.YtmjbnghhfadapaaW.PrintLast Go.Proofs.YtmjbnghhfadapaaW.PrintMore
attribute [local go_sem] max2_int min2_int max_two min_two max_three min_three max_four min_four   -- for this text's walks alone
set_option linter.unusedVariables false
set_option linter.unusedSimpArgs false
/-! ### spec_RuleMasks: function 96 -/
def spec_RuleMasks.f (k : Nat) (a0_0 : Int) (l0_1 : List Int) (a0_2 : Int) (l1 : List Int) (a2 : Int) : Option (List Int) := (spec_RuleValid.f k a0_0 l0_1 a0_2 a2).bind fun t380 => (if t380 = true then ((spec_MasksValid.f k l1 a2).bind fun t381 => (if t381 = true then (if 0 ≤ (l0_1.length : Int) then (if ((l0_1.length : Int) : Int).toNat ≤ 35184372088832 then ((spec_l4Ways.f k a0_0 l0_1 a0_2 l1 (([] : List Int)) (List.replicate ((l0_1.length : Int) : Int).toNat 0)).bind fun t388 => (some t388)) else (none)) else (none)) else (some (([] : List Int))))) else (some (([] : List Int))))
set_option maxHeartbeats 8000000 in
set_option maxRecDepth 100000 in
theorem spec_RuleMasks.calls (k : Nat) (a0_0 : Int) (A0_1 : Option Addr) (c0_1 : Nat) (l0_1 : List Int) (a0_2 : Int) (A1 : Option Addr) (c1 : Nat) (l1 : List Int) (a2 : Int) (r : List Int) (w : World) (hr0_1 : Kd.C (Kd.int .i64) w A0_1 l0_1.length l0_1) (hc0_1 : l0_1.length ≤ c0_1) (hr1 : Kd.C (Kd.int .i64) w A1 l1.length l1) (hc1 : l1.length ≤ c1) (h : spec_RuleMasks.f k a0_0 l0_1 a0_2 l1 a2 = some r) :
  Calls Try.prog 96 #[.agg #[.int .i64 a0_0, .slice A0_1 l0_1.length c0_1, .int .i64 a0_2], .slice A1 l1.length c1, .int .i64 a2] w fun e w' => ∃ v0_ : Value, e = .returned (v0_) ∧ Kd.R (Kd.int .i64) 3 w' w.heap.size (fun _ => True) v0_ r ∧ Below w.heap.size w w' := by
 have hu73 := Try.underlying73
 have HR0_1 := yam hr0_1
 have HC0_1 := yam hc0_1
 clear hr0_1 hc0_1
 have HR1 := yam hr1
 have HC1 := yam hc1
 clear hr1 hc1
 have HB := yam (Below.refl w.heap.size w)
 have H : ((spec_RuleValid.f k a0_0 l0_1 a0_2 a2).bind fun t380 => (if t380 = true then ((spec_MasksValid.f k l1 a2).bind fun t381 => (if t381 = true then (if 0 ≤ (l0_1.length : Int) then (if ((l0_1.length : Int) : Int).toNat ≤ 35184372088832 then ((spec_l4Ways.f k a0_0 l0_1 a0_2 l1 (([] : List Int)) (List.replicate ((l0_1.length : Int) : Int).toNat 0)).bind fun t388 => (some t388)) else (none)) else (none)) else (some (([] : List Int))))) else (some (([] : List Int))))) = some r := h
 clear h
 replace H := Option.bind_eq_some_iff.mp H
 obtain ⟨t380, A40, H⟩ := H
 try dsimp only at H
 have A4 := yam A40
 clear A40
 by_cases c5 : t380 = true
 rotate_left
 ·replace c5 := Bool.eq_false_iff.mpr c5
  subst c5
  have H1 : (some (([] : List Int))) = some r := by rw [if_neg (show ¬ (false = true) by decide)] at H; exact H
  clear H
  have H := H1
  clear H1
  obtain ⟨y392, hy392⟩ : ∃ y_ : List Int, y_ = (([] : List Int)) := ⟨_, rfl⟩
  replace H : (some y392) = some r := by first | (rw [hy392]; with_reducible exact H) | (have H2_ := (Option.bind_some _ _).symm.trans H; rw [hy392]; with_reducible exact H2_) | (have H2_ := (Option.bind_some _ _).symm.trans H; with_reducible exact H2_) | with_reducible exact H | (rw [hy392]; exact H) | exact H
  have Ny392 := yam hy392
  clear hy392
  obtain rfl := Option.some.inj H
  go_enter Try.func96, Try.ntmps96
  go_wp2_with (first | ((with_reducible refine gate_dst (N := 3) rfl ?_); refine box_event ?hg (N := 3) ?hd (cs := #[.int .i64 a0_0, .slice A0_1 l0_1.length c0_1, .int .i64 a0_2]) (t := 73) ?hr ?_; (case hd => rfl); (case hg => rfl); (case hr => first | (go_simp; done) | (go_simp; rfl)); intro gb379 hg w28 hbox hb; have n0_ := yam (below_step (yez HB.out) hb); have n1_ := yam (hbox); have n2_ := yam ((by rw [hg]; exact (below_size (yez HB.out)) : w.heap.size ≤ gb379)); have n3_ := n2_; clear HB; have HB := n0_; have BK379 := n1_; have GW379 := n2_; have GE379 := n3_; clear n0_ n1_ n2_ n3_; clear hb hbox hg; obtain ⟨hcz29_0, hcz29_1, hcz29_2, hfz29_0, hfz29_1, hfz29_2⟩ := ybc BK379.out) | ((with_reducible refine gate_callee (f := 83) rfl ?_); refine goesL_ (some 10) rfl rfl Try.func83 (by kernel_rfl) rfl #[.agg #[.int .i64 a0_0, .slice A0_1 l0_1.length c0_1, .int .i64 a0_2], .int .i64 a2] rfl (by (try simp only [List.map_toArray, List.map_cons, List.map_nil]); first | done | rfl | (simp only [List.length_drop, List.length_take]; rfl)) ?_; (with_reducible refine (spec_RuleValid.calls k a0_0 _ _ l0_1 a0_2 a2 false _ ?side1 ?side2 A4.out).mono ?_); (case side1 => exact Kd.Cz ((Kd.C_below HR0_1.out HB.out))); (case side2 => exact HC0_1.out); rintro e w30 ⟨rfl, hb⟩; refine ⟨_, rfl, ?_⟩; have n0_ := yam (blk_below (g := gb379) (o := .cells #[.int .i64 a0_0, .slice A0_1 l0_1.length c0_1, .int .i64 a0_2] 73 (0, 0)) (ybz BK379.out) hb); have n1_ := yam (below_step (by repeat (first | (with_reducible first | exact HB.out | apply yea | apply yen | apply yed | refine below_set ?_ GE379.out) | exact HB.out)) hb); clear BK379; clear HB; have BK379 := n0_; have HB := n1_; clear n0_ n1_; (try clear hb); (try clear hb2); (try clear hk); (try clear hi)) | ((with_reducible refine gate_dst (N := 18) rfl ?_); refine Kd.R_lit (Kd.int .i64) _ 3 ?hg (N := 18) ?hd (xs := ([] : List Int)) (inner := []) (ok := fun _ => True) (okp := fun _ => True) ?hr ?hp (fun _ hk => hk) trivial (Below.refl _ _) (Nat.le_refl _) (by simp) ?_; (case hd => rfl); (case hg => rfl); (case hr => first | (go_simp; done) | (go_simp; rfl)); (case hp => exact (Reps.none _ _)); intro v393 w31 ho32 hb hg_ hnew_; clear hg_ hnew_; (first | rw [← Ny392.out] at ho32 | (simp only [Int.reduceToNat] at ho32; rw [← Ny392.out] at ho32)); have n0_ := yam (Kd.R_lower ho32 (below_size (by repeat (first | (with_reducible first | exact HB.out | apply yea | apply yen | apply yed | refine below_set ?_ GE379.out) | exact HB.out)))); have n1_ := yam (blk_below (g := gb379) (o := .cells #[.int .i64 a0_0, .slice A0_1 l0_1.length c0_1, .int .i64 a0_2] 73 (0, 0)) (ybz BK379.out) hb); have n2_ := yam (below_step (by repeat (first | (with_reducible first | exact HB.out | apply yea | apply yen | apply yed | refine below_set ?_ GE379.out) | exact HB.out)) hb); clear BK379; clear HB; have HO394 := n0_; have BK379 := n1_; have HB := n2_; clear n0_ n1_ n2_; clear hb ho32))
  go_ret
  exact ⟨_, by first | rfl | (simp [errW_none, errW_some] <;> rfl) | (simp [*, errW_none, errW_some] <;> rfl), by (with_reducible repeat (first | apply Kd.Ya | apply Kd.Yn | apply Kd.Yd)); exact HO394.out, by repeat (first | (with_reducible first | exact HB.out | apply yea | apply yen | apply yed | refine below_set ?_ GE379.out) | exact HB.out)⟩

 subst c5
 have H1 : ((spec_MasksValid.f k l1 a2).bind fun t381 => (if t381 = true then (if 0 ≤ (l0_1.length : Int) then (if ((l0_1.length : Int) : Int).toNat ≤ 35184372088832 then ((spec_l4Ways.f k a0_0 l0_1 a0_2 l1 (([] : List Int)) (List.replicate ((l0_1.length : Int) : Int).toNat 0)).bind fun t388 => (some t388)) else (none)) else (none)) else (some (([] : List Int))))) = some r := by rw [if_pos rfl] at H; exact H
 clear H
 have H := H1
 clear H1
 replace H := Option.bind_eq_some_iff.mp H
 obtain ⟨t381, A60, H⟩ := H
 try dsimp only at H
 have A6 := yam A60
 clear A60
 by_cases c7 : t381 = true
 rotate_left
 ·replace c7 := Bool.eq_false_iff.mpr c7
  subst c7
  have H1 : (some (([] : List Int))) = some r := by rw [if_neg (show ¬ (false = true) by decide)] at H; exact H
  clear H
  have H := H1
  clear H1
  obtain ⟨y389, hy389⟩ : ∃ y_ : List Int, y_ = (([] : List Int)) := ⟨_, rfl⟩
  replace H : (some y389) = some r := by first | (rw [hy389]; with_reducible exact H) | (have H2_ := (Option.bind_some _ _).symm.trans H; rw [hy389]; with_reducible exact H2_) | (have H2_ := (Option.bind_some _ _).symm.trans H; with_reducible exact H2_) | with_reducible exact H | (rw [hy389]; exact H) | exact H
  have Ny389 := yam hy389
  clear hy389
  obtain rfl := Option.some.inj H
  go_enter Try.func96, Try.ntmps96
  go_wp2_with (first | ((with_reducible refine gate_dst (N := 3) rfl ?_); refine box_event ?hg (N := 3) ?hd (cs := #[.int .i64 a0_0, .slice A0_1 l0_1.length c0_1, .int .i64 a0_2]) (t := 73) ?hr ?_; (case hd => rfl); (case hg => rfl); (case hr => first | (go_simp; done) | (go_simp; rfl)); intro gb379 hg w23 hbox hb; have n0_ := yam (below_step (yez HB.out) hb); have n1_ := yam (hbox); have n2_ := yam ((by rw [hg]; exact (below_size (yez HB.out)) : w.heap.size ≤ gb379)); have n3_ := n2_; clear HB; have HB := n0_; have BK379 := n1_; have GW379 := n2_; have GE379 := n3_; clear n0_ n1_ n2_ n3_; clear hb hbox hg; obtain ⟨hcz24_0, hcz24_1, hcz24_2, hfz24_0, hfz24_1, hfz24_2⟩ := ybc BK379.out) | ((with_reducible refine gate_callee (f := 83) rfl ?_); refine goesL_ (some 10) rfl rfl Try.func83 (by kernel_rfl) rfl #[.agg #[.int .i64 a0_0, .slice A0_1 l0_1.length c0_1, .int .i64 a0_2], .int .i64 a2] rfl (by (try simp only [List.map_toArray, List.map_cons, List.map_nil]); first | done | rfl | (simp only [List.length_drop, List.length_take]; rfl)) ?_; (with_reducible refine (spec_RuleValid.calls k a0_0 _ _ l0_1 a0_2 a2 true _ ?side1 ?side2 A4.out).mono ?_); (case side1 => exact Kd.Cz ((Kd.C_below HR0_1.out HB.out))); (case side2 => exact HC0_1.out); rintro e w25 ⟨rfl, hb⟩; refine ⟨_, rfl, ?_⟩; have n0_ := yam (blk_below (g := gb379) (o := .cells #[.int .i64 a0_0, .slice A0_1 l0_1.length c0_1, .int .i64 a0_2] 73 (0, 0)) (ybz BK379.out) hb); have n1_ := yam (below_step (by repeat (first | (with_reducible first | exact HB.out | apply yea | apply yen | apply yed | refine below_set ?_ GE379.out) | exact HB.out)) hb); clear BK379; clear HB; have BK379 := n0_; have HB := n1_; clear n0_ n1_; (try clear hb); (try clear hb2); (try clear hk); (try clear hi)) | (go_at_call 97; (with_reducible refine (spec_MasksValid.calls k _ _ l1 a2 false _ ?side1 ?side2 A6.out).mono ?_); (case side1 => exact Kd.Cz ((Kd.C_below HR1.out HB.out))); (case side2 => exact HC1.out); rintro e w' ⟨rfl, ⟨nd, rfl⟩⟩) | ((with_reducible refine gate_dst (N := 18) rfl ?_); refine Kd.R_lit (Kd.int .i64) _ 3 ?hg (N := 18) ?hd (xs := ([] : List Int)) (inner := []) (ok := fun _ => True) (okp := fun _ => True) ?hr ?hp (fun _ hk => hk) trivial (Below.refl _ _) (Nat.le_refl _) (by simp) ?_; (case hd => rfl); (case hg => rfl); (case hr => first | (go_simp; done) | (go_simp; rfl)); (case hp => exact (Reps.none _ _)); intro v390 w26 ho27 hb hg_ hnew_; clear hg_ hnew_; (first | rw [← Ny389.out] at ho27 | (simp only [Int.reduceToNat] at ho27; rw [← Ny389.out] at ho27)); have n0_ := yam (Kd.R_lower ho27 (below_size (by repeat (first | (with_reducible first | exact HB.out | apply yea | apply yen | apply yed | refine below_set ?_ GE379.out) | exact HB.out)))); have n1_ := yam (blk_below (g := gb379) (o := .cells #[.int .i64 a0_0, .slice A0_1 l0_1.length c0_1, .int .i64 a0_2] 73 (0, 0)) (ybz BK379.out) hb); have n2_ := yam (below_step (by repeat (first | (with_reducible first | exact HB.out | apply yea | apply yen | apply yed | refine below_set ?_ GE379.out) | exact HB.out)) hb); clear BK379; clear HB; have HO391 := n0_; have BK379 := n1_; have HB := n2_; clear n0_ n1_ n2_; clear hb ho27))
  go_ret
  exact ⟨_, by first | rfl | (simp [errW_none, errW_some] <;> rfl) | (simp [*, errW_none, errW_some] <;> rfl), by (with_reducible repeat (first | apply Kd.Ya | apply Kd.Yn | apply Kd.Yd)); exact HO391.out, by repeat (first | (with_reducible first | exact HB.out | apply yea | apply yen | apply yed | refine below_set ?_ GE379.out) | exact HB.out)⟩
 subst c7
 have H1 : (if 0 ≤ (l0_1.length : Int) then (if ((l0_1.length : Int) : Int).toNat ≤ 35184372088832 then ((spec_l4Ways.f k a0_0 l0_1 a0_2 l1 (([] : List Int)) (List.replicate ((l0_1.length : Int) : Int).toNat 0)).bind fun t388 => (some t388)) else (none)) else (none)) = some r := by rw [if_pos rfl] at H; exact H
 clear H
 have H := H1
 clear H1
 by_cases c8 : 0 ≤ (l0_1.length : Int)
 rotate_left
 ·rw [if_neg c8] at H
  exact absurd H (by simp)
 rw [if_pos c8] at H
 have c8b0 := eq_true c8
 have c8b1 : decide (0 ≤ (l0_1.length : Int)) = true := decide_eq_true c8
 clear c8
 by_cases c9 : ((l0_1.length : Int) : Int).toNat ≤ 35184372088832
 rotate_left
 ·rw [if_neg c9] at H
  exact absurd H (by simp)
 rw [if_pos c9] at H
 have c9b0 := eq_true c9
 have c9b1 : decide (((l0_1.length : Int) : Int).toNat ≤ 35184372088832) = true := decide_eq_true c9
 clear c9
 obtain ⟨y382, hy382⟩ : ∃ y_ : List Int, y_ = (List.replicate ((l0_1.length : Int) : Int).toNat 0) := ⟨_, rfl⟩
 replace H : ((spec_l4Ways.f k a0_0 l0_1 a0_2 l1 (([] : List Int)) y382).bind fun t388 => (some t388)) = some r := by first | (rw [hy382]; with_reducible exact H) | (have H2_ := (Option.bind_some _ _).symm.trans H; rw [hy382]; with_reducible exact H2_) | (have H2_ := (Option.bind_some _ _).symm.trans H; with_reducible exact H2_) | with_reducible exact H | (rw [hy382]; exact H) | exact H
 have Ny382 := yam hy382
 clear hy382
 obtain ⟨y385, hy385⟩ : ∃ y_ : List Int, y_ = (([] : List Int)) := ⟨_, rfl⟩
 replace H : ((spec_l4Ways.f k a0_0 l0_1 a0_2 l1 y385 y382).bind fun t388 => (some t388)) = some r := by first | (rw [hy385]; with_reducible exact H) | (have H2_ := (Option.bind_some _ _).symm.trans H; rw [hy385]; with_reducible exact H2_) | (have H2_ := (Option.bind_some _ _).symm.trans H; with_reducible exact H2_) | with_reducible exact H | (rw [hy385]; exact H) | exact H
 have Ny385 := yam hy385
 clear hy385
 replace H := Option.bind_eq_some_iff.mp H
 obtain ⟨t388, A100, H⟩ := H
 try dsimp only at H
 have A10 := yam A100
 clear A100
 obtain rfl := Option.some.inj H
 go_enter Try.func96, Try.ntmps96
 go_wp2_with (first | ((with_reducible refine gate_dst (N := 3) rfl ?_); refine box_event ?hg (N := 3) ?hd (cs := #[.int .i64 a0_0, .slice A0_1 l0_1.length c0_1, .int .i64 a0_2]) (t := 73) ?hr ?_; (case hd => rfl); (case hg => rfl); (case hr => first | (go_simp; done) | (go_simp; rfl)); intro gb379 hg w11 hbox hb; have n0_ := yam (below_step (yez HB.out) hb); have n1_ := yam (hbox); have n2_ := yam ((by rw [hg]; exact (below_size (yez HB.out)) : w.heap.size ≤ gb379)); have n3_ := n2_; clear HB; have HB := n0_; have BK379 := n1_; have GW379 := n2_; have GE379 := n3_; clear n0_ n1_ n2_ n3_; clear hb hbox hg; obtain ⟨hcz12_0, hcz12_1, hcz12_2, hfz12_0, hfz12_1, hfz12_2⟩ := ybc BK379.out) | ((with_reducible refine gate_callee (f := 83) rfl ?_); refine goesL_ (some 10) rfl rfl Try.func83 (by kernel_rfl) rfl #[.agg #[.int .i64 a0_0, .slice A0_1 l0_1.length c0_1, .int .i64 a0_2], .int .i64 a2] rfl (by (try simp only [List.map_toArray, List.map_cons, List.map_nil]); first | done | rfl | (simp only [List.length_drop, List.length_take]; rfl)) ?_; (with_reducible refine (spec_RuleValid.calls k a0_0 _ _ l0_1 a0_2 a2 true _ ?side1 ?side2 A4.out).mono ?_); (case side1 => exact Kd.Cz ((Kd.C_below HR0_1.out HB.out))); (case side2 => exact HC0_1.out); rintro e w13 ⟨rfl, hb⟩; refine ⟨_, rfl, ?_⟩; have n0_ := yam (blk_below (g := gb379) (o := .cells #[.int .i64 a0_0, .slice A0_1 l0_1.length c0_1, .int .i64 a0_2] 73 (0, 0)) (ybz BK379.out) hb); have n1_ := yam (below_step (by repeat (first | (with_reducible first | exact HB.out | apply yea | apply yen | apply yed | refine below_set ?_ GE379.out) | exact HB.out)) hb); clear BK379; clear HB; have BK379 := n0_; have HB := n1_; clear n0_ n1_; (try clear hb); (try clear hb2); (try clear hk); (try clear hi)) | (go_at_call 97; (with_reducible refine (spec_MasksValid.calls k _ _ l1 a2 true _ ?side1 ?side2 A6.out).mono ?_); (case side1 => exact Kd.Cz ((Kd.C_below HR1.out HB.out))); (case side2 => exact HC1.out); rintro e w' ⟨rfl, ⟨nd, rfl⟩⟩; obtain ⟨hcz14_0, hcz14_1, hcz14_2, hfz14_0, hfz14_1, hfz14_2⟩ := ybc BK379.out) | ((with_reducible refine gate_dst (N := 22) rfl ?_); refine Kd.R_make (Kd.int .i64) _ 3 rfl (N := 22) rfl 22 _ _ rfl (l0_1.length : Int) rfl rfl Try.underlying22 (.int .i64 0) 8 info3 rfl (by decide) (by omega) 0 (ok := fun _ => True) (okp := fun _ => True) rfl (fun _ hk => hk) trivial (of_decide_eq_true (by first | (with_reducible assumption) | assumption)) (Nat.le_trans (Nat.mul_le_mul_right _ (of_decide_eq_true (by first | (with_reducible assumption) | assumption) : (l0_1.length : Int).toNat ≤ 35184372088832)) (by omega)) (Below.refl _ _) (Nat.le_refl _) ?_; intro v383 w15 ho16 hb hg_ hnew_; clear hg_ hnew_; (first | rw [← Ny382.out] at ho16 | (simp only [Int.reduceToNat] at ho16; rw [← Ny382.out] at ho16)); have n0_ := yam (Kd.R_lower ho16 (below_size (by repeat (first | (with_reducible first | exact HB.out | apply yea | apply yen | apply yed | refine below_set ?_ GE379.out) | exact HB.out)))); have n1_ := yam (blk_below (g := gb379) (o := .cells #[.int .i64 a0_0, .slice A0_1 l0_1.length c0_1, .int .i64 a0_2] 73 (0, 0)) (ybz BK379.out) hb); have n2_ := yam (below_step (by repeat (first | (with_reducible first | exact HB.out | apply yea | apply yen | apply yed | refine below_set ?_ GE379.out) | exact HB.out)) hb); clear BK379; clear HB; have HO384 := n0_; have BK379 := n1_; have HB := n2_; clear n0_ n1_ n2_; clear hb ho16; obtain ⟨hcz17_0, hcz17_1, hcz17_2, hfz17_0, hfz17_1, hfz17_2⟩ := ybc BK379.out) | ((with_reducible refine gate_dst (N := 25) rfl ?_); refine Kd.R_lit (Kd.int .i64) _ 3 ?hg (N := 25) ?hd (xs := ([] : List Int)) (inner := []) (ok := fun _ => True) (okp := fun _ => True) ?hr ?hp (fun _ hk => hk) trivial (Below.refl _ _) (Nat.le_refl _) (by simp) ?_; (case hd => rfl); (case hg => rfl); (case hr => first | (go_simp; done) | (go_simp; rfl)); (case hp => exact (Reps.none _ _)); intro v386 w18 ho19 hb hg_ hnew_; clear hg_ hnew_; (first | rw [← Ny385.out] at ho19 | (simp only [Int.reduceToNat] at ho19; rw [← Ny385.out] at ho19)); have n0_ := yam (Kd.Ye (Kd.Yz HO384.out) (Kd.Yb ho19) hb); have n1_ := yam (Kd.R_lower (Kd.Yw ho19 (Kd.R_lt (Kd.Yz HO384.out))) (below_size (by repeat (first | (with_reducible first | exact HB.out | apply yea | apply yen | apply yed | refine below_set ?_ GE379.out) | exact HB.out)))); have n2_ := yam (blk_below (g := gb379) (o := .cells #[.int .i64 a0_0, .slice A0_1 l0_1.length c0_1, .int .i64 a0_2] 73 (0, 0)) (ybz BK379.out) hb); have n3_ := yam (below_step (by repeat (first | (with_reducible first | exact HB.out | apply yea | apply yen | apply yed | refine below_set ?_ GE379.out) | exact HB.out)) hb); clear HO384; clear BK379; clear HB; have HO384 := n0_; have HO387 := n1_; have BK379 := n2_; have HB := n3_; clear n0_ n1_ n2_ n3_; clear hb ho19; obtain ⟨Ao20, co20, eo20⟩ := Kd.R_slice HO387.out; subst eo20; obtain ⟨Ao21, co21, eo21⟩ := Kd.R_slice HO384.out; subst eo21) | ((with_reducible refine gate_callee (f := 98) rfl ?_); refine goesL_ (some 27) rfl rfl Try.func98 (by kernel_rfl) rfl #[.agg #[.int .i64 a0_0, .slice A0_1 l0_1.length c0_1, .int .i64 a0_2], .slice A1 l1.length c1, .slice Ao20 y385.length co20, .slice Ao21 y382.length co21] rfl (by (try simp only [List.map_toArray, List.map_cons, List.map_nil]); first | done | rfl | (simp only [List.length_drop, List.length_take]; rfl)) ?_; (with_reducible refine (spec_l4Ways.calls k a0_0 _ _ l0_1 a0_2 _ _ l1 _ _ y385 (fun k_ => some k_ = (.slice Ao21 y382.length co21 : Value).ownBlock) (.slice Ao21 y382.length co21) y382 t388 w _ ?side1 ?side2 ?side3 ?side4 ?side5 ?side6 ?side7 ?side8 A10.out).mono ?_); (case side1 => repeat (first | (with_reducible first | exact HB.out | apply yea | apply yen | apply yed | refine below_set ?_ GE379.out) | exact HB.out)); (case side2 => exact Kd.C_kept_came (Kd.heap_int .i64) HR0_1.out (by repeat (first | (with_reducible first | exact HB.out | apply yea | apply yen | apply yed | refine below_set ?_ GE379.out) | exact HB.out)) (fun k_ hs_ => (fun e_ => Kd.Yb HO384.out k_ e_.symm) hs_)); (case side3 => exact HC0_1.out); (case side4 => exact Kd.C_kept_came (Kd.heap_int .i64) HR1.out (by repeat (first | (with_reducible first | exact HB.out | apply yea | apply yen | apply yed | refine below_set ?_ GE379.out) | exact HB.out)) (fun k_ hs_ => (fun e_ => Kd.Yb HO384.out k_ e_.symm) hs_)); (case side5 => exact HC1.out); (case side6 => exact Kd.C_kept_own (HO387.out) (fun k_ hk_ hs_ => (hk_.2) hs_)); (case side7 => exact (Kd.Yr HO387.out).2.1); (case side8 => exact Kd.R_tight rfl HO384.out); rintro e w22 ⟨rfl, hy0, hb, hkp⟩; refine ⟨_, rfl, ?_⟩; have n0_ := yam (blk_kept (ybz BK379.out) hkp (fun hs_ => (fun e_ => (Kd.R_ne HO384.out BK379.out (by decide)) e_) hs_)); have n1_ := yam (Kd.R_reok rfl hy0 (fun k_ e_ => HO384.out.1 k_ e_)); have n2_ := yam (Kd.R_mono (ok' := fun k_ => some k_ ≠ (.slice Ao21 y382.length co21 : Value).ownBlock) (Kd.R_keptB (HO387.out) hkp (fun k_ hk_ hs_ => (hk_.2) hs_)) (fun k_ hk_ => hk_.1.2)); have n3_ := yam (hb); clear BK379; clear HO384; clear HO387; clear HB; have BK379 := n0_; have HO384 := n1_; have HO387 := n2_; have HB := n3_; clear n0_ n1_ n2_ n3_; (try clear hb); (try clear hkp); (try clear hy0)))
 go_ret
 exact ⟨_, by first | rfl | (simp [errW_none, errW_some] <;> rfl) | (simp [*, errW_none, errW_some] <;> rfl), by (with_reducible repeat (first | apply Kd.Ya | apply Kd.Yn | apply Kd.Yd)); exact Kd.R_mono HO384.out (fun _ hk => trivial), by repeat (first | (with_reducible first | exact HB.out | apply yea | apply yen | apply yed | refine below_set ?_ GE379.out) | exact HB.out)⟩
/-! ### spec_RulePossible: function 94 -/
mutual
def spec_RulePossible.j0 : Nat → List Int → Int → Bool → Int → List Int → Int → Option (Bool)
 | 0, _, _, _, _, _, _ => none
 | k + 1, x1, x2, x19, x396000, x396001, x396002 => if x19 = true then (some false) else (spec_RulePossible.l0 k x1 x2 (([] : List Int)) 0 x396000 x396001 x396002)
def spec_RulePossible.l0 : Nat → List Int → Int → List Int → Int → Int → List Int → Int → Option (Bool)
 | 0, _, _, _, _, _, _, _ => none
 | k + 1, x1, x2, x7, x8, x396000, x396001, x396002 => if x8 < (x1.length : Int) then (if 0 ≤ x8 then (if 0 ≤ (rd x1 x8) then (if (rd x1 x8) = 0 then (if 0 ≤ (wrap64 (x2 + 1)) then (if x7.length < 17592186044416 then (spec_RulePossible.l0 k x1 x2 (x7 ++ [wrap64 ((shl .i64 1 (wrap64 (x2 + 1))) - 2)]) (wrap64 (x8 + 1)) x396000 x396001 x396002) else (none)) else (none)) else (if x7.length < 17592186044416 then (spec_RulePossible.l0 k x1 x2 (x7 ++ [shl .i64 1 (rd x1 x8)]) (wrap64 (x8 + 1)) x396000 x396001 x396002) else (none))) else (none)) else (none)) else ((spec_RuleMasks.f k x396000 x396001 x396002 x7 x2).bind fun t409 => (if 0 < (t409.length : Int) then (some ((rd t409 0) != 0)) else (none)))
end
def spec_RulePossible.f (k : Nat) (a0_0 : Int) (l0_1 : List Int) (a0_2 : Int) (l1 : List Int) (a2 : Int) : Option (Bool) := (spec_RuleValid.f k a0_0 l0_1 a0_2 a2).bind fun t396 => (if t396 = true then ((spec_GridValid.f k l1 a2).bind fun t397 => (spec_RulePossible.j0 k l1 a2 (!t397) a0_0 l0_1 a0_2)) else (spec_RulePossible.j0 k l1 a2 true a0_0 l0_1 a0_2))
set_option maxHeartbeats 8000000 in
set_option maxRecDepth 100000 in
theorem spec_RulePossible.calls (k : Nat) (a0_0 : Int) (A0_1 : Option Addr) (c0_1 : Nat) (l0_1 : List Int) (a0_2 : Int) (A1 : Option Addr) (c1 : Nat) (l1 : List Int) (a2 : Int) (r : Bool) (w : World) (hr0_1 : Kd.C (Kd.int .i64) w A0_1 l0_1.length l0_1) (hc0_1 : l0_1.length ≤ c0_1) (hr1 : Kd.C (Kd.int .i64) w A1 l1.length l1) (hc1 : l1.length ≤ c1) (h : spec_RulePossible.f k a0_0 l0_1 a0_2 l1 a2 = some r) :
  Calls Try.prog 94 #[.agg #[.int .i64 a0_0, .slice A0_1 l0_1.length c0_1, .int .i64 a0_2], .slice A1 l1.length c1, .int .i64 a2] w fun e w' => e = .returned (.bool r) ∧ Below w.heap.size w w' := by
 have hu73 := Try.underlying73
 have HR0_1 := yam hr0_1
 have HC0_1 := yam hc0_1
 clear hr0_1 hc0_1
 have HR1 := yam hr1
 have HC1 := yam hc1
 clear hr1 hc1
 have HB := yam (Below.refl w.heap.size w)
 have H : ((spec_RuleValid.f k a0_0 l0_1 a0_2 a2).bind fun t396 => (if t396 = true then ((spec_GridValid.f k l1 a2).bind fun t397 => (spec_RulePossible.j0 k l1 a2 (!t397) a0_0 l0_1 a0_2)) else (spec_RulePossible.j0 k l1 a2 true a0_0 l0_1 a0_2))) = some r := h
 clear h
 have HC4 := yam H
 clear H
 go_enter Try.func94, Try.ntmps94
 go_upto_region 1 with (first | ((with_reducible refine gate_dst (N := 3) rfl ?_); refine box_event ?hg (N := 3) ?hd (cs := #[.int .i64 a0_0, .slice A0_1 l0_1.length c0_1, .int .i64 a0_2]) (t := 73) ?hr ?_; (case hd => rfl); (case hg => rfl); (case hr => first | (go_simp; done) | (go_simp; rfl)); intro gb395 hg w5 hbox hb; have n0_ := yam (below_step (yez HB.out) hb); have n1_ := yam (hbox); have n2_ := yam ((by rw [hg]; exact (below_size (yez HB.out)) : w.heap.size ≤ gb395)); have n3_ := n2_; clear HB; have HB := n0_; have BK395 := n1_; have GW395 := n2_; have GE395 := n3_; clear n0_ n1_ n2_ n3_; clear hb hbox hg))
 (try simp only [Act.put, yps])
 go_cut [19] (fun v19 wc => ∃ (kq : Nat) (x19_3 : Bool), v19 = .bool x19_3 ∧ Aside0 (spec_RulePossible.j0 kq l1 a2 x19_3 a0_0 l0_1 a0_2 = some r) ∧ Aside0 (kq ≤ k) ∧ Aside0 (wc.heap[gb395]? = some (.cells #[.int .i64 a0_0, (.slice A0_1 l0_1.length c0_1), .int .i64 a0_2] 73 (0, 0))) ∧ Aside0 (Below w.heap.size w wc))
 case first =>
  have H := HC4.out
  clear HC4
  replace H := Option.bind_eq_some_iff.mp H
  obtain ⟨t396, A60, H⟩ := H
  try dsimp only at H
  have A6 := yam A60
  clear A60
  by_cases c7 : t396 = true
  rotate_left
  ·replace c7 := Bool.eq_false_iff.mpr c7
   subst c7
   have H1 : (spec_RulePossible.j0 k l1 a2 true a0_0 l0_1 a0_2) = some r := by rw [if_neg (show ¬ (false = true) by decide)] at H; exact H
   clear H
   have H := H1
   clear H1
   have H' := yam H
   clear H
   obtain ⟨hcz11_0, hcz11_1, hcz11_2, hfz11_0, hfz11_1, hfz11_2⟩ := ybc BK395.out
   go_wp2_with (first | ((with_reducible refine gate_callee (f := 83) rfl ?_); refine goesL_ (some 12) rfl rfl Try.func83 (by kernel_rfl) rfl #[.agg #[.int .i64 a0_0, .slice A0_1 l0_1.length c0_1, .int .i64 a0_2], .int .i64 a2] rfl (by (try simp only [List.map_toArray, List.map_cons, List.map_nil]); first | done | rfl | (simp only [List.length_drop, List.length_take]; rfl)) ?_; (with_reducible refine (spec_RuleValid.calls k a0_0 _ _ l0_1 a0_2 a2 false _ ?side1 ?side2 A6.out).mono ?_); (case side1 => exact Kd.Cz ((Kd.C_below HR0_1.out HB.out))); (case side2 => exact HC0_1.out); rintro e w12 ⟨rfl, hb⟩; refine ⟨_, rfl, ?_⟩; have n0_ := yam (blk_below (g := gb395) (o := .cells #[.int .i64 a0_0, .slice A0_1 l0_1.length c0_1, .int .i64 a0_2] 73 (0, 0)) (ybz BK395.out) hb); have n1_ := yam (below_step (by repeat (first | (with_reducible first | exact HB.out | apply yea | apply yen | apply yed | refine below_set ?_ GE395.out) | exact HB.out)) hb); clear BK395; clear HB; have BK395 := n0_; have HB := n1_; clear n0_ n1_; (try clear hb); (try clear hb2); (try clear hk); (try clear hi)))
   go_meet
   case rel => exact ⟨_, (true), (by first | rfl | (simp; done) | (simp [*]; done)), H', ⟨by first | omega | exact Nat.le_refl _⟩, ⟨by (with_reducible repeat (first | refine ybn ?_ _ | refine ybd ?_ | refine yba ?_ _)); exact BK395.out⟩, ⟨by repeat (first | (with_reducible first | exact HB.out | apply yea | apply yen | apply yed | refine below_set ?_ GE395.out) | exact HB.out)⟩⟩
  subst c7
  have H1 : ((spec_GridValid.f k l1 a2).bind fun t397 => (spec_RulePossible.j0 k l1 a2 (!t397) a0_0 l0_1 a0_2)) = some r := by rw [if_pos rfl] at H; exact H
  clear H
  have H := H1
  clear H1
  replace H := Option.bind_eq_some_iff.mp H
  obtain ⟨t397, A80, H⟩ := H
  try dsimp only at H
  have A8 := yam A80
  clear A80
  have H' := yam H
  clear H
  obtain ⟨hcz9_0, hcz9_1, hcz9_2, hfz9_0, hfz9_1, hfz9_2⟩ := ybc BK395.out
  go_wp2_with (first | ((with_reducible refine gate_callee (f := 83) rfl ?_); refine goesL_ (some 12) rfl rfl Try.func83 (by kernel_rfl) rfl #[.agg #[.int .i64 a0_0, .slice A0_1 l0_1.length c0_1, .int .i64 a0_2], .int .i64 a2] rfl (by (try simp only [List.map_toArray, List.map_cons, List.map_nil]); first | done | rfl | (simp only [List.length_drop, List.length_take]; rfl)) ?_; (with_reducible refine (spec_RuleValid.calls k a0_0 _ _ l0_1 a0_2 a2 true _ ?side1 ?side2 A6.out).mono ?_); (case side1 => exact Kd.Cz ((Kd.C_below HR0_1.out HB.out))); (case side2 => exact HC0_1.out); rintro e w10 ⟨rfl, hb⟩; refine ⟨_, rfl, ?_⟩; have n0_ := yam (blk_below (g := gb395) (o := .cells #[.int .i64 a0_0, .slice A0_1 l0_1.length c0_1, .int .i64 a0_2] 73 (0, 0)) (ybz BK395.out) hb); have n1_ := yam (below_step (by repeat (first | (with_reducible first | exact HB.out | apply yea | apply yen | apply yed | refine below_set ?_ GE395.out) | exact HB.out)) hb); clear BK395; clear HB; have BK395 := n0_; have HB := n1_; clear n0_ n1_; (try clear hb); (try clear hb2); (try clear hk); (try clear hi)) | (go_at_call 84; (with_reducible refine (spec_GridValid.calls k _ _ l1 a2 t397 _ ?side1 ?side2 A8.out).mono ?_); (case side1 => exact Kd.Cz ((Kd.C_below HR1.out HB.out))); (case side2 => exact HC1.out); rintro e w' ⟨rfl, ⟨nd, rfl⟩⟩))
  go_meet
  case rel => exact ⟨_, (!t397), (by first | rfl | (simp; done) | (simp [*]; done)), H', ⟨by first | omega | exact Nat.le_refl _⟩, ⟨by (with_reducible repeat (first | refine ybn ?_ _ | refine ybd ?_ | refine yba ?_ _)); exact BK395.out⟩, ⟨by repeat (first | (with_reducible first | exact HB.out | apply yea | apply yen | apply yed | refine below_set ?_ GE395.out) | exact HB.out)⟩⟩
 case rest =>
  clear HC4
  try clear c1
  try clear p2
  try clear c7
  try clear c8
  try clear c9
  try clear hcz11_0
  try clear hcz11_1
  try clear hcz11_2
  try clear hcz9_0
  try clear hcz9_1
  try clear hcz9_2
  try clear hfz11_0
  try clear hfz11_1
  try clear hfz11_2
  try clear hfz9_0
  try clear hfz9_1
  try clear hfz9_2
  obtain ⟨kq, x19_3, rfl, HA, HJ3, BK395, HB⟩ := hcut
  cases kq with
  | zero => exact absurd HA.out (by simp [spec_RulePossible.j0])
  | succ kj3 =>
   have H := HA.out
   clear HA
   simp only [spec_RulePossible.j0] at H
   by_cases c13 : x19_3 = true
   ·subst c13
    have H1 : (some false) = some r := by rw [if_pos rfl] at H; exact H
    clear H
    have H := H1
    clear H1
    obtain rfl := Option.some.inj H
    go_wp2
    go_ret
    exact ⟨by first | rfl | (simp [errW_none, errW_some] <;> rfl) | (simp [*, errW_none, errW_some] <;> rfl), by repeat (first | (with_reducible first | exact HB.out | apply yea | apply yen | apply yed | refine below_set ?_ GE395.out) | exact HB.out)⟩
   replace c13 := Bool.eq_false_iff.mpr c13
   subst c13
   have H1 : (spec_RulePossible.l0 kj3 l1 a2 (([] : List Int)) 0 a0_0 l0_1 a0_2) = some r := by rw [if_neg (show ¬ (false = true) by decide)] at H; exact H
   clear H
   have H := H1
   clear H1
   obtain ⟨y398, hy398⟩ : ∃ y_ : List Int, y_ = (([] : List Int)) := ⟨_, rfl⟩
   replace H : (spec_RulePossible.l0 kj3 l1 a2 y398 0 a0_0 l0_1 a0_2) = some r := by first | (rw [hy398]; with_reducible exact H) | (have H2_ := (Option.bind_some _ _).symm.trans H; rw [hy398]; with_reducible exact H2_) | (have H2_ := (Option.bind_some _ _).symm.trans H; with_reducible exact H2_) | with_reducible exact H | (rw [hy398]; exact H) | exact H
   have Ny398 := yam hy398
   clear hy398
   have H' := yam H
   clear H
   go_wp2_with (first | ((with_reducible refine gate_dst (N := 20) rfl ?_); refine Kd.R_lit (Kd.int .i64) _ 3 ?hg (N := 20) ?hd (xs := ([] : List Int)) (inner := []) (ok := fun _ => True) (okp := fun _ => True) ?hr ?hp (fun _ hk => hk) trivial (Below.refl _ _) (Nat.le_refl _) (by simp) ?_; (case hd => rfl); (case hg => rfl); (case hr => first | (go_simp; done) | (go_simp; rfl)); (case hp => exact (Reps.none _ _)); intro v399 w14 ho15 hb hg_ hnew_; clear hg_ hnew_; (first | rw [← Ny398.out] at ho15 | (simp only [Int.reduceToNat] at ho15; rw [← Ny398.out] at ho15)); have n0_ := yam (Kd.R_lower ho15 (below_size (by repeat (first | (with_reducible first | exact HB.out | apply yea | apply yen | apply yed | refine below_set ?_ GE395.out) | exact HB.out)))); have n1_ := yam (blk_below (g := gb395) (o := .cells #[.int .i64 a0_0, .slice A0_1 l0_1.length c0_1, .int .i64 a0_2] 73 (0, 0)) (ybz BK395.out) hb); have n2_ := yam (below_step (by repeat (first | (with_reducible first | exact HB.out | apply yea | apply yen | apply yed | refine below_set ?_ GE395.out) | exact HB.out)) hb); clear BK395; clear HB; have HO400 := n0_; have BK395 := n1_; have HB := n2_; clear n0_ n1_ n2_; clear hb ho15))
   go_loopg [7, 8] kj3 (fun kq v7 v8 w' => ∃ (x7_2 : List Int) (x8_2 : Int), v8 = .int .i64 x8_2 ∧ Aside0 (spec_RulePossible.l0 kq l1 a2 x7_2 x8_2 a0_0 l0_1 a0_2 = some r) ∧ Aside0 (kq ≤ kj3) ∧ Aside0 (Kd.R (Kd.int .i64) 3 w' w.heap.size (fun _ => True) v7 x7_2) ∧ Aside0 (w'.heap[gb395]? = some (.cells #[.int .i64 a0_0, (.slice A0_1 l0_1.length c0_1), .int .i64 a0_2] 73 (0, 0))) ∧ Aside0 (Below w.heap.size w w'))
   case atStart => exact ⟨(y398), (0), (by first | rfl | (simp; done) | (simp [*]; done)), H', ⟨Nat.le_refl _⟩, ⟨by (with_reducible repeat (first | apply Kd.Ya | apply Kd.Yn | apply Kd.Yd)); exact HO400.out⟩, ⟨by (with_reducible repeat (first | refine ybn ?_ _ | refine ybd ?_ | refine yba ?_ _)); exact BK395.out⟩, ⟨by repeat (first | (with_reducible first | exact HB.out | apply yea | apply yen | apply yed | refine below_set ?_ GE395.out) | exact HB.out)⟩⟩
   case round =>
    clear H'
    try clear c1
    try clear p2
    try clear c7
    try clear c8
    try clear c9
    try clear c13
    try clear hcz11_0
    try clear hcz11_1
    try clear hcz11_2
    try clear hcz9_0
    try clear hcz9_1
    try clear hcz9_2
    try clear hfz11_0
    try clear hfz11_1
    try clear hfz11_2
    try clear hfz9_0
    try clear hfz9_1
    try clear hfz9_2
    try clear p2
    obtain ⟨x7_2, x8_2, rfl, HA, HK2, HO_7, BK395, HB⟩ := hrel
    cases gk with
    | zero => exact absurd HA.out (by simp [spec_RulePossible.l0])
    | succ k2 =>
     have H := HA.out
     clear HA
     simp only [spec_RulePossible.l0] at H
     by_cases c16 : x8_2 < (l1.length : Int)
     rotate_left
     ·rw [if_neg c16] at H
      have c16b0 : decide (x8_2 < (l1.length : Int)) = false := decide_eq_false c16
      clear c16
      replace H := Option.bind_eq_some_iff.mp H
      obtain ⟨t409, A280, H⟩ := H
      try dsimp only at H
      have A28 := yam A280
      clear A280
      by_cases c29 : 0 < (t409.length : Int)
      rotate_left
      ·rw [if_neg c29] at H
       exact absurd H (by simp)

      rw [if_pos c29] at H
      have c29b0 : decide (0 < (t409.length : Int)) = true := decide_eq_true c29
      have c29b1 : decide (0 < t409.length) = true := decide_eq_true (by omega)
      clear c29
      obtain rfl := Option.some.inj H
      obtain ⟨hcz30_0, hcz30_1, hcz30_2, hfz30_0, hfz30_1, hfz30_2⟩ := ybc BK395.out
      obtain ⟨Ao31, co31, eo31⟩ := Kd.R_slice HO_7.out
      subst eo31
      go_wp2_with (first | ((with_reducible refine gate_callee (f := 96) rfl ?_); refine goesL_ (some 48) rfl rfl Try.func96 (by kernel_rfl) rfl #[.agg #[.int .i64 a0_0, .slice A0_1 l0_1.length c0_1, .int .i64 a0_2], .slice Ao31 x7_2.length co31, .int .i64 a2] rfl (by (try simp only [List.map_toArray, List.map_cons, List.map_nil]); first | done | rfl | (simp only [List.length_drop, List.length_take]; rfl)) ?_; (with_reducible refine (spec_RuleMasks.calls k2 a0_0 _ _ l0_1 a0_2 _ _ x7_2 a2 t409 _ ?side1 ?side2 ?side3 ?side4 A28.out).mono ?_); (case side1 => exact Kd.Cz ((Kd.C_below HR0_1.out HB.out))); (case side2 => exact HC0_1.out); (case side3 => repeat (first | exact (Kd.Yr HO_7.out).2.2 | (with_reducible refine Kd.C_alloc ?_ _) | (with_reducible refine Kd.C_drewN ?_ _) | (with_reducible refine Kd.C_drew ?_))); (case side4 => exact (Kd.Yr HO_7.out).2.1); rintro e w32 ⟨v410, rfl, ho0, hb⟩; refine ⟨_, rfl, ?_⟩; have n0_ := yam (Kd.Ye (Kd.Yz HO_7.out) (Kd.Yb ho0) hb); have n1_ := yam (Kd.R_lower (Kd.Yw ho0 (Kd.R_lt (Kd.Yz HO_7.out))) (below_size (by repeat (first | (with_reducible first | exact HB.out | apply yea | apply yen | apply yed | refine below_set ?_ GE395.out) | exact HB.out)))); have n2_ := yam (blk_below (g := gb395) (o := .cells #[.int .i64 a0_0, .slice A0_1 l0_1.length c0_1, .int .i64 a0_2] 73 (0, 0)) (ybz BK395.out) hb); have n3_ := yam (below_step (by repeat (first | (with_reducible first | exact HB.out | apply yea | apply yen | apply yed | refine below_set ?_ GE395.out) | exact HB.out)) hb); clear HO_7; clear BK395; clear HB; have HO_7 := n0_; have HO411 := n1_; have BK395 := n2_; have HB := n3_; clear n0_ n1_ n2_ n3_; (try clear hb); (try clear hb2); (try clear hk); (try clear hi); (try clear ho0); obtain ⟨Ao33, co33, eo33⟩ := Kd.R_slice HO411.out; subst eo33; have p412 : 0 ≤ (0 : Int) := (by omega); have q412 : 0 < (t409.length : Int) := of_decide_eq_true (by first | (with_reducible assumption) | assumption); obtain ⟨ad412, e412, hx412_0⟩ := Kd.at_int (Kd.Yr HO411.out).2.2 0 p412 q412; cases e412; have qi412 : (0 < t409.length) = True := eq_true (by omega); (try rw [show ((0 : Int)).toNat = 0 from rfl] at hx412_0); (try rw [Addr.add_zero'] at hx412_0); replace p412 := eq_true p412; replace q412 := eq_true q412))
      go_ret
      exact ⟨by first | rfl | (simp [errW_none, errW_some] <;> rfl) | (simp [*, errW_none, errW_some] <;> rfl), by repeat (first | (with_reducible first | exact HB.out | apply yea | apply yen | apply yed | refine below_set ?_ GE395.out) | exact HB.out)⟩
     rw [if_pos c16] at H
     have c16b0 : decide (x8_2 < (l1.length : Int)) = true := decide_eq_true c16
     clear c16
     by_cases c17 : 0 ≤ x8_2
     rotate_left
     ·rw [if_neg c17] at H
      exact absurd H (by simp)
     rw [if_pos c17] at H
     have c17b0 : decide (0 ≤ x8_2) = true := decide_eq_true c17
     clear c17
     by_cases c18 : 0 ≤ (rd l1 x8_2)
     rotate_left
     ·rw [if_neg c18] at H
      exact absurd H (by simp)
     rw [if_pos c18] at H
     have c18b0 := eq_true c18
     have c18b1 : decide (0 ≤ (rd l1 x8_2)) = true := decide_eq_true c18
     clear c18
     obtain ⟨ji19, hji19⟩ : ∃ j_ : Int, (shl .i64 1 (rd l1 x8_2)) = j_ := ⟨_, rfl⟩
     replace H : (if (rd l1 x8_2) = 0 then (if 0 ≤ (wrap64 (a2 + 1)) then (if x7_2.length < 17592186044416 then (spec_RulePossible.l0 k2 l1 a2 (x7_2 ++ [wrap64 ((shl .i64 1 (wrap64 (a2 + 1))) - 2)]) (wrap64 (x8_2 + 1)) a0_0 l0_1 a0_2) else (none)) else (none)) else (if x7_2.length < 17592186044416 then (spec_RulePossible.l0 k2 l1 a2 (x7_2 ++ [ji19]) (wrap64 (x8_2 + 1)) a0_0 l0_1 a0_2) else (none))) = some r := by first | (rw [hji19] at H; exact H) | (simp only [hji19] at H ⊢; exact H)
     have hji19_ : (IntKind.i64.wrap (1 * 2 ^ min (rd l1 x8_2).toNat 64)) = ji19 := hji19
     have hji19z : (rd l1 x8_2) ≤ 64 → (IntKind.i64.wrap (1 * 2 ^ (rd l1 x8_2).toNat)) = ji19 := shl_small hji19
     have hji19u : (IntKind.i64.wrap (2 ^ min (rd l1 x8_2).toNat 64)) = ji19 := by have h_ := hji19_; rw [Int.one_mul] at h_; exact h_
     have hji19v : (rd l1 x8_2) ≤ 64 → (IntKind.i64.wrap (2 ^ (rd l1 x8_2).toNat)) = ji19 := fun hle_ => by have h_ := hji19z hle_; rw [Int.one_mul] at h_; exact h_
     have hji19y : (wrap64 (1 * 2 ^ min (rd l1 x8_2).toNat 64)) = ji19 := (i64_w _).symm.trans hji19_
     have hji19x : (rd l1 x8_2) ≤ 64 → (wrap64 (1 * 2 ^ (rd l1 x8_2).toNat)) = ji19 := fun h_ => (i64_w _).symm.trans (hji19z h_)
     by_cases c20 : (rd l1 x8_2) = 0
     rotate_left
     ·rw [if_neg c20] at H
      have c20b0 : ((rd l1 x8_2) == 0) = false := beq_eq_false_iff_ne.mpr c20
      have c20b1 : ((rd l1 x8_2) != 0) = true := bne_iff_ne.mpr c20
      by_cases c26 : x7_2.length < 17592186044416
      rotate_left
      ·rw [if_neg c26] at H
       exact absurd H (by simp)
      rw [if_pos c26] at H
      have LMc26 := yam c26
      clear c26
      obtain ⟨y406, hy406⟩ : ∃ y_ : List Int, y_ = (x7_2 ++ [ji19]) := ⟨_, rfl⟩
      replace H : (spec_RulePossible.l0 k2 l1 a2 y406 (wrap64 (x8_2 + 1)) a0_0 l0_1 a0_2) = some r := by first | (rw [hy406]; with_reducible exact H) | (have H2_ := (Option.bind_some _ _).symm.trans H; rw [hy406]; with_reducible exact H2_) | (have H2_ := (Option.bind_some _ _).symm.trans H; with_reducible exact H2_) | with_reducible exact H | (rw [hy406]; exact H) | exact H
      have Ny406 := yam hy406
      clear hy406
      have H' := yam H
      clear H
      have p401 : 0 ≤ (x8_2 : Int) := of_decide_eq_true (by first | (with_reducible assumption) | assumption)
      have q401 : x8_2 < (l1.length : Int) := of_decide_eq_true (by first | (with_reducible assumption) | assumption)
      obtain ⟨ad401, e401, hx401_0⟩ := Kd.at_int HR1.out x8_2 p401 q401
      cases e401
      replace hx401_0 := (HB.out.cell (World.block_lt_of_cell? w _ hx401_0)).trans hx401_0
      replace p401 := eq_true p401
      replace q401 := eq_true q401
      have p402 : 0 ≤ (x8_2 : Int) := of_decide_eq_true (by first | (with_reducible assumption) | assumption)
      have q402 : x8_2 < (l1.length : Int) := of_decide_eq_true (by first | (with_reducible assumption) | assumption)
      obtain ⟨ad402, e402, hx402_0⟩ := Kd.at_int HR1.out x8_2 p402 q402
      obtain rfl : ad401 = ad402 := (by injection e402)
      replace hx402_0 := (HB.out.cell (World.block_lt_of_cell? w _ hx402_0)).trans hx402_0
      replace p402 := eq_true p402
      replace q402 := eq_true q402
      go_wp2_with (first | ((with_reducible refine gate_builtin (b := .append) (xs := #[.tmp 41, .tmp 43]) rfl ?_); at_builtin; refine Kd.R_append (Kd.int .i64) (w0 := w) w.heap.size rfl (.tmp 41) (.tmp 43) 22 3 (.int .i64 0) 8 rfl Try.underlying22 info3 rfl (by decide) (by omega) u7 x7_2 ji19 [.int .i64 ji19] (fun _ => True) (fun _ => False) rfl rfl ?aP (fun _ hk => hk.elim) ?aF ?aO ?aB ?aS ?aL ?_; (case aP => exact rfl); (case aB => exact (by repeat (first | (with_reducible first | exact HB.out | apply yea | apply yen | apply yed | refine below_set ?_ GE395.out) | exact HB.out))); (case aF => exact (fun _ _ => trivial)); (case aO => exact (Kd.Yz HO_7.out)); (case aS => exact (below_size (by repeat (first | (with_reducible first | exact HB.out | apply yea | apply yen | apply yed | refine below_set ?_ GE395.out) | exact HB.out)))); (case aL => have := LMc26.out; omega); intro v407 w27 ho hb hg hat; rw [← Ny406.out] at ho; have n0_ := yam (blk_grown (g := gb395) (o := .cells #[.int .i64 a0_0, .slice A0_1 l0_1.length c0_1, .int .i64 a0_2] 73 (0, 0)) (ybz BK395.out) hg (Kd.R_ne HO_7.out BK395.out (by decide))); have n1_ := yam (hb); have n2_ := yam (ho); clear BK395; clear HB; clear HO_7; have BK395 := n0_; have HB := n1_; have HO408 := n2_; clear n0_ n1_ n2_; clear ho hb hg hat))
      go_roundg k2
      case measure => have := HJ3.out; have := HK2.out; omega
      case rel => exact ⟨(y406), (wrap64 (x8_2 + 1)), (by first | rfl | (simp; done) | (simp [*]; done)), H', ⟨by have := HJ3.out; have := HK2.out; omega⟩, ⟨by (with_reducible repeat (first | apply Kd.Ya | apply Kd.Yn | apply Kd.Yd)); exact HO408.out⟩, ⟨by (with_reducible repeat (first | refine ybn ?_ _ | refine ybd ?_ | refine yba ?_ _)); exact BK395.out⟩, ⟨by repeat (first | (with_reducible first | exact HB.out | apply yea | apply yen | apply yed | refine below_set ?_ GE395.out) | exact HB.out)⟩⟩
     rw [if_pos c20] at H
     have c20b0 : ((rd l1 x8_2) == 0) = true := beq_iff_eq.mpr c20
     have c20b1 : ((rd l1 x8_2) != 0) = false := bne_eq_false_iff_eq.mpr c20
     clear c20
     obtain ⟨ji21, hji21⟩ : ∃ j_ : Int, (wrap64 (a2 + 1)) = j_ := ⟨_, rfl⟩
     replace H : (if 0 ≤ (ji21) then (if x7_2.length < 17592186044416 then (spec_RulePossible.l0 k2 l1 a2 (x7_2 ++ [wrap64 ((shl .i64 1 (ji21)) - 2)]) (wrap64 (x8_2 + 1)) a0_0 l0_1 a0_2) else (none)) else (none)) = some r := by first | (rw [hji21] at H; exact H) | (simp only [hji21] at H ⊢; exact H)
     have hji21w : (IntKind.i64.wrap (a2 + 1)) = ji21 := (i64_w _).trans hji21
     by_cases c22 : 0 ≤ (ji21)
     rotate_left
     ·rw [if_neg c22] at H
      exact absurd H (by simp)
     rw [if_pos c22] at H
     have c22b0 := eq_true c22
     have c22b1 : decide (0 ≤ (ji21)) = true := decide_eq_true c22
     clear c22
     obtain ⟨ji23, hji23⟩ : ∃ j_ : Int, (shl .i64 1 (ji21)) = j_ := ⟨_, rfl⟩
     replace H : (if x7_2.length < 17592186044416 then (spec_RulePossible.l0 k2 l1 a2 (x7_2 ++ [wrap64 ((ji23) - 2)]) (wrap64 (x8_2 + 1)) a0_0 l0_1 a0_2) else (none)) = some r := by first | (rw [hji23] at H; exact H) | (simp only [hji23] at H ⊢; exact H)
     have hji23_ : (IntKind.i64.wrap (1 * 2 ^ min (ji21).toNat 64)) = ji23 := hji23
     have hji23z : (ji21) ≤ 64 → (IntKind.i64.wrap (1 * 2 ^ (ji21).toNat)) = ji23 := shl_small hji23
     have hji23u : (IntKind.i64.wrap (2 ^ min (ji21).toNat 64)) = ji23 := by have h_ := hji23_; rw [Int.one_mul] at h_; exact h_
     have hji23v : (ji21) ≤ 64 → (IntKind.i64.wrap (2 ^ (ji21).toNat)) = ji23 := fun hle_ => by have h_ := hji23z hle_; rw [Int.one_mul] at h_; exact h_
     have hji23y : (wrap64 (1 * 2 ^ min (ji21).toNat 64)) = ji23 := (i64_w _).symm.trans hji23_
     have hji23x : (ji21) ≤ 64 → (wrap64 (1 * 2 ^ (ji21).toNat)) = ji23 := fun h_ => (i64_w _).symm.trans (hji23z h_)
     by_cases c24 : x7_2.length < 17592186044416
     rotate_left
     ·rw [if_neg c24] at H
      exact absurd H (by simp)
     rw [if_pos c24] at H
     have LMc24 := yam c24
     clear c24
     obtain ⟨y403, hy403⟩ : ∃ y_ : List Int, y_ = (x7_2 ++ [wrap64 ((ji23) - 2)]) := ⟨_, rfl⟩
     replace H : (spec_RulePossible.l0 k2 l1 a2 y403 (wrap64 (x8_2 + 1)) a0_0 l0_1 a0_2) = some r := by first | (rw [hy403]; with_reducible exact H) | (have H2_ := (Option.bind_some _ _).symm.trans H; rw [hy403]; with_reducible exact H2_) | (have H2_ := (Option.bind_some _ _).symm.trans H; with_reducible exact H2_) | with_reducible exact H | (rw [hy403]; exact H) | exact H
     have Ny403 := yam hy403
     clear hy403
     have H' := yam H
     clear H
     have p401 : 0 ≤ (x8_2 : Int) := of_decide_eq_true (by first | (with_reducible assumption) | assumption)
     have q401 : x8_2 < (l1.length : Int) := of_decide_eq_true (by first | (with_reducible assumption) | assumption)
     obtain ⟨ad401, e401, hx401_0⟩ := Kd.at_int HR1.out x8_2 p401 q401
     cases e401
     replace hx401_0 := (HB.out.cell (World.block_lt_of_cell? w _ hx401_0)).trans hx401_0
     replace p401 := eq_true p401
     replace q401 := eq_true q401
     have p402 : 0 ≤ (x8_2 : Int) := of_decide_eq_true (by first | (with_reducible assumption) | assumption)
     have q402 : x8_2 < (l1.length : Int) := of_decide_eq_true (by first | (with_reducible assumption) | assumption)
     obtain ⟨ad402, e402, hx402_0⟩ := Kd.at_int HR1.out x8_2 p402 q402
     obtain rfl : ad401 = ad402 := (by injection e402)
     replace hx402_0 := (HB.out.cell (World.block_lt_of_cell? w _ hx402_0)).trans hx402_0
     replace p402 := eq_true p402
     replace q402 := eq_true q402
     go_wp2_with (first | ((with_reducible refine gate_builtin (b := .append) (xs := #[.tmp 41, .tmp 43]) rfl ?_); at_builtin; refine Kd.R_append (Kd.int .i64) (w0 := w) w.heap.size rfl (.tmp 41) (.tmp 43) 22 3 (.int .i64 0) 8 rfl Try.underlying22 info3 rfl (by decide) (by omega) u7 x7_2 (wrap64 ((ji23) - 2)) [.int .i64 (wrap64 ((ji23) - 2))] (fun _ => True) (fun _ => False) rfl rfl ?aP (fun _ hk => hk.elim) ?aF ?aO ?aB ?aS ?aL ?_; (case aP => exact rfl); (case aB => exact (by repeat (first | (with_reducible first | exact HB.out | apply yea | apply yen | apply yed | refine below_set ?_ GE395.out) | exact HB.out))); (case aF => exact (fun _ _ => trivial)); (case aO => exact (Kd.Yz HO_7.out)); (case aS => exact (below_size (by repeat (first | (with_reducible first | exact HB.out | apply yea | apply yen | apply yed | refine below_set ?_ GE395.out) | exact HB.out)))); (case aL => have := LMc24.out; omega); intro v404 w25 ho hb hg hat; rw [← Ny403.out] at ho; have n0_ := yam (blk_grown (g := gb395) (o := .cells #[.int .i64 a0_0, .slice A0_1 l0_1.length c0_1, .int .i64 a0_2] 73 (0, 0)) (ybz BK395.out) hg (Kd.R_ne HO_7.out BK395.out (by decide))); have n1_ := yam (hb); have n2_ := yam (ho); clear BK395; clear HB; clear HO_7; have BK395 := n0_; have HB := n1_; have HO405 := n2_; clear n0_ n1_ n2_; clear ho hb hg hat))
     go_roundg k2
     case measure => have := HJ3.out; have := HK2.out; omega
     case rel => exact ⟨(y403), (wrap64 (x8_2 + 1)), (by first | rfl | (simp; done) | (simp [*]; done)), H', ⟨by have := HJ3.out; have := HK2.out; omega⟩, ⟨by (with_reducible repeat (first | apply Kd.Ya | apply Kd.Yn | apply Kd.Yd)); exact HO405.out⟩, ⟨by (with_reducible repeat (first | refine ybn ?_ _ | refine ybd ?_ | refine yba ?_ _)); exact BK395.out⟩, ⟨by repeat (first | (with_reducible first | exact HB.out | apply yea | apply yen | apply yed | refine below_set ?_ GE395.out) | exact HB.out)⟩⟩
/-! ### spec_l5Fits: function 90 -/
mutual
def spec_l5Fits.l0 : Nat → List Int → Int → Int → List Int → List (S73) → Option (Bool)
 | 0, _, _, _, _, _ => none
 | k + 1, x1, x5, x414000, x414001, x414002 => if x5 < (x1.length : Int) then (if 0 ≤ x5 then (if x5 < (x414001.length : Int) then (if (rd x414001 x5) > 0 then (if (rd x1 x5) > 0 then (if (rd x1 x5) = (rd x414001 x5) then (spec_l5Fits.l0 k x1 (wrap64 (x5 + 1)) x414000 x414001 x414002) else (some false)) else (spec_l5Fits.l0 k x1 (wrap64 (x5 + 1)) x414000 x414001 x414002)) else (spec_l5Fits.l0 k x1 (wrap64 (x5 + 1)) x414000 x414001 x414002)) else (none)) else (none)) else (spec_l5Fits.l1 k x1 0 x414000 x414001 x414002)
def spec_l5Fits.l1 : Nat → List Int → Int → Int → List Int → List (S73) → Option (Bool)
 | 0, _, _, _, _, _ => none
 | k + 1, x1, x6, x414000, x414001, x414002 => if x6 < (x414002.length : Int) then (if 0 ≤ x6 then ((spec_RulePossible.f k ((rd_T73 x414002 x6).f0) ((rd_T73 x414002 x6).f1) ((rd_T73 x414002 x6).f2) x1 x414000).bind fun t419 => (if t419 = true then (spec_l5Fits.l1 k x1 (wrap64 (x6 + 1)) x414000 x414001 x414002) else (some false))) else (none)) else ((spec_l2Clash.f k x1 x414000).bind fun t420 => (some (!t420)))
end
def spec_l5Fits.f (k : Nat) (a0_0 : Int) (l0_1 : List Int) (l0_2 : List (S73)) (l1 : List Int) : Option (Bool) := spec_l5Fits.l0 k l1 0 a0_0 l0_1 l0_2
def spec_l5Fits.T4 : Bool × List (List Nat × List Nat) := (true, [([], []), ([0], [0]), ([], []), ([1, 2], [1, 2]), ([3], [3]), ([4], [4]), ([5], [5]), ([6], [6]), ([6], [6]), ([7, 8, 6], [6, 7, 8]), ([9, 6], [6, 9]), ([10, 6], [6, 10]), ([6, 11], [6, 11]), ([12, 6], [12]), ([13], [13]), ([13], [13]), ([14, 15, 13], [13, 14, 15]), ([16, 13], [13, 16]), ([13], [13]), ([18, 13], [13, 18]), ([13], [13]), ([19, 20, 13], [13, 19, 20]), ([21, 13], [13, 21]), ([17, 22, 13], [13, 17, 22]), ([13, 23], [13, 23])])
def spec_l5Fits.B4 : List Nat := [0, 1, 0, 7, 15, 31, 63, 127, 127, 511, 1023, 2047, 4095, 8191, 16383, 16383, 65535, 131071, 16383, 278527, 16383, 1851391, 3948543, 8388607, 16777215]
theorem spec_l5Fits.tab4 : rtab .any (opsOf Try.f90 4) = spec_l5Fits.T4 := by kernel_rfl
theorem spec_l5Fits.bits4 : waitsOk spec_l5Fits.T4.2 spec_l5Fits.B4 = true := by kernel_rfl
def spec_l5Fits.T9 : Bool × List (List Nat × List Nat) := (true, [([], []), ([0], [0]), ([], []), ([1, 2], [1, 2]), ([3], [3]), ([], []), ([], []), ([6], [6]), ([4, 5, 7], [4, 5, 7]), ([8], [8])])
def spec_l5Fits.B9 : List Nat := [0, 1, 0, 7, 15, 0, 0, 64, 255, 511]
theorem spec_l5Fits.tab9 : rtab .any (opsOf Try.f90 9) = spec_l5Fits.T9 := by kernel_rfl
theorem spec_l5Fits.bits9 : waitsOk spec_l5Fits.T9.2 spec_l5Fits.B9 = true := by kernel_rfl
set_option maxHeartbeats 8000000 in
set_option maxRecDepth 100000 in
theorem spec_l5Fits.calls (k : Nat) (a0_0 : Int) (A0_1 : Option Addr) (c0_1 : Nat) (l0_1 : List Int) (A0_2 : Option Addr) (c0_2 : Nat) (l0_2 : List (S73)) (A1 : Option Addr) (c1 : Nat) (l1 : List Int) (r : Bool) (w : World) (hr0_1 : Kd.C (Kd.int .i64) w A0_1 l0_1.length l0_1) (hc0_1 : l0_1.length ≤ c0_1) (hr0_2 : Kd.C k73 w A0_2 l0_2.length l0_2) (hc0_2 : l0_2.length ≤ c0_2) (hr1 : Kd.C (Kd.int .i64) w A1 l1.length l1) (hc1 : l1.length ≤ c1) (h : spec_l5Fits.f k a0_0 l0_1 l0_2 l1 = some r) :
  Calls Try.prog 90 #[.agg #[.int .i64 a0_0, .slice A0_1 l0_1.length c0_1, .slice A0_2 l0_2.length c0_2], .slice A1 l1.length c1] w fun e w' => e = .returned (.bool r) ∧ Below w.heap.size w w' := by
 have hu37 := Try.underlying37
 have hu73 := Try.underlying73
 have HR0_1 := yam hr0_1
 have HC0_1 := yam hc0_1
 clear hr0_1 hc0_1
 have HR0_2 := yam hr0_2
 have HC0_2 := yam hc0_2
 clear hr0_2 hc0_2
 have HR1 := yam hr1
 have HC1 := yam hc1
 clear hr1 hc1
 have HB := yam (Below.refl w.heap.size w)
 have H : (spec_l5Fits.l0 k l1 0 a0_0 l0_1 l0_2) = some r := h
 clear h
 have H' := yam H
 clear H
 go_enter Try.func90, Try.ntmps90
 go_wp2_with (first | ((with_reducible refine gate_dst (N := 2) rfl ?_); refine box_event ?hg (N := 2) ?hd (cs := #[.int .i64 a0_0, .slice A0_1 l0_1.length c0_1, .slice A0_2 l0_2.length c0_2]) (t := 37) ?hr ?_; (case hd => rfl); (case hg => rfl); (case hr => first | (go_simp; done) | (go_simp; rfl)); intro gb413 hg w3 hbox hb; have n0_ := yam (below_step (yez HB.out) hb); have n1_ := yam (hbox); have n2_ := yam ((by rw [hg]; exact (below_size (yez HB.out)) : w.heap.size ≤ gb413)); have n3_ := n2_; clear HB; have HB := n0_; have BK413 := n1_; have GW413 := n2_; have GE413 := n3_; clear n0_ n1_ n2_ n3_; clear hb hbox hg))
 go_loopg [5] k (fun kq v5 w' => ∃ (x5_1 : Int), v5 = .int .i64 x5_1 ∧ Aside0 (spec_l5Fits.l0 kq l1 x5_1 a0_0 l0_1 l0_2 = some r) ∧ Aside0 (kq ≤ k) ∧ Aside0 (w'.heap[gb413]? = some (.cells #[.int .i64 a0_0, (.slice A0_1 l0_1.length c0_1), (.slice A0_2 l0_2.length c0_2)] 37 (0, 0))) ∧ Aside0 (Below w.heap.size w w'))
 case atStart => exact ⟨(0), (by first | rfl | (simp; done) | (simp [*]; done)), H', ⟨Nat.le_refl _⟩, ⟨by (with_reducible repeat (first | refine ybn ?_ _ | refine ybd ?_ | refine yba ?_ _)); exact BK413.out⟩, ⟨by repeat (first | (with_reducible first | exact HB.out | apply yea | apply yen | apply yed | refine below_set ?_ GE413.out) | exact HB.out)⟩⟩
 case round =>
  clear H'
  try clear c1
  try clear p2
  obtain ⟨x5_1, rfl, HA, HK1, BK413, HB⟩ := hrel
  cases gk with
  | zero => exact absurd HA.out (by simp [spec_l5Fits.l0])
  | succ k1 =>
   have H := HA.out
   clear HA
   simp only [spec_l5Fits.l0] at H
   by_cases c4 : x5_1 < (l1.length : Int)
   rotate_left
   ·rw [if_neg c4] at H
    have c4b0 : decide (x5_1 < (l1.length : Int)) = false := decide_eq_false c4
    clear c4
    have H' := yam H
    clear H
    go_wp2
    go_loopg [6] k1 (fun kq v6 w' => ∃ (x6_2 : Int), v6 = .int .i64 x6_2 ∧ Aside0 (spec_l5Fits.l1 kq l1 x6_2 a0_0 l0_1 l0_2 = some r) ∧ Aside0 (kq ≤ k1) ∧ Aside0 (w'.heap[gb413]? = some (.cells #[.int .i64 a0_0, (.slice A0_1 l0_1.length c0_1), (.slice A0_2 l0_2.length c0_2)] 37 (0, 0))) ∧ Aside0 (Below w.heap.size w w'))
    case atStart => exact ⟨(0), (by first | rfl | (simp; done) | (simp [*]; done)), H', ⟨Nat.le_refl _⟩, ⟨by (with_reducible repeat (first | refine ybn ?_ _ | refine ybd ?_ | refine yba ?_ _)); exact BK413.out⟩, ⟨by repeat (first | (with_reducible first | exact HB.out | apply yea | apply yen | apply yed | refine below_set ?_ GE413.out) | exact HB.out)⟩⟩
    case round =>
     clear H'
     try clear p2
     try clear c4
     try clear c4b0
     try clear p4
     try clear q4
     try clear hx4
     try clear c5
     try clear c6
     try clear p6
     try clear c7
     try clear c7b0
     try clear c8
     try clear c8b0
     try clear hx414_0
     try clear hx415_0
     try clear hx416_0
     try clear hx417_0
     try clear p414
     try clear p415
     try clear p416
     try clear p417
     try clear q414
     try clear q415
     try clear q416
     try clear q417
     obtain ⟨x6_2, rfl, HA, HK2, BK413, HB⟩ := hrel
     cases gk with
     | zero => exact absurd HA.out (by simp [spec_l5Fits.l1])
     | succ k2 =>
      have H := HA.out
      clear HA
      simp only [spec_l5Fits.l1] at H
      by_cases c14 : x6_2 < (l0_2.length : Int)
      rotate_left
      ·rw [if_neg c14] at H
       have c14b0 : decide (x6_2 < (l0_2.length : Int)) = false := decide_eq_false c14
       clear c14
       replace H := Option.bind_eq_some_iff.mp H
       obtain ⟨t420, A240, H⟩ := H
       try dsimp only at H
       have A24 := yam A240
       clear A240
       obtain rfl := Option.some.inj H
       obtain ⟨hcz25_0, hcz25_1, hcz25_2, hfz25_0, hfz25_1, hfz25_2⟩ := ybc BK413.out
       go_wp2_with (first | ((with_reducible refine gate_callee (f := 71) rfl ?_); refine goesL_ (some 58) rfl rfl Try.func71 (by kernel_rfl) rfl #[.slice A1 l1.length c1, .int .i64 a0_0] rfl (by (try simp only [List.map_toArray, List.map_cons, List.map_nil]); first | done | rfl | (simp only [List.length_drop, List.length_take]; rfl)) ?_; (with_reducible refine (spec_l2Clash.calls k2 _ _ l1 a0_0 t420 _ ?side1 ?side2 A24.out).mono ?_); (case side1 => exact Kd.Cz ((Kd.C_below HR1.out HB.out))); (case side2 => exact HC1.out); rintro e w26 ⟨rfl, hb⟩; refine ⟨_, rfl, ?_⟩; have n0_ := yam (blk_below (g := gb413) (o := .cells #[.int .i64 a0_0, .slice A0_1 l0_1.length c0_1, .slice A0_2 l0_2.length c0_2] 37 (0, 0)) (ybz BK413.out) hb); have n1_ := yam (below_step (by repeat (first | (with_reducible first | exact HB.out | apply yea | apply yen | apply yed | refine below_set ?_ GE413.out) | exact HB.out)) hb); clear BK413; clear HB; have BK413 := n0_; have HB := n1_; clear n0_ n1_; (try clear hb); (try clear hb2); (try clear hk); (try clear hi)))
       go_ret
       exact ⟨by first | rfl | (simp [errW_none, errW_some] <;> rfl) | (simp [*, errW_none, errW_some] <;> rfl), by repeat (first | (with_reducible first | exact HB.out | apply yea | apply yen | apply yed | refine below_set ?_ GE413.out) | exact HB.out)⟩

      rw [if_pos c14] at H
      have c14b0 : decide (x6_2 < (l0_2.length : Int)) = true := decide_eq_true c14
      clear c14
      by_cases c15 : 0 ≤ x6_2
      rotate_left
      ·rw [if_neg c15] at H
       exact absurd H (by simp)
      rw [if_pos c15] at H
      have c15b0 : decide (0 ≤ x6_2) = true := decide_eq_true c15
      clear c15
      replace H := Option.bind_eq_some_iff.mp H
      obtain ⟨t419, A160, H⟩ := H
      try dsimp only at H
      have A16 := yam A160
      clear A160
      by_cases c17 : t419 = true
      rotate_left
      ·replace c17 := Bool.eq_false_iff.mpr c17
       subst c17
       have H1 : (some false) = some r := by rw [if_neg (show ¬ (false = true) by decide)] at H; exact H
       clear H
       have H := H1
       clear H1
       obtain rfl := Option.some.inj H
       obtain ⟨hcz21_0, hcz21_1, hcz21_2, hfz21_0, hfz21_1, hfz21_2⟩ := ybc BK413.out
       try go_wp2
       have n0_ := yam (ybd BK413.out)
       have n1_ := yam (yed HB.out)
       clear BK413
       clear HB
       have BK413 := n0_
       have HB := n1_
       clear n0_ n1_
       have p418 : 0 ≤ (x6_2 : Int) := of_decide_eq_true (by first | (with_reducible assumption) | assumption)
       have q418 : x6_2 < (l0_2.length : Int) := of_decide_eq_true (by first | (with_reducible assumption) | assumption)
       obtain ⟨ad418, A418_1, c418_1, e418, hx418_0, hx418_1, hx418_2, hl418_1, hi418_1⟩ := at_T73 HR0_2.out x6_2 p418 q418
       have hw418_2 := hx418_2
       have hw418_1 := hx418_1
       have hw418_0 := hx418_0
       cases e418
       replace hx418_0 := (HB.out.cell (World.block_lt_of_cell? w _ hx418_0)).trans hx418_0
       replace hx418_1 := (HB.out.cell (World.block_lt_of_cell? w _ hx418_1)).trans hx418_1
       replace hx418_2 := (HB.out.cell (World.block_lt_of_cell? w _ hx418_2)).trans hx418_2
       have HR418_1 := yam hi418_1
       have HC418_1 := yam hl418_1
       clear hi418_1 hl418_1
       replace p418 := eq_true p418
       replace q418 := eq_true q418
       refine start_ (n := 10) (S := fun w' => w'.cell? ⟨gb413, 0, none⟩ = some (.int .i64 a0_0) ∧ w'.cell? ⟨gb413, 1, none⟩ = some (.slice A0_1 l0_1.length c0_1) ∧ w'.cell? ⟨gb413, 2, none⟩ = some (.slice (some ad418) l0_2.length c0_2) ∧ w'.cell? (ad418.add ((x6_2).toNat * 3)) = some (.int .i64 ((rd_T73 l0_2 x6_2).f0)) ∧ w'.cell? ⟨(ad418.add ((x6_2).toNat * 3)).block, (ad418.add ((x6_2).toNat * 3)).off + 1, none⟩ = some (.slice A418_1 ((rd_T73 l0_2 x6_2).f1).length c418_1) ∧ w'.cell? ⟨(ad418.add ((x6_2).toNat * 3)).block, (ad418.add ((x6_2).toNat * 3)).off + 2, none⟩ = some (.int .i64 ((rd_T73 l0_2 x6_2).f2))) (ds := []) #[false, false, false, false, false, false, false, false, false, false] (by kernel_rfl) rfl rfl ⟨(blk_cell BK413.out 0).trans rfl, (blk_cell BK413.out 1).trans rfl, (blk_cell BK413.out 2).trans rfl, ((HB.out.cell (World.block_lt_of_cell? w _ hw418_0)).trans hw418_0), ((HB.out.cell (World.block_lt_of_cell? w _ hw418_1)).trans hw418_1), ((HB.out.cell (World.block_lt_of_cell? w _ hw418_2)).trans hw418_2)⟩ (fun hHeld => ?_); refine with_tabW spec_l5Fits.tab9 spec_l5Fits.bits9 (fun HT_ HW_ => ?_)
       generalize wr.drew = w22 at BK413 HB HR418_1 hx418_0 hx418_1 hx418_2 hHeld ⊢
       refine yvp 0 45 (yvb 10 1) HT_.out ?_
       refine yvp 2 47 (yvb 10 5) HT_.out ?_
       refine yvp 5 50 (yvb 10 37) HT_.out ?_
       refine yvp 6 51 (yvb 10 101) HT_.out ?_
       refine yvt 1 46 (yvb 10 103) HT_.out HW_.out hHeld ?_
       refine yvp 3 48 (yvb 10 111) HT_.out ?_
       refine yvt 4 49 (yvb 10 127) HT_.out HW_.out hHeld ?_
       refine yvt 7 52 (yvb 10 255) HT_.out HW_.out hHeld ?_
       refine one_ (i := 8) (N := some 53) #[true, true, true, true, true, true, true, true, true, false] rfl rfl (one_of HT_.out (by kernel_rfl)) (by decide) (fun K hK => ?_)
       refine goes_ Try.func94 (by kernel_rfl) rfl #[.agg #[.int .i64 ((rd_T73 l0_2 x6_2).f0), .slice A418_1 ((rd_T73 l0_2 x6_2).f1).length c418_1, .int .i64 ((rd_T73 l0_2 x6_2).f2)], .slice A1 l1.length c1, .int .i64 a0_0] (by rfl) rfl rfl (by (try simp only [List.map_toArray, List.map_cons, List.map_nil]); first | done | rfl | (simp only [List.length_drop, List.length_take]; rfl)) ?_
       with_reducible refine (spec_RulePossible.calls k2 ((rd_T73 l0_2 x6_2).f0) _ _ ((rd_T73 l0_2 x6_2).f1) ((rd_T73 l0_2 x6_2).f2) _ _ l1 a0_0 false _ ?side1 ?side2 ?side3 ?side4 A16.out).mono ?_
       (case side1 => exact Kd.Cz ((Kd.C_below HR418_1.out HB.out)))
       (case side2 => exact HC418_1.out)
       (case side3 => exact Kd.Cz ((Kd.C_below HR1.out HB.out)))
       (case side4 => exact HC1.out)
       rintro e w23 ⟨rfl, hb⟩
       refine ⟨_, rfl, ?_⟩
       have n0_ := yam (blk_below (g := gb413) (o := .cells #[.int .i64 a0_0, .slice A0_1 l0_1.length c0_1, .slice (some ad418) l0_2.length c0_2] 37 (0, 0)) (ybz BK413.out) hb)
       have n1_ := yam (below_step (by repeat (first | (with_reducible first | exact HB.out | apply yea | apply yen | apply yed | refine below_set ?_ GE413.out) | exact HB.out)) hb)
       clear BK413
       clear HB
       have BK413 := n0_
       have HB := n1_
       clear n0_ n1_
       (try clear hb)
       (try clear hb2)
       (try clear hk)
       (try clear hi)
       refine hK.out _ _ ⟨(blk_cell BK413.out 0).trans rfl, (blk_cell BK413.out 1).trans rfl, (blk_cell BK413.out 2).trans rfl, ((HB.out.cell (World.block_lt_of_cell? w _ hw418_0)).trans hw418_0), ((HB.out.cell (World.block_lt_of_cell? w _ hw418_1)).trans hw418_1), ((HB.out.cell (World.block_lt_of_cell? w _ hw418_2)).trans hw418_2)⟩ (fun hHeld => ?_)
       clear hK K
       refine norm_ (a' := ?_) ?_ ?_
       rotate_left
       ·show Act.put _ (some 53) _ = _
        simp only [Act.put, yps, i64_w, i32_w]
        rfl
       refine yvp 9 54 (yvb 10 1023) HT_.out ?_
       refine done_ (done_of HT_.out (by kernel_rfl)) ?_
       try go_wp2
       go_ret
       exact ⟨by first | rfl | (simp [errW_none, errW_some] <;> rfl) | (simp [*, errW_none, errW_some] <;> rfl), by repeat (first | (with_reducible first | exact HB.out | apply yea | apply yen | apply yed | refine below_set ?_ GE413.out) | exact HB.out)⟩
      subst c17
      have H1 : (spec_l5Fits.l1 k2 l1 (wrap64 (x6_2 + 1)) a0_0 l0_1 l0_2) = some r := by rw [if_pos rfl] at H; exact H
      clear H
      have H := H1
      clear H1
      have H' := yam H
      clear H
      obtain ⟨hcz18_0, hcz18_1, hcz18_2, hfz18_0, hfz18_1, hfz18_2⟩ := ybc BK413.out
      try go_wp2
      have n0_ := yam (ybd BK413.out)
      have n1_ := yam (yed HB.out)
      clear BK413
      clear HB
      have BK413 := n0_
      have HB := n1_
      clear n0_ n1_
      have p418 : 0 ≤ (x6_2 : Int) := of_decide_eq_true (by first | (with_reducible assumption) | assumption)
      have q418 : x6_2 < (l0_2.length : Int) := of_decide_eq_true (by first | (with_reducible assumption) | assumption)
      obtain ⟨ad418, A418_1, c418_1, e418, hx418_0, hx418_1, hx418_2, hl418_1, hi418_1⟩ := at_T73 HR0_2.out x6_2 p418 q418
      have hw418_2 := hx418_2
      have hw418_1 := hx418_1
      have hw418_0 := hx418_0
      cases e418
      replace hx418_0 := (HB.out.cell (World.block_lt_of_cell? w _ hx418_0)).trans hx418_0
      replace hx418_1 := (HB.out.cell (World.block_lt_of_cell? w _ hx418_1)).trans hx418_1
      replace hx418_2 := (HB.out.cell (World.block_lt_of_cell? w _ hx418_2)).trans hx418_2
      have HR418_1 := yam hi418_1
      have HC418_1 := yam hl418_1
      clear hi418_1 hl418_1
      replace p418 := eq_true p418
      replace q418 := eq_true q418
      refine start_ (n := 10) (S := fun w' => w'.cell? ⟨gb413, 0, none⟩ = some (.int .i64 a0_0) ∧ w'.cell? ⟨gb413, 1, none⟩ = some (.slice A0_1 l0_1.length c0_1) ∧ w'.cell? ⟨gb413, 2, none⟩ = some (.slice (some ad418) l0_2.length c0_2) ∧ w'.cell? (ad418.add ((x6_2).toNat * 3)) = some (.int .i64 ((rd_T73 l0_2 x6_2).f0)) ∧ w'.cell? ⟨(ad418.add ((x6_2).toNat * 3)).block, (ad418.add ((x6_2).toNat * 3)).off + 1, none⟩ = some (.slice A418_1 ((rd_T73 l0_2 x6_2).f1).length c418_1) ∧ w'.cell? ⟨(ad418.add ((x6_2).toNat * 3)).block, (ad418.add ((x6_2).toNat * 3)).off + 2, none⟩ = some (.int .i64 ((rd_T73 l0_2 x6_2).f2))) (ds := []) #[false, false, false, false, false, false, false, false, false, false] (by kernel_rfl) rfl rfl ⟨(blk_cell BK413.out 0).trans rfl, (blk_cell BK413.out 1).trans rfl, (blk_cell BK413.out 2).trans rfl, ((HB.out.cell (World.block_lt_of_cell? w _ hw418_0)).trans hw418_0), ((HB.out.cell (World.block_lt_of_cell? w _ hw418_1)).trans hw418_1), ((HB.out.cell (World.block_lt_of_cell? w _ hw418_2)).trans hw418_2)⟩ (fun hHeld => ?_); refine with_tabW spec_l5Fits.tab9 spec_l5Fits.bits9 (fun HT_ HW_ => ?_)
      generalize wr.drew = w19 at BK413 HB HR418_1 hx418_0 hx418_1 hx418_2 hHeld ⊢
      refine yvp 0 45 (yvb 10 1) HT_.out ?_
      refine yvp 2 47 (yvb 10 5) HT_.out ?_
      refine yvp 5 50 (yvb 10 37) HT_.out ?_
      refine yvp 6 51 (yvb 10 101) HT_.out ?_
      refine yvt 1 46 (yvb 10 103) HT_.out HW_.out hHeld ?_
      refine yvp 3 48 (yvb 10 111) HT_.out ?_
      refine yvt 4 49 (yvb 10 127) HT_.out HW_.out hHeld ?_
      refine yvt 7 52 (yvb 10 255) HT_.out HW_.out hHeld ?_
      refine one_ (i := 8) (N := some 53) #[true, true, true, true, true, true, true, true, true, false] rfl rfl (one_of HT_.out (by kernel_rfl)) (by decide) (fun K hK => ?_)
      refine goes_ Try.func94 (by kernel_rfl) rfl #[.agg #[.int .i64 ((rd_T73 l0_2 x6_2).f0), .slice A418_1 ((rd_T73 l0_2 x6_2).f1).length c418_1, .int .i64 ((rd_T73 l0_2 x6_2).f2)], .slice A1 l1.length c1, .int .i64 a0_0] (by rfl) rfl rfl (by (try simp only [List.map_toArray, List.map_cons, List.map_nil]); first | done | rfl | (simp only [List.length_drop, List.length_take]; rfl)) ?_
      with_reducible refine (spec_RulePossible.calls k2 ((rd_T73 l0_2 x6_2).f0) _ _ ((rd_T73 l0_2 x6_2).f1) ((rd_T73 l0_2 x6_2).f2) _ _ l1 a0_0 true _ ?side1 ?side2 ?side3 ?side4 A16.out).mono ?_
      (case side1 => exact Kd.Cz ((Kd.C_below HR418_1.out HB.out)))
      (case side2 => exact HC418_1.out)
      (case side3 => exact Kd.Cz ((Kd.C_below HR1.out HB.out)))
      (case side4 => exact HC1.out)
      rintro e w20 ⟨rfl, hb⟩
      refine ⟨_, rfl, ?_⟩
      have n0_ := yam (blk_below (g := gb413) (o := .cells #[.int .i64 a0_0, .slice A0_1 l0_1.length c0_1, .slice (some ad418) l0_2.length c0_2] 37 (0, 0)) (ybz BK413.out) hb)
      have n1_ := yam (below_step (by repeat (first | (with_reducible first | exact HB.out | apply yea | apply yen | apply yed | refine below_set ?_ GE413.out) | exact HB.out)) hb)
      clear BK413
      clear HB
      have BK413 := n0_
      have HB := n1_
      clear n0_ n1_
      (try clear hb)
      (try clear hb2)
      (try clear hk)
      (try clear hi)
      refine hK.out _ _ ⟨(blk_cell BK413.out 0).trans rfl, (blk_cell BK413.out 1).trans rfl, (blk_cell BK413.out 2).trans rfl, ((HB.out.cell (World.block_lt_of_cell? w _ hw418_0)).trans hw418_0), ((HB.out.cell (World.block_lt_of_cell? w _ hw418_1)).trans hw418_1), ((HB.out.cell (World.block_lt_of_cell? w _ hw418_2)).trans hw418_2)⟩ (fun hHeld => ?_)
      clear hK K
      refine norm_ (a' := ?_) ?_ ?_
      rotate_left
      ·show Act.put _ (some 53) _ = _
       simp only [Act.put, yps, i64_w, i32_w]
       rfl
      refine yvp 9 54 (yvb 10 1023) HT_.out ?_
      refine done_ (done_of HT_.out (by kernel_rfl)) ?_
      try go_wp2
      go_roundg k2
      case measure => have := HK1.out; have := HK2.out; omega
      case rel => exact ⟨(wrap64 (x6_2 + 1)), (by first | rfl | (simp; done) | (simp [*]; done)), H', ⟨by have := HK1.out; have := HK2.out; omega⟩, ⟨by (with_reducible repeat (first | refine ybn ?_ _ | refine ybd ?_ | refine yba ?_ _)); exact BK413.out⟩, ⟨by repeat (first | (with_reducible first | exact HB.out | apply yea | apply yen | apply yed | refine below_set ?_ GE413.out) | exact HB.out)⟩⟩
   rw [if_pos c4] at H
   have c4b0 : decide (x5_1 < (l1.length : Int)) = true := decide_eq_true c4
   clear c4
   by_cases c5 : 0 ≤ x5_1
   rotate_left
   ·rw [if_neg c5] at H
    exact absurd H (by simp)
   rw [if_pos c5] at H
   have c5b0 : decide (0 ≤ x5_1) = true := decide_eq_true c5
   clear c5
   by_cases c6 : x5_1 < (l0_1.length : Int)
   rotate_left
   ·rw [if_neg c6] at H
    exact absurd H (by simp)
   rw [if_pos c6] at H
   have c6b0 : decide (x5_1 < (l0_1.length : Int)) = true := decide_eq_true c6
   clear c6
   by_cases c7 : (rd l0_1 x5_1) > 0
   rotate_left
   ·rw [if_neg c7] at H
    have c7b0 : decide (0 < (rd l0_1 x5_1)) = false := decide_eq_false c7
    clear c7
    have H' := yam H
    clear H
    try go_wp2
    have n0_ := yam (ybd BK413.out)
    have n1_ := yam (yed HB.out)
    clear BK413
    clear HB
    have BK413 := n0_
    have HB := n1_
    clear n0_ n1_
    have p414 : 0 ≤ (x5_1 : Int) := of_decide_eq_true (by first | (with_reducible assumption) | assumption)
    have q414 : x5_1 < (l0_1.length : Int) := of_decide_eq_true (by first | (with_reducible assumption) | assumption)
    obtain ⟨ad414, e414, hx414_0⟩ := Kd.at_int HR0_1.out x5_1 p414 q414
    have hw414_0 := hx414_0
    cases e414
    replace hx414_0 := (HB.out.cell (World.block_lt_of_cell? w _ hx414_0)).trans hx414_0
    replace p414 := eq_true p414
    replace q414 := eq_true q414
    refine start_ (n := 25) (S := fun w' => w'.cell? ⟨gb413, 0, none⟩ = some (.int .i64 a0_0) ∧ w'.cell? ⟨gb413, 1, none⟩ = some (.slice (some ad414) l0_1.length c0_1) ∧ w'.cell? ⟨gb413, 2, none⟩ = some (.slice A0_2 l0_2.length c0_2) ∧ w'.cell? (ad414.add (x5_1).toNat) = some (.int .i64 (rd l0_1 x5_1))) (ds := []) #[false, false, false, false, false, false, false, false, false, false, false, false, false, false, false, false, false, false, false, false, false, false, false, false, false] (by kernel_rfl) rfl rfl ⟨(blk_cell BK413.out 0).trans rfl, (blk_cell BK413.out 1).trans rfl, (blk_cell BK413.out 2).trans rfl, ((HB.out.cell (World.block_lt_of_cell? w _ hw414_0)).trans hw414_0)⟩ (fun hHeld => ?_); refine with_tabW spec_l5Fits.tab4 spec_l5Fits.bits4 (fun HT_ HW_ => ?_)
    generalize wr.drew = w13 at BK413 HB hx414_0 hHeld ⊢
    refine yvp 0 13 (yvb 25 1) HT_.out ?_
    refine yvp 2 15 (yvb 25 5) HT_.out ?_
    refine yvt 1 14 (yvb 25 7) HT_.out HW_.out hHeld ?_
    refine yvp 3 16 (yvb 25 15) HT_.out ?_
    refine yvt 4 17 (yvb 25 31) HT_.out HW_.out hHeld ?_
    refine yvp 5 18 (yvb 25 63) HT_.out ?_
    refine yvp 6 19 (yvb 25 127) HT_.out ?_
    refine yvu 7 20 (yvb 25 255) HT_.out ?_
    refine yvu 8 21 (yvb 25 511) HT_.out ?_
    refine yvu 9 22 (yvb 25 1023) HT_.out ?_
    refine yvu 10 23 (yvb 25 2047) HT_.out ?_
    refine yvu 11 24 (yvb 25 4095) HT_.out ?_
    refine yvp 12 25 (yvb 25 8191) HT_.out ?_
    refine yvp 13 26 (yvb 25 16383) HT_.out ?_
    refine yvu 14 27 (yvb 25 32767) HT_.out ?_
    refine yvu 15 28 (yvb 25 65535) HT_.out ?_
    refine yvu 16 29 (yvb 25 131071) HT_.out ?_
    refine yvu 17 30 (yvb 25 262143) HT_.out ?_
    refine yvu 18 31 (yvb 25 524287) HT_.out ?_
    refine yvu 19 32 (yvb 25 1048575) HT_.out ?_
    refine yvu 20 33 (yvb 25 2097151) HT_.out ?_
    refine yvu 21 34 (yvb 25 4194303) HT_.out ?_
    refine yvu 22 35 (yvb 25 8388607) HT_.out ?_
    refine yvu 23 36 (yvb 25 16777215) HT_.out ?_
    refine yvp 24 37 (yvb 25 33554431) HT_.out ?_
    refine done_ (done_of HT_.out (by kernel_rfl)) ?_
    try go_wp2
    go_roundg k1
    case measure => have := HK1.out; omega
    case rel => exact ⟨(wrap64 (x5_1 + 1)), (by first | rfl | (simp; done) | (simp [*]; done)), H', ⟨by have := HK1.out; omega⟩, ⟨by (with_reducible repeat (first | refine ybn ?_ _ | refine ybd ?_ | refine yba ?_ _)); exact BK413.out⟩, ⟨by repeat (first | (with_reducible first | exact HB.out | apply yea | apply yen | apply yed | refine below_set ?_ GE413.out) | exact HB.out)⟩⟩
   rw [if_pos c7] at H
   have c7b0 : decide (0 < (rd l0_1 x5_1)) = true := decide_eq_true c7
   clear c7
   by_cases c8 : (rd l1 x5_1) > 0
   rotate_left
   ·rw [if_neg c8] at H
    have c8b0 : decide (0 < (rd l1 x5_1)) = false := decide_eq_false c8
    clear c8
    have H' := yam H
    clear H
    try go_wp2
    have n0_ := yam (ybd BK413.out)
    have n1_ := yam (yed HB.out)
    clear BK413
    clear HB
    have BK413 := n0_
    have HB := n1_
    clear n0_ n1_
    have p414 : 0 ≤ (x5_1 : Int) := of_decide_eq_true (by first | (with_reducible assumption) | assumption)
    have q414 : x5_1 < (l0_1.length : Int) := of_decide_eq_true (by first | (with_reducible assumption) | assumption)
    obtain ⟨ad414, e414, hx414_0⟩ := Kd.at_int HR0_1.out x5_1 p414 q414
    have hw414_0 := hx414_0
    cases e414
    replace hx414_0 := (HB.out.cell (World.block_lt_of_cell? w _ hx414_0)).trans hx414_0
    replace p414 := eq_true p414
    replace q414 := eq_true q414
    have p415 : 0 ≤ (x5_1 : Int) := of_decide_eq_true (by first | (with_reducible assumption) | assumption)
    have q415 : x5_1 < (l1.length : Int) := of_decide_eq_true (by first | (with_reducible assumption) | assumption)
    obtain ⟨ad415, e415, hx415_0⟩ := Kd.at_int HR1.out x5_1 p415 q415
    have hw415_0 := hx415_0
    cases e415
    replace hx415_0 := (HB.out.cell (World.block_lt_of_cell? w _ hx415_0)).trans hx415_0
    replace p415 := eq_true p415
    replace q415 := eq_true q415
    refine start_ (n := 25) (S := fun w' => w'.cell? ⟨gb413, 0, none⟩ = some (.int .i64 a0_0) ∧ w'.cell? ⟨gb413, 1, none⟩ = some (.slice (some ad414) l0_1.length c0_1) ∧ w'.cell? ⟨gb413, 2, none⟩ = some (.slice A0_2 l0_2.length c0_2) ∧ w'.cell? (ad414.add (x5_1).toNat) = some (.int .i64 (rd l0_1 x5_1)) ∧ w'.cell? (ad415.add (x5_1).toNat) = some (.int .i64 (rd l1 x5_1))) (ds := []) #[false, false, false, false, false, false, false, false, false, false, false, false, false, false, false, false, false, false, false, false, false, false, false, false, false] (by kernel_rfl) rfl rfl ⟨(blk_cell BK413.out 0).trans rfl, (blk_cell BK413.out 1).trans rfl, (blk_cell BK413.out 2).trans rfl, ((HB.out.cell (World.block_lt_of_cell? w _ hw414_0)).trans hw414_0), ((HB.out.cell (World.block_lt_of_cell? w _ hw415_0)).trans hw415_0)⟩ (fun hHeld => ?_); refine with_tabW spec_l5Fits.tab4 spec_l5Fits.bits4 (fun HT_ HW_ => ?_)
    generalize wr.drew = w12 at BK413 HB hx414_0 hx415_0 hHeld ⊢
    refine yvp 0 13 (yvb 25 1) HT_.out ?_
    refine yvp 2 15 (yvb 25 5) HT_.out ?_
    refine yvt 1 14 (yvb 25 7) HT_.out HW_.out hHeld ?_
    refine yvp 3 16 (yvb 25 15) HT_.out ?_
    refine yvt 4 17 (yvb 25 31) HT_.out HW_.out hHeld ?_
    refine yvp 5 18 (yvb 25 63) HT_.out ?_
    refine yvp 6 19 (yvb 25 127) HT_.out ?_
    refine yvp 7 20 (yvb 25 255) HT_.out ?_
    refine yvp 8 21 (yvb 25 511) HT_.out ?_
    refine yvp 9 22 (yvb 25 1023) HT_.out ?_
    refine yvt 10 23 (yvb 25 2047) HT_.out HW_.out hHeld ?_
    refine yvp 11 24 (yvb 25 4095) HT_.out ?_
    refine yvp 12 25 (yvb 25 8191) HT_.out ?_
    refine yvp 13 26 (yvb 25 16383) HT_.out ?_
    refine yvu 14 27 (yvb 25 32767) HT_.out ?_
    refine yvu 15 28 (yvb 25 65535) HT_.out ?_
    refine yvu 16 29 (yvb 25 131071) HT_.out ?_
    refine yvu 17 30 (yvb 25 262143) HT_.out ?_
    refine yvu 18 31 (yvb 25 524287) HT_.out ?_
    refine yvu 19 32 (yvb 25 1048575) HT_.out ?_
    refine yvu 20 33 (yvb 25 2097151) HT_.out ?_
    refine yvu 21 34 (yvb 25 4194303) HT_.out ?_
    refine yvu 22 35 (yvb 25 8388607) HT_.out ?_
    refine yvu 23 36 (yvb 25 16777215) HT_.out ?_
    refine yvp 24 37 (yvb 25 33554431) HT_.out ?_
    refine done_ (done_of HT_.out (by kernel_rfl)) ?_
    try go_wp2
    go_roundg k1
    case measure => have := HK1.out; omega
    case rel => exact ⟨(wrap64 (x5_1 + 1)), (by first | rfl | (simp; done) | (simp [*]; done)), H', ⟨by have := HK1.out; omega⟩, ⟨by (with_reducible repeat (first | refine ybn ?_ _ | refine ybd ?_ | refine yba ?_ _)); exact BK413.out⟩, ⟨by repeat (first | (with_reducible first | exact HB.out | apply yea | apply yen | apply yed | refine below_set ?_ GE413.out) | exact HB.out)⟩⟩
   rw [if_pos c8] at H
   have c8b0 : decide (0 < (rd l1 x5_1)) = true := decide_eq_true c8
   clear c8
   by_cases c9 : (rd l1 x5_1) = (rd l0_1 x5_1)
   rotate_left
   ·rw [if_neg c9] at H
    have c9b0 : ((rd l1 x5_1) == (rd l0_1 x5_1)) = false := beq_eq_false_iff_ne.mpr c9
    have c9b1 : ((rd l1 x5_1) != (rd l0_1 x5_1)) = true := bne_iff_ne.mpr c9
    obtain rfl := Option.some.inj H
    try go_wp2
    have n0_ := yam (ybd BK413.out)
    have n1_ := yam (yed HB.out)
    clear BK413
    clear HB
    have BK413 := n0_
    have HB := n1_
    clear n0_ n1_
    have p414 : 0 ≤ (x5_1 : Int) := of_decide_eq_true (by first | (with_reducible assumption) | assumption)
    have q414 : x5_1 < (l0_1.length : Int) := of_decide_eq_true (by first | (with_reducible assumption) | assumption)
    obtain ⟨ad414, e414, hx414_0⟩ := Kd.at_int HR0_1.out x5_1 p414 q414
    have hw414_0 := hx414_0
    cases e414
    replace hx414_0 := (HB.out.cell (World.block_lt_of_cell? w _ hx414_0)).trans hx414_0
    replace p414 := eq_true p414
    replace q414 := eq_true q414
    have p415 : 0 ≤ (x5_1 : Int) := of_decide_eq_true (by first | (with_reducible assumption) | assumption)
    have q415 : x5_1 < (l1.length : Int) := of_decide_eq_true (by first | (with_reducible assumption) | assumption)
    obtain ⟨ad415, e415, hx415_0⟩ := Kd.at_int HR1.out x5_1 p415 q415
    have hw415_0 := hx415_0
    cases e415
    replace hx415_0 := (HB.out.cell (World.block_lt_of_cell? w _ hx415_0)).trans hx415_0
    replace p415 := eq_true p415
    replace q415 := eq_true q415
    have p416 : 0 ≤ (x5_1 : Int) := of_decide_eq_true (by first | (with_reducible assumption) | assumption)
    have q416 : x5_1 < (l1.length : Int) := of_decide_eq_true (by first | (with_reducible assumption) | assumption)
    obtain ⟨ad416, e416, hx416_0⟩ := Kd.at_int HR1.out x5_1 p416 q416
    have hw416_0 := hx416_0
    obtain rfl : ad415 = ad416 := (by injection e416)
    replace hx416_0 := (HB.out.cell (World.block_lt_of_cell? w _ hx416_0)).trans hx416_0
    replace p416 := eq_true p416
    replace q416 := eq_true q416
    have p417 : 0 ≤ (x5_1 : Int) := of_decide_eq_true (by first | (with_reducible assumption) | assumption)
    have q417 : x5_1 < (l0_1.length : Int) := of_decide_eq_true (by first | (with_reducible assumption) | assumption)
    obtain ⟨ad417, e417, hx417_0⟩ := Kd.at_int HR0_1.out x5_1 p417 q417
    have hw417_0 := hx417_0
    obtain rfl : ad414 = ad417 := (by injection e417)
    replace hx417_0 := (HB.out.cell (World.block_lt_of_cell? w _ hx417_0)).trans hx417_0
    replace p417 := eq_true p417
    replace q417 := eq_true q417
    refine start_ (n := 25) (S := fun w' => w'.cell? ⟨gb413, 0, none⟩ = some (.int .i64 a0_0) ∧ w'.cell? ⟨gb413, 1, none⟩ = some (.slice (some ad414) l0_1.length c0_1) ∧ w'.cell? ⟨gb413, 2, none⟩ = some (.slice A0_2 l0_2.length c0_2) ∧ w'.cell? (ad414.add (x5_1).toNat) = some (.int .i64 (rd l0_1 x5_1)) ∧ w'.cell? (ad415.add (x5_1).toNat) = some (.int .i64 (rd l1 x5_1)) ∧ w'.cell? (ad415.add (x5_1).toNat) = some (.int .i64 (rd l1 x5_1)) ∧ w'.cell? (ad414.add (x5_1).toNat) = some (.int .i64 (rd l0_1 x5_1))) (ds := []) #[false, false, false, false, false, false, false, false, false, false, false, false, false, false, false, false, false, false, false, false, false, false, false, false, false] (by kernel_rfl) rfl rfl ⟨(blk_cell BK413.out 0).trans rfl, (blk_cell BK413.out 1).trans rfl, (blk_cell BK413.out 2).trans rfl, ((HB.out.cell (World.block_lt_of_cell? w _ hw414_0)).trans hw414_0), ((HB.out.cell (World.block_lt_of_cell? w _ hw415_0)).trans hw415_0), ((HB.out.cell (World.block_lt_of_cell? w _ hw416_0)).trans hw416_0), ((HB.out.cell (World.block_lt_of_cell? w _ hw417_0)).trans hw417_0)⟩ (fun hHeld => ?_); refine with_tabW spec_l5Fits.tab4 spec_l5Fits.bits4 (fun HT_ HW_ => ?_)
    generalize wr.drew = w11 at BK413 HB hx414_0 hx415_0 hx416_0 hx417_0 hHeld ⊢
    refine yvp 0 13 (yvb 25 1) HT_.out ?_
    refine yvp 2 15 (yvb 25 5) HT_.out ?_
    refine yvt 1 14 (yvb 25 7) HT_.out HW_.out hHeld ?_
    refine yvp 3 16 (yvb 25 15) HT_.out ?_
    refine yvt 4 17 (yvb 25 31) HT_.out HW_.out hHeld ?_
    refine yvp 5 18 (yvb 25 63) HT_.out ?_
    refine yvp 6 19 (yvb 25 127) HT_.out ?_
    refine yvp 7 20 (yvb 25 255) HT_.out ?_
    refine yvp 8 21 (yvb 25 511) HT_.out ?_
    refine yvp 9 22 (yvb 25 1023) HT_.out ?_
    refine yvt 10 23 (yvb 25 2047) HT_.out HW_.out hHeld ?_
    refine yvp 11 24 (yvb 25 4095) HT_.out ?_
    refine yvp 12 25 (yvb 25 8191) HT_.out ?_
    refine yvp 13 26 (yvb 25 16383) HT_.out ?_
    refine yvp 14 27 (yvb 25 32767) HT_.out ?_
    refine yvp 15 28 (yvb 25 65535) HT_.out ?_
    refine yvp 16 29 (yvb 25 131071) HT_.out ?_
    refine yvp 18 31 (yvb 25 393215) HT_.out ?_
    refine yvp 20 33 (yvb 25 1441791) HT_.out ?_
    refine yvt 17 30 (yvb 25 1572863) HT_.out HW_.out hHeld ?_
    refine yvt 19 32 (yvb 25 2097151) HT_.out HW_.out hHeld ?_
    refine yvp 21 34 (yvb 25 4194303) HT_.out ?_
    refine yvt 22 35 (yvb 25 8388607) HT_.out HW_.out hHeld ?_
    refine yvp 23 36 (yvb 25 16777215) HT_.out ?_
    refine yvp 24 37 (yvb 25 33554431) HT_.out ?_
    refine done_ (done_of HT_.out (by kernel_rfl)) ?_
    try go_wp2
    go_ret
    exact ⟨by first | rfl | (simp [errW_none, errW_some] <;> rfl) | (simp [*, errW_none, errW_some] <;> rfl), by repeat (first | (with_reducible first | exact HB.out | apply yea | apply yen | apply yed | refine below_set ?_ GE413.out) | exact HB.out)⟩
   rw [if_pos c9] at H
   have c9b0 : ((rd l1 x5_1) == (rd l0_1 x5_1)) = true := beq_iff_eq.mpr c9
   have c9b1 : ((rd l1 x5_1) != (rd l0_1 x5_1)) = false := bne_eq_false_iff_eq.mpr c9
   clear c9
   have H' := yam H
   clear H
   try go_wp2
   have n0_ := yam (ybd BK413.out)
   have n1_ := yam (yed HB.out)
   clear BK413
   clear HB
   have BK413 := n0_
   have HB := n1_
   clear n0_ n1_
   have p414 : 0 ≤ (x5_1 : Int) := of_decide_eq_true (by first | (with_reducible assumption) | assumption)
   have q414 : x5_1 < (l0_1.length : Int) := of_decide_eq_true (by first | (with_reducible assumption) | assumption)
   obtain ⟨ad414, e414, hx414_0⟩ := Kd.at_int HR0_1.out x5_1 p414 q414
   have hw414_0 := hx414_0
   cases e414
   replace hx414_0 := (HB.out.cell (World.block_lt_of_cell? w _ hx414_0)).trans hx414_0
   replace p414 := eq_true p414
   replace q414 := eq_true q414
   have p415 : 0 ≤ (x5_1 : Int) := of_decide_eq_true (by first | (with_reducible assumption) | assumption)
   have q415 : x5_1 < (l1.length : Int) := of_decide_eq_true (by first | (with_reducible assumption) | assumption)
   obtain ⟨ad415, e415, hx415_0⟩ := Kd.at_int HR1.out x5_1 p415 q415
   have hw415_0 := hx415_0
   cases e415
   replace hx415_0 := (HB.out.cell (World.block_lt_of_cell? w _ hx415_0)).trans hx415_0
   replace p415 := eq_true p415
   replace q415 := eq_true q415
   have p416 : 0 ≤ (x5_1 : Int) := of_decide_eq_true (by first | (with_reducible assumption) | assumption)
   have q416 : x5_1 < (l1.length : Int) := of_decide_eq_true (by first | (with_reducible assumption) | assumption)
   obtain ⟨ad416, e416, hx416_0⟩ := Kd.at_int HR1.out x5_1 p416 q416
   have hw416_0 := hx416_0
   obtain rfl : ad415 = ad416 := (by injection e416)
   replace hx416_0 := (HB.out.cell (World.block_lt_of_cell? w _ hx416_0)).trans hx416_0
   replace p416 := eq_true p416
   replace q416 := eq_true q416
   have p417 : 0 ≤ (x5_1 : Int) := of_decide_eq_true (by first | (with_reducible assumption) | assumption)
   have q417 : x5_1 < (l0_1.length : Int) := of_decide_eq_true (by first | (with_reducible assumption) | assumption)
   obtain ⟨ad417, e417, hx417_0⟩ := Kd.at_int HR0_1.out x5_1 p417 q417
   have hw417_0 := hx417_0
   obtain rfl : ad414 = ad417 := (by injection e417)
   replace hx417_0 := (HB.out.cell (World.block_lt_of_cell? w _ hx417_0)).trans hx417_0
   replace p417 := eq_true p417
   replace q417 := eq_true q417
   refine start_ (n := 25) (S := fun w' => w'.cell? ⟨gb413, 0, none⟩ = some (.int .i64 a0_0) ∧ w'.cell? ⟨gb413, 1, none⟩ = some (.slice (some ad414) l0_1.length c0_1) ∧ w'.cell? ⟨gb413, 2, none⟩ = some (.slice A0_2 l0_2.length c0_2) ∧ w'.cell? (ad414.add (x5_1).toNat) = some (.int .i64 (rd l0_1 x5_1)) ∧ w'.cell? (ad415.add (x5_1).toNat) = some (.int .i64 (rd l1 x5_1)) ∧ w'.cell? (ad415.add (x5_1).toNat) = some (.int .i64 (rd l1 x5_1)) ∧ w'.cell? (ad414.add (x5_1).toNat) = some (.int .i64 (rd l0_1 x5_1))) (ds := []) #[false, false, false, false, false, false, false, false, false, false, false, false, false, false, false, false, false, false, false, false, false, false, false, false, false] (by kernel_rfl) rfl rfl ⟨(blk_cell BK413.out 0).trans rfl, (blk_cell BK413.out 1).trans rfl, (blk_cell BK413.out 2).trans rfl, ((HB.out.cell (World.block_lt_of_cell? w _ hw414_0)).trans hw414_0), ((HB.out.cell (World.block_lt_of_cell? w _ hw415_0)).trans hw415_0), ((HB.out.cell (World.block_lt_of_cell? w _ hw416_0)).trans hw416_0), ((HB.out.cell (World.block_lt_of_cell? w _ hw417_0)).trans hw417_0)⟩ (fun hHeld => ?_); refine with_tabW spec_l5Fits.tab4 spec_l5Fits.bits4 (fun HT_ HW_ => ?_)
   generalize wr.drew = w10 at BK413 HB hx414_0 hx415_0 hx416_0 hx417_0 hHeld ⊢
   refine yvp 0 13 (yvb 25 1) HT_.out ?_
   refine yvp 2 15 (yvb 25 5) HT_.out ?_
   refine yvt 1 14 (yvb 25 7) HT_.out HW_.out hHeld ?_
   refine yvp 3 16 (yvb 25 15) HT_.out ?_
   refine yvt 4 17 (yvb 25 31) HT_.out HW_.out hHeld ?_
   refine yvp 5 18 (yvb 25 63) HT_.out ?_
   refine yvp 6 19 (yvb 25 127) HT_.out ?_
   refine yvp 7 20 (yvb 25 255) HT_.out ?_
   refine yvp 8 21 (yvb 25 511) HT_.out ?_
   refine yvp 9 22 (yvb 25 1023) HT_.out ?_
   refine yvt 10 23 (yvb 25 2047) HT_.out HW_.out hHeld ?_
   refine yvp 11 24 (yvb 25 4095) HT_.out ?_
   refine yvp 12 25 (yvb 25 8191) HT_.out ?_
   refine yvp 13 26 (yvb 25 16383) HT_.out ?_
   refine yvp 14 27 (yvb 25 32767) HT_.out ?_
   refine yvp 15 28 (yvb 25 65535) HT_.out ?_
   refine yvp 16 29 (yvb 25 131071) HT_.out ?_
   refine yvp 18 31 (yvb 25 393215) HT_.out ?_
   refine yvp 20 33 (yvb 25 1441791) HT_.out ?_
   refine yvt 17 30 (yvb 25 1572863) HT_.out HW_.out hHeld ?_
   refine yvt 19 32 (yvb 25 2097151) HT_.out HW_.out hHeld ?_
   refine yvp 21 34 (yvb 25 4194303) HT_.out ?_
   refine yvt 22 35 (yvb 25 8388607) HT_.out HW_.out hHeld ?_
   refine yvp 23 36 (yvb 25 16777215) HT_.out ?_
   refine yvp 24 37 (yvb 25 33554431) HT_.out ?_
   refine done_ (done_of HT_.out (by kernel_rfl)) ?_
   try go_wp2
   go_roundg k1
   case measure => have := HK1.out; omega
   case rel => exact ⟨(wrap64 (x5_1 + 1)), (by first | rfl | (simp; done) | (simp [*]; done)), H', ⟨by have := HK1.out; omega⟩, ⟨by (with_reducible repeat (first | refine ybn ?_ _ | refine ybd ?_ | refine yba ?_ _)); exact BK413.out⟩, ⟨by repeat (first | (with_reducible first | exact HB.out | apply yea | apply yen | apply yed | refine below_set ?_ GE413.out) | exact HB.out)⟩⟩
/-! ### spec_PuzzleFits: function 79 -/
def spec_PuzzleFits.f (k : Nat) (a0_0 : Int) (l0_1 : List Int) (l0_2 : List (S73)) (l1 : List Int) : Option (Bool) := (spec_PuzzleValid.f k a0_0 l0_1 l0_2).bind fun t422 => (if t422 = true then ((spec_GridValid.f k l1 a0_0).bind fun t423 => (if t423 = true then ((spec_l5Fits.f k a0_0 l0_1 l0_2 l1).bind fun t424 => (some t424)) else (some false))) else (some false))
set_option maxHeartbeats 8000000 in
set_option maxRecDepth 100000 in
theorem spec_PuzzleFits.calls (k : Nat) (a0_0 : Int) (A0_1 : Option Addr) (c0_1 : Nat) (l0_1 : List Int) (A0_2 : Option Addr) (c0_2 : Nat) (l0_2 : List (S73)) (A1 : Option Addr) (c1 : Nat) (l1 : List Int) (r : Bool) (w : World) (hr0_1 : Kd.C (Kd.int .i64) w A0_1 l0_1.length l0_1) (hc0_1 : l0_1.length ≤ c0_1) (hr0_2 : Kd.C k73 w A0_2 l0_2.length l0_2) (hc0_2 : l0_2.length ≤ c0_2) (hr1 : Kd.C (Kd.int .i64) w A1 l1.length l1) (hc1 : l1.length ≤ c1) (h : spec_PuzzleFits.f k a0_0 l0_1 l0_2 l1 = some r) :
  Calls Try.prog 79 #[.agg #[.int .i64 a0_0, .slice A0_1 l0_1.length c0_1, .slice A0_2 l0_2.length c0_2], .slice A1 l1.length c1] w fun e w' => e = .returned (.bool r) ∧ Below w.heap.size w w' := by
 have hu37 := Try.underlying37
 have HR0_1 := yam hr0_1
 have HC0_1 := yam hc0_1
 clear hr0_1 hc0_1
 have HR0_2 := yam hr0_2
 have HC0_2 := yam hc0_2
 clear hr0_2 hc0_2
 have HR1 := yam hr1
 have HC1 := yam hc1
 clear hr1 hc1
 have HB := yam (Below.refl w.heap.size w)
 have H : ((spec_PuzzleValid.f k a0_0 l0_1 l0_2).bind fun t422 => (if t422 = true then ((spec_GridValid.f k l1 a0_0).bind fun t423 => (if t423 = true then ((spec_l5Fits.f k a0_0 l0_1 l0_2 l1).bind fun t424 => (some t424)) else (some false))) else (some false))) = some r := h
 clear h
 replace H := Option.bind_eq_some_iff.mp H
 obtain ⟨t422, A30, H⟩ := H
 try dsimp only at H
 have A3 := yam A30
 clear A30
 by_cases c4 : t422 = true
 rotate_left
 ·replace c4 := Bool.eq_false_iff.mpr c4
  subst c4
  have H1 : (some false) = some r := by rw [if_neg (show ¬ (false = true) by decide)] at H; exact H
  clear H
  have H := H1
  clear H1
  obtain rfl := Option.some.inj H
  go_enter Try.func79, Try.ntmps79
  go_wp2_with (first | ((with_reducible refine gate_dst (N := 2) rfl ?_); refine box_event ?hg (N := 2) ?hd (cs := #[.int .i64 a0_0, .slice A0_1 l0_1.length c0_1, .slice A0_2 l0_2.length c0_2]) (t := 37) ?hr ?_; (case hd => rfl); (case hg => rfl); (case hr => first | (go_simp; done) | (go_simp; rfl)); intro gb421 hg w17 hbox hb; have n0_ := yam (below_step (yez HB.out) hb); have n1_ := yam (hbox); have n2_ := yam ((by rw [hg]; exact (below_size (yez HB.out)) : w.heap.size ≤ gb421)); have n3_ := n2_; clear HB; have HB := n0_; have BK421 := n1_; have GW421 := n2_; have GE421 := n3_; clear n0_ n1_ n2_ n3_; clear hb hbox hg; obtain ⟨hcz18_0, hcz18_1, hcz18_2, hfz18_0, hfz18_1, hfz18_2⟩ := ybc BK421.out) | ((with_reducible refine gate_callee (f := 62) rfl ?_); refine goesL_ (some 6) rfl rfl Try.func62 (by kernel_rfl) rfl #[.agg #[.int .i64 a0_0, .slice A0_1 l0_1.length c0_1, .slice A0_2 l0_2.length c0_2]] rfl (by (try simp only [List.map_toArray, List.map_cons, List.map_nil]); first | done | rfl | (simp only [List.length_drop, List.length_take]; rfl)) ?_; (with_reducible refine (spec_PuzzleValid.calls k a0_0 _ _ l0_1 _ _ l0_2 false _ ?side1 ?side2 ?side3 ?side4 A3.out).mono ?_); (case side1 => exact Kd.Cz ((Kd.C_below HR0_1.out HB.out))); (case side2 => exact HC0_1.out); (case side3 => exact Kd.Cz ((Kd.C_below HR0_2.out HB.out))); (case side4 => exact HC0_2.out); rintro e w19 ⟨rfl, hb⟩; refine ⟨_, rfl, ?_⟩; have n0_ := yam (blk_below (g := gb421) (o := .cells #[.int .i64 a0_0, .slice A0_1 l0_1.length c0_1, .slice A0_2 l0_2.length c0_2] 37 (0, 0)) (ybz BK421.out) hb); have n1_ := yam (below_step (by repeat (first | (with_reducible first | exact HB.out | apply yea | apply yen | apply yed | refine below_set ?_ GE421.out) | exact HB.out)) hb); clear BK421; clear HB; have BK421 := n0_; have HB := n1_; clear n0_ n1_; (try clear hb); (try clear hb2); (try clear hk); (try clear hi)))
  go_ret
  exact ⟨by first | rfl | (simp [errW_none, errW_some] <;> rfl) | (simp [*, errW_none, errW_some] <;> rfl), by repeat (first | (with_reducible first | exact HB.out | apply yea | apply yen | apply yed | refine below_set ?_ GE421.out) | exact HB.out)⟩

 subst c4
 have H1 : ((spec_GridValid.f k l1 a0_0).bind fun t423 => (if t423 = true then ((spec_l5Fits.f k a0_0 l0_1 l0_2 l1).bind fun t424 => (some t424)) else (some false))) = some r := by rw [if_pos rfl] at H; exact H
 clear H
 have H := H1
 clear H1
 replace H := Option.bind_eq_some_iff.mp H
 obtain ⟨t423, A50, H⟩ := H
 try dsimp only at H
 have A5 := yam A50
 clear A50
 by_cases c6 : t423 = true
 rotate_left
 ·replace c6 := Bool.eq_false_iff.mpr c6
  subst c6
  have H1 : (some false) = some r := by rw [if_neg (show ¬ (false = true) by decide)] at H; exact H
  clear H
  have H := H1
  clear H1
  obtain rfl := Option.some.inj H
  go_enter Try.func79, Try.ntmps79
  go_wp2_with (first | ((with_reducible refine gate_dst (N := 2) rfl ?_); refine box_event ?hg (N := 2) ?hd (cs := #[.int .i64 a0_0, .slice A0_1 l0_1.length c0_1, .slice A0_2 l0_2.length c0_2]) (t := 37) ?hr ?_; (case hd => rfl); (case hg => rfl); (case hr => first | (go_simp; done) | (go_simp; rfl)); intro gb421 hg w13 hbox hb; have n0_ := yam (below_step (yez HB.out) hb); have n1_ := yam (hbox); have n2_ := yam ((by rw [hg]; exact (below_size (yez HB.out)) : w.heap.size ≤ gb421)); have n3_ := n2_; clear HB; have HB := n0_; have BK421 := n1_; have GW421 := n2_; have GE421 := n3_; clear n0_ n1_ n2_ n3_; clear hb hbox hg; obtain ⟨hcz14_0, hcz14_1, hcz14_2, hfz14_0, hfz14_1, hfz14_2⟩ := ybc BK421.out) | ((with_reducible refine gate_callee (f := 62) rfl ?_); refine goesL_ (some 6) rfl rfl Try.func62 (by kernel_rfl) rfl #[.agg #[.int .i64 a0_0, .slice A0_1 l0_1.length c0_1, .slice A0_2 l0_2.length c0_2]] rfl (by (try simp only [List.map_toArray, List.map_cons, List.map_nil]); first | done | rfl | (simp only [List.length_drop, List.length_take]; rfl)) ?_; (with_reducible refine (spec_PuzzleValid.calls k a0_0 _ _ l0_1 _ _ l0_2 true _ ?side1 ?side2 ?side3 ?side4 A3.out).mono ?_); (case side1 => exact Kd.Cz ((Kd.C_below HR0_1.out HB.out))); (case side2 => exact HC0_1.out); (case side3 => exact Kd.Cz ((Kd.C_below HR0_2.out HB.out))); (case side4 => exact HC0_2.out); rintro e w15 ⟨rfl, hb⟩; refine ⟨_, rfl, ?_⟩; have n0_ := yam (blk_below (g := gb421) (o := .cells #[.int .i64 a0_0, .slice A0_1 l0_1.length c0_1, .slice A0_2 l0_2.length c0_2] 37 (0, 0)) (ybz BK421.out) hb); have n1_ := yam (below_step (by repeat (first | (with_reducible first | exact HB.out | apply yea | apply yen | apply yed | refine below_set ?_ GE421.out) | exact HB.out)) hb); clear BK421; clear HB; have BK421 := n0_; have HB := n1_; clear n0_ n1_; (try clear hb); (try clear hb2); (try clear hk); (try clear hi); obtain ⟨hcz16_0, hcz16_1, hcz16_2, hfz16_0, hfz16_1, hfz16_2⟩ := ybc BK421.out) | (go_at_call 84; (with_reducible refine (spec_GridValid.calls k _ _ l1 a0_0 false _ ?side1 ?side2 A5.out).mono ?_); (case side1 => exact Kd.Cz ((Kd.C_below HR1.out HB.out))); (case side2 => exact HC1.out); rintro e w' ⟨rfl, ⟨nd, rfl⟩⟩))
  go_ret
  exact ⟨by first | rfl | (simp [errW_none, errW_some] <;> rfl) | (simp [*, errW_none, errW_some] <;> rfl), by repeat (first | (with_reducible first | exact HB.out | apply yea | apply yen | apply yed | refine below_set ?_ GE421.out) | exact HB.out)⟩
 subst c6
 have H1 : ((spec_l5Fits.f k a0_0 l0_1 l0_2 l1).bind fun t424 => (some t424)) = some r := by rw [if_pos rfl] at H; exact H
 clear H
 have H := H1
 clear H1
 replace H := Option.bind_eq_some_iff.mp H
 obtain ⟨t424, A70, H⟩ := H
 try dsimp only at H
 have A7 := yam A70
 clear A70
 obtain rfl := Option.some.inj H
 go_enter Try.func79, Try.ntmps79
 go_wp2_with (first | ((with_reducible refine gate_dst (N := 2) rfl ?_); refine box_event ?hg (N := 2) ?hd (cs := #[.int .i64 a0_0, .slice A0_1 l0_1.length c0_1, .slice A0_2 l0_2.length c0_2]) (t := 37) ?hr ?_; (case hd => rfl); (case hg => rfl); (case hr => first | (go_simp; done) | (go_simp; rfl)); intro gb421 hg w8 hbox hb; have n0_ := yam (below_step (yez HB.out) hb); have n1_ := yam (hbox); have n2_ := yam ((by rw [hg]; exact (below_size (yez HB.out)) : w.heap.size ≤ gb421)); have n3_ := n2_; clear HB; have HB := n0_; have BK421 := n1_; have GW421 := n2_; have GE421 := n3_; clear n0_ n1_ n2_ n3_; clear hb hbox hg; obtain ⟨hcz9_0, hcz9_1, hcz9_2, hfz9_0, hfz9_1, hfz9_2⟩ := ybc BK421.out) | ((with_reducible refine gate_callee (f := 62) rfl ?_); refine goesL_ (some 6) rfl rfl Try.func62 (by kernel_rfl) rfl #[.agg #[.int .i64 a0_0, .slice A0_1 l0_1.length c0_1, .slice A0_2 l0_2.length c0_2]] rfl (by (try simp only [List.map_toArray, List.map_cons, List.map_nil]); first | done | rfl | (simp only [List.length_drop, List.length_take]; rfl)) ?_; (with_reducible refine (spec_PuzzleValid.calls k a0_0 _ _ l0_1 _ _ l0_2 true _ ?side1 ?side2 ?side3 ?side4 A3.out).mono ?_); (case side1 => exact Kd.Cz ((Kd.C_below HR0_1.out HB.out))); (case side2 => exact HC0_1.out); (case side3 => exact Kd.Cz ((Kd.C_below HR0_2.out HB.out))); (case side4 => exact HC0_2.out); rintro e w10 ⟨rfl, hb⟩; refine ⟨_, rfl, ?_⟩; have n0_ := yam (blk_below (g := gb421) (o := .cells #[.int .i64 a0_0, .slice A0_1 l0_1.length c0_1, .slice A0_2 l0_2.length c0_2] 37 (0, 0)) (ybz BK421.out) hb); have n1_ := yam (below_step (by repeat (first | (with_reducible first | exact HB.out | apply yea | apply yen | apply yed | refine below_set ?_ GE421.out) | exact HB.out)) hb); clear BK421; clear HB; have BK421 := n0_; have HB := n1_; clear n0_ n1_; (try clear hb); (try clear hb2); (try clear hk); (try clear hi); obtain ⟨hcz11_0, hcz11_1, hcz11_2, hfz11_0, hfz11_1, hfz11_2⟩ := ybc BK421.out) | (go_at_call 84; (with_reducible refine (spec_GridValid.calls k _ _ l1 a0_0 true _ ?side1 ?side2 A5.out).mono ?_); (case side1 => exact Kd.Cz ((Kd.C_below HR1.out HB.out))); (case side2 => exact HC1.out); rintro e w' ⟨rfl, ⟨nd, rfl⟩⟩) | (go_at_call 90; (with_reducible refine (spec_l5Fits.calls k a0_0 _ _ l0_1 _ _ l0_2 _ _ l1 t424 _ ?side1 ?side2 ?side3 ?side4 ?side5 ?side6 A7.out).mono ?_); (case side1 => repeat (first | exact (Kd.C_below HR0_1.out (by repeat (first | (with_reducible first | exact HB.out | apply yea | apply yen | apply yed | refine below_set ?_ GE421.out) | exact HB.out))) | (with_reducible refine Kd.C_alloc ?_ _) | (with_reducible refine Kd.C_drewN ?_ _) | (with_reducible refine Kd.C_drew ?_))); (case side2 => exact HC0_1.out); (case side3 => repeat (first | exact (Kd.C_below HR0_2.out (by repeat (first | (with_reducible first | exact HB.out | apply yea | apply yen | apply yed | refine below_set ?_ GE421.out) | exact HB.out))) | (with_reducible refine Kd.C_alloc ?_ _) | (with_reducible refine Kd.C_drewN ?_ _) | (with_reducible refine Kd.C_drew ?_))); (case side4 => exact HC0_2.out); (case side5 => repeat (first | exact (Kd.C_below HR1.out (by repeat (first | (with_reducible first | exact HB.out | apply yea | apply yen | apply yed | refine below_set ?_ GE421.out) | exact HB.out))) | (with_reducible refine Kd.C_alloc ?_ _) | (with_reducible refine Kd.C_drewN ?_ _) | (with_reducible refine Kd.C_drew ?_))); (case side6 => exact HC1.out); rintro e w12 ⟨rfl, hb⟩; have n0_ := yam (blk_below (g := gb421) (o := .cells #[.int .i64 a0_0, .slice A0_1 l0_1.length c0_1, .slice A0_2 l0_2.length c0_2] 37 (0, 0)) (ybz BK421.out) hb); have n1_ := yam (below_step (by repeat (first | (with_reducible first | exact HB.out | apply yea | apply yen | apply yed | refine below_set ?_ GE421.out) | exact HB.out)) hb); clear BK421; clear HB; have BK421 := n0_; have HB := n1_; clear n0_ n1_; (try clear hb); (try clear hb2); (try clear hk); (try clear hi)))
 go_ret
 exact ⟨by first | rfl | (simp [errW_none, errW_some] <;> rfl) | (simp [*, errW_none, errW_some] <;> rfl), by repeat (first | (with_reducible first | exact HB.out | apply yea | apply yen | apply yed | refine below_set ?_ GE421.out) | exact HB.out)⟩
/-! ### spec_l5Search: function 85 -/
/-- The values v, v + 1, .. (n of them) tried for the cell i of a grid. -/
def spec_l5Search.loop (fits : List Int → Option Bool) (f : List Int → List (List Int) → Option (List (List Int))) (g : List Int) (i : Nat) (most : Int) : Nat → Int → List (List Int) → Option (List (List Int))
 | 0, _, out => some out
 | n + 1, v, out => if (out.length : Int) < most then (fits (g.set i v)).bind fun b => (if b = true then (f (g.set i v) out).bind fun o => spec_l5Search.loop fits f g i most n (v + 1) o else spec_l5Search.loop fits f g i most n (v + 1) out) else some out
def spec_l5Search.srch (k : Nat) (s : Int) (l1 : List Int) (l2 : List S73) (most : Int) (N : Nat) : Nat → List Int → List (List Int) → Option (List (List Int))
 | 0, g, out => if out.length ≤ 100000 then some (out ++ [g]) else none
 | d + 1, g, out => if 0 < rd g ((N : Int) - (d + 1 : Nat)) then spec_l5Search.srch k s l1 l2 most N d g out else spec_l5Search.loop (fun g' => spec_l5Fits.f k s l1 l2 g') (spec_l5Search.srch k s l1 l2 most N d) g ((N : Int) - (d + 1 : Nat)).toNat most s.toNat 1 out
theorem below_of_grown {W w1 : World} (hg : W.grownBy w1 none) : Below W.heap.size W w1 := ⟨hg.os, hg.tape, hg.output, hg.size, fun i hi => hg.block i hi (by simp)⟩
theorem below_own {w W W' : World} {row : Option Nat} (h : Below w.heap.size w W) (hg : W.grownBy W' row) (hr : ∀ k, row = some k → w.heap.size ≤ k) : Below w.heap.size w W' := pw_below_grown h row h.size hg hr
/-- The box of the rows that are found, and these rows. -/
def spec_l5Search.OutB (p : Nat) (w0 w : World) (Pt : Nat → Prop) (out : List (List Int)) : Prop := ∃ v, w.heap[p]? = some (.cells #[v] 78 (0, 0)) ∧ Kd.S (Kd.slice 3 (Kd.int .i64)) 22 w w0.heap.size (fun k => ¬ Pt k ∧ k ≠ p) v out
theorem spec_l5Search.OutB.below {p : Nat} {w0 w w' : World} {Pt : Nat → Prop} {out : List (List Int)} (h : spec_l5Search.OutB p w0 w Pt out) (hb : Below w.heap.size w w') : spec_l5Search.OutB p w0 w' Pt out := by
 obtain ⟨v, h1, h2⟩ := h
 exact ⟨v, blk_below h1 hb, Kd.S_below h2 hb⟩
/-- Protected blocks that are new are none of its own. -/
theorem spec_l5Search.OutB.mono {p : Nat} {w0 w : World} {Pt Pt' : Nat → Prop} {out : List (List Int)} (h : spec_l5Search.OutB p w0 w Pt out) (hp : ∀ k, k < w.heap.size → Pt' k → Pt k) : spec_l5Search.OutB p w0 w Pt' out := by
 obtain ⟨v, h1, h2⟩ := h
 exact ⟨v, h1, Kd.S_mono (Kd.S_bound h2) (fun k hk => ⟨fun hq => hk.1.1 (hp k hk.2.2.1 hq), hk.1.2⟩)⟩
/-- A protected block is written. -/
theorem spec_l5Search.OutB.set {p g : Nat} {w0 w : World} {Pt : Nat → Prop} {out : List (List Int)} (h : spec_l5Search.OutB p w0 w Pt out) (hg : Pt g) (hne : p ≠ g) (j : Nat) (u : Value) : spec_l5Search.OutB p w0 (w.setCell ⟨g, j, none⟩ u) Pt out := by
 obtain ⟨v, h1, h2⟩ := h
 exact ⟨v, (Below.heap_setCell w ⟨g, j, none⟩ u p hne).trans h1, Kd.S_far (p := ⟨g, j, none⟩) h2 (fun k hk e => hk.1 (by simp only at e; rw [e]; exact hg)) u⟩
set_option maxHeartbeats 8000000 in
set_option maxRecDepth 100000 in
theorem spec_l5Search.clo (k : Nat) (s : Int) (A1 : Option Addr) (c1 : Nat) (l1 : List Int) (A2 : Option Addr) (c2 : Nat) (l2 : List S73) (most : Int) (N p : Nat) (w0 : World) (hN : N ≤ 100000) (hs4 : s ≤ 1000) (hp0 : w0.heap.size ≤ p) (hc1 : l1.length ≤ c1) (hc2 : l2.length ≤ c2) :
  ∀ (d : Nat) (a : Int) (g : List Int) (A : Option Addr) (c : Nat) (out out' : List (List Int)) (Pt : Nat → Prop) (w : World) (_ : (N : Int) - d = a) (_ : d ≤ N) (_ : g.length = N) (_ : ∀ W, Agr Pt w W → Kd.C (Kd.int .i64) W A N g) (_ : N ≤ c) (_ : ∀ W, Agr Pt w W → Kd.C (Kd.int .i64) W A1 l1.length l1) (_ : ∀ W, Agr Pt w W → Kd.C k73 W A2 l2.length l2) (_ : ∀ k, Pt k → k < w.heap.size) (_ : ¬ Pt p) (_ : spec_l5Search.OutB p w0 w Pt out) (_ : Below w0.heap.size w0 w) (_ : spec_l5Search.srch k s l1 l2 most N d g out = some out'),
  Calls Try.prog 85 #[.agg #[.int .i64 s, .slice A1 l1.length c1, .slice A2 l2.length c2], .slice A N c, .int .i64 a, .int .i64 most, .pointer (some ⟨p, 0, none⟩)] w fun e w' => e = .returned (.tuple #[]) ∧ spec_l5Search.OutB p w0 w' Pt out' ∧ Agr Pt w w' ∧ Below w0.heap.size w0 w' := by
 intro d
 have HN := Aside0.mk hN
 have HS4 := Aside0.mk hs4
 have HP0 := Aside0.mk hp0
 have HC1 := Aside0.mk hc1
 have HC2 := Aside0.mk hc2
 clear hN hs4 hp0 hc1 hc2
 induction d using Nat.strongRecOn with
 | _ d ih =>
 have IH := Aside0.mk ih
 clear ih
 intro a g A c out out' Pt w ha hd hl hr hc hr1 hr2 hPl hPp hO hB h
 have HAD := Aside0.mk (show (N : Int) - d = a ∧ d ≤ N from ⟨ha, hd⟩)
 have HL := Aside0.mk hl
 have HR := Aside0.mk hr
 have HC := Aside0.mk hc
 have HR1 := Aside0.mk hr1
 have HR2 := Aside0.mk hr2
 have HPL := Aside0.mk hPl
 have HPP := Aside0.mk hPp
 have HO := Aside0.mk hO
 have HB := Aside0.mk hB
 have HT := Aside0.mk h
 have hu := Try.underlying37
 clear ha hd hl hr hc hr1 hr2 hPl hPp hO hB h
 go_enter Try.func85, Try.ntmps85
 go_wp2_with (first
  | ((with_reducible refine gate_dst (N := 5) rfl ?_); refine box_event ?hg (N := 5) ?hd (cs := #[.int .i64 s, .slice A1 l1.length c1, .slice A2 l2.length c2]) (t := 37) ?hr ?_; (case hd => rfl); (case hg => rfl); (case hr => first | (go_simp; done) | (go_simp; rfl)); intro gP hg w3 hbox hb; have BgP := Aside0.mk hbox; have HW := Aside0.mk hb; have HGP := Aside0.mk (show w.heap.size ≤ gP ∧ gP < w3.heap.size ∧ p < w.heap.size from ⟨Nat.le_of_eq hg.symm, blk_lt hbox, by obtain ⟨_, h_, _⟩ := HO.out; exact blk_lt h_⟩); have HO3 := Aside0.mk ((HO.out.mono (Pt' := fun k_ => Pt k_ ∨ k_ = gP) (fun k_ hl_ hp_ => hp_.resolve_right (by omega))).below hb); clear hg hbox hb HO))
 (try simp only [Act.put, List.setIfInBounds_toArray, List.set_cons_zero, List.set_cons_succ])
 go_loopg [2] d (fun kq v2 w' => ∃ (i : Int), v2 = .int .i64 i ∧ w' = w3 ∧ Aside0 ((N : Int) - kq = i ∧ kq ≤ d) ∧ Aside0 (spec_l5Search.srch k s l1 l2 most N kq g out = some out'))
 case atStart => exact ⟨a, rfl, rfl, ⟨HAD.out.1, Nat.le_refl _⟩, HT⟩
 case round =>
  clear HT
  obtain ⟨i, rfl, rfl, HK, HT⟩ := hrel
  cases gk with
  | zero =>
   have hi : i = (N : Int) := by have := HK.out; omega
   subst hi
   have hlt : decide ((N : Int) < (N : Int)) = false := decide_eq_false (by omega)
   have h := HT.out
   clear HT
   unfold spec_l5Search.srch at h
   by_cases hol : out.length ≤ 100000
   rotate_left
   ·rw [if_neg hol] at h
    cases h
   rw [if_pos hol] at h
   obtain rfl := Option.some.inj h
   clear h
   have HOL := Aside0.mk hol
   clear hol
   obtain ⟨v0, hpb, hS⟩ := HO3.out
   obtain ⟨Av, cv, ev⟩ := Kd.S_slice hS
   subst ev
   have HP0_ := Aside0.mk hpb
   have HS := Aside0.mk hS
   clear hpb hS HO3
   go_wp2
   refine start_ (n := 11) (S := fun w' => w'.cell? ⟨p, 0, none⟩ = some (.slice Av out.length cv)) (ds := [10]) #[false, false, false, false, false, false, false, false, false, false, false] (by kernel_rfl) rfl rfl ((blk_cell (show wr.drew.heap[p]? = _ from HP0_.out) 0).trans rfl) (fun hHeld => ?_)
   have n1_ := Aside0.mk (show wr.drew.heap[p]? = _ from HP0_.out)
   have n2_ := Aside0.mk (Kd.S_drew HS.out)
   have n3_ := Aside0.mk (show Below w.heap.size w wr.drew from below_drew1 HW.out)
   clear HP0_ HS HW
   have n4_ := Aside0.mk (show wr.heap.size ≤ wr.drew.heap.size from Nat.le_refl _)
   generalize wr.drew = w4 at n1_ n2_ n3_ n4_ hHeld ⊢
   have HZ0 := n4_
   clear n4_
   have HP := n1_
   have HS := n2_
   have HW := n3_
   clear n1_ n2_ n3_
   refine pure_ (i := 0) (N := some 29) (v := ?_) (a' := ?_) #[true, false, false, false, false, false, false, false, false, false, false] rfl rfl (by kernel_rfl) (fun _ _ _ h => h) (Or.inl ⟨by rfl, ?_⟩) ?_ ?_
   rotate_left
   ·intro w'
    go_simp
    with_reducible rfl
   rotate_left
   ·simp only [Act.put, yps, i64_w, i32_w]
    rfl
   refine pure_ (i := 1) (N := some 30) (v := ?_) (a' := ?_) #[true, true, false, false, false, false, false, false, false, false, false] rfl rfl (by kernel_rfl) (fun _ _ _ h => h) (Or.inl ⟨by rfl, ?_⟩) ?_ ?_
   rotate_left
   ·intro w'
    go_simp
    with_reducible rfl
   rotate_left
   ·simp only [Act.put, yps, i64_w, i32_w]
    rfl
   refine pure_ (i := 2) (N := some 31) (v := ?_) (a' := ?_) #[true, true, true, false, false, false, false, false, false, false, false] rfl rfl (by kernel_rfl) (fun _ _ _ h => h) (Or.inl ⟨by rfl, ?_⟩) ?_ ?_
   rotate_left
   ·intro w'
    go_simp
    with_reducible rfl
   rotate_left
   ·simp only [Act.put, yps, i64_w, i32_w]
    rfl
   refine take_ (i := 3) (N := some 32) (v := ?_) (a' := ?_) #[true, true, true, true, false, false, false, false, false, false, false] rfl rfl (by kernel_rfl) (fun _ _ _ h => h) (Or.inl ⟨by rfl, ?_⟩) hHeld ?_ ?_
   rotate_left
   ·intro w' s0
    go_simp
    with_reducible rfl
   rotate_left
   ·simp only [Act.put, yps, i64_w, i32_w]
    rfl
   refine pure_ (i := 5) (N := some 34) (v := ?_) (a' := ?_) #[true, true, true, true, false, true, false, false, false, false, false] rfl rfl (by kernel_rfl) (fun _ _ _ h => h) (Or.inl ⟨by rfl, ?_⟩) ?_ ?_
   rotate_left
   ·intro w'
    go_simp
    with_reducible rfl
   rotate_left
   ·simp only [Act.put, yps, i64_w, i32_w]
    rfl
   refine one_ (i := 4) (N := some 33) #[true, true, true, true, true, true, false, false, false, false, false] rfl rfl (by kernel_rfl) (by decide) (fun K hK => ?_)
   refine Kd.R_lit_step (Kd.int .i64) (w0 := w0) w0.heap.size 3 (by rfl) (N := 33) rfl (xs := ([] : List Int)) (inner := []) (ok := fun k_ => w4.heap.size ≤ k_) (okp := fun _ => False) (by first | (go_simp; done) | (go_simp; rfl)) (Reps.none _ _) (fun _ h_ => h_.elim) (Nat.le_refl _) (below_step HB.out HW.out) (Nat.le_trans HB.out.size HW.out.size) (by simp) ?_
   intro v33 w5 ho hb hg hat
   have hbl : Below w4.heap.size w4 w5 := below_of_grown hg
   have n1_ := Aside0.mk (blk_below HP.out hbl)
   have n2_ := Aside0.mk (Kd.S_below (Kd.S_bound HS.out) hbl)
   have n3_ := Aside0.mk (below_step HW.out hbl)
   have n4_ := Aside0.mk ho
   have n5_ := Aside0.mk (show w.heap.size ≤ w4.heap.size ∧ w4.heap.size ≤ w5.heap.size from ⟨HW.out.size, hbl.size⟩)
   clear HP HS HW ho hb hg hat hbl
   have HP := n1_
   have HS := n2_
   have HW := n3_
   have HV := n4_
   have HZ := n5_
   clear n1_ n2_ n3_ n4_ n5_
   obtain ⟨A33, c33, e33⟩ := Kd.R_slice HV.out
   subst e33
   refine hK.out _ _ ((blk_cell HP.out 0).trans rfl) (fun hHeld => ?_)
   clear hK K
   refine norm_ (a' := ?_) ?_ ?_
   rotate_left
   ·show Act.put _ (some 33) _ = _
    simp only [Act.put, yps, i64_w, i32_w]
    rfl
   refine one_ (i := 6) (N := some 35) #[true, true, true, true, true, true, true, false, false, false, false] rfl rfl (by kernel_rfl) (by decide) (fun K hK => ?_)
   refine Kd.R_append_rows_step (Kd.int .i64) (w0 := w0) w0.heap.size (by rfl) (.tmp 33) (.tmp 34) 22 3 (.int .i64 0) 8 rfl Try.underlying22 info3 rfl (by decide) (by omega) (.slice A33 ([] : List Int).length c33) [] g A N c (fun k_ => w4.heap.size ≤ k_) (fun _ => False) rfl rfl HV.out (HR.out w5 (Agr.of_below HW.out)) (fun _ _ h => h) (fun _ h => h.elim) (fun k_ h_ => Nat.le_trans HZ.out.2 h_) (below_step HB.out HW.out) (Nat.le_trans HB.out.size HW.out.size) (by have := HN.out; simp only [List.length_nil]; omega) ?_
   intro v35 w6 ho hb hg hat
   simp only [List.nil_append] at ho
   have hown : ∀ k, (Value.slice A33 ([] : List Int).length c33).ownBlock = some k → w4.heap.size ≤ k := fun k_ e_ => HV.out.1 k_ e_
   have n1_ := Aside0.mk (blk_grown HP.out hg (fun e_ => by have := hown p e_.symm; have := HGP.out; have := HZ.out; omega))
   have n2_ := Aside0.mk (Kd.S_grown HS.out hg (fun k_ h_ e_ => by have := hown k_ e_.symm; have := h_.2.2.1; omega))
   have n3_ := Aside0.mk (below_own HW.out hg (fun k_ e_ => by have := hown k_ e_; have := HZ.out; omega))
   have n4_ := Aside0.mk ho
   have n5_ := Aside0.mk (show w.heap.size ≤ w4.heap.size ∧ w4.heap.size ≤ w6.heap.size from ⟨HZ.out.1, Nat.le_trans HZ.out.2 hg.size⟩)
   clear HP HS HW HV HZ ho hb hg hat hown
   have HP := n1_
   have HS := n2_
   have HW := n3_
   have HV := n4_
   have HZ := n5_
   clear n1_ n2_ n3_ n4_ n5_
   obtain ⟨A35, c35, e35⟩ := Kd.R_slice HV.out
   subst e35
   refine hK.out _ _ ((blk_cell HP.out 0).trans rfl) (fun hHeld => ?_)
   clear hK K
   refine norm_ (a' := ?_) ?_ ?_
   rotate_left
   ·show Act.put _ (some 35) _ = _
    simp only [Act.put, yps, i64_w, i32_w]
    rfl
   refine one_ (i := 7) (N := some 36) #[true, true, true, true, true, true, true, true, false, false, false] rfl rfl (by kernel_rfl) (by decide) (fun K hK => ?_)
   refine value_ (w1 := w6.alloc (.cells #[.slice A35 g.length c35] 22)) (v := .slice (some ⟨w6.heap.size, 0, none⟩) 1 1) (by rfl) rfl ?_ ?_
   ·go_simp
    first | done | rfl | (constructor <;> rfl)
   refine hK.out _ _ ((blk_cell (blk_alloc HP.out _) 0).trans rfl) (fun hHeld => ?_)
   clear hK K
   refine norm_ (a' := ?_) ?_ ?_
   rotate_left
   ·show Act.put _ (some 36) _ = _
    simp only [Act.put, yps, i64_w, i32_w]
    rfl
   refine one_ (i := 8) (N := some 37) #[true, true, true, true, true, true, true, true, true, false, false] rfl rfl (by kernel_rfl) (by decide) (fun K hK => ?_)
   refine Kd.S_append_step (Kd.slice 3 (Kd.int .i64)) (w0 := w0) w0.heap.size (by rfl) (.tmp 32) (.tmp 36) 78 22 (.slice none 0 0) 24 rfl Try.underlying78 info22 rfl (by decide) (by omega) (.slice Av out.length cv) out g [.slice A35 g.length c35] (fun k_ => ¬ (Pt k_ ∨ k_ = gP) ∧ k_ ≠ p) (fun k_ => some k_ = (Value.slice A35 g.length c35).ownBlock) rfl rfl (Kd.M_row (Kd.R_tight rfl HV.out)) (fun k_ h_ => by
    have h1_ := HV.out.1 k_ h_.symm
    have h2_ := HGP.out
    have h3_ := HZ.out
    exact ⟨⟨fun hp_ => hp_.elim (fun hp_ => by have := HPL.out k_ hp_; omega) (fun hp_ => by have := HZ0.out; omega), by omega⟩, fun e_ => by have := ((Kd.S_R HS.out).1 k_ e_.symm).2.2.1; omega⟩) (fun k_ h_ => by
    have h2_ := HGP.out
    have h3_ := HZ.out
    exact ⟨fun hp_ => hp_.elim (fun hp_ => by have := HPL.out k_ hp_; omega) (fun hp_ => by have := HZ0.out; omega), by omega⟩) (Kd.S_mono HS.out (fun k_ h_ => ⟨h_.1, fun e_ => by have := HV.out.1 k_ e_.symm; have := h_.2.2.1; omega⟩)) (below_step HB.out HW.out) (Nat.le_trans HB.out.size HW.out.size) (by have := HOL.out; omega) ?_
   intro v37 w8 ho hb hg hat
   have hown : ∀ k, (Value.slice Av out.length cv).ownBlock = some k → (¬ (Pt k ∨ k = gP) ∧ k ≠ p) := fun k_ e_ => ((Kd.S_R HS.out).1 k_ e_).1
   have n1_ := Aside0.mk (blk_grown HP.out hg (fun e_ => (hown p e_.symm).2 rfl))
   have n2_ := Aside0.mk ho
   have n3_ := Aside0.mk (show Agr Pt w w8 from ⟨Nat.le_trans HW.out.size hg.size, fun k_ hl_ hp_ => (hg.block k_ (Nat.lt_of_lt_of_le hl_ HW.out.size) (fun e_ => (hown k_ e_.symm).1 (.inl hp_))).trans (HW.out.block k_ hl_)⟩)
   have n4_ := Aside0.mk hb
   clear HP HS HW HV ho hb hg hat hown
   have HP := n1_
   have HS := n2_
   have HA := n3_
   have HB8 := n4_
   clear n1_ n2_ n3_ n4_
   obtain ⟨A37, c37, e37⟩ := Kd.S_slice HS.out
   subst e37
   refine hK.out _ _ ((blk_cell HP.out 0).trans rfl) (fun hHeld => ?_)
   clear hK K
   refine norm_ (a' := ?_) ?_ ?_
   rotate_left
   ·show Act.put _ (some 37) _ = _
    simp only [Act.put, yps, i64_w, i32_w]
    rfl
   refine pure_ (i := 9) (N := some 38) (v := ?_) (a' := ?_) #[true, true, true, true, true, true, true, true, true, true, false] rfl rfl (by kernel_rfl) (fun _ _ _ h => h) (Or.inl ⟨by rfl, ?_⟩) ?_ ?_
   rotate_left
   ·intro w'
    go_simp
    with_reducible rfl
   rotate_left
   ·simp only [Act.put, yps, i64_w, i32_w]
    rfl
   have hzf := blk_frozen HP.out 0
   have hz := hHeld
   refine last_ (i := 10) (N := none) #[true, true, true, true, true, true, true, true, true, true, true] rfl rfl (by kernel_rfl) (by decide) (fun K hK => ?_)
   refine skip_ (w1 := w8.setCell ⟨p, 0, none⟩ (.slice A37 (out ++ [g]).length c37)) (by rfl) rfl ?_ ?_
   ·go_simp
    first | done | rfl
   refine hK.out _ _ ?_
   clear hK K hz hzf hHeld
   have n1_ : Aside0 (spec_l5Search.OutB p w0 (w8.setCell ⟨p, 0, none⟩ (.slice A37 (out ++ [g]).length c37)) Pt (out ++ [g])) := ⟨⟨_, by simpa using blk_set HP.out 0 (.slice A37 (out ++ [g]).length c37), Kd.S_far (p := ⟨p, 0, none⟩) (Kd.S_mono HS.out (fun k_ h_ => ⟨fun hp_ => h_.1 (.inl hp_), h_.2⟩)) (fun k_ h_ => h_.2) _⟩⟩
   have n2_ : Aside0 (Agr Pt w (w8.setCell ⟨p, 0, none⟩ (.slice A37 (out ++ [g]).length c37))) := ⟨⟨by have := HA.out.1; simpa [World.setCell] using this, fun k_ hl_ hp_ => (Below.heap_setCell w8 ⟨p, 0, none⟩ _ k_ (fun e_ => HPP.out (by simp only at e_; rw [← e_]; exact hp_))).trans (HA.out.2 k_ hl_ hp_)⟩⟩
   have n3_ : Aside0 (Below w0.heap.size w0 (w8.setCell ⟨p, 0, none⟩ (.slice A37 (out ++ [g]).length c37))) := ⟨below_set HB8.out HP0.out⟩
   refine done_ (by kernel_rfl) ?_
   go_wp2
   first | go_end0 | ((try simp only [Exit.inBlock, Exit.then]); refine bodyPost_ret (results_none rfl _ _ _) rfl ?_)
   exact ⟨rfl, n1_.out, n2_.out, n3_.out⟩
  | succ q =>
   have h0 : 0 ≤ i := by have := HK.out; have := HAD.out; omega
   have h1 : i < (N : Int) := by have := HK.out; omega
   obtain ⟨ad, eA, hx⟩ := Kd.at_int (HR.out wr (Agr.of_below HW.out)) i h0 h1
   subst eA
   have hlt : decide (i < (N : Int)) = true := decide_eq_true h1
   have hae : (i == (N : Int)) = false := beq_eq_false_iff_ne.mpr (by omega)
   have hw1 : wrap64 (i + 1) = i + 1 := by have := HN.out; unfold wrap64; omega
   have hw2 : IntKind.i64.wrap (i + 1) = i + 1 := by rw [i64_w]; exact hw1
   have h := HT.out
   clear HT
   unfold spec_l5Search.srch at h
   have hi : (N : Int) - ((q + 1 : Nat) : Int) = i := HK.out.1
   rw [hi] at h
   have HI := Aside0.mk (show 0 ≤ i ∧ i < (N : Int) ∧ (N : Int) - q = i + 1 ∧ q < d from ⟨h0, h1, by omega, by have := HK.out; omega⟩)
   have q0 := eq_true h0
   have q1 := eq_true h1
   clear h0 h1 hi
   by_cases hpos : 0 < rd g i
   ·rw [if_pos hpos] at h
    have hpb : decide (0 < rd g i) = true := decide_eq_true hpos
    have HT := Aside0.mk h
    clear h hpos
    go_wp2
    go_roundg q
    case measure => omega
    case rel => exact ⟨i + 1, rfl, rfl, ⟨HI.out.2.2.1, by have := HI.out; omega⟩, HT⟩
   ·rw [if_neg hpos] at h
    have hpb : decide (0 < rd g i) = false := decide_eq_false hpos
    have HT := Aside0.mk h
    clear h hpos
    go_wp2
    have HA0 := Aside0.mk (Agr.of_below (P := Pt) HW.out)
    have HB0 := Aside0.mk (below_step HB.out HW.out)
    clear hx hlt hae hpb hw1 hw2 q0 q1
    obtain ⟨sz, hsz⟩ : ∃ x, x = wr.heap.size := ⟨_, rfl⟩
    rw [← hsz] at HGP
    have HSZ0 := Aside0.mk (Nat.le_of_eq hsz)
    clear hsz
    go_loopg [10] s.toNat (fun kq v10 w' => ∃ (v : Int) (o : List (List Int)), v10 = .int .i64 v ∧ Aside0 (1 ≤ v ∧ v + (kq : Int) = (s.toNat : Int) + 1) ∧ Aside0 (spec_l5Search.loop (fun g' => spec_l5Fits.f k s l1 l2 g') (spec_l5Search.srch k s l1 l2 most N q) g i.toNat most kq v o = some out') ∧ Aside0 (w'.heap[gP]? = some (.cells #[.int .i64 s, .slice A1 l1.length c1, .slice A2 l2.length c2] 37 (0, 0))) ∧ Aside0 (spec_l5Search.OutB p w0 w' (fun k_ => Pt k_ ∨ k_ = gP) o) ∧ Aside0 (Agr Pt w w') ∧ Aside0 (Below w0.heap.size w0 w') ∧ Aside0 (sz ≤ w'.heap.size))
    case atStart => exact ⟨1, out, rfl, ⟨by omega⟩, HT, BgP, HO3, HA0, HB0, HSZ0⟩
    case round =>
     clear HT BgP HO3 HA0 HB0 HSZ0 HW HB
     obtain ⟨v, o, rfl, HK2, HT, BP, HO4, HA, HB, HSZ⟩ := hrel
     obtain ⟨vv, hpb, hS⟩ := HO4.out
     obtain ⟨Av, cv, ev⟩ := Kd.S_slice hS
     subst ev
     have hcO : wr.cell? ⟨p, 0, none⟩ = some (.slice Av o.length cv) := (blk_cell hpb 0).trans rfl
     have hcP0 : wr.cell? ⟨gP, 0, none⟩ = some (.int .i64 s) := (blk_cell BP.out 0).trans rfl
     clear hpb hS
     cases gk with
     | zero =>
      have h := HT.out
      unfold spec_l5Search.loop at h
      obtain rfl := Option.some.inj h
      clear HT h
      have hvb : decide (v ≤ s) = false := decide_eq_false (by have := HK2.out; omega)
      go_wp2
      first | go_end0 | ((try simp only [Exit.inBlock, Exit.then]); refine bodyPost_ret (results_none rfl _ _ _) rfl ?_)
      exact ⟨rfl, HO4.out.mono (fun _ _ hp_ => .inl hp_), HA.out, HB.out⟩
     | succ n =>
      have h := HT.out
      clear HT
      unfold spec_l5Search.loop at h
      have hvb : decide (v ≤ s) = true := decide_eq_true (by have := HK2.out; omega)
      have hvw : wrap64 (v + 1) = v + 1 := by have := HK2.out; have := HS4.out; unfold wrap64; omega
      have hvw2 : IntKind.i64.wrap (v + 1) = v + 1 := by rw [i64_w]; exact hvw
      by_cases hm : (o.length : Int) < most
      rotate_left
      ·rw [if_neg hm] at h
       obtain rfl := Option.some.inj h
       clear h
       have hmb : decide ((o.length : Int) < most) = false := decide_eq_false hm
       clear hm
       go_wp2
       first | go_end0 | ((try simp only [Exit.inBlock, Exit.then]); refine bodyPost_ret (results_none rfl _ _ _) rfl ?_)
       exact ⟨rfl, HO4.out.mono (fun _ _ hp_ => .inl hp_), HA.out, HB.out⟩
      rw [if_pos hm] at h
      have hmb : decide ((o.length : Int) < most) = true := decide_eq_true hm
      clear hm
      obtain ⟨b, hF, h⟩ := Option.bind_eq_some_iff.1 h
      have HF := Aside0.mk hF
      clear hF
      have h0 := HI.out.1
      have h1 := HI.out.2.1
      have q0 := eq_true h0
      have q1 := eq_true h1
      have hiw : wrap64 (i + 1) = i + 1 := by have := HN.out; unfold wrap64; omega
      have hiw2 : IntKind.i64.wrap (i + 1) = i + 1 := by rw [i64_w]; exact hiw
      have hlt : decide (i < (N : Int)) = true := decide_eq_true h1
      clear h0 h1
      cases b with
      | false =>
       simp only [Bool.false_eq_true, if_false] at h
       have HT := Aside0.mk h
       clear h
       go_wp2_with (first
        | ((with_reducible refine gate_dst (N := 53) rfl ?_); refine Kd.R_lit (Kd.int .i64) (w0 := w0) w0.heap.size 3 ?hg (N := 53) ?hd (xs := ([] : List Int)) (inner := []) (ok := fun k_ => wr.heap.size ≤ k_) (okp := fun _ => False) ?hr ?hp (fun _ hk => hk.elim) (Nat.le_refl _) HB.out HB.out.size (by simp) ?_; (case hd => rfl); (case hg => rfl); (case hr => first | (go_simp; done) | (go_simp; rfl)); (case hp => exact (Reps.none _ _)); intro v53 w53 ho hbb hg_ hnew_; have HWr := Aside0.mk (below_of_grown hg_); have HV := Aside0.mk ho; clear ho hbb hg_ hnew_ hcO hcP0; obtain ⟨A53, c53, e53⟩ := Kd.R_slice HV.out; subst e53)
        | ((with_reducible refine gate_builtin (b := .append) (xs := #[.tmp 53, .tmp 54]) rfl ?_); at_builtin; refine Kd.R_append_rows (Kd.int .i64) (w0 := w0) w0.heap.size rfl (.tmp 53) (.tmp 54) 22 3 (.int .i64 0) 8 rfl Try.underlying22 info3 rfl (by decide) (by omega) (.slice A53 ([] : List Int).length c53) [] g (some ad) N c (fun k_ => wr.heap.size ≤ k_) (fun _ => False) rfl rfl HV.out (HR.out w53 (HA.out.trans (Agr.of_below HWr.out))) (fun _ _ h => h) (fun _ h => h.elim) (fun k_ h_ => Nat.le_trans HWr.out.size h_) (below_step HB.out HWr.out) (Nat.le_trans HB.out.size HWr.out.size) (by have := HN.out; simp only [List.length_nil]; omega) ?_; intro v55 w55 ho hbb hg_ hat; simp only [List.nil_append] at ho; have n1_ := Aside0.mk (below_own HWr.out hg_ (fun k_ e_ => HV.out.1 k_ e_)); obtain ⟨gn, c55, e55, gb_, gl_, gx_⟩ := Kd.R_form ho (by have := HI.out; have := HL.out; omega); rw [HL.out] at e55; subst e55; have n2_ := Aside0.mk (Kd.R_mono (Kd.R_tight rfl ho) (fun k_ h_ => by simpa [Value.ownBlock] using h_) : Kd.R (Kd.int .i64) 3 w55 w0.heap.size (fun k_ => k_ = gn) (.slice (some ⟨gn, 0, none⟩) N c55) g); have n3_ := Aside0.mk (show wr.heap.size ≤ gn ∧ gn < w55.heap.size from ⟨ho.1 gn rfl, gl_⟩); clear HV HWr ho hbb hg_ hat gb_ gl_ gx_; have HWr := n1_; have HV := n2_; have HGN := n3_; clear n1_ n2_ n3_; obtain ⟨hxv0, hfv⟩ := Kd.R_celln 0 HV.out i HI.out.1 HI.out.2.1; have hxv := hxv0.trans (rfl : _ = some (Value.int .i64 (rd g i))); have HPO := Aside0.mk (Kd.R_putg HV.out i v); clear hxv0)
        | ((with_reducible refine gate_store (t := 3) (p := 59) rfl ?_); refine store_event (t := 3) (p := 59) (v := ?vo1) (w1 := w55.setCell ⟨gn, i.toNat, none⟩ (.int .i64 v)) ?hg ?ho ?hn ?hr ?_; (case ho => rfl); (case hg => rfl); (case hn => rfl); (case hr => first | (go_simp; done) | (go_simp; rfl)); intro w59 hw; have n1_ : Aside0 (Below wr.heap.size wr w59) := ⟨by rw [hw]; exact below_set HWr.out HGN.out.1⟩; have n2_ : Aside0 (Kd.R (Kd.int .i64) 3 w59 w0.heap.size (fun k_ => k_ = gn) (.slice (some ⟨gn, 0, none⟩) N c55) (g.set i.toNat v)) := ⟨by rw [hw]; exact HPO.out.1⟩; have n3_ : Aside0 (wr.heap.size ≤ gn ∧ gn < w59.heap.size) := ⟨by have := HGN.out; rw [hw]; simpa [World.setCell] using this⟩; clear HWr HV HGN HPO hxv hfv hw; have HWr := n1_; have HV := n2_; have HGN := n3_; clear n1_ n2_ n3_; have hcP0 : w59.cell? ⟨gP, 0, none⟩ = some (.int .i64 s) := (blk_cell (blk_below BP.out HWr.out) 0).trans rfl; have hcP1 : w59.cell? ⟨gP, 1, none⟩ = some (.slice A1 l1.length c1) := (blk_cell (blk_below BP.out HWr.out) 1).trans rfl; have hcP2 : w59.cell? ⟨gP, 2, none⟩ = some (.slice A2 l2.length c2) := (blk_cell (blk_below BP.out HWr.out) 2).trans rfl)
        | ((with_reducible refine gate_callee (f := 90) rfl ?_); refine goesL_ (some 62) rfl rfl Try.func90 (by kernel_rfl) rfl #[.agg #[.int .i64 s, .slice A1 l1.length c1, .slice A2 l2.length c2], .slice (some ⟨gn, 0, none⟩) (g.set i.toNat v).length c55] rfl (by (try simp only [List.map_toArray, List.map_cons, List.map_nil]); rw [List.length_set, HL.out]; rfl) ?_; (with_reducible refine (spec_l5Fits.calls k s _ _ l1 _ _ l2 _ _ (g.set i.toNat v) false w59 (HR1.out _ (HA.out.trans (Agr.of_below HWr.out))) HC1.out (HR2.out _ (HA.out.trans (Agr.of_below HWr.out))) HC2.out (Kd.R_reads' HV.out).2.2 (by rw [List.length_set, HL.out]; exact (Kd.R_reads' HV.out).2.1) HF.out).mono ?_); rintro e w62 ⟨rfl, hb⟩; refine ⟨_, rfl, ?_⟩; replace HV := Aside0.mk (Kd.R_below HV.out hb); have HGN_ := HGN.out; clear HGN; have HGN := Aside0.mk (show wr.heap.size ≤ gn ∧ gn < w62.heap.size from ⟨HGN_.1, Nat.lt_of_lt_of_le HGN_.2 hb.size⟩); replace HWr := Aside0.mk (below_step HWr.out hb); clear hb HGN_ hcP0 hcP1 hcP2; have hcP0 : w62.cell? ⟨gP, 0, none⟩ = some (.int .i64 s) := (blk_cell (blk_below BP.out HWr.out) 0).trans rfl; have hcP1 : w62.cell? ⟨gP, 1, none⟩ = some (.slice A1 l1.length c1) := (blk_cell (blk_below BP.out HWr.out) 1).trans rfl; have hcP2 : w62.cell? ⟨gP, 2, none⟩ = some (.slice A2 l2.length c2) := (blk_cell (blk_below BP.out HWr.out) 2).trans rfl))
       go_roundg n
       case measure => omega
       case rel => exact ⟨v + 1, o, rfl, ⟨by have := HK2.out; omega⟩, HT, ⟨blk_below BP.out HWr.out⟩, ⟨HO4.out.below HWr.out⟩, ⟨HA.out.trans (Agr.of_below HWr.out)⟩, ⟨below_step HB.out HWr.out⟩, ⟨Nat.le_trans HSZ.out HWr.out.size⟩⟩
      | true =>
       simp only [if_true] at h
       obtain ⟨o2, hsr, h⟩ := Option.bind_eq_some_iff.1 h
       have HSR := Aside0.mk hsr
       have HT := Aside0.mk h
       clear h hsr
       go_wp2_with (first
        | ((with_reducible refine gate_dst (N := 53) rfl ?_); refine Kd.R_lit (Kd.int .i64) (w0 := w0) w0.heap.size 3 ?hg (N := 53) ?hd (xs := ([] : List Int)) (inner := []) (ok := fun k_ => wr.heap.size ≤ k_) (okp := fun _ => False) ?hr ?hp (fun _ hk => hk.elim) (Nat.le_refl _) HB.out HB.out.size (by simp) ?_; (case hd => rfl); (case hg => rfl); (case hr => first | (go_simp; done) | (go_simp; rfl)); (case hp => exact (Reps.none _ _)); intro v53 w53 ho hbb hg_ hnew_; have HWr := Aside0.mk (below_of_grown hg_); have HV := Aside0.mk ho; clear ho hbb hg_ hnew_ hcO hcP0; obtain ⟨A53, c53, e53⟩ := Kd.R_slice HV.out; subst e53)
        | ((with_reducible refine gate_builtin (b := .append) (xs := #[.tmp 53, .tmp 54]) rfl ?_); at_builtin; refine Kd.R_append_rows (Kd.int .i64) (w0 := w0) w0.heap.size rfl (.tmp 53) (.tmp 54) 22 3 (.int .i64 0) 8 rfl Try.underlying22 info3 rfl (by decide) (by omega) (.slice A53 ([] : List Int).length c53) [] g (some ad) N c (fun k_ => wr.heap.size ≤ k_) (fun _ => False) rfl rfl HV.out (HR.out w53 (HA.out.trans (Agr.of_below HWr.out))) (fun _ _ h => h) (fun _ h => h.elim) (fun k_ h_ => Nat.le_trans HWr.out.size h_) (below_step HB.out HWr.out) (Nat.le_trans HB.out.size HWr.out.size) (by have := HN.out; simp only [List.length_nil]; omega) ?_; intro v55 w55 ho hbb hg_ hat; simp only [List.nil_append] at ho; have n1_ := Aside0.mk (below_own HWr.out hg_ (fun k_ e_ => HV.out.1 k_ e_)); obtain ⟨gn, c55, e55, gb_, gl_, gx_⟩ := Kd.R_form ho (by have := HI.out; have := HL.out; omega); rw [HL.out] at e55; subst e55; have n2_ := Aside0.mk (Kd.R_mono (Kd.R_tight rfl ho) (fun k_ h_ => by simpa [Value.ownBlock] using h_) : Kd.R (Kd.int .i64) 3 w55 w0.heap.size (fun k_ => k_ = gn) (.slice (some ⟨gn, 0, none⟩) N c55) g); have n3_ := Aside0.mk (show wr.heap.size ≤ gn ∧ gn < w55.heap.size from ⟨ho.1 gn rfl, gl_⟩); clear HV HWr ho hbb hg_ hat gb_ gl_ gx_; have HWr := n1_; have HV := n2_; have HGN := n3_; clear n1_ n2_ n3_; obtain ⟨hxv0, hfv⟩ := Kd.R_celln 0 HV.out i HI.out.1 HI.out.2.1; have hxv := hxv0.trans (rfl : _ = some (Value.int .i64 (rd g i))); have HPO := Aside0.mk (Kd.R_putg HV.out i v); clear hxv0)
        | ((with_reducible refine gate_store (t := 3) (p := 59) rfl ?_); refine store_event (t := 3) (p := 59) (v := ?vo2) (w1 := w55.setCell ⟨gn, i.toNat, none⟩ (.int .i64 v)) ?hg ?ho ?hn ?hr ?_; (case ho => rfl); (case hg => rfl); (case hn => rfl); (case hr => first | (go_simp; done) | (go_simp; rfl)); intro w59 hw; have n1_ : Aside0 (Below wr.heap.size wr w59) := ⟨by rw [hw]; exact below_set HWr.out HGN.out.1⟩; have n2_ : Aside0 (Kd.R (Kd.int .i64) 3 w59 w0.heap.size (fun k_ => k_ = gn) (.slice (some ⟨gn, 0, none⟩) N c55) (g.set i.toNat v)) := ⟨by rw [hw]; exact HPO.out.1⟩; have n3_ : Aside0 (wr.heap.size ≤ gn ∧ gn < w59.heap.size) := ⟨by have := HGN.out; rw [hw]; simpa [World.setCell] using this⟩; clear HWr HV HGN HPO hxv hfv hw; have HWr := n1_; have HV := n2_; have HGN := n3_; clear n1_ n2_ n3_; have hcP0 : w59.cell? ⟨gP, 0, none⟩ = some (.int .i64 s) := (blk_cell (blk_below BP.out HWr.out) 0).trans rfl; have hcP1 : w59.cell? ⟨gP, 1, none⟩ = some (.slice A1 l1.length c1) := (blk_cell (blk_below BP.out HWr.out) 1).trans rfl; have hcP2 : w59.cell? ⟨gP, 2, none⟩ = some (.slice A2 l2.length c2) := (blk_cell (blk_below BP.out HWr.out) 2).trans rfl)
        | ((with_reducible refine gate_callee (f := 90) rfl ?_); refine goesL_ (some 62) rfl rfl Try.func90 (by kernel_rfl) rfl #[.agg #[.int .i64 s, .slice A1 l1.length c1, .slice A2 l2.length c2], .slice (some ⟨gn, 0, none⟩) (g.set i.toNat v).length c55] rfl (by (try simp only [List.map_toArray, List.map_cons, List.map_nil]); rw [List.length_set, HL.out]; rfl) ?_; (with_reducible refine (spec_l5Fits.calls k s _ _ l1 _ _ l2 _ _ (g.set i.toNat v) true w59 (HR1.out _ (HA.out.trans (Agr.of_below HWr.out))) HC1.out (HR2.out _ (HA.out.trans (Agr.of_below HWr.out))) HC2.out (Kd.R_reads' HV.out).2.2 (by rw [List.length_set, HL.out]; exact (Kd.R_reads' HV.out).2.1) HF.out).mono ?_); rintro e w62 ⟨rfl, hb⟩; refine ⟨_, rfl, ?_⟩; replace HV := Aside0.mk (Kd.R_below HV.out hb); have HGN_ := HGN.out; clear HGN; have HGN := Aside0.mk (show wr.heap.size ≤ gn ∧ gn < w62.heap.size from ⟨HGN_.1, Nat.lt_of_lt_of_le HGN_.2 hb.size⟩); replace HWr := Aside0.mk (below_step HWr.out hb); clear hb HGN_ hcP0 hcP1 hcP2; have hcP0 : w62.cell? ⟨gP, 0, none⟩ = some (.int .i64 s) := (blk_cell (blk_below BP.out HWr.out) 0).trans rfl; have hcP1 : w62.cell? ⟨gP, 1, none⟩ = some (.slice A1 l1.length c1) := (blk_cell (blk_below BP.out HWr.out) 1).trans rfl; have hcP2 : w62.cell? ⟨gP, 2, none⟩ = some (.slice A2 l2.length c2) := (blk_cell (blk_below BP.out HWr.out) 2).trans rfl)
        | ((with_reducible refine gate_callee (f := 85) rfl ?_); refine goesL_ (some 69) rfl rfl Try.func85 (by kernel_rfl) rfl #[.agg #[.int .i64 s, .slice A1 l1.length c1, .slice A2 l2.length c2], .slice (some ⟨gn, 0, none⟩) N c55, .int .i64 (i + 1), .int .i64 most, .pointer (some ⟨p, 0, none⟩)] rfl (by (try simp only [List.map_toArray, List.map_cons, List.map_nil]); first | done | rfl) ?_; (refine (IH.out q HI.out.2.2.2 (i + 1) (g.set i.toNat v) (some ⟨gn, 0, none⟩) c55 o o2 (fun k_ => Pt k_ ∨ k_ = gP ∨ k_ = gn) w62 HI.out.2.2.1 (by have := HI.out; have := HAD.out; omega) (by rw [List.length_set]; exact HL.out) (fun W_ h_ => by have q_ := Kd.R_reads' (Agr.R HV.out h_ (fun k_ e_ => .inr (.inr e_))); have e_ := q_.1; rw [e_]; exact q_.2.2) (Kd.R_reads' HV.out).2.1 (fun W_ h_ => HR1.out W_ ((HA.out.trans (Agr.of_below HWr.out)).trans (h_.mono (fun _ _ hp_ => .inl hp_)))) (fun W_ h_ => HR2.out W_ ((HA.out.trans (Agr.of_below HWr.out)).trans (h_.mono (fun _ _ hp_ => .inl hp_)))) (fun k_ hp_ => hp_.elim (fun hp_ => by have h1_ := HPL.out k_ hp_; have h2_ := HA.out.1; have h3_ := HWr.out.size; omega) (fun hp_ => hp_.elim (fun hp_ => by have h1_ := HSZ.out; have h2_ := HWr.out.size; have h3_ := HGP.out; omega) (fun hp_ => by have := HGN.out; omega))) (fun hp_ => hp_.elim HPP.out (fun hp_ => hp_.elim (fun hp_ => by have := HGP.out; omega) (fun hp_ => by have h1_ := HGP.out; have h2_ := HGN.out; have h3_ := HA.out.1; omega))) ((HO4.out.mono (Pt' := (fun k_ => Pt k_ ∨ k_ = gP ∨ k_ = gn)) (fun k_ hl_ hp_ => hp_.elim .inl (fun hp_ => hp_.elim .inr (fun hp_ => by have := HGN.out; omega)))).below HWr.out) (below_step HB.out HWr.out) HSR.out).mono ?_); rintro e w69 ⟨rfl, hO2, hA2, hB2⟩; refine ⟨_, rfl, ?_⟩; have n1_ := Aside0.mk (Agr.blk (blk_below BP.out HWr.out) hA2 (.inr (.inl rfl))); have n2_ := Aside0.mk (hO2.mono (Pt' := (fun k_ => Pt k_ ∨ k_ = gP)) (fun _ _ hp_ => hp_.elim .inl (fun hp_ => .inr (.inl hp_)))); have n3_ := Aside0.mk ((HA.out.trans (Agr.of_below HWr.out)).trans (hA2.mono (fun _ _ hp_ => .inl hp_))); have n4_ := Aside0.mk hB2; have n5_ := Aside0.mk (Nat.le_trans HSZ.out (Nat.le_trans HWr.out.size hA2.1)); clear hO2 hA2 hB2 HWr HV HGN hcP0 hcP1 hcP2))
       go_roundg n
       case measure => omega
       case rel => exact ⟨v + 1, o2, rfl, ⟨by have := HK2.out; omega⟩, HT, n1_, n2_, n3_, n4_, n5_⟩
def spec_l5Search.f (k : Nat) : Option Unit := none
theorem spec_l5Search.calls : True := trivial
end Go.Proofs.Ytmjbnghhfadapaa.P
