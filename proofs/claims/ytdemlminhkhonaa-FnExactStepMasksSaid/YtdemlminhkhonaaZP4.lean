/- The machine's side: each Go function as a plain Lean function and the proof that the machine's call does what that function says; written by this session's own program over the kit's print. -/
import Derived.Test.YtdemlminhkhonaaZP1
import Derived.Test.YtdemlminhkhonaaZP2
import Derived.Test.YtdemlminhkhonaaZP3
namespace Go.Proofs.Ytdemlminhkhonaa.P
open Go.RowKit Go.Proofs.YtdemlminhkhonaaW.PrintWords Go.Proofs.YtdemlminhkhonaaW.PrintLast Go.Proofs.YtdemlminhkhonaaW.PrintMore
attribute [local go_sem] max2_int min2_int max_two min_two max_three min_three max_four min_four   -- for this text's walks alone
set_option linter.unusedVariables false
set_option linter.unusedSimpArgs false
def spec_RuleMasks.f (k : Nat) (a0_0 : Int) (l0_1 : List Int) (a0_2 : Int) (l1 : List Int) (a2 : Int) : Option (List Int) := (spec_RuleValid.f k a0_0 l0_1 a0_2 a2).bind fun t238 => (if t238 = true then ((spec_MasksValid.f k l1 a2).bind fun t239 => (if t239 = true then (if 0 ≤ (l0_1.length : Int) then (if ((l0_1.length : Int) : Int).toNat ≤ 35184372088832 then ((spec_l4Ways.f k a0_0 l0_1 a0_2 l1 (([] : List Int)) (List.replicate ((l0_1.length : Int) : Int).toNat 0)).bind fun t246 => (some t246)) else (none)) else (none)) else (some (([] : List Int))))) else (some (([] : List Int))))
set_option maxHeartbeats 8000000 in
set_option maxRecDepth 100000 in
theorem spec_RuleMasks.calls (k : Nat) (a0_0 : Int) (A0_1 : Option Addr) (c0_1 : Nat) (l0_1 : List Int) (a0_2 : Int) (A1 : Option Addr) (c1 : Nat) (l1 : List Int) (a2 : Int) (r : List Int) (w : World) (hr0_1 : Kd.C (Kd.int .i64) w A0_1 l0_1.length l0_1) (hc0_1 : l0_1.length ≤ c0_1) (hr1 : Kd.C (Kd.int .i64) w A1 l1.length l1) (hc1 : l1.length ≤ c1) (h : spec_RuleMasks.f k a0_0 l0_1 a0_2 l1 a2 = some r) :
  Calls Try.prog 81 #[.agg #[.int .i64 a0_0, .slice A0_1 l0_1.length c0_1, .int .i64 a0_2], .slice A1 l1.length c1, .int .i64 a2] w fun e w' => ∃ v0_ : Value, e = .returned (v0_) ∧ Kd.R (Kd.int .i64) 3 w' w.heap.size (fun _ => True) v0_ r ∧ Below w.heap.size w w' := by
 have hu67 := Try.underlying67
 have HR0_1 := yam hr0_1
 have HC0_1 := yam hc0_1
 clear hr0_1 hc0_1
 have HR1 := yam hr1
 have HC1 := yam hc1
 clear hr1 hc1
 have HB := yam (Below.refl w.heap.size w)
 have H : ((spec_RuleValid.f k a0_0 l0_1 a0_2 a2).bind fun t238 => (if t238 = true then ((spec_MasksValid.f k l1 a2).bind fun t239 => (if t239 = true then (if 0 ≤ (l0_1.length : Int) then (if ((l0_1.length : Int) : Int).toNat ≤ 35184372088832 then ((spec_l4Ways.f k a0_0 l0_1 a0_2 l1 (([] : List Int)) (List.replicate ((l0_1.length : Int) : Int).toNat 0)).bind fun t246 => (some t246)) else (none)) else (none)) else (some (([] : List Int))))) else (some (([] : List Int))))) = some r := h
 clear h
 replace H := Option.bind_eq_some_iff.mp H
 obtain ⟨t238, A40, H⟩ := H
 try dsimp only at H
 have A4 := yam A40
 clear A40
 by_cases c5 : t238 = true
 rotate_left
 ·replace c5 := Bool.eq_false_iff.mpr c5
  subst c5
  have H1 : (some (([] : List Int))) = some r := by rw [if_neg (show ¬ (false = true) by decide)] at H; exact H
  clear H
  have H := H1
  clear H1
  obtain ⟨y250, hy250⟩ : ∃ y_ : List Int, y_ = (([] : List Int)) := ⟨_, rfl⟩
  replace H : (some y250) = some r := by first | (rw [hy250]; with_reducible exact H) | (have H2_ := (Option.bind_some _ _).symm.trans H; rw [hy250]; with_reducible exact H2_) | (have H2_ := (Option.bind_some _ _).symm.trans H; with_reducible exact H2_) | with_reducible exact H | (rw [hy250]; exact H) | exact H
  have Ny250 := yam hy250
  clear hy250
  obtain rfl := Option.some.inj H
  go_enter Try.func81, Try.ntmps81
  go_wp2_with (first | (refine ybe 3 #[.int .i64 a0_0, .slice A0_1 l0_1.length c0_1, .int .i64 a0_2] 67 ?_; intro gb237 hg w28 hbox hb; have n0_ := yam (below_step (yez HB.out) hb); have n1_ := yam (hbox); have n2_ := yam ((by rw [hg]; exact (below_size (yez HB.out)) : w.heap.size ≤ gb237)); have n3_ := n2_; clear HB; have HB := n0_; have BK237 := n1_; have GW237 := n2_; have GE237 := n3_; clear n0_ n1_ n2_ n3_; clear hb hbox hg; obtain ⟨hcz29_0, hcz29_1, hcz29_2, hfz29_0, hfz29_1, hfz29_2⟩ := ybc BK237.out) | (refine goesL_ (some 10) rfl rfl Try.func66 (by kernel_rfl) rfl #[.agg #[.int .i64 a0_0, .slice A0_1 l0_1.length c0_1, .int .i64 a0_2], .int .i64 a2] rfl ymd ?_; (with_reducible refine (spec_RuleValid.calls k a0_0 _ _ l0_1 a0_2 a2 false _ ?side1 ?side2 A4.out).mono ?_); (case side1 => exact Kd.Cz ((Kd.C_below HR0_1.out HB.out))); (case side2 => exact HC0_1.out); rintro e w30 ⟨rfl, hb⟩; refine ⟨_, rfl, ?_⟩; replace BK237 := yam (blk_below (g := gb237) (o := .cells #[.int .i64 a0_0, .slice A0_1 l0_1.length c0_1, .int .i64 a0_2] 67 (0, 0)) (ybz BK237.out) hb); replace HB := yam (below_step yhb hb); (try clear hb); (try clear hb2); (try clear hk); (try clear hi)) | ((with_reducible refine gate_dst (N := 18) rfl ?_); refine Kd.R_lit (Kd.int .i64) _ 3 ?hg (N := 18) ?hd (xs := ([] : List Int)) (inner := []) (ok := fun _ => True) (okp := fun _ => True) ?hr ?hp (fun _ hk => hk) trivial (Below.refl _ _) (Nat.le_refl _) (by simp) ?_; (case hd => rfl); (case hg => rfl); (case hr => first | (go_simp; done) | (go_simp; rfl)); (case hp => exact (Reps.none _ _)); intro v251 w31 ho32 hb hg_ hnew_; clear hg_ hnew_; (first | rw [← Ny250.out] at ho32 | (simp only [Int.reduceToNat] at ho32; rw [← Ny250.out] at ho32)); have HO252 := yam (Kd.R_lower ho32 (below_size yhb)); replace BK237 := yam (blk_below (g := gb237) (o := .cells #[.int .i64 a0_0, .slice A0_1 l0_1.length c0_1, .int .i64 a0_2] 67 (0, 0)) (ybz BK237.out) hb); replace HB := yam (below_step yhb hb); clear hb ho32))
  go_ret
  exact ⟨_, yer, yka HO252.out, yhb⟩

 subst c5
 have H1 : ((spec_MasksValid.f k l1 a2).bind fun t239 => (if t239 = true then (if 0 ≤ (l0_1.length : Int) then (if ((l0_1.length : Int) : Int).toNat ≤ 35184372088832 then ((spec_l4Ways.f k a0_0 l0_1 a0_2 l1 (([] : List Int)) (List.replicate ((l0_1.length : Int) : Int).toNat 0)).bind fun t246 => (some t246)) else (none)) else (none)) else (some (([] : List Int))))) = some r := by rw [if_pos rfl] at H; exact H
 clear H
 have H := H1
 clear H1
 replace H := Option.bind_eq_some_iff.mp H
 obtain ⟨t239, A60, H⟩ := H
 try dsimp only at H
 have A6 := yam A60
 clear A60
 by_cases c7 : t239 = true
 rotate_left
 ·replace c7 := Bool.eq_false_iff.mpr c7
  subst c7
  have H1 : (some (([] : List Int))) = some r := by rw [if_neg (show ¬ (false = true) by decide)] at H; exact H
  clear H
  have H := H1
  clear H1
  obtain ⟨y247, hy247⟩ : ∃ y_ : List Int, y_ = (([] : List Int)) := ⟨_, rfl⟩
  replace H : (some y247) = some r := by first | (rw [hy247]; with_reducible exact H) | (have H2_ := (Option.bind_some _ _).symm.trans H; rw [hy247]; with_reducible exact H2_) | (have H2_ := (Option.bind_some _ _).symm.trans H; with_reducible exact H2_) | with_reducible exact H | (rw [hy247]; exact H) | exact H
  have Ny247 := yam hy247
  clear hy247
  obtain rfl := Option.some.inj H
  go_enter Try.func81, Try.ntmps81
  go_wp2_with (first | (refine ybe 3 #[.int .i64 a0_0, .slice A0_1 l0_1.length c0_1, .int .i64 a0_2] 67 ?_; intro gb237 hg w23 hbox hb; have n0_ := yam (below_step (yez HB.out) hb); have n1_ := yam (hbox); have n2_ := yam ((by rw [hg]; exact (below_size (yez HB.out)) : w.heap.size ≤ gb237)); have n3_ := n2_; clear HB; have HB := n0_; have BK237 := n1_; have GW237 := n2_; have GE237 := n3_; clear n0_ n1_ n2_ n3_; clear hb hbox hg; obtain ⟨hcz24_0, hcz24_1, hcz24_2, hfz24_0, hfz24_1, hfz24_2⟩ := ybc BK237.out) | (refine goesL_ (some 10) rfl rfl Try.func66 (by kernel_rfl) rfl #[.agg #[.int .i64 a0_0, .slice A0_1 l0_1.length c0_1, .int .i64 a0_2], .int .i64 a2] rfl ymd ?_; (with_reducible refine (spec_RuleValid.calls k a0_0 _ _ l0_1 a0_2 a2 true _ ?side1 ?side2 A4.out).mono ?_); (case side1 => exact Kd.Cz ((Kd.C_below HR0_1.out HB.out))); (case side2 => exact HC0_1.out); rintro e w25 ⟨rfl, hb⟩; refine ⟨_, rfl, ?_⟩; replace BK237 := yam (blk_below (g := gb237) (o := .cells #[.int .i64 a0_0, .slice A0_1 l0_1.length c0_1, .int .i64 a0_2] 67 (0, 0)) (ybz BK237.out) hb); replace HB := yam (below_step yhb hb); (try clear hb); (try clear hb2); (try clear hk); (try clear hi)) | (go_at_call 53; (with_reducible refine (spec_MasksValid.calls k _ _ l1 a2 false _ ?side1 ?side2 A6.out).mono ?_); (case side1 => exact Kd.Cz ((Kd.C_below HR1.out HB.out))); (case side2 => exact HC1.out); rintro e w' ⟨rfl, ⟨nd, rfl⟩⟩) | ((with_reducible refine gate_dst (N := 18) rfl ?_); refine Kd.R_lit (Kd.int .i64) _ 3 ?hg (N := 18) ?hd (xs := ([] : List Int)) (inner := []) (ok := fun _ => True) (okp := fun _ => True) ?hr ?hp (fun _ hk => hk) trivial (Below.refl _ _) (Nat.le_refl _) (by simp) ?_; (case hd => rfl); (case hg => rfl); (case hr => first | (go_simp; done) | (go_simp; rfl)); (case hp => exact (Reps.none _ _)); intro v248 w26 ho27 hb hg_ hnew_; clear hg_ hnew_; (first | rw [← Ny247.out] at ho27 | (simp only [Int.reduceToNat] at ho27; rw [← Ny247.out] at ho27)); have HO249 := yam (Kd.R_lower ho27 (below_size yhb)); replace BK237 := yam (blk_below (g := gb237) (o := .cells #[.int .i64 a0_0, .slice A0_1 l0_1.length c0_1, .int .i64 a0_2] 67 (0, 0)) (ybz BK237.out) hb); replace HB := yam (below_step yhb hb); clear hb ho27))
  go_ret
  exact ⟨_, yer, yka HO249.out, yhb⟩
 subst c7
 have H1 : (if 0 ≤ (l0_1.length : Int) then (if ((l0_1.length : Int) : Int).toNat ≤ 35184372088832 then ((spec_l4Ways.f k a0_0 l0_1 a0_2 l1 (([] : List Int)) (List.replicate ((l0_1.length : Int) : Int).toNat 0)).bind fun t246 => (some t246)) else (none)) else (none)) = some r := by rw [if_pos rfl] at H; exact H
 clear H
 have H := H1
 clear H1
 replace H := yig H
 obtain ⟨c8, H⟩ := H
 have c8b0 := eq_true c8
 have c8b1 : decide (0 ≤ (l0_1.length : Int)) = true := decide_eq_true c8
 clear c8
 replace H := yig H
 obtain ⟨c9, H⟩ := H
 have c9b0 := eq_true c9
 have c9b1 : decide (((l0_1.length : Int) : Int).toNat ≤ 35184372088832) = true := decide_eq_true c9
 clear c9
 obtain ⟨y240, hy240⟩ : ∃ y_ : List Int, y_ = (List.replicate ((l0_1.length : Int) : Int).toNat 0) := ⟨_, rfl⟩
 replace H : ((spec_l4Ways.f k a0_0 l0_1 a0_2 l1 (([] : List Int)) y240).bind fun t246 => (some t246)) = some r := by first | (rw [hy240]; with_reducible exact H) | (have H2_ := (Option.bind_some _ _).symm.trans H; rw [hy240]; with_reducible exact H2_) | (have H2_ := (Option.bind_some _ _).symm.trans H; with_reducible exact H2_) | with_reducible exact H | (rw [hy240]; exact H) | exact H
 have Ny240 := yam hy240
 clear hy240
 obtain ⟨y243, hy243⟩ : ∃ y_ : List Int, y_ = (([] : List Int)) := ⟨_, rfl⟩
 replace H : ((spec_l4Ways.f k a0_0 l0_1 a0_2 l1 y243 y240).bind fun t246 => (some t246)) = some r := by first | (rw [hy243]; with_reducible exact H) | (have H2_ := (Option.bind_some _ _).symm.trans H; rw [hy243]; with_reducible exact H2_) | (have H2_ := (Option.bind_some _ _).symm.trans H; with_reducible exact H2_) | with_reducible exact H | (rw [hy243]; exact H) | exact H
 have Ny243 := yam hy243
 clear hy243
 replace H := Option.bind_eq_some_iff.mp H
 obtain ⟨t246, A100, H⟩ := H
 try dsimp only at H
 have A10 := yam A100
 clear A100
 obtain rfl := Option.some.inj H
 go_enter Try.func81, Try.ntmps81
 go_wp2_with (first | (refine ybe 3 #[.int .i64 a0_0, .slice A0_1 l0_1.length c0_1, .int .i64 a0_2] 67 ?_; intro gb237 hg w11 hbox hb; have n0_ := yam (below_step (yez HB.out) hb); have n1_ := yam (hbox); have n2_ := yam ((by rw [hg]; exact (below_size (yez HB.out)) : w.heap.size ≤ gb237)); have n3_ := n2_; clear HB; have HB := n0_; have BK237 := n1_; have GW237 := n2_; have GE237 := n3_; clear n0_ n1_ n2_ n3_; clear hb hbox hg; obtain ⟨hcz12_0, hcz12_1, hcz12_2, hfz12_0, hfz12_1, hfz12_2⟩ := ybc BK237.out) | (refine goesL_ (some 10) rfl rfl Try.func66 (by kernel_rfl) rfl #[.agg #[.int .i64 a0_0, .slice A0_1 l0_1.length c0_1, .int .i64 a0_2], .int .i64 a2] rfl ymd ?_; (with_reducible refine (spec_RuleValid.calls k a0_0 _ _ l0_1 a0_2 a2 true _ ?side1 ?side2 A4.out).mono ?_); (case side1 => exact Kd.Cz ((Kd.C_below HR0_1.out HB.out))); (case side2 => exact HC0_1.out); rintro e w13 ⟨rfl, hb⟩; refine ⟨_, rfl, ?_⟩; replace BK237 := yam (blk_below (g := gb237) (o := .cells #[.int .i64 a0_0, .slice A0_1 l0_1.length c0_1, .int .i64 a0_2] 67 (0, 0)) (ybz BK237.out) hb); replace HB := yam (below_step yhb hb); (try clear hb); (try clear hb2); (try clear hk); (try clear hi)) | (go_at_call 53; (with_reducible refine (spec_MasksValid.calls k _ _ l1 a2 true _ ?side1 ?side2 A6.out).mono ?_); (case side1 => exact Kd.Cz ((Kd.C_below HR1.out HB.out))); (case side2 => exact HC1.out); rintro e w' ⟨rfl, ⟨nd, rfl⟩⟩; obtain ⟨hcz14_0, hcz14_1, hcz14_2, hfz14_0, hfz14_1, hfz14_2⟩ := ybc BK237.out) | ((with_reducible refine gate_dst (N := 22) rfl ?_); refine Kd.R_make (Kd.int .i64) _ 3 rfl (N := 22) rfl 22 _ _ rfl (l0_1.length : Int) rfl rfl Try.underlying22 (.int .i64 0) 8 info3 rfl (by decide) (by omega) 0 (ok := fun _ => True) (okp := fun _ => True) rfl (fun _ hk => hk) trivial (ydt) (Nat.le_trans (Nat.mul_le_mul_right _ (ydt : (l0_1.length : Int).toNat ≤ 35184372088832)) (by omega)) (Below.refl _ _) (Nat.le_refl _) ?_; intro v241 w15 ho16 hb hg_ hnew_; clear hg_ hnew_; (first | rw [← Ny240.out] at ho16 | (simp only [Int.reduceToNat] at ho16; rw [← Ny240.out] at ho16)); have HO242 := yam (Kd.R_lower ho16 (below_size yhb)); replace BK237 := yam (blk_below (g := gb237) (o := .cells #[.int .i64 a0_0, .slice A0_1 l0_1.length c0_1, .int .i64 a0_2] 67 (0, 0)) (ybz BK237.out) hb); replace HB := yam (below_step yhb hb); clear hb ho16; obtain ⟨hcz17_0, hcz17_1, hcz17_2, hfz17_0, hfz17_1, hfz17_2⟩ := ybc BK237.out) | ((with_reducible refine gate_dst (N := 25) rfl ?_); refine Kd.R_lit (Kd.int .i64) _ 3 ?hg (N := 25) ?hd (xs := ([] : List Int)) (inner := []) (ok := fun _ => True) (okp := fun _ => True) ?hr ?hp (fun _ hk => hk) trivial (Below.refl _ _) (Nat.le_refl _) (by simp) ?_; (case hd => rfl); (case hg => rfl); (case hr => first | (go_simp; done) | (go_simp; rfl)); (case hp => exact (Reps.none _ _)); intro v244 w18 ho19 hb hg_ hnew_; clear hg_ hnew_; (first | rw [← Ny243.out] at ho19 | (simp only [Int.reduceToNat] at ho19; rw [← Ny243.out] at ho19)); have HO245 := yam (Kd.R_lower (Kd.Yw ho19 (Kd.R_lt (Kd.Yz HO242.out))) (below_size yhb)); replace HO242 := yam (Kd.Ye (Kd.Yz HO242.out) (Kd.Yb ho19) hb); replace BK237 := yam (blk_below (g := gb237) (o := .cells #[.int .i64 a0_0, .slice A0_1 l0_1.length c0_1, .int .i64 a0_2] 67 (0, 0)) (ybz BK237.out) hb); replace HB := yam (below_step yhb hb); clear hb ho19; obtain ⟨Ao20, co20, eo20⟩ := Kd.R_slice HO245.out; subst eo20; obtain ⟨Ao21, co21, eo21⟩ := Kd.R_slice HO242.out; subst eo21) | (refine goesL_ (some 27) rfl rfl Try.func90 (by kernel_rfl) rfl #[.agg #[.int .i64 a0_0, .slice A0_1 l0_1.length c0_1, .int .i64 a0_2], .slice A1 l1.length c1, .slice Ao20 y243.length co20, .slice Ao21 y240.length co21] rfl ymd ?_; (with_reducible refine (spec_l4Ways.calls k a0_0 _ _ l0_1 a0_2 _ _ l1 _ _ y243 (fun k_ => some k_ = (.slice Ao21 y240.length co21 : Value).ownBlock) (.slice Ao21 y240.length co21) y240 t246 w _ ?side1 ?side2 ?side3 ?side4 ?side5 ?side6 ?side7 ?side8 A10.out).mono ?_); (case side1 => repeat (first | (with_reducible first | exact HB.out | apply yea | apply yen | apply yed | refine below_set ?_ GE237.out) | exact HB.out)); (case side2 => exact Kd.C_kept_came (Kd.heap_int .i64) HR0_1.out yhb (fun k_ hs_ => (fun e_ => Kd.Yb HO242.out k_ e_.symm) hs_)); (case side3 => exact HC0_1.out); (case side4 => exact Kd.C_kept_came (Kd.heap_int .i64) HR1.out yhb (fun k_ hs_ => (fun e_ => Kd.Yb HO242.out k_ e_.symm) hs_)); (case side5 => exact HC1.out); (case side6 => exact Kd.C_kept_own (HO245.out) (fun k_ hk_ hs_ => (hk_.2) hs_)); (case side7 => exact (Kd.Yr HO245.out).2.1); (case side8 => exact Kd.R_tight rfl HO242.out); rintro e w22 ⟨rfl, hy0, hb, hkp⟩; refine ⟨_, rfl, ?_⟩; replace BK237 := yam (blk_kept (ybz BK237.out) hkp (fun hs_ => (fun e_ => (Kd.R_ne HO242.out BK237.out (by decide)) e_) hs_)); replace HO242 := yam (Kd.R_reok rfl hy0 (fun k_ e_ => HO242.out.1 k_ e_)); replace HO245 := yam (Kd.R_mono (ok' := fun k_ => some k_ ≠ (.slice Ao21 y240.length co21 : Value).ownBlock) (Kd.R_keptB (HO245.out) hkp (fun k_ hk_ hs_ => (hk_.2) hs_)) (fun k_ hk_ => hk_.1.2)); replace HB := yam (hb); (try clear hb); (try clear hkp); (try clear hy0)))
 go_ret
 exact ⟨_, yer, by (with_reducible repeat (first | apply Kd.Ya | apply Kd.Yn | apply Kd.Yd)); exact Kd.R_mono HO242.out (fun _ hk => trivial), yhb⟩
mutual
def spec_NarrowRules.j0 : Nat → List Int → Bool → Int → List Int → List (S67) → Option (List Int)
 | 0, _, _, _, _, _ => none
 | k + 1, x1, x19, x254000, x254001, x254002 => if x19 = true then (some (([] : List Int))) else ((spec_l6Copy.f x1).bind fun t259 => (spec_NarrowRules.l0 k t259 0 x254000 x254001 x254002))
def spec_NarrowRules.l0 : Nat → List Int → Int → Int → List Int → List (S67) → Option (List Int)
 | 0, _, _, _, _, _ => none
 | k + 1, x5, x6, x254000, x254001, x254002 => if x6 < (x254002.length : Int) then (if 0 ≤ x6 then ((spec_RuleMasks.f k ((rd_T67 x254002 x6).f0) ((rd_T67 x254002 x6).f1) ((rd_T67 x254002 x6).f2) x5 x254000).bind fun t264 => (spec_NarrowRules.l1 k x5 x6 t264 0 x254000 x254001 x254002 ((rd_T67 x254002 x6).f0) ((rd_T67 x254002 x6).f1) ((rd_T67 x254002 x6).f2))) else (none)) else (some x5)
def spec_NarrowRules.l1 : Nat → List Int → Int → List Int → Int → Int → List Int → List (S67) → Int → List Int → Int → Option (List Int)
 | 0, _, _, _, _, _, _, _, _, _, _ => none
 | k + 1, x5, x6, x8, x9, x254000, x254001, x254002, x264000, x264001, x264002 => if x9 < (x264001.length : Int) then (if 0 ≤ x9 then (if x9 < (x8.length : Int) then (if 0 ≤ (rd x264001 x9) then (if (rd x264001 x9) < (x5.length : Int) then (spec_NarrowRules.l1 k (x5.set ((rd x264001 x9) : Int).toNat (rd x8 x9)) x6 x8 (wrap64 (x9 + 1)) x254000 x254001 x254002 x264000 x264001 x264002) else (none)) else (none)) else (none)) else (none)) else (spec_NarrowRules.l0 k x5 (wrap64 (x6 + 1)) x254000 x254001 x254002)
end
def spec_NarrowRules.f (k : Nat) (a0_0 : Int) (l0_1 : List Int) (l0_2 : List (S67)) (l1 : List Int) : Option (List Int) := (spec_PuzzleValid.f k a0_0 l0_1 l0_2).bind fun t254 => (if t254 = true then ((spec_MasksValid.f k l1 a0_0).bind fun t255 => (spec_NarrowRules.j0 k l1 (!t255) a0_0 l0_1 l0_2)) else (spec_NarrowRules.j0 k l1 true a0_0 l0_1 l0_2))
def spec_NarrowRules.T12 : Bool × List (List Nat × List Nat) := (true, [([], []), ([], []), ([1], [1]), ([], []), ([2, 3], [2, 3]), ([4], [4]), ([], []), ([], []), ([6, 7], [6, 7]), ([8], [8]), ([0, 5, 0, 1, 2, 3, 4, 5, 6, 7, 8, 9], [0, 5]), ([10, 9, 0, 1, 2, 3, 4, 5, 6, 7, 8, 9], [9, 10])])
def spec_NarrowRules.B12 : List Nat := [0, 0, 2, 0, 14, 30, 0, 0, 192, 448, 1023, 2047]
theorem spec_NarrowRules.tab12 : rtab .any (opsOf Try.f57 12) = spec_NarrowRules.T12 := by kernel_rfl
theorem spec_NarrowRules.bits12 : waitsOk spec_NarrowRules.T12.2 spec_NarrowRules.B12 = true := by kernel_rfl
set_option maxHeartbeats 8000000 in
set_option maxRecDepth 100000 in
theorem spec_NarrowRules.calls (k : Nat) (a0_0 : Int) (A0_1 : Option Addr) (c0_1 : Nat) (l0_1 : List Int) (A0_2 : Option Addr) (c0_2 : Nat) (l0_2 : List (S67)) (A1 : Option Addr) (c1 : Nat) (l1 : List Int) (r : List Int) (w : World) (hr0_1 : Kd.C (Kd.int .i64) w A0_1 l0_1.length l0_1) (hc0_1 : l0_1.length ≤ c0_1) (hr0_2 : Kd.C k67 w A0_2 l0_2.length l0_2) (hc0_2 : l0_2.length ≤ c0_2) (hr1 : Kd.C (Kd.int .i64) w A1 l1.length l1) (hc1 : l1.length ≤ c1) (h : spec_NarrowRules.f k a0_0 l0_1 l0_2 l1 = some r) :
  Calls Try.prog 57 #[.agg #[.int .i64 a0_0, .slice A0_1 l0_1.length c0_1, .slice A0_2 l0_2.length c0_2], .slice A1 l1.length c1] w fun e w' => ∃ v0_ : Value, e = .returned (v0_) ∧ Kd.R (Kd.int .i64) 3 w' w.heap.size (fun _ => True) v0_ r ∧ Below w.heap.size w w' := by
 have hu30 := Try.underlying30
 have hu67 := Try.underlying67
 have HR0_1 := yam hr0_1
 have HC0_1 := yam hc0_1
 clear hr0_1 hc0_1
 have HR0_2 := yam hr0_2
 have HC0_2 := yam hc0_2
 clear hr0_2 hc0_2
 have HR1 := yam hr1
 have HC1 := yam hc1
 clear hr1 hc1
 have HB := yam (Below.refl w.heap.size w)
 have H : ((spec_PuzzleValid.f k a0_0 l0_1 l0_2).bind fun t254 => (if t254 = true then ((spec_MasksValid.f k l1 a0_0).bind fun t255 => (spec_NarrowRules.j0 k l1 (!t255) a0_0 l0_1 l0_2)) else (spec_NarrowRules.j0 k l1 true a0_0 l0_1 l0_2))) = some r := h
 clear h
 have HC3 := yam H
 clear H
 go_enter Try.func57, Try.ntmps57
 go_upto_region 1 with (first | (refine ybe 2 #[.int .i64 a0_0, .slice A0_1 l0_1.length c0_1, .slice A0_2 l0_2.length c0_2] 30 ?_; intro gb253 hg w4 hbox hb; have n0_ := yam (below_step (yez HB.out) hb); have n1_ := yam (hbox); have n2_ := yam ((by rw [hg]; exact (below_size (yez HB.out)) : w.heap.size ≤ gb253)); have n3_ := n2_; clear HB; have HB := n0_; have BK253 := n1_; have GW253 := n2_; have GE253 := n3_; clear n0_ n1_ n2_ n3_; clear hb hbox hg))
 (try simp only [Act.put, yps])
 go_cut [19] (fun v19 wc => ∃ (kq : Nat) (x19_2 : Bool), v19 = .bool x19_2 ∧ Aside0 (spec_NarrowRules.j0 kq l1 x19_2 a0_0 l0_1 l0_2 = some r) ∧ Aside0 (kq ≤ k) ∧ Aside0 (wc.heap[gb253]? = some (.cells #[.int .i64 a0_0, (.slice A0_1 l0_1.length c0_1), (.slice A0_2 l0_2.length c0_2)] 30 (0, 0))) ∧ Aside0 (Below w.heap.size w wc))
 case first =>
  have H := HC3.out
  clear HC3
  replace H := Option.bind_eq_some_iff.mp H
  obtain ⟨t254, A50, H⟩ := H
  try dsimp only at H
  have A5 := yam A50
  clear A50
  by_cases c6 : t254 = true
  rotate_left
  ·replace c6 := Bool.eq_false_iff.mpr c6
   subst c6
   have H1 : (spec_NarrowRules.j0 k l1 true a0_0 l0_1 l0_2) = some r := by rw [if_neg (show ¬ (false = true) by decide)] at H; exact H
   clear H
   have H := H1
   clear H1
   have H' := yam H
   clear H
   obtain ⟨hcz11_0, hcz11_1, hcz11_2, hfz11_0, hfz11_1, hfz11_2⟩ := ybc BK253.out
   go_wp2_with (first | (refine goesL_ (some 11) rfl rfl Try.func34 (by kernel_rfl) rfl #[.agg #[.int .i64 a0_0, .slice A0_1 l0_1.length c0_1, .slice A0_2 l0_2.length c0_2]] rfl ymd ?_; (with_reducible refine (spec_PuzzleValid.calls k a0_0 _ _ l0_1 _ _ l0_2 false _ ?side1 ?side2 ?side3 ?side4 A5.out).mono ?_); (case side1 => exact Kd.Cz ((Kd.C_below HR0_1.out HB.out))); (case side2 => exact HC0_1.out); (case side3 => exact Kd.Cz ((Kd.C_below HR0_2.out HB.out))); (case side4 => exact HC0_2.out); rintro e w12 ⟨rfl, hb⟩; refine ⟨_, rfl, ?_⟩; replace BK253 := yam (blk_below (g := gb253) (o := .cells #[.int .i64 a0_0, .slice A0_1 l0_1.length c0_1, .slice A0_2 l0_2.length c0_2] 30 (0, 0)) (ybz BK253.out) hb); replace HB := yam (below_step yhb hb); (try clear hb); (try clear hb2); (try clear hk); (try clear hi)))
   go_meet
   case rel => exact ⟨_, (true), yeq, H', ⟨by first | omega | exact Nat.le_refl _⟩, ⟨by (with_reducible repeat (first | refine ybn ?_ _ | refine ybd ?_ | refine yba ?_ _)); exact BK253.out⟩, ⟨yhb⟩⟩
  subst c6
  have H1 : ((spec_MasksValid.f k l1 a0_0).bind fun t255 => (spec_NarrowRules.j0 k l1 (!t255) a0_0 l0_1 l0_2)) = some r := by rw [if_pos rfl] at H; exact H
  clear H
  have H := H1
  clear H1
  replace H := Option.bind_eq_some_iff.mp H
  obtain ⟨t255, A70, H⟩ := H
  try dsimp only at H
  have A7 := yam A70
  clear A70
  have H' := yam H
  clear H
  obtain ⟨hcz8_0, hcz8_1, hcz8_2, hfz8_0, hfz8_1, hfz8_2⟩ := ybc BK253.out
  go_wp2_with (first | (refine goesL_ (some 11) rfl rfl Try.func34 (by kernel_rfl) rfl #[.agg #[.int .i64 a0_0, .slice A0_1 l0_1.length c0_1, .slice A0_2 l0_2.length c0_2]] rfl ymd ?_; (with_reducible refine (spec_PuzzleValid.calls k a0_0 _ _ l0_1 _ _ l0_2 true _ ?side1 ?side2 ?side3 ?side4 A5.out).mono ?_); (case side1 => exact Kd.Cz ((Kd.C_below HR0_1.out HB.out))); (case side2 => exact HC0_1.out); (case side3 => exact Kd.Cz ((Kd.C_below HR0_2.out HB.out))); (case side4 => exact HC0_2.out); rintro e w9 ⟨rfl, hb⟩; refine ⟨_, rfl, ?_⟩; replace BK253 := yam (blk_below (g := gb253) (o := .cells #[.int .i64 a0_0, .slice A0_1 l0_1.length c0_1, .slice A0_2 l0_2.length c0_2] 30 (0, 0)) (ybz BK253.out) hb); replace HB := yam (below_step yhb hb); (try clear hb); (try clear hb2); (try clear hk); (try clear hi); obtain ⟨hcz10_0, hcz10_1, hcz10_2, hfz10_0, hfz10_1, hfz10_2⟩ := ybc BK253.out) | (go_at_call 53; (with_reducible refine (spec_MasksValid.calls k _ _ l1 a0_0 t255 _ ?side1 ?side2 A7.out).mono ?_); (case side1 => exact Kd.Cz ((Kd.C_below HR1.out HB.out))); (case side2 => exact HC1.out); rintro e w' ⟨rfl, ⟨nd, rfl⟩⟩))
  go_meet
  case rel => exact ⟨_, (!t255), yeq, H', ⟨by first | omega | exact Nat.le_refl _⟩, ⟨by (with_reducible repeat (first | refine ybn ?_ _ | refine ybd ?_ | refine yba ?_ _)); exact BK253.out⟩, ⟨yhb⟩⟩
 case rest =>
  clear HC3
  try clear c1
  try clear p2
  try clear c3
  try clear c5
  try clear c6
  try clear hcz10_0
  try clear hcz10_1
  try clear hcz10_2
  try clear hcz11_0
  try clear hcz11_1
  try clear hcz11_2
  try clear hcz8_0
  try clear hcz8_1
  try clear hcz8_2
  try clear hfz10_0
  try clear hfz10_1
  try clear hfz10_2
  try clear hfz11_0
  try clear hfz11_1
  try clear hfz11_2
  try clear hfz8_0
  try clear hfz8_1
  try clear hfz8_2
  obtain ⟨kq, x19_2, rfl, HA, HJ2, BK253, HB⟩ := hcut
  cases kq with
  | zero => exact absurd HA.out (by simp [spec_NarrowRules.j0])
  | succ kj2 =>
   have H := HA.out
   clear HA
   simp only [spec_NarrowRules.j0] at H
   by_cases c13 : x19_2 = true
   ·subst c13
    have H1 : (some (([] : List Int))) = some r := by rw [if_pos rfl] at H; exact H
    clear H
    have H := H1
    clear H1
    obtain ⟨y256, hy256⟩ : ∃ y_ : List Int, y_ = (([] : List Int)) := ⟨_, rfl⟩
    replace H : (some y256) = some r := by first | (rw [hy256]; with_reducible exact H) | (have H2_ := (Option.bind_some _ _).symm.trans H; rw [hy256]; with_reducible exact H2_) | (have H2_ := (Option.bind_some _ _).symm.trans H; with_reducible exact H2_) | with_reducible exact H | (rw [hy256]; exact H) | exact H
    have Ny256 := yam hy256
    clear hy256
    obtain rfl := Option.some.inj H
    go_wp2_with (first | ((with_reducible refine gate_dst (N := 20) rfl ?_); refine Kd.R_lit (Kd.int .i64) _ 3 ?hg (N := 20) ?hd (xs := ([] : List Int)) (inner := []) (ok := fun _ => True) (okp := fun _ => True) ?hr ?hp (fun _ hk => hk) trivial (Below.refl _ _) (Nat.le_refl _) (by simp) ?_; (case hd => rfl); (case hg => rfl); (case hr => first | (go_simp; done) | (go_simp; rfl)); (case hp => exact (Reps.none _ _)); intro v257 w14 ho15 hb hg_ hnew_; clear hg_ hnew_; (first | rw [← Ny256.out] at ho15 | (simp only [Int.reduceToNat] at ho15; rw [← Ny256.out] at ho15)); have HO258 := yam (Kd.R_lower ho15 (below_size yhb)); replace BK253 := yam (blk_below (g := gb253) (o := .cells #[.int .i64 a0_0, .slice A0_1 l0_1.length c0_1, .slice A0_2 l0_2.length c0_2] 30 (0, 0)) (ybz BK253.out) hb); replace HB := yam (below_step yhb hb); clear hb ho15))
    go_ret
    exact ⟨_, yer, yka HO258.out, yhb⟩
   replace c13 := Bool.eq_false_iff.mpr c13
   subst c13
   have H1 : ((spec_l6Copy.f l1).bind fun t259 => (spec_NarrowRules.l0 kj2 t259 0 a0_0 l0_1 l0_2)) = some r := by rw [if_neg (show ¬ (false = true) by decide)] at H; exact H
   clear H
   have H := H1
   clear H1
   replace H := Option.bind_eq_some_iff.mp H
   obtain ⟨t259, A160, H⟩ := H
   try dsimp only at H
   have A16 := yam A160
   clear A160
   have H' := yam H
   clear H
   go_wp2_with (first | (refine goesL_ (some 22) rfl rfl Try.func62 (by kernel_rfl) rfl #[.slice A1 l1.length c1] rfl ymd ?_; (with_reducible refine (spec_l6Copy.calls _ _ l1 t259 _ ?side1 ?side2 A16.out).mono ?_); (case side1 => exact Kd.Cz ((Kd.C_below HR1.out HB.out))); (case side2 => exact HC1.out); rintro e w17 ⟨v260, rfl, ho0, hb⟩; refine ⟨_, rfl, ?_⟩; have HO261 := yam (Kd.R_lower ho0 (below_size yhb)); replace BK253 := yam (blk_below (g := gb253) (o := .cells #[.int .i64 a0_0, .slice A0_1 l0_1.length c0_1, .slice A0_2 l0_2.length c0_2] 30 (0, 0)) (ybz BK253.out) hb); replace HB := yam (below_step yhb hb); (try clear hb); (try clear hb2); (try clear hk); (try clear hi); (try clear ho0)))
   go_loopg [6] kj2 (fun kq v6 w' => ∃ (x5_2 : List Int) (x6_2 : Int), v6 = .int .i64 x6_2 ∧ Aside0 (spec_NarrowRules.l0 kq x5_2 x6_2 a0_0 l0_1 l0_2 = some r) ∧ Aside0 (kq ≤ kj2) ∧ Aside0 (Kd.R (Kd.int .i64) 3 w' w.heap.size (fun _ => True) v260 x5_2) ∧ Aside0 (w'.heap[gb253]? = some (.cells #[.int .i64 a0_0, (.slice A0_1 l0_1.length c0_1), (.slice A0_2 l0_2.length c0_2)] 30 (0, 0))) ∧ Aside0 (Below w.heap.size w w'))
   case atStart => exact ⟨(t259), (0), yeq, H', ⟨Nat.le_refl _⟩, ⟨yka HO261.out⟩, ⟨by (with_reducible repeat (first | refine ybn ?_ _ | refine ybd ?_ | refine yba ?_ _)); exact BK253.out⟩, ⟨yhb⟩⟩
   case round =>
    clear H'
    try clear c1
    try clear p2
    try clear c3
    try clear c5
    try clear c6
    try clear c13
    try clear hcz10_0
    try clear hcz10_1
    try clear hcz10_2
    try clear hcz11_0
    try clear hcz11_1
    try clear hcz11_2
    try clear hcz8_0
    try clear hcz8_1
    try clear hcz8_2
    try clear hfz10_0
    try clear hfz10_1
    try clear hfz10_2
    try clear hfz11_0
    try clear hfz11_1
    try clear hfz11_2
    try clear hfz8_0
    try clear hfz8_1
    try clear hfz8_2
    try clear p2
    obtain ⟨x5_2, x6_2, rfl, HA, HK2, HO_5, BK253, HB⟩ := hrel
    cases gk with
    | zero => exact absurd HA.out (by simp [spec_NarrowRules.l0])
    | succ k2 =>
     have H := HA.out
     clear HA
     simp only [spec_NarrowRules.l0] at H
     by_cases c18 : x6_2 < (l0_2.length : Int)
     rotate_left
     ·rw [if_neg c18] at H
      have c18b0 : decide (x6_2 < (l0_2.length : Int)) = false := decide_eq_false c18
      clear c18
      obtain rfl := Option.some.inj H
      obtain ⟨hcz41_0, hcz41_1, hcz41_2, hfz41_0, hfz41_1, hfz41_2⟩ := ybc BK253.out
      go_wp2
      go_ret
      exact ⟨_, yer, yka HO_5.out, yhb⟩

     rw [if_pos c18] at H
     have c18b0 : decide (x6_2 < (l0_2.length : Int)) = true := decide_eq_true c18
     clear c18
     replace H := yif H
     obtain ⟨c19b0, H⟩ := H
     replace H := Option.bind_eq_some_iff.mp H
     obtain ⟨t264, A200, H⟩ := H
     try dsimp only at H
     have A20 := yam A200
     clear A200
     have H' := yam H
     clear H
     obtain ⟨hcz21_0, hcz21_1, hcz21_2, hfz21_0, hfz21_1, hfz21_2⟩ := ybc BK253.out
     have p262 : 0 ≤ (x6_2 : Int) := ydt
     have q262 : x6_2 < (l0_2.length : Int) := ydt
     obtain ⟨ad262, A262_1, c262_1, e262, hx262_0, hx262_1, hx262_2, hl262_1, hi262_1⟩ := at_T67 HR0_2.out x6_2 p262 q262
     cases e262
     replace hx262_0 := ybx HB.out hx262_0
     replace hx262_1 := ybx HB.out hx262_1
     replace hx262_2 := ybx HB.out hx262_2
     have HR262_1 := yam hi262_1
     have HC262_1 := yam hl262_1
     clear hi262_1 hl262_1
     replace p262 := eq_true p262
     replace q262 := eq_true q262
     go_wp2_with (first | (refine ybe 7 #[.int .i64 0, .slice none 0 0, .int .i64 0] 67 ?_; intro gb263 hg w22 hbox hb; have n0_ := yam (Kd.R_below (Kd.Yz HO_5.out) hb); have n1_ := yam (blk_below (g := gb253) (o := .cells #[.int .i64 a0_0, .slice A0_1 l0_1.length c0_1, .slice (some ad262) l0_2.length c0_2] 30 (0, 0)) (ybz BK253.out) hb); have n2_ := yam (below_step yhb hb); have n3_ := yam (hbox); have n4_ := yam ((by rw [hg]; exact (below_size yhb) : w.heap.size ≤ gb263)); have n5_ := n4_; have n6_ := yam ((by rw [hg]; exact Nat.ne_of_lt (blk_lt (g := gb253) (o := .cells #[.int .i64 a0_0, .slice A0_1 l0_1.length c0_1, .slice (some ad262) l0_2.length c0_2] 30 (0, 0)) (ybz BK253.out)) : gb253 ≠ gb263)); have n7_ := yam ((by rw [hg]; exact Nat.ne_of_gt (blk_lt (g := gb253) (o := .cells #[.int .i64 a0_0, .slice A0_1 l0_1.length c0_1, .slice (some ad262) l0_2.length c0_2] 30 (0, 0)) (ybz BK253.out)) : gb263 ≠ gb253)); clear HO_5; clear BK253; clear HB; have HO_5 := n0_; have BK253 := n1_; have HB := n2_; have BK263 := n3_; have GW263 := n4_; have GE263 := n5_; have NB253_263 := n6_; have NB263_253 := n7_; clear n0_ n1_ n2_ n3_ n4_ n5_ n6_ n7_; clear hb hbox hg; have hnb23 := NB263_253.out; have hnc23 := NB253_263.out; obtain ⟨hcz24_0, hcz24_1, hcz24_2, hfz24_0, hfz24_1, hfz24_2⟩ := ybc BK263.out; obtain ⟨hcz25_0, hcz25_1, hcz25_2, hfz25_0, hfz25_1, hfz25_2⟩ := ybc BK253.out; obtain ⟨Ao26, co26, eo26⟩ := Kd.R_slice HO_5.out; subst eo26) | (refine goesL_ (some 39) rfl rfl Try.func81 (by kernel_rfl) rfl #[.agg #[.int .i64 ((rd_T67 l0_2 x6_2).f0), .slice A262_1 ((rd_T67 l0_2 x6_2).f1).length c262_1, .int .i64 ((rd_T67 l0_2 x6_2).f2)], .slice Ao26 x5_2.length co26, .int .i64 a0_0] rfl ymd ?_; (with_reducible refine (spec_RuleMasks.calls k2 ((rd_T67 l0_2 x6_2).f0) _ _ ((rd_T67 l0_2 x6_2).f1) ((rd_T67 l0_2 x6_2).f2) _ _ x5_2 a0_0 t264 _ ?side1 ?side2 ?side3 ?side4 A20.out).mono ?_); (case side1 => exact Kd.C_below HR262_1.out yhb); (case side2 => exact HC262_1.out); (case side3 => refine (Kd.Yr (e := 3) (base := w.heap.size) (ok := fun k_ => True) (n := x5_2.length) (c := co26) ?_).2.2; exact (by (with_reducible repeat (first | apply Kd.Ya | apply Kd.Yn | apply Kd.Yd)); exact (Kd.R_mono (Kd.R_far (p := ⟨gb263, 2, none⟩) (Kd.R_far (p := ⟨gb263, 1, none⟩) (Kd.R_far (p := ⟨gb263, 0, none⟩) (Kd.R_types HO_5.out BK263.out (by decide)) (fun _ hk => hk.2) (.int .i64 ((rd_T67 l0_2 x6_2).f0))) (fun _ hk => hk.2) (.slice A262_1 ((rd_T67 l0_2 x6_2).f1).length c262_1)) (fun _ hk => hk.2) (.int .i64 ((rd_T67 l0_2 x6_2).f2))) (fun _ h_ => h_.1)))); (case side4 => exact (Kd.Yr HO_5.out).2.1); rintro e w27 ⟨v265, rfl, ho0, hb⟩; refine ⟨_, rfl, ?_⟩; have HO266 := yam (Kd.R_lower (Kd.Yw ho0 (Kd.R_lt (by (with_reducible repeat (first | apply Kd.Ya | apply Kd.Yn | apply Kd.Yd)); exact (Kd.R_mono (Kd.R_far (p := ⟨gb263, 2, none⟩) (Kd.R_far (p := ⟨gb263, 1, none⟩) (Kd.R_far (p := ⟨gb263, 0, none⟩) (Kd.R_types HO_5.out BK263.out (by decide)) (fun _ hk => hk.2) (.int .i64 ((rd_T67 l0_2 x6_2).f0))) (fun _ hk => hk.2) (.slice A262_1 ((rd_T67 l0_2 x6_2).f1).length c262_1)) (fun _ hk => hk.2) (.int .i64 ((rd_T67 l0_2 x6_2).f2))) (fun _ h_ => h_.1))))) (below_size yhb)); replace HO_5 := yam (Kd.Ye (by (with_reducible repeat (first | apply Kd.Ya | apply Kd.Yn | apply Kd.Yd)); exact (Kd.R_mono (Kd.R_far (p := ⟨gb263, 2, none⟩) (Kd.R_far (p := ⟨gb263, 1, none⟩) (Kd.R_far (p := ⟨gb263, 0, none⟩) (Kd.R_types HO_5.out BK263.out (by decide)) (fun _ hk => hk.2) (.int .i64 ((rd_T67 l0_2 x6_2).f0))) (fun _ hk => hk.2) (.slice A262_1 ((rd_T67 l0_2 x6_2).f1).length c262_1)) (fun _ hk => hk.2) (.int .i64 ((rd_T67 l0_2 x6_2).f2))) (fun _ h_ => h_.1))) (Kd.Yb ho0) hb); replace BK253 := yam (blk_below (g := gb253) (o := .cells #[.int .i64 a0_0, .slice A0_1 l0_1.length c0_1, .slice (some ad262) l0_2.length c0_2] 30 (0, 0)) (by (with_reducible repeat (first | refine ybn ?_ _ | refine ybd ?_ | refine yba ?_ _)); refine blk_far ?_ NB253_263.out _; (with_reducible repeat (first | refine ybn ?_ _ | refine ybd ?_ | refine yba ?_ _)); refine blk_far ?_ NB253_263.out _; (with_reducible repeat (first | refine ybn ?_ _ | refine ybd ?_ | refine yba ?_ _)); refine blk_far ?_ NB253_263.out _; (with_reducible repeat (first | refine ybn ?_ _ | refine ybd ?_ | refine yba ?_ _)); exact BK253.out) hb); replace BK263 := yam (blk_below (g := gb263) (o := .cells #[.int .i64 ((rd_T67 l0_2 x6_2).f0), .slice A262_1 ((rd_T67 l0_2 x6_2).f1).length c262_1, .int .i64 ((rd_T67 l0_2 x6_2).f2)] 67 (0, 0)) (by (with_reducible repeat (first | refine ybn ?_ _ | refine ybd ?_ | refine yba ?_ _)); refine blk_put (cs := #[.int .i64 ((rd_T67 l0_2 x6_2).f0), .slice A262_1 ((rd_T67 l0_2 x6_2).f1).length c262_1, .int .i64 0]) ?_ 2 _ rfl; (with_reducible repeat (first | refine ybn ?_ _ | refine ybd ?_ | refine yba ?_ _)); refine blk_put (cs := #[.int .i64 ((rd_T67 l0_2 x6_2).f0), .slice none 0 0, .int .i64 0]) ?_ 1 _ rfl; (with_reducible repeat (first | refine ybn ?_ _ | refine ybd ?_ | refine yba ?_ _)); refine blk_put (cs := #[.int .i64 0, .slice none 0 0, .int .i64 0]) ?_ 0 _ rfl; (with_reducible repeat (first | refine ybn ?_ _ | refine ybd ?_ | refine yba ?_ _)); exact BK263.out) hb); replace HB := yam (below_step yhb hb); (try clear hb); (try clear hb2); (try clear hk); (try clear hi); (try clear ho0)))
     go_loopg [9] k2 (fun kq v9 w' => ∃ (x5_3 : List Int) (x9_3 : Int), v9 = .int .i64 x9_3 ∧ Aside0 (spec_NarrowRules.l1 kq x5_3 x6_2 t264 x9_3 a0_0 l0_1 l0_2 ((rd_T67 l0_2 x6_2).f0) ((rd_T67 l0_2 x6_2).f1) ((rd_T67 l0_2 x6_2).f2) = some r) ∧ Aside0 (kq ≤ k2) ∧ Aside0 (Kd.R (Kd.int .i64) 3 w' w.heap.size (fun k_ => some k_ ≠ (v265 : Value).ownBlock) (.slice Ao26 x5_2.length co26) x5_3) ∧ Aside0 (Kd.R (Kd.int .i64) 3 w' w.heap.size (fun k_ => some k_ ≠ ((.slice Ao26 x5_2.length co26) : Value).ownBlock) v265 t264) ∧ Aside0 (w'.heap[gb253]? = some (.cells #[.int .i64 a0_0, (.slice A0_1 l0_1.length c0_1), (.slice (some ad262) l0_2.length c0_2)] 30 (0, 0))) ∧ Aside0 (w'.heap[gb263]? = some (.cells #[.int .i64 ((rd_T67 l0_2 x6_2).f0), (.slice A262_1 ((rd_T67 l0_2 x6_2).f1).length c262_1), .int .i64 ((rd_T67 l0_2 x6_2).f2)] 67 (0, 0))) ∧ Aside0 (Below w.heap.size w w'))
     case atStart => exact ⟨(x5_2), (0), yeq, H', ⟨Nat.le_refl _⟩, ⟨by (with_reducible repeat (first | apply Kd.Ya | apply Kd.Yn | apply Kd.Yd)); exact Kd.R_mono HO_5.out (fun _ hk => hk.2)⟩, ⟨by (with_reducible repeat (first | apply Kd.Ya | apply Kd.Yn | apply Kd.Yd)); exact Kd.R_mono HO266.out (fun _ hk => hk.2)⟩, ⟨by (with_reducible repeat (first | refine ybn ?_ _ | refine ybd ?_ | refine yba ?_ _)); exact BK253.out⟩, ⟨by (with_reducible repeat (first | refine ybn ?_ _ | refine ybd ?_ | refine yba ?_ _)); exact BK263.out⟩, ⟨yhb⟩⟩
     case round =>
      clear H'
      try clear c1
      try clear c2
      try clear p2
      try clear q2
      try clear hx2
      try clear c3
      try clear c5
      try clear c6
      try clear c8
      try clear c13
      try clear c18
      try clear c18b0
      try clear c19
      try clear c19b0
      try clear c23
      try clear c26
      try clear p26
      try clear q26
      try clear hx26
      try clear hcz10_0
      try clear hcz10_1
      try clear hcz10_2
      try clear hcz11_0
      try clear hcz11_1
      try clear hcz11_2
      try clear hcz21_0
      try clear hcz21_1
      try clear hcz21_2
      try clear hcz24_0
      try clear hcz24_1
      try clear hcz24_2
      try clear hcz25_0
      try clear hcz25_1
      try clear hcz25_2
      try clear hcz8_0
      try clear hcz8_1
      try clear hcz8_2
      try clear hfz10_0
      try clear hfz10_1
      try clear hfz10_2
      try clear hfz11_0
      try clear hfz11_1
      try clear hfz11_2
      try clear hfz21_0
      try clear hfz21_1
      try clear hfz21_2
      try clear hfz24_0
      try clear hfz24_1
      try clear hfz24_2
      try clear hfz25_0
      try clear hfz25_1
      try clear hfz25_2
      try clear hfz8_0
      try clear hfz8_1
      try clear hfz8_2
      try clear hx262_0
      try clear hx262_1
      try clear hx262_2
      try clear p2
      try clear p262
      try clear q262
      obtain ⟨x5_3, x9_3, rfl, HA, HK3, HO_5, HO_8, BK253, BK263, HB⟩ := hrel
      have hl5_3 := (Kd.Yr HO_5.out).1
      rw [hl5_3] at HO_5
      (try simp only [hl5_3])
      (try simp only [hl5_3] at BK253)
      (try simp only [hl5_3] at BK263)
      (try simp only [hl5_3] at HO_8)
      cases gk with
      | zero => exact absurd HA.out (by simp [spec_NarrowRules.l1])
      | succ k3 =>
       have H := HA.out
       clear HA
       simp only [spec_NarrowRules.l1] at H
       by_cases c28 : x9_3 < (((rd_T67 l0_2 x6_2).f1).length : Int)
       rotate_left
       ·rw [if_neg c28] at H
        have c28b0 : decide (x9_3 < (((rd_T67 l0_2 x6_2).f1).length : Int)) = false := decide_eq_false c28
        clear c28
        have H' := yam H
        clear H
        have hnb39 := NB263_253.out
        have hnc39 := NB253_263.out
        obtain ⟨hcz40_0, hcz40_1, hcz40_2, hfz40_0, hfz40_1, hfz40_2⟩ := ybc BK263.out
        go_wp2
        (try simp only [← hl5_3])
        go_roundg k3
        case measure => have := HJ2.out; have := HK2.out; have := HK3.out; omega
        case rel => exact ⟨(x5_3), (wrap64 (x6_2 + 1)), yeq, H', ⟨by have := HJ2.out; have := HK2.out; have := HK3.out; omega⟩, ⟨by (try simp only [hl5_3]); (with_reducible repeat (first | apply Kd.Ya | apply Kd.Yn | apply Kd.Yd)); exact Kd.R_mono HO_5.out (fun _ hk => trivial)⟩, ⟨by (try simp only [hl5_3]); (with_reducible repeat (first | refine ybn ?_ _ | refine ybd ?_ | refine yba ?_ _)); exact BK253.out⟩, ⟨yhb⟩⟩
       rw [if_pos c28] at H
       have c28b0 : decide (x9_3 < (((rd_T67 l0_2 x6_2).f1).length : Int)) = true := decide_eq_true c28
       clear c28
       replace H := yif H
       obtain ⟨c29b0, H⟩ := H
       replace H := yif H
       obtain ⟨c30b0, H⟩ := H
       replace H := yif H
       obtain ⟨c31b0, H⟩ := H
       replace H := yif H
       obtain ⟨c32b0, H⟩ := H
       obtain ⟨y269, hy269⟩ : ∃ y_ : List Int, y_ = (x5_3.set ((rd ((rd_T67 l0_2 x6_2).f1) x9_3) : Int).toNat (rd t264 x9_3)) := ⟨_, rfl⟩
       replace H : (spec_NarrowRules.l1 k3 y269 x6_2 t264 (wrap64 (x9_3 + 1)) a0_0 l0_1 l0_2 ((rd_T67 l0_2 x6_2).f0) ((rd_T67 l0_2 x6_2).f1) ((rd_T67 l0_2 x6_2).f2)) = some r := by first | (rw [hy269]; with_reducible exact H) | (have H2_ := (Option.bind_some _ _).symm.trans H; rw [hy269]; with_reducible exact H2_) | (have H2_ := (Option.bind_some _ _).symm.trans H; with_reducible exact H2_) | with_reducible exact H | (rw [hy269]; exact H) | exact H
       have Ny269 := yam hy269
       clear hy269
       have H' := yam H
       clear H
       have hnb34 := NB263_253.out
       have hnc34 := NB253_263.out
       obtain ⟨hcz35_0, hcz35_1, hcz35_2, hfz35_0, hfz35_1, hfz35_2⟩ := ybc BK263.out
       try go_wp2
       replace HO_5 := yam (Kd.Yd HO_5.out)
       replace HO_8 := yam (Kd.Yd HO_8.out)
       replace BK253 := yam (ybd BK253.out)
       replace BK263 := yam (ybd BK263.out)
       replace HB := yam (yed HB.out)
       have p267 : 0 ≤ (x9_3 : Int) := ydt
       have q267 : x9_3 < (((rd_T67 l0_2 x6_2).f1).length : Int) := ydt
       obtain ⟨ad267, e267, hx267_0⟩ := Kd.at_int HR262_1.out x9_3 p267 q267
       have hw267_0 := hx267_0
       cases e267
       replace hx267_0 := ybx HB.out hx267_0
       replace p267 := eq_true p267
       replace q267 := eq_true q267
       obtain ⟨Ao37, co37, eo37⟩ := Kd.R_slice HO_8.out
       (first | subst eo37 | (injection eo37 with f1_ f2_ f3_; have f4_ := f1_.symm; have f5_ := f3_.symm; clear f1_ f2_ f3_; subst f4_; subst f5_))
       have p268 : 0 ≤ (x9_3 : Int) := ydt
       have q268 : x9_3 < (t264.length : Int) := ydt
       obtain ⟨ad268, e268, hx268_0⟩ := Kd.at_int (Kd.Yr HO_8.out).2.2 x9_3 p268 q268
       cases e268
       replace p268 := eq_true p268
       replace q268 := eq_true q268
       have p33 : 0 ≤ ((rd ((rd_T67 l0_2 x6_2).f1) x9_3) : Int) := ydt
       have q33 : ((rd ((rd_T67 l0_2 x6_2).f1) x9_3) : Int) < ((x5_3.length : Int) : Int) := ydt
       obtain ⟨go33, co33, eo33, gb33, gl33, cl33, HG33⟩ := Kd.R_form HO_5.out (by omega)
       (first | cases eo33 | (injection eo33 with ea_ en_ ec_; (first | subst ea_ | (injection ea_ with ea_; subst ea_)); subst ec_; clear en_))
       have GB33 := yam gb33
       have GG33 := yam HG33
       clear gb33 gl33 HG33
       obtain ⟨hx33_0, hf33_0⟩ := Kd.R_celln 0 HO_5.out ((rd ((rd_T67 l0_2 x6_2).f1) x9_3) : Int) p33 q33
       replace p33 := eq_true p33
       replace q33 := eq_true q33
       have HP38 := Kd.R_putn HO_5.out ((rd ((rd_T67 l0_2 x6_2).f1) x9_3) : Int) (rd t264 x9_3)
       rw [← Ny269.out] at HP38
       have HQ38 := yam HP38
       clear HP38
       refine start_ (n := 12) (S := fun w' => w'.cell? ⟨gb263, 0, none⟩ = some (.int .i64 ((rd_T67 l0_2 x6_2).f0)) ∧ w'.cell? ⟨gb263, 1, none⟩ = some (.slice (some ad267) ((rd_T67 l0_2 x6_2).f1).length c262_1) ∧ w'.cell? ⟨gb263, 2, none⟩ = some (.int .i64 ((rd_T67 l0_2 x6_2).f2)) ∧ w'.cell? (ad267.add (x9_3).toNat) = some (.int .i64 (rd ((rd_T67 l0_2 x6_2).f1) x9_3)) ∧ w'.cell? (ad268.add (x9_3).toNat) = some (.int .i64 (rd t264 x9_3))) (ds := [11]) #[false, false, false, false, false, false, false, false, false, false, false, false] (by kernel_rfl) rfl rfl ⟨(blk_cell BK263.out 0).trans rfl, (blk_cell BK263.out 1).trans rfl, (blk_cell BK263.out 2).trans rfl, ((HB.out.cell (World.block_lt_of_cell? w _ hw267_0)).trans hw267_0), hx268_0⟩ (fun hHeld => ?_); refine with_tabW spec_NarrowRules.tab12 spec_NarrowRules.bits12 (fun HT_ HW_ => ?_)
       generalize wr.drew = w36 at HO_5 HO_8 BK253 BK263 HB GG33 HQ38 hf33_0 hx267_0 hx268_0 hx33_0 hHeld ⊢
       refine yvp 0 47 (yvb 12 1) HT_.out ?_
       refine yvp 1 48 (yvb 12 3) HT_.out ?_
       refine yvp 3 50 (yvb 12 11) HT_.out ?_
       refine yvp 6 53 (yvb 12 75) HT_.out ?_
       refine yvp 7 54 (yvb 12 203) HT_.out ?_
       refine yvp 8 55 (yvb 12 459) HT_.out ?_
       refine yvt 2 49 (yvb 12 463) HT_.out HW_.out hHeld ?_
       refine yvp 4 51 (yvb 12 479) HT_.out ?_
       refine yvt 5 52 (yvb 12 511) HT_.out HW_.out hHeld ?_
       refine yvt 9 56 (yvb 12 1023) HT_.out HW_.out hHeld ?_
       refine yvp 10 57 (yvb 12 2047) HT_.out ?_
       refine last_ (i := 11) (N := none) #[true, true, true, true, true, true, true, true, true, true, true, true] rfl rfl (one_of HT_.out (by kernel_rfl)) (by decide) (fun K hK => ?_)
       refine skip_ (w1 := ?_) (by rfl) rfl ?_ ?_
       rotate_left
       ·go_simp
        rfl
       refine hK.out _ _ ?_
       clear hK K
       refine done_ (done_of HT_.out (by kernel_rfl)) ?_
       try go_wp2
       (try simp only [← hl5_3])
       go_roundg k3
       case measure => have := HJ2.out; have := HK2.out; have := HK3.out; omega
       case rel => exact ⟨(y269), (wrap64 (x9_3 + 1)), yeq, H', ⟨by have := HJ2.out; have := HK2.out; have := HK3.out; omega⟩, ⟨by (try simp only [hl5_3]); (with_reducible repeat (first | apply Kd.Ya | apply Kd.Yn | apply Kd.Yd)); exact HQ38.out⟩, ⟨by (try simp only [hl5_3]); (with_reducible repeat (first | apply Kd.Ya | apply Kd.Yn | apply Kd.Yd)); exact Kd.R_mono (Kd.R_far (p := ⟨go33, ((rd ((rd_T67 l0_2 x6_2).f1) x9_3) : Int).toNat, none⟩) (Kd.R_mono HO_8.out (fun k_ hk => (⟨hk, fun e_ => hk (by rw [e_]; rfl)⟩ : _ ∧ k_ ≠ go33))) (fun _ hk => hk.2) (.int .i64 (rd t264 x9_3))) (fun _ hk => hk.1)⟩, ⟨by (try simp only [hl5_3]); (with_reducible repeat (first | refine ybn ?_ _ | refine ybd ?_ | refine yba ?_ _)); refine blk_far ?_ (by have h_ := Kd.R_ne HO_5.out BK253.out (by decide); intro e_; exact h_ (by rw [e_]; rfl)) _; (with_reducible repeat (first | refine ybn ?_ _ | refine ybd ?_ | refine yba ?_ _)); exact BK253.out⟩, ⟨by (try simp only [hl5_3]); (with_reducible repeat (first | refine ybn ?_ _ | refine ybd ?_ | refine yba ?_ _)); refine blk_far ?_ (by have h_ := Kd.R_ne HO_5.out BK263.out (by decide); intro e_; exact h_ (by rw [e_]; rfl)) _; (with_reducible repeat (first | refine ybn ?_ _ | refine ybd ?_ | refine yba ?_ _)); exact BK263.out⟩, ⟨yhb⟩⟩
def spec_NarrowBy.j0 : Nat → List Int → Int → Bool → Int → List Int → List (S67) → Option (List Int)
 | 0, _, _, _, _, _, _ => none
 | k + 1, x1, x2, x16, x271000, x271001, x271002 => if x16 = true then (some (([] : List Int))) else (if x2 = 1 then ((spec_NarrowSingles.f k x1 x271000).bind fun t276 => (some t276)) else (if x2 = 2 then ((spec_NarrowHidden.f k x1 x271000).bind fun t279 => (some t279)) else (if x2 = 3 then ((spec_NarrowPairs.f k x1 x271000).bind fun t282 => (some t282)) else (if x2 = 4 then ((spec_NarrowRules.f k x271000 x271001 x271002 x1).bind fun t285 => (some t285)) else (some (([] : List Int)))))))
def spec_NarrowBy.f (k : Nat) (a0_0 : Int) (l0_1 : List Int) (l0_2 : List (S67)) (l1 : List Int) (a2 : Int) : Option (List Int) := (spec_PuzzleValid.f k a0_0 l0_1 l0_2).bind fun t271 => (if t271 = true then ((spec_MasksValid.f k l1 a0_0).bind fun t272 => (spec_NarrowBy.j0 k l1 a2 (!t272) a0_0 l0_1 l0_2)) else (spec_NarrowBy.j0 k l1 a2 true a0_0 l0_1 l0_2))
set_option maxHeartbeats 8000000 in
set_option maxRecDepth 100000 in
theorem spec_NarrowBy.calls (k : Nat) (a0_0 : Int) (A0_1 : Option Addr) (c0_1 : Nat) (l0_1 : List Int) (A0_2 : Option Addr) (c0_2 : Nat) (l0_2 : List (S67)) (A1 : Option Addr) (c1 : Nat) (l1 : List Int) (a2 : Int) (r : List Int) (w : World) (hr0_1 : Kd.C (Kd.int .i64) w A0_1 l0_1.length l0_1) (hc0_1 : l0_1.length ≤ c0_1) (hr0_2 : Kd.C k67 w A0_2 l0_2.length l0_2) (hc0_2 : l0_2.length ≤ c0_2) (hr1 : Kd.C (Kd.int .i64) w A1 l1.length l1) (hc1 : l1.length ≤ c1) (h : spec_NarrowBy.f k a0_0 l0_1 l0_2 l1 a2 = some r) :
  Calls Try.prog 25 #[.agg #[.int .i64 a0_0, .slice A0_1 l0_1.length c0_1, .slice A0_2 l0_2.length c0_2], .slice A1 l1.length c1, .int .i64 a2] w fun e w' => ∃ v0_ : Value, e = .returned (v0_) ∧ Kd.R (Kd.int .i64) 3 w' w.heap.size (fun _ => True) v0_ r ∧ Below w.heap.size w w' := by
 have hu30 := Try.underlying30
 have HR0_1 := yam hr0_1
 have HC0_1 := yam hc0_1
 clear hr0_1 hc0_1
 have HR0_2 := yam hr0_2
 have HC0_2 := yam hc0_2
 clear hr0_2 hc0_2
 have HR1 := yam hr1
 have HC1 := yam hc1
 clear hr1 hc1
 have HB := yam (Below.refl w.heap.size w)
 have H : ((spec_PuzzleValid.f k a0_0 l0_1 l0_2).bind fun t271 => (if t271 = true then ((spec_MasksValid.f k l1 a0_0).bind fun t272 => (spec_NarrowBy.j0 k l1 a2 (!t272) a0_0 l0_1 l0_2)) else (spec_NarrowBy.j0 k l1 a2 true a0_0 l0_1 l0_2))) = some r := h
 clear h
 have HC4 := yam H
 clear H
 go_enter Try.func25, Try.ntmps25
 go_upto_region 1 with (first | (refine ybe 3 #[.int .i64 a0_0, .slice A0_1 l0_1.length c0_1, .slice A0_2 l0_2.length c0_2] 30 ?_; intro gb270 hg w5 hbox hb; have n0_ := yam (below_step (yez HB.out) hb); have n1_ := yam (hbox); have n2_ := yam ((by rw [hg]; exact (below_size (yez HB.out)) : w.heap.size ≤ gb270)); have n3_ := n2_; clear HB; have HB := n0_; have BK270 := n1_; have GW270 := n2_; have GE270 := n3_; clear n0_ n1_ n2_ n3_; clear hb hbox hg))
 (try simp only [Act.put, yps])
 go_cut [16] (fun v16 wc => ∃ (kq : Nat) (x16_3 : Bool), v16 = .bool x16_3 ∧ Aside0 (spec_NarrowBy.j0 kq l1 a2 x16_3 a0_0 l0_1 l0_2 = some r) ∧ Aside0 (kq ≤ k) ∧ Aside0 (wc.heap[gb270]? = some (.cells #[.int .i64 a0_0, (.slice A0_1 l0_1.length c0_1), (.slice A0_2 l0_2.length c0_2)] 30 (0, 0))) ∧ Aside0 (Below w.heap.size w wc))
 case first =>
  have H := HC4.out
  clear HC4
  replace H := Option.bind_eq_some_iff.mp H
  obtain ⟨t271, A60, H⟩ := H
  try dsimp only at H
  have A6 := yam A60
  clear A60
  by_cases c7 : t271 = true
  rotate_left
  ·replace c7 := Bool.eq_false_iff.mpr c7
   subst c7
   have H1 : (spec_NarrowBy.j0 k l1 a2 true a0_0 l0_1 l0_2) = some r := by rw [if_neg (show ¬ (false = true) by decide)] at H; exact H
   clear H
   have H := H1
   clear H1
   have H' := yam H
   clear H
   obtain ⟨hcz12_0, hcz12_1, hcz12_2, hfz12_0, hfz12_1, hfz12_2⟩ := ybc BK270.out
   go_wp2_with (first | (refine goesL_ (some 8) rfl rfl Try.func34 (by kernel_rfl) rfl #[.agg #[.int .i64 a0_0, .slice A0_1 l0_1.length c0_1, .slice A0_2 l0_2.length c0_2]] rfl ymd ?_; (with_reducible refine (spec_PuzzleValid.calls k a0_0 _ _ l0_1 _ _ l0_2 false _ ?side1 ?side2 ?side3 ?side4 A6.out).mono ?_); (case side1 => exact Kd.Cz ((Kd.C_below HR0_1.out HB.out))); (case side2 => exact HC0_1.out); (case side3 => exact Kd.Cz ((Kd.C_below HR0_2.out HB.out))); (case side4 => exact HC0_2.out); rintro e w13 ⟨rfl, hb⟩; refine ⟨_, rfl, ?_⟩; replace BK270 := yam (blk_below (g := gb270) (o := .cells #[.int .i64 a0_0, .slice A0_1 l0_1.length c0_1, .slice A0_2 l0_2.length c0_2] 30 (0, 0)) (ybz BK270.out) hb); replace HB := yam (below_step yhb hb); (try clear hb); (try clear hb2); (try clear hk); (try clear hi)))
   go_meet
   case rel => exact ⟨_, (true), yeq, H', ⟨by first | omega | exact Nat.le_refl _⟩, ⟨by (with_reducible repeat (first | refine ybn ?_ _ | refine ybd ?_ | refine yba ?_ _)); exact BK270.out⟩, ⟨yhb⟩⟩
  subst c7
  have H1 : ((spec_MasksValid.f k l1 a0_0).bind fun t272 => (spec_NarrowBy.j0 k l1 a2 (!t272) a0_0 l0_1 l0_2)) = some r := by rw [if_pos rfl] at H; exact H
  clear H
  have H := H1
  clear H1
  replace H := Option.bind_eq_some_iff.mp H
  obtain ⟨t272, A80, H⟩ := H
  try dsimp only at H
  have A8 := yam A80
  clear A80
  have H' := yam H
  clear H
  obtain ⟨hcz9_0, hcz9_1, hcz9_2, hfz9_0, hfz9_1, hfz9_2⟩ := ybc BK270.out
  go_wp2_with (first | (refine goesL_ (some 8) rfl rfl Try.func34 (by kernel_rfl) rfl #[.agg #[.int .i64 a0_0, .slice A0_1 l0_1.length c0_1, .slice A0_2 l0_2.length c0_2]] rfl ymd ?_; (with_reducible refine (spec_PuzzleValid.calls k a0_0 _ _ l0_1 _ _ l0_2 true _ ?side1 ?side2 ?side3 ?side4 A6.out).mono ?_); (case side1 => exact Kd.Cz ((Kd.C_below HR0_1.out HB.out))); (case side2 => exact HC0_1.out); (case side3 => exact Kd.Cz ((Kd.C_below HR0_2.out HB.out))); (case side4 => exact HC0_2.out); rintro e w10 ⟨rfl, hb⟩; refine ⟨_, rfl, ?_⟩; replace BK270 := yam (blk_below (g := gb270) (o := .cells #[.int .i64 a0_0, .slice A0_1 l0_1.length c0_1, .slice A0_2 l0_2.length c0_2] 30 (0, 0)) (ybz BK270.out) hb); replace HB := yam (below_step yhb hb); (try clear hb); (try clear hb2); (try clear hk); (try clear hi); obtain ⟨hcz11_0, hcz11_1, hcz11_2, hfz11_0, hfz11_1, hfz11_2⟩ := ybc BK270.out) | (go_at_call 53; (with_reducible refine (spec_MasksValid.calls k _ _ l1 a0_0 t272 _ ?side1 ?side2 A8.out).mono ?_); (case side1 => exact Kd.Cz ((Kd.C_below HR1.out HB.out))); (case side2 => exact HC1.out); rintro e w' ⟨rfl, ⟨nd, rfl⟩⟩))
  go_meet
  case rel => exact ⟨_, (!t272), yeq, H', ⟨by first | omega | exact Nat.le_refl _⟩, ⟨by (with_reducible repeat (first | refine ybn ?_ _ | refine ybd ?_ | refine yba ?_ _)); exact BK270.out⟩, ⟨yhb⟩⟩
 case rest =>
  clear HC4
  try clear c1
  try clear c2
  try clear p2
  try clear c3
  try clear c7
  try clear hcz11_0
  try clear hcz11_1
  try clear hcz11_2
  try clear hcz12_0
  try clear hcz12_1
  try clear hcz12_2
  try clear hcz9_0
  try clear hcz9_1
  try clear hcz9_2
  try clear hfz11_0
  try clear hfz11_1
  try clear hfz11_2
  try clear hfz12_0
  try clear hfz12_1
  try clear hfz12_2
  try clear hfz9_0
  try clear hfz9_1
  try clear hfz9_2
  obtain ⟨kq, x16_3, rfl, HA, HJ3, BK270, HB⟩ := hcut
  cases kq with
  | zero => exact absurd HA.out (by simp [spec_NarrowBy.j0])
  | succ kj3 =>
   have H := HA.out
   clear HA
   simp only [spec_NarrowBy.j0] at H
   by_cases c14 : x16_3 = true
   ·subst c14
    have H1 : (some (([] : List Int))) = some r := by rw [if_pos rfl] at H; exact H
    clear H
    have H := H1
    clear H1
    obtain ⟨y273, hy273⟩ : ∃ y_ : List Int, y_ = (([] : List Int)) := ⟨_, rfl⟩
    replace H : (some y273) = some r := by first | (rw [hy273]; with_reducible exact H) | (have H2_ := (Option.bind_some _ _).symm.trans H; rw [hy273]; with_reducible exact H2_) | (have H2_ := (Option.bind_some _ _).symm.trans H; with_reducible exact H2_) | with_reducible exact H | (rw [hy273]; exact H) | exact H
    have Ny273 := yam hy273
    clear hy273
    obtain rfl := Option.some.inj H
    go_wp2_with (first | ((with_reducible refine gate_dst (N := 17) rfl ?_); refine Kd.R_lit (Kd.int .i64) _ 3 ?hg (N := 17) ?hd (xs := ([] : List Int)) (inner := []) (ok := fun _ => True) (okp := fun _ => True) ?hr ?hp (fun _ hk => hk) trivial (Below.refl _ _) (Nat.le_refl _) (by simp) ?_; (case hd => rfl); (case hg => rfl); (case hr => first | (go_simp; done) | (go_simp; rfl)); (case hp => exact (Reps.none _ _)); intro v274 w15 ho16 hb hg_ hnew_; clear hg_ hnew_; (first | rw [← Ny273.out] at ho16 | (simp only [Int.reduceToNat] at ho16; rw [← Ny273.out] at ho16)); have HO275 := yam (Kd.R_lower ho16 (below_size yhb)); replace BK270 := yam (blk_below (g := gb270) (o := .cells #[.int .i64 a0_0, .slice A0_1 l0_1.length c0_1, .slice A0_2 l0_2.length c0_2] 30 (0, 0)) (ybz BK270.out) hb); replace HB := yam (below_step yhb hb); clear hb ho16))
    go_ret
    exact ⟨_, yer, yka HO275.out, yhb⟩
   replace c14 := Bool.eq_false_iff.mpr c14
   subst c14
   have H1 : (if a2 = 1 then ((spec_NarrowSingles.f kj3 l1 a0_0).bind fun t276 => (some t276)) else (if a2 = 2 then ((spec_NarrowHidden.f kj3 l1 a0_0).bind fun t279 => (some t279)) else (if a2 = 3 then ((spec_NarrowPairs.f kj3 l1 a0_0).bind fun t282 => (some t282)) else (if a2 = 4 then ((spec_NarrowRules.f kj3 a0_0 l0_1 l0_2 l1).bind fun t285 => (some t285)) else (some (([] : List Int))))))) = some r := by rw [if_neg (show ¬ (false = true) by decide)] at H; exact H
   clear H
   have H := H1
   clear H1
   by_cases c17 : a2 = 1
   ·rw [if_pos c17] at H
    have c17b0 : (a2 == 1) = true := beq_iff_eq.mpr c17
    have c17b1 : (a2 != 1) = false := bne_eq_false_iff_eq.mpr c17
    clear c17
    replace H := Option.bind_eq_some_iff.mp H
    obtain ⟨t276, A180, H⟩ := H
    try dsimp only at H
    have A18 := yam A180
    clear A180
    obtain rfl := Option.some.inj H
    obtain ⟨hcz19_0, hcz19_1, hcz19_2, hfz19_0, hfz19_1, hfz19_2⟩ := ybc BK270.out
    go_wp2_with (first | (refine goesL_ (some 24) rfl rfl Try.func54 (by kernel_rfl) rfl #[.slice A1 l1.length c1, .int .i64 a0_0] rfl ymd ?_; (with_reducible refine (spec_NarrowSingles.calls kj3 _ _ l1 a0_0 t276 _ ?side1 ?side2 A18.out).mono ?_); (case side1 => exact Kd.Cz ((Kd.C_below HR1.out HB.out))); (case side2 => exact HC1.out); rintro e w20 ⟨v277, rfl, ho0, hb⟩; refine ⟨_, rfl, ?_⟩; have HO278 := yam (Kd.R_lower ho0 (below_size yhb)); replace BK270 := yam (blk_below (g := gb270) (o := .cells #[.int .i64 a0_0, .slice A0_1 l0_1.length c0_1, .slice A0_2 l0_2.length c0_2] 30 (0, 0)) (ybz BK270.out) hb); replace HB := yam (below_step yhb hb); (try clear hb); (try clear hb2); (try clear hk); (try clear hi); (try clear ho0)))
    go_ret
    exact ⟨_, yer, yka HO278.out, yhb⟩
   rw [if_neg c17] at H
   have c17b0 : (a2 == 1) = false := beq_eq_false_iff_ne.mpr c17
   have c17b1 : (a2 != 1) = true := bne_iff_ne.mpr c17
   by_cases c21 : a2 = 2
   ·rw [if_pos c21] at H
    have c21b0 : (a2 == 2) = true := beq_iff_eq.mpr c21
    have c21b1 : (a2 != 2) = false := bne_eq_false_iff_eq.mpr c21
    clear c21
    replace H := Option.bind_eq_some_iff.mp H
    obtain ⟨t279, A220, H⟩ := H
    try dsimp only at H
    have A22 := yam A220
    clear A220
    obtain rfl := Option.some.inj H
    obtain ⟨hcz23_0, hcz23_1, hcz23_2, hfz23_0, hfz23_1, hfz23_2⟩ := ybc BK270.out
    go_wp2_with (first | (refine goesL_ (some 30) rfl rfl Try.func55 (by kernel_rfl) rfl #[.slice A1 l1.length c1, .int .i64 a0_0] rfl ymd ?_; (with_reducible refine (spec_NarrowHidden.calls kj3 _ _ l1 a0_0 t279 _ ?side1 ?side2 A22.out).mono ?_); (case side1 => exact Kd.Cz ((Kd.C_below HR1.out HB.out))); (case side2 => exact HC1.out); rintro e w24 ⟨v280, rfl, ho0, hb⟩; refine ⟨_, rfl, ?_⟩; have HO281 := yam (Kd.R_lower ho0 (below_size yhb)); replace BK270 := yam (blk_below (g := gb270) (o := .cells #[.int .i64 a0_0, .slice A0_1 l0_1.length c0_1, .slice A0_2 l0_2.length c0_2] 30 (0, 0)) (ybz BK270.out) hb); replace HB := yam (below_step yhb hb); (try clear hb); (try clear hb2); (try clear hk); (try clear hi); (try clear ho0)))
    go_ret
    exact ⟨_, yer, yka HO281.out, yhb⟩
   rw [if_neg c21] at H
   have c21b0 : (a2 == 2) = false := beq_eq_false_iff_ne.mpr c21
   have c21b1 : (a2 != 2) = true := bne_iff_ne.mpr c21
   by_cases c25 : a2 = 3
   ·rw [if_pos c25] at H
    have c25b0 : (a2 == 3) = true := beq_iff_eq.mpr c25
    have c25b1 : (a2 != 3) = false := bne_eq_false_iff_eq.mpr c25
    clear c25
    replace H := Option.bind_eq_some_iff.mp H
    obtain ⟨t282, A260, H⟩ := H
    try dsimp only at H
    have A26 := yam A260
    clear A260
    obtain rfl := Option.some.inj H
    obtain ⟨hcz27_0, hcz27_1, hcz27_2, hfz27_0, hfz27_1, hfz27_2⟩ := ybc BK270.out
    go_wp2_with (first | (refine goesL_ (some 36) rfl rfl Try.func56 (by kernel_rfl) rfl #[.slice A1 l1.length c1, .int .i64 a0_0] rfl ymd ?_; (with_reducible refine (spec_NarrowPairs.calls kj3 _ _ l1 a0_0 t282 _ ?side1 ?side2 A26.out).mono ?_); (case side1 => exact Kd.Cz ((Kd.C_below HR1.out HB.out))); (case side2 => exact HC1.out); rintro e w28 ⟨v283, rfl, ho0, hb⟩; refine ⟨_, rfl, ?_⟩; have HO284 := yam (Kd.R_lower ho0 (below_size yhb)); replace BK270 := yam (blk_below (g := gb270) (o := .cells #[.int .i64 a0_0, .slice A0_1 l0_1.length c0_1, .slice A0_2 l0_2.length c0_2] 30 (0, 0)) (ybz BK270.out) hb); replace HB := yam (below_step yhb hb); (try clear hb); (try clear hb2); (try clear hk); (try clear hi); (try clear ho0)))
    go_ret
    exact ⟨_, yer, yka HO284.out, yhb⟩
   rw [if_neg c25] at H
   have c25b0 : (a2 == 3) = false := beq_eq_false_iff_ne.mpr c25
   have c25b1 : (a2 != 3) = true := bne_iff_ne.mpr c25
   by_cases c29 : a2 = 4
   rotate_left
   ·rw [if_neg c29] at H
    have c29b0 : (a2 == 4) = false := beq_eq_false_iff_ne.mpr c29
    have c29b1 : (a2 != 4) = true := bne_iff_ne.mpr c29
    obtain ⟨y288, hy288⟩ : ∃ y_ : List Int, y_ = (([] : List Int)) := ⟨_, rfl⟩
    replace H : (some y288) = some r := by first | (rw [hy288]; with_reducible exact H) | (have H2_ := (Option.bind_some _ _).symm.trans H; rw [hy288]; with_reducible exact H2_) | (have H2_ := (Option.bind_some _ _).symm.trans H; with_reducible exact H2_) | with_reducible exact H | (rw [hy288]; exact H) | exact H
    have Ny288 := yam hy288
    clear hy288
    obtain rfl := Option.some.inj H
    go_wp2_with (first | ((with_reducible refine gate_dst (N := 42) rfl ?_); refine Kd.R_lit (Kd.int .i64) _ 3 ?hg (N := 42) ?hd (xs := ([] : List Int)) (inner := []) (ok := fun _ => True) (okp := fun _ => True) ?hr ?hp (fun _ hk => hk) trivial (Below.refl _ _) (Nat.le_refl _) (by simp) ?_; (case hd => rfl); (case hg => rfl); (case hr => first | (go_simp; done) | (go_simp; rfl)); (case hp => exact (Reps.none _ _)); intro v289 w33 ho34 hb hg_ hnew_; clear hg_ hnew_; (first | rw [← Ny288.out] at ho34 | (simp only [Int.reduceToNat] at ho34; rw [← Ny288.out] at ho34)); have HO290 := yam (Kd.R_lower ho34 (below_size yhb)); replace BK270 := yam (blk_below (g := gb270) (o := .cells #[.int .i64 a0_0, .slice A0_1 l0_1.length c0_1, .slice A0_2 l0_2.length c0_2] 30 (0, 0)) (ybz BK270.out) hb); replace HB := yam (below_step yhb hb); clear hb ho34))
    go_ret
    exact ⟨_, yer, yka HO290.out, yhb⟩

   rw [if_pos c29] at H
   have c29b0 : (a2 == 4) = true := beq_iff_eq.mpr c29
   have c29b1 : (a2 != 4) = false := bne_eq_false_iff_eq.mpr c29
   clear c29
   replace H := Option.bind_eq_some_iff.mp H
   obtain ⟨t285, A300, H⟩ := H
   try dsimp only at H
   have A30 := yam A300
   clear A300
   obtain rfl := Option.some.inj H
   obtain ⟨hcz31_0, hcz31_1, hcz31_2, hfz31_0, hfz31_1, hfz31_2⟩ := ybc BK270.out
   go_wp2_with (first | (refine goesL_ (some 41) rfl rfl Try.func57 (by kernel_rfl) rfl #[.agg #[.int .i64 a0_0, .slice A0_1 l0_1.length c0_1, .slice A0_2 l0_2.length c0_2], .slice A1 l1.length c1] rfl ymd ?_; (with_reducible refine (spec_NarrowRules.calls kj3 a0_0 _ _ l0_1 _ _ l0_2 _ _ l1 t285 _ ?side1 ?side2 ?side3 ?side4 ?side5 ?side6 A30.out).mono ?_); (case side1 => exact Kd.Cz ((Kd.C_below HR0_1.out HB.out))); (case side2 => exact HC0_1.out); (case side3 => exact Kd.Cz ((Kd.C_below HR0_2.out HB.out))); (case side4 => exact HC0_2.out); (case side5 => exact Kd.Cz ((Kd.C_below HR1.out HB.out))); (case side6 => exact HC1.out); rintro e w32 ⟨v286, rfl, ho0, hb⟩; refine ⟨_, rfl, ?_⟩; have HO287 := yam (Kd.R_lower ho0 (below_size yhb)); replace BK270 := yam (blk_below (g := gb270) (o := .cells #[.int .i64 a0_0, .slice A0_1 l0_1.length c0_1, .slice A0_2 l0_2.length c0_2] 30 (0, 0)) (ybz BK270.out) hb); replace HB := yam (below_step yhb hb); (try clear hb); (try clear hb2); (try clear hk); (try clear hi); (try clear ho0)))
   go_ret
   exact ⟨_, yer, yka HO287.out, yhb⟩
mutual
def spec_StartMasks.l0 : Nat → List Int → Int → Int → List Int → List (S67) → Option (List Int)
 | 0, _, _, _, _, _ => none
 | k + 1, x3, x4, x292000, x292001, x292002 => if x4 < (x292001.length : Int) then ((spec_PuzzleValid.f k x292000 x292001 x292002).bind fun t295 => (spec_StartMasks.j1 k x3 x4 t295 x292000 x292001 x292002)) else (spec_StartMasks.j1 k x3 x4 false x292000 x292001 x292002)
def spec_StartMasks.j1 : Nat → List Int → Int → Bool → Int → List Int → List (S67) → Option (List Int)
 | 0, _, _, _, _, _, _ => none
 | k + 1, x3, x4, x14, x292000, x292001, x292002 => if x14 = true then (if 0 ≤ x4 then (if x4 < (x292001.length : Int) then (if (rd x292001 x4) > 0 then (if 0 ≤ (rd x292001 x4) then (if x3.length < 17592186044416 then (spec_StartMasks.l0 k (x3 ++ [shl .i64 1 (rd x292001 x4)]) (wrap64 (x4 + 1)) x292000 x292001 x292002) else (none)) else (none)) else (if 0 ≤ (wrap64 (x292000 + 1)) then (if x3.length < 17592186044416 then (spec_StartMasks.l0 k (x3 ++ [wrap64 ((shl .i64 1 (wrap64 (x292000 + 1))) - 2)]) (wrap64 (x4 + 1)) x292000 x292001 x292002) else (none)) else (none))) else (none)) else (none)) else (some x3)
end
def spec_StartMasks.f (k : Nat) (a0_0 : Int) (l0_1 : List Int) (l0_2 : List (S67)) : Option (List Int) := spec_StartMasks.l0 k (([] : List Int)) 0 a0_0 l0_1 l0_2
set_option maxHeartbeats 8000000 in
set_option maxRecDepth 100000 in
theorem spec_StartMasks.calls (k : Nat) (a0_0 : Int) (A0_1 : Option Addr) (c0_1 : Nat) (l0_1 : List Int) (A0_2 : Option Addr) (c0_2 : Nat) (l0_2 : List (S67)) (r : List Int) (w : World) (hr0_1 : Kd.C (Kd.int .i64) w A0_1 l0_1.length l0_1) (hc0_1 : l0_1.length ≤ c0_1) (hr0_2 : Kd.C k67 w A0_2 l0_2.length l0_2) (hc0_2 : l0_2.length ≤ c0_2) (h : spec_StartMasks.f k a0_0 l0_1 l0_2 = some r) :
  Calls Try.prog 40 #[.agg #[.int .i64 a0_0, .slice A0_1 l0_1.length c0_1, .slice A0_2 l0_2.length c0_2]] w fun e w' => ∃ v0_ : Value, e = .returned (v0_) ∧ Kd.R (Kd.int .i64) 3 w' w.heap.size (fun _ => True) v0_ r ∧ Below w.heap.size w w' := by
 have hu30 := Try.underlying30
 have HR0_1 := yam hr0_1
 have HC0_1 := yam hc0_1
 clear hr0_1 hc0_1
 have HR0_2 := yam hr0_2
 have HC0_2 := yam hc0_2
 clear hr0_2 hc0_2
 have HB := yam (Below.refl w.heap.size w)
 have H : (spec_StartMasks.l0 k (([] : List Int)) 0 a0_0 l0_1 l0_2) = some r := h
 clear h
 obtain ⟨y292, hy292⟩ : ∃ y_ : List Int, y_ = (([] : List Int)) := ⟨_, rfl⟩
 replace H : (spec_StartMasks.l0 k y292 0 a0_0 l0_1 l0_2) = some r := by first | (rw [hy292]; with_reducible exact H) | (have H2_ := (Option.bind_some _ _).symm.trans H; rw [hy292]; with_reducible exact H2_) | (have H2_ := (Option.bind_some _ _).symm.trans H; with_reducible exact H2_) | with_reducible exact H | (rw [hy292]; exact H) | exact H
 have Ny292 := yam hy292
 clear hy292
 have H' := yam H
 clear H
 go_enter Try.func40, Try.ntmps40
 go_wp2_with (first | (refine ybe 1 #[.int .i64 a0_0, .slice A0_1 l0_1.length c0_1, .slice A0_2 l0_2.length c0_2] 30 ?_; intro gb291 hg w2 hbox hb; have n0_ := yam (below_step (yez HB.out) hb); have n1_ := yam (hbox); have n2_ := yam ((by rw [hg]; exact (below_size (yez HB.out)) : w.heap.size ≤ gb291)); have n3_ := n2_; clear HB; have HB := n0_; have BK291 := n1_; have GW291 := n2_; have GE291 := n3_; clear n0_ n1_ n2_ n3_; clear hb hbox hg) | ((with_reducible refine gate_dst (N := 5) rfl ?_); refine Kd.R_lit (Kd.int .i64) _ 3 ?hg (N := 5) ?hd (xs := ([] : List Int)) (inner := []) (ok := fun _ => True) (okp := fun _ => True) ?hr ?hp (fun _ hk => hk) trivial (Below.refl _ _) (Nat.le_refl _) (by simp) ?_; (case hd => rfl); (case hg => rfl); (case hr => first | (go_simp; done) | (go_simp; rfl)); (case hp => exact (Reps.none _ _)); intro v293 w3 ho4 hb hg_ hnew_; clear hg_ hnew_; (first | rw [← Ny292.out] at ho4 | (simp only [Int.reduceToNat] at ho4; rw [← Ny292.out] at ho4)); have HO294 := yam (Kd.R_lower ho4 (below_size yhb)); replace BK291 := yam (blk_below (g := gb291) (o := .cells #[.int .i64 a0_0, .slice A0_1 l0_1.length c0_1, .slice A0_2 l0_2.length c0_2] 30 (0, 0)) (ybz BK291.out) hb); replace HB := yam (below_step yhb hb); clear hb ho4))
 go_loopg [3, 4] k (fun kq v3 v4 w' => ∃ (x3_1 : List Int) (x4_1 : Int), v4 = .int .i64 x4_1 ∧ Aside0 (spec_StartMasks.l0 kq x3_1 x4_1 a0_0 l0_1 l0_2 = some r) ∧ Aside0 (kq ≤ k) ∧ Aside0 (Kd.R (Kd.int .i64) 3 w' w.heap.size (fun _ => True) v3 x3_1) ∧ Aside0 (w'.heap[gb291]? = some (.cells #[.int .i64 a0_0, (.slice A0_1 l0_1.length c0_1), (.slice A0_2 l0_2.length c0_2)] 30 (0, 0))) ∧ Aside0 (Below w.heap.size w w'))
 case atStart => exact ⟨(y292), (0), yeq, H', ⟨Nat.le_refl _⟩, ⟨yka HO294.out⟩, ⟨by (with_reducible repeat (first | refine ybn ?_ _ | refine ybd ?_ | refine yba ?_ _)); exact BK291.out⟩, ⟨yhb⟩⟩
 case round =>
  clear H'
  try clear p2
  try clear c4
  obtain ⟨x3_1, x4_1, rfl, HA, HK1, HO_3, BK291, HB⟩ := hrel
  cases gk with
  | zero => exact absurd HA.out (by simp [spec_StartMasks.l0])
  | succ k1 =>
   have H := HA.out
   clear HA
   simp only [spec_StartMasks.l0] at H
   have HC5 := yam H
   clear H
   go_upto_region 3 with (fail)
   go_cut [14] (fun v14 wc => ∃ (kq : Nat) (x14_4 : Bool), v14 = .bool x14_4 ∧ Aside0 (spec_StartMasks.j1 kq x3_1 x4_1 x14_4 a0_0 l0_1 l0_2 = some r) ∧ Aside0 (kq ≤ k1) ∧ Aside0 (Kd.R (Kd.int .i64) 3 wc w.heap.size (fun _ => True) u3 x3_1) ∧ Aside0 (wc.heap[gb291]? = some (.cells #[.int .i64 a0_0, (.slice A0_1 l0_1.length c0_1), (.slice A0_2 l0_2.length c0_2)] 30 (0, 0))) ∧ Aside0 (Below w.heap.size w wc))
   case first =>
    have H := HC5.out
    clear HC5
    by_cases c6 : x4_1 < (l0_1.length : Int)
    rotate_left
    ·rw [if_neg c6] at H
     have c6b0 : decide (x4_1 < (l0_1.length : Int)) = false := decide_eq_false c6
     clear c6
     (first | rw [c6b0] | (simp only [i64_w, i32_w]; rw [c6b0]) | skip)
     have H' := yam H
     clear H
     obtain ⟨hcz10_0, hcz10_1, hcz10_2, hfz10_0, hfz10_1, hfz10_2⟩ := ybc BK291.out
     go_wp2
     go_meet
     case rel => exact ⟨_, (false), yeq, H', ⟨by have := HK1.out; first | omega | exact Nat.le_refl _⟩, ⟨yka HO_3.out⟩, ⟨by (with_reducible repeat (first | refine ybn ?_ _ | refine ybd ?_ | refine yba ?_ _)); exact BK291.out⟩, ⟨yhb⟩⟩
    rw [if_pos c6] at H
    have c6b0 : decide (x4_1 < (l0_1.length : Int)) = true := decide_eq_true c6
    clear c6
    (first | rw [c6b0] | (simp only [i64_w, i32_w]; rw [c6b0]) | skip)
    replace H := Option.bind_eq_some_iff.mp H
    obtain ⟨t295, A70, H⟩ := H
    try dsimp only at H
    have A7 := yam A70
    clear A70
    have H' := yam H
    clear H
    obtain ⟨hcz8_0, hcz8_1, hcz8_2, hfz8_0, hfz8_1, hfz8_2⟩ := ybc BK291.out
    go_wp2_with (first | (go_at_call 34; (with_reducible refine (spec_PuzzleValid.calls k1 a0_0 _ _ l0_1 _ _ l0_2 t295 _ ?side1 ?side2 ?side3 ?side4 A7.out).mono ?_); (case side1 => exact Kd.Cz ((Kd.C_below HR0_1.out HB.out))); (case side2 => exact HC0_1.out); (case side3 => exact Kd.Cz ((Kd.C_below HR0_2.out HB.out))); (case side4 => exact HC0_2.out); rintro e w9 ⟨rfl, hb⟩; replace HO_3 := yam (Kd.R_below (Kd.Yz HO_3.out) hb); replace BK291 := yam (blk_below (g := gb291) (o := .cells #[.int .i64 a0_0, .slice A0_1 l0_1.length c0_1, .slice A0_2 l0_2.length c0_2] 30 (0, 0)) (ybz BK291.out) hb); replace HB := yam (below_step yhb hb); (try clear hb); (try clear hb2); (try clear hk); (try clear hi)))
    go_meet
    case rel => exact ⟨_, (t295), yeq, H', ⟨by have := HK1.out; first | omega | exact Nat.le_refl _⟩, ⟨yka HO_3.out⟩, ⟨by (with_reducible repeat (first | refine ybn ?_ _ | refine ybd ?_ | refine yba ?_ _)); exact BK291.out⟩, ⟨yhb⟩⟩
   case rest =>
    clear HC5
    try clear p2
    try clear c4
    try clear c6
    try clear c6b0
    try clear hcz10_0
    try clear hcz10_1
    try clear hcz10_2
    try clear hcz8_0
    try clear hcz8_1
    try clear hcz8_2
    try clear hfz10_0
    try clear hfz10_1
    try clear hfz10_2
    try clear hfz8_0
    try clear hfz8_1
    try clear hfz8_2
    try clear p2
    obtain ⟨kq, x14_4, rfl, HA, HJ4, HO_3, BK291, HB⟩ := hcut
    cases kq with
    | zero => exact absurd HA.out (by simp [spec_StartMasks.j1])
    | succ kj4 =>
     have H := HA.out
     clear HA
     simp only [spec_StartMasks.j1] at H
     by_cases c11 : x14_4 = true
     rotate_left
     ·replace c11 := Bool.eq_false_iff.mpr c11
      subst c11
      have H1 : (some x3_1) = some r := by rw [if_neg (show ¬ (false = true) by decide)] at H; exact H
      clear H
      have H := H1
      clear H1
      obtain rfl := Option.some.inj H
      go_wp2
      go_ret
      exact ⟨_, yer, yka HO_3.out, yhb⟩

     subst c11
     have H1 : (if 0 ≤ x4_1 then (if x4_1 < (l0_1.length : Int) then (if (rd l0_1 x4_1) > 0 then (if 0 ≤ (rd l0_1 x4_1) then (if x3_1.length < 17592186044416 then (spec_StartMasks.l0 kj4 (x3_1 ++ [shl .i64 1 (rd l0_1 x4_1)]) (wrap64 (x4_1 + 1)) a0_0 l0_1 l0_2) else (none)) else (none)) else (if 0 ≤ (wrap64 (a0_0 + 1)) then (if x3_1.length < 17592186044416 then (spec_StartMasks.l0 kj4 (x3_1 ++ [wrap64 ((shl .i64 1 (wrap64 (a0_0 + 1))) - 2)]) (wrap64 (x4_1 + 1)) a0_0 l0_1 l0_2) else (none)) else (none))) else (none)) else (none)) = some r := by rw [if_pos rfl] at H; exact H
     clear H
     have H := H1
     clear H1
     replace H := yif H
     obtain ⟨c12b0, H⟩ := H
     replace H := yif H
     obtain ⟨c13b0, H⟩ := H
     by_cases c14 : (rd l0_1 x4_1) > 0
     rotate_left
     ·rw [if_neg c14] at H
      have c14b0 : decide (0 < (rd l0_1 x4_1)) = false := decide_eq_false c14
      clear c14
      obtain ⟨ji20, hji20⟩ : ∃ j_ : Int, (wrap64 (a0_0 + 1)) = j_ := ⟨_, rfl⟩
      replace H : (if 0 ≤ (ji20) then (if x3_1.length < 17592186044416 then (spec_StartMasks.l0 kj4 (x3_1 ++ [wrap64 ((shl .i64 1 (ji20)) - 2)]) (wrap64 (x4_1 + 1)) a0_0 l0_1 l0_2) else (none)) else (none)) = some r := by first | (rw [hji20] at H; exact H) | (simp only [hji20] at H ⊢; exact H)
      have hji20w : (IntKind.i64.wrap (a0_0 + 1)) = ji20 := (i64_w _).trans hji20
      replace H := yig H
      obtain ⟨c21, H⟩ := H
      have c21b0 := eq_true c21
      have c21b1 : decide (0 ≤ (ji20)) = true := decide_eq_true c21
      clear c21
      obtain ⟨ji22, hji22⟩ : ∃ j_ : Int, (shl .i64 1 (ji20)) = j_ := ⟨_, rfl⟩
      replace H : (if x3_1.length < 17592186044416 then (spec_StartMasks.l0 kj4 (x3_1 ++ [wrap64 ((ji22) - 2)]) (wrap64 (x4_1 + 1)) a0_0 l0_1 l0_2) else (none)) = some r := by first | (rw [hji22] at H; exact H) | (simp only [hji22] at H ⊢; exact H)
      have hji22_ : (IntKind.i64.wrap (1 * 2 ^ min (ji20).toNat 64)) = ji22 := hji22
      have hji22z : (ji20) ≤ 64 → (IntKind.i64.wrap (1 * 2 ^ (ji20).toNat)) = ji22 := shl_small hji22
      have hji22u : (IntKind.i64.wrap (2 ^ min (ji20).toNat 64)) = ji22 := by have h_ := hji22_; rw [Int.one_mul] at h_; exact h_
      have hji22v : (ji20) ≤ 64 → (IntKind.i64.wrap (2 ^ (ji20).toNat)) = ji22 := fun hle_ => by have h_ := hji22z hle_; rw [Int.one_mul] at h_; exact h_
      have hji22y : (wrap64 (1 * 2 ^ min (ji20).toNat 64)) = ji22 := (i64_w _).symm.trans hji22_
      have hji22x : (ji20) ≤ 64 → (wrap64 (1 * 2 ^ (ji20).toNat)) = ji22 := fun h_ => (i64_w _).symm.trans (hji22z h_)
      replace H := yig H
      obtain ⟨c23, H⟩ := H
      have LMc23 := yam c23
      clear c23
      obtain ⟨y301, hy301⟩ : ∃ y_ : List Int, y_ = (x3_1 ++ [wrap64 ((ji22) - 2)]) := ⟨_, rfl⟩
      replace H : (spec_StartMasks.l0 kj4 y301 (wrap64 (x4_1 + 1)) a0_0 l0_1 l0_2) = some r := by first | (rw [hy301]; with_reducible exact H) | (have H2_ := (Option.bind_some _ _).symm.trans H; rw [hy301]; with_reducible exact H2_) | (have H2_ := (Option.bind_some _ _).symm.trans H; with_reducible exact H2_) | with_reducible exact H | (rw [hy301]; exact H) | exact H
      have Ny301 := yam hy301
      clear hy301
      have H' := yam H
      clear H
      obtain ⟨hcz24_0, hcz24_1, hcz24_2, hfz24_0, hfz24_1, hfz24_2⟩ := ybc BK291.out
      have p296 : 0 ≤ (x4_1 : Int) := ydt
      have q296 : x4_1 < (l0_1.length : Int) := ydt
      obtain ⟨ad296, e296, hx296_0⟩ := Kd.at_int HR0_1.out x4_1 p296 q296
      cases e296
      replace hx296_0 := ybx HB.out hx296_0
      replace p296 := eq_true p296
      replace q296 := eq_true q296
      go_wp2_with (first | ((with_reducible refine gate_builtin (b := .append) (xs := #[.tmp 32, .tmp 38]) rfl ?_); at_builtin; refine Kd.R_append (Kd.int .i64) (w0 := w) w.heap.size rfl (.tmp 32) (.tmp 38) 22 3 (.int .i64 0) 8 rfl Try.underlying22 info3 rfl (by decide) (by omega) u3 x3_1 (wrap64 ((ji22) - 2)) [.int .i64 (wrap64 ((ji22) - 2))] (fun _ => True) (fun _ => False) rfl rfl ?aP (fun _ hk => hk.elim) ?aF ?aO ?aB ?aS ?aL ?_; (case aP => exact rfl); (case aB => exact yhb); (case aF => exact (fun _ _ => trivial)); (case aO => exact (Kd.Yz HO_3.out)); (case aS => exact (below_size yhb)); (case aL => have := LMc23.out; omega); intro v302 w25 ho hb hg hat; rw [← Ny301.out] at ho; replace BK291 := yam (blk_grown (g := gb291) (o := .cells #[.int .i64 a0_0, .slice (some ad296) l0_1.length c0_1, .slice A0_2 l0_2.length c0_2] 30 (0, 0)) (ybz BK291.out) hg (Kd.R_ne HO_3.out BK291.out (by decide))); replace HB := yam (hb); have HO303 := yam (ho); clear HO_3; clear ho hb hg hat))
      go_roundg kj4
      case measure => have := HK1.out; have := HJ4.out; omega
      case rel => exact ⟨(y301), (wrap64 (x4_1 + 1)), yeq, H', ⟨by have := HK1.out; have := HJ4.out; omega⟩, ⟨yka HO303.out⟩, ⟨by (with_reducible repeat (first | refine ybn ?_ _ | refine ybd ?_ | refine yba ?_ _)); exact BK291.out⟩, ⟨yhb⟩⟩
     rw [if_pos c14] at H
     have c14b0 : decide (0 < (rd l0_1 x4_1)) = true := decide_eq_true c14
     clear c14
     replace H := yig H
     obtain ⟨c15, H⟩ := H
     have c15b0 := eq_true c15
     have c15b1 : decide (0 ≤ (rd l0_1 x4_1)) = true := decide_eq_true c15
     clear c15
     obtain ⟨ji16, hji16⟩ : ∃ j_ : Int, (shl .i64 1 (rd l0_1 x4_1)) = j_ := ⟨_, rfl⟩
     replace H : (if x3_1.length < 17592186044416 then (spec_StartMasks.l0 kj4 (x3_1 ++ [ji16]) (wrap64 (x4_1 + 1)) a0_0 l0_1 l0_2) else (none)) = some r := by first | (rw [hji16] at H; exact H) | (simp only [hji16] at H ⊢; exact H)
     have hji16_ : (IntKind.i64.wrap (1 * 2 ^ min (rd l0_1 x4_1).toNat 64)) = ji16 := hji16
     have hji16z : (rd l0_1 x4_1) ≤ 64 → (IntKind.i64.wrap (1 * 2 ^ (rd l0_1 x4_1).toNat)) = ji16 := shl_small hji16
     have hji16u : (IntKind.i64.wrap (2 ^ min (rd l0_1 x4_1).toNat 64)) = ji16 := by have h_ := hji16_; rw [Int.one_mul] at h_; exact h_
     have hji16v : (rd l0_1 x4_1) ≤ 64 → (IntKind.i64.wrap (2 ^ (rd l0_1 x4_1).toNat)) = ji16 := fun hle_ => by have h_ := hji16z hle_; rw [Int.one_mul] at h_; exact h_
     have hji16y : (wrap64 (1 * 2 ^ min (rd l0_1 x4_1).toNat 64)) = ji16 := (i64_w _).symm.trans hji16_
     have hji16x : (rd l0_1 x4_1) ≤ 64 → (wrap64 (1 * 2 ^ (rd l0_1 x4_1).toNat)) = ji16 := fun h_ => (i64_w _).symm.trans (hji16z h_)
     replace H := yig H
     obtain ⟨c17, H⟩ := H
     have LMc17 := yam c17
     clear c17
     obtain ⟨y298, hy298⟩ : ∃ y_ : List Int, y_ = (x3_1 ++ [ji16]) := ⟨_, rfl⟩
     replace H : (spec_StartMasks.l0 kj4 y298 (wrap64 (x4_1 + 1)) a0_0 l0_1 l0_2) = some r := by first | (rw [hy298]; with_reducible exact H) | (have H2_ := (Option.bind_some _ _).symm.trans H; rw [hy298]; with_reducible exact H2_) | (have H2_ := (Option.bind_some _ _).symm.trans H; with_reducible exact H2_) | with_reducible exact H | (rw [hy298]; exact H) | exact H
     have Ny298 := yam hy298
     clear hy298
     have H' := yam H
     clear H
     obtain ⟨hcz18_0, hcz18_1, hcz18_2, hfz18_0, hfz18_1, hfz18_2⟩ := ybc BK291.out
     have p296 : 0 ≤ (x4_1 : Int) := ydt
     have q296 : x4_1 < (l0_1.length : Int) := ydt
     obtain ⟨ad296, e296, hx296_0⟩ := Kd.at_int HR0_1.out x4_1 p296 q296
     cases e296
     replace hx296_0 := ybx HB.out hx296_0
     replace p296 := eq_true p296
     replace q296 := eq_true q296
     have p297 : 0 ≤ (x4_1 : Int) := ydt
     have q297 : x4_1 < (l0_1.length : Int) := ydt
     obtain ⟨ad297, e297, hx297_0⟩ := Kd.at_int HR0_1.out x4_1 p297 q297
     obtain rfl : ad296 = ad297 := (by injection e297)
     replace hx297_0 := ybx HB.out hx297_0
     replace p297 := eq_true p297
     replace q297 := eq_true q297
     go_wp2_with (first | ((with_reducible refine gate_builtin (b := .append) (xs := #[.tmp 23, .tmp 30]) rfl ?_); at_builtin; refine Kd.R_append (Kd.int .i64) (w0 := w) w.heap.size rfl (.tmp 23) (.tmp 30) 22 3 (.int .i64 0) 8 rfl Try.underlying22 info3 rfl (by decide) (by omega) u3 x3_1 ji16 [.int .i64 ji16] (fun _ => True) (fun _ => False) rfl rfl ?aP (fun _ hk => hk.elim) ?aF ?aO ?aB ?aS ?aL ?_; (case aP => exact rfl); (case aB => exact yhb); (case aF => exact (fun _ _ => trivial)); (case aO => exact (Kd.Yz HO_3.out)); (case aS => exact (below_size yhb)); (case aL => have := LMc17.out; omega); intro v299 w19 ho hb hg hat; rw [← Ny298.out] at ho; replace BK291 := yam (blk_grown (g := gb291) (o := .cells #[.int .i64 a0_0, .slice (some ad296) l0_1.length c0_1, .slice A0_2 l0_2.length c0_2] 30 (0, 0)) (ybz BK291.out) hg (Kd.R_ne HO_3.out BK291.out (by decide))); replace HB := yam (hb); have HO300 := yam (ho); clear HO_3; clear ho hb hg hat))
     go_roundg kj4
     case measure => have := HK1.out; have := HJ4.out; omega
     case rel => exact ⟨(y298), (wrap64 (x4_1 + 1)), yeq, H', ⟨by have := HK1.out; have := HJ4.out; omega⟩, ⟨yka HO300.out⟩, ⟨by (with_reducible repeat (first | refine ybn ?_ _ | refine ybd ?_ | refine yba ?_ _)); exact BK291.out⟩, ⟨yhb⟩⟩
def spec_l8Same.l0 : Nat → List Int → List Int → Int → Option (Bool)
 | 0, _, _, _ => none
 | k + 1, x0, x1, x5 => if x5 < (x0.length : Int) then (if 0 ≤ x5 then (if x5 < (x1.length : Int) then (if (rd x0 x5) = (rd x1 x5) then (spec_l8Same.l0 k x0 x1 (wrap64 (x5 + 1))) else (some false)) else (none)) else (none)) else (some true)
def spec_l8Same.f (k : Nat) (l0 : List Int) (l1 : List Int) : Option (Bool) := if (l0.length : Int) = (l1.length : Int) then (spec_l8Same.l0 k l0 l1 0) else (some false)
set_option maxHeartbeats 8000000 in
set_option maxRecDepth 100000 in
theorem spec_l8Same.calls (k : Nat) (A0 : Option Addr) (c0 : Nat) (l0 : List Int) (A1 : Option Addr) (c1 : Nat) (l1 : List Int) (r : Bool) (w : World) (hr0 : Kd.C (Kd.int .i64) w A0 l0.length l0) (hc0 : l0.length ≤ c0) (hr1 : Kd.C (Kd.int .i64) w A1 l1.length l1) (hc1 : l1.length ≤ c1) (h : spec_l8Same.f k l0 l1 = some r) :
  Calls Try.prog 41 #[.slice A0 l0.length c0, .slice A1 l1.length c1] w fun e w' => e = .returned (.bool r) ∧ Drawn0 w w' := by
 have HR0 := yam hr0
 have HC0 := yam hc0
 clear hr0 hc0
 have HR1 := yam hr1
 have HC1 := yam hc1
 clear hr1 hc1
 have H : (if (l0.length : Int) = (l1.length : Int) then (spec_l8Same.l0 k l0 l1 0) else (some false)) = some r := h
 clear h
 by_cases c3 : (l0.length : Int) = (l1.length : Int)
 rotate_left
 ·rw [if_neg c3] at H
  have c3b0 : ((l0.length : Int) == (l1.length : Int)) = false := beq_eq_false_iff_ne.mpr c3
  have c3b1 : ((l0.length : Int) != (l1.length : Int)) = true := bne_iff_ne.mpr c3
  have c3b2 : (l0.length == l1.length) = false := by first | simpa using c3 | (simp at c3 ⊢; omega)
  obtain rfl := Option.some.inj H
  go_enter Try.func41, Try.ntmps41
  go_wp2
  repeat (go_quiet (fail); try go_wp2)
  go_ret
  exact ⟨yeq, by repeat (first | exact Drawn0.refl _ | apply Drawn0.step)⟩

 rw [if_pos c3] at H
 have c3b0 : ((l0.length : Int) == (l1.length : Int)) = true := beq_iff_eq.mpr c3
 have c3b1 : ((l0.length : Int) != (l1.length : Int)) = false := bne_eq_false_iff_eq.mpr c3
 have c3b2 : (l0.length == l1.length) = true := by first | simpa using c3 | (simp at c3 ⊢; omega)
 clear c3
 have H' := yam H
 clear H
 go_enter Try.func41, Try.ntmps41
 go_wp2
 repeat (go_quiet (fail); try go_wp2)
 go_loopg [5] k (fun kq v5 w' => ∃ (x5_1 : Int), v5 = .int .i64 x5_1 ∧ Aside0 (spec_l8Same.l0 kq l0 l1 x5_1 = some r) ∧ Aside0 (kq ≤ k) ∧ Drawn0 w w')
 case atStart => exact ⟨(0), yeq, H', ⟨Nat.le_refl _⟩, by repeat (first | exact Drawn0.refl _ | apply Drawn0.step)⟩
 case round =>
  clear H'
  try clear c1
  try clear p2
  try clear c3
  try clear c3b0
  try clear c3b1
  try clear c3b2
  obtain ⟨x5_1, rfl, HA, HK1, ⟨m1, rfl⟩⟩ := hrel
  cases gk with
  | zero => exact absurd HA.out (by simp [spec_l8Same.l0])
  | succ k1 =>
   have H := HA.out
   clear HA
   simp only [spec_l8Same.l0] at H
   by_cases c4 : x5_1 < (l0.length : Int)
   rotate_left
   ·rw [if_neg c4] at H
    have c4b0 : decide (x5_1 < (l0.length : Int)) = false := decide_eq_false c4
    clear c4
    obtain rfl := Option.some.inj H
    go_wp2
    repeat (go_quiet (fail); try go_wp2)
    go_ret
    exact ⟨yeq, by repeat (first | exact Drawn0.refl _ | apply Drawn0.step)⟩
   rw [if_pos c4] at H
   have c4b0 : decide (x5_1 < (l0.length : Int)) = true := decide_eq_true c4
   clear c4
   replace H := yif H
   obtain ⟨c5b0, H⟩ := H
   replace H := yif H
   obtain ⟨c6b0, H⟩ := H
   by_cases c7 : (rd l0 x5_1) = (rd l1 x5_1)
   rotate_left
   ·rw [if_neg c7] at H
    have c7b0 : ((rd l0 x5_1) == (rd l1 x5_1)) = false := beq_eq_false_iff_ne.mpr c7
    have c7b1 : ((rd l0 x5_1) != (rd l1 x5_1)) = true := bne_iff_ne.mpr c7
    obtain rfl := Option.some.inj H
    have p304 : 0 ≤ (x5_1 : Int) := ydt
    have q304 : x5_1 < (l0.length : Int) := ydt
    obtain ⟨ad304, e304, hx304_0⟩ := Kd.at_int HR0.out x5_1 p304 q304
    cases e304
    replace p304 := eq_true p304
    replace q304 := eq_true q304
    have p305 : 0 ≤ (x5_1 : Int) := ydt
    have q305 : x5_1 < (l1.length : Int) := ydt
    obtain ⟨ad305, e305, hx305_0⟩ := Kd.at_int HR1.out x5_1 p305 q305
    cases e305
    replace p305 := eq_true p305
    replace q305 := eq_true q305
    go_wp2
    repeat (go_quiet (fail); try go_wp2)
    go_ret
    exact ⟨yeq, by repeat (first | exact Drawn0.refl _ | apply Drawn0.step)⟩
   rw [if_pos c7] at H
   have c7b0 : ((rd l0 x5_1) == (rd l1 x5_1)) = true := beq_iff_eq.mpr c7
   have c7b1 : ((rd l0 x5_1) != (rd l1 x5_1)) = false := bne_eq_false_iff_eq.mpr c7
   clear c7
   have H' := yam H
   clear H
   have p304 : 0 ≤ (x5_1 : Int) := ydt
   have q304 : x5_1 < (l0.length : Int) := ydt
   obtain ⟨ad304, e304, hx304_0⟩ := Kd.at_int HR0.out x5_1 p304 q304
   cases e304
   replace p304 := eq_true p304
   replace q304 := eq_true q304
   have p305 : 0 ≤ (x5_1 : Int) := ydt
   have q305 : x5_1 < (l1.length : Int) := ydt
   obtain ⟨ad305, e305, hx305_0⟩ := Kd.at_int HR1.out x5_1 p305 q305
   cases e305
   replace p305 := eq_true p305
   replace q305 := eq_true q305
   go_wp2
   repeat (go_quiet (fail); try go_wp2)
   go_roundg k1
   case measure => have := HK1.out; omega
   case rel => exact ⟨(wrap64 (x5_1 + 1)), yeq, H', ⟨by have := HK1.out; omega⟩, by repeat (first | exact Drawn0.refl _ | apply Drawn0.step)⟩
def spec_MasksCount.l0 : Nat → List Int → Int → Int → Option (Int)
 | 0, _, _, _ => none
 | k + 1, x0, x5, x6 => if x6 < (x0.length : Int) then (if 0 ≤ x6 then ((spec_MaskValues.f k (rd x0 x6)).bind fun t308 => (spec_MasksCount.l0 k x0 (wrap64 (x5 + (t308.length : Int))) (wrap64 (x6 + 1)))) else (none)) else (some x5)
def spec_MasksCount.f (k : Nat) (l0 : List Int) (a1 : Int) : Option (Int) := (spec_MasksValid.f k l0 a1).bind fun t306 => (if t306 = true then (spec_MasksCount.l0 k l0 0 0) else (some (-1)))
set_option maxHeartbeats 8000000 in
set_option maxRecDepth 100000 in
theorem spec_MasksCount.calls (k : Nat) (A0 : Option Addr) (c0 : Nat) (l0 : List Int) (a1 : Int) (r : Int) (w : World) (hr0 : Kd.C (Kd.int .i64) w A0 l0.length l0) (hc0 : l0.length ≤ c0) (h : spec_MasksCount.f k l0 a1 = some r) :
  Calls Try.prog 42 #[.slice A0 l0.length c0, .int .i64 a1] w fun e w' => e = .returned (.int .i64 r) ∧ Below w.heap.size w w' := by
 have HR0 := yam hr0
 have HC0 := yam hc0
 clear hr0 hc0
 have HB := yam (Below.refl w.heap.size w)
 have H : ((spec_MasksValid.f k l0 a1).bind fun t306 => (if t306 = true then (spec_MasksCount.l0 k l0 0 0) else (some (-1)))) = some r := h
 clear h
 replace H := Option.bind_eq_some_iff.mp H
 obtain ⟨t306, A30, H⟩ := H
 try dsimp only at H
 have A3 := yam A30
 clear A30
 by_cases c4 : t306 = true
 rotate_left
 ·replace c4 := Bool.eq_false_iff.mpr c4
  subst c4
  have H1 : (some (-1)) = some r := by rw [if_neg (show ¬ (false = true) by decide)] at H; exact H
  clear H
  have H := H1
  clear H1
  obtain rfl := Option.some.inj H
  go_enter Try.func42, Try.ntmps42
  go_wp2_with (first | (refine goesL_ (some 9) rfl rfl Try.func53 (by kernel_rfl) rfl #[.slice A0 l0.length c0, .int .i64 a1] rfl ymd ?_; (with_reducible refine (spec_MasksValid.calls k _ _ l0 a1 false _ ?side1 ?side2 A3.out).mono ?_); (case side1 => exact Kd.Cz (HR0.out)); (case side2 => exact HC0.out); rintro e w' ⟨rfl, ⟨nd, rfl⟩⟩; refine ⟨_, rfl, ?_⟩))
  go_ret
  exact ⟨yer, yhb⟩

 subst c4
 have H1 : (spec_MasksCount.l0 k l0 0 0) = some r := by rw [if_pos rfl] at H; exact H
 clear H
 have H := H1
 clear H1
 have H' := yam H
 clear H
 go_enter Try.func42, Try.ntmps42
 go_wp2_with (first | (refine goesL_ (some 9) rfl rfl Try.func53 (by kernel_rfl) rfl #[.slice A0 l0.length c0, .int .i64 a1] rfl ymd ?_; (with_reducible refine (spec_MasksValid.calls k _ _ l0 a1 true _ ?side1 ?side2 A3.out).mono ?_); (case side1 => exact Kd.Cz (HR0.out)); (case side2 => exact HC0.out); rintro e w' ⟨rfl, ⟨nd, rfl⟩⟩; refine ⟨_, rfl, ?_⟩))
 go_loopg [5, 6] k (fun kq v5 v6 w' => ∃ (x5_1 : Int) (x6_1 : Int), v5 = .int .i64 x5_1 ∧ v6 = .int .i64 x6_1 ∧ Aside0 (spec_MasksCount.l0 kq l0 x5_1 x6_1 = some r) ∧ Aside0 (kq ≤ k) ∧ Aside0 (Below w.heap.size w w'))
 case atStart => exact ⟨(0), (0), yeq, yeq, H', ⟨Nat.le_refl _⟩, ⟨yhb⟩⟩
 case round =>
  clear H'
  try clear p2
  try clear c4
  obtain ⟨x5_1, x6_1, rfl, rfl, HA, HK1, HB⟩ := hrel
  cases gk with
  | zero => exact absurd HA.out (by simp [spec_MasksCount.l0])
  | succ k1 =>
   have H := HA.out
   clear HA
   simp only [spec_MasksCount.l0] at H
   by_cases c5 : x6_1 < (l0.length : Int)
   rotate_left
   ·rw [if_neg c5] at H
    have c5b0 : decide (x6_1 < (l0.length : Int)) = false := decide_eq_false c5
    clear c5
    obtain rfl := Option.some.inj H
    go_wp2
    go_ret
    exact ⟨yer, yhb⟩
   rw [if_pos c5] at H
   have c5b0 : decide (x6_1 < (l0.length : Int)) = true := decide_eq_true c5
   clear c5
   replace H := yif H
   obtain ⟨c6b0, H⟩ := H
   replace H := Option.bind_eq_some_iff.mp H
   obtain ⟨t308, A70, H⟩ := H
   try dsimp only at H
   have A7 := yam A70
   clear A70
   have H' := yam H
   clear H
   have p307 : 0 ≤ (x6_1 : Int) := ydt
   have q307 : x6_1 < (l0.length : Int) := ydt
   obtain ⟨ad307, e307, hx307_0⟩ := Kd.at_int HR0.out x6_1 p307 q307
   cases e307
   replace hx307_0 := ybx HB.out hx307_0
   replace p307 := eq_true p307
   replace q307 := eq_true q307
   go_wp2_with (first | (refine goesL_ (some 22) rfl rfl Try.func72 (by kernel_rfl) rfl #[.int .i64 (rd l0 x6_1)] rfl ymd ?_; (with_reducible refine (spec_MaskValues.calls k1 (rd l0 x6_1) t308 _ A7.out).mono ?_); rintro e w8 ⟨v309, rfl, ho0, hb⟩; refine ⟨_, rfl, ?_⟩; have HO310 := yam (Kd.R_lower ho0 (below_size (yez HB.out))); replace HB := yam (below_step (yez HB.out) hb); (try clear hb); (try clear hb2); (try clear hk); (try clear hi); (try clear ho0); obtain ⟨Ao9, co9, eo9⟩ := Kd.R_slice HO310.out; subst eo9))
   go_roundg k1
   case measure => have := HK1.out; omega
   case rel => exact ⟨(wrap64 (x5_1 + (t308.length : Int))), (wrap64 (x6_1 + 1)), yeq, yeq, H', ⟨by have := HK1.out; omega⟩, ⟨yhb⟩⟩
mutual
def spec_SolveSteps.j0 : Nat → Int → List (S52) → Bool → Int → List Int → List (S67) → Option ((List (S52)))
 | 0, _, _, _, _, _, _ => none
 | k + 1, x1, x5, x17, x312000, x312001, x312002 => if x17 = true then (some x5) else ((spec_StartMasks.f k x312000 x312001 x312002).bind fun t317 => (spec_SolveSteps.l0 k x1 x5 t317 1 x312000 x312001 x312002))
def spec_SolveSteps.l0 : Nat → Int → List (S52) → List Int → Int → Int → List Int → List (S67) → Option ((List (S52)))
 | 0, _, _, _, _, _, _, _ => none
 | k + 1, x1, x5, x6, x7, x312000, x312001, x312002 => if x7 ≤ x1 then ((spec_NarrowBy.f k x312000 x312001 x312002 x6 x7).bind fun t320 => ((spec_l8Same.f k t320 x6).bind fun t323 => (if t323 = true then (spec_SolveSteps.l0 k x1 x5 x6 (wrap64 (x7 + 1)) x312000 x312001 x312002) else ((spec_MasksCount.f k t320 x312000).bind fun t324 => (if x5.length < 8796093022208 then (spec_SolveSteps.l0 k x1 (x5 ++ [(⟨x7, t324⟩ : S52)]) t320 1 x312000 x312001 x312002) else (none)))))) else (some x5)
end
def spec_SolveSteps.f (k : Nat) (a0_0 : Int) (l0_1 : List Int) (l0_2 : List (S67)) (a1 : Int) : Option ((List (S52))) := (some (([] : List (S52)) : List (S52))).bind fun y312 => ((spec_PuzzleValid.f k a0_0 l0_1 l0_2).bind fun t315 => (if t315 = true then ((spec_l1In.f a1 1 4).bind fun t316 => (spec_SolveSteps.j0 k a1 y312 (!t316) a0_0 l0_1 l0_2)) else (spec_SolveSteps.j0 k a1 y312 true a0_0 l0_1 l0_2)))
set_option maxHeartbeats 8000000 in
set_option maxRecDepth 100000 in
theorem spec_SolveSteps.calls (k : Nat) (a0_0 : Int) (A0_1 : Option Addr) (c0_1 : Nat) (l0_1 : List Int) (A0_2 : Option Addr) (c0_2 : Nat) (l0_2 : List (S67)) (a1 : Int) (r : List (S52)) (w : World) (hr0_1 : Kd.C (Kd.int .i64) w A0_1 l0_1.length l0_1) (hc0_1 : l0_1.length ≤ c0_1) (hr0_2 : Kd.C k67 w A0_2 l0_2.length l0_2) (hc0_2 : l0_2.length ≤ c0_2) (h : spec_SolveSteps.f k a0_0 l0_1 l0_2 a1 = some r) :
  Calls Try.prog 18 #[.agg #[.int .i64 a0_0, .slice A0_1 l0_1.length c0_1, .slice A0_2 l0_2.length c0_2], .int .i64 a1] w fun e w' => ∃ v0_ : Value, e = .returned (v0_) ∧ Kd.R k52 52 w' w.heap.size (fun _ => True) v0_ r ∧ Below w.heap.size w w' := by
 have hu30 := Try.underlying30
 have hu52 := Try.underlying52
 have HR0_1 := yam hr0_1
 have HC0_1 := yam hc0_1
 clear hr0_1 hc0_1
 have HR0_2 := yam hr0_2
 have HC0_2 := yam hc0_2
 clear hr0_2 hc0_2
 have HB := yam (Below.refl w.heap.size w)
 have H : ((some (([] : List (S52)) : List (S52))).bind fun y312 => ((spec_PuzzleValid.f k a0_0 l0_1 l0_2).bind fun t315 => (if t315 = true then ((spec_l1In.f a1 1 4).bind fun t316 => (spec_SolveSteps.j0 k a1 y312 (!t316) a0_0 l0_1 l0_2)) else (spec_SolveSteps.j0 k a1 y312 true a0_0 l0_1 l0_2)))) = some r := h
 clear h
 obtain ⟨y312, hy312⟩ : ∃ y_ : List (S52), y_ = (([] : List (S52))) := ⟨_, rfl⟩
 replace H : ((spec_PuzzleValid.f k a0_0 l0_1 l0_2).bind fun t315 => (if t315 = true then ((spec_l1In.f a1 1 4).bind fun t316 => (spec_SolveSteps.j0 k a1 y312 (!t316) a0_0 l0_1 l0_2)) else (spec_SolveSteps.j0 k a1 y312 true a0_0 l0_1 l0_2))) = some r := by first | (rw [hy312]; with_reducible exact H) | (have H2_ := (Option.bind_some _ _).symm.trans H; rw [hy312]; with_reducible exact H2_) | (have H2_ := (Option.bind_some _ _).symm.trans H; with_reducible exact H2_) | with_reducible exact H | (rw [hy312]; exact H) | exact H
 have Ny312 := yam hy312
 clear hy312
 have HC3 := yam H
 clear H
 go_enter Try.func18, Try.ntmps18
 go_upto_region 2 with (first | (refine ybe 2 #[.int .i64 a0_0, .slice A0_1 l0_1.length c0_1, .slice A0_2 l0_2.length c0_2] 30 ?_; intro gb311 hg w4 hbox hb; have n0_ := yam (below_step (yez HB.out) hb); have n1_ := yam (hbox); have n2_ := yam ((by rw [hg]; exact (below_size (yez HB.out)) : w.heap.size ≤ gb311)); have n3_ := n2_; clear HB; have HB := n0_; have BK311 := n1_; have GW311 := n2_; have GE311 := n3_; clear n0_ n1_ n2_ n3_; clear hb hbox hg) | ((with_reducible refine gate_dst (N := 9) rfl ?_); refine Kd.R_lit k52 _ 52 ?hg (N := 9) ?hd (xs := ([] : List (S52))) (inner := []) (ok := fun _ => True) (okp := fun _ => True) ?hr ?hp (fun _ hk => hk) trivial (Below.refl _ _) (Nat.le_refl _) (by simp) ?_; (case hd => rfl); (case hg => rfl); (case hr => first | (go_simp; done) | (go_simp; rfl)); (case hp => exact (Reps.none _ _)); intro v313 w5 ho6 hb hg_ hnew_; clear hg_ hnew_; (first | rw [← Ny312.out] at ho6 | (simp only [Int.reduceToNat] at ho6; rw [← Ny312.out] at ho6)); have HO314 := yam (Kd.R_lower ho6 (below_size yhb)); replace BK311 := yam (blk_below (g := gb311) (o := .cells #[.int .i64 a0_0, .slice A0_1 l0_1.length c0_1, .slice A0_2 l0_2.length c0_2] 30 (0, 0)) (ybz BK311.out) hb); replace HB := yam (below_step yhb hb); clear hb ho6))
 (try simp only [Act.put, yps])
 go_cut [17] (fun v17 wc => ∃ (kq : Nat) (x17_2 : Bool), v17 = .bool x17_2 ∧ Aside0 (spec_SolveSteps.j0 kq a1 y312 x17_2 a0_0 l0_1 l0_2 = some r) ∧ Aside0 (kq ≤ k) ∧ Aside0 (Kd.R k52 52 wc w.heap.size (fun _ => True) v313 y312) ∧ Aside0 (wc.heap[gb311]? = some (.cells #[.int .i64 a0_0, (.slice A0_1 l0_1.length c0_1), (.slice A0_2 l0_2.length c0_2)] 30 (0, 0))) ∧ Aside0 (Below w.heap.size w wc))
 case first =>
  have H := HC3.out
  clear HC3
  replace H := Option.bind_eq_some_iff.mp H
  obtain ⟨t315, A70, H⟩ := H
  try dsimp only at H
  have A7 := yam A70
  clear A70
  by_cases c8 : t315 = true
  rotate_left
  ·replace c8 := Bool.eq_false_iff.mpr c8
   subst c8
   have H1 : (spec_SolveSteps.j0 k a1 y312 true a0_0 l0_1 l0_2) = some r := by rw [if_neg (show ¬ (false = true) by decide)] at H; exact H
   clear H
   have H := H1
   clear H1
   have H' := yam H
   clear H
   obtain ⟨hcz12_0, hcz12_1, hcz12_2, hfz12_0, hfz12_1, hfz12_2⟩ := ybc BK311.out
   go_wp2_with (first | (refine goesL_ (some 11) rfl rfl Try.func34 (by kernel_rfl) rfl #[.agg #[.int .i64 a0_0, .slice A0_1 l0_1.length c0_1, .slice A0_2 l0_2.length c0_2]] rfl ymd ?_; (with_reducible refine (spec_PuzzleValid.calls k a0_0 _ _ l0_1 _ _ l0_2 false _ ?side1 ?side2 ?side3 ?side4 A7.out).mono ?_); (case side1 => exact Kd.Cz ((Kd.C_below HR0_1.out HB.out))); (case side2 => exact HC0_1.out); (case side3 => exact Kd.Cz ((Kd.C_below HR0_2.out HB.out))); (case side4 => exact HC0_2.out); rintro e w13 ⟨rfl, hb⟩; refine ⟨_, rfl, ?_⟩; replace HO314 := yam (Kd.R_below (Kd.Yz HO314.out) hb); replace BK311 := yam (blk_below (g := gb311) (o := .cells #[.int .i64 a0_0, .slice A0_1 l0_1.length c0_1, .slice A0_2 l0_2.length c0_2] 30 (0, 0)) (ybz BK311.out) hb); replace HB := yam (below_step yhb hb); (try clear hb); (try clear hb2); (try clear hk); (try clear hi)))
   go_meet
   case rel => exact ⟨_, (true), yeq, H', ⟨by first | omega | exact Nat.le_refl _⟩, ⟨yka HO314.out⟩, ⟨by (with_reducible repeat (first | refine ybn ?_ _ | refine ybd ?_ | refine yba ?_ _)); exact BK311.out⟩, ⟨yhb⟩⟩
  subst c8
  have H1 : ((spec_l1In.f a1 1 4).bind fun t316 => (spec_SolveSteps.j0 k a1 y312 (!t316) a0_0 l0_1 l0_2)) = some r := by rw [if_pos rfl] at H; exact H
  clear H
  have H := H1
  clear H1
  replace H := Option.bind_eq_some_iff.mp H
  obtain ⟨t316, A90, H⟩ := H
  try dsimp only at H
  have A9 := yam A90
  clear A90
  have H' := yam H
  clear H
  obtain ⟨hcz10_0, hcz10_1, hcz10_2, hfz10_0, hfz10_1, hfz10_2⟩ := ybc BK311.out
  go_wp2_with (first | (refine goesL_ (some 11) rfl rfl Try.func34 (by kernel_rfl) rfl #[.agg #[.int .i64 a0_0, .slice A0_1 l0_1.length c0_1, .slice A0_2 l0_2.length c0_2]] rfl ymd ?_; (with_reducible refine (spec_PuzzleValid.calls k a0_0 _ _ l0_1 _ _ l0_2 true _ ?side1 ?side2 ?side3 ?side4 A7.out).mono ?_); (case side1 => exact Kd.Cz ((Kd.C_below HR0_1.out HB.out))); (case side2 => exact HC0_1.out); (case side3 => exact Kd.Cz ((Kd.C_below HR0_2.out HB.out))); (case side4 => exact HC0_2.out); rintro e w11 ⟨rfl, hb⟩; refine ⟨_, rfl, ?_⟩; replace HO314 := yam (Kd.R_below (Kd.Yz HO314.out) hb); replace BK311 := yam (blk_below (g := gb311) (o := .cells #[.int .i64 a0_0, .slice A0_1 l0_1.length c0_1, .slice A0_2 l0_2.length c0_2] 30 (0, 0)) (ybz BK311.out) hb); replace HB := yam (below_step yhb hb); (try clear hb); (try clear hb2); (try clear hk); (try clear hi)) | (go_at_call 39; (with_reducible refine (spec_l1In.calls a1 1 4 t316 _ A9.out).mono ?_); rintro e w' ⟨rfl, ⟨nd, rfl⟩⟩))
  go_meet
  case rel => exact ⟨_, (!t316), yeq, H', ⟨by first | omega | exact Nat.le_refl _⟩, ⟨yka HO314.out⟩, ⟨by (with_reducible repeat (first | refine ybn ?_ _ | refine ybd ?_ | refine yba ?_ _)); exact BK311.out⟩, ⟨yhb⟩⟩
 case rest =>
  clear HC3
  try clear c1
  try clear p2
  try clear c3
  try clear c8
  try clear hcz10_0
  try clear hcz10_1
  try clear hcz10_2
  try clear hcz12_0
  try clear hcz12_1
  try clear hcz12_2
  try clear hfz10_0
  try clear hfz10_1
  try clear hfz10_2
  try clear hfz12_0
  try clear hfz12_1
  try clear hfz12_2
  obtain ⟨kq, x17_2, rfl, HA, HJ2, HO_5, BK311, HB⟩ := hcut
  cases kq with
  | zero => exact absurd HA.out (by simp [spec_SolveSteps.j0])
  | succ kj2 =>
   have H := HA.out
   clear HA
   simp only [spec_SolveSteps.j0] at H
   by_cases c14 : x17_2 = true
   ·subst c14
    have H1 : (some y312) = some r := by rw [if_pos rfl] at H; exact H
    clear H
    have H := H1
    clear H1
    obtain rfl := Option.some.inj H
    go_wp2
    go_ret
    exact ⟨_, yer, yka HO_5.out, yhb⟩
   replace c14 := Bool.eq_false_iff.mpr c14
   subst c14
   have H1 : ((spec_StartMasks.f kj2 a0_0 l0_1 l0_2).bind fun t317 => (spec_SolveSteps.l0 kj2 a1 y312 t317 1 a0_0 l0_1 l0_2)) = some r := by rw [if_neg (show ¬ (false = true) by decide)] at H; exact H
   clear H
   have H := H1
   clear H1
   replace H := Option.bind_eq_some_iff.mp H
   obtain ⟨t317, A150, H⟩ := H
   try dsimp only at H
   have A15 := yam A150
   clear A150
   have H' := yam H
   clear H
   obtain ⟨hcz16_0, hcz16_1, hcz16_2, hfz16_0, hfz16_1, hfz16_2⟩ := ybc BK311.out
   go_wp2_with (first | (refine goesL_ (some 20) rfl rfl Try.func40 (by kernel_rfl) rfl #[.agg #[.int .i64 a0_0, .slice A0_1 l0_1.length c0_1, .slice A0_2 l0_2.length c0_2]] rfl ymd ?_; (with_reducible refine (spec_StartMasks.calls kj2 a0_0 _ _ l0_1 _ _ l0_2 t317 _ ?side1 ?side2 ?side3 ?side4 A15.out).mono ?_); (case side1 => exact Kd.Cz ((Kd.C_below HR0_1.out HB.out))); (case side2 => exact HC0_1.out); (case side3 => exact Kd.Cz ((Kd.C_below HR0_2.out HB.out))); (case side4 => exact HC0_2.out); rintro e w17 ⟨v318, rfl, ho0, hb⟩; refine ⟨_, rfl, ?_⟩; replace HO_5 := yam (Kd.R_below (Kd.Yz HO_5.out) hb); have HO319 := yam (Kd.R_lower ho0 (below_size yhb)); replace BK311 := yam (blk_below (g := gb311) (o := .cells #[.int .i64 a0_0, .slice A0_1 l0_1.length c0_1, .slice A0_2 l0_2.length c0_2] 30 (0, 0)) (ybz BK311.out) hb); replace HB := yam (below_step yhb hb); (try clear hb); (try clear hb2); (try clear hk); (try clear hi); (try clear ho0)))
   go_loopg [5, 6, 7] kj2 (fun kq v5 v6 v7 w' => ∃ (x5_2 : List (S52)) (x6_2 : List Int) (x7_2 : Int), v7 = .int .i64 x7_2 ∧ Aside0 (spec_SolveSteps.l0 kq a1 x5_2 x6_2 x7_2 a0_0 l0_1 l0_2 = some r) ∧ Aside0 (kq ≤ kj2) ∧ Aside0 (Kd.R k52 52 w' w.heap.size (fun _ => True) v5 x5_2) ∧ Aside0 (Kd.R (Kd.int .i64) 3 w' w.heap.size (fun _ => True) v6 x6_2) ∧ Aside0 (w'.heap[gb311]? = some (.cells #[.int .i64 a0_0, (.slice A0_1 l0_1.length c0_1), (.slice A0_2 l0_2.length c0_2)] 30 (0, 0))) ∧ Aside0 (Below w.heap.size w w'))
   case atStart => exact ⟨(y312), (t317), (1), yeq, H', ⟨Nat.le_refl _⟩, ⟨yka HO_5.out⟩, ⟨yka HO319.out⟩, ⟨by (with_reducible repeat (first | refine ybn ?_ _ | refine ybd ?_ | refine yba ?_ _)); exact BK311.out⟩, ⟨yhb⟩⟩
   case round =>
    clear H'
    try clear c1
    try clear p2
    try clear c3
    try clear c4
    try clear c8
    try clear c14
    try clear hcz10_0
    try clear hcz10_1
    try clear hcz10_2
    try clear hcz12_0
    try clear hcz12_1
    try clear hcz12_2
    try clear hcz16_0
    try clear hcz16_1
    try clear hcz16_2
    try clear hfz10_0
    try clear hfz10_1
    try clear hfz10_2
    try clear hfz12_0
    try clear hfz12_1
    try clear hfz12_2
    try clear hfz16_0
    try clear hfz16_1
    try clear hfz16_2
    try clear p2
    obtain ⟨x5_2, x6_2, x7_2, rfl, HA, HK2, HO_5, HO_6, BK311, HB⟩ := hrel
    cases gk with
    | zero => exact absurd HA.out (by simp [spec_SolveSteps.l0])
    | succ k2 =>
     have H := HA.out
     clear HA
     simp only [spec_SolveSteps.l0] at H
     by_cases c18 : x7_2 ≤ a1
     rotate_left
     ·rw [if_neg c18] at H
      have c18b0 : decide (x7_2 ≤ a1) = false := decide_eq_false c18
      clear c18
      obtain rfl := Option.some.inj H
      go_wp2
      go_ret
      exact ⟨_, yer, yka HO_5.out, yhb⟩

     rw [if_pos c18] at H
     have c18b0 : decide (x7_2 ≤ a1) = true := decide_eq_true c18
     clear c18
     replace H := Option.bind_eq_some_iff.mp H
     obtain ⟨t320, A190, H⟩ := H
     try dsimp only at H
     have A19 := yam A190
     clear A190
     replace H := Option.bind_eq_some_iff.mp H
     obtain ⟨t323, A200, H⟩ := H
     try dsimp only at H
     have A20 := yam A200
     clear A200
     by_cases c21 : t323 = true
     ·subst c21
      have H1 : (spec_SolveSteps.l0 k2 a1 x5_2 x6_2 (wrap64 (x7_2 + 1)) a0_0 l0_1 l0_2) = some r := by rw [if_pos rfl] at H; exact H
      clear H
      have H := H1
      clear H1
      have H' := yam H
      clear H
      obtain ⟨hcz22_0, hcz22_1, hcz22_2, hfz22_0, hfz22_1, hfz22_2⟩ := ybc BK311.out
      obtain ⟨Ao23, co23, eo23⟩ := Kd.R_slice HO_6.out
      subst eo23
      go_wp2_with (first | (refine goesL_ (some 27) rfl rfl Try.func25 (by kernel_rfl) rfl #[.agg #[.int .i64 a0_0, .slice A0_1 l0_1.length c0_1, .slice A0_2 l0_2.length c0_2], .slice Ao23 x6_2.length co23, .int .i64 x7_2] rfl ymd ?_; (with_reducible refine (spec_NarrowBy.calls k2 a0_0 _ _ l0_1 _ _ l0_2 _ _ x6_2 x7_2 t320 _ ?side1 ?side2 ?side3 ?side4 ?side5 ?side6 A19.out).mono ?_); (case side1 => exact Kd.Cz ((Kd.C_below HR0_1.out HB.out))); (case side2 => exact HC0_1.out); (case side3 => exact Kd.Cz ((Kd.C_below HR0_2.out HB.out))); (case side4 => exact HC0_2.out); (case side5 => repeat (first | exact (Kd.Yr HO_6.out).2.2 | (with_reducible refine Kd.C_alloc ?_ _) | (with_reducible refine Kd.C_drewN ?_ _) | (with_reducible refine Kd.C_drew ?_))); (case side6 => exact (Kd.Yr HO_6.out).2.1); rintro e w24 ⟨v321, rfl, ho0, hb⟩; refine ⟨_, rfl, ?_⟩; replace HO_5 := yam (Kd.R_below (Kd.Yz HO_5.out) hb); have HO322 := yam (Kd.R_lower (Kd.Yw ho0 (Kd.R_lt (Kd.Yz HO_6.out))) (below_size yhb)); replace HO_6 := yam (Kd.Ye (Kd.Yz HO_6.out) (Kd.Yb ho0) hb); replace BK311 := yam (blk_below (g := gb311) (o := .cells #[.int .i64 a0_0, .slice A0_1 l0_1.length c0_1, .slice A0_2 l0_2.length c0_2] 30 (0, 0)) (ybz BK311.out) hb); replace HB := yam (below_step yhb hb); (try clear hb); (try clear hb2); (try clear hk); (try clear hi); (try clear ho0); obtain ⟨Ao25, co25, eo25⟩ := Kd.R_slice HO322.out; subst eo25) | (refine goesL_ (some 30) rfl rfl Try.func41 (by kernel_rfl) rfl #[.slice Ao25 t320.length co25, .slice Ao23 x6_2.length co23] rfl ymd ?_; (with_reducible refine (spec_l8Same.calls k2 _ _ t320 _ _ x6_2 true _ ?side1 ?side2 ?side3 ?side4 A20.out).mono ?_); (case side1 => repeat (first | exact (Kd.Yr HO322.out).2.2 | (with_reducible refine Kd.C_alloc ?_ _) | (with_reducible refine Kd.C_drewN ?_ _) | (with_reducible refine Kd.C_drew ?_))); (case side2 => exact (Kd.Yr HO322.out).2.1); (case side3 => repeat (first | exact (Kd.Yr HO_6.out).2.2 | (with_reducible refine Kd.C_alloc ?_ _) | (with_reducible refine Kd.C_drewN ?_ _) | (with_reducible refine Kd.C_drew ?_))); (case side4 => exact (Kd.Yr HO_6.out).2.1); rintro e w' ⟨rfl, ⟨nd, rfl⟩⟩; refine ⟨_, rfl, ?_⟩))
      go_roundg k2
      case measure => have := HJ2.out; have := HK2.out; omega
      case rel => exact ⟨(x5_2), (x6_2), (wrap64 (x7_2 + 1)), yeq, H', ⟨by have := HJ2.out; have := HK2.out; omega⟩, ⟨yka HO_5.out⟩, ⟨by (with_reducible repeat (first | apply Kd.Ya | apply Kd.Yn | apply Kd.Yd)); exact Kd.R_mono HO_6.out (fun _ hk => trivial)⟩, ⟨by (with_reducible repeat (first | refine ybn ?_ _ | refine ybd ?_ | refine yba ?_ _)); exact BK311.out⟩, ⟨yhb⟩⟩
     replace c21 := Bool.eq_false_iff.mpr c21
     subst c21
     have H1 : ((spec_MasksCount.f k2 t320 a0_0).bind fun t324 => (if x5_2.length < 8796093022208 then (spec_SolveSteps.l0 k2 a1 (x5_2 ++ [(⟨x7_2, t324⟩ : S52)]) t320 1 a0_0 l0_1 l0_2) else (none))) = some r := by rw [if_neg (show ¬ (false = true) by decide)] at H; exact H
     clear H
     have H := H1
     clear H1
     replace H := Option.bind_eq_some_iff.mp H
     obtain ⟨t324, A260, H⟩ := H
     try dsimp only at H
     have A26 := yam A260
     clear A260
     replace H := yig H
     obtain ⟨c27, H⟩ := H
     have LMc27 := yam c27
     clear c27
     obtain ⟨y325, hy325⟩ : ∃ y_ : List (S52), y_ = (x5_2 ++ [(⟨x7_2, t324⟩ : S52)]) := ⟨_, rfl⟩
     replace H : (spec_SolveSteps.l0 k2 a1 y325 t320 1 a0_0 l0_1 l0_2) = some r := by first | (rw [hy325]; with_reducible exact H) | (have H2_ := (Option.bind_some _ _).symm.trans H; rw [hy325]; with_reducible exact H2_) | (have H2_ := (Option.bind_some _ _).symm.trans H; with_reducible exact H2_) | with_reducible exact H | (rw [hy325]; exact H) | exact H
     have Ny325 := yam hy325
     clear hy325
     have H' := yam H
     clear H
     obtain ⟨hcz28_0, hcz28_1, hcz28_2, hfz28_0, hfz28_1, hfz28_2⟩ := ybc BK311.out
     obtain ⟨Ao29, co29, eo29⟩ := Kd.R_slice HO_6.out
     subst eo29
     go_wp2_with (first | (refine goesL_ (some 27) rfl rfl Try.func25 (by kernel_rfl) rfl #[.agg #[.int .i64 a0_0, .slice A0_1 l0_1.length c0_1, .slice A0_2 l0_2.length c0_2], .slice Ao29 x6_2.length co29, .int .i64 x7_2] rfl ymd ?_; (with_reducible refine (spec_NarrowBy.calls k2 a0_0 _ _ l0_1 _ _ l0_2 _ _ x6_2 x7_2 t320 _ ?side1 ?side2 ?side3 ?side4 ?side5 ?side6 A19.out).mono ?_); (case side1 => exact Kd.Cz ((Kd.C_below HR0_1.out HB.out))); (case side2 => exact HC0_1.out); (case side3 => exact Kd.Cz ((Kd.C_below HR0_2.out HB.out))); (case side4 => exact HC0_2.out); (case side5 => repeat (first | exact (Kd.Yr HO_6.out).2.2 | (with_reducible refine Kd.C_alloc ?_ _) | (with_reducible refine Kd.C_drewN ?_ _) | (with_reducible refine Kd.C_drew ?_))); (case side6 => exact (Kd.Yr HO_6.out).2.1); rintro e w30 ⟨v321, rfl, ho0, hb⟩; refine ⟨_, rfl, ?_⟩; replace HO_5 := yam (Kd.R_below (Kd.Yz HO_5.out) hb); have HO322 := yam (Kd.R_lower (Kd.Yw ho0 (Kd.R_lt (Kd.Yz HO_6.out))) (below_size yhb)); replace HO_6 := yam (Kd.Ye (Kd.Yz HO_6.out) (Kd.Yb ho0) hb); replace BK311 := yam (blk_below (g := gb311) (o := .cells #[.int .i64 a0_0, .slice A0_1 l0_1.length c0_1, .slice A0_2 l0_2.length c0_2] 30 (0, 0)) (ybz BK311.out) hb); replace HB := yam (below_step yhb hb); (try clear hb); (try clear hb2); (try clear hk); (try clear hi); (try clear ho0); obtain ⟨Ao31, co31, eo31⟩ := Kd.R_slice HO322.out; subst eo31) | (refine goesL_ (some 30) rfl rfl Try.func41 (by kernel_rfl) rfl #[.slice Ao31 t320.length co31, .slice Ao29 x6_2.length co29] rfl ymd ?_; (with_reducible refine (spec_l8Same.calls k2 _ _ t320 _ _ x6_2 false _ ?side1 ?side2 ?side3 ?side4 A20.out).mono ?_); (case side1 => repeat (first | exact (Kd.Yr HO322.out).2.2 | (with_reducible refine Kd.C_alloc ?_ _) | (with_reducible refine Kd.C_drewN ?_ _) | (with_reducible refine Kd.C_drew ?_))); (case side2 => exact (Kd.Yr HO322.out).2.1); (case side3 => repeat (first | exact (Kd.Yr HO_6.out).2.2 | (with_reducible refine Kd.C_alloc ?_ _) | (with_reducible refine Kd.C_drewN ?_ _) | (with_reducible refine Kd.C_drew ?_))); (case side4 => exact (Kd.Yr HO_6.out).2.1); rintro e w' ⟨rfl, ⟨nd, rfl⟩⟩; refine ⟨_, rfl, ?_⟩; obtain ⟨hcz32_0, hcz32_1, hcz32_2, hfz32_0, hfz32_1, hfz32_2⟩ := ybc BK311.out) | (refine goesL_ (some 39) rfl rfl Try.func42 (by kernel_rfl) rfl #[.slice Ao31 t320.length co31, .int .i64 a0_0] rfl ymd ?_; (with_reducible refine (spec_MasksCount.calls k2 _ _ t320 a0_0 t324 _ ?side1 ?side2 A26.out).mono ?_); (case side1 => repeat (first | exact (Kd.Yr HO322.out).2.2 | (with_reducible refine Kd.C_alloc ?_ _) | (with_reducible refine Kd.C_drewN ?_ _) | (with_reducible refine Kd.C_drew ?_))); (case side2 => exact (Kd.Yr HO322.out).2.1); rintro e w33 ⟨rfl, hb⟩; refine ⟨_, rfl, ?_⟩; replace HO_5 := yam (Kd.R_below (Kd.Yz HO_5.out) hb); replace HO_6 := yam (Kd.R_below (Kd.Yz HO_6.out) hb); replace HO322 := yam (Kd.R_below (Kd.Yz HO322.out) hb); replace BK311 := yam (blk_below (g := gb311) (o := .cells #[.int .i64 a0_0, .slice A0_1 l0_1.length c0_1, .slice A0_2 l0_2.length c0_2] 30 (0, 0)) (ybz BK311.out) hb); replace HB := yam (below_step yhb hb); (try clear hb); (try clear hb2); (try clear hk); (try clear hi)) | ((with_reducible refine gate_builtin (b := .append) (xs := #[.tmp 34, .tmp 41]) rfl ?_); at_builtin; refine Kd.R_append k52 (w0 := w) w.heap.size rfl (.tmp 34) (.tmp 41) 37 52 (.agg #[(.int .i64 0), (.int .i64 0)]) 16 rfl Try.underlying37 info52 rfl (by decide) (by omega) u5 x5_2 (⟨x7_2, t324⟩ : S52) [.int .i64 x7_2, .int .i64 t324] (fun _ => True) (fun _ => False) rfl rfl ?aP (fun _ hk => hk.elim) ?aF ?aO ?aB ?aS ?aL ?_; (case aP => exact k52_mkM _ _ _ (⟨x7_2, t324⟩ : S52)); (case aB => exact yhb); (case aF => exact (fun _ _ => trivial)); (case aO => exact (Kd.Yz HO_5.out)); (case aS => exact (below_size yhb)); (case aL => have := LMc27.out; omega); intro v326 w34 ho hb hg hat; rw [← Ny325.out] at ho; replace HO_6 := yam (Kd.R_over' (Kd.Yz HO_6.out) (Kd.R_typed (Kd.Yz HO_5.out)) (by decide) hg); replace BK311 := yam (blk_grown (g := gb311) (o := .cells #[.int .i64 a0_0, .slice A0_1 l0_1.length c0_1, .slice A0_2 l0_2.length c0_2] 30 (0, 0)) (ybz BK311.out) hg (Kd.R_ne HO_5.out BK311.out (by decide))); replace HO322 := yam (Kd.R_over' (Kd.Yz HO322.out) (Kd.R_typed (Kd.Yz HO_5.out)) (by decide) hg); replace HB := yam (hb); have HO327 := yam (ho); clear HO_5; clear ho hb hg hat))
     go_roundg k2
     case measure => have := HJ2.out; have := HK2.out; omega
     case rel => exact ⟨(y325), (t320), (1), yeq, H', ⟨by have := HJ2.out; have := HK2.out; omega⟩, ⟨yka HO327.out⟩, ⟨by (with_reducible repeat (first | apply Kd.Ya | apply Kd.Yn | apply Kd.Yd)); exact Kd.R_mono HO322.out (fun _ hk => trivial)⟩, ⟨by (with_reducible repeat (first | refine ybn ?_ _ | refine ybd ?_ | refine yba ?_ _)); exact BK311.out⟩, ⟨yhb⟩⟩
mutual
def spec_StepMasks.j0 : Nat → Int → List (S52) → Bool → Int → List Int → List (S67) → Option (List Int)
 | 0, _, _, _, _, _, _ => none
 | k + 1, x1, x5, x19, x755000, x755001, x755002 => if x19 = true then (some (([] : List Int))) else ((spec_StartMasks.f k x755000 x755001 x755002).bind fun t763 => (spec_StepMasks.l0 k x1 x5 t763 0 x755000 x755001 x755002))
def spec_StepMasks.l0 : Nat → Int → List (S52) → List Int → Int → Int → List Int → List (S67) → Option (List Int)
 | 0, _, _, _, _, _, _, _ => none
 | k + 1, x1, x5, x6, x7, x755000, x755001, x755002 => if x7 < x1 then (if 0 ≤ x7 then (if x7 < (x5.length : Int) then ((spec_NarrowBy.f k x755000 x755001 x755002 x6 ((rd_T52 x5 x7).f0)).bind fun t767 => (spec_StepMasks.l0 k x1 x5 t767 (wrap64 (x7 + 1)) x755000 x755001 x755002)) else (none)) else (none)) else (some x6)
end
def spec_StepMasks.f (k : Nat) (a0_0 : Int) (l0_1 : List Int) (l0_2 : List (S67)) (a1 : Int) : Option (List Int) := (spec_SolveSteps.f k a0_0 l0_1 l0_2 4).bind fun t755 => ((spec_PuzzleValid.f k a0_0 l0_1 l0_2).bind fun t758 => (if t758 = true then ((spec_l1In.f a1 0 (t755.length : Int)).bind fun t759 => (spec_StepMasks.j0 k a1 t755 (!t759) a0_0 l0_1 l0_2)) else (spec_StepMasks.j0 k a1 t755 true a0_0 l0_1 l0_2)))
def spec_StepMasks.T8 : Bool × List (List Nat × List Nat) := (true, [([], []), ([], []), ([], []), ([], []), ([2, 3], [2, 3]), ([4], [4]), ([5], [5]), ([0, 1, 6], [0, 1, 6]), ([7, 7, 0, 1, 2, 3, 4, 5, 6, 7], [1, 7])])
def spec_StepMasks.B8 : List Nat := [0, 0, 0, 0, 12, 28, 60, 127, 255]
theorem spec_StepMasks.tab8 : rtab .any (opsOf Try.f30 8) = spec_StepMasks.T8 := by kernel_rfl
theorem spec_StepMasks.bits8 : waitsOk spec_StepMasks.T8.2 spec_StepMasks.B8 = true := by kernel_rfl
set_option maxHeartbeats 8000000 in
set_option maxRecDepth 100000 in
theorem spec_StepMasks.calls (k : Nat) (a0_0 : Int) (A0_1 : Option Addr) (c0_1 : Nat) (l0_1 : List Int) (A0_2 : Option Addr) (c0_2 : Nat) (l0_2 : List (S67)) (a1 : Int) (r : List Int) (w : World) (hr0_1 : Kd.C (Kd.int .i64) w A0_1 l0_1.length l0_1) (hc0_1 : l0_1.length ≤ c0_1) (hr0_2 : Kd.C k67 w A0_2 l0_2.length l0_2) (hc0_2 : l0_2.length ≤ c0_2) (h : spec_StepMasks.f k a0_0 l0_1 l0_2 a1 = some r) :
  Calls Try.prog 30 #[.agg #[.int .i64 a0_0, .slice A0_1 l0_1.length c0_1, .slice A0_2 l0_2.length c0_2], .int .i64 a1] w fun e w' => ∃ v0_ : Value, e = .returned (v0_) ∧ Kd.R (Kd.int .i64) 3 w' w.heap.size (fun _ => True) v0_ r ∧ Below w.heap.size w w' := by
 have hu30 := Try.underlying30
 have HR0_1 := yam hr0_1
 have HC0_1 := yam hc0_1
 clear hr0_1 hc0_1
 have HR0_2 := yam hr0_2
 have HC0_2 := yam hc0_2
 clear hr0_2 hc0_2
 have HB := yam (Below.refl w.heap.size w)
 have H : ((spec_SolveSteps.f k a0_0 l0_1 l0_2 4).bind fun t755 => ((spec_PuzzleValid.f k a0_0 l0_1 l0_2).bind fun t758 => (if t758 = true then ((spec_l1In.f a1 0 (t755.length : Int)).bind fun t759 => (spec_StepMasks.j0 k a1 t755 (!t759) a0_0 l0_1 l0_2)) else (spec_StepMasks.j0 k a1 t755 true a0_0 l0_1 l0_2)))) = some r := h
 clear h
 replace H := Option.bind_eq_some_iff.mp H
 obtain ⟨t755, A30, H⟩ := H
 try dsimp only at H
 have A3 := yam A30
 clear A30
 have HC4 := yam H
 clear H
 go_enter Try.func30, Try.ntmps30
 go_upto_region 2 with (first | ((with_reducible refine gate_dst (N := 2) rfl ?_); (try (refine gate_guard (by rfl) ?_; dsimp only)); refine ybe 2 #[.int .i64 a0_0, .slice A0_1 l0_1.length c0_1, .slice A0_2 l0_2.length c0_2] 30 ?_; intro gb754 hg w5 hbox hb; have n0_ := yam (below_step (yez HB.out) hb); have n1_ := yam (hbox); have n2_ := yam ((by rw [hg]; exact (below_size (yez HB.out)) : w.heap.size ≤ gb754)); have n3_ := n2_; clear HB; have HB := n0_; have BK754 := n1_; have GW754 := n2_; have GE754 := n3_; clear n0_ n1_ n2_ n3_; clear hb hbox hg; obtain ⟨hcz6_0, hcz6_1, hcz6_2, hfz6_0, hfz6_1, hfz6_2⟩ := ybc BK754.out) | (refine goesL_ (some 9) rfl rfl Try.func18 (by kernel_rfl) rfl #[.agg #[.int .i64 a0_0, .slice A0_1 l0_1.length c0_1, .slice A0_2 l0_2.length c0_2], .int .i64 4] rfl ymd ?_; (with_reducible refine (spec_SolveSteps.calls k a0_0 _ _ l0_1 _ _ l0_2 4 t755 _ ?side1 ?side2 ?side3 ?side4 A3.out).mono ?_); (case side1 => exact Kd.Cz ((Kd.C_below HR0_1.out HB.out))); (case side2 => exact HC0_1.out); (case side3 => exact Kd.Cz ((Kd.C_below HR0_2.out HB.out))); (case side4 => exact HC0_2.out); rintro e w7 ⟨v756, rfl, ho0, hb⟩; refine ⟨_, rfl, ?_⟩; have HO757 := yam (Kd.R_lower ho0 (below_size yhb)); replace BK754 := yam (blk_below (g := gb754) (o := .cells #[.int .i64 a0_0, .slice A0_1 l0_1.length c0_1, .slice A0_2 l0_2.length c0_2] 30 (0, 0)) (ybz BK754.out) hb); replace HB := yam (below_step yhb hb); (try clear hb); (try clear hb2); (try clear hk); (try clear hi); (try clear ho0)))
 (try simp only [Act.put, yps])
 go_cut [19] (fun v19 wc => ∃ (kq : Nat) (x19_3 : Bool), v19 = .bool x19_3 ∧ Aside0 (spec_StepMasks.j0 kq a1 t755 x19_3 a0_0 l0_1 l0_2 = some r) ∧ Aside0 (kq ≤ k) ∧ Aside0 (Kd.R k52 52 wc w.heap.size (fun _ => True) v756 t755) ∧ Aside0 (wc.heap[gb754]? = some (.cells #[.int .i64 a0_0, (.slice A0_1 l0_1.length c0_1), (.slice A0_2 l0_2.length c0_2)] 30 (0, 0))) ∧ Aside0 (Below w.heap.size w wc))
 case first =>
  have H := HC4.out
  clear HC4
  replace H := Option.bind_eq_some_iff.mp H
  obtain ⟨t758, A80, H⟩ := H
  try dsimp only at H
  have A8 := yam A80
  clear A80
  by_cases c9 : t758 = true
  rotate_left
  ·replace c9 := Bool.eq_false_iff.mpr c9
   subst c9
   have H1 : (spec_StepMasks.j0 k a1 t755 true a0_0 l0_1 l0_2) = some r := by rw [if_neg (show ¬ (false = true) by decide)] at H; exact H
   clear H
   have H := H1
   clear H1
   have H' := yam H
   clear H
   obtain ⟨hcz14_0, hcz14_1, hcz14_2, hfz14_0, hfz14_1, hfz14_2⟩ := ybc BK754.out
   go_wp2_with (first | (refine goesL_ (some 11) rfl rfl Try.func34 (by kernel_rfl) rfl #[.agg #[.int .i64 a0_0, .slice A0_1 l0_1.length c0_1, .slice A0_2 l0_2.length c0_2]] rfl ymd ?_; (with_reducible refine (spec_PuzzleValid.calls k a0_0 _ _ l0_1 _ _ l0_2 false _ ?side1 ?side2 ?side3 ?side4 A8.out).mono ?_); (case side1 => exact Kd.Cz ((Kd.C_below HR0_1.out HB.out))); (case side2 => exact HC0_1.out); (case side3 => exact Kd.Cz ((Kd.C_below HR0_2.out HB.out))); (case side4 => exact HC0_2.out); rintro e w15 ⟨rfl, hb⟩; refine ⟨_, rfl, ?_⟩; replace HO757 := yam (Kd.R_below (Kd.Yz HO757.out) hb); replace BK754 := yam (blk_below (g := gb754) (o := .cells #[.int .i64 a0_0, .slice A0_1 l0_1.length c0_1, .slice A0_2 l0_2.length c0_2] 30 (0, 0)) (ybz BK754.out) hb); replace HB := yam (below_step yhb hb); (try clear hb); (try clear hb2); (try clear hk); (try clear hi)))
   go_meet
   case rel => exact ⟨_, (true), yeq, H', ⟨by first | omega | exact Nat.le_refl _⟩, ⟨yka HO757.out⟩, ⟨by (with_reducible repeat (first | refine ybn ?_ _ | refine ybd ?_ | refine yba ?_ _)); exact BK754.out⟩, ⟨yhb⟩⟩
  subst c9
  have H1 : ((spec_l1In.f a1 0 (t755.length : Int)).bind fun t759 => (spec_StepMasks.j0 k a1 t755 (!t759) a0_0 l0_1 l0_2)) = some r := by rw [if_pos rfl] at H; exact H
  clear H
  have H := H1
  clear H1
  replace H := Option.bind_eq_some_iff.mp H
  obtain ⟨t759, A100, H⟩ := H
  try dsimp only at H
  have A10 := yam A100
  clear A100
  have H' := yam H
  clear H
  obtain ⟨hcz11_0, hcz11_1, hcz11_2, hfz11_0, hfz11_1, hfz11_2⟩ := ybc BK754.out
  go_wp2_with (first | (refine goesL_ (some 11) rfl rfl Try.func34 (by kernel_rfl) rfl #[.agg #[.int .i64 a0_0, .slice A0_1 l0_1.length c0_1, .slice A0_2 l0_2.length c0_2]] rfl ymd ?_; (with_reducible refine (spec_PuzzleValid.calls k a0_0 _ _ l0_1 _ _ l0_2 true _ ?side1 ?side2 ?side3 ?side4 A8.out).mono ?_); (case side1 => exact Kd.Cz ((Kd.C_below HR0_1.out HB.out))); (case side2 => exact HC0_1.out); (case side3 => exact Kd.Cz ((Kd.C_below HR0_2.out HB.out))); (case side4 => exact HC0_2.out); rintro e w12 ⟨rfl, hb⟩; refine ⟨_, rfl, ?_⟩; replace HO757 := yam (Kd.R_below (Kd.Yz HO757.out) hb); replace BK754 := yam (blk_below (g := gb754) (o := .cells #[.int .i64 a0_0, .slice A0_1 l0_1.length c0_1, .slice A0_2 l0_2.length c0_2] 30 (0, 0)) (ybz BK754.out) hb); replace HB := yam (below_step yhb hb); (try clear hb); (try clear hb2); (try clear hk); (try clear hi); obtain ⟨Ao13, co13, eo13⟩ := Kd.R_slice HO757.out; subst eo13) | (go_at_call 39; (with_reducible refine (spec_l1In.calls a1 0 (t755.length : Int) t759 _ A10.out).mono ?_); rintro e w' ⟨rfl, ⟨nd, rfl⟩⟩))
  go_meet
  case rel => exact ⟨_, (!t759), yeq, H', ⟨by first | omega | exact Nat.le_refl _⟩, ⟨yka HO757.out⟩, ⟨by (with_reducible repeat (first | refine ybn ?_ _ | refine ybd ?_ | refine yba ?_ _)); exact BK754.out⟩, ⟨yhb⟩⟩
 case rest =>
  clear HC4
  try clear c1
  try clear p2
  try clear c3
  try clear c9
  try clear hcz11_0
  try clear hcz11_1
  try clear hcz11_2
  try clear hcz14_0
  try clear hcz14_1
  try clear hcz14_2
  try clear hcz6_0
  try clear hcz6_1
  try clear hcz6_2
  try clear hfz11_0
  try clear hfz11_1
  try clear hfz11_2
  try clear hfz14_0
  try clear hfz14_1
  try clear hfz14_2
  try clear hfz6_0
  try clear hfz6_1
  try clear hfz6_2
  obtain ⟨kq, x19_3, rfl, HA, HJ3, HO_5, BK754, HB⟩ := hcut
  cases kq with
  | zero => exact absurd HA.out (by simp [spec_StepMasks.j0])
  | succ kj3 =>
   have H := HA.out
   clear HA
   simp only [spec_StepMasks.j0] at H
   by_cases c16 : x19_3 = true
   ·subst c16
    have H1 : (some (([] : List Int))) = some r := by rw [if_pos rfl] at H; exact H
    clear H
    have H := H1
    clear H1
    obtain ⟨y760, hy760⟩ : ∃ y_ : List Int, y_ = (([] : List Int)) := ⟨_, rfl⟩
    replace H : (some y760) = some r := by first | (rw [hy760]; with_reducible exact H) | (have H2_ := (Option.bind_some _ _).symm.trans H; rw [hy760]; with_reducible exact H2_) | (have H2_ := (Option.bind_some _ _).symm.trans H; with_reducible exact H2_) | with_reducible exact H | (rw [hy760]; exact H) | exact H
    have Ny760 := yam hy760
    clear hy760
    obtain rfl := Option.some.inj H
    go_wp2_with (first | ((with_reducible refine gate_dst (N := 20) rfl ?_); (try (refine gate_guard (by rfl) ?_; dsimp only)); refine Kd.R_lit (Kd.int .i64) _ 3 ?hg (N := 20) ?hd (xs := ([] : List Int)) (inner := []) (ok := fun _ => True) (okp := fun _ => True) ?hr ?hp (fun _ hk => hk) trivial (Below.refl _ _) (Nat.le_refl _) (by simp) ?_; (case hd => rfl); (case hg => rfl); (case hr => first | (go_simp; done) | (go_simp; rfl)); (case hp => exact (Reps.none _ _)); intro v761 w17 ho18 hb hg_ hnew_; clear hg_ hnew_; (first | rw [← Ny760.out] at ho18 | (simp only [Int.reduceToNat] at ho18; rw [← Ny760.out] at ho18)); replace HO_5 := yam (Kd.R_below (Kd.Yz HO_5.out) hb); have HO762 := yam (Kd.R_lower ho18 (below_size yhb)); replace BK754 := yam (blk_below (g := gb754) (o := .cells #[.int .i64 a0_0, .slice A0_1 l0_1.length c0_1, .slice A0_2 l0_2.length c0_2] 30 (0, 0)) (ybz BK754.out) hb); replace HB := yam (below_step yhb hb); clear hb ho18))
    go_ret
    exact ⟨_, yer, yka HO762.out, yhb⟩
   replace c16 := Bool.eq_false_iff.mpr c16
   subst c16
   have H1 : ((spec_StartMasks.f kj3 a0_0 l0_1 l0_2).bind fun t763 => (spec_StepMasks.l0 kj3 a1 t755 t763 0 a0_0 l0_1 l0_2)) = some r := by rw [if_neg (show ¬ (false = true) by decide)] at H; exact H
   clear H
   have H := H1
   clear H1
   replace H := Option.bind_eq_some_iff.mp H
   obtain ⟨t763, A190, H⟩ := H
   try dsimp only at H
   have A19 := yam A190
   clear A190
   have H' := yam H
   clear H
   obtain ⟨hcz20_0, hcz20_1, hcz20_2, hfz20_0, hfz20_1, hfz20_2⟩ := ybc BK754.out
   go_wp2_with (first | (refine goesL_ (some 22) rfl rfl Try.func40 (by kernel_rfl) rfl #[.agg #[.int .i64 a0_0, .slice A0_1 l0_1.length c0_1, .slice A0_2 l0_2.length c0_2]] rfl ymd ?_; (with_reducible refine (spec_StartMasks.calls kj3 a0_0 _ _ l0_1 _ _ l0_2 t763 _ ?side1 ?side2 ?side3 ?side4 A19.out).mono ?_); (case side1 => exact Kd.Cz ((Kd.C_below HR0_1.out HB.out))); (case side2 => exact HC0_1.out); (case side3 => exact Kd.Cz ((Kd.C_below HR0_2.out HB.out))); (case side4 => exact HC0_2.out); rintro e w21 ⟨v764, rfl, ho0, hb⟩; refine ⟨_, rfl, ?_⟩; replace HO_5 := yam (Kd.R_below (Kd.Yz HO_5.out) hb); have HO765 := yam (Kd.R_lower ho0 (below_size yhb)); replace BK754 := yam (blk_below (g := gb754) (o := .cells #[.int .i64 a0_0, .slice A0_1 l0_1.length c0_1, .slice A0_2 l0_2.length c0_2] 30 (0, 0)) (ybz BK754.out) hb); replace HB := yam (below_step yhb hb); (try clear hb); (try clear hb2); (try clear hk); (try clear hi); (try clear ho0)))
   go_loopg [6, 7] kj3 (fun kq v6 v7 w' => ∃ (x6_2 : List Int) (x7_2 : Int), v7 = .int .i64 x7_2 ∧ Aside0 (spec_StepMasks.l0 kq a1 t755 x6_2 x7_2 a0_0 l0_1 l0_2 = some r) ∧ Aside0 (kq ≤ kj3) ∧ Aside0 (Kd.R k52 52 w' w.heap.size (fun _ => True) v756 t755) ∧ Aside0 (Kd.R (Kd.int .i64) 3 w' w.heap.size (fun _ => True) v6 x6_2) ∧ Aside0 (w'.heap[gb754]? = some (.cells #[.int .i64 a0_0, (.slice A0_1 l0_1.length c0_1), (.slice A0_2 l0_2.length c0_2)] 30 (0, 0))) ∧ Aside0 (Below w.heap.size w w'))
   case atStart => exact ⟨(t763), (0), yeq, H', ⟨Nat.le_refl _⟩, ⟨yka HO_5.out⟩, ⟨yka HO765.out⟩, ⟨by (with_reducible repeat (first | refine ybn ?_ _ | refine ybd ?_ | refine yba ?_ _)); exact BK754.out⟩, ⟨yhb⟩⟩
   case round =>
    clear H'
    try clear c1
    try clear p2
    try clear c3
    try clear c4
    try clear c9
    try clear c16
    try clear c18
    try clear hcz11_0
    try clear hcz11_1
    try clear hcz11_2
    try clear hcz14_0
    try clear hcz14_1
    try clear hcz14_2
    try clear hcz20_0
    try clear hcz20_1
    try clear hcz20_2
    try clear hcz6_0
    try clear hcz6_1
    try clear hcz6_2
    try clear hfz11_0
    try clear hfz11_1
    try clear hfz11_2
    try clear hfz14_0
    try clear hfz14_1
    try clear hfz14_2
    try clear hfz20_0
    try clear hfz20_1
    try clear hfz20_2
    try clear hfz6_0
    try clear hfz6_1
    try clear hfz6_2
    try clear p2
    obtain ⟨x6_2, x7_2, rfl, HA, HK2, HO_5, HO_6, BK754, HB⟩ := hrel
    cases gk with
    | zero => exact absurd HA.out (by simp [spec_StepMasks.l0])
    | succ k2 =>
     have H := HA.out
     clear HA
     simp only [spec_StepMasks.l0] at H
     by_cases c22 : x7_2 < a1
     rotate_left
     ·rw [if_neg c22] at H
      have c22b0 : decide (x7_2 < a1) = false := decide_eq_false c22
      clear c22
      obtain rfl := Option.some.inj H
      go_wp2
      go_ret
      exact ⟨_, yer, yka HO_6.out, yhb⟩

     rw [if_pos c22] at H
     have c22b0 : decide (x7_2 < a1) = true := decide_eq_true c22
     clear c22
     replace H := yif H
     obtain ⟨c23b0, H⟩ := H
     replace H := yif H
     obtain ⟨c24b0, H⟩ := H
     replace H := Option.bind_eq_some_iff.mp H
     obtain ⟨t767, A250, H⟩ := H
     try dsimp only at H
     have A25 := yam A250
     clear A250
     have H' := yam H
     clear H
     try go_wp2
     replace HO_5 := yam (Kd.Yd HO_5.out)
     replace HO_6 := yam (Kd.Yd HO_6.out)
     replace BK754 := yam (ybd BK754.out)
     replace HB := yam (yed HB.out)
     obtain ⟨Ao27, co27, eo27⟩ := Kd.R_slice HO_5.out
     (first | subst eo27 | (injection eo27 with f1_ f2_ f3_; have f4_ := f1_.symm; have f5_ := f3_.symm; clear f1_ f2_ f3_; subst f4_; subst f5_))
     have p766 : 0 ≤ (x7_2 : Int) := ydt
     have q766 : x7_2 < (t755.length : Int) := ydt
     obtain ⟨ad766, e766, hx766_0, hx766_1⟩ := at_T52 (Kd.Yr HO_5.out).2.2 x7_2 p766 q766
     cases e766
     replace p766 := eq_true p766
     replace q766 := eq_true q766
     obtain ⟨Ao28, co28, eo28⟩ := Kd.R_slice HO_6.out
     (first | subst eo28 | (injection eo28 with f1_ f2_ f3_; have f4_ := f1_.symm; have f5_ := f3_.symm; clear f1_ f2_ f3_; subst f4_; subst f5_))
     refine start_ (n := 9) (S := fun w' => w'.cell? ⟨gb754, 0, none⟩ = some (.int .i64 a0_0) ∧ w'.cell? ⟨gb754, 1, none⟩ = some (.slice A0_1 l0_1.length c0_1) ∧ w'.cell? ⟨gb754, 2, none⟩ = some (.slice A0_2 l0_2.length c0_2) ∧ w'.cell? (ad766.add ((x7_2).toNat * 2)) = some (.int .i64 ((rd_T52 t755 x7_2).f0)) ∧ w'.cell? ⟨(ad766.add ((x7_2).toNat * 2)).block, (ad766.add ((x7_2).toNat * 2)).off + 1, none⟩ = some (.int .i64 ((rd_T52 t755 x7_2).f1))) (ds := []) #[false, false, false, false, false, false, false, false, false] (by kernel_rfl) rfl rfl ⟨(blk_cell BK754.out 0).trans rfl, (blk_cell BK754.out 1).trans rfl, (blk_cell BK754.out 2).trans rfl, hx766_0, hx766_1⟩ (fun hHeld => ?_); refine with_tabW spec_StepMasks.tab8 spec_StepMasks.bits8 (fun HT_ HW_ => ?_)
     generalize wr.drew = w26 at HO_5 HO_6 BK754 HB hx766_0 hx766_1 hHeld ⊢
     refine yvp 1 29 (yvb 9 2) HT_.out ?_
     refine yvp 2 30 (yvb 9 6) HT_.out ?_
     refine yvp 3 31 (yvb 9 14) HT_.out ?_
     refine yvp 4 32 (yvb 9 30) HT_.out ?_
     refine yvp 5 33 (yvb 9 62) HT_.out ?_
     refine yvt 0 28 (yvb 9 63) HT_.out HW_.out hHeld ?_
     refine yvt 6 34 (yvb 9 127) HT_.out HW_.out hHeld ?_
     refine one_ (i := 7) (N := some 35) #[true, true, true, true, true, true, true, true, false] rfl rfl (one_of HT_.out (by kernel_rfl)) (by decide) (fun K hK => ?_)
     refine goes_ Try.func25 (by kernel_rfl) rfl #[.agg #[.int .i64 a0_0, .slice A0_1 l0_1.length c0_1, .slice A0_2 l0_2.length c0_2], .slice Ao28 x6_2.length co28, .int .i64 ((rd_T52 t755 x7_2).f0)] (by rfl) rfl rfl ymd ?_
     with_reducible refine (spec_NarrowBy.calls k2 a0_0 _ _ l0_1 _ _ l0_2 _ _ x6_2 ((rd_T52 t755 x7_2).f0) t767 _ ?side1 ?side2 ?side3 ?side4 ?side5 ?side6 A25.out).mono ?_
     (case side1 => exact Kd.Cz ((Kd.C_below HR0_1.out HB.out)))
     (case side2 => exact HC0_1.out)
     (case side3 => exact Kd.Cz ((Kd.C_below HR0_2.out HB.out)))
     (case side4 => exact HC0_2.out)
     (case side5 => repeat (first | exact (Kd.Yr HO_6.out).2.2 | (with_reducible refine Kd.C_alloc ?_ _) | (with_reducible refine Kd.C_drewN ?_ _) | (with_reducible refine Kd.C_drew ?_)))
     (case side6 => exact (Kd.Yr HO_6.out).2.1)
     rintro e w29 ⟨v768, rfl, ho0, hb⟩
     have HS3_ := (hb.cell (World.block_lt_of_cell? _ _ (hHeld.2.2.2.1))).trans (hHeld.2.2.2.1)
     have HS4_ := (hb.cell (World.block_lt_of_cell? _ _ (hHeld.2.2.2.2))).trans (hHeld.2.2.2.2)
     refine ⟨_, rfl, ?_⟩
     replace HO_5 := yam (Kd.R_below (Kd.Yz HO_5.out) hb)
     have HO769 := yam (Kd.R_lower (Kd.Yw ho0 (Kd.R_lt (Kd.Yz HO_6.out))) (below_size yhb))
     replace HO_6 := yam (Kd.Ye (Kd.Yz HO_6.out) (Kd.Yb ho0) hb)
     replace BK754 := yam (blk_below (g := gb754) (o := .cells #[.int .i64 a0_0, .slice A0_1 l0_1.length c0_1, .slice A0_2 l0_2.length c0_2] 30 (0, 0)) (ybz BK754.out) hb)
     replace HB := yam (below_step yhb hb)
     (try clear hb)
     (try clear hb2)
     (try clear hk)
     (try clear hi)
     (try clear ho0)
     refine hK.out _ _ ⟨(blk_cell BK754.out 0).trans rfl, (blk_cell BK754.out 1).trans rfl, (blk_cell BK754.out 2).trans rfl, HS3_, HS4_⟩ (fun hHeld => ?_)
     clear hK K
     refine norm_ (a' := ?_) ?_ ?_
     rotate_left
     ·show Act.put _ (some 35) _ = _
      simp only [Act.put, yps, i64_w, i32_w]
      rfl
     refine yvp 8 6 (yvb 9 511) HT_.out ?_
     refine done_ (done_of HT_.out (by kernel_rfl)) ?_
     try go_wp2
     go_roundg k2
     case measure => have := HJ3.out; have := HK2.out; omega
     case rel => exact ⟨(t767), (wrap64 (x7_2 + 1)), yeq, H', ⟨by have := HJ3.out; have := HK2.out; omega⟩, ⟨yka HO_5.out⟩, ⟨by (with_reducible repeat (first | apply Kd.Ya | apply Kd.Yn | apply Kd.Yd)); exact Kd.R_mono HO769.out (fun _ hk => trivial)⟩, ⟨by (with_reducible repeat (first | refine ybn ?_ _ | refine ybd ?_ | refine yba ?_ _)); exact BK754.out⟩, ⟨yhb⟩⟩
def impl_sizeOk.f (a0 : Int) : Option (Bool) := if a0 ≥ 2 then (some (decide (a0 ≤ 4))) else (some false)
set_option maxHeartbeats 8000000 in
set_option maxRecDepth 100000 in
theorem impl_sizeOk.calls (a0 : Int) (r : Bool) (w : World) (h : impl_sizeOk.f a0 = some r) :
  Calls Try.prog 84 #[.int .i64 a0] w fun e w' => e = .returned (.bool r) ∧ Drawn0 w w' := by
 have H : (if a0 ≥ 2 then (some (decide (a0 ≤ 4))) else (some false)) = some r := h
 clear h
 by_cases c2 : a0 ≥ 2
 ·rw [if_pos c2] at H
  have c2b0 : decide (2 ≤ a0) = true := decide_eq_true c2
  clear c2
  obtain rfl := Option.some.inj H
  go_enter Try.func84, Try.ntmps84
  go_wp2
  go_ret
  exact ⟨yeq, by repeat (first | exact Drawn0.refl _ | apply Drawn0.step)⟩
 rw [if_neg c2] at H
 have c2b0 : decide (2 ≤ a0) = false := decide_eq_false c2
 clear c2
 obtain rfl := Option.some.inj H
 go_enter Try.func84, Try.ntmps84
 go_wp2
 go_ret
 exact ⟨yeq, by repeat (first | exact Drawn0.refl _ | apply Drawn0.step)⟩
mutual
def impl_GridValid.j0 : Nat → List Int → Int → Bool → Option (Bool)
 | 0, _, _, _ => none
 | k + 1, x0, x1, x17 => if x17 = true then (some false) else (impl_GridValid.l0 k x1 x0 (x0.length : Int) 0)
def impl_GridValid.l0 : Nat → Int → List Int → Int → Int → Option (Bool)
 | 0, _, _, _, _ => none
 | k + 1, x1, x18, x19, x20 => if x20 < x19 then (if 0 ≤ x20 then (if x20 < (x18.length : Int) then (if (rd x18 x20) < 0 then (some false) else (if (rd x18 x20) > x1 then (some false) else (impl_GridValid.l0 k x1 x18 x19 (wrap64 (x20 + 1))))) else (none)) else (none)) else (some true)
end
def impl_GridValid.f (k : Nat) (l0 : List Int) (a1 : Int) : Option (Bool) := (impl_sizeOk.f a1).bind fun t373 => (if t373 = true then (impl_GridValid.j0 k l0 a1 ((l0.length : Int) != (wrap64 (a1 * a1)))) else (impl_GridValid.j0 k l0 a1 true))
set_option maxHeartbeats 8000000 in
set_option maxRecDepth 100000 in
theorem impl_GridValid.calls (k : Nat) (A0 : Option Addr) (c0 : Nat) (l0 : List Int) (a1 : Int) (r : Bool) (w : World) (hr0 : Kd.C (Kd.int .i64) w A0 l0.length l0) (hc0 : l0.length ≤ c0) (h : impl_GridValid.f k l0 a1 = some r) :
  Calls Try.prog 69 #[.slice A0 l0.length c0, .int .i64 a1] w fun e w' => e = .returned (.bool r) ∧ Drawn0 w w' := by
 have HR0 := yam hr0
 have HC0 := yam hc0
 clear hr0 hc0
 have H : ((impl_sizeOk.f a1).bind fun t373 => (if t373 = true then (impl_GridValid.j0 k l0 a1 ((l0.length : Int) != (wrap64 (a1 * a1)))) else (impl_GridValid.j0 k l0 a1 true))) = some r := h
 clear h
 have HC3 := yam H
 clear H
 go_enter Try.func69, Try.ntmps69
 go_upto_region 1 with (fail)
 go_cut [17] (fun v17 wc => ∃ (kq : Nat) (x17_2 : Bool), v17 = .bool x17_2 ∧ Aside0 (impl_GridValid.j0 kq l0 a1 x17_2 = some r) ∧ Aside0 (kq ≤ k) ∧ Drawn0 w wc)
 case first =>
  have H := HC3.out
  clear HC3
  replace H := Option.bind_eq_some_iff.mp H
  obtain ⟨t373, A40, H⟩ := H
  try dsimp only at H
  have A4 := yam A40
  clear A40
  by_cases c5 : t373 = true
  ·subst c5
   have H1 : (impl_GridValid.j0 k l0 a1 ((l0.length : Int) != (wrap64 (a1 * a1)))) = some r := by rw [if_pos rfl] at H; exact H
   clear H
   have H := H1
   clear H1
   have H' := yam H
   clear H
   go_wp2_with (first | (refine goesL_ (some 8) rfl rfl Try.func84 (by kernel_rfl) rfl #[.int .i64 a1] rfl ymd ?_; (with_reducible refine (impl_sizeOk.calls a1 true _ A4.out).mono ?_); rintro e w' ⟨rfl, ⟨nd, rfl⟩⟩; refine ⟨_, rfl, ?_⟩))
   go_meet
   case rel => exact ⟨_, (((l0.length : Int) != (wrap64 (a1 * a1)))), yeq, H', ⟨by first | omega | exact Nat.le_refl _⟩, by repeat (first | exact Drawn0.refl _ | apply Drawn0.step)⟩
  replace c5 := Bool.eq_false_iff.mpr c5
  subst c5
  have H1 : (impl_GridValid.j0 k l0 a1 true) = some r := by rw [if_neg (show ¬ (false = true) by decide)] at H; exact H
  clear H
  have H := H1
  clear H1
  have H' := yam H
  clear H
  go_wp2_with (first | (refine goesL_ (some 8) rfl rfl Try.func84 (by kernel_rfl) rfl #[.int .i64 a1] rfl ymd ?_; (with_reducible refine (impl_sizeOk.calls a1 false _ A4.out).mono ?_); rintro e w' ⟨rfl, ⟨nd, rfl⟩⟩; refine ⟨_, rfl, ?_⟩))
  go_meet
  case rel => exact ⟨_, (true), yeq, H', ⟨by first | omega | exact Nat.le_refl _⟩, by repeat (first | exact Drawn0.refl _ | apply Drawn0.step)⟩
 case rest =>
  clear HC3
  try clear p2
  try clear c5
  obtain ⟨kq, x17_2, rfl, HA, HJ2, ⟨mc2, rfl⟩⟩ := hcut
  cases kq with
  | zero => exact absurd HA.out (by simp [impl_GridValid.j0])
  | succ kj2 =>
   have H := HA.out
   clear HA
   simp only [impl_GridValid.j0] at H
   by_cases c6 : x17_2 = true
   ·subst c6
    have H1 : (some false) = some r := by rw [if_pos rfl] at H; exact H
    clear H
    have H := H1
    clear H1
    obtain rfl := Option.some.inj H
    go_wp2
    go_ret
    exact ⟨yeq, by repeat (first | exact Drawn0.refl _ | apply Drawn0.step)⟩
   replace c6 := Bool.eq_false_iff.mpr c6
   subst c6
   have H1 : (impl_GridValid.l0 kj2 a1 l0 (l0.length : Int) 0) = some r := by rw [if_neg (show ¬ (false = true) by decide)] at H; exact H
   clear H
   have H := H1
   clear H1
   have H' := yam H
   clear H
   go_wp2
   go_loopg [20] kj2 (fun kq v20 w' => ∃ (x20_2 : Int), v20 = .int .i64 x20_2 ∧ Aside0 (impl_GridValid.l0 kq a1 l0 (l0.length : Int) x20_2 = some r) ∧ Aside0 (kq ≤ kj2) ∧ Drawn0 w w')
   case atStart => exact ⟨(0), yeq, H', ⟨Nat.le_refl _⟩, by repeat (first | exact Drawn0.refl _ | apply Drawn0.step)⟩
   case round =>
    clear H'
    try clear c2
    try clear p2
    try clear c5
    try clear c6
    try clear p6
    try clear p2
    obtain ⟨x20_2, rfl, HA, HK2, ⟨m2, rfl⟩⟩ := hrel
    cases gk with
    | zero => exact absurd HA.out (by simp [impl_GridValid.l0])
    | succ k2 =>
     have H := HA.out
     clear HA
     simp only [impl_GridValid.l0] at H
     by_cases c7 : x20_2 < (l0.length : Int)
     rotate_left
     ·rw [if_neg c7] at H
      have c7b0 : decide (x20_2 < (l0.length : Int)) = false := decide_eq_false c7
      clear c7
      obtain rfl := Option.some.inj H
      go_wp2
      go_ret
      exact ⟨yeq, by repeat (first | exact Drawn0.refl _ | apply Drawn0.step)⟩

     rw [if_pos c7] at H
     have c7b0 : decide (x20_2 < (l0.length : Int)) = true := decide_eq_true c7
     clear c7
     replace H := yif H
     obtain ⟨c8b0, H⟩ := H
     replace H := yif H
     obtain ⟨c9b0, H⟩ := H
     by_cases c10 : (rd l0 x20_2) < 0
     ·rw [if_pos c10] at H
      have c10b0 : decide ((rd l0 x20_2) < 0) = true := decide_eq_true c10
      clear c10
      obtain rfl := Option.some.inj H
      have p374 : 0 ≤ (x20_2 : Int) := ydt
      have q374 : x20_2 < (l0.length : Int) := ydt
      obtain ⟨ad374, e374, hx374_0⟩ := Kd.at_int HR0.out x20_2 p374 q374
      cases e374
      replace p374 := eq_true p374
      replace q374 := eq_true q374
      go_wp2
      go_ret
      exact ⟨yeq, by repeat (first | exact Drawn0.refl _ | apply Drawn0.step)⟩
     rw [if_neg c10] at H
     have c10b0 : decide ((rd l0 x20_2) < 0) = false := decide_eq_false c10
     clear c10
     by_cases c11 : (rd l0 x20_2) > a1
     ·rw [if_pos c11] at H
      have c11b0 : decide (a1 < (rd l0 x20_2)) = true := decide_eq_true c11
      clear c11
      obtain rfl := Option.some.inj H
      have p374 : 0 ≤ (x20_2 : Int) := ydt
      have q374 : x20_2 < (l0.length : Int) := ydt
      obtain ⟨ad374, e374, hx374_0⟩ := Kd.at_int HR0.out x20_2 p374 q374
      cases e374
      replace p374 := eq_true p374
      replace q374 := eq_true q374
      go_wp2
      go_ret
      exact ⟨yeq, by repeat (first | exact Drawn0.refl _ | apply Drawn0.step)⟩
     rw [if_neg c11] at H
     have c11b0 : decide (a1 < (rd l0 x20_2)) = false := decide_eq_false c11
     clear c11
     have H' := yam H
     clear H
     have p374 : 0 ≤ (x20_2 : Int) := ydt
     have q374 : x20_2 < (l0.length : Int) := ydt
     obtain ⟨ad374, e374, hx374_0⟩ := Kd.at_int HR0.out x20_2 p374 q374
     cases e374
     replace p374 := eq_true p374
     replace q374 := eq_true q374
     go_wp2
     go_roundg k2
     case measure => have := HJ2.out; have := HK2.out; omega
     case rel => exact ⟨(wrap64 (x20_2 + 1)), yeq, H', ⟨by have := HJ2.out; have := HK2.out; omega⟩, by repeat (first | exact Drawn0.refl _ | apply Drawn0.step)⟩
end Go.Proofs.Ytdemlminhkhonaa.P
