/- The machine's side: each Go function as a plain Lean function and the proof that the machine's call does what that function says; written by this session's own program over the kit's print. -/
import Derived.Test.YtmjbnghhfadapaaZP1
import Derived.Test.YtmjbnghhfadapaaZP2
import Derived.Test.YtmjbnghhfadapaaZP4
namespace Go.Proofs.Ytmjbnghhfadapaa.P
open Go.RowKit Go.Proofs.YtmjbnghhfadapaaW.PrintWords Go.Proofs.YtmjbnghhfadapaaW.PrintLast Go.Proofs.YtmjbnghhfadapaaW.PrintMore
attribute [local go_sem] max2_int min2_int max_two min_two max_three min_three max_four min_four   -- for this text's walks alone
set_option linter.unusedVariables false
set_option linter.unusedSimpArgs false
/-! ### spec_DrawSquareNumber: function 16 -/
def spec_DrawSquareNumber.f (k : Nat) (l0 : List Int) : Option (Int × Int) := (spec_l20Open.f l0).bind fun bt242 => ((spec_l20Size.f k bt242.1 bt242.2 9).bind fun bt245 => ((spec_l20Rd_pick.f k bt242.1 bt245.2 14).bind fun bt247 => ((spec_l20Rd_pick.f k bt242.1 bt247.2 256).bind fun bt249 => ((some (([bt247.1, wrap64 (bt249.1 * 2), 575, 576, (-1), 9223372036854775807] : List Int) : List Int)).bind fun y251 => ((some (([0, 0, 0, 1, 1, 2, 3, 4, 5] : List Int) : List Int)).bind fun y254 => ((spec_l20Rd_pick.f k bt242.1 bt249.2 9).bind fun bt257 => (if 0 ≤ bt257.1 then (if bt257.1 < (y254.length : Int) then (if 0 ≤ (rd y254 bt257.1) then (if (rd y254 bt257.1) < (y251.length : Int) then (some (bt245.1, rd y251 (rd y254 bt257.1))) else (none)) else (none)) else (none)) else (none))))))))
def spec_DrawSquareNumber.T3 : Bool × List (List Nat × List Nat) := (true, [([], []), ([], []), ([1], [1]), ([], []), ([3, 2], [3]), ([4], [4]), ([2, 5], [2, 5]), ([], []), ([], []), ([8, 4], [8]), ([7, 9], [7, 9]), ([10], [10]), ([6, 11], [6, 11]), ([12], [12]), ([0, 9, 0], [0]), ([13, 14, 0, 1, 2, 3, 4, 5, 6, 7, 8, 9, 10, 11, 12, 13, 14], [13])])
def spec_DrawSquareNumber.B3 : List Nat := [0, 0, 2, 0, 14, 30, 62, 0, 0, 286, 926, 1950, 4094, 8190, 799, 32767]
theorem spec_DrawSquareNumber.tab3 : rtab .any (opsOf Try.f16 3) = spec_DrawSquareNumber.T3 := by kernel_rfl
theorem spec_DrawSquareNumber.bits3 : waitsOk spec_DrawSquareNumber.T3.2 spec_DrawSquareNumber.B3 = true := by kernel_rfl
set_option maxHeartbeats 8000000 in
set_option maxRecDepth 100000 in
theorem spec_DrawSquareNumber.calls (k : Nat) (A0 : Option Addr) (c0 : Nat) (l0 : List Int) (r1 : Int) (r2 : Int) (w : World) (hr0 : Kd.C (Kd.int .u8) w A0 l0.length l0) (hc0 : l0.length ≤ c0) (h : spec_DrawSquareNumber.f k l0 = some (r1, r2)) :
  Calls Try.prog 16 #[.slice A0 l0.length c0] w fun e w' => e = .returned (.tuple #[.int .i64 r1, .int .i64 r2]) ∧ Below w.heap.size w w' := by
 have HR0 := yam hr0
 have HC0 := yam hc0
 clear hr0 hc0
 have HB := yam (Below.refl w.heap.size w)
 have H : ((spec_l20Open.f l0).bind fun bt242 => ((spec_l20Size.f k bt242.1 bt242.2 9).bind fun bt245 => ((spec_l20Rd_pick.f k bt242.1 bt245.2 14).bind fun bt247 => ((spec_l20Rd_pick.f k bt242.1 bt247.2 256).bind fun bt249 => ((some (([bt247.1, wrap64 (bt249.1 * 2), 575, 576, (-1), 9223372036854775807] : List Int) : List Int)).bind fun y251 => ((some (([0, 0, 0, 1, 1, 2, 3, 4, 5] : List Int) : List Int)).bind fun y254 => ((spec_l20Rd_pick.f k bt242.1 bt249.2 9).bind fun bt257 => (if 0 ≤ bt257.1 then (if bt257.1 < (y254.length : Int) then (if 0 ≤ (rd y254 bt257.1) then (if (rd y254 bt257.1) < (y251.length : Int) then (some (bt245.1, rd y251 (rd y254 bt257.1))) else (none)) else (none)) else (none)) else (none))))))))) = some (r1, r2) := h
 clear h
 replace H := Option.bind_eq_some_iff.mp H
 obtain ⟨⟨t242, t243⟩, A20, H⟩ := H
 replace H : ((spec_l20Size.f k t242 t243 9).bind fun bt245 => ((spec_l20Rd_pick.f k t242 bt245.2 14).bind fun bt247 => ((spec_l20Rd_pick.f k t242 bt247.2 256).bind fun bt249 => ((some (([bt247.1, wrap64 (bt249.1 * 2), 575, 576, (-1), 9223372036854775807] : List Int) : List Int)).bind fun y251 => ((some (([0, 0, 0, 1, 1, 2, 3, 4, 5] : List Int) : List Int)).bind fun y254 => ((spec_l20Rd_pick.f k t242 bt249.2 9).bind fun bt257 => (if 0 ≤ bt257.1 then (if bt257.1 < (y254.length : Int) then (if 0 ≤ (rd y254 bt257.1) then (if (rd y254 bt257.1) < (y251.length : Int) then (some (bt245.1, rd y251 (rd y254 bt257.1))) else (none)) else (none)) else (none)) else (none)))))))) = some (r1, r2) := H
 have A2 := yam A20
 clear A20
 replace H := Option.bind_eq_some_iff.mp H
 obtain ⟨⟨t245, t246⟩, A30, H⟩ := H
 replace H : ((spec_l20Rd_pick.f k t242 t246 14).bind fun bt247 => ((spec_l20Rd_pick.f k t242 bt247.2 256).bind fun bt249 => ((some (([bt247.1, wrap64 (bt249.1 * 2), 575, 576, (-1), 9223372036854775807] : List Int) : List Int)).bind fun y251 => ((some (([0, 0, 0, 1, 1, 2, 3, 4, 5] : List Int) : List Int)).bind fun y254 => ((spec_l20Rd_pick.f k t242 bt249.2 9).bind fun bt257 => (if 0 ≤ bt257.1 then (if bt257.1 < (y254.length : Int) then (if 0 ≤ (rd y254 bt257.1) then (if (rd y254 bt257.1) < (y251.length : Int) then (some (t245, rd y251 (rd y254 bt257.1))) else (none)) else (none)) else (none)) else (none))))))) = some (r1, r2) := H
 have A3 := yam A30
 clear A30
 replace H := Option.bind_eq_some_iff.mp H
 obtain ⟨⟨t247, t248⟩, A40, H⟩ := H
 replace H : ((spec_l20Rd_pick.f k t242 t248 256).bind fun bt249 => ((some (([t247, wrap64 (bt249.1 * 2), 575, 576, (-1), 9223372036854775807] : List Int) : List Int)).bind fun y251 => ((some (([0, 0, 0, 1, 1, 2, 3, 4, 5] : List Int) : List Int)).bind fun y254 => ((spec_l20Rd_pick.f k t242 bt249.2 9).bind fun bt257 => (if 0 ≤ bt257.1 then (if bt257.1 < (y254.length : Int) then (if 0 ≤ (rd y254 bt257.1) then (if (rd y254 bt257.1) < (y251.length : Int) then (some (t245, rd y251 (rd y254 bt257.1))) else (none)) else (none)) else (none)) else (none)))))) = some (r1, r2) := H
 have A4 := yam A40
 clear A40
 replace H := Option.bind_eq_some_iff.mp H
 obtain ⟨⟨t249, t250⟩, A50, H⟩ := H
 replace H : ((some (([t247, wrap64 (t249 * 2), 575, 576, (-1), 9223372036854775807] : List Int) : List Int)).bind fun y251 => ((some (([0, 0, 0, 1, 1, 2, 3, 4, 5] : List Int) : List Int)).bind fun y254 => ((spec_l20Rd_pick.f k t242 t250 9).bind fun bt257 => (if 0 ≤ bt257.1 then (if bt257.1 < (y254.length : Int) then (if 0 ≤ (rd y254 bt257.1) then (if (rd y254 bt257.1) < (y251.length : Int) then (some (t245, rd y251 (rd y254 bt257.1))) else (none)) else (none)) else (none)) else (none))))) = some (r1, r2) := H
 have A5 := yam A50
 clear A50
 obtain ⟨y251, hy251⟩ : ∃ y_ : List Int, y_ = (([t247, wrap64 (t249 * 2), 575, 576, (-1), 9223372036854775807] : List Int)) := ⟨_, rfl⟩
 replace H : ((some (([0, 0, 0, 1, 1, 2, 3, 4, 5] : List Int) : List Int)).bind fun y254 => ((spec_l20Rd_pick.f k t242 t250 9).bind fun bt257 => (if 0 ≤ bt257.1 then (if bt257.1 < (y254.length : Int) then (if 0 ≤ (rd y254 bt257.1) then (if (rd y254 bt257.1) < (y251.length : Int) then (some (t245, rd y251 (rd y254 bt257.1))) else (none)) else (none)) else (none)) else (none)))) = some (r1, r2) := by first | (rw [hy251]; with_reducible exact H) | (have H2_ := (Option.bind_some _ _).symm.trans H; rw [hy251]; with_reducible exact H2_) | (have H2_ := (Option.bind_some _ _).symm.trans H; with_reducible exact H2_) | with_reducible exact H | (rw [hy251]; exact H) | exact H
 have Ny251 := yam hy251
 clear hy251
 obtain ⟨y254, hy254⟩ : ∃ y_ : List Int, y_ = (([0, 0, 0, 1, 1, 2, 3, 4, 5] : List Int)) := ⟨_, rfl⟩
 replace H : ((spec_l20Rd_pick.f k t242 t250 9).bind fun bt257 => (if 0 ≤ bt257.1 then (if bt257.1 < (y254.length : Int) then (if 0 ≤ (rd y254 bt257.1) then (if (rd y254 bt257.1) < (y251.length : Int) then (some (t245, rd y251 (rd y254 bt257.1))) else (none)) else (none)) else (none)) else (none))) = some (r1, r2) := by first | (rw [hy254]; with_reducible exact H) | (have H2_ := (Option.bind_some _ _).symm.trans H; rw [hy254]; with_reducible exact H2_) | (have H2_ := (Option.bind_some _ _).symm.trans H; with_reducible exact H2_) | with_reducible exact H | (rw [hy254]; exact H) | exact H
 have Ny254 := yam hy254
 clear hy254
 replace H := Option.bind_eq_some_iff.mp H
 obtain ⟨⟨t257, t258⟩, A60, H⟩ := H
 replace H : (if 0 ≤ t257 then (if t257 < (y254.length : Int) then (if 0 ≤ (rd y254 t257) then (if (rd y254 t257) < (y251.length : Int) then (some (t245, rd y251 (rd y254 t257))) else (none)) else (none)) else (none)) else (none)) = some (r1, r2) := H
 have A6 := yam A60
 clear A60
 by_cases c7 : 0 ≤ t257
 rotate_left
 ·rw [if_neg c7] at H
  exact absurd H (by simp)

 rw [if_pos c7] at H
 have c7b0 : decide (0 ≤ t257) = true := decide_eq_true c7
 clear c7
 by_cases c8 : t257 < (y254.length : Int)
 rotate_left
 ·rw [if_neg c8] at H
  exact absurd H (by simp)
 rw [if_pos c8] at H
 have c8b0 : decide (t257 < (y254.length : Int)) = true := decide_eq_true c8
 clear c8
 by_cases c9 : 0 ≤ (rd y254 t257)
 rotate_left
 ·rw [if_neg c9] at H
  exact absurd H (by simp)
 rw [if_pos c9] at H
 have c9b0 : decide (0 ≤ (rd y254 t257)) = true := decide_eq_true c9
 clear c9
 by_cases c10 : (rd y254 t257) < (y251.length : Int)
 rotate_left
 ·rw [if_neg c10] at H
  exact absurd H (by simp)
 rw [if_pos c10] at H
 have c10b0 : decide ((rd y254 t257) < (y251.length : Int)) = true := decide_eq_true c10
 clear c10
 simp only [Option.some.injEq, Prod.mk.injEq] at H
 obtain ⟨rfl, rfl⟩ := H
 go_enter Try.func16, Try.ntmps16
 try go_wp2_with (first | ((with_reducible refine gate_callee (f := 48) rfl ?_); refine goesL_ (some 7) rfl rfl Try.func48 (by kernel_rfl) rfl #[.slice A0 l0.length c0] rfl (by (try simp only [List.map_toArray, List.map_cons, List.map_nil]); first | done | rfl | (simp only [List.length_drop, List.length_take]; rfl)) ?_; (with_reducible refine (spec_l20Open.calls _ _ l0 t242 t243 w _ ?side1 ?side2 ?side3 A2.out).mono ?_); (case side1 => repeat (first | (with_reducible first | exact HB.out | apply yea | apply yen | apply yed) | exact HB.out)); (case side2 => exact HR0.out); (case side3 => exact HC0.out); rintro e w11 ⟨g244, rfl, hi, hb, hb2⟩; refine ⟨_, rfl, ?_⟩; have n0_ := yam (hb); have n1_ := yam (hi); clear HB; have HB := n0_; have HI244 := n1_; clear n0_ n1_; (try clear hb); (try clear hb2); (try clear hk); (try clear hi)) | ((with_reducible refine gate_callee (f := 49) rfl ?_); refine goesL_ (some 9) rfl rfl Try.func49 (by kernel_rfl) rfl #[.pointer (some ⟨g244, 0, none⟩), .int .i64 9] rfl (by (try simp only [List.map_toArray, List.map_cons, List.map_nil]); first | done | rfl | (simp only [List.length_drop, List.length_take]; rfl)) ?_; (with_reducible refine (spec_l20Size.calls k g244 t242 t243 9 t245 t246 w _ ?side1 ?side2 A3.out).mono ?_); (case side1 => repeat (first | (with_reducible first | exact HI244.out | apply IsS85.alloc | apply IsS85.drewN | apply IsS85.drew | apply IsS85.set_1) | exact HI244.out)); (case side2 => repeat (first | (with_reducible first | exact HB.out | apply yea | apply yen | apply yed | refine below_set ?_ (IsS85.ge HI244.out)) | exact HB.out)); rintro e w12 ⟨rfl, hi, hb, hk⟩; refine ⟨_, rfl, ?_⟩; have n0_ := yam (hb); have n1_ := yam (hi); clear HB; clear HI244; have HB := n0_; have HI244 := n1_; clear n0_ n1_; (try clear hb); (try clear hb2); (try clear hk); (try clear hi)))
 have pi259 : (0 ≤ (t257 : Int)) = True := eq_true (of_decide_eq_true (by first | (with_reducible assumption) | assumption))
 have qi259 : (t257 < (y254.length : Int)) = True := eq_true (of_decide_eq_true (by first | (with_reducible assumption) | assumption))
 have pi260 : (0 ≤ ((rd y254 t257) : Int)) = True := eq_true (of_decide_eq_true (by first | (with_reducible assumption) | assumption))
 have qi260 : ((rd y254 t257) < (y251.length : Int)) = True := eq_true (of_decide_eq_true (by first | (with_reducible assumption) | assumption))
 have n0_ := yam (IsS85.drew HI244.out)
 have n1_ := yam (yed HB.out)
 clear HI244
 clear HB
 have HI244 := n0_
 have HB := n1_
 clear n0_ n1_
 refine start_ (n := 16) (S := fun w' => True) (ds := []) #[false, false, false, false, false, false, false, false, false, false, false, false, false, false, false, false] (by kernel_rfl) rfl rfl trivial (fun hHeld => ?_); refine with_tabW spec_DrawSquareNumber.tab3 spec_DrawSquareNumber.bits3 (fun HT_ HW_ => ?_)
 generalize w12.drew = w13 at HI244 HB hHeld ⊢
 refine yvp 0 10 (yvb 16 1) HT_.out ?_
 refine yvp 1 11 (yvb 16 3) HT_.out ?_
 refine yvp 3 13 (yvb 16 11) HT_.out ?_
 refine yvp 8 18 (yvb 16 267) HT_.out ?_
 refine inv_at [2, 4, 5, 6, 7, 9, 10, 11, 12, 13, 14, 15] (fun a0_ b a w' => ∃ (v252 : Value) (adz_v252 : Addr) (v255 : Value) (adz_v255 : Addr) (m10_ : Value) (m12_ : Value), a = putSel a0_ b [(2, 12, .int .i64 t247), (4, 14, .int .i64 t249), (5, 15, .int .i64 (wrap64 (t249 * 2))), (6, 16, v252), (7, 17, v255), (9, 19, .int .i64 t257), (10, 20, m10_), (11, 21, .int .i64 (rd y254 t257)), (12, 22, m12_), (13, 23, .int .i64 (rd y251 (rd y254 t257))), (14, 2, .int .i64 t245), (15, 3, .int .i64 (rd y251 (rd y254 t257)))] ∧ (b 2 = false → IsS85 w w' g244 t242 t246) ∧ (Below w.heap.size w w') ∧ (b 2 = true → b 4 = false → IsS85 w w' g244 t242 t248) ∧ (b 4 = true → b 9 = false → IsS85 w w' g244 t242 t250) ∧ (b 6 = true → Kd.R (Kd.int .i64) 3 w' w.heap.size (fun _ => True) v252 y251) ∧ (b 6 = true → ∃ c_, (v252 : Value) = .slice (some adz_v252) y251.length c_) ∧ (b 7 = true → Kd.R (Kd.int .i64) 3 w' w.heap.size (fun _ => True) v255 y254) ∧ (b 7 = true → ∃ c_, (v255 : Value) = .slice (some adz_v255) y254.length c_) ∧ (b 9 = true → IsS85 w w' g244 t242 t258) ∧ (b 10 = true → (m10_ : Value) = .pointer (some (adz_v255.add (t257).toNat))) ∧ (b 12 = true → (m12_ : Value) = .pointer (some (adz_v252.add ((rd y254 t257)).toNat)))) HT_.out HW_.out (by kernel_rfl) (by kernel_rfl) ?_ ?_ ?_
 ·exact ⟨.bool false, ⟨0, 0, none⟩, .bool false, ⟨0, 0, none⟩, .bool false, .bool false, by simp only [putSel, Bool.false_eq_true, if_false], fun _ => HI244.out, HB.out, fun h_ => absurd h_ (by decide), fun h_ => absurd h_ (by decide), fun h_ => absurd h_ (by decide), fun h_ => absurd h_ (by decide), fun h_ => absurd h_ (by decide), fun h_ => absurd h_ (by decide), fun h_ => absurd h_ (by decide), fun h_ => absurd h_ (by decide), fun h_ => absurd h_ (by decide)⟩
 ·skip
  clear HB HI244
  refine steps_cons ?_ ?_
  ·rintro b a w' ⟨v252, adz_v252, v255, adz_v255, m10_, m12_, ha, Q_HI244, Q_HB, Q_HI244_e2, Q_HI244_e4, Q_HO253, Q_HA_HO253, Q_HO256, Q_HA_HO256, Q_HI244_e9, Q_X10_, Q_X12_⟩ hb_ hon hoff
   refine ⟨_, rfl, fun K hK => ?_⟩
   have e11 : a.tmps[11]? = some (.pointer (some ⟨g244, 0, none⟩)) := by rw [ha]; exact (putSel_off rfl).trans rfl
   replace ha := yam ha
   have HI244 := yam (Q_HI244 hb_)
   have HB := yam Q_HB
   refine goes_ Try.func50 (by kernel_rfl) rfl #[.pointer (some ⟨g244, 0, none⟩), .int .i64 14] (by rfl) rfl rfl (by first | (simp only [List.map_toArray, List.map_cons, List.map_nil, Act.eval, Array.getD_eq_getD_getElem?, Option.getD_some, e11]; done) | (simp only [List.map_toArray, List.map_cons, List.map_nil, Act.eval, Array.getD_eq_getD_getElem?, Option.getD_some, e11]; rfl)) ?_
   with_reducible refine (spec_l20Rd_pick.calls k g244 t242 t246 14 t247 t248 w _ ?side1 ?side2 A4.out).mono ?_
   (case side1 => repeat (first | (with_reducible first | exact HI244.out | apply IsS85.alloc | apply IsS85.drewN | apply IsS85.drew | apply IsS85.set_1) | exact HI244.out))
   (case side2 => repeat (first | (with_reducible first | exact HB.out | apply yea | apply yen | apply yed | refine below_set ?_ (IsS85.ge HI244.out)) | exact HB.out))
   rintro e w14 ⟨rfl, hi, hb, hk⟩
   refine ⟨_, rfl, ?_⟩
   have n0_ := yam (hb)
   have n1_ := yam (hi)
   have z_HO256 := fun (h0_ : b 7 = true) => (show Kd.R (Kd.int .i64) 3 w14 w.heap.size (fun _ => True) v255 y254 from by first | exact (Kd.R_mono (Kd.R_keep (IsS85.apart (show IsS85 w _ g244 t242 t246 from by repeat (first | (with_reducible first | exact HI244.out | apply IsS85.alloc | apply IsS85.drewN | apply IsS85.drew | apply IsS85.set_1) | exact HI244.out)) (by (with_reducible repeat (first | apply Kd.Ya | apply Kd.Yn | apply Kd.Yd)); exact (Q_HO256 h0_)) (by decide)) hk (fun _ h => h.2)) (fun _ h => h.1)) | exact Kd.R_mono (Kd.R_mono (Kd.R_keep (IsS85.apart (show IsS85 w _ g244 t242 t246 from by repeat (first | (with_reducible first | exact HI244.out | apply IsS85.alloc | apply IsS85.drewN | apply IsS85.drew | apply IsS85.set_1) | exact HI244.out)) (by (with_reducible repeat (first | apply Kd.Ya | apply Kd.Yn | apply Kd.Yd)); exact (Q_HO256 h0_)) (by decide)) hk (fun _ h => h.2)) (fun _ h => h.1)) (fun _ h_ => by first | trivial | exact h_ | exact h_.1))
   clear HB
   clear HI244
   have HB := n0_
   have HI244 := n1_
   clear n0_ n1_
   (try clear hb)
   (try clear hb2)
   (try clear hk)
   (try clear hi)
   refine hK.out _ _ ⟨v252, adz_v252, v255, adz_v255, m10_, m12_, (by rw [ha.out]; exact putSel_upk 0 hb_ rfl rfl rfl), fun h0_ => absurd ((up_self b 2).symm.trans h0_) (by decide), (by repeat (first | (with_reducible first | exact HB.out | apply yea | apply yen | apply yed | refine below_set ?_ (IsS85.ge HI244.out)) | exact HB.out)), fun _ _ => (by repeat (first | (with_reducible first | exact HI244.out | apply IsS85.alloc | apply IsS85.drewN | apply IsS85.drew | apply IsS85.set_1) | exact HI244.out)), fun h0_ _ => absurd ((hoff 4 (by kernel_rfl)).symm.trans h0_) (by decide), fun h0_ => absurd ((hoff 6 (by kernel_rfl)).symm.trans h0_) (by decide), fun h0_ => absurd ((hoff 6 (by kernel_rfl)).symm.trans h0_) (by decide), z_HO256, Q_HA_HO256, fun h0_ => absurd ((hoff 9 (by kernel_rfl)).symm.trans h0_) (by decide), fun h0_ => absurd ((hoff 10 (by kernel_rfl)).symm.trans h0_) (by decide), fun h0_ => absurd ((hoff 12 (by kernel_rfl)).symm.trans h0_) (by decide)⟩
  refine steps_cons ?_ ?_
  ·rintro b a w' ⟨v252, adz_v252, v255, adz_v255, m10_, m12_, ha, Q_HI244, Q_HB, Q_HI244_e2, Q_HI244_e4, Q_HO253, Q_HA_HO253, Q_HO256, Q_HA_HO256, Q_HI244_e9, Q_X10_, Q_X12_⟩ hb_ hon hoff
   refine ⟨_, rfl, fun K hK => ?_⟩
   have e13 : a.tmps[13]? = some (.pointer (some ⟨g244, 0, none⟩)) := by rw [ha]; exact (putSel_off rfl).trans rfl
   replace ha := yam ha
   have HB := yam Q_HB
   have HI244 := yam (Q_HI244_e2 (hon 2 (by kernel_rfl)) hb_)
   refine goes_ Try.func50 (by kernel_rfl) rfl #[.pointer (some ⟨g244, 0, none⟩), .int .i64 256] (by rfl) rfl rfl (by first | (simp only [List.map_toArray, List.map_cons, List.map_nil, Act.eval, Array.getD_eq_getD_getElem?, Option.getD_some, e13]; done) | (simp only [List.map_toArray, List.map_cons, List.map_nil, Act.eval, Array.getD_eq_getD_getElem?, Option.getD_some, e13]; rfl)) ?_
   with_reducible refine (spec_l20Rd_pick.calls k g244 t242 t248 256 t249 t250 w _ ?side1 ?side2 A5.out).mono ?_
   (case side1 => repeat (first | (with_reducible first | exact HI244.out | apply IsS85.alloc | apply IsS85.drewN | apply IsS85.drew | apply IsS85.set_1) | exact HI244.out))
   (case side2 => repeat (first | (with_reducible first | exact HB.out | apply yea | apply yen | apply yed | refine below_set ?_ (IsS85.ge HI244.out)) | exact HB.out))
   rintro e w16 ⟨rfl, hi, hb, hk⟩
   refine ⟨_, rfl, ?_⟩
   have n0_ := yam (hb)
   have n1_ := yam (hi)
   have z_HO256 := fun (h0_ : b 7 = true) => (show Kd.R (Kd.int .i64) 3 w16 w.heap.size (fun _ => True) v255 y254 from by first | exact (Kd.R_mono (Kd.R_keep (IsS85.apart (show IsS85 w _ g244 t242 t248 from by repeat (first | (with_reducible first | exact HI244.out | apply IsS85.alloc | apply IsS85.drewN | apply IsS85.drew | apply IsS85.set_1) | exact HI244.out)) (by (with_reducible repeat (first | apply Kd.Ya | apply Kd.Yn | apply Kd.Yd)); exact (Q_HO256 h0_)) (by decide)) hk (fun _ h => h.2)) (fun _ h => h.1)) | exact Kd.R_mono (Kd.R_mono (Kd.R_keep (IsS85.apart (show IsS85 w _ g244 t242 t248 from by repeat (first | (with_reducible first | exact HI244.out | apply IsS85.alloc | apply IsS85.drewN | apply IsS85.drew | apply IsS85.set_1) | exact HI244.out)) (by (with_reducible repeat (first | apply Kd.Ya | apply Kd.Yn | apply Kd.Yd)); exact (Q_HO256 h0_)) (by decide)) hk (fun _ h => h.2)) (fun _ h => h.1)) (fun _ h_ => by first | trivial | exact h_ | exact h_.1))
   clear HB
   clear HI244
   have HB := n0_
   have HI244 := n1_
   clear n0_ n1_
   (try clear hb)
   (try clear hb2)
   (try clear hk)
   (try clear hi)
   refine hK.out _ _ ⟨v252, adz_v252, v255, adz_v255, m10_, m12_, (by rw [ha.out]; exact putSel_upk 1 hb_ rfl rfl rfl), fun h0_ => absurd ((hon 2 (by kernel_rfl)).symm.trans h0_) (by decide), (by repeat (first | (with_reducible first | exact HB.out | apply yea | apply yen | apply yed | refine below_set ?_ (IsS85.ge HI244.out)) | exact HB.out)), fun _ h1_ => absurd ((up_self b 4).symm.trans h1_) (by decide), fun _ _ => (by repeat (first | (with_reducible first | exact HI244.out | apply IsS85.alloc | apply IsS85.drewN | apply IsS85.drew | apply IsS85.set_1) | exact HI244.out)), fun h0_ => absurd ((hoff 6 (by kernel_rfl)).symm.trans h0_) (by decide), fun h0_ => absurd ((hoff 6 (by kernel_rfl)).symm.trans h0_) (by decide), z_HO256, Q_HA_HO256, fun h0_ => absurd ((hoff 9 (by kernel_rfl)).symm.trans h0_) (by decide), fun h0_ => absurd ((hoff 10 (by kernel_rfl)).symm.trans h0_) (by decide), fun h0_ => absurd ((hoff 12 (by kernel_rfl)).symm.trans h0_) (by decide)⟩
  refine steps_cons ?_ ?_
  ·rintro b a w' ⟨v252, adz_v252, v255, adz_v255, m10_, m12_, ha, Q_HI244, Q_HB, Q_HI244_e2, Q_HI244_e4, Q_HO253, Q_HA_HO253, Q_HO256, Q_HA_HO256, Q_HI244_e9, Q_X10_, Q_X12_⟩ hb_ hon hoff
   refine ⟨_, rfl, fun K hK => ?_⟩
   have e14 : a.tmps[14]? = some (.int .i64 t249) := by rw [ha]; exact putSel_on (e := (4, 14, .int .i64 t249)) 1 rfl rfl (hon 4 (by kernel_rfl)) rfl
   replace ha := yam ha
   have HB := yam Q_HB
   refine value_ (w1 := w') (v := .int .i64 (wrap64 (t249 * 2))) (by rfl) rfl ?_ ?_
   ·go_simp
    (try simp only [i64_w])
    try rfl
   refine hK.out _ _ ⟨v252, adz_v252, v255, adz_v255, m10_, m12_, (by rw [ha.out]; exact putSel_upk 2 hb_ rfl rfl rfl), fun h0_ => absurd ((hon 2 (by kernel_rfl)).symm.trans h0_) (by decide), Q_HB, fun _ h1_ => absurd ((hon 4 (by kernel_rfl)).symm.trans h1_) (by decide), Q_HI244_e4, fun h0_ => absurd ((hoff 6 (by kernel_rfl)).symm.trans h0_) (by decide), fun h0_ => absurd ((hoff 6 (by kernel_rfl)).symm.trans h0_) (by decide), Q_HO256, Q_HA_HO256, Q_HI244_e9, Q_X10_, fun h0_ => absurd ((hoff 12 (by kernel_rfl)).symm.trans h0_) (by decide)⟩
  refine steps_cons ?_ ?_
  ·rintro b a w' ⟨v252, adz_v252, v255, adz_v255, m10_, m12_, ha, Q_HI244, Q_HB, Q_HI244_e2, Q_HI244_e4, Q_HO253, Q_HA_HO253, Q_HO256, Q_HA_HO256, Q_HI244_e9, Q_X10_, Q_X12_⟩ hb_ hon hoff
   refine ⟨_, rfl, fun K hK => ?_⟩
   have e12 : a.tmps[12]? = some (.int .i64 t247) := by rw [ha]; exact putSel_on (e := (2, 12, .int .i64 t247)) 0 rfl rfl (hon 2 (by kernel_rfl)) rfl
   have e15 : a.tmps[15]? = some (.int .i64 (wrap64 (t249 * 2))) := by rw [ha]; exact putSel_on (e := (5, 15, .int .i64 (wrap64 (t249 * 2)))) 2 rfl rfl (hon 5 (by kernel_rfl)) rfl
   replace ha := yam ha
   have HB := yam Q_HB
   refine Kd.R_lit_step (Kd.int .i64) _ 3 ?hg (N := 16) ?hd (xs := ([t247, wrap64 (t249 * 2), 575, 576, (-1), 9223372036854775807] : List Int)) (inner := [.int .i64 t247, .int .i64 (wrap64 (t249 * 2)), .int .i64 575, .int .i64 576, .int .i64 (-1), .int .i64 9223372036854775807]) (ok := fun _ => True) (okp := fun _ => True) ?hr ?hp (fun _ hk => hk) trivial (Below.refl _ _) (Nat.le_refl _) (by simp) ?_; (case hd => rfl); (case hg => rfl); (case hr => first | (go_simp; done) | (go_simp; rfl)); (case hp => exact (Reps.one (show Kd.M (Kd.int .i64) _ _ _ t247 [.int .i64 t247] from rfl) (Reps.one (show Kd.M (Kd.int .i64) _ _ _ (wrap64 (t249 * 2)) [.int .i64 (wrap64 (t249 * 2))] from rfl) (Reps.one (show Kd.M (Kd.int .i64) _ _ _ 575 [.int .i64 575] from rfl) (Reps.one (show Kd.M (Kd.int .i64) _ _ _ 576 [.int .i64 576] from rfl) (Reps.one (show Kd.M (Kd.int .i64) _ _ _ (-1) [.int .i64 (-1)] from rfl) (Reps.one (show Kd.M (Kd.int .i64) _ _ _ 9223372036854775807 [.int .i64 9223372036854775807] from rfl) (Reps.none _ _))))))))
   intro v252 w17 ho18 hb hg_ hnew_
   clear hg_ hnew_
   (first | rw [← Ny251.out] at ho18 | (simp only [Int.reduceToNat] at ho18; rw [← Ny251.out] at ho18))
   have n0_ := yam (Kd.R_lower ho18 (below_size (yez HB.out)))
   have n2_ := yam (below_step (yez HB.out) hb)
   have z_HI244_e4 := fun (h0_ : b 4 = true) (h1_ : b 9 = false) => (show IsS85 w w17 g244 t242 t250 from by first | exact (IsS85.below (by repeat (first | (with_reducible first | exact (Q_HI244_e4 h0_ h1_) | apply IsS85.alloc | apply IsS85.drewN | apply IsS85.drew | apply IsS85.set_1) | exact (Q_HI244_e4 h0_ h1_))) hb))
   have z_HO256 := fun (h0_ : b 7 = true) => (show Kd.R (Kd.int .i64) 3 w17 w.heap.size (fun _ => True) v255 y254 from by first | exact (Kd.Ye (by (with_reducible repeat (first | apply Kd.Ya | apply Kd.Yn | apply Kd.Yd)); exact (Q_HO256 h0_)) (Kd.Yb ho18) hb) | exact Kd.R_mono (Kd.Ye (by (with_reducible repeat (first | apply Kd.Ya | apply Kd.Yn | apply Kd.Yd)); exact (Q_HO256 h0_)) (Kd.Yb ho18) hb) (fun _ h_ => by first | trivial | exact h_ | exact h_.1))
   have z_HI244_e9 := fun (h0_ : b 9 = true) => (show IsS85 w w17 g244 t242 t258 from by first | exact (IsS85.below (by repeat (first | (with_reducible first | exact (Q_HI244_e9 h0_) | apply IsS85.alloc | apply IsS85.drewN | apply IsS85.drew | apply IsS85.set_1) | exact (Q_HI244_e9 h0_))) hb))
   clear HB
   have HO253 := n0_
   have HB := n2_
   clear n0_ n2_
   clear hb ho18
   obtain ⟨Ao19, co19, eo19⟩ := Kd.R_slice HO253.out
   subst eo19
   obtain ⟨ado19, fo19, _⟩ := Kd.at_int (Kd.Yr HO253.out).2.2 0 (by decide) (by rw [Ny251.out]; simp)
   cases fo19
   refine hK.out _ _ ⟨.slice (some ado19) y251.length co19, ado19, v255, adz_v255, m10_, m12_, (by rw [ha.out]; exact putSel_upk 3 hb_ rfl rfl rfl), fun h0_ => absurd ((hon 2 (by kernel_rfl)).symm.trans h0_) (by decide), (yez HB.out), fun _ h1_ => absurd ((hon 4 (by kernel_rfl)).symm.trans h1_) (by decide), z_HI244_e4, fun _ => (Kd.Yz HO253.out), fun _ => ⟨_, rfl⟩, z_HO256, Q_HA_HO256, z_HI244_e9, Q_X10_, fun h0_ => absurd ((hoff 12 (by kernel_rfl)).symm.trans h0_) (by decide)⟩
  refine steps_cons ?_ ?_
  ·rintro b a w' ⟨v252, adz_v252, v255, adz_v255, m10_, m12_, ha, Q_HI244, Q_HB, Q_HI244_e2, Q_HI244_e4, Q_HO253, Q_HA_HO253, Q_HO256, Q_HA_HO256, Q_HI244_e9, Q_X10_, Q_X12_⟩ hb_ hon hoff
   refine ⟨_, rfl, fun K hK => ?_⟩
   replace ha := yam ha
   have HB := yam Q_HB
   refine Kd.R_lit_step (Kd.int .i64) _ 3 ?hg (N := 17) ?hd (xs := ([0, 0, 0, 1, 1, 2, 3, 4, 5] : List Int)) (inner := [.int .i64 0, .int .i64 0, .int .i64 0, .int .i64 1, .int .i64 1, .int .i64 2, .int .i64 3, .int .i64 4, .int .i64 5]) (ok := fun _ => True) (okp := fun _ => True) ?hr ?hp (fun _ hk => hk) trivial (Below.refl _ _) (Nat.le_refl _) (by simp) ?_; (case hd => rfl); (case hg => rfl); (case hr => first | (go_simp; done) | (go_simp; rfl)); (case hp => exact (Reps.one (show Kd.M (Kd.int .i64) _ _ _ 0 [.int .i64 0] from rfl) (Reps.one (show Kd.M (Kd.int .i64) _ _ _ 0 [.int .i64 0] from rfl) (Reps.one (show Kd.M (Kd.int .i64) _ _ _ 0 [.int .i64 0] from rfl) (Reps.one (show Kd.M (Kd.int .i64) _ _ _ 1 [.int .i64 1] from rfl) (Reps.one (show Kd.M (Kd.int .i64) _ _ _ 1 [.int .i64 1] from rfl) (Reps.one (show Kd.M (Kd.int .i64) _ _ _ 2 [.int .i64 2] from rfl) (Reps.one (show Kd.M (Kd.int .i64) _ _ _ 3 [.int .i64 3] from rfl) (Reps.one (show Kd.M (Kd.int .i64) _ _ _ 4 [.int .i64 4] from rfl) (Reps.one (show Kd.M (Kd.int .i64) _ _ _ 5 [.int .i64 5] from rfl) (Reps.none _ _)))))))))))
   intro v255 w14 ho15 hb hg_ hnew_
   clear hg_ hnew_
   (first | rw [← Ny254.out] at ho15 | (simp only [Int.reduceToNat] at ho15; rw [← Ny254.out] at ho15))
   have n0_ := yam (Kd.R_lower ho15 (below_size (yez HB.out)))
   have n2_ := yam (below_step (yez HB.out) hb)
   have z_HI244 := fun (h0_ : b 2 = false) => (show IsS85 w w14 g244 t242 t246 from by first | exact (IsS85.below (by repeat (first | (with_reducible first | exact (Q_HI244 h0_) | apply IsS85.alloc | apply IsS85.drewN | apply IsS85.drew | apply IsS85.set_1) | exact (Q_HI244 h0_))) hb))
   have z_HI244_e2 := fun (h0_ : b 2 = true) (h1_ : b 4 = false) => (show IsS85 w w14 g244 t242 t248 from by first | exact (IsS85.below (by repeat (first | (with_reducible first | exact (Q_HI244_e2 h0_ h1_) | apply IsS85.alloc | apply IsS85.drewN | apply IsS85.drew | apply IsS85.set_1) | exact (Q_HI244_e2 h0_ h1_))) hb))
   have z_HI244_e4 := fun (h0_ : b 4 = true) (h1_ : b 9 = false) => (show IsS85 w w14 g244 t242 t250 from by first | exact (IsS85.below (by repeat (first | (with_reducible first | exact (Q_HI244_e4 h0_ h1_) | apply IsS85.alloc | apply IsS85.drewN | apply IsS85.drew | apply IsS85.set_1) | exact (Q_HI244_e4 h0_ h1_))) hb))
   have z_HO253 := fun (h0_ : b 6 = true) => (show Kd.R (Kd.int .i64) 3 w14 w.heap.size (fun _ => True) v252 y251 from by first | exact (Kd.Ye (by (with_reducible repeat (first | apply Kd.Ya | apply Kd.Yn | apply Kd.Yd)); exact (Q_HO253 h0_)) (Kd.Yb ho15) hb) | exact Kd.R_mono (Kd.Ye (by (with_reducible repeat (first | apply Kd.Ya | apply Kd.Yn | apply Kd.Yd)); exact (Q_HO253 h0_)) (Kd.Yb ho15) hb) (fun _ h_ => by first | trivial | exact h_ | exact h_.1))
   have z_HI244_e9 := fun (h0_ : b 9 = true) => (show IsS85 w w14 g244 t242 t258 from by first | exact (IsS85.below (by repeat (first | (with_reducible first | exact (Q_HI244_e9 h0_) | apply IsS85.alloc | apply IsS85.drewN | apply IsS85.drew | apply IsS85.set_1) | exact (Q_HI244_e9 h0_))) hb))
   clear HB
   have HO256 := n0_
   have HB := n2_
   clear n0_ n2_
   clear hb ho15
   obtain ⟨Ao16, co16, eo16⟩ := Kd.R_slice HO256.out
   subst eo16
   obtain ⟨ado16, fo16, _⟩ := Kd.at_int (Kd.Yr HO256.out).2.2 0 (by decide) (by rw [Ny254.out]; simp)
   cases fo16
   refine hK.out _ _ ⟨v252, adz_v252, .slice (some ado16) y254.length co16, ado16, m10_, m12_, (by rw [ha.out]; exact putSel_upk 4 hb_ rfl rfl rfl), z_HI244, (yez HB.out), z_HI244_e2, z_HI244_e4, z_HO253, Q_HA_HO253, fun _ => (Kd.Yz HO256.out), fun _ => ⟨_, rfl⟩, z_HI244_e9, fun h0_ => absurd ((hoff 10 (by kernel_rfl)).symm.trans h0_) (by decide), fun h0_ => absurd ((hoff 12 (by kernel_rfl)).symm.trans h0_) (by decide)⟩
  refine steps_cons ?_ ?_
  ·rintro b a w' ⟨v252, adz_v252, v255, adz_v255, m10_, m12_, ha, Q_HI244, Q_HB, Q_HI244_e2, Q_HI244_e4, Q_HO253, Q_HA_HO253, Q_HO256, Q_HA_HO256, Q_HI244_e9, Q_X10_, Q_X12_⟩ hb_ hon hoff
   refine ⟨_, rfl, fun K hK => ?_⟩
   have e18 : a.tmps[18]? = some (.pointer (some ⟨g244, 0, none⟩)) := by rw [ha]; exact (putSel_off rfl).trans rfl
   replace ha := yam ha
   have HB := yam Q_HB
   have HI244 := yam (Q_HI244_e4 (hon 4 (by kernel_rfl)) hb_)
   refine goes_ Try.func50 (by kernel_rfl) rfl #[.pointer (some ⟨g244, 0, none⟩), .int .i64 9] (by rfl) rfl rfl (by first | (simp only [List.map_toArray, List.map_cons, List.map_nil, Act.eval, Array.getD_eq_getD_getElem?, Option.getD_some, e18]; done) | (simp only [List.map_toArray, List.map_cons, List.map_nil, Act.eval, Array.getD_eq_getD_getElem?, Option.getD_some, e18]; rfl)) ?_
   with_reducible refine (spec_l20Rd_pick.calls k g244 t242 t250 9 t257 t258 w _ ?side1 ?side2 A6.out).mono ?_
   (case side1 => repeat (first | (with_reducible first | exact HI244.out | apply IsS85.alloc | apply IsS85.drewN | apply IsS85.drew | apply IsS85.set_1) | exact HI244.out))
   (case side2 => repeat (first | (with_reducible first | exact HB.out | apply yea | apply yen | apply yed | refine below_set ?_ (IsS85.ge HI244.out)) | exact HB.out))
   rintro e w17 ⟨rfl, hi, hb, hk⟩
   refine ⟨_, rfl, ?_⟩
   have n0_ := yam (hb)
   have n1_ := yam (hi)
   have z_HO253 := fun (h0_ : b 6 = true) => (show Kd.R (Kd.int .i64) 3 w17 w.heap.size (fun _ => True) v252 y251 from by first | exact (Kd.R_mono (Kd.R_keep (IsS85.apart (show IsS85 w _ g244 t242 t250 from by repeat (first | (with_reducible first | exact HI244.out | apply IsS85.alloc | apply IsS85.drewN | apply IsS85.drew | apply IsS85.set_1) | exact HI244.out)) (by (with_reducible repeat (first | apply Kd.Ya | apply Kd.Yn | apply Kd.Yd)); exact (Q_HO253 h0_)) (by decide)) hk (fun _ h => h.2)) (fun _ h => h.1)) | exact Kd.R_mono (Kd.R_mono (Kd.R_keep (IsS85.apart (show IsS85 w _ g244 t242 t250 from by repeat (first | (with_reducible first | exact HI244.out | apply IsS85.alloc | apply IsS85.drewN | apply IsS85.drew | apply IsS85.set_1) | exact HI244.out)) (by (with_reducible repeat (first | apply Kd.Ya | apply Kd.Yn | apply Kd.Yd)); exact (Q_HO253 h0_)) (by decide)) hk (fun _ h => h.2)) (fun _ h => h.1)) (fun _ h_ => by first | trivial | exact h_ | exact h_.1))
   have z_HO256 := fun (h0_ : b 7 = true) => (show Kd.R (Kd.int .i64) 3 w17 w.heap.size (fun _ => True) v255 y254 from by first | exact (Kd.R_mono (Kd.R_keep (IsS85.apart (show IsS85 w _ g244 t242 t250 from by repeat (first | (with_reducible first | exact HI244.out | apply IsS85.alloc | apply IsS85.drewN | apply IsS85.drew | apply IsS85.set_1) | exact HI244.out)) (by (with_reducible repeat (first | apply Kd.Ya | apply Kd.Yn | apply Kd.Yd)); exact (Q_HO256 h0_)) (by decide)) hk (fun _ h => h.2)) (fun _ h => h.1)) | exact Kd.R_mono (Kd.R_mono (Kd.R_keep (IsS85.apart (show IsS85 w _ g244 t242 t250 from by repeat (first | (with_reducible first | exact HI244.out | apply IsS85.alloc | apply IsS85.drewN | apply IsS85.drew | apply IsS85.set_1) | exact HI244.out)) (by (with_reducible repeat (first | apply Kd.Ya | apply Kd.Yn | apply Kd.Yd)); exact (Q_HO256 h0_)) (by decide)) hk (fun _ h => h.2)) (fun _ h => h.1)) (fun _ h_ => by first | trivial | exact h_ | exact h_.1))
   clear HB
   clear HI244
   have HB := n0_
   have HI244 := n1_
   clear n0_ n1_
   (try clear hb)
   (try clear hb2)
   (try clear hk)
   (try clear hi)
   refine hK.out _ _ ⟨v252, adz_v252, v255, adz_v255, m10_, m12_, (by rw [ha.out]; exact putSel_upk 5 hb_ rfl rfl rfl), fun h0_ => absurd ((hon 2 (by kernel_rfl)).symm.trans h0_) (by decide), (by repeat (first | (with_reducible first | exact HB.out | apply yea | apply yen | apply yed | refine below_set ?_ (IsS85.ge HI244.out)) | exact HB.out)), fun _ h1_ => absurd ((hon 4 (by kernel_rfl)).symm.trans h1_) (by decide), fun _ h1_ => absurd ((up_self b 9).symm.trans h1_) (by decide), z_HO253, Q_HA_HO253, z_HO256, Q_HA_HO256, fun _ => (by repeat (first | (with_reducible first | exact HI244.out | apply IsS85.alloc | apply IsS85.drewN | apply IsS85.drew | apply IsS85.set_1) | exact HI244.out)), fun h0_ => absurd ((hoff 10 (by kernel_rfl)).symm.trans h0_) (by decide), fun h0_ => absurd ((hoff 12 (by kernel_rfl)).symm.trans h0_) (by decide)⟩
  refine steps_cons ?_ ?_
  ·rintro b a w' ⟨v252, adz_v252, v255, adz_v255, m10_, m12_, ha, Q_HI244, Q_HB, Q_HI244_e2, Q_HI244_e4, Q_HO253, Q_HA_HO253, Q_HO256, Q_HA_HO256, Q_HI244_e9, Q_X10_, Q_X12_⟩ hb_ hon hoff
   refine ⟨_, rfl, fun K hK => ?_⟩
   have e17 : a.tmps[17]? = some (v255) := by rw [ha]; exact putSel_on (e := (7, 17, v255)) 4 rfl rfl (hon 7 (by kernel_rfl)) rfl
   have e19 : a.tmps[19]? = some (.int .i64 t257) := by rw [ha]; exact putSel_on (e := (9, 19, .int .i64 t257)) 5 rfl rfl (hon 9 (by kernel_rfl)) rfl
   replace ha := yam ha
   have HB := yam Q_HB
   have HO256 := yam (Q_HO256 (hon 7 (by kernel_rfl)))
   have HA_HO256 := yam (Q_HA_HO256 (hon 7 (by kernel_rfl)))
   have HI244 := yam (Q_HI244_e9 (hon 9 (by kernel_rfl)))
   obtain ⟨c_, hv_⟩ := HA_HO256.out
   rw [hv_] at e17
   refine value_ (w1 := w') (v := .pointer (some (adz_v255.add (t257).toNat))) (by rfl) rfl ?_ ?_
   ·go_simp
    (try simp only [i64_w])
    try rfl
   refine hK.out _ _ ⟨v252, adz_v252, v255, adz_v255, (.pointer (some (adz_v255.add (t257).toNat))), m12_, (by rw [ha.out]; exact putSel_upk 6 hb_ rfl rfl rfl), fun h0_ => absurd ((hon 2 (by kernel_rfl)).symm.trans h0_) (by decide), Q_HB, fun _ h1_ => absurd ((hon 4 (by kernel_rfl)).symm.trans h1_) (by decide), fun _ h1_ => absurd ((hon 9 (by kernel_rfl)).symm.trans h1_) (by decide), Q_HO253, Q_HA_HO253, Q_HO256, Q_HA_HO256, Q_HI244_e9, fun _ => rfl, fun h0_ => absurd ((hoff 12 (by kernel_rfl)).symm.trans h0_) (by decide)⟩
  refine steps_cons ?_ ?_
  ·rintro b a w' ⟨v252, adz_v252, v255, adz_v255, m10_, m12_, ha, Q_HI244, Q_HB, Q_HI244_e2, Q_HI244_e4, Q_HO253, Q_HA_HO253, Q_HO256, Q_HA_HO256, Q_HI244_e9, Q_X10_, Q_X12_⟩ hb_ hon hoff
   refine ⟨_, rfl, fun K hK => ?_⟩
   have e20 : a.tmps[20]? = some (m10_) := by rw [ha]; exact putSel_on (e := (10, 20, m10_)) 6 rfl rfl (hon 10 (by kernel_rfl)) rfl
   rw [Q_X10_ (hon 10 (by kernel_rfl))] at e20
   replace ha := yam ha
   have HB := yam Q_HB
   have HO256 := yam (Q_HO256 (hon 7 (by kernel_rfl)))
   have HA_HO256 := yam (Q_HA_HO256 (hon 7 (by kernel_rfl)))
   have HI244 := yam (Q_HI244_e9 (hon 9 (by kernel_rfl)))
   obtain ⟨c_, hv_⟩ := HA_HO256.out
   have hF_ := HO256.out
   rw [hv_] at hF_
   obtain ⟨ad_, ea_, hx_⟩ := Kd.at_int (Kd.Yr hF_).2.2 t257 (of_eq_true pi259) (of_eq_true qi259)
   cases ea_
   refine value_ (w1 := w') (v := .int .i64 (rd y254 t257)) (by rfl) rfl ?_ ?_
   ·go_simp
    (try simp only [i64_w])
    try rfl
   refine hK.out _ _ ⟨v252, adz_v252, v255, adz_v255, m10_, m12_, (by rw [ha.out]; exact putSel_upk 7 hb_ rfl rfl rfl), fun h0_ => absurd ((hon 2 (by kernel_rfl)).symm.trans h0_) (by decide), Q_HB, fun _ h1_ => absurd ((hon 4 (by kernel_rfl)).symm.trans h1_) (by decide), fun _ h1_ => absurd ((hon 9 (by kernel_rfl)).symm.trans h1_) (by decide), Q_HO253, Q_HA_HO253, Q_HO256, Q_HA_HO256, Q_HI244_e9, Q_X10_, fun h0_ => absurd ((hoff 12 (by kernel_rfl)).symm.trans h0_) (by decide)⟩
  refine steps_cons ?_ ?_
  ·rintro b a w' ⟨v252, adz_v252, v255, adz_v255, m10_, m12_, ha, Q_HI244, Q_HB, Q_HI244_e2, Q_HI244_e4, Q_HO253, Q_HA_HO253, Q_HO256, Q_HA_HO256, Q_HI244_e9, Q_X10_, Q_X12_⟩ hb_ hon hoff
   refine ⟨_, rfl, fun K hK => ?_⟩
   have e16 : a.tmps[16]? = some (v252) := by rw [ha]; exact putSel_on (e := (6, 16, v252)) 3 rfl rfl (hon 6 (by kernel_rfl)) rfl
   have e21 : a.tmps[21]? = some (.int .i64 (rd y254 t257)) := by rw [ha]; exact putSel_on (e := (11, 21, .int .i64 (rd y254 t257))) 7 rfl rfl (hon 11 (by kernel_rfl)) rfl
   replace ha := yam ha
   have HB := yam Q_HB
   have HO253 := yam (Q_HO253 (hon 6 (by kernel_rfl)))
   have HA_HO253 := yam (Q_HA_HO253 (hon 6 (by kernel_rfl)))
   have HO256 := yam (Q_HO256 (hon 7 (by kernel_rfl)))
   have HA_HO256 := yam (Q_HA_HO256 (hon 7 (by kernel_rfl)))
   have HI244 := yam (Q_HI244_e9 (hon 9 (by kernel_rfl)))
   obtain ⟨c_, hv_⟩ := HA_HO253.out
   rw [hv_] at e16
   refine value_ (w1 := w') (v := .pointer (some (adz_v252.add ((rd y254 t257)).toNat))) (by rfl) rfl ?_ ?_
   ·go_simp
    (try simp only [i64_w])
    try rfl
   refine hK.out _ _ ⟨v252, adz_v252, v255, adz_v255, m10_, (.pointer (some (adz_v252.add ((rd y254 t257)).toNat))), (by rw [ha.out]; exact putSel_upk 8 hb_ rfl rfl rfl), fun h0_ => absurd ((hon 2 (by kernel_rfl)).symm.trans h0_) (by decide), Q_HB, fun _ h1_ => absurd ((hon 4 (by kernel_rfl)).symm.trans h1_) (by decide), fun _ h1_ => absurd ((hon 9 (by kernel_rfl)).symm.trans h1_) (by decide), Q_HO253, Q_HA_HO253, Q_HO256, Q_HA_HO256, Q_HI244_e9, Q_X10_, fun _ => rfl⟩
  refine steps_cons ?_ ?_
  ·rintro b a w' ⟨v252, adz_v252, v255, adz_v255, m10_, m12_, ha, Q_HI244, Q_HB, Q_HI244_e2, Q_HI244_e4, Q_HO253, Q_HA_HO253, Q_HO256, Q_HA_HO256, Q_HI244_e9, Q_X10_, Q_X12_⟩ hb_ hon hoff
   refine ⟨_, rfl, fun K hK => ?_⟩
   have e22 : a.tmps[22]? = some (m12_) := by rw [ha]; exact putSel_on (e := (12, 22, m12_)) 8 rfl rfl (hon 12 (by kernel_rfl)) rfl
   rw [Q_X12_ (hon 12 (by kernel_rfl))] at e22
   replace ha := yam ha
   have HB := yam Q_HB
   have HO253 := yam (Q_HO253 (hon 6 (by kernel_rfl)))
   have HA_HO253 := yam (Q_HA_HO253 (hon 6 (by kernel_rfl)))
   have HO256 := yam (Q_HO256 (hon 7 (by kernel_rfl)))
   have HA_HO256 := yam (Q_HA_HO256 (hon 7 (by kernel_rfl)))
   have HI244 := yam (Q_HI244_e9 (hon 9 (by kernel_rfl)))
   obtain ⟨c_, hv_⟩ := HA_HO253.out
   have hF_ := HO253.out
   rw [hv_] at hF_
   obtain ⟨ad_, ea_, hx_⟩ := Kd.at_int (Kd.Yr hF_).2.2 (rd y254 t257) (of_eq_true pi260) (of_eq_true qi260)
   cases ea_
   refine value_ (w1 := w') (v := .int .i64 (rd y251 (rd y254 t257))) (by rfl) rfl ?_ ?_
   ·go_simp
    (try simp only [i64_w])
    try rfl
   refine hK.out _ _ ⟨v252, adz_v252, v255, adz_v255, m10_, m12_, (by rw [ha.out]; exact putSel_upk 9 hb_ rfl rfl rfl), fun h0_ => absurd ((hon 2 (by kernel_rfl)).symm.trans h0_) (by decide), Q_HB, fun _ h1_ => absurd ((hon 4 (by kernel_rfl)).symm.trans h1_) (by decide), fun _ h1_ => absurd ((hon 9 (by kernel_rfl)).symm.trans h1_) (by decide), Q_HO253, Q_HA_HO253, Q_HO256, Q_HA_HO256, Q_HI244_e9, Q_X10_, Q_X12_⟩
  refine steps_cons ?_ ?_
  ·rintro b a w' ⟨v252, adz_v252, v255, adz_v255, m10_, m12_, ha, Q_HI244, Q_HB, Q_HI244_e2, Q_HI244_e4, Q_HO253, Q_HA_HO253, Q_HO256, Q_HA_HO256, Q_HI244_e9, Q_X10_, Q_X12_⟩ hb_ hon hoff
   refine ⟨_, rfl, fun K hK => ?_⟩
   have e10 : a.tmps[10]? = some (.int .i64 t245) := by rw [ha]; exact (putSel_off rfl).trans rfl
   replace ha := yam ha
   have HB := yam Q_HB
   have HI244 := yam (Q_HI244_e9 (hon 9 (by kernel_rfl)))
   refine value_ (w1 := w') (v := .int .i64 t245) (by rfl) rfl ?_ ?_
   ·go_simp
    (try simp only [i64_w])
    try rfl
   refine hK.out _ _ ⟨v252, adz_v252, v255, adz_v255, m10_, m12_, (by rw [ha.out]; exact putSel_upk 10 hb_ rfl rfl rfl), fun h0_ => absurd ((hon 2 (by kernel_rfl)).symm.trans h0_) (by decide), Q_HB, fun _ h1_ => absurd ((hon 4 (by kernel_rfl)).symm.trans h1_) (by decide), fun _ h1_ => absurd ((hon 9 (by kernel_rfl)).symm.trans h1_) (by decide), Q_HO253, Q_HA_HO253, Q_HO256, Q_HA_HO256, Q_HI244_e9, Q_X10_, Q_X12_⟩
  refine steps_cons ?_ ?_
  ·rintro b a w' ⟨v252, adz_v252, v255, adz_v255, m10_, m12_, ha, Q_HI244, Q_HB, Q_HI244_e2, Q_HI244_e4, Q_HO253, Q_HA_HO253, Q_HO256, Q_HA_HO256, Q_HI244_e9, Q_X10_, Q_X12_⟩ hb_ hon hoff
   refine ⟨_, rfl, fun K hK => ?_⟩
   have e23 : a.tmps[23]? = some (.int .i64 (rd y251 (rd y254 t257))) := by rw [ha]; exact putSel_on (e := (13, 23, .int .i64 (rd y251 (rd y254 t257)))) 9 rfl rfl (hon 13 (by kernel_rfl)) rfl
   replace ha := yam ha
   have HB := yam Q_HB
   have HO253 := yam (Q_HO253 (hon 6 (by kernel_rfl)))
   have HA_HO253 := yam (Q_HA_HO253 (hon 6 (by kernel_rfl)))
   have HO256 := yam (Q_HO256 (hon 7 (by kernel_rfl)))
   have HA_HO256 := yam (Q_HA_HO256 (hon 7 (by kernel_rfl)))
   have HI244 := yam (Q_HI244_e9 (hon 9 (by kernel_rfl)))
   refine value_ (w1 := w') (v := .int .i64 (rd y251 (rd y254 t257))) (by rfl) rfl ?_ ?_
   ·go_simp
    (try simp only [i64_w])
    try rfl
   refine hK.out _ _ ⟨v252, adz_v252, v255, adz_v255, m10_, m12_, (by rw [ha.out]; exact putSel_upk 11 hb_ rfl rfl rfl), fun h0_ => absurd ((hon 2 (by kernel_rfl)).symm.trans h0_) (by decide), Q_HB, fun _ h1_ => absurd ((hon 4 (by kernel_rfl)).symm.trans h1_) (by decide), fun _ h1_ => absurd ((hon 9 (by kernel_rfl)).symm.trans h1_) (by decide), Q_HO253, Q_HA_HO253, Q_HO256, Q_HA_HO256, Q_HI244_e9, Q_X10_, Q_X12_⟩
  exact steps_nil
 rintro b a w23 hall ⟨v252, adz_v252, v255, adz_v255, m10_, m12_, ha, Q_HI244, Q_HB, Q_HI244_e2, Q_HI244_e4, Q_HO253, Q_HA_HO253, Q_HO256, Q_HA_HO256, Q_HI244_e9, Q_X10_, Q_X12_⟩
 clear HB HI244
 have hb2_ := hall 2 (by kernel_rfl)
 have hb4_ := hall 4 (by kernel_rfl)
 have hb5_ := hall 5 (by kernel_rfl)
 have hb6_ := hall 6 (by kernel_rfl)
 have hb7_ := hall 7 (by kernel_rfl)
 have hb9_ := hall 9 (by kernel_rfl)
 have hb10_ := hall 10 (by kernel_rfl)
 have hb11_ := hall 11 (by kernel_rfl)
 have hb12_ := hall 12 (by kernel_rfl)
 have hb13_ := hall 13 (by kernel_rfl)
 have hb14_ := hall 14 (by kernel_rfl)
 have hb15_ := hall 15 (by kernel_rfl)
 subst ha
 obtain rfl := Q_X10_ hb10_
 obtain rfl := Q_X12_ hb12_
 simp only [putSel, hb2_, hb4_, hb5_, hb6_, hb7_, hb9_, hb10_, hb11_, hb12_, hb13_, hb14_, hb15_, if_true, Act.put, yps]
 clear Q_HI244
 have HB := yam Q_HB
 clear Q_HB
 clear Q_HI244_e2
 clear Q_HI244_e4
 have HO253 := yam (Q_HO253 hb6_)
 clear Q_HO253
 have HA_HO253 := yam (Q_HA_HO253 hb6_)
 clear Q_HA_HO253
 have HO256 := yam (Q_HO256 hb7_)
 clear Q_HO256
 have HA_HO256 := yam (Q_HA_HO256 hb7_)
 clear Q_HA_HO256
 have HI244 := yam (Q_HI244_e9 hb9_)
 clear Q_HI244_e9
 clear hall hb2_ hb4_ hb5_ hb6_ hb7_ hb9_ hb10_ hb11_ hb12_ hb13_ hb14_ hb15_
 obtain ⟨co24, eo24⟩ := HA_HO253.out
 clear HA_HO253
 subst eo24
 obtain ⟨co25, eo25⟩ := HA_HO256.out
 clear HA_HO256
 subst eo25
 try go_wp2
 go_ret2
 exact ⟨by first | rfl | (simp [errW_none, errW_some] <;> rfl) | (simp [*, errW_none, errW_some] <;> rfl), by repeat (first | (with_reducible first | exact HB.out | apply yea | apply yen | apply yed | refine below_set ?_ (IsS85.ge HI244.out)) | exact HB.out)⟩
/-! ### laws_sameInts: function 17 -/
def laws_sameInts.l0 : Nat → List Int → List Int → Int → Option (Bool)
 | 0, _, _, _ => none
 | k + 1, x0, x1, x5 => if x5 < (x0.length : Int) then (if 0 ≤ x5 then (if x5 < (x1.length : Int) then (if (rd x0 x5) = (rd x1 x5) then (laws_sameInts.l0 k x0 x1 (wrap64 (x5 + 1))) else (some false)) else (none)) else (none)) else (some true)
def laws_sameInts.f (k : Nat) (l0 : List Int) (l1 : List Int) : Option (Bool) := if (l0.length : Int) = (l1.length : Int) then (laws_sameInts.l0 k l0 l1 0) else (some false)
set_option maxHeartbeats 8000000 in
set_option maxRecDepth 100000 in
theorem laws_sameInts.calls (k : Nat) (A0 : Option Addr) (c0 : Nat) (l0 : List Int) (A1 : Option Addr) (c1 : Nat) (l1 : List Int) (r : Bool) (w : World) (hr0 : Kd.C (Kd.int .i64) w A0 l0.length l0) (hc0 : l0.length ≤ c0) (hr1 : Kd.C (Kd.int .i64) w A1 l1.length l1) (hc1 : l1.length ≤ c1) (h : laws_sameInts.f k l0 l1 = some r) :
  Calls Try.prog 17 #[.slice A0 l0.length c0, .slice A1 l1.length c1] w fun e w' => e = .returned (.bool r) ∧ Drawn0 w w' := by
 have HR0 := yam hr0
 have HC0 := yam hc0
 clear hr0 hc0
 have HR1 := yam hr1
 have HC1 := yam hc1
 clear hr1 hc1
 have H : (if (l0.length : Int) = (l1.length : Int) then (laws_sameInts.l0 k l0 l1 0) else (some false)) = some r := h
 clear h
 by_cases c3 : (l0.length : Int) = (l1.length : Int)
 rotate_left
 ·rw [if_neg c3] at H
  have c3b0 : ((l0.length : Int) == (l1.length : Int)) = false := beq_eq_false_iff_ne.mpr c3
  have c3b1 : ((l0.length : Int) != (l1.length : Int)) = true := bne_iff_ne.mpr c3
  have c3b2 : (l0.length == l1.length) = false := by first | simpa using c3 | (simp at c3 ⊢; omega)
  obtain rfl := Option.some.inj H
  go_enter Try.func17, Try.ntmps17
  go_wp2
  repeat (go_quiet (fail); try go_wp2)
  go_ret
  exact ⟨by first | rfl | (simp; done) | (simp [*]; done), by repeat (first | exact Drawn0.refl _ | apply Drawn0.step)⟩

 rw [if_pos c3] at H
 have c3b0 : ((l0.length : Int) == (l1.length : Int)) = true := beq_iff_eq.mpr c3
 have c3b1 : ((l0.length : Int) != (l1.length : Int)) = false := bne_eq_false_iff_eq.mpr c3
 have c3b2 : (l0.length == l1.length) = true := by first | simpa using c3 | (simp at c3 ⊢; omega)
 clear c3
 have H' := yam H
 clear H
 go_enter Try.func17, Try.ntmps17
 go_wp2
 repeat (go_quiet (fail); try go_wp2)
 go_loopg [5] k (fun kq v5 w' => ∃ (x5_1 : Int), v5 = .int .i64 x5_1 ∧ Aside0 (laws_sameInts.l0 kq l0 l1 x5_1 = some r) ∧ Aside0 (kq ≤ k) ∧ Drawn0 w w')
 case atStart => exact ⟨(0), (by first | rfl | (simp; done) | (simp [*]; done)), H', ⟨Nat.le_refl _⟩, by repeat (first | exact Drawn0.refl _ | apply Drawn0.step)⟩
 case round =>
  clear H'
  try clear c1
  try clear p2
  try clear c3
  try clear c3b0
  try clear c3b1
  try clear c3b2
  obtain ⟨x5_1, rfl, HA, HK1, ⟨m1, rfl⟩⟩ := hrel
  cases gk with
  | zero => exact absurd HA.out (by simp [laws_sameInts.l0])
  | succ k1 =>
   have H := HA.out
   clear HA
   simp only [laws_sameInts.l0] at H
   by_cases c4 : x5_1 < (l0.length : Int)
   rotate_left
   ·rw [if_neg c4] at H
    have c4b0 : decide (x5_1 < (l0.length : Int)) = false := decide_eq_false c4
    clear c4
    obtain rfl := Option.some.inj H
    go_wp2
    repeat (go_quiet (fail); try go_wp2)
    go_ret
    exact ⟨by first | rfl | (simp; done) | (simp [*]; done), by repeat (first | exact Drawn0.refl _ | apply Drawn0.step)⟩
   rw [if_pos c4] at H
   have c4b0 : decide (x5_1 < (l0.length : Int)) = true := decide_eq_true c4
   clear c4
   by_cases c5 : 0 ≤ x5_1
   rotate_left
   ·rw [if_neg c5] at H
    exact absurd H (by simp)
   rw [if_pos c5] at H
   have c5b0 : decide (0 ≤ x5_1) = true := decide_eq_true c5
   clear c5
   by_cases c6 : x5_1 < (l1.length : Int)
   rotate_left
   ·rw [if_neg c6] at H
    exact absurd H (by simp)
   rw [if_pos c6] at H
   have c6b0 : decide (x5_1 < (l1.length : Int)) = true := decide_eq_true c6
   clear c6
   by_cases c7 : (rd l0 x5_1) = (rd l1 x5_1)
   rotate_left
   ·rw [if_neg c7] at H
    have c7b0 : ((rd l0 x5_1) == (rd l1 x5_1)) = false := beq_eq_false_iff_ne.mpr c7
    have c7b1 : ((rd l0 x5_1) != (rd l1 x5_1)) = true := bne_iff_ne.mpr c7
    obtain rfl := Option.some.inj H
    have p261 : 0 ≤ (x5_1 : Int) := of_decide_eq_true (by first | (with_reducible assumption) | assumption)
    have q261 : x5_1 < (l0.length : Int) := of_decide_eq_true (by first | (with_reducible assumption) | assumption)
    obtain ⟨ad261, e261, hx261_0⟩ := Kd.at_int HR0.out x5_1 p261 q261
    cases e261
    replace p261 := eq_true p261
    replace q261 := eq_true q261
    have p262 : 0 ≤ (x5_1 : Int) := of_decide_eq_true (by first | (with_reducible assumption) | assumption)
    have q262 : x5_1 < (l1.length : Int) := of_decide_eq_true (by first | (with_reducible assumption) | assumption)
    obtain ⟨ad262, e262, hx262_0⟩ := Kd.at_int HR1.out x5_1 p262 q262
    cases e262
    replace p262 := eq_true p262
    replace q262 := eq_true q262
    go_wp2
    repeat (go_quiet (fail); try go_wp2)
    go_ret
    exact ⟨by first | rfl | (simp; done) | (simp [*]; done), by repeat (first | exact Drawn0.refl _ | apply Drawn0.step)⟩
   rw [if_pos c7] at H
   have c7b0 : ((rd l0 x5_1) == (rd l1 x5_1)) = true := beq_iff_eq.mpr c7
   have c7b1 : ((rd l0 x5_1) != (rd l1 x5_1)) = false := bne_eq_false_iff_eq.mpr c7
   clear c7
   have H' := yam H
   clear H
   have p261 : 0 ≤ (x5_1 : Int) := of_decide_eq_true (by first | (with_reducible assumption) | assumption)
   have q261 : x5_1 < (l0.length : Int) := of_decide_eq_true (by first | (with_reducible assumption) | assumption)
   obtain ⟨ad261, e261, hx261_0⟩ := Kd.at_int HR0.out x5_1 p261 q261
   cases e261
   replace p261 := eq_true p261
   replace q261 := eq_true q261
   have p262 : 0 ≤ (x5_1 : Int) := of_decide_eq_true (by first | (with_reducible assumption) | assumption)
   have q262 : x5_1 < (l1.length : Int) := of_decide_eq_true (by first | (with_reducible assumption) | assumption)
   obtain ⟨ad262, e262, hx262_0⟩ := Kd.at_int HR1.out x5_1 p262 q262
   cases e262
   replace p262 := eq_true p262
   replace q262 := eq_true q262
   go_wp2
   repeat (go_quiet (fail); try go_wp2)
   go_roundg k1
   case measure => have := HK1.out; omega
   case rel => exact ⟨(wrap64 (x5_1 + 1)), (by first | rfl | (simp; done) | (simp [*]; done)), H', ⟨by have := HK1.out; omega⟩, by repeat (first | exact Drawn0.refl _ | apply Drawn0.step)⟩
/-! ### impl_GridFilled: function 51 -/
def impl_GridFilled.l0 : Nat → Int → List Int → Int → Int → Option (Int)
 | 0, _, _, _, _ => none
 | k + 1, x5, x12, x13, x14 => if x14 < x13 then (if 0 ≤ x14 then (if x14 < (x12.length : Int) then (if (rd x12 x14) > 0 then (impl_GridFilled.l0 k (wrap64 (x5 + 1)) x12 x13 (wrap64 (x14 + 1))) else (impl_GridFilled.l0 k x5 x12 x13 (wrap64 (x14 + 1)))) else (none)) else (none)) else (some x5)
def impl_GridFilled.f (k : Nat) (l0 : List Int) (a1 : Int) : Option (Int) := (impl_GridValid.f k l0 a1).bind fun t263 => (if t263 = true then (impl_GridFilled.l0 k 0 l0 (l0.length : Int) 0) else (some (-1)))
theorem impl_GridFilled.mono_l : ∀ k, (∀ y0 y1 y2 y3, LeO (impl_GridFilled.l0 k y0 y1 y2 y3) (impl_GridFilled.l0 (k + 1) y0 y1 y2 y3))
 | 0 => fun _ _ _ _ r h => by simp [impl_GridFilled.l0] at h
 | k + 1 => by
  have ih0 := impl_GridFilled.mono_l k
  ·intro y0 y1 y2 y3
   unfold impl_GridFilled.l0
   repeat' first
   | (with_reducible exact ih0 _ _ _ _)
   | (with_reducible exact impl_GridValid.mono _ _ _)
   | (with_reducible exact LeO.refl _)
   | (with_reducible exact LeO.none _)
   | (with_reducible refine LeO.ite ?_ ?_)
   | (with_reducible refine LeO.bind ?_ (fun _ => ?_))
   | exact ih0 _ _ _ _
   | exact impl_GridValid.mono _ _ _
   | exact LeO.none _
   | refine LeO.ite ?_ ?_
   | refine LeO.bind ?_ (fun _ => ?_)
theorem impl_GridFilled.mono : ∀ a0 a1 k, LeO (impl_GridFilled.f k a0 a1) (impl_GridFilled.f (k + 1) a0 a1) := by
 intro a0 a1 k
 have ih0 := impl_GridFilled.mono_l k
 unfold impl_GridFilled.f
 repeat' first
   | (with_reducible exact ih0 _ _ _ _)
   | (with_reducible exact impl_GridValid.mono _ _ _)
   | (with_reducible exact LeO.refl _)
   | (with_reducible exact LeO.none _)
   | (with_reducible refine LeO.ite ?_ ?_)
   | (with_reducible refine LeO.bind ?_ (fun _ => ?_))
   | exact ih0 _ _ _ _
   | exact impl_GridValid.mono _ _ _
   | exact LeO.none _
   | refine LeO.ite ?_ ?_
   | refine LeO.bind ?_ (fun _ => ?_)
set_option maxHeartbeats 8000000 in
set_option maxRecDepth 100000 in
theorem impl_GridFilled.calls (k : Nat) (A0 : Option Addr) (c0 : Nat) (l0 : List Int) (a1 : Int) (r : Int) (w : World) (hr0 : Kd.C (Kd.int .i64) w A0 l0.length l0) (hc0 : l0.length ≤ c0) (h : impl_GridFilled.f k l0 a1 = some r) :
  Calls Try.prog 51 #[.slice A0 l0.length c0, .int .i64 a1] w fun e w' => e = .returned (.int .i64 r) ∧ Drawn0 w w' := by
 have HR0 := yam hr0
 have HC0 := yam hc0
 clear hr0 hc0
 have H : ((impl_GridValid.f k l0 a1).bind fun t263 => (if t263 = true then (impl_GridFilled.l0 k 0 l0 (l0.length : Int) 0) else (some (-1)))) = some r := h
 clear h
 replace H := Option.bind_eq_some_iff.mp H
 obtain ⟨t263, A30, H⟩ := H
 try dsimp only at H
 have A3 := yam A30
 clear A30
 by_cases c4 : t263 = true
 rotate_left
 ·replace c4 := Bool.eq_false_iff.mpr c4
  subst c4
  have H1 : (some (-1)) = some r := by rw [if_neg (show ¬ (false = true) by decide)] at H; exact H
  clear H
  have H := H1
  clear H1
  obtain rfl := Option.some.inj H
  go_enter Try.func51, Try.ntmps51
  go_wp2_with (first | ((with_reducible refine gate_callee (f := 76) rfl ?_); refine goesL_ (some 10) rfl rfl Try.func76 (by kernel_rfl) rfl #[.slice A0 l0.length c0, .int .i64 a1] rfl (by (try simp only [List.map_toArray, List.map_cons, List.map_nil]); first | done | rfl | (simp only [List.length_drop, List.length_take]; rfl)) ?_; (with_reducible refine (impl_GridValid.calls k _ _ l0 a1 false _ ?side1 ?side2 A3.out).mono ?_); (case side1 => exact Kd.Cz (HR0.out)); (case side2 => exact HC0.out); rintro e w' ⟨rfl, ⟨nd, rfl⟩⟩; refine ⟨_, rfl, ?_⟩))
  go_ret
  exact ⟨by first | rfl | (simp; done) | (simp [*]; done), by repeat (first | exact Drawn0.refl _ | apply Drawn0.step)⟩

 subst c4
 have H1 : (impl_GridFilled.l0 k 0 l0 (l0.length : Int) 0) = some r := by rw [if_pos rfl] at H; exact H
 clear H
 have H := H1
 clear H1
 have H' := yam H
 clear H
 go_enter Try.func51, Try.ntmps51
 go_wp2_with (first | ((with_reducible refine gate_callee (f := 76) rfl ?_); refine goesL_ (some 10) rfl rfl Try.func76 (by kernel_rfl) rfl #[.slice A0 l0.length c0, .int .i64 a1] rfl (by (try simp only [List.map_toArray, List.map_cons, List.map_nil]); first | done | rfl | (simp only [List.length_drop, List.length_take]; rfl)) ?_; (with_reducible refine (impl_GridValid.calls k _ _ l0 a1 true _ ?side1 ?side2 A3.out).mono ?_); (case side1 => exact Kd.Cz (HR0.out)); (case side2 => exact HC0.out); rintro e w' ⟨rfl, ⟨nd, rfl⟩⟩; refine ⟨_, rfl, ?_⟩))
 go_loopg [5, 14] k (fun kq v5 v14 w' => ∃ (x5_1 : Int) (x14_1 : Int), v5 = .int .i64 x5_1 ∧ v14 = .int .i64 x14_1 ∧ Aside0 (impl_GridFilled.l0 kq x5_1 l0 (l0.length : Int) x14_1 = some r) ∧ Aside0 (kq ≤ k) ∧ Drawn0 w w')
 case atStart => exact ⟨(0), (0), (by first | rfl | (simp; done) | (simp [*]; done)), (by first | rfl | (simp; done) | (simp [*]; done)), H', ⟨Nat.le_refl _⟩, by repeat (first | exact Drawn0.refl _ | apply Drawn0.step)⟩
 case round =>
  clear H'
  try clear p2
  try clear c4
  obtain ⟨x5_1, x14_1, rfl, rfl, HA, HK1, ⟨m1, rfl⟩⟩ := hrel
  cases gk with
  | zero => exact absurd HA.out (by simp [impl_GridFilled.l0])
  | succ k1 =>
   have H := HA.out
   clear HA
   simp only [impl_GridFilled.l0] at H
   by_cases c5 : x14_1 < (l0.length : Int)
   rotate_left
   ·rw [if_neg c5] at H
    have c5b0 : decide (x14_1 < (l0.length : Int)) = false := decide_eq_false c5
    clear c5
    obtain rfl := Option.some.inj H
    go_wp2
    go_ret
    exact ⟨by first | rfl | (simp; done) | (simp [*]; done), by repeat (first | exact Drawn0.refl _ | apply Drawn0.step)⟩
   rw [if_pos c5] at H
   have c5b0 : decide (x14_1 < (l0.length : Int)) = true := decide_eq_true c5
   clear c5
   by_cases c6 : 0 ≤ x14_1
   rotate_left
   ·rw [if_neg c6] at H
    exact absurd H (by simp)
   rw [if_pos c6] at H
   have c6b0 : decide (0 ≤ x14_1) = true := decide_eq_true c6
   clear c6
   by_cases c7 : x14_1 < (l0.length : Int)
   rotate_left
   ·rw [if_neg c7] at H
    exact absurd H (by simp)
   rw [if_pos c7] at H
   have c7b0 : decide (x14_1 < (l0.length : Int)) = true := decide_eq_true c7
   clear c7
   by_cases c8 : (rd l0 x14_1) > 0
   rotate_left
   ·rw [if_neg c8] at H
    have c8b0 : decide (0 < (rd l0 x14_1)) = false := decide_eq_false c8
    clear c8
    have H' := yam H
    clear H
    have p264 : 0 ≤ (x14_1 : Int) := of_decide_eq_true (by first | (with_reducible assumption) | assumption)
    have q264 : x14_1 < (l0.length : Int) := of_decide_eq_true (by first | (with_reducible assumption) | assumption)
    obtain ⟨ad264, e264, hx264_0⟩ := Kd.at_int HR0.out x14_1 p264 q264
    cases e264
    replace p264 := eq_true p264
    replace q264 := eq_true q264
    go_wp2
    go_roundg k1
    case measure => have := HK1.out; omega
    case rel => exact ⟨(x5_1), (wrap64 (x14_1 + 1)), (by first | rfl | (simp; done) | (simp [*]; done)), (by first | rfl | (simp; done) | (simp [*]; done)), H', ⟨by have := HK1.out; omega⟩, by repeat (first | exact Drawn0.refl _ | apply Drawn0.step)⟩
   rw [if_pos c8] at H
   have c8b0 : decide (0 < (rd l0 x14_1)) = true := decide_eq_true c8
   clear c8
   have H' := yam H
   clear H
   have p264 : 0 ≤ (x14_1 : Int) := of_decide_eq_true (by first | (with_reducible assumption) | assumption)
   have q264 : x14_1 < (l0.length : Int) := of_decide_eq_true (by first | (with_reducible assumption) | assumption)
   obtain ⟨ad264, e264, hx264_0⟩ := Kd.at_int HR0.out x14_1 p264 q264
   cases e264
   replace p264 := eq_true p264
   replace q264 := eq_true q264
   go_wp2
   go_roundg k1
   case measure => have := HK1.out; omega
   case rel => exact ⟨(wrap64 (x5_1 + 1)), (wrap64 (x14_1 + 1)), (by first | rfl | (simp; done) | (simp [*]; done)), (by first | rfl | (simp; done) | (simp [*]; done)), H', ⟨by have := HK1.out; omega⟩, by repeat (first | exact Drawn0.refl _ | apply Drawn0.step)⟩
/-! ### laws_alive: function 18 -/
def laws_alive.f (k : Nat)  : Option (Bool) := (impl_GridFilled.f k (([1, 0, 0, 2] : List Int)) 2).bind fun t268 => (some (t268 == 2))
theorem laws_alive.mono : ∀ k, LeO (laws_alive.f k ) (laws_alive.f (k + 1) ) := by
 intro  k
 unfold laws_alive.f
 repeat' first
   | (with_reducible exact impl_GridFilled.mono _ _ _)
   | (with_reducible exact LeO.refl _)
   | (with_reducible exact LeO.none _)
   | (with_reducible refine LeO.ite ?_ ?_)
   | (with_reducible refine LeO.bind ?_ (fun _ => ?_))
   | exact impl_GridFilled.mono _ _ _
   | exact LeO.none _
   | refine LeO.ite ?_ ?_
   | refine LeO.bind ?_ (fun _ => ?_)
set_option maxHeartbeats 8000000 in
set_option maxRecDepth 100000 in
theorem laws_alive.calls (k : Nat)  (r : Bool) (w : World) (h : laws_alive.f k  = some r) :
  Calls Try.prog 18 #[] w fun e w' => e = .returned (.bool r) ∧ Below w.heap.size w w' := by
 have HB := yam (Below.refl w.heap.size w)
 have H : ((impl_GridFilled.f k (([1, 0, 0, 2] : List Int)) 2).bind fun t268 => (some (t268 == 2))) = some r := h
 clear h
 obtain ⟨y265, hy265⟩ : ∃ y_ : List Int, y_ = (([1, 0, 0, 2] : List Int)) := ⟨_, rfl⟩
 replace H : ((impl_GridFilled.f k y265 2).bind fun t268 => (some (t268 == 2))) = some r := by first | (rw [hy265]; with_reducible exact H) | (have H2_ := (Option.bind_some _ _).symm.trans H; rw [hy265]; with_reducible exact H2_) | (have H2_ := (Option.bind_some _ _).symm.trans H; with_reducible exact H2_) | with_reducible exact H | (rw [hy265]; exact H) | exact H
 have Ny265 := yam hy265
 clear hy265
 replace H := Option.bind_eq_some_iff.mp H
 obtain ⟨t268, A10, H⟩ := H
 try dsimp only at H
 have A1 := yam A10
 clear A10
 obtain rfl := Option.some.inj H
 go_enter Try.func18, Try.ntmps18
 go_wp2_with (first | ((with_reducible refine gate_dst (N := 1) rfl ?_); refine Kd.R_lit (Kd.int .i64) _ 3 ?hg (N := 1) ?hd (xs := ([1, 0, 0, 2] : List Int)) (inner := [.int .i64 1, .int .i64 0, .int .i64 0, .int .i64 2]) (ok := fun _ => True) (okp := fun _ => True) ?hr ?hp (fun _ hk => hk) trivial (Below.refl _ _) (Nat.le_refl _) (by simp) ?_; (case hd => rfl); (case hg => rfl); (case hr => first | (go_simp; done) | (go_simp; rfl)); (case hp => exact (Reps.one (show Kd.M (Kd.int .i64) _ _ _ 1 [.int .i64 1] from rfl) (Reps.one (show Kd.M (Kd.int .i64) _ _ _ 0 [.int .i64 0] from rfl) (Reps.one (show Kd.M (Kd.int .i64) _ _ _ 0 [.int .i64 0] from rfl) (Reps.one (show Kd.M (Kd.int .i64) _ _ _ 2 [.int .i64 2] from rfl) (Reps.none _ _)))))); intro v266 w2 ho3 hb hg_ hnew_; clear hg_ hnew_; (first | rw [← Ny265.out] at ho3 | (simp only [Int.reduceToNat] at ho3; rw [← Ny265.out] at ho3)); have n0_ := yam (Kd.R_lower ho3 (below_size (yez HB.out))); have n1_ := yam (below_step (yez HB.out) hb); clear HB; have HO267 := n0_; have HB := n1_; clear n0_ n1_; clear hb ho3; obtain ⟨Ao4, co4, eo4⟩ := Kd.R_slice HO267.out; subst eo4) | ((with_reducible refine gate_callee (f := 51) rfl ?_); refine goesL_ (some 2) rfl rfl Try.func51 (by kernel_rfl) rfl #[.slice Ao4 y265.length co4, .int .i64 2] rfl (by (try simp only [List.map_toArray, List.map_cons, List.map_nil]); first | done | rfl | (simp only [List.length_drop, List.length_take]; rfl)) ?_; (with_reducible refine (impl_GridFilled.calls k _ _ y265 2 t268 _ ?side1 ?side2 A1.out).mono ?_); (case side1 => repeat (first | exact (Kd.Yr HO267.out).2.2 | (with_reducible refine Kd.C_alloc ?_ _) | (with_reducible refine Kd.C_drewN ?_ _) | (with_reducible refine Kd.C_drew ?_))); (case side2 => exact (Kd.Yr HO267.out).2.1); rintro e w' ⟨rfl, ⟨nd, rfl⟩⟩; refine ⟨_, rfl, ?_⟩))
 go_ret
 exact ⟨by first | rfl | (simp [errW_none, errW_some] <;> rfl) | (simp [*, errW_none, errW_some] <;> rfl), by repeat (first | (with_reducible first | exact HB.out | apply yea | apply yen | apply yed) | exact HB.out)⟩
/-! ### impl_SquareSolved: function 19 -/
def impl_SquareSolved.f (k : Nat) (l0 : List Int) (a1 : Int) : Option (Bool) := (impl_SquareFits.f k l0 a1).bind fun t269 => (if t269 = true then ((impl_GridFilled.f k l0 a1).bind fun t270 => (some (t270 == (wrap64 (a1 * a1))))) else (some false))
set_option maxHeartbeats 8000000 in
set_option maxRecDepth 100000 in
theorem impl_SquareSolved.calls (k : Nat) (A0 : Option Addr) (c0 : Nat) (l0 : List Int) (a1 : Int) (r : Bool) (w : World) (hr0 : Kd.C (Kd.int .i64) w A0 l0.length l0) (hc0 : l0.length ≤ c0) (h : impl_SquareSolved.f k l0 a1 = some r) :
  Calls Try.prog 19 #[.slice A0 l0.length c0, .int .i64 a1] w fun e w' => e = .returned (.bool r) ∧ Below w.heap.size w w' := by
 have HR0 := yam hr0
 have HC0 := yam hc0
 clear hr0 hc0
 have HB := yam (Below.refl w.heap.size w)
 have H : ((impl_SquareFits.f k l0 a1).bind fun t269 => (if t269 = true then ((impl_GridFilled.f k l0 a1).bind fun t270 => (some (t270 == (wrap64 (a1 * a1))))) else (some false))) = some r := h
 clear h
 replace H := Option.bind_eq_some_iff.mp H
 obtain ⟨t269, A30, H⟩ := H
 try dsimp only at H
 have A3 := yam A30
 clear A30
 by_cases c4 : t269 = true
 rotate_left
 ·replace c4 := Bool.eq_false_iff.mpr c4
  subst c4
  have H1 : (some false) = some r := by rw [if_neg (show ¬ (false = true) by decide)] at H; exact H
  clear H
  have H := H1
  clear H1
  obtain rfl := Option.some.inj H
  go_enter Try.func19, Try.ntmps19
  go_wp2_with (first | ((with_reducible refine gate_callee (f := 52) rfl ?_); refine goesL_ (some 7) rfl rfl Try.func52 (by kernel_rfl) rfl #[.slice A0 l0.length c0, .int .i64 a1] rfl (by (try simp only [List.map_toArray, List.map_cons, List.map_nil]); first | done | rfl | (simp only [List.length_drop, List.length_take]; rfl)) ?_; (with_reducible refine (impl_SquareFits.calls k _ _ l0 a1 false _ ?side1 ?side2 A3.out).mono ?_); (case side1 => exact Kd.Cz (HR0.out)); (case side2 => exact HC0.out); rintro e w7 ⟨rfl, hb⟩; refine ⟨_, rfl, ?_⟩; have n0_ := yam (below_step (yez HB.out) hb); clear HB; have HB := n0_; clear n0_; (try clear hb); (try clear hb2); (try clear hk); (try clear hi)))
  go_ret
  exact ⟨by first | rfl | (simp [errW_none, errW_some] <;> rfl) | (simp [*, errW_none, errW_some] <;> rfl), by repeat (first | (with_reducible first | exact HB.out | apply yea | apply yen | apply yed) | exact HB.out)⟩

 subst c4
 have H1 : ((impl_GridFilled.f k l0 a1).bind fun t270 => (some (t270 == (wrap64 (a1 * a1))))) = some r := by rw [if_pos rfl] at H; exact H
 clear H
 have H := H1
 clear H1
 replace H := Option.bind_eq_some_iff.mp H
 obtain ⟨t270, A50, H⟩ := H
 try dsimp only at H
 have A5 := yam A50
 clear A50
 obtain rfl := Option.some.inj H
 go_enter Try.func19, Try.ntmps19
 go_wp2_with (first | ((with_reducible refine gate_callee (f := 52) rfl ?_); refine goesL_ (some 7) rfl rfl Try.func52 (by kernel_rfl) rfl #[.slice A0 l0.length c0, .int .i64 a1] rfl (by (try simp only [List.map_toArray, List.map_cons, List.map_nil]); first | done | rfl | (simp only [List.length_drop, List.length_take]; rfl)) ?_; (with_reducible refine (impl_SquareFits.calls k _ _ l0 a1 true _ ?side1 ?side2 A3.out).mono ?_); (case side1 => exact Kd.Cz (HR0.out)); (case side2 => exact HC0.out); rintro e w6 ⟨rfl, hb⟩; refine ⟨_, rfl, ?_⟩; have n0_ := yam (below_step (yez HB.out) hb); clear HB; have HB := n0_; clear n0_; (try clear hb); (try clear hb2); (try clear hk); (try clear hi)) | (go_at_call 51; (with_reducible refine (impl_GridFilled.calls k _ _ l0 a1 t270 _ ?side1 ?side2 A5.out).mono ?_); (case side1 => exact Kd.Cz ((Kd.C_below HR0.out HB.out))); (case side2 => exact HC0.out); rintro e w' ⟨rfl, ⟨nd, rfl⟩⟩))
 go_ret
 exact ⟨by first | rfl | (simp [errW_none, errW_some] <;> rfl) | (simp [*, errW_none, errW_some] <;> rfl), by repeat (first | (with_reducible first | exact HB.out | apply yea | apply yen | apply yed) | exact HB.out)⟩
/-! ### laws_FnSquareNumber: function 4 -/
mutual
def laws_FnSquareNumber.j0 : Nat → Int → Int → List Int → Int → Bool → Option (Bool)
 | 0, _, _, _, _, _ => none
 | k + 1, x3, x4, x5, x6, x31 => if x31 = true then ((some (([2, 12, 576] : List Int) : List Int)).bind fun y280 => (if 0 ≤ (wrap64 (x3 - 2)) then (if (wrap64 (x3 - 2)) < (y280.length : Int) then (laws_FnSquareNumber.j1 k x3 x4 x5 (rd y280 (wrap64 (x3 - 2)))) else (none)) else (none))) else (laws_FnSquareNumber.j1 k x3 x4 x5 x6)
def laws_FnSquareNumber.j1 : Nat → Int → Int → List Int → Int → Option (Bool)
 | 0, _, _, _, _ => none
 | k + 1, x3, x4, x5, x6 => if (x5.length : Int) = 0 then (if x4 < 0 then ((laws_alive.f k).bind fun t284 => (some t284)) else (if x4 ≥ x6 then ((laws_alive.f k).bind fun t285 => (some t285)) else (some false))) else ((impl_SquareNumber.f k x3 (wrap64 (x4 + 1))).bind fun t286 => (laws_FnSquareNumber.l0 k x3 x4 x5 x6 t286 0))
def laws_FnSquareNumber.l0 : Nat → Int → Int → List Int → Int → List Int → Int → Option (Bool)
 | 0, _, _, _, _, _, _ => none
 | k + 1, x3, x4, x5, x6, x7, x8 => if x8 < (x7.length : Int) then (if 0 ≤ x8 then (if x8 < (x5.length : Int) then (if (rd x7 x8) = (rd x5 x8) then (laws_FnSquareNumber.l0 k x3 x4 x5 x6 x7 (wrap64 (x8 + 1))) else (if (rd x7 x8) > (rd x5 x8) then ((impl_SquareSolved.f k x5 x3).bind fun t293 => (if t293 = true then (some (decide (x4 < x6))) else (some false))) else (some false))) else (none)) else (none)) else ((impl_SquareSolved.f k x5 x3).bind fun t294 => (if t294 = true then (some (x4 == (wrap64 (x6 - 1)))) else (some false)))
end
def laws_FnSquareNumber.f (k : Nat) (l0 : List Int) : Option (Bool) := if (l0.length : Int) > 1048576 then (some true) else ((spec_DrawSquareNumber.f k l0).bind fun bt271 => ((impl_SquareNumber.f k bt271.1 bt271.2).bind fun t273 => ((spec_SquareNumber.f k bt271.1 bt271.2).bind fun t276 => ((laws_sameInts.f k t273 t276).bind fun t279 => (if t279 = true then (if bt271.1 ≥ 2 then (laws_FnSquareNumber.j0 k bt271.1 bt271.2 t273 0 (decide (bt271.1 ≤ 4))) else (laws_FnSquareNumber.j0 k bt271.1 bt271.2 t273 0 false)) else (some false))))))
def laws_FnSquareNumber.T16 : Bool × List (List Nat × List Nat) := (true, [([], []), ([], []), ([0, 1], [0, 1]), ([2], [2]), ([], []), ([], []), ([4, 5], [4, 5]), ([6], [6]), ([3, 7], [3, 7])])
def laws_FnSquareNumber.B16 : List Nat := [0, 0, 3, 7, 0, 0, 48, 112, 255]
theorem laws_FnSquareNumber.tab16 : rtab .any (opsOf Try.f4 16) = laws_FnSquareNumber.T16 := by kernel_rfl
theorem laws_FnSquareNumber.bits16 : waitsOk laws_FnSquareNumber.T16.2 laws_FnSquareNumber.B16 = true := by kernel_rfl
def laws_FnSquareNumber.T17 : Bool × List (List Nat × List Nat) := (true, [([], []), ([], []), ([0, 1], [0, 1]), ([2], [2]), ([], []), ([], []), ([4, 5], [4, 5]), ([6], [6]), ([3, 7], [3, 7]), ([8], [8]), ([9], [9]), ([9], [9]), ([10, 11, 9, 9], [9, 10, 11]), ([9, 12], [9, 12]), ([13, 12], [13]), ([14], [14]), ([14], [14]), ([15, 16, 14], [14, 15, 16]), ([14, 17], [14, 17]), ([18, 14, 0, 1, 2, 3, 4, 5, 6, 7, 8, 9, 10, 11, 12, 13, 14, 15, 16, 17, 18], [18])])
def laws_FnSquareNumber.B17 : List Nat := [0, 0, 3, 7, 0, 0, 48, 112, 255, 511, 1023, 1023, 4095, 8191, 16383, 32767, 32767, 131071, 262143, 524287]
theorem laws_FnSquareNumber.tab17 : rtab .any (opsOf Try.f4 17) = laws_FnSquareNumber.T17 := by kernel_rfl
theorem laws_FnSquareNumber.bits17 : waitsOk laws_FnSquareNumber.T17.2 laws_FnSquareNumber.B17 = true := by kernel_rfl
set_option maxHeartbeats 8000000 in
set_option maxRecDepth 100000 in
theorem laws_FnSquareNumber.calls (k : Nat) (A0 : Option Addr) (c0 : Nat) (l0 : List Int) (r : Bool) (w : World) (hr0 : Kd.C (Kd.int .u8) w A0 l0.length l0) (hc0 : l0.length ≤ c0) (h : laws_FnSquareNumber.f k l0 = some r) :
  Calls Try.prog 4 #[.slice A0 l0.length c0] w fun e w' => e = .returned (.bool r) ∧ Below w.heap.size w w' := by
 have HR0 := yam hr0
 have HC0 := yam hc0
 clear hr0 hc0
 have HB := yam (Below.refl w.heap.size w)
 have H : (if (l0.length : Int) > 1048576 then (some true) else ((spec_DrawSquareNumber.f k l0).bind fun bt271 => ((impl_SquareNumber.f k bt271.1 bt271.2).bind fun t273 => ((spec_SquareNumber.f k bt271.1 bt271.2).bind fun t276 => ((laws_sameInts.f k t273 t276).bind fun t279 => (if t279 = true then (if bt271.1 ≥ 2 then (laws_FnSquareNumber.j0 k bt271.1 bt271.2 t273 0 (decide (bt271.1 ≤ 4))) else (laws_FnSquareNumber.j0 k bt271.1 bt271.2 t273 0 false)) else (some false))))))) = some r := h
 clear h
 by_cases c2 : (l0.length : Int) > 1048576
 ·rw [if_pos c2] at H
  have c2b0 : decide (1048576 < (l0.length : Int)) = true := decide_eq_true c2
  have c2b1 : decide (1048576 < l0.length) = true := decide_eq_true (by omega)
  clear c2
  obtain rfl := Option.some.inj H
  go_enter Try.func4, Try.ntmps4
  go_wp2
  go_ret
  exact ⟨by first | rfl | (simp [errW_none, errW_some] <;> rfl) | (simp [*, errW_none, errW_some] <;> rfl), by repeat (first | (with_reducible first | exact HB.out | apply yea | apply yen | apply yed) | exact HB.out)⟩
 rw [if_neg c2] at H
 have c2b0 : decide (1048576 < (l0.length : Int)) = false := decide_eq_false c2
 have c2b1 : decide (1048576 < l0.length) = false := decide_eq_false (by omega)
 clear c2
 replace H := Option.bind_eq_some_iff.mp H
 obtain ⟨⟨t271, t272⟩, A30, H⟩ := H
 try dsimp only at H
 have A3 := yam A30
 clear A30
 replace H := Option.bind_eq_some_iff.mp H
 obtain ⟨t273, A40, H⟩ := H
 try dsimp only at H
 have A4 := yam A40
 clear A40
 replace H := Option.bind_eq_some_iff.mp H
 obtain ⟨t276, A50, H⟩ := H
 try dsimp only at H
 have A5 := yam A50
 clear A50
 replace H := Option.bind_eq_some_iff.mp H
 obtain ⟨t279, A60, H⟩ := H
 try dsimp only at H
 have A6 := yam A60
 clear A60
 by_cases c7 : t279 = true
 rotate_left
 ·replace c7 := Bool.eq_false_iff.mpr c7
  subst c7
  have H1 : (some false) = some r := by rw [if_neg (show ¬ (false = true) by decide)] at H; exact H
  clear H
  have H := H1
  clear H1
  obtain rfl := Option.some.inj H
  go_enter Try.func4, Try.ntmps4
  go_wp2_with (first | ((with_reducible refine gate_callee (f := 16) rfl ?_); refine goesL_ (some 14) rfl rfl Try.func16 (by kernel_rfl) rfl #[.slice A0 l0.length c0] rfl (by (try simp only [List.map_toArray, List.map_cons, List.map_nil]); first | done | rfl | (simp only [List.length_drop, List.length_take]; rfl)) ?_; (with_reducible refine (spec_DrawSquareNumber.calls k _ _ l0 t271 t272 _ ?side1 ?side2 A3.out).mono ?_); (case side1 => exact Kd.Cz (HR0.out)); (case side2 => exact HC0.out); rintro e w58 ⟨rfl, hb⟩; refine ⟨_, rfl, ?_⟩; have n0_ := yam (below_step (yez HB.out) hb); clear HB; have HB := n0_; clear n0_; (try clear hb); (try clear hb2); (try clear hk); (try clear hi)) | ((with_reducible refine gate_callee (f := 12) rfl ?_); refine goesL_ (some 19) rfl rfl Try.func12 (by kernel_rfl) rfl #[.int .i64 t271, .int .i64 t272] rfl (by (try simp only [List.map_toArray, List.map_cons, List.map_nil]); first | done | rfl | (simp only [List.length_drop, List.length_take]; rfl)) ?_; (with_reducible refine (impl_SquareNumber.calls k t271 t272 t273 _ A4.out).mono ?_); rintro e w59 ⟨v274, rfl, ho0, hb⟩; refine ⟨_, rfl, ?_⟩; have n0_ := yam (Kd.R_lower ho0 (below_size (yez HB.out))); have n1_ := yam (below_step (yez HB.out) hb); clear HB; have HO275 := n0_; have HB := n1_; clear n0_ n1_; (try clear hb); (try clear hb2); (try clear hk); (try clear hi); (try clear ho0)) | ((with_reducible refine gate_callee (f := 11) rfl ?_); refine goesL_ (some 23) rfl rfl Try.func11 (by kernel_rfl) rfl #[.int .i64 t271, .int .i64 t272] rfl (by (try simp only [List.map_toArray, List.map_cons, List.map_nil]); first | done | rfl | (simp only [List.length_drop, List.length_take]; rfl)) ?_; (with_reducible refine (spec_SquareNumber.calls k t271 t272 t276 _ A5.out).mono ?_); rintro e w60 ⟨v277, rfl, ho0, hb⟩; refine ⟨_, rfl, ?_⟩; have n0_ := yam (Kd.Ye (Kd.Yz HO275.out) (Kd.Yb ho0) hb); have n1_ := yam (Kd.R_lower (Kd.Yw ho0 (Kd.R_lt (Kd.Yz HO275.out))) (below_size (yez HB.out))); have n2_ := yam (below_step (yez HB.out) hb); clear HO275; clear HB; have HO275 := n0_; have HO278 := n1_; have HB := n2_; clear n0_ n1_ n2_; (try clear hb); (try clear hb2); (try clear hk); (try clear hi); (try clear ho0); obtain ⟨Ao61, co61, eo61⟩ := Kd.R_slice HO275.out; subst eo61; obtain ⟨Ao62, co62, eo62⟩ := Kd.R_slice HO278.out; subst eo62) | ((with_reducible refine gate_callee (f := 17) rfl ?_); refine goesL_ (some 24) rfl rfl Try.func17 (by kernel_rfl) rfl #[.slice Ao61 t273.length co61, .slice Ao62 t276.length co62] rfl (by (try simp only [List.map_toArray, List.map_cons, List.map_nil]); first | done | rfl | (simp only [List.length_drop, List.length_take]; rfl)) ?_; (with_reducible refine (laws_sameInts.calls k _ _ t273 _ _ t276 false _ ?side1 ?side2 ?side3 ?side4 A6.out).mono ?_); (case side1 => repeat (first | exact (Kd.Yr HO275.out).2.2 | (with_reducible refine Kd.C_alloc ?_ _) | (with_reducible refine Kd.C_drewN ?_ _) | (with_reducible refine Kd.C_drew ?_))); (case side2 => exact (Kd.Yr HO275.out).2.1); (case side3 => repeat (first | exact (Kd.Yr HO278.out).2.2 | (with_reducible refine Kd.C_alloc ?_ _) | (with_reducible refine Kd.C_drewN ?_ _) | (with_reducible refine Kd.C_drew ?_))); (case side4 => exact (Kd.Yr HO278.out).2.1); rintro e w' ⟨rfl, ⟨nd, rfl⟩⟩; refine ⟨_, rfl, ?_⟩))
  go_ret
  exact ⟨by first | rfl | (simp [errW_none, errW_some] <;> rfl) | (simp [*, errW_none, errW_some] <;> rfl), by repeat (first | (with_reducible first | exact HB.out | apply yea | apply yen | apply yed) | exact HB.out)⟩

 subst c7
 have H1 : (if t271 ≥ 2 then (laws_FnSquareNumber.j0 k t271 t272 t273 0 (decide (t271 ≤ 4))) else (laws_FnSquareNumber.j0 k t271 t272 t273 0 false)) = some r := by rw [if_pos rfl] at H; exact H
 clear H
 have H := H1
 clear H1
 have HC8 := yam H
 clear H
 go_enter Try.func4, Try.ntmps4
 go_upto_region 8 with (first | ((with_reducible refine gate_callee (f := 16) rfl ?_); refine goesL_ (some 14) rfl rfl Try.func16 (by kernel_rfl) rfl #[.slice A0 l0.length c0] rfl (by (try simp only [List.map_toArray, List.map_cons, List.map_nil]); first | done | rfl | (simp only [List.length_drop, List.length_take]; rfl)) ?_; (with_reducible refine (spec_DrawSquareNumber.calls k _ _ l0 t271 t272 _ ?side1 ?side2 A3.out).mono ?_); (case side1 => exact Kd.Cz (HR0.out)); (case side2 => exact HC0.out); rintro e w9 ⟨rfl, hb⟩; refine ⟨_, rfl, ?_⟩; have n0_ := yam (below_step (yez HB.out) hb); clear HB; have HB := n0_; clear n0_; (try clear hb); (try clear hb2); (try clear hk); (try clear hi)) | ((with_reducible refine gate_callee (f := 12) rfl ?_); refine goesL_ (some 19) rfl rfl Try.func12 (by kernel_rfl) rfl #[.int .i64 t271, .int .i64 t272] rfl (by (try simp only [List.map_toArray, List.map_cons, List.map_nil]); first | done | rfl | (simp only [List.length_drop, List.length_take]; rfl)) ?_; (with_reducible refine (impl_SquareNumber.calls k t271 t272 t273 _ A4.out).mono ?_); rintro e w10 ⟨v274, rfl, ho0, hb⟩; refine ⟨_, rfl, ?_⟩; have n0_ := yam (Kd.R_lower ho0 (below_size (yez HB.out))); have n1_ := yam (below_step (yez HB.out) hb); clear HB; have HO275 := n0_; have HB := n1_; clear n0_ n1_; (try clear hb); (try clear hb2); (try clear hk); (try clear hi); (try clear ho0)) | ((with_reducible refine gate_callee (f := 11) rfl ?_); refine goesL_ (some 23) rfl rfl Try.func11 (by kernel_rfl) rfl #[.int .i64 t271, .int .i64 t272] rfl (by (try simp only [List.map_toArray, List.map_cons, List.map_nil]); first | done | rfl | (simp only [List.length_drop, List.length_take]; rfl)) ?_; (with_reducible refine (spec_SquareNumber.calls k t271 t272 t276 _ A5.out).mono ?_); rintro e w11 ⟨v277, rfl, ho0, hb⟩; refine ⟨_, rfl, ?_⟩; have n0_ := yam (Kd.Ye (Kd.Yz HO275.out) (Kd.Yb ho0) hb); have n1_ := yam (Kd.R_lower (Kd.Yw ho0 (Kd.R_lt (Kd.Yz HO275.out))) (below_size (yez HB.out))); have n2_ := yam (below_step (yez HB.out) hb); clear HO275; clear HB; have HO275 := n0_; have HO278 := n1_; have HB := n2_; clear n0_ n1_ n2_; (try clear hb); (try clear hb2); (try clear hk); (try clear hi); (try clear ho0); obtain ⟨Ao12, co12, eo12⟩ := Kd.R_slice HO275.out; subst eo12; obtain ⟨Ao13, co13, eo13⟩ := Kd.R_slice HO278.out; subst eo13) | ((with_reducible refine gate_callee (f := 17) rfl ?_); refine goesL_ (some 24) rfl rfl Try.func17 (by kernel_rfl) rfl #[.slice Ao12 t273.length co12, .slice Ao13 t276.length co13] rfl (by (try simp only [List.map_toArray, List.map_cons, List.map_nil]); first | done | rfl | (simp only [List.length_drop, List.length_take]; rfl)) ?_; (with_reducible refine (laws_sameInts.calls k _ _ t273 _ _ t276 true _ ?side1 ?side2 ?side3 ?side4 A6.out).mono ?_); (case side1 => repeat (first | exact (Kd.Yr HO275.out).2.2 | (with_reducible refine Kd.C_alloc ?_ _) | (with_reducible refine Kd.C_drewN ?_ _) | (with_reducible refine Kd.C_drew ?_))); (case side2 => exact (Kd.Yr HO275.out).2.1); (case side3 => repeat (first | exact (Kd.Yr HO278.out).2.2 | (with_reducible refine Kd.C_alloc ?_ _) | (with_reducible refine Kd.C_drewN ?_ _) | (with_reducible refine Kd.C_drew ?_))); (case side4 => exact (Kd.Yr HO278.out).2.1); rintro e w' ⟨rfl, ⟨nd, rfl⟩⟩; refine ⟨_, rfl, ?_⟩))
 (try simp only [Act.put, yps])
 go_cut [31] (fun v31 wc => ∃ (kq : Nat) (x31_7 : Bool), v31 = .bool x31_7 ∧ Aside0 (laws_FnSquareNumber.j0 kq t271 t272 t273 0 x31_7 = some r) ∧ Aside0 (kq ≤ k) ∧ Aside0 (Kd.R (Kd.int .i64) 3 wc w.heap.size (fun _ => True) (.slice Ao12 t273.length co12) t273) ∧ Aside0 (Below w.heap.size w wc))
 case first =>
  have H := HC8.out
  clear HC8
  by_cases c14 : t271 ≥ 2
  rotate_left
  ·rw [if_neg c14] at H
   have c14b0 : decide (2 ≤ t271) = false := decide_eq_false c14
   clear c14
   (first | rw [c14b0] | (simp only [i64_w, i32_w]; rw [c14b0]) | skip)
   have H' := yam H
   clear H
   go_wp2
   go_meet
   case rel => exact ⟨_, (false), (by first | rfl | (simp; done) | (simp [*]; done)), H', ⟨by first | omega | exact Nat.le_refl _⟩, ⟨by (with_reducible repeat (first | apply Kd.Ya | apply Kd.Yn | apply Kd.Yd)); exact Kd.R_mono HO275.out (fun _ hk => trivial)⟩, ⟨by repeat (first | (with_reducible first | exact HB.out | apply yea | apply yen | apply yed) | exact HB.out)⟩⟩
  rw [if_pos c14] at H
  have c14b0 : decide (2 ≤ t271) = true := decide_eq_true c14
  clear c14
  (first | rw [c14b0] | (simp only [i64_w, i32_w]; rw [c14b0]) | skip)
  have H' := yam H
  clear H
  go_wp2
  go_meet
  case rel => exact ⟨_, (decide (t271 ≤ 4)), (by first | rfl | (simp; done) | (simp [*]; done)), H', ⟨by first | omega | exact Nat.le_refl _⟩, ⟨by (with_reducible repeat (first | apply Kd.Ya | apply Kd.Yn | apply Kd.Yd)); exact Kd.R_mono HO275.out (fun _ hk => trivial)⟩, ⟨by repeat (first | (with_reducible first | exact HB.out | apply yea | apply yen | apply yed) | exact HB.out)⟩⟩
 case rest =>
  clear HC8
  try clear c1
  try clear c2
  try clear c2b0
  try clear c2b1
  try clear p2
  try clear c4
  try clear c7
  try clear c11
  try clear c12
  try clear c14
  try clear c14b0
  obtain ⟨kq, x31_7, rfl, HA, HJ7, HO_5, HB⟩ := hcut
  cases kq with
  | zero => exact absurd HA.out (by simp [laws_FnSquareNumber.j0])
  | succ kj7 =>
   have H := HA.out
   clear HA
   simp only [laws_FnSquareNumber.j0] at H
   have HC15 := yam H
   clear H
   go_upto_if 31 with (fail)
   go_cut [6] (fun v6 wc => ∃ (kq : Nat) (x6_14 : Int), v6 = .int .i64 x6_14 ∧ Aside0 (laws_FnSquareNumber.j1 kq t271 t272 t273 x6_14 = some r) ∧ Aside0 (kq ≤ kj7) ∧ Aside0 (Kd.R (Kd.int .i64) 3 wc w.heap.size (fun _ => True) (.slice Ao12 t273.length co12) t273) ∧ Aside0 (Below w.heap.size w wc))
   case first =>
    have H := HC15.out
    clear HC15
    by_cases c16 : x31_7 = true
    rotate_left
    ·replace c16 := Bool.eq_false_iff.mpr c16
     subst c16
     have H1 : (laws_FnSquareNumber.j1 kj7 t271 t272 t273 0) = some r := by rw [if_neg (show ¬ (false = true) by decide)] at H; exact H
     clear H
     have H := H1
     clear H1
     have H' := yam H
     clear H
     go_wp2
     go_meet
     case rel => exact ⟨_, (0), (by first | rfl | (simp; done) | (simp [*]; done)), H', ⟨by have := HJ7.out; first | omega | exact Nat.le_refl _⟩, ⟨by (with_reducible repeat (first | apply Kd.Ya | apply Kd.Yn | apply Kd.Yd)); exact HO_5.out⟩, ⟨by repeat (first | (with_reducible first | exact HB.out | apply yea | apply yen | apply yed) | exact HB.out)⟩⟩
    subst c16
    have H1 : ((some (([2, 12, 576] : List Int) : List Int)).bind fun y280 => (if 0 ≤ (wrap64 (t271 - 2)) then (if (wrap64 (t271 - 2)) < (y280.length : Int) then (laws_FnSquareNumber.j1 kj7 t271 t272 t273 (rd y280 (wrap64 (t271 - 2)))) else (none)) else (none))) = some r := by rw [if_pos rfl] at H; exact H
    clear H
    have H := H1
    clear H1
    obtain ⟨y280, hy280⟩ : ∃ y_ : List Int, y_ = (([2, 12, 576] : List Int)) := ⟨_, rfl⟩
    replace H : (if 0 ≤ (wrap64 (t271 - 2)) then (if (wrap64 (t271 - 2)) < (y280.length : Int) then (laws_FnSquareNumber.j1 kj7 t271 t272 t273 (rd y280 (wrap64 (t271 - 2)))) else (none)) else (none)) = some r := by first | (rw [hy280]; with_reducible exact H) | (have H2_ := (Option.bind_some _ _).symm.trans H; rw [hy280]; with_reducible exact H2_) | (have H2_ := (Option.bind_some _ _).symm.trans H; with_reducible exact H2_) | with_reducible exact H | (rw [hy280]; exact H) | exact H
    have Ny280 := yam hy280
    clear hy280
    obtain ⟨ji17, hji17⟩ : ∃ j_ : Int, (wrap64 (t271 - 2)) = j_ := ⟨_, rfl⟩
    replace H : (if 0 ≤ (ji17) then (if (ji17) < (y280.length : Int) then (laws_FnSquareNumber.j1 kj7 t271 t272 t273 (rd y280 (ji17))) else (none)) else (none)) = some r := by first | (rw [hji17] at H; exact H) | (simp only [hji17] at H ⊢; exact H)
    have hji17w : (IntKind.i64.wrap (t271 - 2)) = ji17 := (i64_w _).trans hji17
    by_cases c18 : 0 ≤ (ji17)
    rotate_left
    ·rw [if_neg c18] at H
     exact absurd H (by simp)
    rw [if_pos c18] at H
    have c18b0 : decide (0 ≤ (ji17)) = true := decide_eq_true c18
    clear c18
    (first | rw [c18b0] | (simp only [i64_w, i32_w]; rw [c18b0]) | skip)
    by_cases c19 : (ji17) < (y280.length : Int)
    rotate_left
    ·rw [if_neg c19] at H
     exact absurd H (by simp)
    rw [if_pos c19] at H
    have c19b0 : decide ((ji17) < (y280.length : Int)) = true := decide_eq_true c19
    clear c19
    have H' := yam H
    clear H
    go_wp2_with (first | ((with_reducible refine gate_dst (N := 32) rfl ?_); refine Kd.R_lit (Kd.int .i64) _ 3 ?hg (N := 32) ?hd (xs := ([2, 12, 576] : List Int)) (inner := [.int .i64 2, .int .i64 12, .int .i64 576]) (ok := fun _ => True) (okp := fun _ => True) ?hr ?hp (fun _ hk => hk) trivial (Below.refl _ _) (Nat.le_refl _) (by simp) ?_; (case hd => rfl); (case hg => rfl); (case hr => first | (go_simp; done) | (go_simp; rfl)); (case hp => exact (Reps.one (show Kd.M (Kd.int .i64) _ _ _ 2 [.int .i64 2] from rfl) (Reps.one (show Kd.M (Kd.int .i64) _ _ _ 12 [.int .i64 12] from rfl) (Reps.one (show Kd.M (Kd.int .i64) _ _ _ 576 [.int .i64 576] from rfl) (Reps.none _ _))))); intro v281 w20 ho21 hb hg_ hnew_; clear hg_ hnew_; (first | rw [← Ny280.out] at ho21 | (simp only [Int.reduceToNat] at ho21; rw [← Ny280.out] at ho21)); have n0_ := yam (Kd.Ye (Kd.Yz HO_5.out) (Kd.Yb ho21) hb); have n1_ := yam (Kd.R_lower (Kd.Yw ho21 (Kd.R_lt (Kd.Yz HO_5.out))) (below_size (yez HB.out))); have n2_ := yam (below_step (yez HB.out) hb); clear HO_5; clear HB; have HO_5 := n0_; have HO282 := n1_; have HB := n2_; clear n0_ n1_ n2_; clear hb ho21; obtain ⟨Ao22, co22, eo22⟩ := Kd.R_slice HO282.out; subst eo22; have p283 : 0 ≤ ((ji17) : Int) := of_decide_eq_true (by first | (with_reducible assumption) | assumption); have q283 : (ji17) < (y280.length : Int) := of_decide_eq_true (by first | (with_reducible assumption) | assumption); obtain ⟨ad283, e283, hx283_0⟩ := Kd.at_int (Kd.Yr HO282.out).2.2 (ji17) p283 q283; cases e283; replace p283 := eq_true p283; replace q283 := eq_true q283))
    go_meet
    case rel => exact ⟨_, (rd y280 (ji17)), (by first | rfl | (simp; done) | (simp only [← hji17] <;> (first | rfl | simp)) | (simp [*]; done)), H', ⟨by have := HJ7.out; first | omega | exact Nat.le_refl _⟩, ⟨by (with_reducible repeat (first | apply Kd.Ya | apply Kd.Yn | apply Kd.Yd)); exact Kd.R_mono HO_5.out (fun _ hk => trivial)⟩, ⟨by repeat (first | (with_reducible first | exact HB.out | apply yea | apply yen | apply yed) | exact HB.out)⟩⟩
   case rest =>
    clear HC15
    try clear c1
    try clear c2
    try clear c2b0
    try clear c2b1
    try clear p2
    try clear q2
    try clear hx2
    try clear c4
    try clear p6
    try clear c7
    try clear c11
    try clear c12
    try clear c14
    try clear c14b0
    try clear c16
    try clear c17
    try clear c18
    try clear c18b0
    try clear c19
    try clear c19b0
    try clear hx283_0
    try clear p2
    try clear p283
    try clear q283
    obtain ⟨kq, x6_14, rfl, HA, HJ14, HO_5, HB⟩ := hcut
    cases kq with
    | zero => exact absurd HA.out (by simp [laws_FnSquareNumber.j1])
    | succ kj14 =>
     have H := HA.out
     clear HA
     simp only [laws_FnSquareNumber.j1] at H
     by_cases c23 : (t273.length : Int) = 0
     ·rw [if_pos c23] at H
      have c23b0 : ((t273.length : Int) == 0) = true := beq_iff_eq.mpr c23
      have c23b1 : ((t273.length : Int) != 0) = false := bne_eq_false_iff_eq.mpr c23
      clear c23
      by_cases c24 : t272 < 0
      ·rw [if_pos c24] at H
       have c24b0 : decide (t272 < 0) = true := decide_eq_true c24
       clear c24
       replace H := Option.bind_eq_some_iff.mp H
       obtain ⟨t284, A250, H⟩ := H
       try dsimp only at H
       have A25 := yam A250
       clear A250
       obtain rfl := Option.some.inj H
       go_wp2_with (first | (go_at_call 18; (with_reducible refine (laws_alive.calls kj14  t284 _ A25.out).mono ?_); rintro e w26 ⟨rfl, hb⟩; have n0_ := yam (Kd.R_below (Kd.Yz HO_5.out) hb); have n1_ := yam (below_step (yez HB.out) hb); clear HO_5; clear HB; have HO_5 := n0_; have HB := n1_; clear n0_ n1_; (try clear hb); (try clear hb2); (try clear hk); (try clear hi)))
       go_ret
       exact ⟨by first | rfl | (simp [errW_none, errW_some] <;> rfl) | (simp [*, errW_none, errW_some] <;> rfl), by repeat (first | (with_reducible first | exact HB.out | apply yea | apply yen | apply yed) | exact HB.out)⟩
      rw [if_neg c24] at H
      have c24b0 : decide (t272 < 0) = false := decide_eq_false c24
      clear c24
      by_cases c27 : t272 ≥ x6_14
      rotate_left
      ·rw [if_neg c27] at H
       have c27b0 : decide (x6_14 ≤ t272) = false := decide_eq_false c27
       clear c27
       obtain rfl := Option.some.inj H
       go_wp2
       go_ret
       exact ⟨by first | rfl | (simp [errW_none, errW_some] <;> rfl) | (simp [*, errW_none, errW_some] <;> rfl), by repeat (first | (with_reducible first | exact HB.out | apply yea | apply yen | apply yed) | exact HB.out)⟩
      rw [if_pos c27] at H
      have c27b0 : decide (x6_14 ≤ t272) = true := decide_eq_true c27
      clear c27
      replace H := Option.bind_eq_some_iff.mp H
      obtain ⟨t285, A280, H⟩ := H
      try dsimp only at H
      have A28 := yam A280
      clear A280
      obtain rfl := Option.some.inj H
      go_wp2_with (first | (go_at_call 18; (with_reducible refine (laws_alive.calls kj14  t285 _ A28.out).mono ?_); rintro e w29 ⟨rfl, hb⟩; have n0_ := yam (Kd.R_below (Kd.Yz HO_5.out) hb); have n1_ := yam (below_step (yez HB.out) hb); clear HO_5; clear HB; have HO_5 := n0_; have HB := n1_; clear n0_ n1_; (try clear hb); (try clear hb2); (try clear hk); (try clear hi)))
      go_ret
      exact ⟨by first | rfl | (simp [errW_none, errW_some] <;> rfl) | (simp [*, errW_none, errW_some] <;> rfl), by repeat (first | (with_reducible first | exact HB.out | apply yea | apply yen | apply yed) | exact HB.out)⟩
     rw [if_neg c23] at H
     have c23b0 : ((t273.length : Int) == 0) = false := beq_eq_false_iff_ne.mpr c23
     have c23b1 : ((t273.length : Int) != 0) = true := bne_iff_ne.mpr c23
     have c23b2 : ¬ (t273 = []) := fun h_ => c23 (by rw [h_]; rfl)
     replace H := Option.bind_eq_some_iff.mp H
     obtain ⟨t286, A300, H⟩ := H
     try dsimp only at H
     have A30 := yam A300
     clear A300
     have H' := yam H
     clear H
     go_wp2_with (first | ((with_reducible refine gate_callee (f := 12) rfl ?_); refine goesL_ (some 53) rfl rfl Try.func12 (by kernel_rfl) rfl #[.int .i64 t271, .int .i64 (wrap64 (t272 + 1))] rfl (by (try simp only [List.map_toArray, List.map_cons, List.map_nil]); first | done | rfl | (simp only [List.length_drop, List.length_take]; rfl)) ?_; (with_reducible refine (impl_SquareNumber.calls kj14 t271 (wrap64 (t272 + 1)) t286 _ A30.out).mono ?_); rintro e w31 ⟨v287, rfl, ho0, hb⟩; refine ⟨_, rfl, ?_⟩; have n0_ := yam (Kd.Ye (Kd.Yz HO_5.out) (Kd.Yb ho0) hb); have n1_ := yam (Kd.R_lower (Kd.Yw ho0 (Kd.R_lt (Kd.Yz HO_5.out))) (below_size (yez HB.out))); have n2_ := yam (below_step (yez HB.out) hb); clear HO_5; clear HB; have HO_5 := n0_; have HO288 := n1_; have HB := n2_; clear n0_ n1_ n2_; (try clear hb); (try clear hb2); (try clear hk); (try clear hi); (try clear ho0)))
     go_loopg [8] kj14 (fun kq v8 w' => ∃ (x8_3 : Int), v8 = .int .i64 x8_3 ∧ Aside0 (laws_FnSquareNumber.l0 kq t271 t272 t273 x6_14 t286 x8_3 = some r) ∧ Aside0 (kq ≤ kj14) ∧ Aside0 (Kd.R (Kd.int .i64) 3 w' w.heap.size (fun k_ => some k_ ≠ (v287 : Value).ownBlock) (.slice Ao12 t273.length co12) t273) ∧ Aside0 (Kd.R (Kd.int .i64) 3 w' w.heap.size (fun k_ => some k_ ≠ ((.slice Ao12 t273.length co12) : Value).ownBlock) v287 t286) ∧ Aside0 (Below w.heap.size w w'))
     case atStart => exact ⟨(0), (by first | rfl | (simp; done) | (simp [*]; done)), H', ⟨Nat.le_refl _⟩, ⟨by (with_reducible repeat (first | apply Kd.Ya | apply Kd.Yn | apply Kd.Yd)); exact Kd.R_mono HO_5.out (fun _ hk => hk.2)⟩, ⟨by (with_reducible repeat (first | apply Kd.Ya | apply Kd.Yn | apply Kd.Yd)); exact Kd.R_mono HO288.out (fun _ hk => hk.2)⟩, ⟨by repeat (first | (with_reducible first | exact HB.out | apply yea | apply yen | apply yed) | exact HB.out)⟩⟩
     case round =>
      clear H'
      try clear c1
      try clear c2
      try clear c2b0
      try clear c2b1
      try clear p2
      try clear q2
      try clear hx2
      try clear c4
      try clear p6
      try clear c7
      try clear c11
      try clear c12
      try clear c14
      try clear c14b0
      try clear c16
      try clear c17
      try clear c18
      try clear c18b0
      try clear c19
      try clear c19b0
      try clear c23
      try clear c23b0
      try clear c23b1
      try clear c23b2
      try clear c24
      try clear c24b0
      try clear c27
      try clear c27b0
      try clear p28
      try clear q28
      try clear hx28
      try clear hx283_0
      try clear p2
      try clear p283
      try clear p6
      try clear q2
      try clear q283
      obtain ⟨x8_3, rfl, HA, HK3, HO_5, HO_7, HB⟩ := hrel
      cases gk with
      | zero => exact absurd HA.out (by simp [laws_FnSquareNumber.l0])
      | succ k3 =>
       have H := HA.out
       clear HA
       simp only [laws_FnSquareNumber.l0] at H
       by_cases c32 : x8_3 < (t286.length : Int)
       rotate_left
       ·rw [if_neg c32] at H
        have c32b0 : decide (x8_3 < (t286.length : Int)) = false := decide_eq_false c32
        clear c32
        replace H := Option.bind_eq_some_iff.mp H
        obtain ⟨t294, A520, H⟩ := H
        try dsimp only at H
        have A52 := yam A520
        clear A520
        by_cases c53 : t294 = true
        ·subst c53
         have H1 : (some (t272 == (wrap64 (x6_14 - 1)))) = some r := by rw [if_pos rfl] at H; exact H
         clear H
         have H := H1
         clear H1
         obtain rfl := Option.some.inj H
         obtain ⟨Ao54, co54, eo54⟩ := Kd.R_slice HO_7.out
         subst eo54
         go_wp2_with (first | ((with_reducible refine gate_callee (f := 19) rfl ?_); refine goesL_ (some 90) rfl rfl Try.func19 (by kernel_rfl) rfl #[.slice Ao12 t273.length co12, .int .i64 t271] rfl (by (try simp only [List.map_toArray, List.map_cons, List.map_nil]); first | done | rfl | (simp only [List.length_drop, List.length_take]; rfl)) ?_; (with_reducible refine (impl_SquareSolved.calls k3 _ _ t273 t271 true _ ?side1 ?side2 A52.out).mono ?_); (case side1 => repeat (first | exact (Kd.Yr HO_5.out).2.2 | (with_reducible refine Kd.C_alloc ?_ _) | (with_reducible refine Kd.C_drewN ?_ _) | (with_reducible refine Kd.C_drew ?_))); (case side2 => exact (Kd.Yr HO_5.out).2.1); rintro e w55 ⟨rfl, hb⟩; refine ⟨_, rfl, ?_⟩; have n0_ := yam (Kd.R_below (Kd.Yz HO_5.out) hb); have n1_ := yam (Kd.R_below (Kd.Yz HO_7.out) hb); have n2_ := yam (below_step (yez HB.out) hb); clear HO_5; clear HO_7; clear HB; have HO_5 := n0_; have HO_7 := n1_; have HB := n2_; clear n0_ n1_ n2_; (try clear hb); (try clear hb2); (try clear hk); (try clear hi)))
         go_ret
         exact ⟨by first | rfl | (simp [errW_none, errW_some] <;> rfl) | (simp [*, errW_none, errW_some] <;> rfl), by repeat (first | (with_reducible first | exact HB.out | apply yea | apply yen | apply yed) | exact HB.out)⟩
        replace c53 := Bool.eq_false_iff.mpr c53
        subst c53
        have H1 : (some false) = some r := by rw [if_neg (show ¬ (false = true) by decide)] at H; exact H
        clear H
        have H := H1
        clear H1
        obtain rfl := Option.some.inj H
        obtain ⟨Ao56, co56, eo56⟩ := Kd.R_slice HO_7.out
        subst eo56
        go_wp2_with (first | ((with_reducible refine gate_callee (f := 19) rfl ?_); refine goesL_ (some 90) rfl rfl Try.func19 (by kernel_rfl) rfl #[.slice Ao12 t273.length co12, .int .i64 t271] rfl (by (try simp only [List.map_toArray, List.map_cons, List.map_nil]); first | done | rfl | (simp only [List.length_drop, List.length_take]; rfl)) ?_; (with_reducible refine (impl_SquareSolved.calls k3 _ _ t273 t271 false _ ?side1 ?side2 A52.out).mono ?_); (case side1 => repeat (first | exact (Kd.Yr HO_5.out).2.2 | (with_reducible refine Kd.C_alloc ?_ _) | (with_reducible refine Kd.C_drewN ?_ _) | (with_reducible refine Kd.C_drew ?_))); (case side2 => exact (Kd.Yr HO_5.out).2.1); rintro e w57 ⟨rfl, hb⟩; refine ⟨_, rfl, ?_⟩; have n0_ := yam (Kd.R_below (Kd.Yz HO_5.out) hb); have n1_ := yam (Kd.R_below (Kd.Yz HO_7.out) hb); have n2_ := yam (below_step (yez HB.out) hb); clear HO_5; clear HO_7; clear HB; have HO_5 := n0_; have HO_7 := n1_; have HB := n2_; clear n0_ n1_ n2_; (try clear hb); (try clear hb2); (try clear hk); (try clear hi)))
        go_ret
        exact ⟨by first | rfl | (simp [errW_none, errW_some] <;> rfl) | (simp [*, errW_none, errW_some] <;> rfl), by repeat (first | (with_reducible first | exact HB.out | apply yea | apply yen | apply yed) | exact HB.out)⟩
       rw [if_pos c32] at H
       have c32b0 : decide (x8_3 < (t286.length : Int)) = true := decide_eq_true c32
       clear c32
       by_cases c33 : 0 ≤ x8_3
       rotate_left
       ·rw [if_neg c33] at H
        exact absurd H (by simp)
       rw [if_pos c33] at H
       have c33b0 : decide (0 ≤ x8_3) = true := decide_eq_true c33
       clear c33
       by_cases c34 : x8_3 < (t273.length : Int)
       rotate_left
       ·rw [if_neg c34] at H
        exact absurd H (by simp)
       rw [if_pos c34] at H
       have c34b0 : decide (x8_3 < (t273.length : Int)) = true := decide_eq_true c34
       clear c34
       by_cases c35 : (rd t286 x8_3) = (rd t273 x8_3)
       ·rw [if_pos c35] at H
        have c35b0 : ((rd t286 x8_3) == (rd t273 x8_3)) = true := beq_iff_eq.mpr c35
        have c35b1 : ((rd t286 x8_3) != (rd t273 x8_3)) = false := bne_eq_false_iff_eq.mpr c35
        clear c35
        have H' := yam H
        clear H
        obtain ⟨Ao36, co36, eo36⟩ := Kd.R_slice HO_7.out
        subst eo36
        try go_wp2
        have n0_ := yam (Kd.Yd HO_5.out)
        have n1_ := yam (Kd.Yd HO_7.out)
        have n2_ := yam (yed HB.out)
        clear HO_5
        clear HO_7
        clear HB
        have HO_5 := n0_
        have HO_7 := n1_
        have HB := n2_
        clear n0_ n1_ n2_
        have p289 : 0 ≤ (x8_3 : Int) := of_decide_eq_true (by first | (with_reducible assumption) | assumption)
        have q289 : x8_3 < (t286.length : Int) := of_decide_eq_true (by first | (with_reducible assumption) | assumption)
        obtain ⟨ad289, e289, hx289_0⟩ := Kd.at_int (Kd.Yr HO_7.out).2.2 x8_3 p289 q289
        cases e289
        replace p289 := eq_true p289
        replace q289 := eq_true q289
        have p290 : 0 ≤ (x8_3 : Int) := of_decide_eq_true (by first | (with_reducible assumption) | assumption)
        have q290 : x8_3 < (t273.length : Int) := of_decide_eq_true (by first | (with_reducible assumption) | assumption)
        obtain ⟨ad290, e290, hx290_0⟩ := Kd.at_int (Kd.Yr HO_5.out).2.2 x8_3 p290 q290
        cases e290
        replace p290 := eq_true p290
        replace q290 := eq_true q290
        refine start_ (n := 9) (S := fun w' => w'.cell? (ad289.add (x8_3).toNat) = some (.int .i64 (rd t286 x8_3)) ∧ w'.cell? (ad290.add (x8_3).toNat) = some (.int .i64 (rd t273 x8_3))) (ds := []) #[false, false, false, false, false, false, false, false, false] (by kernel_rfl) rfl rfl ⟨hx289_0, hx290_0⟩ (fun hHeld => ?_); refine with_tabW laws_FnSquareNumber.tab16 laws_FnSquareNumber.bits16 (fun HT_ HW_ => ?_)
        generalize wr.drew = w37 at HO_5 HO_7 HB hx289_0 hx290_0 hHeld ⊢
        refine yvp 0 60 (yvb 9 1) HT_.out ?_
        refine yvp 1 61 (yvb 9 3) HT_.out ?_
        refine yvp 2 62 (yvb 9 7) HT_.out ?_
        refine yvp 4 64 (yvb 9 23) HT_.out ?_
        refine yvp 5 65 (yvb 9 55) HT_.out ?_
        refine yvp 6 66 (yvb 9 119) HT_.out ?_
        refine yvt 3 63 (yvb 9 127) HT_.out HW_.out hHeld ?_
        refine yvt 7 67 (yvb 9 255) HT_.out HW_.out hHeld ?_
        refine yvp 8 68 (yvb 9 511) HT_.out ?_
        refine done_ (done_of HT_.out (by kernel_rfl)) ?_
        try go_wp2
        go_roundg k3
        case measure => have := HJ7.out; have := HJ14.out; have := HK3.out; omega
        case rel => exact ⟨(wrap64 (x8_3 + 1)), (by first | rfl | (simp; done) | (simp [*]; done)), H', ⟨by have := HJ7.out; have := HJ14.out; have := HK3.out; omega⟩, ⟨by (with_reducible repeat (first | apply Kd.Ya | apply Kd.Yn | apply Kd.Yd)); exact HO_5.out⟩, ⟨by (with_reducible repeat (first | apply Kd.Ya | apply Kd.Yn | apply Kd.Yd)); exact HO_7.out⟩, ⟨by repeat (first | (with_reducible first | exact HB.out | apply yea | apply yen | apply yed) | exact HB.out)⟩⟩
       rw [if_neg c35] at H
       have c35b0 : ((rd t286 x8_3) == (rd t273 x8_3)) = false := beq_eq_false_iff_ne.mpr c35
       have c35b1 : ((rd t286 x8_3) != (rd t273 x8_3)) = true := bne_iff_ne.mpr c35
       by_cases c38 : (rd t286 x8_3) > (rd t273 x8_3)
       rotate_left
       ·rw [if_neg c38] at H
        have c38b0 : decide ((rd t273 x8_3) < (rd t286 x8_3)) = false := decide_eq_false c38
        clear c38
        obtain rfl := Option.some.inj H
        obtain ⟨Ao49, co49, eo49⟩ := Kd.R_slice HO_7.out
        subst eo49
        try go_wp2
        have n0_ := yam (Kd.Yd HO_5.out)
        have n1_ := yam (Kd.Yd HO_7.out)
        have n2_ := yam (yed HB.out)
        clear HO_5
        clear HO_7
        clear HB
        have HO_5 := n0_
        have HO_7 := n1_
        have HB := n2_
        clear n0_ n1_ n2_
        have p289 : 0 ≤ (x8_3 : Int) := of_decide_eq_true (by first | (with_reducible assumption) | assumption)
        have q289 : x8_3 < (t286.length : Int) := of_decide_eq_true (by first | (with_reducible assumption) | assumption)
        obtain ⟨ad289, e289, hx289_0⟩ := Kd.at_int (Kd.Yr HO_7.out).2.2 x8_3 p289 q289
        cases e289
        replace p289 := eq_true p289
        replace q289 := eq_true q289
        have p290 : 0 ≤ (x8_3 : Int) := of_decide_eq_true (by first | (with_reducible assumption) | assumption)
        have q290 : x8_3 < (t273.length : Int) := of_decide_eq_true (by first | (with_reducible assumption) | assumption)
        obtain ⟨ad290, e290, hx290_0⟩ := Kd.at_int (Kd.Yr HO_5.out).2.2 x8_3 p290 q290
        cases e290
        replace p290 := eq_true p290
        replace q290 := eq_true q290
        refine start_ (n := 9) (S := fun w' => w'.cell? (ad289.add (x8_3).toNat) = some (.int .i64 (rd t286 x8_3)) ∧ w'.cell? (ad290.add (x8_3).toNat) = some (.int .i64 (rd t273 x8_3))) (ds := []) #[false, false, false, false, false, false, false, false, false] (by kernel_rfl) rfl rfl ⟨hx289_0, hx290_0⟩ (fun hHeld => ?_); refine with_tabW laws_FnSquareNumber.tab16 laws_FnSquareNumber.bits16 (fun HT_ HW_ => ?_)
        generalize wr.drew = w50 at HO_5 HO_7 HB hx289_0 hx290_0 hHeld ⊢
        refine yvp 0 60 (yvb 9 1) HT_.out ?_
        refine yvp 1 61 (yvb 9 3) HT_.out ?_
        refine yvp 2 62 (yvb 9 7) HT_.out ?_
        refine yvp 4 64 (yvb 9 23) HT_.out ?_
        refine yvp 5 65 (yvb 9 55) HT_.out ?_
        refine yvp 6 66 (yvb 9 119) HT_.out ?_
        refine yvt 3 63 (yvb 9 127) HT_.out HW_.out hHeld ?_
        refine yvt 7 67 (yvb 9 255) HT_.out HW_.out hHeld ?_
        refine yvp 8 68 (yvb 9 511) HT_.out ?_
        refine done_ (done_of HT_.out (by kernel_rfl)) ?_
        try go_wp2
        have n0_ := yam (Kd.Yd HO_5.out)
        have n1_ := yam (Kd.Yd HO_7.out)
        have n2_ := yam (yed HB.out)
        clear HO_5
        clear HO_7
        clear HB
        have HO_5 := n0_
        have HO_7 := n1_
        have HB := n2_
        clear n0_ n1_ n2_
        have p291 : 0 ≤ (x8_3 : Int) := of_decide_eq_true (by first | (with_reducible assumption) | assumption)
        have q291 : x8_3 < (t286.length : Int) := of_decide_eq_true (by first | (with_reducible assumption) | assumption)
        obtain ⟨ad291, e291, hx291_0⟩ := Kd.at_int (Kd.Yr HO_7.out).2.2 x8_3 p291 q291
        obtain rfl : ad289 = ad291 := (by injection e291)
        replace p291 := eq_true p291
        replace q291 := eq_true q291
        have p292 : 0 ≤ (x8_3 : Int) := of_decide_eq_true (by first | (with_reducible assumption) | assumption)
        have q292 : x8_3 < (t273.length : Int) := of_decide_eq_true (by first | (with_reducible assumption) | assumption)
        obtain ⟨ad292, e292, hx292_0⟩ := Kd.at_int (Kd.Yr HO_5.out).2.2 x8_3 p292 q292
        obtain rfl : ad290 = ad292 := (by injection e292)
        replace p292 := eq_true p292
        replace q292 := eq_true q292
        refine start_ (n := 20) (S := fun w' => w'.cell? (ad289.add (x8_3).toNat) = some (.int .i64 (rd t286 x8_3)) ∧ w'.cell? (ad290.add (x8_3).toNat) = some (.int .i64 (rd t273 x8_3))) (ds := []) #[false, false, false, false, false, false, false, false, false, false, false, false, false, false, false, false, false, false, false, false] (by kernel_rfl) rfl rfl ⟨hx291_0, hx292_0⟩ (fun hHeld => ?_); refine with_tabW laws_FnSquareNumber.tab17 laws_FnSquareNumber.bits17 (fun HT_ HW_ => ?_)
        generalize w50.drew = w51 at HO_5 HO_7 HB hx291_0 hx292_0 hHeld ⊢
        refine yvp 0 69 (yvb 20 1) HT_.out ?_
        refine yvp 1 70 (yvb 20 3) HT_.out ?_
        refine yvp 2 71 (yvb 20 7) HT_.out ?_
        refine yvp 4 73 (yvb 20 23) HT_.out ?_
        refine yvp 5 74 (yvb 20 55) HT_.out ?_
        refine yvp 6 75 (yvb 20 119) HT_.out ?_
        refine yvt 3 72 (yvb 20 127) HT_.out HW_.out hHeld ?_
        refine yvt 7 76 (yvb 20 255) HT_.out HW_.out hHeld ?_
        refine yvp 8 77 (yvb 20 511) HT_.out ?_
        refine yvp 9 78 (yvb 20 1023) HT_.out ?_
        refine yvu 10 79 (yvb 20 2047) HT_.out ?_
        refine yvu 11 80 (yvb 20 4095) HT_.out ?_
        refine yvu 12 81 (yvb 20 8191) HT_.out ?_
        refine yvp 13 82 (yvb 20 16383) HT_.out ?_
        refine yvp 14 83 (yvb 20 32767) HT_.out ?_
        refine yvu 15 84 (yvb 20 65535) HT_.out ?_
        refine yvu 16 85 (yvb 20 131071) HT_.out ?_
        refine yvu 17 86 (yvb 20 262143) HT_.out ?_
        refine yvp 18 87 (yvb 20 524287) HT_.out ?_
        refine yvp 19 2 (yvb 20 1048575) HT_.out ?_
        refine done_ (done_of HT_.out (by kernel_rfl)) ?_
        try go_wp2
        go_ret
        exact ⟨by first | rfl | (simp [errW_none, errW_some] <;> rfl) | (simp [*, errW_none, errW_some] <;> rfl), by repeat (first | (with_reducible first | exact HB.out | apply yea | apply yen | apply yed) | exact HB.out)⟩
       rw [if_pos c38] at H
       have c38b0 : decide ((rd t273 x8_3) < (rd t286 x8_3)) = true := decide_eq_true c38
       clear c38
       replace H := Option.bind_eq_some_iff.mp H
       obtain ⟨t293, A390, H⟩ := H
       try dsimp only at H
       have A39 := yam A390
       clear A390
       by_cases c40 : t293 = true
       rotate_left
       ·replace c40 := Bool.eq_false_iff.mpr c40
        subst c40
        have H1 : (some false) = some r := by rw [if_neg (show ¬ (false = true) by decide)] at H; exact H
        clear H
        have H := H1
        clear H1
        obtain rfl := Option.some.inj H
        obtain ⟨Ao45, co45, eo45⟩ := Kd.R_slice HO_7.out
        subst eo45
        try go_wp2
        have n0_ := yam (Kd.Yd HO_5.out)
        have n1_ := yam (Kd.Yd HO_7.out)
        have n2_ := yam (yed HB.out)
        clear HO_5
        clear HO_7
        clear HB
        have HO_5 := n0_
        have HO_7 := n1_
        have HB := n2_
        clear n0_ n1_ n2_
        have p289 : 0 ≤ (x8_3 : Int) := of_decide_eq_true (by first | (with_reducible assumption) | assumption)
        have q289 : x8_3 < (t286.length : Int) := of_decide_eq_true (by first | (with_reducible assumption) | assumption)
        obtain ⟨ad289, e289, hx289_0⟩ := Kd.at_int (Kd.Yr HO_7.out).2.2 x8_3 p289 q289
        cases e289
        replace p289 := eq_true p289
        replace q289 := eq_true q289
        have p290 : 0 ≤ (x8_3 : Int) := of_decide_eq_true (by first | (with_reducible assumption) | assumption)
        have q290 : x8_3 < (t273.length : Int) := of_decide_eq_true (by first | (with_reducible assumption) | assumption)
        obtain ⟨ad290, e290, hx290_0⟩ := Kd.at_int (Kd.Yr HO_5.out).2.2 x8_3 p290 q290
        cases e290
        replace p290 := eq_true p290
        replace q290 := eq_true q290
        refine start_ (n := 9) (S := fun w' => w'.cell? (ad289.add (x8_3).toNat) = some (.int .i64 (rd t286 x8_3)) ∧ w'.cell? (ad290.add (x8_3).toNat) = some (.int .i64 (rd t273 x8_3))) (ds := []) #[false, false, false, false, false, false, false, false, false] (by kernel_rfl) rfl rfl ⟨hx289_0, hx290_0⟩ (fun hHeld => ?_); refine with_tabW laws_FnSquareNumber.tab16 laws_FnSquareNumber.bits16 (fun HT_ HW_ => ?_)
        generalize wr.drew = w46 at HO_5 HO_7 HB hx289_0 hx290_0 hHeld ⊢
        refine yvp 0 60 (yvb 9 1) HT_.out ?_
        refine yvp 1 61 (yvb 9 3) HT_.out ?_
        refine yvp 2 62 (yvb 9 7) HT_.out ?_
        refine yvp 4 64 (yvb 9 23) HT_.out ?_
        refine yvp 5 65 (yvb 9 55) HT_.out ?_
        refine yvp 6 66 (yvb 9 119) HT_.out ?_
        refine yvt 3 63 (yvb 9 127) HT_.out HW_.out hHeld ?_
        refine yvt 7 67 (yvb 9 255) HT_.out HW_.out hHeld ?_
        refine yvp 8 68 (yvb 9 511) HT_.out ?_
        refine done_ (done_of HT_.out (by kernel_rfl)) ?_
        try go_wp2
        have n0_ := yam (Kd.Yd HO_5.out)
        have n1_ := yam (Kd.Yd HO_7.out)
        have n2_ := yam (yed HB.out)
        clear HO_5
        clear HO_7
        clear HB
        have HO_5 := n0_
        have HO_7 := n1_
        have HB := n2_
        clear n0_ n1_ n2_
        have p291 : 0 ≤ (x8_3 : Int) := of_decide_eq_true (by first | (with_reducible assumption) | assumption)
        have q291 : x8_3 < (t286.length : Int) := of_decide_eq_true (by first | (with_reducible assumption) | assumption)
        obtain ⟨ad291, e291, hx291_0⟩ := Kd.at_int (Kd.Yr HO_7.out).2.2 x8_3 p291 q291
        obtain rfl : ad289 = ad291 := (by injection e291)
        replace p291 := eq_true p291
        replace q291 := eq_true q291
        have p292 : 0 ≤ (x8_3 : Int) := of_decide_eq_true (by first | (with_reducible assumption) | assumption)
        have q292 : x8_3 < (t273.length : Int) := of_decide_eq_true (by first | (with_reducible assumption) | assumption)
        obtain ⟨ad292, e292, hx292_0⟩ := Kd.at_int (Kd.Yr HO_5.out).2.2 x8_3 p292 q292
        obtain rfl : ad290 = ad292 := (by injection e292)
        replace p292 := eq_true p292
        replace q292 := eq_true q292
        refine start_ (n := 20) (S := fun w' => w'.cell? (ad289.add (x8_3).toNat) = some (.int .i64 (rd t286 x8_3)) ∧ w'.cell? (ad290.add (x8_3).toNat) = some (.int .i64 (rd t273 x8_3))) (ds := []) #[false, false, false, false, false, false, false, false, false, false, false, false, false, false, false, false, false, false, false, false] (by kernel_rfl) rfl rfl ⟨hx291_0, hx292_0⟩ (fun hHeld => ?_); refine with_tabW laws_FnSquareNumber.tab17 laws_FnSquareNumber.bits17 (fun HT_ HW_ => ?_)
        generalize w46.drew = w47 at HO_5 HO_7 HB hx291_0 hx292_0 hHeld ⊢
        refine yvp 0 69 (yvb 20 1) HT_.out ?_
        refine yvp 1 70 (yvb 20 3) HT_.out ?_
        refine yvp 2 71 (yvb 20 7) HT_.out ?_
        refine yvp 4 73 (yvb 20 23) HT_.out ?_
        refine yvp 5 74 (yvb 20 55) HT_.out ?_
        refine yvp 6 75 (yvb 20 119) HT_.out ?_
        refine yvt 3 72 (yvb 20 127) HT_.out HW_.out hHeld ?_
        refine yvt 7 76 (yvb 20 255) HT_.out HW_.out hHeld ?_
        refine yvp 8 77 (yvb 20 511) HT_.out ?_
        refine yvp 9 78 (yvb 20 1023) HT_.out ?_
        refine yvp 10 79 (yvb 20 2047) HT_.out ?_
        refine yvp 11 80 (yvb 20 4095) HT_.out ?_
        refine one_ (i := 12) (N := some 81) #[true, true, true, true, true, true, true, true, true, true, true, true, true, false, false, false, false, false, false, false] rfl rfl (one_of HT_.out (by kernel_rfl)) (by decide) (fun K hK => ?_)
        refine goes_ Try.func19 (by kernel_rfl) rfl #[.slice (some ad290) t273.length co12, .int .i64 t271] (by rfl) rfl rfl (by (try simp only [List.map_toArray, List.map_cons, List.map_nil]); first | done | rfl | (simp only [List.length_drop, List.length_take]; rfl)) ?_
        with_reducible refine (impl_SquareSolved.calls k3 _ _ t273 t271 false _ ?side1 ?side2 A39.out).mono ?_
        (case side1 => repeat (first | exact (Kd.Yr HO_5.out).2.2 | (with_reducible refine Kd.C_alloc ?_ _) | (with_reducible refine Kd.C_drewN ?_ _) | (with_reducible refine Kd.C_drew ?_)))
        (case side2 => exact (Kd.Yr HO_5.out).2.1)
        rintro e w48 ⟨rfl, hb⟩
        have HS0_ := (hb.cell (World.block_lt_of_cell? _ _ (hHeld.1))).trans (hHeld.1)
        have HS1_ := (hb.cell (World.block_lt_of_cell? _ _ (hHeld.2))).trans (hHeld.2)
        refine ⟨_, rfl, ?_⟩
        have n0_ := yam (Kd.R_below (Kd.Yz HO_5.out) hb)
        have n1_ := yam (Kd.R_below (Kd.Yz HO_7.out) hb)
        have n2_ := yam (below_step (yez HB.out) hb)
        clear HO_5
        clear HO_7
        clear HB
        have HO_5 := n0_
        have HO_7 := n1_
        have HB := n2_
        clear n0_ n1_ n2_
        (try clear hb)
        (try clear hb2)
        (try clear hk)
        (try clear hi)
        refine hK.out _ _ ⟨HS0_, HS1_⟩ (fun hHeld => ?_)
        clear hK K
        refine norm_ (a' := ?_) ?_ ?_
        rotate_left
        ·show Act.put _ (some 81) _ = _
         simp only [Act.put, yps, i64_w, i32_w]
         rfl
        refine yvp 13 82 (yvb 20 16383) HT_.out ?_
        refine yvp 14 83 (yvb 20 32767) HT_.out ?_
        refine yvu 15 84 (yvb 20 65535) HT_.out ?_
        refine yvu 16 85 (yvb 20 131071) HT_.out ?_
        refine yvu 17 86 (yvb 20 262143) HT_.out ?_
        refine yvp 18 87 (yvb 20 524287) HT_.out ?_
        refine yvp 19 2 (yvb 20 1048575) HT_.out ?_
        refine done_ (done_of HT_.out (by kernel_rfl)) ?_
        try go_wp2
        go_ret
        exact ⟨by first | rfl | (simp [errW_none, errW_some] <;> rfl) | (simp [*, errW_none, errW_some] <;> rfl), by repeat (first | (with_reducible first | exact HB.out | apply yea | apply yen | apply yed) | exact HB.out)⟩
       subst c40
       have H1 : (some (decide (t272 < x6_14))) = some r := by rw [if_pos rfl] at H; exact H
       clear H
       have H := H1
       clear H1
       obtain rfl := Option.some.inj H
       obtain ⟨Ao41, co41, eo41⟩ := Kd.R_slice HO_7.out
       subst eo41
       try go_wp2
       have n0_ := yam (Kd.Yd HO_5.out)
       have n1_ := yam (Kd.Yd HO_7.out)
       have n2_ := yam (yed HB.out)
       clear HO_5
       clear HO_7
       clear HB
       have HO_5 := n0_
       have HO_7 := n1_
       have HB := n2_
       clear n0_ n1_ n2_
       have p289 : 0 ≤ (x8_3 : Int) := of_decide_eq_true (by first | (with_reducible assumption) | assumption)
       have q289 : x8_3 < (t286.length : Int) := of_decide_eq_true (by first | (with_reducible assumption) | assumption)
       obtain ⟨ad289, e289, hx289_0⟩ := Kd.at_int (Kd.Yr HO_7.out).2.2 x8_3 p289 q289
       cases e289
       replace p289 := eq_true p289
       replace q289 := eq_true q289
       have p290 : 0 ≤ (x8_3 : Int) := of_decide_eq_true (by first | (with_reducible assumption) | assumption)
       have q290 : x8_3 < (t273.length : Int) := of_decide_eq_true (by first | (with_reducible assumption) | assumption)
       obtain ⟨ad290, e290, hx290_0⟩ := Kd.at_int (Kd.Yr HO_5.out).2.2 x8_3 p290 q290
       cases e290
       replace p290 := eq_true p290
       replace q290 := eq_true q290
       refine start_ (n := 9) (S := fun w' => w'.cell? (ad289.add (x8_3).toNat) = some (.int .i64 (rd t286 x8_3)) ∧ w'.cell? (ad290.add (x8_3).toNat) = some (.int .i64 (rd t273 x8_3))) (ds := []) #[false, false, false, false, false, false, false, false, false] (by kernel_rfl) rfl rfl ⟨hx289_0, hx290_0⟩ (fun hHeld => ?_); refine with_tabW laws_FnSquareNumber.tab16 laws_FnSquareNumber.bits16 (fun HT_ HW_ => ?_)
       generalize wr.drew = w42 at HO_5 HO_7 HB hx289_0 hx290_0 hHeld ⊢
       refine yvp 0 60 (yvb 9 1) HT_.out ?_
       refine yvp 1 61 (yvb 9 3) HT_.out ?_
       refine yvp 2 62 (yvb 9 7) HT_.out ?_
       refine yvp 4 64 (yvb 9 23) HT_.out ?_
       refine yvp 5 65 (yvb 9 55) HT_.out ?_
       refine yvp 6 66 (yvb 9 119) HT_.out ?_
       refine yvt 3 63 (yvb 9 127) HT_.out HW_.out hHeld ?_
       refine yvt 7 67 (yvb 9 255) HT_.out HW_.out hHeld ?_
       refine yvp 8 68 (yvb 9 511) HT_.out ?_
       refine done_ (done_of HT_.out (by kernel_rfl)) ?_
       try go_wp2
       have n0_ := yam (Kd.Yd HO_5.out)
       have n1_ := yam (Kd.Yd HO_7.out)
       have n2_ := yam (yed HB.out)
       clear HO_5
       clear HO_7
       clear HB
       have HO_5 := n0_
       have HO_7 := n1_
       have HB := n2_
       clear n0_ n1_ n2_
       have p291 : 0 ≤ (x8_3 : Int) := of_decide_eq_true (by first | (with_reducible assumption) | assumption)
       have q291 : x8_3 < (t286.length : Int) := of_decide_eq_true (by first | (with_reducible assumption) | assumption)
       obtain ⟨ad291, e291, hx291_0⟩ := Kd.at_int (Kd.Yr HO_7.out).2.2 x8_3 p291 q291
       obtain rfl : ad289 = ad291 := (by injection e291)
       replace p291 := eq_true p291
       replace q291 := eq_true q291
       have p292 : 0 ≤ (x8_3 : Int) := of_decide_eq_true (by first | (with_reducible assumption) | assumption)
       have q292 : x8_3 < (t273.length : Int) := of_decide_eq_true (by first | (with_reducible assumption) | assumption)
       obtain ⟨ad292, e292, hx292_0⟩ := Kd.at_int (Kd.Yr HO_5.out).2.2 x8_3 p292 q292
       obtain rfl : ad290 = ad292 := (by injection e292)
       replace p292 := eq_true p292
       replace q292 := eq_true q292
       refine start_ (n := 20) (S := fun w' => w'.cell? (ad289.add (x8_3).toNat) = some (.int .i64 (rd t286 x8_3)) ∧ w'.cell? (ad290.add (x8_3).toNat) = some (.int .i64 (rd t273 x8_3))) (ds := []) #[false, false, false, false, false, false, false, false, false, false, false, false, false, false, false, false, false, false, false, false] (by kernel_rfl) rfl rfl ⟨hx291_0, hx292_0⟩ (fun hHeld => ?_); refine with_tabW laws_FnSquareNumber.tab17 laws_FnSquareNumber.bits17 (fun HT_ HW_ => ?_)
       generalize w42.drew = w43 at HO_5 HO_7 HB hx291_0 hx292_0 hHeld ⊢
       refine yvp 0 69 (yvb 20 1) HT_.out ?_
       refine yvp 1 70 (yvb 20 3) HT_.out ?_
       refine yvp 2 71 (yvb 20 7) HT_.out ?_
       refine yvp 4 73 (yvb 20 23) HT_.out ?_
       refine yvp 5 74 (yvb 20 55) HT_.out ?_
       refine yvp 6 75 (yvb 20 119) HT_.out ?_
       refine yvt 3 72 (yvb 20 127) HT_.out HW_.out hHeld ?_
       refine yvt 7 76 (yvb 20 255) HT_.out HW_.out hHeld ?_
       refine yvp 8 77 (yvb 20 511) HT_.out ?_
       refine yvp 9 78 (yvb 20 1023) HT_.out ?_
       refine yvp 10 79 (yvb 20 2047) HT_.out ?_
       refine yvp 11 80 (yvb 20 4095) HT_.out ?_
       refine one_ (i := 12) (N := some 81) #[true, true, true, true, true, true, true, true, true, true, true, true, true, false, false, false, false, false, false, false] rfl rfl (one_of HT_.out (by kernel_rfl)) (by decide) (fun K hK => ?_)
       refine goes_ Try.func19 (by kernel_rfl) rfl #[.slice (some ad290) t273.length co12, .int .i64 t271] (by rfl) rfl rfl (by (try simp only [List.map_toArray, List.map_cons, List.map_nil]); first | done | rfl | (simp only [List.length_drop, List.length_take]; rfl)) ?_
       with_reducible refine (impl_SquareSolved.calls k3 _ _ t273 t271 true _ ?side1 ?side2 A39.out).mono ?_
       (case side1 => repeat (first | exact (Kd.Yr HO_5.out).2.2 | (with_reducible refine Kd.C_alloc ?_ _) | (with_reducible refine Kd.C_drewN ?_ _) | (with_reducible refine Kd.C_drew ?_)))
       (case side2 => exact (Kd.Yr HO_5.out).2.1)
       rintro e w44 ⟨rfl, hb⟩
       have HS0_ := (hb.cell (World.block_lt_of_cell? _ _ (hHeld.1))).trans (hHeld.1)
       have HS1_ := (hb.cell (World.block_lt_of_cell? _ _ (hHeld.2))).trans (hHeld.2)
       refine ⟨_, rfl, ?_⟩
       have n0_ := yam (Kd.R_below (Kd.Yz HO_5.out) hb)
       have n1_ := yam (Kd.R_below (Kd.Yz HO_7.out) hb)
       have n2_ := yam (below_step (yez HB.out) hb)
       clear HO_5
       clear HO_7
       clear HB
       have HO_5 := n0_
       have HO_7 := n1_
       have HB := n2_
       clear n0_ n1_ n2_
       (try clear hb)
       (try clear hb2)
       (try clear hk)
       (try clear hi)
       refine hK.out _ _ ⟨HS0_, HS1_⟩ (fun hHeld => ?_)
       clear hK K
       refine norm_ (a' := ?_) ?_ ?_
       rotate_left
       ·show Act.put _ (some 81) _ = _
        simp only [Act.put, yps, i64_w, i32_w]
        rfl
       refine yvp 13 82 (yvb 20 16383) HT_.out ?_
       refine yvp 14 83 (yvb 20 32767) HT_.out ?_
       refine yvp 15 84 (yvb 20 65535) HT_.out ?_
       refine yvp 16 85 (yvb 20 131071) HT_.out ?_
       refine yvp 17 86 (yvb 20 262143) HT_.out ?_
       refine yvp 18 87 (yvb 20 524287) HT_.out ?_
       refine yvp 19 2 (yvb 20 1048575) HT_.out ?_
       refine done_ (done_of HT_.out (by kernel_rfl)) ?_
       try go_wp2
       go_ret
       exact ⟨by first | rfl | (simp [errW_none, errW_some] <;> rfl) | (simp [*, errW_none, errW_some] <;> rfl), by repeat (first | (with_reducible first | exact HB.out | apply yea | apply yen | apply yed) | exact HB.out)⟩
/-- THE ONE PURE STATEMENT of laws_FnSquareNumber: yours. -/
def laws_FnSquareNumber.Pure : Prop := ∀ (l0 : List Int), l0.length ≤ maxLen → l0.length * 1 ≤ 140737488351232 → (∀ x ∈ l0, (Lit.int .u8 x).wf = true) → ∃ k, laws_FnSquareNumber.f k l0 = some true
theorem laws_FnSquareNumber.walk (P : laws_FnSquareNumber.Pure) (a0 : Option Addr) (len0 cap0 : Nat) (z0 : List Int) (w : World) (w0 : (a0 = none ∧ len0 = 0 ∧ cap0 = 0 ∧ z0 = []) ∨ ∃ x, a0 = some x ∧ len0 ≤ cap0 ∧ cap0 ≤ maxLen ∧ z0.length = cap0 ∧ (∀ i, i < z0.length → w.cell? (x.add i) = some (.int .u8 (z0.getD i 0))) ∧ ∀ n ∈ z0, (Lit.int .u8 n).wf = true) (y0 : len0 * 1 ≤ 140737488351232) :
  Calls Try.prog 4 #[.slice a0 len0 cap0] w fun e w' => e = .returned (.bool true) ∧ Below w.heap.size w w' := by
 obtain ⟨l0, rfl, hr0, hm0, hw0, hc0⟩ := ReadsInt.ofRowC w0
 obtain ⟨k, h⟩ := P l0 hm0 y0 hw0
 refine (laws_FnSquareNumber.calls k _ _ l0 true w (Kd.C_of_reads (d := (0 : Int)) (h1 := fun _ => rfl) hr0) hc0 h).mono ?_
 rintro e w' ⟨rfl, hd⟩
 exact ⟨rfl, hd⟩
end Go.Proofs.Ytmjbnghhfadapaa.P
