/- The machine's side: each Go function as a plain Lean function and the proof that the machine's call does what that function says; written by this session's own program over the kit's print. -/
import Derived.Test.YtmjbnghhfadapaaZP1
import Derived.Test.YtmjbnghhfadapaaZP2
namespace Go.Proofs.Ytmjbnghhfadapaa.P
open Go.RowKit Go.Proofs.YtmjbnghhfadapaaW.PrintWords Go.Proofs.YtmjbnghhfadapaaW.PrintLast Go.Proofs.YtmjbnghhfadapaaW.PrintMore
attribute [local go_sem] max2_int min2_int max_two min_two max_three min_three max_four min_four   -- for this text's walks alone
set_option linter.unusedVariables false
set_option linter.unusedSimpArgs false
mutual
def spec_l4Ways.l0 : Nat → List Int → List Int → Int → Int → Option (List Int)
 | 0, _, _, _, _ => none
 | k + 1, x2, x3, x8, x9 => if x9 < x8 then (if 0 ≤ x9 then (if x9 < (x3.length : Int) then (if x9 < (x2.length : Int) then (if 0 ≤ (rd x2 x9) then (spec_l4Ways.l0 k x2 (x3.set (x9 : Int).toNat (Go.bits .or .i64 (rd x3 x9) (shl .i64 1 (rd x2 x9)))) x8 (wrap64 (x9 + 1))) else (none)) else (none)) else (none)) else (none)) else (some x3)
def spec_l4Ways.l1 : Nat → List Int → List Int → List Int → List Int → Int → Int → List Int → Int → Option (List Int)
 | 0, _, _, _, _, _, _, _, _ => none
 | k + 1, x1, x2, x3, x10, x11, x356000, x356001, x356002 => if x11 < (x10.length : Int) then ((some (([] : List Int) : List Int)).bind fun y365 => (if y365.length + x2.length < 17592186044416 then ((some (y365 ++ x2 : List Int)).bind fun y368 => (if 0 ≤ x11 then ((some (([rd x10 x11] : List Int) : List Int)).bind fun y372 => (if y368.length + y372.length < 17592186044416 then ((spec_l4Ways.f k x356000 x356001 x356002 x1 (y368 ++ y372) x3).bind fun t378 => (spec_l4Ways.l1 k x1 x2 t378 x10 (wrap64 (x11 + 1)) x356000 x356001 x356002)) else (none))) else (none))) else (none))) else (some x3)
def spec_l4Ways.f : Nat → Int → List Int → Int → List Int → List Int → List Int → Option (List Int)
 | 0, _, _, _, _, _, _ => none
 | k + 1, a0_0, l0_1, a0_2, l1, l2, l3 => if (l2.length : Int) = (l0_1.length : Int) then ((spec_l4Holds.f k a0_0 l0_1 a0_2 l2).bind fun t356 => (if t356 = true then (spec_l4Ways.l0 k l2 l3 (l2.length : Int) 0) else (some l3))) else (if 0 ≤ (l2.length : Int) then (if (l2.length : Int) < (l0_1.length : Int) then (if 0 ≤ (rd l0_1 (l2.length : Int)) then (if (rd l0_1 (l2.length : Int)) < (l1.length : Int) then ((spec_MaskValues.f k (rd l1 (rd l0_1 (l2.length : Int)))).bind fun t362 => (spec_l4Ways.l1 k l1 l2 l3 t362 0 a0_0 l0_1 a0_2)) else (none)) else (none)) else (none)) else (none))
end
def spec_l4Ways.T7 : Bool × List (List Nat × List Nat) := (true, [([], []), ([], []), ([], []), ([], []), ([2, 3], [2, 3]), ([4], [4]), ([], []), ([], []), ([6, 7], [6, 7]), ([8], [8]), ([9], [9]), ([5, 10], [5, 10]), ([0, 1, 0, 1, 2, 3, 4, 5, 6, 7, 8, 9, 10, 11], [0, 1]), ([12, 11, 0, 1, 2, 3, 4, 5, 6, 7, 8, 9, 10, 11], [11, 12])])
def spec_l4Ways.B7 : List Nat := [0, 0, 0, 0, 12, 28, 0, 0, 192, 448, 960, 2044, 4095, 8191]
theorem spec_l4Ways.tab7 : rtab .any (opsOf Try.f98 7) = spec_l4Ways.T7 := by kernel_rfl
theorem spec_l4Ways.bits7 : waitsOk spec_l4Ways.T7.2 spec_l4Ways.B7 = true := by kernel_rfl
def spec_l4Ways.T12 : Bool × List (List Nat × List Nat) := (true, [([], []), ([], []), ([], []), ([], []), ([2, 3], [2, 3]), ([], []), ([], []), ([5, 6], [5, 6]), ([7], [7]), ([8], [8]), ([4, 9, 4], [4, 9]), ([], []), ([0, 1, 10, 11, 10], [0, 1, 10, 11])])
def spec_l4Ways.B12 : List Nat := [0, 0, 0, 0, 12, 0, 0, 96, 224, 480, 1020, 0, 4095]
theorem spec_l4Ways.tab12 : rtab .any (opsOf Try.f98 12) = spec_l4Ways.T12 := by kernel_rfl
theorem spec_l4Ways.bits12 : waitsOk spec_l4Ways.T12.2 spec_l4Ways.B12 = true := by kernel_rfl
set_option maxHeartbeats 8000000 in
set_option maxRecDepth 100000 in
theorem spec_l4Ways.calls (k : Nat) : ∀ (a0_0 : Int) (A0_1 : Option Addr) (c0_1 : Nat) (l0_1 : List Int) (a0_2 : Int) (A1 : Option Addr) (c1 : Nat) (l1 : List Int) (A2 : Option Addr) (c2 : Nat) (l2 : List Int) (P3_ : Nat → Prop) (u9000_ : Value) (l3 : List Int) (r : List Int) (w0 w : World) (hB : Below w0.heap.size w0 w) (hr0_1 : ∀ W_, Kept w W_ (fun k_ => P3_ k_) → Kd.C (Kd.int .i64) W_ A0_1 l0_1.length l0_1) (hc0_1 : l0_1.length ≤ c0_1) (hr1 : ∀ W_, Kept w W_ (fun k_ => P3_ k_) → Kd.C (Kd.int .i64) W_ A1 l1.length l1) (hc1 : l1.length ≤ c1) (hr2 : ∀ W_, Kept w W_ (fun k_ => P3_ k_) → Kd.C (Kd.int .i64) W_ A2 l2.length l2) (hc2 : l2.length ≤ c2) (ho3 : Kd.R (Kd.int .i64) 3 w w0.heap.size P3_ u9000_ l3) (h : spec_l4Ways.f k a0_0 l0_1 a0_2 l1 l2 l3 = some r),
  Calls Try.prog 98 #[.agg #[.int .i64 a0_0, .slice A0_1 l0_1.length c0_1, .int .i64 a0_2], .slice A1 l1.length c1, .slice A2 l2.length c2, u9000_] w fun e w' => e = .returned (.tuple #[]) ∧ Kd.R (Kd.int .i64) 3 w' w0.heap.size (fun k_ => (P3_ k_ ∨ w.heap.size ≤ k_)) u9000_ r ∧ Below w0.heap.size w0 w' ∧ Kept w w' (fun k_ => P3_ k_) := by
 induction k using Nat.strongRecOn with
 | _ k ih =>
 intro a0_0 A0_1 c0_1 l0_1 a0_2 A1 c1 l1 A2 c2 l2 P3_ u9000_ l3 r w0 w hB hr0_1 hc0_1 hr1 hc1 hr2 hc2 ho3 h
 cases k with
 | zero => exact absurd h (by simp [spec_l4Ways.f])
 | succ k =>
 simp only [spec_l4Ways.f] at h
 have hu73 := Try.underlying73
 have HR0_1 := yam hr0_1
 have HC0_1 := yam hc0_1
 clear hr0_1 hc0_1
 have HR1 := yam hr1
 have HC1 := yam hc1
 clear hr1 hc1
 have HR2 := yam hr2
 have HC2 := yam hc2
 clear hr2 hc2
 have HO3 := yam (show Kd.R (Kd.int .i64) 3 w w0.heap.size (fun k_ => (P3_ k_ ∨ w.heap.size ≤ k_)) u9000_ l3 from Kd.R_mono ho3 (fun k_ hk => (.inl hk)))
 have HK := yam (Kept.refl w (fun k_ => P3_ k_))
 have HW0 := yam hB.size
 have HB := yam hB
 clear hB
 have H : (if (l2.length : Int) = (l0_1.length : Int) then ((spec_l4Holds.f k a0_0 l0_1 a0_2 l2).bind fun t356 => (if t356 = true then (spec_l4Ways.l0 k l2 l3 (l2.length : Int) 0) else (some l3))) else (if 0 ≤ (l2.length : Int) then (if (l2.length : Int) < (l0_1.length : Int) then (if 0 ≤ (rd l0_1 (l2.length : Int)) then (if (rd l0_1 (l2.length : Int)) < (l1.length : Int) then ((spec_MaskValues.f k (rd l1 (rd l0_1 (l2.length : Int)))).bind fun t362 => (spec_l4Ways.l1 k l1 l2 l3 t362 0 a0_0 l0_1 a0_2)) else (none)) else (none)) else (none)) else (none))) = some r := h
 clear h
 by_cases c5 : (l2.length : Int) = (l0_1.length : Int)
 ·rw [if_pos c5] at H
  have c5b0 : ((l2.length : Int) == (l0_1.length : Int)) = true := beq_iff_eq.mpr c5
  have c5b1 : ((l2.length : Int) != (l0_1.length : Int)) = false := bne_eq_false_iff_eq.mpr c5
  have c5b2 : (l2.length == l0_1.length) = true := by first | simpa using c5 | (simp at c5 ⊢; omega)
  clear c5
  replace H := Option.bind_eq_some_iff.mp H
  obtain ⟨t356, A60, H⟩ := H
  try dsimp only at H
  have A6 := yam A60
  clear A60
  by_cases c7 : t356 = true
  rotate_left
  ·replace c7 := Bool.eq_false_iff.mpr c7
   subst c7
   have H1 : (some l3) = some r := by rw [if_neg (show ¬ (false = true) by decide)] at H; exact H
   clear H
   have H := H1
   clear H1
   obtain rfl := Option.some.inj H
   go_enter Try.func98, Try.ntmps98
   go_wp2_with (first | (refine ybe 4 #[.int .i64 a0_0, .slice A0_1 l0_1.length c0_1, .int .i64 a0_2] 73 ?_; intro gb355 hg w21 hbox hb; have n0_ := yam (Kd.R_below (Kd.Yz HO3.out) hb); have n1_ := yam (Kept.below (S := (fun k_ => P3_ k_)) (by repeat (first | (with_reducible first | exact HK.out | apply Kept.alloc | apply Kept.drewN | apply Kept.drew) | exact HK.out)) hb); have n2_ := yam (below_step (yez HB.out) hb); have n3_ := yam (hbox); have n4_ := yam ((by rw [hg]; exact (by first | exact HK.out.1 | exact (show Kept w _ (fun k_ => P3_ k_) from by repeat (first | (with_reducible first | exact HK.out | apply Kept.alloc | apply Kept.drewN | apply Kept.drew) | exact HK.out)).1) : w.heap.size ≤ gb355)); have n5_ := yam ((by rw [hg]; exact (below_size (yez HB.out)) : w0.heap.size ≤ gb355)); clear HO3; clear HK; clear HB; have HO3 := n0_; have HK := n1_; have HB := n2_; have BK355 := n3_; have GW355 := n4_; have GE355 := n5_; clear n0_ n1_ n2_ n3_ n4_ n5_; clear hb hbox hg; obtain ⟨hcz22_0, hcz22_1, hcz22_2, hfz22_0, hfz22_1, hfz22_2⟩ := ybc BK355.out) | (refine goesL_ (some 21) rfl rfl Try.func99 (by kernel_rfl) rfl #[.agg #[.int .i64 a0_0, .slice A0_1 l0_1.length c0_1, .int .i64 a0_2], .slice A2 l2.length c2] rfl ymd ?_; (with_reducible refine (spec_l4Holds.calls k a0_0 _ _ l0_1 a0_2 _ _ l2 false _ ?side1 ?side2 ?side3 ?side4 A6.out).mono ?_); (case side1 => exact Kd.C_kept_now HR0_1.out (by repeat (first | (with_reducible first | exact HK.out | apply Kept.alloc | apply Kept.drewN | apply Kept.drew | refine Kept.setCell ?_ (.inr GW355.out) _) | exact HK.out))); (case side2 => exact HC0_1.out); (case side3 => exact Kd.C_kept_now HR2.out (by repeat (first | (with_reducible first | exact HK.out | apply Kept.alloc | apply Kept.drewN | apply Kept.drew | refine Kept.setCell ?_ (.inr GW355.out) _) | exact HK.out))); (case side4 => exact HC2.out); rintro e w23 ⟨rfl, hb⟩; refine ⟨_, rfl, ?_⟩; have n0_ := yam (Kd.R_below (Kd.Yz HO3.out) hb); have n1_ := yam (blk_below (g := gb355) (o := .cells #[.int .i64 a0_0, .slice A0_1 l0_1.length c0_1, .int .i64 a0_2] 73 (0, 0)) (ybz BK355.out) hb); have n2_ := yam (Kept.below (S := (fun k_ => P3_ k_)) (by repeat (first | (with_reducible first | exact HK.out | apply Kept.alloc | apply Kept.drewN | apply Kept.drew | refine Kept.setCell ?_ (.inr GW355.out) _) | exact HK.out)) hb); have n3_ := yam (below_step yhb hb); clear HO3; clear BK355; clear HK; clear HB; have HO3 := n0_; have BK355 := n1_; have HK := n2_; have HB := n3_; clear n0_ n1_ n2_ n3_; (try clear hb); (try clear hb2); (try clear hk); (try clear hi)))
   first | go_end0 | ((try simp only [Exit.inBlock, Exit.then]); refine bodyPost_ret (results_none rfl _ _ _) rfl ?_)
   exact ⟨yer, yka HO3.out, yhb, by repeat (first | (with_reducible first | exact HK.out | apply Kept.alloc | apply Kept.drewN | apply Kept.drew | refine Kept.setCell ?_ (.inr GW355.out) _) | exact HK.out)⟩
  subst c7
  have H1 : (spec_l4Ways.l0 k l2 l3 (l2.length : Int) 0) = some r := by rw [if_pos rfl] at H; exact H
  clear H
  have H := H1
  clear H1
  have H' := yam H
  clear H
  go_enter Try.func98, Try.ntmps98
  go_wp2_with (first | (refine ybe 4 #[.int .i64 a0_0, .slice A0_1 l0_1.length c0_1, .int .i64 a0_2] 73 ?_; intro gb355 hg w8 hbox hb; have n0_ := yam (Kd.R_below (Kd.Yz HO3.out) hb); have n1_ := yam (Kept.below (S := (fun k_ => P3_ k_)) (by repeat (first | (with_reducible first | exact HK.out | apply Kept.alloc | apply Kept.drewN | apply Kept.drew) | exact HK.out)) hb); have n2_ := yam (below_step (yez HB.out) hb); have n3_ := yam (hbox); have n4_ := yam ((by rw [hg]; exact (by first | exact HK.out.1 | exact (show Kept w _ (fun k_ => P3_ k_) from by repeat (first | (with_reducible first | exact HK.out | apply Kept.alloc | apply Kept.drewN | apply Kept.drew) | exact HK.out)).1) : w.heap.size ≤ gb355)); have n5_ := yam ((by rw [hg]; exact (below_size (yez HB.out)) : w0.heap.size ≤ gb355)); clear HO3; clear HK; clear HB; have HO3 := n0_; have HK := n1_; have HB := n2_; have BK355 := n3_; have GW355 := n4_; have GE355 := n5_; clear n0_ n1_ n2_ n3_ n4_ n5_; clear hb hbox hg; obtain ⟨hcz9_0, hcz9_1, hcz9_2, hfz9_0, hfz9_1, hfz9_2⟩ := ybc BK355.out) | (refine goesL_ (some 21) rfl rfl Try.func99 (by kernel_rfl) rfl #[.agg #[.int .i64 a0_0, .slice A0_1 l0_1.length c0_1, .int .i64 a0_2], .slice A2 l2.length c2] rfl ymd ?_; (with_reducible refine (spec_l4Holds.calls k a0_0 _ _ l0_1 a0_2 _ _ l2 true _ ?side1 ?side2 ?side3 ?side4 A6.out).mono ?_); (case side1 => exact Kd.C_kept_now HR0_1.out (by repeat (first | (with_reducible first | exact HK.out | apply Kept.alloc | apply Kept.drewN | apply Kept.drew | refine Kept.setCell ?_ (.inr GW355.out) _) | exact HK.out))); (case side2 => exact HC0_1.out); (case side3 => exact Kd.C_kept_now HR2.out (by repeat (first | (with_reducible first | exact HK.out | apply Kept.alloc | apply Kept.drewN | apply Kept.drew | refine Kept.setCell ?_ (.inr GW355.out) _) | exact HK.out))); (case side4 => exact HC2.out); rintro e w10 ⟨rfl, hb⟩; refine ⟨_, rfl, ?_⟩; have n0_ := yam (Kd.R_below (Kd.Yz HO3.out) hb); have n1_ := yam (blk_below (g := gb355) (o := .cells #[.int .i64 a0_0, .slice A0_1 l0_1.length c0_1, .int .i64 a0_2] 73 (0, 0)) (ybz BK355.out) hb); have n2_ := yam (Kept.below (S := (fun k_ => P3_ k_)) (by repeat (first | (with_reducible first | exact HK.out | apply Kept.alloc | apply Kept.drewN | apply Kept.drew | refine Kept.setCell ?_ (.inr GW355.out) _) | exact HK.out)) hb); have n3_ := yam (below_step yhb hb); clear HO3; clear BK355; clear HK; clear HB; have HO3 := n0_; have BK355 := n1_; have HK := n2_; have HB := n3_; clear n0_ n1_ n2_ n3_; (try clear hb); (try clear hb2); (try clear hk); (try clear hi)))
  go_loopg [9] k (fun kq v9 w' => ∃ (x3_1 : List Int) (x9_1 : Int), v9 = .int .i64 x9_1 ∧ Aside0 (spec_l4Ways.l0 kq l2 x3_1 (l2.length : Int) x9_1 = some r) ∧ Aside0 (kq ≤ k) ∧ Aside0 (Kd.R (Kd.int .i64) 3 w' w0.heap.size (fun k_ => (P3_ k_ ∨ w.heap.size ≤ k_)) u9000_ x3_1) ∧ Aside0 (w'.heap[gb355]? = some (.cells #[.int .i64 a0_0, (.slice A0_1 l0_1.length c0_1), .int .i64 a0_2] 73 (0, 0))) ∧ Aside0 (Kept w w' (fun k_ => P3_ k_)) ∧ Aside0 (Below w0.heap.size w0 w'))
  case atStart => exact ⟨(l3), (0), yeq, H', ⟨Nat.le_refl _⟩, ⟨yka HO3.out⟩, ⟨by (with_reducible repeat (first | refine ybn ?_ _ | refine ybd ?_ | refine yba ?_ _)); exact BK355.out⟩, ⟨by repeat (first | (with_reducible first | exact HK.out | apply Kept.alloc | apply Kept.drewN | apply Kept.drew | refine Kept.setCell ?_ (.inr GW355.out) _) | exact HK.out)⟩, ⟨yhb⟩⟩
  case round =>
   clear H'
   try clear c1
   try clear c2
   try clear p2
   try clear c5
   try clear c5b0
   try clear c5b1
   try clear c5b2
   try clear c7
   try clear c9
   try clear hcz9_0
   try clear hcz9_1
   try clear hcz9_2
   try clear hfz9_0
   try clear hfz9_1
   try clear hfz9_2
   obtain ⟨x3_1, x9_1, rfl, HA, HK1, HO_3, BK355, HK, HB⟩ := hrel
   cases gk with
   | zero => exact absurd HA.out (by simp [spec_l4Ways.l0])
   | succ k1 =>
    have H := HA.out
    clear HA
    simp only [spec_l4Ways.l0] at H
    by_cases c11 : x9_1 < (l2.length : Int)
    rotate_left
    ·rw [if_neg c11] at H
     have c11b0 : decide (x9_1 < (l2.length : Int)) = false := decide_eq_false c11
     clear c11
     obtain rfl := Option.some.inj H
     go_wp2
     first | go_end0 | ((try simp only [Exit.inBlock, Exit.then]); refine bodyPost_ret (results_none rfl _ _ _) rfl ?_)
     exact ⟨yer, yka HO_3.out, yhb, by repeat (first | (with_reducible first | exact HK.out | apply Kept.alloc | apply Kept.drewN | apply Kept.drew | refine Kept.setCell ?_ (.inr GW355.out) _) | exact HK.out)⟩
    rw [if_pos c11] at H
    have c11b0 : decide (x9_1 < (l2.length : Int)) = true := decide_eq_true c11
    clear c11
    replace H := yif H
    obtain ⟨c12b0, H⟩ := H
    replace H := yif H
    obtain ⟨c13b0, H⟩ := H
    replace H := yif H
    obtain ⟨c14b0, H⟩ := H
    replace H := yig H
    obtain ⟨c15, H⟩ := H
    have c15b0 := eq_true c15
    have c15b1 : decide (0 ≤ (rd l2 x9_1)) = true := decide_eq_true c15
    clear c15
    obtain ⟨ji16, hji16⟩ : ∃ j_ : Int, (shl .i64 1 (rd l2 x9_1)) = j_ := ⟨_, rfl⟩
    replace H : (spec_l4Ways.l0 k1 l2 (x3_1.set (x9_1 : Int).toNat (Go.bits .or .i64 (rd x3_1 x9_1) (ji16))) (l2.length : Int) (wrap64 (x9_1 + 1))) = some r := by first | (rw [hji16] at H; exact H) | (simp only [hji16] at H ⊢; exact H)
    have hji16_ : (IntKind.i64.wrap (1 * 2 ^ min (rd l2 x9_1).toNat 64)) = ji16 := hji16
    have hji16z : (rd l2 x9_1) ≤ 64 → (IntKind.i64.wrap (1 * 2 ^ (rd l2 x9_1).toNat)) = ji16 := shl_small hji16
    have hji16u : (IntKind.i64.wrap (2 ^ min (rd l2 x9_1).toNat 64)) = ji16 := by have h_ := hji16_; rw [Int.one_mul] at h_; exact h_
    have hji16v : (rd l2 x9_1) ≤ 64 → (IntKind.i64.wrap (2 ^ (rd l2 x9_1).toNat)) = ji16 := fun hle_ => by have h_ := hji16z hle_; rw [Int.one_mul] at h_; exact h_
    have hji16y : (wrap64 (1 * 2 ^ min (rd l2 x9_1).toNat 64)) = ji16 := (i64_w _).symm.trans hji16_
    have hji16x : (rd l2 x9_1) ≤ 64 → (wrap64 (1 * 2 ^ (rd l2 x9_1).toNat)) = ji16 := fun h_ => (i64_w _).symm.trans (hji16z h_)
    obtain ⟨y359, hy359⟩ : ∃ y_ : List Int, y_ = (x3_1.set (x9_1 : Int).toNat (Go.bits .or .i64 (rd x3_1 x9_1) (ji16))) := ⟨_, rfl⟩
    replace H : (spec_l4Ways.l0 k1 l2 y359 (l2.length : Int) (wrap64 (x9_1 + 1))) = some r := by first | (rw [hy359]; with_reducible exact H) | (have H2_ := (Option.bind_some _ _).symm.trans H; rw [hy359]; with_reducible exact H2_) | (have H2_ := (Option.bind_some _ _).symm.trans H; with_reducible exact H2_) | with_reducible exact H | (rw [hy359]; exact H) | exact H
    have Ny359 := yam hy359
    clear hy359
    have H' := yam H
    clear H
    try go_wp2
    have n0_ := yam (Kd.Yd HO_3.out)
    have n1_ := yam (ybd BK355.out)
    have n2_ := yam (Kept.drew HK.out)
    have n3_ := yam (yed HB.out)
    clear HO_3
    clear BK355
    clear HK
    clear HB
    have HO_3 := n0_
    have BK355 := n1_
    have HK := n2_
    have HB := n3_
    clear n0_ n1_ n2_ n3_
    obtain ⟨Ao19, co19, eo19⟩ := Kd.R_slice HO_3.out
    (first | subst eo19 | (injection eo19 with f1_ f2_ f3_; have f4_ := f1_.symm; have f5_ := f3_.symm; clear f1_ f2_ f3_; subst f4_; subst f5_))
    have p357 : 0 ≤ (x9_1 : Int) := ydt
    have q357 : x9_1 < (x3_1.length : Int) := ydt
    obtain ⟨ad357, e357, hx357_0⟩ := Kd.at_int (Kd.Yr HO_3.out).2.2 x9_1 p357 q357
    cases e357
    replace p357 := eq_true p357
    replace q357 := eq_true q357
    have p358 : 0 ≤ (x9_1 : Int) := ydt
    have q358 : x9_1 < (l2.length : Int) := ydt
    obtain ⟨ad358, e358, hx358_0⟩ := Kd.at_int (Kd.C_kept_now HR2.out HK.out) x9_1 p358 q358
    have hw358_0 := hx358_0
    cases e358
    replace p358 := eq_true p358
    replace q358 := eq_true q358
    have p17 : 0 ≤ (x9_1 : Int) := ydt
    have q17 : (x9_1 : Int) < ((x3_1.length : Int) : Int) := ydt
    obtain ⟨go17, co17, eo17, gb17, gl17, cl17, HG17⟩ := Kd.R_form HO_3.out (by omega)
    (first | cases eo17 | (injection eo17 with ea_ en_ ec_; (first | subst ea_ | (injection ea_ with ea_; subst ea_)); subst ec_; clear en_))
    have GB17 := yam gb17
    have GG17 := yam HG17
    clear gb17 gl17 HG17
    have HMgo17 := yam (show (P3_ go17 ∨ w.heap.size ≤ go17) from (HO_3.out.1 _ rfl))
    (first | simp only [add_plain] at hx357_0 | skip)
    obtain ⟨hx17_0, hf17_0⟩ := Kd.R_celln 0 HO_3.out (x9_1 : Int) p17 q17
    replace p17 := eq_true p17
    replace q17 := eq_true q17
    have HP20 := Kd.R_putn HO_3.out (x9_1 : Int) (Go.bits .or .i64 (rd x3_1 x9_1) (ji16))
    rw [← Ny359.out] at HP20
    have HQ20 := yam HP20
    clear HP20
    refine start_ (n := 14) (S := fun w' => w'.cell? ⟨go17, (x9_1).toNat, none⟩ = some (.int .i64 (rd x3_1 x9_1)) ∧ w'.cell? (ad358.add (x9_1).toNat) = some (.int .i64 (rd l2 x9_1))) (ds := [13]) #[false, false, false, false, false, false, false, false, false, false, false, false, false, false] (by kernel_rfl) rfl rfl ⟨hx357_0, (Kd.foot_int (HR2.out _ (by repeat (first | exact HK.out | apply Kept.alloc | apply Kept.drewN | apply Kept.drew | refine Kept.setCell ?_ HMgo17.out _))) x9_1 (of_eq_true p358) (of_eq_true q358))⟩ (fun hHeld => ?_); refine with_tabW spec_l4Ways.tab7 spec_l4Ways.bits7 (fun HT_ HW_ => ?_)
    generalize wr.drew = w18 at HO_3 BK355 HK HB GG17 HQ20 hf17_0 hx17_0 hx357_0 hx358_0 hHeld ⊢
    refine yvp 0 27 (yvb 14 1) HT_.out ?_
    refine yvp 1 28 (yvb 14 3) HT_.out ?_
    refine yvp 2 29 (yvb 14 7) HT_.out ?_
    refine yvp 3 30 (yvb 14 15) HT_.out ?_
    refine yvp 4 31 (yvb 14 31) HT_.out ?_
    refine yvp 6 33 (yvb 14 95) HT_.out ?_
    refine yvp 7 34 (yvb 14 223) HT_.out ?_
    refine yvp 8 35 (yvb 14 479) HT_.out ?_
    refine yvt 5 32 (yvb 14 511) HT_.out HW_.out hHeld ?_
    refine yvt 9 36 (yvb 14 1023) HT_.out HW_.out hHeld ?_
    refine yvp 10 37 (yvb 14 2047) HT_.out ?_
    refine yvp 11 38 (yvb 14 4095) HT_.out ?_
    refine yvp 12 39 (yvb 14 8191) HT_.out ?_
    refine last_ (i := 13) (N := none) #[true, true, true, true, true, true, true, true, true, true, true, true, true, true] rfl rfl (one_of HT_.out (by kernel_rfl)) (by decide) (fun K hK => ?_)
    refine skip_ (w1 := ?_) (by rfl) rfl ?_ ?_
    rotate_left
    ·go_simp
     rfl
    refine hK.out _ _ ?_
    clear hK K
    refine done_ (done_of HT_.out (by kernel_rfl)) ?_
    try go_wp2
    go_roundg k1
    case measure => have := HK1.out; omega
    case rel => exact ⟨(y359), (wrap64 (x9_1 + 1)), yeq, H', ⟨by have := HK1.out; omega⟩, ⟨yka HQ20.out⟩, ⟨by (with_reducible repeat (first | refine ybn ?_ _ | refine ybd ?_ | refine yba ?_ _)); refine blk_far ?_ (by have h_ := Kd.R_ne HO_3.out BK355.out (by decide); intro e_; exact h_ (by rw [e_]; rfl)) _; (with_reducible repeat (first | refine ybn ?_ _ | refine ybd ?_ | refine yba ?_ _)); exact BK355.out⟩, ⟨by repeat (first | (with_reducible first | exact HK.out | apply Kept.alloc | apply Kept.drewN | apply Kept.drew | refine Kept.setCell ?_ HMgo17.out _ | refine Kept.setCell ?_ (.inr GW355.out) _) | exact HK.out)⟩, ⟨yhb⟩⟩
 rw [if_neg c5] at H
 have c5b0 : ((l2.length : Int) == (l0_1.length : Int)) = false := beq_eq_false_iff_ne.mpr c5
 have c5b1 : ((l2.length : Int) != (l0_1.length : Int)) = true := bne_iff_ne.mpr c5
 have c5b2 : (l2.length == l0_1.length) = false := by first | simpa using c5 | (simp at c5 ⊢; omega)
 by_cases c24 : 0 ≤ (l2.length : Int)
 rotate_left
 ·rw [if_neg c24] at H
  exact absurd H (by simp)

 rw [if_pos c24] at H
 have c24b0 : decide (0 ≤ (l2.length : Int)) = true := decide_eq_true c24
 have c24b1 : decide (0 ≤ l2.length) = true := decide_eq_true (by omega)
 clear c24
 replace H := yig H
 obtain ⟨c25, H⟩ := H
 have c25b0 : decide ((l2.length : Int) < (l0_1.length : Int)) = true := decide_eq_true c25
 have c25b1 : decide (l2.length < l0_1.length) = true := decide_eq_true (Int.ofNat_lt.mp c25)
 clear c25
 replace H := yif H
 obtain ⟨c26b0, H⟩ := H
 replace H := yif H
 obtain ⟨c27b0, H⟩ := H
 replace H := Option.bind_eq_some_iff.mp H
 obtain ⟨t362, A280, H⟩ := H
 try dsimp only at H
 have A28 := yam A280
 clear A280
 have H' := yam H
 clear H
 go_enter Try.func98, Try.ntmps98
 go_wp2_with (first | (refine ybe 4 #[.int .i64 a0_0, .slice A0_1 l0_1.length c0_1, .int .i64 a0_2] 73 ?_; intro gb355 hg w29 hbox hb; have n0_ := yam (Kd.R_below (Kd.Yz HO3.out) hb); have n1_ := yam (Kept.below (S := (fun k_ => P3_ k_)) (by repeat (first | (with_reducible first | exact HK.out | apply Kept.alloc | apply Kept.drewN | apply Kept.drew) | exact HK.out)) hb); have n2_ := yam (below_step (yez HB.out) hb); have n3_ := yam (hbox); have n4_ := yam ((by rw [hg]; exact (by first | exact HK.out.1 | exact (show Kept w _ (fun k_ => P3_ k_) from by repeat (first | (with_reducible first | exact HK.out | apply Kept.alloc | apply Kept.drewN | apply Kept.drew) | exact HK.out)).1) : w.heap.size ≤ gb355)); have n5_ := yam ((by rw [hg]; exact (below_size (yez HB.out)) : w0.heap.size ≤ gb355)); clear HO3; clear HK; clear HB; have HO3 := n0_; have HK := n1_; have HB := n2_; have BK355 := n3_; have GW355 := n4_; have GE355 := n5_; clear n0_ n1_ n2_ n3_ n4_ n5_; clear hb hbox hg; obtain ⟨hcz30_0, hcz30_1, hcz30_2, hfz30_0, hfz30_1, hfz30_2⟩ := ybc BK355.out; have p360 : 0 ≤ ((l2.length : Int) : Int) := ydt; have q360 : (l2.length : Int) < (l0_1.length : Int) := ydt; obtain ⟨ad360, e360, hx360_0⟩ := Kd.at_int (Kd.C_kept_now HR0_1.out HK.out) (l2.length : Int) p360 q360; cases e360; (try simp only [Go.IntWalk.toNatUp] at hx360_0); replace p360 := eq_true p360; replace q360 := eq_true q360; have p361 : 0 ≤ ((rd l0_1 (l2.length : Int)) : Int) := ydt; have q361 : (rd l0_1 (l2.length : Int)) < (l1.length : Int) := ydt; obtain ⟨ad361, e361, hx361_0⟩ := Kd.at_int (Kd.C_kept_now HR1.out HK.out) (rd l0_1 (l2.length : Int)) p361 q361; cases e361; (try simp only [Go.IntWalk.toNatUp] at hx361_0); replace p361 := eq_true p361; replace q361 := eq_true q361) | (refine goesL_ (some 48) rfl rfl Try.func100 (by kernel_rfl) rfl #[.int .i64 (rd l1 (rd l0_1 (l2.length : Int)))] rfl ymd ?_; (with_reducible refine (spec_MaskValues.calls k (rd l1 (rd l0_1 (l2.length : Int))) t362 _ A28.out).mono ?_); rintro e w31 ⟨v363, rfl, ho0, hb⟩; refine ⟨_, rfl, ?_⟩; have n0_ := yam (Kd.Ye (Kd.Yz HO3.out) (Kd.Yb ho0) hb); have n1_ := yam (Kd.R_lower (Kd.Yw (Kd.R_newM (M := fun k_ => (P3_ k_ ∨ w.heap.size ≤ k_)) ho0 (by first | exact HK.out.1 | exact (show Kept w _ (fun k_ => P3_ k_) from by repeat (first | (with_reducible first | exact HK.out | apply Kept.alloc | apply Kept.drewN | apply Kept.drew | refine Kept.setCell ?_ (.inr GW355.out) _) | exact HK.out)).1) (fun k_ h_ => .inr h_)) (Kd.R_lt (Kd.Yz HO3.out))) (below_size yhb)); have n2_ := yam (blk_below (g := gb355) (o := .cells #[.int .i64 a0_0, .slice (some ad360) l0_1.length c0_1, .int .i64 a0_2] 73 (0, 0)) (ybz BK355.out) hb); have n3_ := yam (Kept.below (S := (fun k_ => P3_ k_)) (by repeat (first | (with_reducible first | exact HK.out | apply Kept.alloc | apply Kept.drewN | apply Kept.drew | refine Kept.setCell ?_ (.inr GW355.out) _) | exact HK.out)) hb); have n4_ := yam (below_step yhb hb); clear HO3; clear BK355; clear HK; clear HB; have HO3 := n0_; have HO364 := n1_; have BK355 := n2_; have HK := n3_; have HB := n4_; clear n0_ n1_ n2_ n3_ n4_; (try clear hb); (try clear hb2); (try clear hk); (try clear hi); (try clear ho0)))
 go_loopg [11] k (fun kq v11 w' => ∃ (x3_1 : List Int) (x11_1 : Int), v11 = .int .i64 x11_1 ∧ Aside0 (spec_l4Ways.l1 kq l1 l2 x3_1 t362 x11_1 a0_0 l0_1 a0_2 = some r) ∧ Aside0 (kq ≤ k) ∧ Aside0 (Kd.R (Kd.int .i64) 3 w' w0.heap.size (fun k_ => (P3_ k_ ∨ w.heap.size ≤ k_) ∧ some k_ ≠ (v363 : Value).ownBlock) u9000_ x3_1) ∧ Aside0 (Kd.R (Kd.int .i64) 3 w' w0.heap.size (fun k_ => (P3_ k_ ∨ w.heap.size ≤ k_) ∧ some k_ ≠ (u9000_ : Value).ownBlock) v363 t362) ∧ Aside0 (w'.heap[gb355]? = some (.cells #[.int .i64 a0_0, (.slice (some ad360) l0_1.length c0_1), .int .i64 a0_2] 73 (0, 0))) ∧ Aside0 (Kept w w' (fun k_ => P3_ k_)) ∧ Aside0 (Below w0.heap.size w0 w'))
 case atStart => exact ⟨(l3), (0), yeq, H', ⟨Nat.le_refl _⟩, ⟨yka HO3.out⟩, ⟨by (with_reducible repeat (first | apply Kd.Ya | apply Kd.Yn | apply Kd.Yd)); exact Kd.R_mono HO364.out (fun _ hk => ⟨hk.1.1, hk.2⟩)⟩, ⟨by (with_reducible repeat (first | refine ybn ?_ _ | refine ybd ?_ | refine yba ?_ _)); exact BK355.out⟩, ⟨by repeat (first | (with_reducible first | exact HK.out | apply Kept.alloc | apply Kept.drewN | apply Kept.drew | refine Kept.setCell ?_ (.inr GW355.out) _) | exact HK.out)⟩, ⟨yhb⟩⟩
 case round =>
  clear H'
  try clear c1
  try clear p1
  try clear q1
  try clear hx1
  try clear c2
  try clear p2
  try clear p3
  try clear q3
  try clear hx3
  try clear c5
  try clear c5b0
  try clear c5b1
  try clear c5b2
  try clear p6
  try clear c7
  try clear c9
  try clear c10
  try clear c11
  try clear c11b0
  try clear c12
  try clear c12b0
  try clear c13
  try clear c13b0
  try clear c14
  try clear c14b0
  try clear c15
  try clear c15b0
  try clear c15b1
  try clear p17
  try clear q17
  try clear hx17
  try clear hf17
  try clear c24
  try clear c24b0
  try clear c24b1
  try clear c25
  try clear c25b0
  try clear c25b1
  try clear c26
  try clear c26b0
  try clear c27
  try clear c27b0
  try clear hcz22_0
  try clear hcz22_1
  try clear hcz22_2
  try clear hcz30_0
  try clear hcz30_1
  try clear hcz30_2
  try clear hcz9_0
  try clear hcz9_1
  try clear hcz9_2
  try clear hfz22_0
  try clear hfz22_1
  try clear hfz22_2
  try clear hfz30_0
  try clear hfz30_1
  try clear hfz30_2
  try clear hfz9_0
  try clear hfz9_1
  try clear hfz9_2
  try clear hx17_0
  try clear hx357_0
  try clear hx358_0
  try clear hx360_0
  try clear hx361_0
  try clear p17
  try clear p2
  try clear p357
  try clear p358
  try clear p360
  try clear p361
  try clear q17
  try clear q357
  try clear q358
  try clear q360
  try clear q361
  obtain ⟨x3_1, x11_1, rfl, HA, HK1, HO_3, HO_10, BK355, HK, HB⟩ := hrel
  cases gk with
  | zero => exact absurd HA.out (by simp [spec_l4Ways.l1])
  | succ k1 =>
   have H := HA.out
   clear HA
   simp only [spec_l4Ways.l1] at H
   by_cases c32 : x11_1 < (t362.length : Int)
   rotate_left
   ·rw [if_neg c32] at H
    have c32b0 : decide (x11_1 < (t362.length : Int)) = false := decide_eq_false c32
    clear c32
    obtain rfl := Option.some.inj H
    obtain ⟨Ao50, co50, eo50⟩ := Kd.R_slice HO_10.out
    subst eo50
    go_wp2
    first | go_end0 | ((try simp only [Exit.inBlock, Exit.then]); refine bodyPost_ret (results_none rfl _ _ _) rfl ?_)
    exact ⟨yer, by (with_reducible repeat (first | apply Kd.Ya | apply Kd.Yn | apply Kd.Yd)); exact Kd.R_mono HO_3.out (fun _ hk => hk.1), yhb, by repeat (first | (with_reducible first | exact HK.out | apply Kept.alloc | apply Kept.drewN | apply Kept.drew | refine Kept.setCell ?_ (.inr GW355.out) _) | exact HK.out)⟩
   rw [if_pos c32] at H
   have c32b0 : decide (x11_1 < (t362.length : Int)) = true := decide_eq_true c32
   clear c32
   obtain ⟨y365, hy365⟩ : ∃ y_ : List Int, y_ = (([] : List Int)) := ⟨_, rfl⟩
   replace H : (if y365.length + l2.length < 17592186044416 then ((some (y365 ++ l2 : List Int)).bind fun y368 => (if 0 ≤ x11_1 then ((some (([rd t362 x11_1] : List Int) : List Int)).bind fun y372 => (if y368.length + y372.length < 17592186044416 then ((spec_l4Ways.f k1 a0_0 l0_1 a0_2 l1 (y368 ++ y372) x3_1).bind fun t378 => (spec_l4Ways.l1 k1 l1 l2 t378 t362 (wrap64 (x11_1 + 1)) a0_0 l0_1 a0_2)) else (none))) else (none))) else (none)) = some r := by first | (rw [hy365]; with_reducible exact H) | (have H2_ := (Option.bind_some _ _).symm.trans H; rw [hy365]; with_reducible exact H2_) | (have H2_ := (Option.bind_some _ _).symm.trans H; with_reducible exact H2_) | with_reducible exact H | (rw [hy365]; exact H) | exact H
   have Ny365 := yam hy365
   clear hy365
   replace H := yig H
   obtain ⟨c33, H⟩ := H
   have LMc33 := yam c33
   clear c33
   obtain ⟨y368, hy368⟩ : ∃ y_ : List Int, y_ = (y365 ++ l2) := ⟨_, rfl⟩
   replace H : (if 0 ≤ x11_1 then ((some (([rd t362 x11_1] : List Int) : List Int)).bind fun y372 => (if y368.length + y372.length < 17592186044416 then ((spec_l4Ways.f k1 a0_0 l0_1 a0_2 l1 (y368 ++ y372) x3_1).bind fun t378 => (spec_l4Ways.l1 k1 l1 l2 t378 t362 (wrap64 (x11_1 + 1)) a0_0 l0_1 a0_2)) else (none))) else (none)) = some r := by first | (rw [hy368]; with_reducible exact H) | (have H2_ := (Option.bind_some _ _).symm.trans H; rw [hy368]; with_reducible exact H2_) | (have H2_ := (Option.bind_some _ _).symm.trans H; with_reducible exact H2_) | with_reducible exact H | (rw [hy368]; exact H) | exact H
   have Ny368 := yam hy368
   clear hy368
   replace H := yif H
   obtain ⟨c34b0, H⟩ := H
   obtain ⟨y372, hy372⟩ : ∃ y_ : List Int, y_ = (([rd t362 x11_1] : List Int)) := ⟨_, rfl⟩
   replace H : (if y368.length + y372.length < 17592186044416 then ((spec_l4Ways.f k1 a0_0 l0_1 a0_2 l1 (y368 ++ y372) x3_1).bind fun t378 => (spec_l4Ways.l1 k1 l1 l2 t378 t362 (wrap64 (x11_1 + 1)) a0_0 l0_1 a0_2)) else (none)) = some r := by first | (rw [hy372]; with_reducible exact H) | (have H2_ := (Option.bind_some _ _).symm.trans H; rw [hy372]; with_reducible exact H2_) | (have H2_ := (Option.bind_some _ _).symm.trans H; with_reducible exact H2_) | with_reducible exact H | (rw [hy372]; exact H) | exact H
   have Ny372 := yam hy372
   clear hy372
   replace H := yig H
   obtain ⟨c35, H⟩ := H
   have LMc35 := yam c35
   clear c35
   obtain ⟨y375, hy375⟩ : ∃ y_ : List Int, y_ = (y368 ++ y372) := ⟨_, rfl⟩
   replace H : ((spec_l4Ways.f k1 a0_0 l0_1 a0_2 l1 y375 x3_1).bind fun t378 => (spec_l4Ways.l1 k1 l1 l2 t378 t362 (wrap64 (x11_1 + 1)) a0_0 l0_1 a0_2)) = some r := by first | (rw [hy375]; with_reducible exact H) | (have H2_ := (Option.bind_some _ _).symm.trans H; rw [hy375]; with_reducible exact H2_) | (have H2_ := (Option.bind_some _ _).symm.trans H; with_reducible exact H2_) | with_reducible exact H | (rw [hy375]; exact H) | exact H
   have Ny375 := yam hy375
   clear hy375
   replace H := Option.bind_eq_some_iff.mp H
   obtain ⟨t378, A360, H⟩ := H
   try dsimp only at H
   have A36 := yam A360
   clear A360
   have H' := yam H
   clear H
   obtain ⟨Ao37, co37, eo37⟩ := Kd.R_slice HO_10.out
   subst eo37
   obtain ⟨Ao38, co38, eo38⟩ := Kd.R_slice HO_3.out
   subst eo38
   try go_wp2
   have n0_ := yam (Kd.Yd HO_3.out)
   have n1_ := yam (Kd.Yd HO_10.out)
   have n2_ := yam (ybd BK355.out)
   have n3_ := yam (Kept.drew HK.out)
   have n4_ := yam (yed HB.out)
   clear HO_3
   clear HO_10
   clear BK355
   clear HK
   clear HB
   have HO_3 := n0_
   have HO_10 := n1_
   have BK355 := n2_
   have HK := n3_
   have HB := n4_
   clear n0_ n1_ n2_ n3_ n4_
   have p371 : 0 ≤ (x11_1 : Int) := ydt
   have q371 : x11_1 < (t362.length : Int) := ydt
   obtain ⟨ad371, e371, hx371_0⟩ := Kd.at_int (Kd.Yr HO_10.out).2.2 x11_1 p371 q371
   cases e371
   replace p371 := eq_true p371
   replace q371 := eq_true q371
   refine start_ (n := 13) (S := fun w' => w'.cell? ⟨gb355, 0, none⟩ = some (.int .i64 a0_0) ∧ w'.cell? ⟨gb355, 1, none⟩ = some (.slice (some ad360) l0_1.length c0_1) ∧ w'.cell? ⟨gb355, 2, none⟩ = some (.int .i64 a0_2) ∧ w'.cell? (ad371.add (x11_1).toNat) = some (.int .i64 (rd t362 x11_1))) (ds := []) #[false, false, false, false, false, false, false, false, false, false, false, false, false] (by kernel_rfl) rfl rfl ⟨(blk_cell BK355.out 0).trans rfl, (blk_cell BK355.out 1).trans rfl, (blk_cell BK355.out 2).trans rfl, hx371_0⟩ (fun hHeld => ?_); refine with_tabW spec_l4Ways.tab12 spec_l4Ways.bits12 (fun HT_ HW_ => ?_)
   generalize wr.drew = w39 at HO_3 HO_10 BK355 HK HB hx371_0 hHeld ⊢
   refine yvp 1 56 (yvb 13 2) HT_.out ?_
   refine yvp 3 58 (yvb 13 10) HT_.out ?_
   refine yvp 5 60 (yvb 13 42) HT_.out ?_
   refine yvp 6 61 (yvb 13 106) HT_.out ?_
   refine yvp 7 62 (yvb 13 234) HT_.out ?_
   refine yvp 11 66 (yvb 13 2282) HT_.out ?_
   refine yvt 0 55 (yvb 13 2283) HT_.out HW_.out hHeld ?_
   refine yvt 8 63 (yvb 13 2539) HT_.out HW_.out hHeld ?_
   refine join_ (σ := Value × Value × Value) 2 #[true, true, true, true, true, true, true, true, true, true, false, true, false] (fun s_ => [(57, s_.1), (59, s_.2.1), (64, s_.2.2)]) (fun s_ w' => (w'.cell? ⟨gb355, 0, none⟩ = some (.int .i64 a0_0) ∧ w'.cell? ⟨gb355, 1, none⟩ = some (.slice (some ad360) l0_1.length c0_1) ∧ w'.cell? ⟨gb355, 2, none⟩ = some (.int .i64 a0_2) ∧ w'.cell? (ad371.add (x11_1).toNat) = some (.int .i64 (rd t362 x11_1))) ∧ (Kd.R (Kd.int .i64) 3 w' w0.heap.size (fun k_ => (P3_ k_ ∨ w.heap.size ≤ k_) ∧ some k_ ≠ (s_.2.2 : Value).ownBlock ∧ some k_ ≠ (.slice (some ad371) t362.length co37 : Value).ownBlock ∧ some k_ ≠ (.slice Ao38 x3_1.length co38 : Value).ownBlock) s_.2.1 y368) ∧ (Kd.R (Kd.int .i64) 3 w' w0.heap.size (fun k_ => (P3_ k_ ∨ w.heap.size ≤ k_) ∧ some k_ ≠ (s_.2.1 : Value).ownBlock ∧ some k_ ≠ (.slice (some ad371) t362.length co37 : Value).ownBlock ∧ some k_ ≠ (.slice Ao38 x3_1.length co38 : Value).ownBlock) s_.2.2 y372) ∧ (Kd.R (Kd.int .i64) 3 w' w0.heap.size (fun k_ => (P3_ k_ ∨ w.heap.size ≤ k_) ∧ some k_ ≠ (s_.2.1 : Value).ownBlock ∧ some k_ ≠ (s_.2.2 : Value).ownBlock ∧ some k_ ≠ (.slice Ao38 x3_1.length co38 : Value).ownBlock) (.slice (some ad371) t362.length co37) t362) ∧ (Kd.R (Kd.int .i64) 3 w' w0.heap.size (fun k_ => (P3_ k_ ∨ w.heap.size ≤ k_) ∧ some k_ ≠ (s_.2.1 : Value).ownBlock ∧ some k_ ≠ (s_.2.2 : Value).ownBlock ∧ some k_ ≠ (.slice (some ad371) t362.length co37 : Value).ownBlock) (.slice Ao38 x3_1.length co38) x3_1) ∧ (w'.heap[gb355]? = some (.cells #[.int .i64 a0_0, .slice (some ad360) l0_1.length c0_1, .int .i64 a0_2] 73 (0, 0))) ∧ (Kept w w' (fun k_ => P3_ k_)) ∧ (Below w0.heap.size w0 w')) ?_ ?_
   rotate_left
   ·intro hCont
    refine two_ (i := 2) (j := 9) (Ni := some 57) (Nj := some 64) #[true, true, true, true, false, true, true, true, true, false, false, true, false] #[true, true, false, true, false, true, true, true, true, true, false, true, false] rfl rfl rfl rfl (two_of HT_.out (by kernel_rfl)) (by decide) (by decide) (fun K hK => ?_) (fun K hK => ?_)
    ·skip
     refine Kd.R_lit_step (Kd.int .i64) _ 3 ?hg (N := 57) ?hd (xs := ([] : List Int)) (inner := []) (ok := fun _ => True) (okp := fun _ => True) ?hr ?hp (fun _ hk => hk) trivial (Below.refl _ _) (Nat.le_refl _) (by simp) ?_; (case hd => rfl); (case hg => rfl); (case hr => first | (go_simp; done) | (go_simp; rfl)); (case hp => exact (Reps.none _ _))
     intro v366 w40 ho41 hb hg_ hnew_
     have HS3_ := (hb.cell (World.block_lt_of_cell? _ _ (hHeld.2.2.2))).trans (hHeld.2.2.2)
     clear hg_ hnew_
     (first | rw [← Ny365.out] at ho41 | (simp only [Int.reduceToNat] at ho41; rw [← Ny365.out] at ho41))
     have n0_ := yam (Kd.Ye (Kd.Yz HO_3.out) (Kd.Yb ho41) hb)
     have n1_ := yam (Kd.Ye (Kd.Yz HO_10.out) (Kd.Yb ho41) hb)
     have n2_ := yam (Kd.R_lower (Kd.Yw (Kd.Yw (Kd.R_newM (M := fun k_ => (P3_ k_ ∨ w.heap.size ≤ k_)) ho41 (by first | exact HK.out.1 | exact (show Kept w _ (fun k_ => P3_ k_) from by repeat (first | (with_reducible first | exact HK.out | apply Kept.alloc | apply Kept.drewN | apply Kept.drew | refine Kept.setCell ?_ (.inr GW355.out) _) | exact HK.out)).1) (fun k_ h_ => .inr h_)) (Kd.R_lt (Kd.Yz HO_3.out))) (Kd.R_lt (Kd.Yz HO_10.out))) (below_size yhb))
     have n3_ := yam (blk_below (g := gb355) (o := .cells #[.int .i64 a0_0, .slice (some ad360) l0_1.length c0_1, .int .i64 a0_2] 73 (0, 0)) (ybz BK355.out) hb)
     have n4_ := yam (Kept.below (S := (fun k_ => P3_ k_)) (by repeat (first | (with_reducible first | exact HK.out | apply Kept.alloc | apply Kept.drewN | apply Kept.drew | refine Kept.setCell ?_ (.inr GW355.out) _) | exact HK.out)) hb)
     have n5_ := yam (below_step yhb hb)
     clear HO_3
     clear HO_10
     clear BK355
     clear HK
     clear HB
     have HO_3 := n0_
     have HO_10 := n1_
     have HO367 := n2_
     have BK355 := n3_
     have HK := n4_
     have HB := n5_
     clear n0_ n1_ n2_ n3_ n4_ n5_
     clear hb ho41
     refine hK.out _ _ ⟨(blk_cell BK355.out 0).trans rfl, (blk_cell BK355.out 1).trans rfl, (blk_cell BK355.out 2).trans rfl, HS3_⟩ (fun hHeld => ?_)
     clear hK K
     refine norm_ (a' := ?_) ?_ ?_
     rotate_left
     ·show Act.put _ (some 57) _ = _
      simp only [Act.put, yps, i64_w, i32_w]
      rfl
     refine two_ (i := 4) (j := 9) (Ni := some 59) (Nj := some 64) #[true, true, true, true, true, true, true, true, true, false, false, true, false] #[true, true, true, true, false, true, true, true, true, true, false, true, false] rfl rfl rfl rfl (two_of HT_.out (by kernel_rfl)) (by decide) (by decide) (fun K hK => ?_) (fun K hK => ?_)
     ·skip
      refine Kd.R_append_rows_step (Kd.int .i64) (w0 := w0) w0.heap.size (by rfl) (.tmp 57) (.tmp 58) 22 3 (.int .i64 0) 8 rfl Try.underlying22 info3 rfl (by decide) (by omega) v366 y365 l2 _ _ _ (fun k_ => (P3_ k_ ∨ w.heap.size ≤ k_) ∧ some k_ ≠ (.slice Ao38 x3_1.length co38 : Value).ownBlock ∧ some k_ ≠ (.slice (some ad371) t362.length co37 : Value).ownBlock) (fun _ => False) rfl rfl ?aO ?aR (fun _ _ h => h) (fun _ h => h.elim) ?aF ?aB ?aS ?aL ?_
      (case aR => exact Kd.C_kept_now HR2.out (by repeat (first | (with_reducible first | exact HK.out | apply Kept.alloc | apply Kept.drewN | apply Kept.drew | refine Kept.setCell ?_ (.inr GW355.out) _) | exact HK.out)))
      (case aB => exact yhb)
      (case aF => exact (fun k_ hk => ⟨(.inr (Nat.le_trans (by first | exact HK.out.1 | exact (show Kept w _ (fun k_ => P3_ k_) from by repeat (first | (with_reducible first | exact HK.out | apply Kept.alloc | apply Kept.drewN | apply Kept.drew | refine Kept.setCell ?_ (.inr GW355.out) _) | exact HK.out)).1) hk)), Kd.fresh' (Kd.R_lt (Kd.Yz HO_3.out)) k_ hk, Kd.fresh' (Kd.R_lt (Kd.Yz HO_10.out)) k_ hk⟩))
      (case aO => exact (by (with_reducible repeat (first | apply Kd.Ya | apply Kd.Yn | apply Kd.Yd)); exact Kd.R_mono HO367.out (fun _ hk => ⟨hk.1.1.1, ⟨hk.1.2, hk.2⟩⟩)))
      (case aS => exact (below_size yhb))
      (case aL => have := LMc33.out; omega)
      intro v369 w42 ho hb hg hat
      have HS3_ := cell_grown hg (hHeld.2.2.2) (by first | (rw [add_block]; exact (fun e_ => (by have h_ := HO367.out.1 _ e_.symm; simp [Value.ownBlock] at h_))) | (show some (Addr.add _ _).block ≠ _; rw [add_block]; exact (fun e_ => (by have h_ := HO367.out.1 _ e_.symm; simp [Value.ownBlock] at h_))) | exact (fun e_ => (by have h_ := HO367.out.1 _ e_.symm; simp [Value.ownBlock] at h_)))
      rw [← Ny368.out] at ho
      have n0_ := yam (Kd.R_after (ok := (fun k_ => (P3_ k_ ∨ w.heap.size ≤ k_) ∧ some k_ ≠ (.slice (some ad371) t362.length co37 : Value).ownBlock)) (Kd.Yz HO_3.out) hg hat)
      have n1_ := yam (Kd.R_after (ok := (fun k_ => (P3_ k_ ∨ w.heap.size ≤ k_) ∧ some k_ ≠ (.slice Ao38 x3_1.length co38 : Value).ownBlock)) (Kd.Yz HO_10.out) hg hat)
      have n2_ := yam (blk_grown (g := gb355) (o := .cells #[.int .i64 a0_0, .slice (some ad360) l0_1.length c0_1, .int .i64 a0_2] 73 (0, 0)) (ybz BK355.out) hg (Kd.R_ne HO367.out BK355.out (by decide)))
      have n3_ := yam (hb)
      have n4_ := yam (Kept.of_grown (S := (fun k_ => P3_ k_)) hg (by repeat (first | (with_reducible first | exact HK.out | apply Kept.alloc | apply Kept.drewN | apply Kept.drew | refine Kept.setCell ?_ (.inr GW355.out) _) | exact HK.out)) (fun k_ e_ => (HO367.out.1 k_ e_).1.1.1))
      have n5_ := yam (ho)
      clear HO_3
      clear HO_10
      clear BK355
      clear HB
      clear HK
      clear HO367
      have HO_3 := n0_
      have HO_10 := n1_
      have BK355 := n2_
      have HB := n3_
      have HK := n4_
      have HO370 := n5_
      clear n0_ n1_ n2_ n3_ n4_ n5_
      clear ho hb hg hat
      refine hK.out _ _ ⟨(blk_cell BK355.out 0).trans rfl, (blk_cell BK355.out 1).trans rfl, (blk_cell BK355.out 2).trans rfl, HS3_⟩ (fun hHeld => ?_)
      clear hK K
      refine norm_ (a' := ?_) ?_ ?_
      rotate_left
      ·show Act.put _ (some 59) _ = _
       simp only [Act.put, yps, i64_w, i32_w]
       rfl
      refine one_ (i := 9) (N := some 64) #[true, true, true, true, true, true, true, true, true, true, false, true, false] rfl rfl (one_of HT_.out (by kernel_rfl)) (by decide) (fun K hK => ?_)
      refine Kd.R_lit_step (Kd.int .i64) _ 3 ?hg (N := 64) ?hd (xs := ([rd t362 x11_1] : List Int)) (inner := [.int .i64 (rd t362 x11_1)]) (ok := fun _ => True) (okp := fun _ => True) ?hr ?hp (fun _ hk => hk) trivial (Below.refl _ _) (Nat.le_refl _) (by simp) ?_; (case hd => rfl); (case hg => rfl); (case hr => first | (go_simp; done) | (go_simp; rfl)); (case hp => exact (Reps.one (show Kd.M (Kd.int .i64) _ _ _ (rd t362 x11_1) [.int .i64 (rd t362 x11_1)] from rfl) (Reps.none _ _)))
      intro v373 w43 ho44 hb hg_ hnew_
      have HS3_ := (hb.cell (World.block_lt_of_cell? _ _ (hHeld.2.2.2))).trans (hHeld.2.2.2)
      clear hg_ hnew_
      (first | rw [← Ny372.out] at ho44 | (simp only [Int.reduceToNat] at ho44; rw [← Ny372.out] at ho44))
      have n0_ := yam (Kd.Ye (Kd.Yz HO_3.out) (Kd.Yb ho44) hb)
      have n1_ := yam (Kd.Ye (Kd.Yz HO_10.out) (Kd.Yb ho44) hb)
      have n2_ := yam (Kd.Ye (Kd.Yz HO370.out) (Kd.Yb ho44) hb)
      have n3_ := yam (Kd.R_lower (Kd.Yw (Kd.Yw (Kd.Yw (Kd.R_newM (M := fun k_ => (P3_ k_ ∨ w.heap.size ≤ k_)) ho44 (by first | exact HK.out.1 | exact (show Kept w _ (fun k_ => P3_ k_) from by repeat (first | (with_reducible first | exact HK.out | apply Kept.alloc | apply Kept.drewN | apply Kept.drew | refine Kept.setCell ?_ (.inr GW355.out) _) | exact HK.out)).1) (fun k_ h_ => .inr h_)) (Kd.R_lt (Kd.Yz HO_3.out))) (Kd.R_lt (Kd.Yz HO_10.out))) (Kd.R_lt (Kd.Yz HO370.out))) (below_size yhb))
      have n4_ := yam (blk_below (g := gb355) (o := .cells #[.int .i64 a0_0, .slice (some ad360) l0_1.length c0_1, .int .i64 a0_2] 73 (0, 0)) (ybz BK355.out) hb)
      have n5_ := yam (Kept.below (S := (fun k_ => P3_ k_)) (by repeat (first | (with_reducible first | exact HK.out | apply Kept.alloc | apply Kept.drewN | apply Kept.drew | refine Kept.setCell ?_ (.inr GW355.out) _) | exact HK.out)) hb)
      have n6_ := yam (below_step yhb hb)
      clear HO_3
      clear HO_10
      clear HO370
      clear BK355
      clear HK
      clear HB
      have HO_3 := n0_
      have HO_10 := n1_
      have HO370 := n2_
      have HO374 := n3_
      have BK355 := n4_
      have HK := n5_
      have HB := n6_
      clear n0_ n1_ n2_ n3_ n4_ n5_ n6_
      clear hb ho44
      refine hK.out _ _ ⟨(blk_cell BK355.out 0).trans rfl, (blk_cell BK355.out 1).trans rfl, (blk_cell BK355.out 2).trans rfl, HS3_⟩ (fun hHeld => ?_)
      clear hK K
      refine norm_ (a' := ?_) ?_ ?_
      rotate_left
      ·show Act.put _ (some 64) _ = _
       simp only [Act.put, yps, i64_w, i32_w]
       rfl
      exact norm_ (by simp only [putAll, Act.put, yps]) (hCont (v366, v369, v373) _ ⟨hHeld, (by (with_reducible repeat (first | apply Kd.Ya | apply Kd.Yn | apply Kd.Yd)); exact Kd.R_mono HO370.out (fun _ hk => ⟨hk.1.1, ⟨hk.2, ⟨hk.1.2.2, hk.1.2.1⟩⟩⟩)), (by (with_reducible repeat (first | apply Kd.Ya | apply Kd.Yn | apply Kd.Yd)); exact Kd.R_mono HO374.out (fun _ hk => ⟨hk.1.1.1.1, ⟨hk.2, ⟨hk.1.2, hk.1.1.2⟩⟩⟩)), (by (with_reducible repeat (first | apply Kd.Ya | apply Kd.Yn | apply Kd.Yd)); exact Kd.R_mono HO_10.out (fun _ hk => ⟨hk.1.1.1, ⟨hk.1.2, ⟨hk.2, hk.1.1.2⟩⟩⟩)), (by (with_reducible repeat (first | apply Kd.Ya | apply Kd.Yn | apply Kd.Yd)); exact Kd.R_mono HO_3.out (fun _ hk => ⟨hk.1.1.1, ⟨hk.1.2, ⟨hk.2, hk.1.1.2⟩⟩⟩)), (ybz BK355.out), (by repeat (first | (with_reducible first | exact HK.out | apply Kept.alloc | apply Kept.drewN | apply Kept.drew | refine Kept.setCell ?_ (.inr GW355.out) _) | exact HK.out)), yhb⟩)
     ·skip
      refine Kd.R_lit_step (Kd.int .i64) _ 3 ?hg (N := 64) ?hd (xs := ([rd t362 x11_1] : List Int)) (inner := [.int .i64 (rd t362 x11_1)]) (ok := fun _ => True) (okp := fun _ => True) ?hr ?hp (fun _ hk => hk) trivial (Below.refl _ _) (Nat.le_refl _) (by simp) ?_; (case hd => rfl); (case hg => rfl); (case hr => first | (go_simp; done) | (go_simp; rfl)); (case hp => exact (Reps.one (show Kd.M (Kd.int .i64) _ _ _ (rd t362 x11_1) [.int .i64 (rd t362 x11_1)] from rfl) (Reps.none _ _)))
      intro v373 w42 ho43 hb hg_ hnew_
      have HS3_ := (hb.cell (World.block_lt_of_cell? _ _ (hHeld.2.2.2))).trans (hHeld.2.2.2)
      clear hg_ hnew_
      (first | rw [← Ny372.out] at ho43 | (simp only [Int.reduceToNat] at ho43; rw [← Ny372.out] at ho43))
      have n0_ := yam (Kd.Ye (Kd.Yz HO_3.out) (Kd.Yb ho43) hb)
      have n1_ := yam (Kd.Ye (Kd.Yz HO_10.out) (Kd.Yb ho43) hb)
      have n2_ := yam (Kd.Ye (Kd.Yz HO367.out) (Kd.Yb ho43) hb)
      have n3_ := yam (Kd.R_lower (Kd.Yw (Kd.Yw (Kd.Yw (Kd.R_newM (M := fun k_ => (P3_ k_ ∨ w.heap.size ≤ k_)) ho43 (by first | exact HK.out.1 | exact (show Kept w _ (fun k_ => P3_ k_) from by repeat (first | (with_reducible first | exact HK.out | apply Kept.alloc | apply Kept.drewN | apply Kept.drew | refine Kept.setCell ?_ (.inr GW355.out) _) | exact HK.out)).1) (fun k_ h_ => .inr h_)) (Kd.R_lt (Kd.Yz HO_3.out))) (Kd.R_lt (Kd.Yz HO_10.out))) (Kd.R_lt (Kd.Yz HO367.out))) (below_size yhb))
      have n4_ := yam (blk_below (g := gb355) (o := .cells #[.int .i64 a0_0, .slice (some ad360) l0_1.length c0_1, .int .i64 a0_2] 73 (0, 0)) (ybz BK355.out) hb)
      have n5_ := yam (Kept.below (S := (fun k_ => P3_ k_)) (by repeat (first | (with_reducible first | exact HK.out | apply Kept.alloc | apply Kept.drewN | apply Kept.drew | refine Kept.setCell ?_ (.inr GW355.out) _) | exact HK.out)) hb)
      have n6_ := yam (below_step yhb hb)
      clear HO_3
      clear HO_10
      clear HO367
      clear BK355
      clear HK
      clear HB
      have HO_3 := n0_
      have HO_10 := n1_
      have HO367 := n2_
      have HO374 := n3_
      have BK355 := n4_
      have HK := n5_
      have HB := n6_
      clear n0_ n1_ n2_ n3_ n4_ n5_ n6_
      clear hb ho43
      refine hK.out _ _ ⟨(blk_cell BK355.out 0).trans rfl, (blk_cell BK355.out 1).trans rfl, (blk_cell BK355.out 2).trans rfl, HS3_⟩ (fun hHeld => ?_)
      clear hK K
      refine norm_ (a' := ?_) ?_ ?_
      rotate_left
      ·show Act.put _ (some 64) _ = _
       simp only [Act.put, yps, i64_w, i32_w]
       rfl
      refine one_ (i := 4) (N := some 59) #[true, true, true, true, true, true, true, true, true, true, false, true, false] rfl rfl (one_of HT_.out (by kernel_rfl)) (by decide) (fun K hK => ?_)
      refine Kd.R_append_rows_step (Kd.int .i64) (w0 := w0) w0.heap.size (by rfl) (.tmp 57) (.tmp 58) 22 3 (.int .i64 0) 8 rfl Try.underlying22 info3 rfl (by decide) (by omega) v366 y365 l2 _ _ _ (fun k_ => (P3_ k_ ∨ w.heap.size ≤ k_) ∧ some k_ ≠ (.slice Ao38 x3_1.length co38 : Value).ownBlock ∧ some k_ ≠ (.slice (some ad371) t362.length co37 : Value).ownBlock ∧ some k_ ≠ (v373 : Value).ownBlock) (fun _ => False) rfl rfl ?aO ?aR (fun _ _ h => h) (fun _ h => h.elim) ?aF ?aB ?aS ?aL ?_
      (case aR => exact Kd.C_kept_now HR2.out (by repeat (first | (with_reducible first | exact HK.out | apply Kept.alloc | apply Kept.drewN | apply Kept.drew | refine Kept.setCell ?_ (.inr GW355.out) _) | exact HK.out)))
      (case aB => exact yhb)
      (case aF => exact (fun k_ hk => ⟨(.inr (Nat.le_trans (by first | exact HK.out.1 | exact (show Kept w _ (fun k_ => P3_ k_) from by repeat (first | (with_reducible first | exact HK.out | apply Kept.alloc | apply Kept.drewN | apply Kept.drew | refine Kept.setCell ?_ (.inr GW355.out) _) | exact HK.out)).1) hk)), Kd.fresh' (Kd.R_lt (Kd.Yz HO_3.out)) k_ hk, Kd.fresh' (Kd.R_lt (Kd.Yz HO_10.out)) k_ hk, Kd.fresh' (Kd.R_lt (Kd.Yz HO374.out)) k_ hk⟩))
      (case aO => exact (by (with_reducible repeat (first | apply Kd.Ya | apply Kd.Yn | apply Kd.Yd)); exact Kd.R_mono HO367.out (fun _ hk => ⟨hk.1.1.1.1, ⟨hk.1.1.2, ⟨hk.1.2, hk.2⟩⟩⟩)))
      (case aS => exact (below_size yhb))
      (case aL => have := LMc33.out; omega)
      intro v369 w44 ho hb hg hat
      have HS3_ := cell_grown hg (hHeld.2.2.2) (by first | (rw [add_block]; exact (fun e_ => (by have h_ := HO367.out.1 _ e_.symm; simp [Value.ownBlock] at h_))) | (show some (Addr.add _ _).block ≠ _; rw [add_block]; exact (fun e_ => (by have h_ := HO367.out.1 _ e_.symm; simp [Value.ownBlock] at h_))) | exact (fun e_ => (by have h_ := HO367.out.1 _ e_.symm; simp [Value.ownBlock] at h_)))
      rw [← Ny368.out] at ho
      have n0_ := yam (Kd.R_after (ok := (fun k_ => (P3_ k_ ∨ w.heap.size ≤ k_) ∧ some k_ ≠ (.slice (some ad371) t362.length co37 : Value).ownBlock ∧ some k_ ≠ (v373 : Value).ownBlock)) (by (with_reducible repeat (first | apply Kd.Ya | apply Kd.Yn | apply Kd.Yd)); exact Kd.R_mono HO_3.out (fun _ hk => ⟨⟨hk.1.1.1, ⟨hk.1.1.2, hk.2⟩⟩, hk.1.2⟩)) hg hat)
      have n1_ := yam (Kd.R_after (ok := (fun k_ => (P3_ k_ ∨ w.heap.size ≤ k_) ∧ some k_ ≠ (.slice Ao38 x3_1.length co38 : Value).ownBlock ∧ some k_ ≠ (v373 : Value).ownBlock)) (by (with_reducible repeat (first | apply Kd.Ya | apply Kd.Yn | apply Kd.Yd)); exact Kd.R_mono HO_10.out (fun _ hk => ⟨⟨hk.1.1.1, ⟨hk.1.1.2, hk.2⟩⟩, hk.1.2⟩)) hg hat)
      have n2_ := yam (blk_grown (g := gb355) (o := .cells #[.int .i64 a0_0, .slice (some ad360) l0_1.length c0_1, .int .i64 a0_2] 73 (0, 0)) (ybz BK355.out) hg (Kd.R_ne HO367.out BK355.out (by decide)))
      have n3_ := yam (Kd.R_after (ok := (fun k_ => (P3_ k_ ∨ w.heap.size ≤ k_) ∧ some k_ ≠ (.slice Ao38 x3_1.length co38 : Value).ownBlock ∧ some k_ ≠ (.slice (some ad371) t362.length co37 : Value).ownBlock)) (by (with_reducible repeat (first | apply Kd.Ya | apply Kd.Yn | apply Kd.Yd)); exact Kd.R_mono HO374.out (fun _ hk => ⟨⟨hk.1.1.1.1, ⟨hk.1.1.2, hk.1.2⟩⟩, hk.2⟩)) hg hat)
      have n4_ := yam (hb)
      have n5_ := yam (Kept.of_grown (S := (fun k_ => P3_ k_)) hg (by repeat (first | (with_reducible first | exact HK.out | apply Kept.alloc | apply Kept.drewN | apply Kept.drew | refine Kept.setCell ?_ (.inr GW355.out) _) | exact HK.out)) (fun k_ e_ => (HO367.out.1 k_ e_).1.1.1.1))
      have n6_ := yam (ho)
      clear HO_3
      clear HO_10
      clear BK355
      clear HO374
      clear HB
      clear HK
      clear HO367
      have HO_3 := n0_
      have HO_10 := n1_
      have BK355 := n2_
      have HO374 := n3_
      have HB := n4_
      have HK := n5_
      have HO370 := n6_
      clear n0_ n1_ n2_ n3_ n4_ n5_ n6_
      clear ho hb hg hat
      refine hK.out _ _ ⟨(blk_cell BK355.out 0).trans rfl, (blk_cell BK355.out 1).trans rfl, (blk_cell BK355.out 2).trans rfl, HS3_⟩ (fun hHeld => ?_)
      clear hK K
      refine norm_ (a' := ?_) ?_ ?_
      rotate_left
      ·show Act.put _ (some 59) _ = _
       simp only [Act.put, yps, i64_w, i32_w]
       rfl
      exact norm_ (by simp only [putAll, Act.put, yps]) (hCont (v366, v369, v373) _ ⟨hHeld, (by (with_reducible repeat (first | apply Kd.Ya | apply Kd.Yn | apply Kd.Yd)); exact Kd.R_mono HO370.out (fun _ hk => ⟨hk.1, ⟨hk.2.2.2, ⟨hk.2.2.1, hk.2.1⟩⟩⟩)), (by (with_reducible repeat (first | apply Kd.Ya | apply Kd.Yn | apply Kd.Yd)); exact Kd.R_mono HO374.out (fun _ hk => ⟨hk.1.1, ⟨hk.2, ⟨hk.1.2.2, hk.1.2.1⟩⟩⟩)), (by (with_reducible repeat (first | apply Kd.Ya | apply Kd.Yn | apply Kd.Yd)); exact Kd.R_mono HO_10.out (fun _ hk => ⟨hk.1.1, ⟨hk.2, ⟨hk.1.2.2, hk.1.2.1⟩⟩⟩)), (by (with_reducible repeat (first | apply Kd.Ya | apply Kd.Yn | apply Kd.Yd)); exact Kd.R_mono HO_3.out (fun _ hk => ⟨hk.1.1, ⟨hk.2, ⟨hk.1.2.2, hk.1.2.1⟩⟩⟩)), (ybz BK355.out), (by repeat (first | (with_reducible first | exact HK.out | apply Kept.alloc | apply Kept.drewN | apply Kept.drew | refine Kept.setCell ?_ (.inr GW355.out) _) | exact HK.out)), yhb⟩)
    ·skip
     refine Kd.R_lit_step (Kd.int .i64) _ 3 ?hg (N := 64) ?hd (xs := ([rd t362 x11_1] : List Int)) (inner := [.int .i64 (rd t362 x11_1)]) (ok := fun _ => True) (okp := fun _ => True) ?hr ?hp (fun _ hk => hk) trivial (Below.refl _ _) (Nat.le_refl _) (by simp) ?_; (case hd => rfl); (case hg => rfl); (case hr => first | (go_simp; done) | (go_simp; rfl)); (case hp => exact (Reps.one (show Kd.M (Kd.int .i64) _ _ _ (rd t362 x11_1) [.int .i64 (rd t362 x11_1)] from rfl) (Reps.none _ _)))
     intro v373 w40 ho41 hb hg_ hnew_
     have HS3_ := (hb.cell (World.block_lt_of_cell? _ _ (hHeld.2.2.2))).trans (hHeld.2.2.2)
     clear hg_ hnew_
     (first | rw [← Ny372.out] at ho41 | (simp only [Int.reduceToNat] at ho41; rw [← Ny372.out] at ho41))
     have n0_ := yam (Kd.Ye (Kd.Yz HO_3.out) (Kd.Yb ho41) hb)
     have n1_ := yam (Kd.Ye (Kd.Yz HO_10.out) (Kd.Yb ho41) hb)
     have n2_ := yam (Kd.R_lower (Kd.Yw (Kd.Yw (Kd.R_newM (M := fun k_ => (P3_ k_ ∨ w.heap.size ≤ k_)) ho41 (by first | exact HK.out.1 | exact (show Kept w _ (fun k_ => P3_ k_) from by repeat (first | (with_reducible first | exact HK.out | apply Kept.alloc | apply Kept.drewN | apply Kept.drew | refine Kept.setCell ?_ (.inr GW355.out) _) | exact HK.out)).1) (fun k_ h_ => .inr h_)) (Kd.R_lt (Kd.Yz HO_3.out))) (Kd.R_lt (Kd.Yz HO_10.out))) (below_size yhb))
     have n3_ := yam (blk_below (g := gb355) (o := .cells #[.int .i64 a0_0, .slice (some ad360) l0_1.length c0_1, .int .i64 a0_2] 73 (0, 0)) (ybz BK355.out) hb)
     have n4_ := yam (Kept.below (S := (fun k_ => P3_ k_)) (by repeat (first | (with_reducible first | exact HK.out | apply Kept.alloc | apply Kept.drewN | apply Kept.drew | refine Kept.setCell ?_ (.inr GW355.out) _) | exact HK.out)) hb)
     have n5_ := yam (below_step yhb hb)
     clear HO_3
     clear HO_10
     clear BK355
     clear HK
     clear HB
     have HO_3 := n0_
     have HO_10 := n1_
     have HO374 := n2_
     have BK355 := n3_
     have HK := n4_
     have HB := n5_
     clear n0_ n1_ n2_ n3_ n4_ n5_
     clear hb ho41
     refine hK.out _ _ ⟨(blk_cell BK355.out 0).trans rfl, (blk_cell BK355.out 1).trans rfl, (blk_cell BK355.out 2).trans rfl, HS3_⟩ (fun hHeld => ?_)
     clear hK K
     refine norm_ (a' := ?_) ?_ ?_
     rotate_left
     ·show Act.put _ (some 64) _ = _
      simp only [Act.put, yps, i64_w, i32_w]
      rfl
     refine one_ (i := 2) (N := some 57) #[true, true, true, true, false, true, true, true, true, true, false, true, false] rfl rfl (one_of HT_.out (by kernel_rfl)) (by decide) (fun K hK => ?_)
     refine Kd.R_lit_step (Kd.int .i64) _ 3 ?hg (N := 57) ?hd (xs := ([] : List Int)) (inner := []) (ok := fun _ => True) (okp := fun _ => True) ?hr ?hp (fun _ hk => hk) trivial (Below.refl _ _) (Nat.le_refl _) (by simp) ?_; (case hd => rfl); (case hg => rfl); (case hr => first | (go_simp; done) | (go_simp; rfl)); (case hp => exact (Reps.none _ _))
     intro v366 w42 ho43 hb hg_ hnew_
     have HS3_ := (hb.cell (World.block_lt_of_cell? _ _ (hHeld.2.2.2))).trans (hHeld.2.2.2)
     clear hg_ hnew_
     (first | rw [← Ny365.out] at ho43 | (simp only [Int.reduceToNat] at ho43; rw [← Ny365.out] at ho43))
     have n0_ := yam (Kd.Ye (Kd.Yz HO_3.out) (Kd.Yb ho43) hb)
     have n1_ := yam (Kd.Ye (Kd.Yz HO_10.out) (Kd.Yb ho43) hb)
     have n2_ := yam (Kd.Ye (Kd.Yz HO374.out) (Kd.Yb ho43) hb)
     have n3_ := yam (Kd.R_lower (Kd.Yw (Kd.Yw (Kd.Yw (Kd.R_newM (M := fun k_ => (P3_ k_ ∨ w.heap.size ≤ k_)) ho43 (by first | exact HK.out.1 | exact (show Kept w _ (fun k_ => P3_ k_) from by repeat (first | (with_reducible first | exact HK.out | apply Kept.alloc | apply Kept.drewN | apply Kept.drew | refine Kept.setCell ?_ (.inr GW355.out) _) | exact HK.out)).1) (fun k_ h_ => .inr h_)) (Kd.R_lt (Kd.Yz HO_3.out))) (Kd.R_lt (Kd.Yz HO_10.out))) (Kd.R_lt (Kd.Yz HO374.out))) (below_size yhb))
     have n4_ := yam (blk_below (g := gb355) (o := .cells #[.int .i64 a0_0, .slice (some ad360) l0_1.length c0_1, .int .i64 a0_2] 73 (0, 0)) (ybz BK355.out) hb)
     have n5_ := yam (Kept.below (S := (fun k_ => P3_ k_)) (by repeat (first | (with_reducible first | exact HK.out | apply Kept.alloc | apply Kept.drewN | apply Kept.drew | refine Kept.setCell ?_ (.inr GW355.out) _) | exact HK.out)) hb)
     have n6_ := yam (below_step yhb hb)
     clear HO_3
     clear HO_10
     clear HO374
     clear BK355
     clear HK
     clear HB
     have HO_3 := n0_
     have HO_10 := n1_
     have HO374 := n2_
     have HO367 := n3_
     have BK355 := n4_
     have HK := n5_
     have HB := n6_
     clear n0_ n1_ n2_ n3_ n4_ n5_ n6_
     clear hb ho43
     refine hK.out _ _ ⟨(blk_cell BK355.out 0).trans rfl, (blk_cell BK355.out 1).trans rfl, (blk_cell BK355.out 2).trans rfl, HS3_⟩ (fun hHeld => ?_)
     clear hK K
     refine norm_ (a' := ?_) ?_ ?_
     rotate_left
     ·show Act.put _ (some 57) _ = _
      simp only [Act.put, yps, i64_w, i32_w]
      rfl
     refine one_ (i := 4) (N := some 59) #[true, true, true, true, true, true, true, true, true, true, false, true, false] rfl rfl (one_of HT_.out (by kernel_rfl)) (by decide) (fun K hK => ?_)
     refine Kd.R_append_rows_step (Kd.int .i64) (w0 := w0) w0.heap.size (by rfl) (.tmp 57) (.tmp 58) 22 3 (.int .i64 0) 8 rfl Try.underlying22 info3 rfl (by decide) (by omega) v366 y365 l2 _ _ _ (fun k_ => (P3_ k_ ∨ w.heap.size ≤ k_) ∧ some k_ ≠ (.slice Ao38 x3_1.length co38 : Value).ownBlock ∧ some k_ ≠ (.slice (some ad371) t362.length co37 : Value).ownBlock ∧ some k_ ≠ (v373 : Value).ownBlock) (fun _ => False) rfl rfl ?aO ?aR (fun _ _ h => h) (fun _ h => h.elim) ?aF ?aB ?aS ?aL ?_
     (case aR => exact Kd.C_kept_now HR2.out (by repeat (first | (with_reducible first | exact HK.out | apply Kept.alloc | apply Kept.drewN | apply Kept.drew | refine Kept.setCell ?_ (.inr GW355.out) _) | exact HK.out)))
     (case aB => exact yhb)
     (case aF => exact (fun k_ hk => ⟨(.inr (Nat.le_trans (by first | exact HK.out.1 | exact (show Kept w _ (fun k_ => P3_ k_) from by repeat (first | (with_reducible first | exact HK.out | apply Kept.alloc | apply Kept.drewN | apply Kept.drew | refine Kept.setCell ?_ (.inr GW355.out) _) | exact HK.out)).1) hk)), Kd.fresh' (Kd.R_lt (Kd.Yz HO_3.out)) k_ hk, Kd.fresh' (Kd.R_lt (Kd.Yz HO_10.out)) k_ hk, Kd.fresh' (Kd.R_lt (Kd.Yz HO374.out)) k_ hk⟩))
     (case aO => exact (by (with_reducible repeat (first | apply Kd.Ya | apply Kd.Yn | apply Kd.Yd)); exact Kd.R_mono HO367.out (fun _ hk => ⟨hk.1.1.1.1, ⟨hk.1.1.2, ⟨hk.1.2, hk.2⟩⟩⟩)))
     (case aS => exact (below_size yhb))
     (case aL => have := LMc33.out; omega)
     intro v369 w44 ho hb hg hat
     have HS3_ := cell_grown hg (hHeld.2.2.2) (by first | (rw [add_block]; exact (fun e_ => (by have h_ := HO367.out.1 _ e_.symm; simp [Value.ownBlock] at h_))) | (show some (Addr.add _ _).block ≠ _; rw [add_block]; exact (fun e_ => (by have h_ := HO367.out.1 _ e_.symm; simp [Value.ownBlock] at h_))) | exact (fun e_ => (by have h_ := HO367.out.1 _ e_.symm; simp [Value.ownBlock] at h_)))
     rw [← Ny368.out] at ho
     have n0_ := yam (Kd.R_after (ok := (fun k_ => (P3_ k_ ∨ w.heap.size ≤ k_) ∧ some k_ ≠ (.slice (some ad371) t362.length co37 : Value).ownBlock ∧ some k_ ≠ (v373 : Value).ownBlock)) (by (with_reducible repeat (first | apply Kd.Ya | apply Kd.Yn | apply Kd.Yd)); exact Kd.R_mono HO_3.out (fun _ hk => ⟨⟨hk.1.1.1, ⟨hk.1.1.2, hk.1.2⟩⟩, hk.2⟩)) hg hat)
     have n1_ := yam (Kd.R_after (ok := (fun k_ => (P3_ k_ ∨ w.heap.size ≤ k_) ∧ some k_ ≠ (.slice Ao38 x3_1.length co38 : Value).ownBlock ∧ some k_ ≠ (v373 : Value).ownBlock)) (by (with_reducible repeat (first | apply Kd.Ya | apply Kd.Yn | apply Kd.Yd)); exact Kd.R_mono HO_10.out (fun _ hk => ⟨⟨hk.1.1.1, ⟨hk.1.1.2, hk.1.2⟩⟩, hk.2⟩)) hg hat)
     have n2_ := yam (blk_grown (g := gb355) (o := .cells #[.int .i64 a0_0, .slice (some ad360) l0_1.length c0_1, .int .i64 a0_2] 73 (0, 0)) (ybz BK355.out) hg (Kd.R_ne HO367.out BK355.out (by decide)))
     have n3_ := yam (Kd.R_after (ok := (fun k_ => (P3_ k_ ∨ w.heap.size ≤ k_) ∧ some k_ ≠ (.slice Ao38 x3_1.length co38 : Value).ownBlock ∧ some k_ ≠ (.slice (some ad371) t362.length co37 : Value).ownBlock)) (by (with_reducible repeat (first | apply Kd.Ya | apply Kd.Yn | apply Kd.Yd)); exact Kd.R_mono HO374.out (fun _ hk => ⟨⟨hk.1.1.1.1, ⟨hk.1.1.2, hk.1.2⟩⟩, hk.2⟩)) hg hat)
     have n4_ := yam (hb)
     have n5_ := yam (Kept.of_grown (S := (fun k_ => P3_ k_)) hg (by repeat (first | (with_reducible first | exact HK.out | apply Kept.alloc | apply Kept.drewN | apply Kept.drew | refine Kept.setCell ?_ (.inr GW355.out) _) | exact HK.out)) (fun k_ e_ => (HO367.out.1 k_ e_).1.1.1.1))
     have n6_ := yam (ho)
     clear HO_3
     clear HO_10
     clear BK355
     clear HO374
     clear HB
     clear HK
     clear HO367
     have HO_3 := n0_
     have HO_10 := n1_
     have BK355 := n2_
     have HO374 := n3_
     have HB := n4_
     have HK := n5_
     have HO370 := n6_
     clear n0_ n1_ n2_ n3_ n4_ n5_ n6_
     clear ho hb hg hat
     refine hK.out _ _ ⟨(blk_cell BK355.out 0).trans rfl, (blk_cell BK355.out 1).trans rfl, (blk_cell BK355.out 2).trans rfl, HS3_⟩ (fun hHeld => ?_)
     clear hK K
     refine norm_ (a' := ?_) ?_ ?_
     rotate_left
     ·show Act.put _ (some 59) _ = _
      simp only [Act.put, yps, i64_w, i32_w]
      rfl
     exact norm_ (by simp only [putAll, Act.put, yps]) (hCont (v366, v369, v373) _ ⟨hHeld, (by (with_reducible repeat (first | apply Kd.Ya | apply Kd.Yn | apply Kd.Yd)); exact Kd.R_mono HO370.out (fun _ hk => ⟨hk.1, ⟨hk.2.2.2, ⟨hk.2.2.1, hk.2.1⟩⟩⟩)), (by (with_reducible repeat (first | apply Kd.Ya | apply Kd.Yn | apply Kd.Yd)); exact Kd.R_mono HO374.out (fun _ hk => ⟨hk.1.1, ⟨hk.2, ⟨hk.1.2.2, hk.1.2.1⟩⟩⟩)), (by (with_reducible repeat (first | apply Kd.Ya | apply Kd.Yn | apply Kd.Yd)); exact Kd.R_mono HO_10.out (fun _ hk => ⟨hk.1.1, ⟨hk.2, ⟨hk.1.2.2, hk.1.2.1⟩⟩⟩)), (by (with_reducible repeat (first | apply Kd.Ya | apply Kd.Yn | apply Kd.Yd)); exact Kd.R_mono HO_3.out (fun _ hk => ⟨hk.1.1, ⟨hk.2, ⟨hk.1.2.2, hk.1.2.1⟩⟩⟩)), (ybz BK355.out), (by repeat (first | (with_reducible first | exact HK.out | apply Kept.alloc | apply Kept.drewN | apply Kept.drew | refine Kept.setCell ?_ (.inr GW355.out) _) | exact HK.out)), yhb⟩)
   rintro ⟨v366, v369, v373⟩ w45 ⟨hS_, h0_, h1_, h2_, h3_, h4_, h5_, h6_⟩
   have n0_ : Aside0 (Kd.R (Kd.int .i64) 3 w45 w0.heap.size (fun k_ => (P3_ k_ ∨ w.heap.size ≤ k_) ∧ some k_ ≠ (v373 : Value).ownBlock ∧ some k_ ≠ (.slice (some ad371) t362.length co37 : Value).ownBlock ∧ some k_ ≠ (.slice Ao38 x3_1.length co38 : Value).ownBlock) v369 y368) := ⟨h0_⟩
   have n1_ : Aside0 (Kd.R (Kd.int .i64) 3 w45 w0.heap.size (fun k_ => (P3_ k_ ∨ w.heap.size ≤ k_) ∧ some k_ ≠ (v369 : Value).ownBlock ∧ some k_ ≠ (.slice (some ad371) t362.length co37 : Value).ownBlock ∧ some k_ ≠ (.slice Ao38 x3_1.length co38 : Value).ownBlock) v373 y372) := ⟨h1_⟩
   have n2_ : Aside0 (Kd.R (Kd.int .i64) 3 w45 w0.heap.size (fun k_ => (P3_ k_ ∨ w.heap.size ≤ k_) ∧ some k_ ≠ (v369 : Value).ownBlock ∧ some k_ ≠ (v373 : Value).ownBlock ∧ some k_ ≠ (.slice Ao38 x3_1.length co38 : Value).ownBlock) (.slice (some ad371) t362.length co37) t362) := ⟨h2_⟩
   have n3_ : Aside0 (Kd.R (Kd.int .i64) 3 w45 w0.heap.size (fun k_ => (P3_ k_ ∨ w.heap.size ≤ k_) ∧ some k_ ≠ (v369 : Value).ownBlock ∧ some k_ ≠ (v373 : Value).ownBlock ∧ some k_ ≠ (.slice (some ad371) t362.length co37 : Value).ownBlock) (.slice Ao38 x3_1.length co38) x3_1) := ⟨h3_⟩
   have n4_ : Aside0 (w45.heap[gb355]? = some (.cells #[.int .i64 a0_0, .slice (some ad360) l0_1.length c0_1, .int .i64 a0_2] 73 (0, 0))) := ⟨h4_⟩
   have n5_ : Aside0 (Kept w w45 (fun k_ => P3_ k_)) := ⟨h5_⟩
   have n6_ : Aside0 (Below w0.heap.size w0 w45) := ⟨h6_⟩
   clear HO_3
   clear HO_10
   clear BK355
   clear HK
   clear HB
   clear h0_ h1_ h2_ h3_ h4_ h5_ h6_
   have HO370 := n0_
   have HO374 := n1_
   have HO_10 := n2_
   have HO_3 := n3_
   have BK355 := n4_
   have HK := n5_
   have HB := n6_
   clear n0_ n1_ n2_ n3_ n4_ n5_ n6_
   have hHeld : w45.cell? ⟨gb355, 0, none⟩ = some (.int .i64 a0_0) ∧ w45.cell? ⟨gb355, 1, none⟩ = some (.slice (some ad360) l0_1.length c0_1) ∧ w45.cell? ⟨gb355, 2, none⟩ = some (.int .i64 a0_2) ∧ w45.cell? (ad371.add (x11_1).toNat) = some (.int .i64 (rd t362 x11_1)) := hS_
   obtain ⟨Ao47, co47, eo47⟩ := Kd.R_slice HO374.out
   (first | subst eo47 | (injection eo47 with f1_ f2_ f3_; have f4_ := f1_.symm; have f5_ := f3_.symm; clear f1_ f2_ f3_; subst f4_; subst f5_))
   refine norm_ (a' := ?_) ?_ ?_
   rotate_left
   ·simp only [putAll, Act.put, yps]
    rfl
   refine one_ (i := 10) (N := some 65) #[true, true, true, true, true, true, true, true, true, true, true, true, false] rfl rfl (one_of HT_.out (by kernel_rfl)) (by decide) (fun K hK => ?_)
   refine Kd.R_append_rows_step (Kd.int .i64) (w0 := w0) w0.heap.size (by rfl) (.tmp 59) (.tmp 64) 22 3 (.int .i64 0) 8 rfl Try.underlying22 info3 rfl (by decide) (by omega) v369 y368 y372 _ _ _ (fun k_ => (P3_ k_ ∨ w.heap.size ≤ k_) ∧ some k_ ≠ (.slice Ao38 x3_1.length co38 : Value).ownBlock ∧ some k_ ≠ (.slice (some ad371) t362.length co37 : Value).ownBlock ∧ some k_ ≠ (.slice Ao47 y372.length co47 : Value).ownBlock) (fun _ => False) rfl rfl ?aO ?aR (fun _ _ h => h) (fun _ h => h.elim) ?aF ?aB ?aS ?aL ?_
   (case aR => repeat (first | exact (Kd.Yr HO374.out).2.2 | (with_reducible refine Kd.C_alloc ?_ _) | (with_reducible refine Kd.C_drewN ?_ _) | (with_reducible refine Kd.C_drew ?_)))
   (case aB => exact yhb)
   (case aF => exact (fun k_ hk => ⟨(.inr (Nat.le_trans (by first | exact HK.out.1 | exact (show Kept w _ (fun k_ => P3_ k_) from by repeat (first | (with_reducible first | exact HK.out | apply Kept.alloc | apply Kept.drewN | apply Kept.drew | refine Kept.setCell ?_ (.inr GW355.out) _) | exact HK.out)).1) hk)), Kd.fresh' (Kd.R_lt (Kd.Yz HO_3.out)) k_ hk, Kd.fresh' (Kd.R_lt (Kd.Yz HO_10.out)) k_ hk, Kd.fresh' (Kd.R_lt (Kd.Yz HO374.out)) k_ hk⟩))
   (case aO => exact (by (with_reducible repeat (first | apply Kd.Ya | apply Kd.Yn | apply Kd.Yd)); exact Kd.R_mono HO370.out (fun _ hk => ⟨hk.1, ⟨hk.2.2.2, ⟨hk.2.2.1, hk.2.1⟩⟩⟩)))
   (case aS => exact (below_size yhb))
   (case aL => have := LMc35.out; omega)
   intro v376 w46 ho hb hg hat
   have HS3_ := cell_grown hg (hHeld.2.2.2) (by first | (rw [add_block]; exact (fun e_ => (by have h_ := HO370.out.1 _ e_.symm; simp [Value.ownBlock] at h_))) | (show some (Addr.add _ _).block ≠ _; rw [add_block]; exact (fun e_ => (by have h_ := HO370.out.1 _ e_.symm; simp [Value.ownBlock] at h_))) | exact (fun e_ => (by have h_ := HO370.out.1 _ e_.symm; simp [Value.ownBlock] at h_)))
   rw [← Ny375.out] at ho
   have n0_ := yam (Kd.R_after (ok := (fun k_ => (P3_ k_ ∨ w.heap.size ≤ k_) ∧ some k_ ≠ (.slice (some ad371) t362.length co37 : Value).ownBlock ∧ some k_ ≠ (.slice Ao47 y372.length co47 : Value).ownBlock)) (by (with_reducible repeat (first | apply Kd.Ya | apply Kd.Yn | apply Kd.Yd)); exact Kd.R_mono HO_3.out (fun _ hk => ⟨⟨hk.1, ⟨hk.2.2.2, hk.2.2.1⟩⟩, hk.2.1⟩)) hg hat)
   have n1_ := yam (Kd.R_after (ok := (fun k_ => (P3_ k_ ∨ w.heap.size ≤ k_) ∧ some k_ ≠ (.slice Ao38 x3_1.length co38 : Value).ownBlock ∧ some k_ ≠ (.slice Ao47 y372.length co47 : Value).ownBlock)) (by (with_reducible repeat (first | apply Kd.Ya | apply Kd.Yn | apply Kd.Yd)); exact Kd.R_mono HO_10.out (fun _ hk => ⟨⟨hk.1, ⟨hk.2.2.2, hk.2.2.1⟩⟩, hk.2.1⟩)) hg hat)
   have n2_ := yam (blk_grown (g := gb355) (o := .cells #[.int .i64 a0_0, .slice (some ad360) l0_1.length c0_1, .int .i64 a0_2] 73 (0, 0)) (ybz BK355.out) hg (Kd.R_ne HO370.out BK355.out (by decide)))
   have n3_ := yam (Kd.R_after (ok := (fun k_ => (P3_ k_ ∨ w.heap.size ≤ k_) ∧ some k_ ≠ (.slice Ao38 x3_1.length co38 : Value).ownBlock ∧ some k_ ≠ (.slice (some ad371) t362.length co37 : Value).ownBlock)) (by (with_reducible repeat (first | apply Kd.Ya | apply Kd.Yn | apply Kd.Yd)); exact Kd.R_mono HO374.out (fun _ hk => ⟨⟨hk.1, ⟨hk.2.2.2, hk.2.2.1⟩⟩, hk.2.1⟩)) hg hat)
   have n4_ := yam (hb)
   have n5_ := yam (Kept.of_grown (S := (fun k_ => P3_ k_)) hg (by repeat (first | (with_reducible first | exact HK.out | apply Kept.alloc | apply Kept.drewN | apply Kept.drew | refine Kept.setCell ?_ (.inr GW355.out) _) | exact HK.out)) (fun k_ e_ => (HO370.out.1 k_ e_).1))
   have n6_ := yam (ho)
   clear HO_3
   clear HO_10
   clear BK355
   clear HO374
   clear HB
   clear HK
   clear HO370
   have HO_3 := n0_
   have HO_10 := n1_
   have BK355 := n2_
   have HO374 := n3_
   have HB := n4_
   have HK := n5_
   have HO377 := n6_
   clear n0_ n1_ n2_ n3_ n4_ n5_ n6_
   clear ho hb hg hat
   obtain ⟨Ao48, co48, eo48⟩ := Kd.R_slice HO377.out
   (first | subst eo48 | (injection eo48 with f1_ f2_ f3_; have f4_ := f1_.symm; have f5_ := f3_.symm; clear f1_ f2_ f3_; subst f4_; subst f5_))
   refine hK.out _ _ ⟨(blk_cell BK355.out 0).trans rfl, (blk_cell BK355.out 1).trans rfl, (blk_cell BK355.out 2).trans rfl, HS3_⟩ (fun hHeld => ?_)
   clear hK K
   refine norm_ (a' := ?_) ?_ ?_
   rotate_left
   ·show Act.put _ (some 65) _ = _
    simp only [Act.put, yps, i64_w, i32_w]
    rfl
   refine one_ (i := 12) (N := some 67) #[true, true, true, true, true, true, true, true, true, true, true, true, true] rfl rfl (one_of HT_.out (by kernel_rfl)) (by decide) (fun K hK => ?_)
   refine goes_ Try.func98 (by kernel_rfl) rfl #[.agg #[.int .i64 a0_0, .slice (some ad360) l0_1.length c0_1, .int .i64 a0_2], .slice (some ad361) l1.length c1, .slice Ao48 y375.length co48, .slice Ao38 x3_1.length co38] (by rfl) rfl rfl ymd ?_
   with_reducible refine (ih k1 (by have := HK1.out; omega) a0_0 _ _ l0_1 a0_2 _ _ l1 _ _ y375 (fun k_ => some k_ = (.slice Ao38 x3_1.length co38 : Value).ownBlock) (.slice Ao38 x3_1.length co38) x3_1 t378 w0 _ ?side1 ?side2 ?side3 ?side4 ?side5 ?side6 ?side7 ?side8 A36.out).mono ?_
   (case side1 => repeat (first | (with_reducible first | exact HB.out | apply yea | apply yen | apply yed | refine below_set ?_ GE355.out) | exact HB.out))
   (case side2 => exact Kd.C_kept_call HR0_1.out (by repeat (first | (with_reducible first | exact HK.out | apply Kept.alloc | apply Kept.drewN | apply Kept.drew | refine Kept.setCell ?_ (.inr GW355.out) _) | exact HK.out)) (fun k_ hs_ => (fun e_ => (HO_3.out.1 k_ e_.symm).1.1) hs_))
   (case side3 => exact HC0_1.out)
   (case side4 => exact Kd.C_kept_call HR1.out (by repeat (first | (with_reducible first | exact HK.out | apply Kept.alloc | apply Kept.drewN | apply Kept.drew | refine Kept.setCell ?_ (.inr GW355.out) _) | exact HK.out)) (fun k_ hs_ => (fun e_ => (HO_3.out.1 k_ e_.symm).1.1) hs_))
   (case side5 => exact HC1.out)
   (case side6 => exact Kd.C_kept_own (HO377.out) (fun k_ hk_ hs_ => (hk_.2.1) hs_))
   (case side7 => exact (Kd.Yr HO377.out).2.1)
   (case side8 => exact Kd.R_tight rfl HO_3.out)
   rintro e w49 ⟨rfl, hy0, hb, hkp⟩
   have HS3_ := cell_kept (hHeld.2.2.2) hkp (by first | (rw [add_block]; exact (fun hs_ => (((HO_10.out).1 _ rfl).1.2.1) hs_)) | (show ¬ _; simp only [add_block]; exact (fun hs_ => (((HO_10.out).1 _ rfl).1.2.1) hs_)) | exact (fun hs_ => (((HO_10.out).1 _ rfl).1.2.1) hs_))
   refine ⟨_, rfl, ?_⟩
   have n0_ := yam (Kd.R_reok rfl hy0 (fun k_ e_ => HO_3.out.1 k_ e_))
   have n1_ := yam (Kd.R_mono (ok' := fun k_ => (P3_ k_ ∨ w.heap.size ≤ k_) ∧ some k_ ≠ (.slice Ao38 x3_1.length co38 : Value).ownBlock ∧ some k_ ≠ (.slice Ao47 y372.length co47 : Value).ownBlock ∧ some k_ ≠ (.slice Ao48 y375.length co48 : Value).ownBlock) (Kd.R_keptB (HO_10.out) hkp (fun k_ hk_ hs_ => (hk_.1.2.1) hs_)) (fun k_ hk_ => ⟨hk_.1.1.1, hk_.1.1.2.1, hk_.1.1.2.2, hk_.1.2⟩))
   have n2_ := yam (blk_kept (ybz BK355.out) hkp (fun hs_ => (fun e_ => (Kd.R_ne HO_3.out BK355.out (by decide)) e_) hs_))
   have n3_ := yam (Kd.R_mono (ok' := fun k_ => (P3_ k_ ∨ w.heap.size ≤ k_) ∧ some k_ ≠ (.slice Ao38 x3_1.length co38 : Value).ownBlock ∧ some k_ ≠ (.slice (some ad371) t362.length co37 : Value).ownBlock ∧ some k_ ≠ (.slice Ao48 y375.length co48 : Value).ownBlock) (Kd.R_keptB (HO374.out) hkp (fun k_ hk_ hs_ => (hk_.1.2.1) hs_)) (fun k_ hk_ => ⟨hk_.1.1.1, hk_.1.1.2.1, hk_.1.1.2.2, hk_.1.2⟩))
   have n4_ := yam (Kd.R_mono (ok' := fun k_ => (P3_ k_ ∨ w.heap.size ≤ k_) ∧ some k_ ≠ (.slice Ao38 x3_1.length co38 : Value).ownBlock ∧ some k_ ≠ (.slice (some ad371) t362.length co37 : Value).ownBlock ∧ some k_ ≠ (.slice Ao47 y372.length co47 : Value).ownBlock) (Kd.R_keptB (HO377.out) hkp (fun k_ hk_ hs_ => (hk_.2.1) hs_)) (fun k_ hk_ => ⟨hk_.1.1, hk_.1.2.1, hk_.1.2.2.1, hk_.1.2.2.2⟩))
   have n5_ := yam (Kept.then_ (S := (fun k_ => P3_ k_)) (by repeat (first | (with_reducible first | exact HK.out | apply Kept.alloc | apply Kept.drewN | apply Kept.drew | refine Kept.setCell ?_ (.inr GW355.out) _) | exact HK.out)) hkp (fun k_ hs_ => (fun e_ => (HO_3.out.1 k_ e_.symm).1.1) hs_))
   have n6_ := yam (hb)
   clear HO_3
   clear HO_10
   clear BK355
   clear HO374
   clear HO377
   clear HK
   clear HB
   have HO_3 := n0_
   have HO_10 := n1_
   have BK355 := n2_
   have HO374 := n3_
   have HO377 := n4_
   have HK := n5_
   have HB := n6_
   clear n0_ n1_ n2_ n3_ n4_ n5_ n6_
   (try clear hb)
   (try clear hkp)
   (try clear hy0)
   refine hK.out _ _ ⟨(blk_cell BK355.out 0).trans rfl, (blk_cell BK355.out 1).trans rfl, (blk_cell BK355.out 2).trans rfl, HS3_⟩ (fun hHeld => ?_)
   clear hK K
   refine norm_ (a' := ?_) ?_ ?_
   rotate_left
   ·show Act.put _ (some 67) _ = _
    simp only [Act.put, yps, i64_w, i32_w]
    rfl
   refine done_ (done_of HT_.out (by kernel_rfl)) ?_
   try go_wp2
   go_roundg k1
   case measure => have := HK1.out; omega
   case rel => exact ⟨(t378), (wrap64 (x11_1 + 1)), yeq, H', ⟨by have := HK1.out; omega⟩, ⟨by (with_reducible repeat (first | apply Kd.Ya | apply Kd.Yn | apply Kd.Yd)); exact Kd.R_mono HO_3.out (fun _ hk => ⟨hk.1.1, hk.1.2.1⟩)⟩, ⟨by (with_reducible repeat (first | apply Kd.Ya | apply Kd.Yn | apply Kd.Yd)); exact Kd.R_mono HO_10.out (fun _ hk => ⟨hk.1, hk.2.1⟩)⟩, ⟨by (with_reducible repeat (first | refine ybn ?_ _ | refine ybd ?_ | refine yba ?_ _)); exact BK355.out⟩, ⟨by repeat (first | (with_reducible first | exact HK.out | apply Kept.alloc | apply Kept.drewN | apply Kept.drew | refine Kept.setCell ?_ (.inr GW355.out) _) | exact HK.out)⟩, ⟨yhb⟩⟩
def spec_RuleMasks.f (k : Nat) (a0_0 : Int) (l0_1 : List Int) (a0_2 : Int) (l1 : List Int) (a2 : Int) : Option (List Int) := (spec_RuleValid.f k a0_0 l0_1 a0_2 a2).bind fun t380 => (if t380 = true then ((spec_MasksValid.f k l1 a2).bind fun t381 => (if t381 = true then (if 0 ≤ (l0_1.length : Int) then (if ((l0_1.length : Int) : Int).toNat ≤ 35184372088832 then ((spec_l4Ways.f k a0_0 l0_1 a0_2 l1 (([] : List Int)) (List.replicate ((l0_1.length : Int) : Int).toNat 0)).bind fun t388 => (some t388)) else (none)) else (none)) else (some (([] : List Int))))) else (some (([] : List Int))))
set_option maxHeartbeats 8000000 in
set_option maxRecDepth 100000 in
theorem spec_RuleMasks.calls (k : Nat) (a0_0 : Int) (A0_1 : Option Addr) (c0_1 : Nat) (l0_1 : List Int) (a0_2 : Int) (A1 : Option Addr) (c1 : Nat) (l1 : List Int) (a2 : Int) (r : List Int) (w : World) (hr0_1 : Kd.C (Kd.int .i64) w A0_1 l0_1.length l0_1) (hc0_1 : l0_1.length ≤ c0_1) (hr1 : Kd.C (Kd.int .i64) w A1 l1.length l1) (hc1 : l1.length ≤ c1) (h : spec_RuleMasks.f k a0_0 l0_1 a0_2 l1 a2 = some r) :
  Calls Try.prog 96 #[.agg #[.int .i64 a0_0, .slice A0_1 l0_1.length c0_1, .int .i64 a0_2], .slice A1 l1.length c1, .int .i64 a2] w fun e w' => ∃ v0_ : Value, e = .returned (v0_) ∧ Kd.R (Kd.int .i64) 3 w' w.heap.size (fun _ => True) v0_ r ∧ Below w.heap.size w w' := by
 have hu73 := Try.underlying73
 have HR0_1 := yam hr0_1
 have HC0_1 := yam hc0_1
 clear hr0_1 hc0_1
 have HR1 := yam hr1
 have HC1 := yam hc1
 clear hr1 hc1
 have HB := yam (Below.refl w.heap.size w)
 have H : ((spec_RuleValid.f k a0_0 l0_1 a0_2 a2).bind fun t380 => (if t380 = true then ((spec_MasksValid.f k l1 a2).bind fun t381 => (if t381 = true then (if 0 ≤ (l0_1.length : Int) then (if ((l0_1.length : Int) : Int).toNat ≤ 35184372088832 then ((spec_l4Ways.f k a0_0 l0_1 a0_2 l1 (([] : List Int)) (List.replicate ((l0_1.length : Int) : Int).toNat 0)).bind fun t388 => (some t388)) else (none)) else (none)) else (some (([] : List Int))))) else (some (([] : List Int))))) = some r := h
 clear h
 replace H := Option.bind_eq_some_iff.mp H
 obtain ⟨t380, A40, H⟩ := H
 try dsimp only at H
 have A4 := yam A40
 clear A40
 by_cases c5 : t380 = true
 rotate_left
 ·replace c5 := Bool.eq_false_iff.mpr c5
  subst c5
  have H1 : (some (([] : List Int))) = some r := by rw [if_neg (show ¬ (false = true) by decide)] at H; exact H
  clear H
  have H := H1
  clear H1
  obtain ⟨y392, hy392⟩ : ∃ y_ : List Int, y_ = (([] : List Int)) := ⟨_, rfl⟩
  replace H : (some y392) = some r := by first | (rw [hy392]; with_reducible exact H) | (have H2_ := (Option.bind_some _ _).symm.trans H; rw [hy392]; with_reducible exact H2_) | (have H2_ := (Option.bind_some _ _).symm.trans H; with_reducible exact H2_) | with_reducible exact H | (rw [hy392]; exact H) | exact H
  have Ny392 := yam hy392
  clear hy392
  obtain rfl := Option.some.inj H
  go_enter Try.func96, Try.ntmps96
  go_wp2_with (first | (refine ybe 3 #[.int .i64 a0_0, .slice A0_1 l0_1.length c0_1, .int .i64 a0_2] 73 ?_; intro gb379 hg w28 hbox hb; have n0_ := yam (below_step (yez HB.out) hb); have n1_ := yam (hbox); have n2_ := yam ((by rw [hg]; exact (below_size (yez HB.out)) : w.heap.size ≤ gb379)); have n3_ := n2_; clear HB; have HB := n0_; have BK379 := n1_; have GW379 := n2_; have GE379 := n3_; clear n0_ n1_ n2_ n3_; clear hb hbox hg; obtain ⟨hcz29_0, hcz29_1, hcz29_2, hfz29_0, hfz29_1, hfz29_2⟩ := ybc BK379.out) | (refine goesL_ (some 10) rfl rfl Try.func83 (by kernel_rfl) rfl #[.agg #[.int .i64 a0_0, .slice A0_1 l0_1.length c0_1, .int .i64 a0_2], .int .i64 a2] rfl ymd ?_; (with_reducible refine (spec_RuleValid.calls k a0_0 _ _ l0_1 a0_2 a2 false _ ?side1 ?side2 A4.out).mono ?_); (case side1 => exact Kd.Cz ((Kd.C_below HR0_1.out HB.out))); (case side2 => exact HC0_1.out); rintro e w30 ⟨rfl, hb⟩; refine ⟨_, rfl, ?_⟩; have n0_ := yam (blk_below (g := gb379) (o := .cells #[.int .i64 a0_0, .slice A0_1 l0_1.length c0_1, .int .i64 a0_2] 73 (0, 0)) (ybz BK379.out) hb); have n1_ := yam (below_step yhb hb); clear BK379; clear HB; have BK379 := n0_; have HB := n1_; clear n0_ n1_; (try clear hb); (try clear hb2); (try clear hk); (try clear hi)) | ((with_reducible refine gate_dst (N := 18) rfl ?_); refine Kd.R_lit (Kd.int .i64) _ 3 ?hg (N := 18) ?hd (xs := ([] : List Int)) (inner := []) (ok := fun _ => True) (okp := fun _ => True) ?hr ?hp (fun _ hk => hk) trivial (Below.refl _ _) (Nat.le_refl _) (by simp) ?_; (case hd => rfl); (case hg => rfl); (case hr => first | (go_simp; done) | (go_simp; rfl)); (case hp => exact (Reps.none _ _)); intro v393 w31 ho32 hb hg_ hnew_; clear hg_ hnew_; (first | rw [← Ny392.out] at ho32 | (simp only [Int.reduceToNat] at ho32; rw [← Ny392.out] at ho32)); have n0_ := yam (Kd.R_lower ho32 (below_size yhb)); have n1_ := yam (blk_below (g := gb379) (o := .cells #[.int .i64 a0_0, .slice A0_1 l0_1.length c0_1, .int .i64 a0_2] 73 (0, 0)) (ybz BK379.out) hb); have n2_ := yam (below_step yhb hb); clear BK379; clear HB; have HO394 := n0_; have BK379 := n1_; have HB := n2_; clear n0_ n1_ n2_; clear hb ho32))
  go_ret
  exact ⟨_, yer, yka HO394.out, yhb⟩

 subst c5
 have H1 : ((spec_MasksValid.f k l1 a2).bind fun t381 => (if t381 = true then (if 0 ≤ (l0_1.length : Int) then (if ((l0_1.length : Int) : Int).toNat ≤ 35184372088832 then ((spec_l4Ways.f k a0_0 l0_1 a0_2 l1 (([] : List Int)) (List.replicate ((l0_1.length : Int) : Int).toNat 0)).bind fun t388 => (some t388)) else (none)) else (none)) else (some (([] : List Int))))) = some r := by rw [if_pos rfl] at H; exact H
 clear H
 have H := H1
 clear H1
 replace H := Option.bind_eq_some_iff.mp H
 obtain ⟨t381, A60, H⟩ := H
 try dsimp only at H
 have A6 := yam A60
 clear A60
 by_cases c7 : t381 = true
 rotate_left
 ·replace c7 := Bool.eq_false_iff.mpr c7
  subst c7
  have H1 : (some (([] : List Int))) = some r := by rw [if_neg (show ¬ (false = true) by decide)] at H; exact H
  clear H
  have H := H1
  clear H1
  obtain ⟨y389, hy389⟩ : ∃ y_ : List Int, y_ = (([] : List Int)) := ⟨_, rfl⟩
  replace H : (some y389) = some r := by first | (rw [hy389]; with_reducible exact H) | (have H2_ := (Option.bind_some _ _).symm.trans H; rw [hy389]; with_reducible exact H2_) | (have H2_ := (Option.bind_some _ _).symm.trans H; with_reducible exact H2_) | with_reducible exact H | (rw [hy389]; exact H) | exact H
  have Ny389 := yam hy389
  clear hy389
  obtain rfl := Option.some.inj H
  go_enter Try.func96, Try.ntmps96
  go_wp2_with (first | (refine ybe 3 #[.int .i64 a0_0, .slice A0_1 l0_1.length c0_1, .int .i64 a0_2] 73 ?_; intro gb379 hg w23 hbox hb; have n0_ := yam (below_step (yez HB.out) hb); have n1_ := yam (hbox); have n2_ := yam ((by rw [hg]; exact (below_size (yez HB.out)) : w.heap.size ≤ gb379)); have n3_ := n2_; clear HB; have HB := n0_; have BK379 := n1_; have GW379 := n2_; have GE379 := n3_; clear n0_ n1_ n2_ n3_; clear hb hbox hg; obtain ⟨hcz24_0, hcz24_1, hcz24_2, hfz24_0, hfz24_1, hfz24_2⟩ := ybc BK379.out) | (refine goesL_ (some 10) rfl rfl Try.func83 (by kernel_rfl) rfl #[.agg #[.int .i64 a0_0, .slice A0_1 l0_1.length c0_1, .int .i64 a0_2], .int .i64 a2] rfl ymd ?_; (with_reducible refine (spec_RuleValid.calls k a0_0 _ _ l0_1 a0_2 a2 true _ ?side1 ?side2 A4.out).mono ?_); (case side1 => exact Kd.Cz ((Kd.C_below HR0_1.out HB.out))); (case side2 => exact HC0_1.out); rintro e w25 ⟨rfl, hb⟩; refine ⟨_, rfl, ?_⟩; have n0_ := yam (blk_below (g := gb379) (o := .cells #[.int .i64 a0_0, .slice A0_1 l0_1.length c0_1, .int .i64 a0_2] 73 (0, 0)) (ybz BK379.out) hb); have n1_ := yam (below_step yhb hb); clear BK379; clear HB; have BK379 := n0_; have HB := n1_; clear n0_ n1_; (try clear hb); (try clear hb2); (try clear hk); (try clear hi)) | (go_at_call 97; (with_reducible refine (spec_MasksValid.calls k _ _ l1 a2 false _ ?side1 ?side2 A6.out).mono ?_); (case side1 => exact Kd.Cz ((Kd.C_below HR1.out HB.out))); (case side2 => exact HC1.out); rintro e w' ⟨rfl, ⟨nd, rfl⟩⟩) | ((with_reducible refine gate_dst (N := 18) rfl ?_); refine Kd.R_lit (Kd.int .i64) _ 3 ?hg (N := 18) ?hd (xs := ([] : List Int)) (inner := []) (ok := fun _ => True) (okp := fun _ => True) ?hr ?hp (fun _ hk => hk) trivial (Below.refl _ _) (Nat.le_refl _) (by simp) ?_; (case hd => rfl); (case hg => rfl); (case hr => first | (go_simp; done) | (go_simp; rfl)); (case hp => exact (Reps.none _ _)); intro v390 w26 ho27 hb hg_ hnew_; clear hg_ hnew_; (first | rw [← Ny389.out] at ho27 | (simp only [Int.reduceToNat] at ho27; rw [← Ny389.out] at ho27)); have n0_ := yam (Kd.R_lower ho27 (below_size yhb)); have n1_ := yam (blk_below (g := gb379) (o := .cells #[.int .i64 a0_0, .slice A0_1 l0_1.length c0_1, .int .i64 a0_2] 73 (0, 0)) (ybz BK379.out) hb); have n2_ := yam (below_step yhb hb); clear BK379; clear HB; have HO391 := n0_; have BK379 := n1_; have HB := n2_; clear n0_ n1_ n2_; clear hb ho27))
  go_ret
  exact ⟨_, yer, yka HO391.out, yhb⟩
 subst c7
 have H1 : (if 0 ≤ (l0_1.length : Int) then (if ((l0_1.length : Int) : Int).toNat ≤ 35184372088832 then ((spec_l4Ways.f k a0_0 l0_1 a0_2 l1 (([] : List Int)) (List.replicate ((l0_1.length : Int) : Int).toNat 0)).bind fun t388 => (some t388)) else (none)) else (none)) = some r := by rw [if_pos rfl] at H; exact H
 clear H
 have H := H1
 clear H1
 replace H := yig H
 obtain ⟨c8, H⟩ := H
 have c8b0 := eq_true c8
 have c8b1 : decide (0 ≤ (l0_1.length : Int)) = true := decide_eq_true c8
 clear c8
 replace H := yig H
 obtain ⟨c9, H⟩ := H
 have c9b0 := eq_true c9
 have c9b1 : decide (((l0_1.length : Int) : Int).toNat ≤ 35184372088832) = true := decide_eq_true c9
 clear c9
 obtain ⟨y382, hy382⟩ : ∃ y_ : List Int, y_ = (List.replicate ((l0_1.length : Int) : Int).toNat 0) := ⟨_, rfl⟩
 replace H : ((spec_l4Ways.f k a0_0 l0_1 a0_2 l1 (([] : List Int)) y382).bind fun t388 => (some t388)) = some r := by first | (rw [hy382]; with_reducible exact H) | (have H2_ := (Option.bind_some _ _).symm.trans H; rw [hy382]; with_reducible exact H2_) | (have H2_ := (Option.bind_some _ _).symm.trans H; with_reducible exact H2_) | with_reducible exact H | (rw [hy382]; exact H) | exact H
 have Ny382 := yam hy382
 clear hy382
 obtain ⟨y385, hy385⟩ : ∃ y_ : List Int, y_ = (([] : List Int)) := ⟨_, rfl⟩
 replace H : ((spec_l4Ways.f k a0_0 l0_1 a0_2 l1 y385 y382).bind fun t388 => (some t388)) = some r := by first | (rw [hy385]; with_reducible exact H) | (have H2_ := (Option.bind_some _ _).symm.trans H; rw [hy385]; with_reducible exact H2_) | (have H2_ := (Option.bind_some _ _).symm.trans H; with_reducible exact H2_) | with_reducible exact H | (rw [hy385]; exact H) | exact H
 have Ny385 := yam hy385
 clear hy385
 replace H := Option.bind_eq_some_iff.mp H
 obtain ⟨t388, A100, H⟩ := H
 try dsimp only at H
 have A10 := yam A100
 clear A100
 obtain rfl := Option.some.inj H
 go_enter Try.func96, Try.ntmps96
 go_wp2_with (first | (refine ybe 3 #[.int .i64 a0_0, .slice A0_1 l0_1.length c0_1, .int .i64 a0_2] 73 ?_; intro gb379 hg w11 hbox hb; have n0_ := yam (below_step (yez HB.out) hb); have n1_ := yam (hbox); have n2_ := yam ((by rw [hg]; exact (below_size (yez HB.out)) : w.heap.size ≤ gb379)); have n3_ := n2_; clear HB; have HB := n0_; have BK379 := n1_; have GW379 := n2_; have GE379 := n3_; clear n0_ n1_ n2_ n3_; clear hb hbox hg; obtain ⟨hcz12_0, hcz12_1, hcz12_2, hfz12_0, hfz12_1, hfz12_2⟩ := ybc BK379.out) | (refine goesL_ (some 10) rfl rfl Try.func83 (by kernel_rfl) rfl #[.agg #[.int .i64 a0_0, .slice A0_1 l0_1.length c0_1, .int .i64 a0_2], .int .i64 a2] rfl ymd ?_; (with_reducible refine (spec_RuleValid.calls k a0_0 _ _ l0_1 a0_2 a2 true _ ?side1 ?side2 A4.out).mono ?_); (case side1 => exact Kd.Cz ((Kd.C_below HR0_1.out HB.out))); (case side2 => exact HC0_1.out); rintro e w13 ⟨rfl, hb⟩; refine ⟨_, rfl, ?_⟩; have n0_ := yam (blk_below (g := gb379) (o := .cells #[.int .i64 a0_0, .slice A0_1 l0_1.length c0_1, .int .i64 a0_2] 73 (0, 0)) (ybz BK379.out) hb); have n1_ := yam (below_step yhb hb); clear BK379; clear HB; have BK379 := n0_; have HB := n1_; clear n0_ n1_; (try clear hb); (try clear hb2); (try clear hk); (try clear hi)) | (go_at_call 97; (with_reducible refine (spec_MasksValid.calls k _ _ l1 a2 true _ ?side1 ?side2 A6.out).mono ?_); (case side1 => exact Kd.Cz ((Kd.C_below HR1.out HB.out))); (case side2 => exact HC1.out); rintro e w' ⟨rfl, ⟨nd, rfl⟩⟩; obtain ⟨hcz14_0, hcz14_1, hcz14_2, hfz14_0, hfz14_1, hfz14_2⟩ := ybc BK379.out) | ((with_reducible refine gate_dst (N := 22) rfl ?_); refine Kd.R_make (Kd.int .i64) _ 3 rfl (N := 22) rfl 22 _ _ rfl (l0_1.length : Int) rfl rfl Try.underlying22 (.int .i64 0) 8 info3 rfl (by decide) (by omega) 0 (ok := fun _ => True) (okp := fun _ => True) rfl (fun _ hk => hk) trivial (ydt) (Nat.le_trans (Nat.mul_le_mul_right _ (ydt : (l0_1.length : Int).toNat ≤ 35184372088832)) (by omega)) (Below.refl _ _) (Nat.le_refl _) ?_; intro v383 w15 ho16 hb hg_ hnew_; clear hg_ hnew_; (first | rw [← Ny382.out] at ho16 | (simp only [Int.reduceToNat] at ho16; rw [← Ny382.out] at ho16)); have n0_ := yam (Kd.R_lower ho16 (below_size yhb)); have n1_ := yam (blk_below (g := gb379) (o := .cells #[.int .i64 a0_0, .slice A0_1 l0_1.length c0_1, .int .i64 a0_2] 73 (0, 0)) (ybz BK379.out) hb); have n2_ := yam (below_step yhb hb); clear BK379; clear HB; have HO384 := n0_; have BK379 := n1_; have HB := n2_; clear n0_ n1_ n2_; clear hb ho16; obtain ⟨hcz17_0, hcz17_1, hcz17_2, hfz17_0, hfz17_1, hfz17_2⟩ := ybc BK379.out) | ((with_reducible refine gate_dst (N := 25) rfl ?_); refine Kd.R_lit (Kd.int .i64) _ 3 ?hg (N := 25) ?hd (xs := ([] : List Int)) (inner := []) (ok := fun _ => True) (okp := fun _ => True) ?hr ?hp (fun _ hk => hk) trivial (Below.refl _ _) (Nat.le_refl _) (by simp) ?_; (case hd => rfl); (case hg => rfl); (case hr => first | (go_simp; done) | (go_simp; rfl)); (case hp => exact (Reps.none _ _)); intro v386 w18 ho19 hb hg_ hnew_; clear hg_ hnew_; (first | rw [← Ny385.out] at ho19 | (simp only [Int.reduceToNat] at ho19; rw [← Ny385.out] at ho19)); have n0_ := yam (Kd.Ye (Kd.Yz HO384.out) (Kd.Yb ho19) hb); have n1_ := yam (Kd.R_lower (Kd.Yw ho19 (Kd.R_lt (Kd.Yz HO384.out))) (below_size yhb)); have n2_ := yam (blk_below (g := gb379) (o := .cells #[.int .i64 a0_0, .slice A0_1 l0_1.length c0_1, .int .i64 a0_2] 73 (0, 0)) (ybz BK379.out) hb); have n3_ := yam (below_step yhb hb); clear HO384; clear BK379; clear HB; have HO384 := n0_; have HO387 := n1_; have BK379 := n2_; have HB := n3_; clear n0_ n1_ n2_ n3_; clear hb ho19; obtain ⟨Ao20, co20, eo20⟩ := Kd.R_slice HO387.out; subst eo20; obtain ⟨Ao21, co21, eo21⟩ := Kd.R_slice HO384.out; subst eo21) | (refine goesL_ (some 27) rfl rfl Try.func98 (by kernel_rfl) rfl #[.agg #[.int .i64 a0_0, .slice A0_1 l0_1.length c0_1, .int .i64 a0_2], .slice A1 l1.length c1, .slice Ao20 y385.length co20, .slice Ao21 y382.length co21] rfl ymd ?_; (with_reducible refine (spec_l4Ways.calls k a0_0 _ _ l0_1 a0_2 _ _ l1 _ _ y385 (fun k_ => some k_ = (.slice Ao21 y382.length co21 : Value).ownBlock) (.slice Ao21 y382.length co21) y382 t388 w _ ?side1 ?side2 ?side3 ?side4 ?side5 ?side6 ?side7 ?side8 A10.out).mono ?_); (case side1 => repeat (first | (with_reducible first | exact HB.out | apply yea | apply yen | apply yed | refine below_set ?_ GE379.out) | exact HB.out)); (case side2 => exact Kd.C_kept_came (Kd.heap_int .i64) HR0_1.out yhb (fun k_ hs_ => (fun e_ => Kd.Yb HO384.out k_ e_.symm) hs_)); (case side3 => exact HC0_1.out); (case side4 => exact Kd.C_kept_came (Kd.heap_int .i64) HR1.out yhb (fun k_ hs_ => (fun e_ => Kd.Yb HO384.out k_ e_.symm) hs_)); (case side5 => exact HC1.out); (case side6 => exact Kd.C_kept_own (HO387.out) (fun k_ hk_ hs_ => (hk_.2) hs_)); (case side7 => exact (Kd.Yr HO387.out).2.1); (case side8 => exact Kd.R_tight rfl HO384.out); rintro e w22 ⟨rfl, hy0, hb, hkp⟩; refine ⟨_, rfl, ?_⟩; have n0_ := yam (blk_kept (ybz BK379.out) hkp (fun hs_ => (fun e_ => (Kd.R_ne HO384.out BK379.out (by decide)) e_) hs_)); have n1_ := yam (Kd.R_reok rfl hy0 (fun k_ e_ => HO384.out.1 k_ e_)); have n2_ := yam (Kd.R_mono (ok' := fun k_ => some k_ ≠ (.slice Ao21 y382.length co21 : Value).ownBlock) (Kd.R_keptB (HO387.out) hkp (fun k_ hk_ hs_ => (hk_.2) hs_)) (fun k_ hk_ => hk_.1.2)); have n3_ := yam (hb); clear BK379; clear HO384; clear HO387; clear HB; have BK379 := n0_; have HO384 := n1_; have HO387 := n2_; have HB := n3_; clear n0_ n1_ n2_ n3_; (try clear hb); (try clear hkp); (try clear hy0)))
 go_ret
 exact ⟨_, yer, by (with_reducible repeat (first | apply Kd.Ya | apply Kd.Yn | apply Kd.Yd)); exact Kd.R_mono HO384.out (fun _ hk => trivial), yhb⟩
mutual
def spec_RulePossible.j0 : Nat → List Int → Int → Bool → Int → List Int → Int → Option (Bool)
 | 0, _, _, _, _, _, _ => none
 | k + 1, x1, x2, x19, x396000, x396001, x396002 => if x19 = true then (some false) else (spec_RulePossible.l0 k x1 x2 (([] : List Int)) 0 x396000 x396001 x396002)
def spec_RulePossible.l0 : Nat → List Int → Int → List Int → Int → Int → List Int → Int → Option (Bool)
 | 0, _, _, _, _, _, _, _ => none
 | k + 1, x1, x2, x7, x8, x396000, x396001, x396002 => if x8 < (x1.length : Int) then (if 0 ≤ x8 then (if 0 ≤ (rd x1 x8) then (if (rd x1 x8) = 0 then (if 0 ≤ (wrap64 (x2 + 1)) then (if x7.length < 17592186044416 then (spec_RulePossible.l0 k x1 x2 (x7 ++ [wrap64 ((shl .i64 1 (wrap64 (x2 + 1))) - 2)]) (wrap64 (x8 + 1)) x396000 x396001 x396002) else (none)) else (none)) else (if x7.length < 17592186044416 then (spec_RulePossible.l0 k x1 x2 (x7 ++ [shl .i64 1 (rd x1 x8)]) (wrap64 (x8 + 1)) x396000 x396001 x396002) else (none))) else (none)) else (none)) else ((spec_RuleMasks.f k x396000 x396001 x396002 x7 x2).bind fun t409 => (if 0 < (t409.length : Int) then (some ((rd t409 0) != 0)) else (none)))
end
def spec_RulePossible.f (k : Nat) (a0_0 : Int) (l0_1 : List Int) (a0_2 : Int) (l1 : List Int) (a2 : Int) : Option (Bool) := (spec_RuleValid.f k a0_0 l0_1 a0_2 a2).bind fun t396 => (if t396 = true then ((spec_GridValid.f k l1 a2).bind fun t397 => (spec_RulePossible.j0 k l1 a2 (!t397) a0_0 l0_1 a0_2)) else (spec_RulePossible.j0 k l1 a2 true a0_0 l0_1 a0_2))
set_option maxHeartbeats 8000000 in
set_option maxRecDepth 100000 in
theorem spec_RulePossible.calls (k : Nat) (a0_0 : Int) (A0_1 : Option Addr) (c0_1 : Nat) (l0_1 : List Int) (a0_2 : Int) (A1 : Option Addr) (c1 : Nat) (l1 : List Int) (a2 : Int) (r : Bool) (w : World) (hr0_1 : Kd.C (Kd.int .i64) w A0_1 l0_1.length l0_1) (hc0_1 : l0_1.length ≤ c0_1) (hr1 : Kd.C (Kd.int .i64) w A1 l1.length l1) (hc1 : l1.length ≤ c1) (h : spec_RulePossible.f k a0_0 l0_1 a0_2 l1 a2 = some r) :
  Calls Try.prog 94 #[.agg #[.int .i64 a0_0, .slice A0_1 l0_1.length c0_1, .int .i64 a0_2], .slice A1 l1.length c1, .int .i64 a2] w fun e w' => e = .returned (.bool r) ∧ Below w.heap.size w w' := by
 have hu73 := Try.underlying73
 have HR0_1 := yam hr0_1
 have HC0_1 := yam hc0_1
 clear hr0_1 hc0_1
 have HR1 := yam hr1
 have HC1 := yam hc1
 clear hr1 hc1
 have HB := yam (Below.refl w.heap.size w)
 have H : ((spec_RuleValid.f k a0_0 l0_1 a0_2 a2).bind fun t396 => (if t396 = true then ((spec_GridValid.f k l1 a2).bind fun t397 => (spec_RulePossible.j0 k l1 a2 (!t397) a0_0 l0_1 a0_2)) else (spec_RulePossible.j0 k l1 a2 true a0_0 l0_1 a0_2))) = some r := h
 clear h
 have HC4 := yam H
 clear H
 go_enter Try.func94, Try.ntmps94
 go_upto_region 1 with (first | (refine ybe 3 #[.int .i64 a0_0, .slice A0_1 l0_1.length c0_1, .int .i64 a0_2] 73 ?_; intro gb395 hg w5 hbox hb; have n0_ := yam (below_step (yez HB.out) hb); have n1_ := yam (hbox); have n2_ := yam ((by rw [hg]; exact (below_size (yez HB.out)) : w.heap.size ≤ gb395)); have n3_ := n2_; clear HB; have HB := n0_; have BK395 := n1_; have GW395 := n2_; have GE395 := n3_; clear n0_ n1_ n2_ n3_; clear hb hbox hg))
 (try simp only [Act.put, yps])
 go_cut [19] (fun v19 wc => ∃ (kq : Nat) (x19_3 : Bool), v19 = .bool x19_3 ∧ Aside0 (spec_RulePossible.j0 kq l1 a2 x19_3 a0_0 l0_1 a0_2 = some r) ∧ Aside0 (kq ≤ k) ∧ Aside0 (wc.heap[gb395]? = some (.cells #[.int .i64 a0_0, (.slice A0_1 l0_1.length c0_1), .int .i64 a0_2] 73 (0, 0))) ∧ Aside0 (Below w.heap.size w wc))
 case first =>
  have H := HC4.out
  clear HC4
  replace H := Option.bind_eq_some_iff.mp H
  obtain ⟨t396, A60, H⟩ := H
  try dsimp only at H
  have A6 := yam A60
  clear A60
  by_cases c7 : t396 = true
  rotate_left
  ·replace c7 := Bool.eq_false_iff.mpr c7
   subst c7
   have H1 : (spec_RulePossible.j0 k l1 a2 true a0_0 l0_1 a0_2) = some r := by rw [if_neg (show ¬ (false = true) by decide)] at H; exact H
   clear H
   have H := H1
   clear H1
   have H' := yam H
   clear H
   obtain ⟨hcz11_0, hcz11_1, hcz11_2, hfz11_0, hfz11_1, hfz11_2⟩ := ybc BK395.out
   go_wp2_with (first | (refine goesL_ (some 12) rfl rfl Try.func83 (by kernel_rfl) rfl #[.agg #[.int .i64 a0_0, .slice A0_1 l0_1.length c0_1, .int .i64 a0_2], .int .i64 a2] rfl ymd ?_; (with_reducible refine (spec_RuleValid.calls k a0_0 _ _ l0_1 a0_2 a2 false _ ?side1 ?side2 A6.out).mono ?_); (case side1 => exact Kd.Cz ((Kd.C_below HR0_1.out HB.out))); (case side2 => exact HC0_1.out); rintro e w12 ⟨rfl, hb⟩; refine ⟨_, rfl, ?_⟩; have n0_ := yam (blk_below (g := gb395) (o := .cells #[.int .i64 a0_0, .slice A0_1 l0_1.length c0_1, .int .i64 a0_2] 73 (0, 0)) (ybz BK395.out) hb); have n1_ := yam (below_step yhb hb); clear BK395; clear HB; have BK395 := n0_; have HB := n1_; clear n0_ n1_; (try clear hb); (try clear hb2); (try clear hk); (try clear hi)))
   go_meet
   case rel => exact ⟨_, (true), yeq, H', ⟨by first | omega | exact Nat.le_refl _⟩, ⟨by (with_reducible repeat (first | refine ybn ?_ _ | refine ybd ?_ | refine yba ?_ _)); exact BK395.out⟩, ⟨yhb⟩⟩
  subst c7
  have H1 : ((spec_GridValid.f k l1 a2).bind fun t397 => (spec_RulePossible.j0 k l1 a2 (!t397) a0_0 l0_1 a0_2)) = some r := by rw [if_pos rfl] at H; exact H
  clear H
  have H := H1
  clear H1
  replace H := Option.bind_eq_some_iff.mp H
  obtain ⟨t397, A80, H⟩ := H
  try dsimp only at H
  have A8 := yam A80
  clear A80
  have H' := yam H
  clear H
  obtain ⟨hcz9_0, hcz9_1, hcz9_2, hfz9_0, hfz9_1, hfz9_2⟩ := ybc BK395.out
  go_wp2_with (first | (refine goesL_ (some 12) rfl rfl Try.func83 (by kernel_rfl) rfl #[.agg #[.int .i64 a0_0, .slice A0_1 l0_1.length c0_1, .int .i64 a0_2], .int .i64 a2] rfl ymd ?_; (with_reducible refine (spec_RuleValid.calls k a0_0 _ _ l0_1 a0_2 a2 true _ ?side1 ?side2 A6.out).mono ?_); (case side1 => exact Kd.Cz ((Kd.C_below HR0_1.out HB.out))); (case side2 => exact HC0_1.out); rintro e w10 ⟨rfl, hb⟩; refine ⟨_, rfl, ?_⟩; have n0_ := yam (blk_below (g := gb395) (o := .cells #[.int .i64 a0_0, .slice A0_1 l0_1.length c0_1, .int .i64 a0_2] 73 (0, 0)) (ybz BK395.out) hb); have n1_ := yam (below_step yhb hb); clear BK395; clear HB; have BK395 := n0_; have HB := n1_; clear n0_ n1_; (try clear hb); (try clear hb2); (try clear hk); (try clear hi)) | (go_at_call 84; (with_reducible refine (spec_GridValid.calls k _ _ l1 a2 t397 _ ?side1 ?side2 A8.out).mono ?_); (case side1 => exact Kd.Cz ((Kd.C_below HR1.out HB.out))); (case side2 => exact HC1.out); rintro e w' ⟨rfl, ⟨nd, rfl⟩⟩))
  go_meet
  case rel => exact ⟨_, (!t397), yeq, H', ⟨by first | omega | exact Nat.le_refl _⟩, ⟨by (with_reducible repeat (first | refine ybn ?_ _ | refine ybd ?_ | refine yba ?_ _)); exact BK395.out⟩, ⟨yhb⟩⟩
 case rest =>
  clear HC4
  try clear c1
  try clear p2
  try clear c7
  try clear c8
  try clear c9
  try clear hcz11_0
  try clear hcz11_1
  try clear hcz11_2
  try clear hcz9_0
  try clear hcz9_1
  try clear hcz9_2
  try clear hfz11_0
  try clear hfz11_1
  try clear hfz11_2
  try clear hfz9_0
  try clear hfz9_1
  try clear hfz9_2
  obtain ⟨kq, x19_3, rfl, HA, HJ3, BK395, HB⟩ := hcut
  cases kq with
  | zero => exact absurd HA.out (by simp [spec_RulePossible.j0])
  | succ kj3 =>
   have H := HA.out
   clear HA
   simp only [spec_RulePossible.j0] at H
   by_cases c13 : x19_3 = true
   ·subst c13
    have H1 : (some false) = some r := by rw [if_pos rfl] at H; exact H
    clear H
    have H := H1
    clear H1
    obtain rfl := Option.some.inj H
    go_wp2
    go_ret
    exact ⟨yer, yhb⟩
   replace c13 := Bool.eq_false_iff.mpr c13
   subst c13
   have H1 : (spec_RulePossible.l0 kj3 l1 a2 (([] : List Int)) 0 a0_0 l0_1 a0_2) = some r := by rw [if_neg (show ¬ (false = true) by decide)] at H; exact H
   clear H
   have H := H1
   clear H1
   obtain ⟨y398, hy398⟩ : ∃ y_ : List Int, y_ = (([] : List Int)) := ⟨_, rfl⟩
   replace H : (spec_RulePossible.l0 kj3 l1 a2 y398 0 a0_0 l0_1 a0_2) = some r := by first | (rw [hy398]; with_reducible exact H) | (have H2_ := (Option.bind_some _ _).symm.trans H; rw [hy398]; with_reducible exact H2_) | (have H2_ := (Option.bind_some _ _).symm.trans H; with_reducible exact H2_) | with_reducible exact H | (rw [hy398]; exact H) | exact H
   have Ny398 := yam hy398
   clear hy398
   have H' := yam H
   clear H
   go_wp2_with (first | ((with_reducible refine gate_dst (N := 20) rfl ?_); refine Kd.R_lit (Kd.int .i64) _ 3 ?hg (N := 20) ?hd (xs := ([] : List Int)) (inner := []) (ok := fun _ => True) (okp := fun _ => True) ?hr ?hp (fun _ hk => hk) trivial (Below.refl _ _) (Nat.le_refl _) (by simp) ?_; (case hd => rfl); (case hg => rfl); (case hr => first | (go_simp; done) | (go_simp; rfl)); (case hp => exact (Reps.none _ _)); intro v399 w14 ho15 hb hg_ hnew_; clear hg_ hnew_; (first | rw [← Ny398.out] at ho15 | (simp only [Int.reduceToNat] at ho15; rw [← Ny398.out] at ho15)); have n0_ := yam (Kd.R_lower ho15 (below_size yhb)); have n1_ := yam (blk_below (g := gb395) (o := .cells #[.int .i64 a0_0, .slice A0_1 l0_1.length c0_1, .int .i64 a0_2] 73 (0, 0)) (ybz BK395.out) hb); have n2_ := yam (below_step yhb hb); clear BK395; clear HB; have HO400 := n0_; have BK395 := n1_; have HB := n2_; clear n0_ n1_ n2_; clear hb ho15))
   go_loopg [7, 8] kj3 (fun kq v7 v8 w' => ∃ (x7_2 : List Int) (x8_2 : Int), v8 = .int .i64 x8_2 ∧ Aside0 (spec_RulePossible.l0 kq l1 a2 x7_2 x8_2 a0_0 l0_1 a0_2 = some r) ∧ Aside0 (kq ≤ kj3) ∧ Aside0 (Kd.R (Kd.int .i64) 3 w' w.heap.size (fun _ => True) v7 x7_2) ∧ Aside0 (w'.heap[gb395]? = some (.cells #[.int .i64 a0_0, (.slice A0_1 l0_1.length c0_1), .int .i64 a0_2] 73 (0, 0))) ∧ Aside0 (Below w.heap.size w w'))
   case atStart => exact ⟨(y398), (0), yeq, H', ⟨Nat.le_refl _⟩, ⟨yka HO400.out⟩, ⟨by (with_reducible repeat (first | refine ybn ?_ _ | refine ybd ?_ | refine yba ?_ _)); exact BK395.out⟩, ⟨yhb⟩⟩
   case round =>
    clear H'
    try clear c1
    try clear p2
    try clear c7
    try clear c8
    try clear c9
    try clear c13
    try clear hcz11_0
    try clear hcz11_1
    try clear hcz11_2
    try clear hcz9_0
    try clear hcz9_1
    try clear hcz9_2
    try clear hfz11_0
    try clear hfz11_1
    try clear hfz11_2
    try clear hfz9_0
    try clear hfz9_1
    try clear hfz9_2
    try clear p2
    obtain ⟨x7_2, x8_2, rfl, HA, HK2, HO_7, BK395, HB⟩ := hrel
    cases gk with
    | zero => exact absurd HA.out (by simp [spec_RulePossible.l0])
    | succ k2 =>
     have H := HA.out
     clear HA
     simp only [spec_RulePossible.l0] at H
     by_cases c16 : x8_2 < (l1.length : Int)
     rotate_left
     ·rw [if_neg c16] at H
      have c16b0 : decide (x8_2 < (l1.length : Int)) = false := decide_eq_false c16
      clear c16
      replace H := Option.bind_eq_some_iff.mp H
      obtain ⟨t409, A280, H⟩ := H
      try dsimp only at H
      have A28 := yam A280
      clear A280
      by_cases c29 : 0 < (t409.length : Int)
      rotate_left
      ·rw [if_neg c29] at H
       exact absurd H (by simp)

      rw [if_pos c29] at H
      have c29b0 : decide (0 < (t409.length : Int)) = true := decide_eq_true c29
      have c29b1 : decide (0 < t409.length) = true := decide_eq_true (by omega)
      clear c29
      obtain rfl := Option.some.inj H
      obtain ⟨hcz30_0, hcz30_1, hcz30_2, hfz30_0, hfz30_1, hfz30_2⟩ := ybc BK395.out
      obtain ⟨Ao31, co31, eo31⟩ := Kd.R_slice HO_7.out
      subst eo31
      go_wp2_with (first | (refine goesL_ (some 48) rfl rfl Try.func96 (by kernel_rfl) rfl #[.agg #[.int .i64 a0_0, .slice A0_1 l0_1.length c0_1, .int .i64 a0_2], .slice Ao31 x7_2.length co31, .int .i64 a2] rfl ymd ?_; (with_reducible refine (spec_RuleMasks.calls k2 a0_0 _ _ l0_1 a0_2 _ _ x7_2 a2 t409 _ ?side1 ?side2 ?side3 ?side4 A28.out).mono ?_); (case side1 => exact Kd.Cz ((Kd.C_below HR0_1.out HB.out))); (case side2 => exact HC0_1.out); (case side3 => repeat (first | exact (Kd.Yr HO_7.out).2.2 | (with_reducible refine Kd.C_alloc ?_ _) | (with_reducible refine Kd.C_drewN ?_ _) | (with_reducible refine Kd.C_drew ?_))); (case side4 => exact (Kd.Yr HO_7.out).2.1); rintro e w32 ⟨v410, rfl, ho0, hb⟩; refine ⟨_, rfl, ?_⟩; have n0_ := yam (Kd.Ye (Kd.Yz HO_7.out) (Kd.Yb ho0) hb); have n1_ := yam (Kd.R_lower (Kd.Yw ho0 (Kd.R_lt (Kd.Yz HO_7.out))) (below_size yhb)); have n2_ := yam (blk_below (g := gb395) (o := .cells #[.int .i64 a0_0, .slice A0_1 l0_1.length c0_1, .int .i64 a0_2] 73 (0, 0)) (ybz BK395.out) hb); have n3_ := yam (below_step yhb hb); clear HO_7; clear BK395; clear HB; have HO_7 := n0_; have HO411 := n1_; have BK395 := n2_; have HB := n3_; clear n0_ n1_ n2_ n3_; (try clear hb); (try clear hb2); (try clear hk); (try clear hi); (try clear ho0); obtain ⟨Ao33, co33, eo33⟩ := Kd.R_slice HO411.out; subst eo33; have p412 : 0 ≤ (0 : Int) := (by omega); have q412 : 0 < (t409.length : Int) := ydt; obtain ⟨ad412, e412, hx412_0⟩ := Kd.at_int (Kd.Yr HO411.out).2.2 0 p412 q412; cases e412; have qi412 : (0 < t409.length) = True := eq_true (by omega); (try rw [show ((0 : Int)).toNat = 0 from rfl] at hx412_0); (try rw [Addr.add_zero'] at hx412_0); replace p412 := eq_true p412; replace q412 := eq_true q412))
      go_ret
      exact ⟨yer, yhb⟩
     rw [if_pos c16] at H
     have c16b0 : decide (x8_2 < (l1.length : Int)) = true := decide_eq_true c16
     clear c16
     replace H := yif H
     obtain ⟨c17b0, H⟩ := H
     replace H := yig H
     obtain ⟨c18, H⟩ := H
     have c18b0 := eq_true c18
     have c18b1 : decide (0 ≤ (rd l1 x8_2)) = true := decide_eq_true c18
     clear c18
     obtain ⟨ji19, hji19⟩ : ∃ j_ : Int, (shl .i64 1 (rd l1 x8_2)) = j_ := ⟨_, rfl⟩
     replace H : (if (rd l1 x8_2) = 0 then (if 0 ≤ (wrap64 (a2 + 1)) then (if x7_2.length < 17592186044416 then (spec_RulePossible.l0 k2 l1 a2 (x7_2 ++ [wrap64 ((shl .i64 1 (wrap64 (a2 + 1))) - 2)]) (wrap64 (x8_2 + 1)) a0_0 l0_1 a0_2) else (none)) else (none)) else (if x7_2.length < 17592186044416 then (spec_RulePossible.l0 k2 l1 a2 (x7_2 ++ [ji19]) (wrap64 (x8_2 + 1)) a0_0 l0_1 a0_2) else (none))) = some r := by first | (rw [hji19] at H; exact H) | (simp only [hji19] at H ⊢; exact H)
     have hji19_ : (IntKind.i64.wrap (1 * 2 ^ min (rd l1 x8_2).toNat 64)) = ji19 := hji19
     have hji19z : (rd l1 x8_2) ≤ 64 → (IntKind.i64.wrap (1 * 2 ^ (rd l1 x8_2).toNat)) = ji19 := shl_small hji19
     have hji19u : (IntKind.i64.wrap (2 ^ min (rd l1 x8_2).toNat 64)) = ji19 := by have h_ := hji19_; rw [Int.one_mul] at h_; exact h_
     have hji19v : (rd l1 x8_2) ≤ 64 → (IntKind.i64.wrap (2 ^ (rd l1 x8_2).toNat)) = ji19 := fun hle_ => by have h_ := hji19z hle_; rw [Int.one_mul] at h_; exact h_
     have hji19y : (wrap64 (1 * 2 ^ min (rd l1 x8_2).toNat 64)) = ji19 := (i64_w _).symm.trans hji19_
     have hji19x : (rd l1 x8_2) ≤ 64 → (wrap64 (1 * 2 ^ (rd l1 x8_2).toNat)) = ji19 := fun h_ => (i64_w _).symm.trans (hji19z h_)
     by_cases c20 : (rd l1 x8_2) = 0
     rotate_left
     ·rw [if_neg c20] at H
      have c20b0 : ((rd l1 x8_2) == 0) = false := beq_eq_false_iff_ne.mpr c20
      have c20b1 : ((rd l1 x8_2) != 0) = true := bne_iff_ne.mpr c20
      replace H := yig H
      obtain ⟨c26, H⟩ := H
      have LMc26 := yam c26
      clear c26
      obtain ⟨y406, hy406⟩ : ∃ y_ : List Int, y_ = (x7_2 ++ [ji19]) := ⟨_, rfl⟩
      replace H : (spec_RulePossible.l0 k2 l1 a2 y406 (wrap64 (x8_2 + 1)) a0_0 l0_1 a0_2) = some r := by first | (rw [hy406]; with_reducible exact H) | (have H2_ := (Option.bind_some _ _).symm.trans H; rw [hy406]; with_reducible exact H2_) | (have H2_ := (Option.bind_some _ _).symm.trans H; with_reducible exact H2_) | with_reducible exact H | (rw [hy406]; exact H) | exact H
      have Ny406 := yam hy406
      clear hy406
      have H' := yam H
      clear H
      have p401 : 0 ≤ (x8_2 : Int) := ydt
      have q401 : x8_2 < (l1.length : Int) := ydt
      obtain ⟨ad401, e401, hx401_0⟩ := Kd.at_int HR1.out x8_2 p401 q401
      cases e401
      replace hx401_0 := ybx HB.out hx401_0
      replace p401 := eq_true p401
      replace q401 := eq_true q401
      have p402 : 0 ≤ (x8_2 : Int) := ydt
      have q402 : x8_2 < (l1.length : Int) := ydt
      obtain ⟨ad402, e402, hx402_0⟩ := Kd.at_int HR1.out x8_2 p402 q402
      obtain rfl : ad401 = ad402 := (by injection e402)
      replace hx402_0 := ybx HB.out hx402_0
      replace p402 := eq_true p402
      replace q402 := eq_true q402
      go_wp2_with (first | ((with_reducible refine gate_builtin (b := .append) (xs := #[.tmp 41, .tmp 43]) rfl ?_); at_builtin; refine Kd.R_append (Kd.int .i64) (w0 := w) w.heap.size rfl (.tmp 41) (.tmp 43) 22 3 (.int .i64 0) 8 rfl Try.underlying22 info3 rfl (by decide) (by omega) u7 x7_2 ji19 [.int .i64 ji19] (fun _ => True) (fun _ => False) rfl rfl ?aP (fun _ hk => hk.elim) ?aF ?aO ?aB ?aS ?aL ?_; (case aP => exact rfl); (case aB => exact yhb); (case aF => exact (fun _ _ => trivial)); (case aO => exact (Kd.Yz HO_7.out)); (case aS => exact (below_size yhb)); (case aL => have := LMc26.out; omega); intro v407 w27 ho hb hg hat; rw [← Ny406.out] at ho; have n0_ := yam (blk_grown (g := gb395) (o := .cells #[.int .i64 a0_0, .slice A0_1 l0_1.length c0_1, .int .i64 a0_2] 73 (0, 0)) (ybz BK395.out) hg (Kd.R_ne HO_7.out BK395.out (by decide))); have n1_ := yam (hb); have n2_ := yam (ho); clear BK395; clear HB; clear HO_7; have BK395 := n0_; have HB := n1_; have HO408 := n2_; clear n0_ n1_ n2_; clear ho hb hg hat))
      go_roundg k2
      case measure => have := HJ3.out; have := HK2.out; omega
      case rel => exact ⟨(y406), (wrap64 (x8_2 + 1)), yeq, H', ⟨by have := HJ3.out; have := HK2.out; omega⟩, ⟨yka HO408.out⟩, ⟨by (with_reducible repeat (first | refine ybn ?_ _ | refine ybd ?_ | refine yba ?_ _)); exact BK395.out⟩, ⟨yhb⟩⟩
     rw [if_pos c20] at H
     have c20b0 : ((rd l1 x8_2) == 0) = true := beq_iff_eq.mpr c20
     have c20b1 : ((rd l1 x8_2) != 0) = false := bne_eq_false_iff_eq.mpr c20
     clear c20
     obtain ⟨ji21, hji21⟩ : ∃ j_ : Int, (wrap64 (a2 + 1)) = j_ := ⟨_, rfl⟩
     replace H : (if 0 ≤ (ji21) then (if x7_2.length < 17592186044416 then (spec_RulePossible.l0 k2 l1 a2 (x7_2 ++ [wrap64 ((shl .i64 1 (ji21)) - 2)]) (wrap64 (x8_2 + 1)) a0_0 l0_1 a0_2) else (none)) else (none)) = some r := by first | (rw [hji21] at H; exact H) | (simp only [hji21] at H ⊢; exact H)
     have hji21w : (IntKind.i64.wrap (a2 + 1)) = ji21 := (i64_w _).trans hji21
     replace H := yig H
     obtain ⟨c22, H⟩ := H
     have c22b0 := eq_true c22
     have c22b1 : decide (0 ≤ (ji21)) = true := decide_eq_true c22
     clear c22
     obtain ⟨ji23, hji23⟩ : ∃ j_ : Int, (shl .i64 1 (ji21)) = j_ := ⟨_, rfl⟩
     replace H : (if x7_2.length < 17592186044416 then (spec_RulePossible.l0 k2 l1 a2 (x7_2 ++ [wrap64 ((ji23) - 2)]) (wrap64 (x8_2 + 1)) a0_0 l0_1 a0_2) else (none)) = some r := by first | (rw [hji23] at H; exact H) | (simp only [hji23] at H ⊢; exact H)
     have hji23_ : (IntKind.i64.wrap (1 * 2 ^ min (ji21).toNat 64)) = ji23 := hji23
     have hji23z : (ji21) ≤ 64 → (IntKind.i64.wrap (1 * 2 ^ (ji21).toNat)) = ji23 := shl_small hji23
     have hji23u : (IntKind.i64.wrap (2 ^ min (ji21).toNat 64)) = ji23 := by have h_ := hji23_; rw [Int.one_mul] at h_; exact h_
     have hji23v : (ji21) ≤ 64 → (IntKind.i64.wrap (2 ^ (ji21).toNat)) = ji23 := fun hle_ => by have h_ := hji23z hle_; rw [Int.one_mul] at h_; exact h_
     have hji23y : (wrap64 (1 * 2 ^ min (ji21).toNat 64)) = ji23 := (i64_w _).symm.trans hji23_
     have hji23x : (ji21) ≤ 64 → (wrap64 (1 * 2 ^ (ji21).toNat)) = ji23 := fun h_ => (i64_w _).symm.trans (hji23z h_)
     replace H := yig H
     obtain ⟨c24, H⟩ := H
     have LMc24 := yam c24
     clear c24
     obtain ⟨y403, hy403⟩ : ∃ y_ : List Int, y_ = (x7_2 ++ [wrap64 ((ji23) - 2)]) := ⟨_, rfl⟩
     replace H : (spec_RulePossible.l0 k2 l1 a2 y403 (wrap64 (x8_2 + 1)) a0_0 l0_1 a0_2) = some r := by first | (rw [hy403]; with_reducible exact H) | (have H2_ := (Option.bind_some _ _).symm.trans H; rw [hy403]; with_reducible exact H2_) | (have H2_ := (Option.bind_some _ _).symm.trans H; with_reducible exact H2_) | with_reducible exact H | (rw [hy403]; exact H) | exact H
     have Ny403 := yam hy403
     clear hy403
     have H' := yam H
     clear H
     have p401 : 0 ≤ (x8_2 : Int) := ydt
     have q401 : x8_2 < (l1.length : Int) := ydt
     obtain ⟨ad401, e401, hx401_0⟩ := Kd.at_int HR1.out x8_2 p401 q401
     cases e401
     replace hx401_0 := ybx HB.out hx401_0
     replace p401 := eq_true p401
     replace q401 := eq_true q401
     have p402 : 0 ≤ (x8_2 : Int) := ydt
     have q402 : x8_2 < (l1.length : Int) := ydt
     obtain ⟨ad402, e402, hx402_0⟩ := Kd.at_int HR1.out x8_2 p402 q402
     obtain rfl : ad401 = ad402 := (by injection e402)
     replace hx402_0 := ybx HB.out hx402_0
     replace p402 := eq_true p402
     replace q402 := eq_true q402
     go_wp2_with (first | ((with_reducible refine gate_builtin (b := .append) (xs := #[.tmp 41, .tmp 43]) rfl ?_); at_builtin; refine Kd.R_append (Kd.int .i64) (w0 := w) w.heap.size rfl (.tmp 41) (.tmp 43) 22 3 (.int .i64 0) 8 rfl Try.underlying22 info3 rfl (by decide) (by omega) u7 x7_2 (wrap64 ((ji23) - 2)) [.int .i64 (wrap64 ((ji23) - 2))] (fun _ => True) (fun _ => False) rfl rfl ?aP (fun _ hk => hk.elim) ?aF ?aO ?aB ?aS ?aL ?_; (case aP => exact rfl); (case aB => exact yhb); (case aF => exact (fun _ _ => trivial)); (case aO => exact (Kd.Yz HO_7.out)); (case aS => exact (below_size yhb)); (case aL => have := LMc24.out; omega); intro v404 w25 ho hb hg hat; rw [← Ny403.out] at ho; have n0_ := yam (blk_grown (g := gb395) (o := .cells #[.int .i64 a0_0, .slice A0_1 l0_1.length c0_1, .int .i64 a0_2] 73 (0, 0)) (ybz BK395.out) hg (Kd.R_ne HO_7.out BK395.out (by decide))); have n1_ := yam (hb); have n2_ := yam (ho); clear BK395; clear HB; clear HO_7; have BK395 := n0_; have HB := n1_; have HO405 := n2_; clear n0_ n1_ n2_; clear ho hb hg hat))
     go_roundg k2
     case measure => have := HJ3.out; have := HK2.out; omega
     case rel => exact ⟨(y403), (wrap64 (x8_2 + 1)), yeq, H', ⟨by have := HJ3.out; have := HK2.out; omega⟩, ⟨yka HO405.out⟩, ⟨by (with_reducible repeat (first | refine ybn ?_ _ | refine ybd ?_ | refine yba ?_ _)); exact BK395.out⟩, ⟨yhb⟩⟩
end Go.Proofs.Ytmjbnghhfadapaa.P
