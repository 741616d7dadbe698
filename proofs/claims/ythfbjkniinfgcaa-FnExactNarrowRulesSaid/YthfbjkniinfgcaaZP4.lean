/- The machine's side: each Go function as a plain Lean function and the proof that the machine's call does what that function says; written by this session's own program over the kit's print. -/
import Derived.Test.YthfbjkniinfgcaaZP1
import Derived.Test.YthfbjkniinfgcaaZP2
import Derived.Test.YthfbjkniinfgcaaZP3
namespace Go.Proofs.Ythfbjkniinfgcaa.P
open Go.RowKit Go.Proofs.YthfbjkniinfgcaaW.PrintWords Go.Proofs.YthfbjkniinfgcaaW.PrintLast Go.Proofs.YthfbjkniinfgcaaW.PrintMore
attribute [local go_sem] max2_int min2_int max_two min_two max_three min_three max_four min_four   -- for this text's walks alone
set_option linter.unusedVariables false
set_option linter.unusedSimpArgs false

/-! ### spec_l4Ways: function 76 -/
mutual
def spec_l4Ways.l0 : Nat → List Int → List Int → Int → Int → Option (List Int)
  | 0, _, _, _, _ => none
  | k + 1, x2, x3, x8, x9 => if x9 < x8 then (if 0 ≤ x9 then (if x9 < (x3.length : Int) then (if x9 < (x2.length : Int) then (if 0 ≤ (rd x2 x9) then (spec_l4Ways.l0 k x2 (x3.set (x9 : Int).toNat (Go.bits .or .i64 (rd x3 x9) (shl .i64 1 (rd x2 x9)))) x8 (wrap64 (x9 + 1))) else (none)) else (none)) else (none)) else (none)) else (some x3)
def spec_l4Ways.l1 : Nat → List Int → List Int → List Int → List Int → Int → Int → List Int → Int → Option (List Int)
  | 0, _, _, _, _, _, _, _, _ => none
  | k + 1, x1, x2, x3, x10, x11, x476000, x476001, x476002 => if x11 < (x10.length : Int) then ((some (([] : List Int) : List Int)).bind fun y485 => (if y485.length + x2.length < 17592186044416 then ((some (y485 ++ x2 : List Int)).bind fun y488 => (if 0 ≤ x11 then ((some (([rd x10 x11] : List Int) : List Int)).bind fun y492 => (if y488.length + y492.length < 17592186044416 then ((spec_l4Ways.f k x476000 x476001 x476002 x1 (y488 ++ y492) x3).bind fun t498 => (spec_l4Ways.l1 k x1 x2 t498 x10 (wrap64 (x11 + 1)) x476000 x476001 x476002)) else (none))) else (none))) else (none))) else (some x3)
def spec_l4Ways.f : Nat → Int → List Int → Int → List Int → List Int → List Int → Option (List Int)
  | 0, _, _, _, _, _, _ => none
  | k + 1, a0_0, l0_1, a0_2, l1, l2, l3 => if (l2.length : Int) = (l0_1.length : Int) then ((spec_l4Holds.f k a0_0 l0_1 a0_2 l2).bind fun t476 => (if t476 = true then (spec_l4Ways.l0 k l2 l3 (l2.length : Int) 0) else (some l3))) else (if 0 ≤ (l2.length : Int) then (if (l2.length : Int) < (l0_1.length : Int) then (if 0 ≤ (rd l0_1 (l2.length : Int)) then (if (rd l0_1 (l2.length : Int)) < (l1.length : Int) then ((spec_MaskValues.f k (rd l1 (rd l0_1 (l2.length : Int)))).bind fun t482 => (spec_l4Ways.l1 k l1 l2 l3 t482 0 a0_0 l0_1 a0_2)) else (none)) else (none)) else (none)) else (none))
end
theorem spec_l4Ways.mono_l : ∀ k, (∀ y0 y1 y2 y3 y4 y5, LeO (spec_l4Ways.f k y0 y1 y2 y3 y4 y5) (spec_l4Ways.f (k + 1) y0 y1 y2 y3 y4 y5)) ∧ (∀ y0 y1 y2 y3, LeO (spec_l4Ways.l0 k y0 y1 y2 y3) (spec_l4Ways.l0 (k + 1) y0 y1 y2 y3)) ∧ (∀ y0 y1 y2 y3 y4 y5 y6 y7, LeO (spec_l4Ways.l1 k y0 y1 y2 y3 y4 y5 y6 y7) (spec_l4Ways.l1 (k + 1) y0 y1 y2 y3 y4 y5 y6 y7))
  | 0 => ⟨fun _ _ _ _ _ _ r h => by simp [spec_l4Ways.f] at h, fun _ _ _ _ r h => by simp [spec_l4Ways.l0] at h, fun _ _ _ _ _ _ _ _ r h => by simp [spec_l4Ways.l1] at h⟩
  | k + 1 => by
    obtain ⟨ih0, ih1, ih2⟩ := spec_l4Ways.mono_l k
    refine ⟨?_, ?_, ?_⟩
    · intro y0 y1 y2 y3 y4 y5
      unfold spec_l4Ways.f
      repeat' first
      | (with_reducible exact ih0 _ _ _ _ _ _)
      | (with_reducible exact ih1 _ _ _ _)
      | (with_reducible exact ih2 _ _ _ _ _ _ _ _)
      | (with_reducible exact spec_MaskValues.mono _ _)
      | (with_reducible exact spec_l4Holds.mono _ _ _ _ _)
      | (with_reducible exact LeO.refl _)
      | (with_reducible exact LeO.none _)
      | (with_reducible refine LeO.ite ?_ ?_)
      | (with_reducible refine LeO.bind ?_ (fun _ => ?_))
      | exact ih0 _ _ _ _ _ _
      | exact ih1 _ _ _ _
      | exact ih2 _ _ _ _ _ _ _ _
      | exact spec_MaskValues.mono _ _
      | exact spec_l4Holds.mono _ _ _ _ _
      | exact LeO.none _
      | refine LeO.ite ?_ ?_
      | refine LeO.bind ?_ (fun _ => ?_)
    · intro y0 y1 y2 y3
      unfold spec_l4Ways.l0
      repeat' first
      | (with_reducible exact ih0 _ _ _ _ _ _)
      | (with_reducible exact ih1 _ _ _ _)
      | (with_reducible exact ih2 _ _ _ _ _ _ _ _)
      | (with_reducible exact spec_MaskValues.mono _ _)
      | (with_reducible exact spec_l4Holds.mono _ _ _ _ _)
      | (with_reducible exact LeO.refl _)
      | (with_reducible exact LeO.none _)
      | (with_reducible refine LeO.ite ?_ ?_)
      | (with_reducible refine LeO.bind ?_ (fun _ => ?_))
      | exact ih0 _ _ _ _ _ _
      | exact ih1 _ _ _ _
      | exact ih2 _ _ _ _ _ _ _ _
      | exact spec_MaskValues.mono _ _
      | exact spec_l4Holds.mono _ _ _ _ _
      | exact LeO.none _
      | refine LeO.ite ?_ ?_
      | refine LeO.bind ?_ (fun _ => ?_)
    · intro y0 y1 y2 y3 y4 y5 y6 y7
      unfold spec_l4Ways.l1
      repeat' first
      | (with_reducible exact ih0 _ _ _ _ _ _)
      | (with_reducible exact ih1 _ _ _ _)
      | (with_reducible exact ih2 _ _ _ _ _ _ _ _)
      | (with_reducible exact spec_MaskValues.mono _ _)
      | (with_reducible exact spec_l4Holds.mono _ _ _ _ _)
      | (with_reducible exact LeO.refl _)
      | (with_reducible exact LeO.none _)
      | (with_reducible refine LeO.ite ?_ ?_)
      | (with_reducible refine LeO.bind ?_ (fun _ => ?_))
      | exact ih0 _ _ _ _ _ _
      | exact ih1 _ _ _ _
      | exact ih2 _ _ _ _ _ _ _ _
      | exact spec_MaskValues.mono _ _
      | exact spec_l4Holds.mono _ _ _ _ _
      | exact LeO.none _
      | refine LeO.ite ?_ ?_
      | refine LeO.bind ?_ (fun _ => ?_)
theorem spec_l4Ways.mono : ∀ a0 a1 a2 a3 a4 a5 k, LeO (spec_l4Ways.f k a0 a1 a2 a3 a4 a5) (spec_l4Ways.f (k + 1) a0 a1 a2 a3 a4 a5) := by
  intro a0 a1 a2 a3 a4 a5 k
  obtain ⟨ih0, ih1, ih2⟩ := spec_l4Ways.mono_l k
  exact ih0 a0 a1 a2 a3 a4 a5
def spec_l4Ways.T7 : Bool × List (List Nat × List Nat) := (true, [([], []), ([], []), ([], []), ([], []), ([2, 3], [2, 3]), ([4], [4]), ([], []), ([], []), ([6, 7], [6, 7]), ([8], [8]), ([9], [9]), ([5, 10], [5, 10]), ([0, 1, 0, 1, 2, 3, 4, 5, 6, 7, 8, 9, 10, 11], [0, 1]), ([12, 11, 0, 1, 2, 3, 4, 5, 6, 7, 8, 9, 10, 11], [11, 12])])
def spec_l4Ways.B7 : List Nat := [0, 0, 0, 0, 12, 28, 0, 0, 192, 448, 960, 2044, 4095, 8191]
theorem spec_l4Ways.tab7 : rtab .any (opsOf Try.f76 7) = spec_l4Ways.T7 := by kernel_rfl
theorem spec_l4Ways.bits7 : waitsOk spec_l4Ways.T7.2 spec_l4Ways.B7 = true := by kernel_rfl
def spec_l4Ways.T12 : Bool × List (List Nat × List Nat) := (true, [([], []), ([], []), ([], []), ([], []), ([2, 3], [2, 3]), ([], []), ([], []), ([5, 6], [5, 6]), ([7], [7]), ([8], [8]), ([4, 9, 4], [4, 9]), ([], []), ([0, 1, 10, 11, 10], [0, 1, 10, 11])])
def spec_l4Ways.B12 : List Nat := [0, 0, 0, 0, 12, 0, 0, 96, 224, 480, 1020, 0, 4095]
theorem spec_l4Ways.tab12 : rtab .any (opsOf Try.f76 12) = spec_l4Ways.T12 := by kernel_rfl
theorem spec_l4Ways.bits12 : waitsOk spec_l4Ways.T12.2 spec_l4Ways.B12 = true := by kernel_rfl
set_option maxHeartbeats 8000000 in
set_option maxRecDepth 100000 in
theorem spec_l4Ways.calls (k : Nat) : ∀ (a0_0 : Int) (A0_1 : Option Addr) (c0_1 : Nat) (l0_1 : List Int) (a0_2 : Int) (A1 : Option Addr) (c1 : Nat) (l1 : List Int) (A2 : Option Addr) (c2 : Nat) (l2 : List Int) (P3_ : Nat → Prop) (u9000_ : Value) (l3 : List Int) (r : List Int) (w0 w : World) (hB : Below w0.heap.size w0 w) (hr0_1 : ∀ W_, Kept w W_ (fun k_ => P3_ k_) → Kd.C (Kd.int .i64) W_ A0_1 l0_1.length l0_1) (hc0_1 : l0_1.length ≤ c0_1) (hr1 : ∀ W_, Kept w W_ (fun k_ => P3_ k_) → Kd.C (Kd.int .i64) W_ A1 l1.length l1) (hc1 : l1.length ≤ c1) (hr2 : ∀ W_, Kept w W_ (fun k_ => P3_ k_) → Kd.C (Kd.int .i64) W_ A2 l2.length l2) (hc2 : l2.length ≤ c2) (ho3 : Kd.R (Kd.int .i64) 3 w w0.heap.size P3_ u9000_ l3) (h : spec_l4Ways.f k a0_0 l0_1 a0_2 l1 l2 l3 = some r),
    Calls Try.prog 76 #[.agg #[.int .i64 a0_0, .slice A0_1 l0_1.length c0_1, .int .i64 a0_2], .slice A1 l1.length c1, .slice A2 l2.length c2, u9000_] w fun e w' => e = .returned (.tuple #[]) ∧ Kd.R (Kd.int .i64) 3 w' w0.heap.size (fun k_ => (P3_ k_ ∨ w.heap.size ≤ k_)) u9000_ r ∧ Below w0.heap.size w0 w' ∧ Kept w w' (fun k_ => P3_ k_) := by
  induction k using Nat.strongRecOn with
  | _ k ih =>
  intro a0_0 A0_1 c0_1 l0_1 a0_2 A1 c1 l1 A2 c2 l2 P3_ u9000_ l3 r w0 w hB hr0_1 hc0_1 hr1 hc1 hr2 hc2 ho3 h
  cases k with
  | zero => exact absurd h (by simp [spec_l4Ways.f])
  | succ k =>
  simp only [spec_l4Ways.f] at h
  have hu32 := Try.underlying32
  have HR0_1 := yam hr0_1
  have HC0_1 := yam hc0_1
  clear hr0_1 hc0_1
  have HR1 := yam hr1
  have HC1 := yam hc1
  clear hr1 hc1
  have HR2 := yam hr2
  have HC2 := yam hc2
  clear hr2 hc2
  have HO3 := yam (show Kd.R (Kd.int .i64) 3 w w0.heap.size (fun k_ => (P3_ k_ ∨ w.heap.size ≤ k_)) u9000_ l3 from Kd.R_mono ho3 (fun k_ hk => (.inl hk)))
  have HK := yam (Kept.refl w (fun k_ => P3_ k_))
  have HW0 := yam hB.size
  have HB := yam hB
  clear hB
  have H : (if (l2.length : Int) = (l0_1.length : Int) then ((spec_l4Holds.f k a0_0 l0_1 a0_2 l2).bind fun t476 => (if t476 = true then (spec_l4Ways.l0 k l2 l3 (l2.length : Int) 0) else (some l3))) else (if 0 ≤ (l2.length : Int) then (if (l2.length : Int) < (l0_1.length : Int) then (if 0 ≤ (rd l0_1 (l2.length : Int)) then (if (rd l0_1 (l2.length : Int)) < (l1.length : Int) then ((spec_MaskValues.f k (rd l1 (rd l0_1 (l2.length : Int)))).bind fun t482 => (spec_l4Ways.l1 k l1 l2 l3 t482 0 a0_0 l0_1 a0_2)) else (none)) else (none)) else (none)) else (none))) = some r := h
  clear h
  by_cases c5 : (l2.length : Int) = (l0_1.length : Int)
  · rw [if_pos c5] at H
    have c5b0 : ((l2.length : Int) == (l0_1.length : Int)) = true := beq_iff_eq.mpr c5
    have c5b1 : ((l2.length : Int) != (l0_1.length : Int)) = false := bne_eq_false_iff_eq.mpr c5
    have c5b2 : (l2.length == l0_1.length) = true := by first | simpa using c5 | (simp at c5 ⊢; omega)
    clear c5
    replace H := Option.bind_eq_some_iff.mp H
    obtain ⟨t476, A60, H⟩ := H
    try dsimp only at H
    have A6 := yam A60
    clear A60
    by_cases c7 : t476 = true
    rotate_left
    · replace c7 := Bool.eq_false_iff.mpr c7
      subst c7
      have H1 : (some l3) = some r := by rw [if_neg (show ¬ (false = true) by decide)] at H; exact H
      clear H
      have H := H1
      clear H1
      obtain rfl := Option.some.inj H
      go_enter Try.func76, Try.ntmps76
      go_wp2_with (first | ((with_reducible refine gate_dst (N := 4) rfl ?_); refine box_event ?hg (N := 4) ?hd (cs := #[.int .i64 a0_0, .slice A0_1 l0_1.length c0_1, .int .i64 a0_2]) (t := 32) ?hr ?_; (case hd => rfl); (case hg => rfl); (case hr => first | (go_simp; done) | (go_simp; rfl)); intro gb475 hg w21 hbox hb; have n0_ := yam (Kd.R_below (Kd.Yz HO3.out) hb); have n1_ := yam (Kept.below (S := (fun k_ => P3_ k_)) (by repeat (first | (with_reducible first | exact HK.out | apply Kept.alloc | apply Kept.drewN | apply Kept.drew) | exact HK.out)) hb); have n2_ := yam (below_step (yez HB.out) hb); have n3_ := yam (hbox); have n4_ := yam ((by rw [hg]; exact (by first | exact HK.out.1 | exact (show Kept w _ (fun k_ => P3_ k_) from by repeat (first | (with_reducible first | exact HK.out | apply Kept.alloc | apply Kept.drewN | apply Kept.drew) | exact HK.out)).1) : w.heap.size ≤ gb475)); have n5_ := yam ((by rw [hg]; exact (below_size (yez HB.out)) : w0.heap.size ≤ gb475)); clear HO3; clear HK; clear HB; have HO3 := n0_; have HK := n1_; have HB := n2_; have BK475 := n3_; have GW475 := n4_; have GE475 := n5_; clear n0_ n1_ n2_ n3_ n4_ n5_; clear hb hbox hg; have hcz22_0 : w21.cell? ⟨gb475, 0, none⟩ = some (.int .i64 a0_0) := (blk_cell BK475.out 0).trans rfl; have hcz22_1 : w21.cell? ⟨gb475, 1, none⟩ = some (.slice A0_1 l0_1.length c0_1) := (blk_cell BK475.out 1).trans rfl; have hcz22_2 : w21.cell? ⟨gb475, 2, none⟩ = some (.int .i64 a0_2) := (blk_cell BK475.out 2).trans rfl; have hfz22_0 := blk_frozen BK475.out 0; have hfz22_1 := blk_frozen BK475.out 1; have hfz22_2 := blk_frozen BK475.out 2) | ((with_reducible refine gate_callee (f := 83) rfl ?_); refine goesL_ (some 21) rfl rfl Try.func83 (by kernel_rfl) rfl #[.agg #[.int .i64 a0_0, .slice A0_1 l0_1.length c0_1, .int .i64 a0_2], .slice A2 l2.length c2] rfl (by (try simp only [List.map_toArray, List.map_cons, List.map_nil]); first | done | rfl | (simp only [List.length_drop, List.length_take]; rfl)) ?_; (with_reducible refine (spec_l4Holds.calls k a0_0 _ _ l0_1 a0_2 _ _ l2 false _ ?side1 ?side2 ?side3 ?side4 A6.out).mono ?_); (case side1 => exact Kd.C_kept_now HR0_1.out (by repeat (first | (with_reducible first | exact HK.out | apply Kept.alloc | apply Kept.drewN | apply Kept.drew | refine Kept.setCell ?_ (.inr GW475.out) _) | exact HK.out))); (case side2 => exact HC0_1.out); (case side3 => exact Kd.C_kept_now HR2.out (by repeat (first | (with_reducible first | exact HK.out | apply Kept.alloc | apply Kept.drewN | apply Kept.drew | refine Kept.setCell ?_ (.inr GW475.out) _) | exact HK.out))); (case side4 => exact HC2.out); rintro e w23 ⟨rfl, hb⟩; refine ⟨_, rfl, ?_⟩; have n0_ := yam (Kd.R_below (Kd.Yz HO3.out) hb); have n1_ := yam (blk_below (g := gb475) (o := .cells #[.int .i64 a0_0, .slice A0_1 l0_1.length c0_1, .int .i64 a0_2] 32 (0, 0)) (ybz BK475.out) hb); have n2_ := yam (Kept.below (S := (fun k_ => P3_ k_)) (by repeat (first | (with_reducible first | exact HK.out | apply Kept.alloc | apply Kept.drewN | apply Kept.drew | refine Kept.setCell ?_ (.inr GW475.out) _) | exact HK.out)) hb); have n3_ := yam (below_step (by repeat (first | (with_reducible first | exact HB.out | apply yea | apply yen | apply yed | refine below_set ?_ GE475.out) | exact HB.out)) hb); clear HO3; clear BK475; clear HK; clear HB; have HO3 := n0_; have BK475 := n1_; have HK := n2_; have HB := n3_; clear n0_ n1_ n2_ n3_; (try clear hb); (try clear hb2); (try clear hk); (try clear hi)))
      first | go_end0 | ((try simp only [Exit.inBlock, Exit.then]); refine bodyPost_ret (results_none rfl _ _ _) rfl ?_)
      exact ⟨by first | rfl | (simp [errW_none, errW_some] <;> rfl) | (simp [*, errW_none, errW_some] <;> rfl), by (with_reducible repeat (first | apply Kd.Ya | apply Kd.Yn | apply Kd.Yd)); exact HO3.out, by repeat (first | (with_reducible first | exact HB.out | apply yea | apply yen | apply yed | refine below_set ?_ GE475.out) | exact HB.out), by repeat (first | (with_reducible first | exact HK.out | apply Kept.alloc | apply Kept.drewN | apply Kept.drew | refine Kept.setCell ?_ (.inr GW475.out) _) | exact HK.out)⟩
    subst c7
    have H1 : (spec_l4Ways.l0 k l2 l3 (l2.length : Int) 0) = some r := by rw [if_pos rfl] at H; exact H
    clear H
    have H := H1
    clear H1
    have H' := yam H
    clear H
    go_enter Try.func76, Try.ntmps76
    go_wp2_with (first | ((with_reducible refine gate_dst (N := 4) rfl ?_); refine box_event ?hg (N := 4) ?hd (cs := #[.int .i64 a0_0, .slice A0_1 l0_1.length c0_1, .int .i64 a0_2]) (t := 32) ?hr ?_; (case hd => rfl); (case hg => rfl); (case hr => first | (go_simp; done) | (go_simp; rfl)); intro gb475 hg w8 hbox hb; have n0_ := yam (Kd.R_below (Kd.Yz HO3.out) hb); have n1_ := yam (Kept.below (S := (fun k_ => P3_ k_)) (by repeat (first | (with_reducible first | exact HK.out | apply Kept.alloc | apply Kept.drewN | apply Kept.drew) | exact HK.out)) hb); have n2_ := yam (below_step (yez HB.out) hb); have n3_ := yam (hbox); have n4_ := yam ((by rw [hg]; exact (by first | exact HK.out.1 | exact (show Kept w _ (fun k_ => P3_ k_) from by repeat (first | (with_reducible first | exact HK.out | apply Kept.alloc | apply Kept.drewN | apply Kept.drew) | exact HK.out)).1) : w.heap.size ≤ gb475)); have n5_ := yam ((by rw [hg]; exact (below_size (yez HB.out)) : w0.heap.size ≤ gb475)); clear HO3; clear HK; clear HB; have HO3 := n0_; have HK := n1_; have HB := n2_; have BK475 := n3_; have GW475 := n4_; have GE475 := n5_; clear n0_ n1_ n2_ n3_ n4_ n5_; clear hb hbox hg; have hcz9_0 : w8.cell? ⟨gb475, 0, none⟩ = some (.int .i64 a0_0) := (blk_cell BK475.out 0).trans rfl; have hcz9_1 : w8.cell? ⟨gb475, 1, none⟩ = some (.slice A0_1 l0_1.length c0_1) := (blk_cell BK475.out 1).trans rfl; have hcz9_2 : w8.cell? ⟨gb475, 2, none⟩ = some (.int .i64 a0_2) := (blk_cell BK475.out 2).trans rfl; have hfz9_0 := blk_frozen BK475.out 0; have hfz9_1 := blk_frozen BK475.out 1; have hfz9_2 := blk_frozen BK475.out 2) | ((with_reducible refine gate_callee (f := 83) rfl ?_); refine goesL_ (some 21) rfl rfl Try.func83 (by kernel_rfl) rfl #[.agg #[.int .i64 a0_0, .slice A0_1 l0_1.length c0_1, .int .i64 a0_2], .slice A2 l2.length c2] rfl (by (try simp only [List.map_toArray, List.map_cons, List.map_nil]); first | done | rfl | (simp only [List.length_drop, List.length_take]; rfl)) ?_; (with_reducible refine (spec_l4Holds.calls k a0_0 _ _ l0_1 a0_2 _ _ l2 true _ ?side1 ?side2 ?side3 ?side4 A6.out).mono ?_); (case side1 => exact Kd.C_kept_now HR0_1.out (by repeat (first | (with_reducible first | exact HK.out | apply Kept.alloc | apply Kept.drewN | apply Kept.drew | refine Kept.setCell ?_ (.inr GW475.out) _) | exact HK.out))); (case side2 => exact HC0_1.out); (case side3 => exact Kd.C_kept_now HR2.out (by repeat (first | (with_reducible first | exact HK.out | apply Kept.alloc | apply Kept.drewN | apply Kept.drew | refine Kept.setCell ?_ (.inr GW475.out) _) | exact HK.out))); (case side4 => exact HC2.out); rintro e w10 ⟨rfl, hb⟩; refine ⟨_, rfl, ?_⟩; have n0_ := yam (Kd.R_below (Kd.Yz HO3.out) hb); have n1_ := yam (blk_below (g := gb475) (o := .cells #[.int .i64 a0_0, .slice A0_1 l0_1.length c0_1, .int .i64 a0_2] 32 (0, 0)) (ybz BK475.out) hb); have n2_ := yam (Kept.below (S := (fun k_ => P3_ k_)) (by repeat (first | (with_reducible first | exact HK.out | apply Kept.alloc | apply Kept.drewN | apply Kept.drew | refine Kept.setCell ?_ (.inr GW475.out) _) | exact HK.out)) hb); have n3_ := yam (below_step (by repeat (first | (with_reducible first | exact HB.out | apply yea | apply yen | apply yed | refine below_set ?_ GE475.out) | exact HB.out)) hb); clear HO3; clear BK475; clear HK; clear HB; have HO3 := n0_; have BK475 := n1_; have HK := n2_; have HB := n3_; clear n0_ n1_ n2_ n3_; (try clear hb); (try clear hb2); (try clear hk); (try clear hi)))
    go_loopg [9] k (fun kq v9 w' => ∃ (x3_1 : List Int) (x9_1 : Int), v9 = .int .i64 x9_1 ∧ Aside0 (spec_l4Ways.l0 kq l2 x3_1 (l2.length : Int) x9_1 = some r) ∧ Aside0 (kq ≤ k) ∧ Aside0 (Kd.R (Kd.int .i64) 3 w' w0.heap.size (fun k_ => (P3_ k_ ∨ w.heap.size ≤ k_)) u9000_ x3_1) ∧ Aside0 (w'.heap[gb475]? = some (.cells #[.int .i64 a0_0, (.slice A0_1 l0_1.length c0_1), .int .i64 a0_2] 32 (0, 0))) ∧ Aside0 (Kept w w' (fun k_ => P3_ k_)) ∧ Aside0 (Below w0.heap.size w0 w'))
    case atStart => exact ⟨(l3), (0), (by first | rfl | (simp; done) | (simp [*]; done)), H', ⟨Nat.le_refl _⟩, ⟨by (with_reducible repeat (first | apply Kd.Ya | apply Kd.Yn | apply Kd.Yd)); exact HO3.out⟩, ⟨by (with_reducible repeat (first | refine ybn ?_ _ | refine ybd ?_ | refine yba ?_ _)); exact BK475.out⟩, ⟨by repeat (first | (with_reducible first | exact HK.out | apply Kept.alloc | apply Kept.drewN | apply Kept.drew | refine Kept.setCell ?_ (.inr GW475.out) _) | exact HK.out)⟩, ⟨by repeat (first | (with_reducible first | exact HB.out | apply yea | apply yen | apply yed | refine below_set ?_ GE475.out) | exact HB.out)⟩⟩
    case round =>
      clear H'
      try clear c1
      try clear c2
      try clear p2
      try clear c5
      try clear c5b0
      try clear c5b1
      try clear c5b2
      try clear c7
      try clear c8
      try clear hcz9_0
      try clear hcz9_1
      try clear hcz9_2
      try clear hfz9_0
      try clear hfz9_1
      try clear hfz9_2
      obtain ⟨x3_1, x9_1, rfl, HA, HK1, HO_3, BK475, HK, HB⟩ := hrel
      cases gk with
      | zero => exact absurd HA.out (by simp [spec_l4Ways.l0])
      | succ k1 =>
        have H := HA.out
        clear HA
        simp only [spec_l4Ways.l0] at H
        by_cases c11 : x9_1 < (l2.length : Int)
        rotate_left
        · rw [if_neg c11] at H
          have c11b0 : decide (x9_1 < (l2.length : Int)) = false := decide_eq_false c11
          clear c11
          obtain rfl := Option.some.inj H
          go_wp2
          first | go_end0 | ((try simp only [Exit.inBlock, Exit.then]); refine bodyPost_ret (results_none rfl _ _ _) rfl ?_)
          exact ⟨by first | rfl | (simp [errW_none, errW_some] <;> rfl) | (simp [*, errW_none, errW_some] <;> rfl), by (with_reducible repeat (first | apply Kd.Ya | apply Kd.Yn | apply Kd.Yd)); exact HO_3.out, by repeat (first | (with_reducible first | exact HB.out | apply yea | apply yen | apply yed | refine below_set ?_ GE475.out) | exact HB.out), by repeat (first | (with_reducible first | exact HK.out | apply Kept.alloc | apply Kept.drewN | apply Kept.drew | refine Kept.setCell ?_ (.inr GW475.out) _) | exact HK.out)⟩
        rw [if_pos c11] at H
        have c11b0 : decide (x9_1 < (l2.length : Int)) = true := decide_eq_true c11
        clear c11
        by_cases c12 : 0 ≤ x9_1
        rotate_left
        · rw [if_neg c12] at H
          exact absurd H (by simp)
        rw [if_pos c12] at H
        have c12b0 : decide (0 ≤ x9_1) = true := decide_eq_true c12
        clear c12
        by_cases c13 : x9_1 < (x3_1.length : Int)
        rotate_left
        · rw [if_neg c13] at H
          exact absurd H (by simp)
        rw [if_pos c13] at H
        have c13b0 : decide (x9_1 < (x3_1.length : Int)) = true := decide_eq_true c13
        clear c13
        by_cases c14 : x9_1 < (l2.length : Int)
        rotate_left
        · rw [if_neg c14] at H
          exact absurd H (by simp)
        rw [if_pos c14] at H
        have c14b0 : decide (x9_1 < (l2.length : Int)) = true := decide_eq_true c14
        clear c14
        by_cases c15 : 0 ≤ (rd l2 x9_1)
        rotate_left
        · rw [if_neg c15] at H
          exact absurd H (by simp)
        rw [if_pos c15] at H
        have c15b0 := eq_true c15
        have c15b1 : decide (0 ≤ (rd l2 x9_1)) = true := decide_eq_true c15
        clear c15
        obtain ⟨ji16, hji16⟩ : ∃ j_ : Int, (shl .i64 1 (rd l2 x9_1)) = j_ := ⟨_, rfl⟩
        replace H : (spec_l4Ways.l0 k1 l2 (x3_1.set (x9_1 : Int).toNat (Go.bits .or .i64 (rd x3_1 x9_1) (ji16))) (l2.length : Int) (wrap64 (x9_1 + 1))) = some r := by first | (rw [hji16] at H; exact H) | (simp only [hji16] at H ⊢; exact H)
        have hji16_ : (IntKind.i64.wrap (1 * 2 ^ min (rd l2 x9_1).toNat 64)) = ji16 := hji16
        have hji16z : (rd l2 x9_1) ≤ 64 → (IntKind.i64.wrap (1 * 2 ^ (rd l2 x9_1).toNat)) = ji16 := shl_small hji16
        have hji16u : (IntKind.i64.wrap (2 ^ min (rd l2 x9_1).toNat 64)) = ji16 := by have h_ := hji16_; rw [Int.one_mul] at h_; exact h_
        have hji16v : (rd l2 x9_1) ≤ 64 → (IntKind.i64.wrap (2 ^ (rd l2 x9_1).toNat)) = ji16 := fun hle_ => by have h_ := hji16z hle_; rw [Int.one_mul] at h_; exact h_
        have hji16y : (wrap64 (1 * 2 ^ min (rd l2 x9_1).toNat 64)) = ji16 := (i64_w _).symm.trans hji16_
        have hji16x : (rd l2 x9_1) ≤ 64 → (wrap64 (1 * 2 ^ (rd l2 x9_1).toNat)) = ji16 := fun h_ => (i64_w _).symm.trans (hji16z h_)
        obtain ⟨y479, hy479⟩ : ∃ y_ : List Int, y_ = (x3_1.set (x9_1 : Int).toNat (Go.bits .or .i64 (rd x3_1 x9_1) (ji16))) := ⟨_, rfl⟩
        replace H : (spec_l4Ways.l0 k1 l2 y479 (l2.length : Int) (wrap64 (x9_1 + 1))) = some r := by first | (rw [hy479]; with_reducible exact H) | (have H2_ := (Option.bind_some _ _).symm.trans H; rw [hy479]; with_reducible exact H2_) | (have H2_ := (Option.bind_some _ _).symm.trans H; with_reducible exact H2_) | with_reducible exact H | (rw [hy479]; exact H) | exact H
        have Ny479 := yam hy479
        clear hy479
        have H' := yam H
        clear H
        try go_wp2
        have n0_ := yam (Kd.Yd HO_3.out)
        have n1_ := yam (ybd BK475.out)
        have n2_ := yam (Kept.drew HK.out)
        have n3_ := yam (yed HB.out)
        clear HO_3
        clear BK475
        clear HK
        clear HB
        have HO_3 := n0_
        have BK475 := n1_
        have HK := n2_
        have HB := n3_
        clear n0_ n1_ n2_ n3_
        obtain ⟨Ao19, co19, eo19⟩ := Kd.R_slice HO_3.out
        (first | subst eo19 | (injection eo19 with f1_ f2_ f3_; have f4_ := f1_.symm; have f5_ := f3_.symm; clear f1_ f2_ f3_; subst f4_; subst f5_))
        have p477 : 0 ≤ (x9_1 : Int) := of_decide_eq_true (by first | (with_reducible assumption) | assumption)
        have q477 : x9_1 < (x3_1.length : Int) := of_decide_eq_true (by first | (with_reducible assumption) | assumption)
        obtain ⟨ad477, e477, hx477_0⟩ := Kd.at_int (Kd.Yr HO_3.out).2.2 x9_1 p477 q477
        cases e477
        replace p477 := eq_true p477
        replace q477 := eq_true q477
        have p478 : 0 ≤ (x9_1 : Int) := of_decide_eq_true (by first | (with_reducible assumption) | assumption)
        have q478 : x9_1 < (l2.length : Int) := of_decide_eq_true (by first | (with_reducible assumption) | assumption)
        obtain ⟨ad478, e478, hx478_0⟩ := Kd.at_int (Kd.C_kept_now HR2.out HK.out) x9_1 p478 q478
        have hw478_0 := hx478_0
        cases e478
        replace p478 := eq_true p478
        replace q478 := eq_true q478
        have p17 : 0 ≤ (x9_1 : Int) := of_decide_eq_true (by first | (with_reducible assumption) | assumption)
        have q17 : (x9_1 : Int) < ((x3_1.length : Int) : Int) := of_decide_eq_true (by first | (with_reducible assumption) | assumption)
        obtain ⟨go17, co17, eo17, gb17, gl17, cl17, HG17⟩ := Kd.R_form HO_3.out (by omega)
        (first | cases eo17 | (injection eo17 with ea_ en_ ec_; (first | subst ea_ | (injection ea_ with ea_; subst ea_)); subst ec_; clear en_))
        have GB17 := yam gb17
        have GG17 := yam HG17
        clear gb17 gl17 HG17
        have HMgo17 := yam (show (P3_ go17 ∨ w.heap.size ≤ go17) from (HO_3.out.1 _ rfl))
        (first | simp only [add_plain] at hx477_0 | skip)
        obtain ⟨hx17_0, hf17_0⟩ := Kd.R_celln 0 HO_3.out (x9_1 : Int) p17 q17
        replace p17 := eq_true p17
        replace q17 := eq_true q17
        have HP20 := Kd.R_putn HO_3.out (x9_1 : Int) (Go.bits .or .i64 (rd x3_1 x9_1) (ji16))
        rw [← Ny479.out] at HP20
        have HQ20 := yam HP20
        clear HP20
        refine start_ (n := 14) (S := fun w' => w'.cell? ⟨go17, (x9_1).toNat, none⟩ = some (.int .i64 (rd x3_1 x9_1)) ∧ w'.cell? (ad478.add (x9_1).toNat) = some (.int .i64 (rd l2 x9_1))) (ds := [13]) #[false, false, false, false, false, false, false, false, false, false, false, false, false, false] (by kernel_rfl) rfl rfl ⟨hx477_0, (Kd.foot_int (HR2.out _ (by repeat (first | exact HK.out | apply Kept.alloc | apply Kept.drewN | apply Kept.drew | refine Kept.setCell ?_ HMgo17.out _))) x9_1 (of_eq_true p478) (of_eq_true q478))⟩ (fun hHeld => ?_); refine with_tabW spec_l4Ways.tab7 spec_l4Ways.bits7 (fun HT_ HW_ => ?_)
        generalize wr.drew = w18 at HO_3 BK475 HK HB GG17 HQ20 hf17_0 hx17_0 hx477_0 hx478_0 hHeld ⊢
        refine pure_ (i := 0) (N := some 27) (v := ?_) (a' := ?_) #[true, false, false, false, false, false, false, false, false, false, false, false, false, false] rfl rfl (any_of HT_.out (by kernel_rfl)) (fun _ _ _ h => h) (Or.inl ⟨by rfl, ?_⟩) ?_ ?_
        rotate_left
        · intro w'
          go_simp
          with_reducible rfl
        rotate_left
        · simp only [Act.put, yps, i64_w, i32_w]
          rfl
        refine pure_ (i := 1) (N := some 28) (v := ?_) (a' := ?_) #[true, true, false, false, false, false, false, false, false, false, false, false, false, false] rfl rfl (any_of HT_.out (by kernel_rfl)) (fun _ _ _ h => h) (Or.inl ⟨by rfl, ?_⟩) ?_ ?_
        rotate_left
        · intro w'
          go_simp
          with_reducible rfl
        rotate_left
        · simp only [Act.put, yps, i64_w, i32_w]
          rfl
        refine pure_ (i := 2) (N := some 29) (v := ?_) (a' := ?_) #[true, true, true, false, false, false, false, false, false, false, false, false, false, false] rfl rfl (any_of HT_.out (by kernel_rfl)) (fun _ _ _ h => h) (Or.inl ⟨by rfl, ?_⟩) ?_ ?_
        rotate_left
        · intro w'
          go_simp
          with_reducible rfl
        rotate_left
        · simp only [Act.put, yps, i64_w, i32_w]
          rfl
        refine pure_ (i := 3) (N := some 30) (v := ?_) (a' := ?_) #[true, true, true, true, false, false, false, false, false, false, false, false, false, false] rfl rfl (any_of HT_.out (by kernel_rfl)) (fun _ _ _ h => h) (Or.inl ⟨by rfl, ?_⟩) ?_ ?_
        rotate_left
        · intro w'
          go_simp
          with_reducible rfl
        rotate_left
        · simp only [Act.put, yps, i64_w, i32_w]
          rfl
        refine pure_ (i := 4) (N := some 31) (v := ?_) (a' := ?_) #[true, true, true, true, true, false, false, false, false, false, false, false, false, false] rfl rfl (any_of HT_.out (by kernel_rfl)) (fun _ _ _ h => h) (Or.inl ⟨by rfl, ?_⟩) ?_ ?_
        rotate_left
        · intro w'
          go_simp
          with_reducible rfl
        rotate_left
        · simp only [Act.put, yps, i64_w, i32_w]
          rfl
        refine pure_ (i := 6) (N := some 33) (v := ?_) (a' := ?_) #[true, true, true, true, true, false, true, false, false, false, false, false, false, false] rfl rfl (any_of HT_.out (by kernel_rfl)) (fun _ _ _ h => h) (Or.inl ⟨by rfl, ?_⟩) ?_ ?_
        rotate_left
        · intro w'
          go_simp
          with_reducible rfl
        rotate_left
        · simp only [Act.put, yps, i64_w, i32_w]
          rfl
        refine pure_ (i := 7) (N := some 34) (v := ?_) (a' := ?_) #[true, true, true, true, true, false, true, true, false, false, false, false, false, false] rfl rfl (any_of HT_.out (by kernel_rfl)) (fun _ _ _ h => h) (Or.inl ⟨by rfl, ?_⟩) ?_ ?_
        rotate_left
        · intro w'
          go_simp
          with_reducible rfl
        rotate_left
        · simp only [Act.put, yps, i64_w, i32_w]
          rfl
        refine pure_ (i := 8) (N := some 35) (v := ?_) (a' := ?_) #[true, true, true, true, true, false, true, true, true, false, false, false, false, false] rfl rfl (any_of HT_.out (by kernel_rfl)) (fun _ _ _ h => h) (Or.inl ⟨by rfl, ?_⟩) ?_ ?_
        rotate_left
        · intro w'
          go_simp
          with_reducible rfl
        rotate_left
        · simp only [Act.put, yps, i64_w, i32_w]
          rfl
        refine take_ (i := 5) (N := some 32) (v := ?_) (a' := ?_) #[true, true, true, true, true, true, true, true, true, false, false, false, false, false] rfl rfl (take_ofW HT_.out HW_.out (by kernel_rfl)) (fun _ _ _ h => h) (Or.inl ⟨by rfl, ?_⟩) hHeld ?_ ?_
        rotate_left
        · rintro w' ⟨s0, s1⟩
          go_simp
          with_reducible rfl
        rotate_left
        · simp only [Act.put, yps, i64_w, i32_w]
          rfl
        refine take_ (i := 9) (N := some 36) (v := ?_) (a' := ?_) #[true, true, true, true, true, true, true, true, true, true, false, false, false, false] rfl rfl (take_ofW HT_.out HW_.out (by kernel_rfl)) (fun _ _ _ h => h) (Or.inl ⟨by rfl, ?_⟩) hHeld ?_ ?_
        rotate_left
        · rintro w' ⟨s0, s1⟩
          go_simp
          with_reducible rfl
        rotate_left
        · simp only [Act.put, yps, i64_w, i32_w]
          rfl
        refine pure_ (i := 10) (N := some 37) (v := ?_) (a' := ?_) #[true, true, true, true, true, true, true, true, true, true, true, false, false, false] rfl rfl (any_of HT_.out (by kernel_rfl)) (fun _ _ _ h => h) (Or.inl ⟨by rfl, ?_⟩) ?_ ?_
        rotate_left
        · intro w'
          go_simp
          with_reducible rfl
        rotate_left
        · simp only [Act.put, yps, i64_w, i32_w]
          rfl
        refine pure_ (i := 11) (N := some 38) (v := ?_) (a' := ?_) #[true, true, true, true, true, true, true, true, true, true, true, true, false, false] rfl rfl (any_of HT_.out (by kernel_rfl)) (fun _ _ _ h => h) (Or.inl ⟨by rfl, ?_⟩) ?_ ?_
        rotate_left
        · intro w'
          go_simp
          with_reducible rfl
        rotate_left
        · simp only [Act.put, yps, i64_w, i32_w]
          rfl
        refine pure_ (i := 12) (N := some 39) (v := ?_) (a' := ?_) #[true, true, true, true, true, true, true, true, true, true, true, true, true, false] rfl rfl (any_of HT_.out (by kernel_rfl)) (fun _ _ _ h => h) (Or.inl ⟨by rfl, ?_⟩) ?_ ?_
        rotate_left
        · intro w'
          go_simp
          with_reducible rfl
        rotate_left
        · simp only [Act.put, yps, i64_w, i32_w]
          rfl
        refine last_ (i := 13) (N := none) #[true, true, true, true, true, true, true, true, true, true, true, true, true, true] rfl rfl (one_of HT_.out (by kernel_rfl)) (by decide) (fun K hK => ?_)
        refine skip_ (w1 := ?_) (by rfl) rfl ?_ ?_
        rotate_left
        · go_simp
          rfl
        refine hK.out _ _ ?_
        clear hK K
        refine done_ (done_of HT_.out (by kernel_rfl)) ?_
        try go_wp2
        go_roundg k1
        case measure => have := HK1.out; omega
        case rel => exact ⟨(y479), (wrap64 (x9_1 + 1)), (by first | rfl | (simp; done) | (simp [*]; done)), H', ⟨by have := HK1.out; omega⟩, ⟨by (with_reducible repeat (first | apply Kd.Ya | apply Kd.Yn | apply Kd.Yd)); exact HQ20.out⟩, ⟨by (with_reducible repeat (first | refine ybn ?_ _ | refine ybd ?_ | refine yba ?_ _)); refine blk_far ?_ (by have h_ := Kd.R_ne HO_3.out BK475.out (by decide); intro e_; exact h_ (by rw [e_]; rfl)) _; (with_reducible repeat (first | refine ybn ?_ _ | refine ybd ?_ | refine yba ?_ _)); exact BK475.out⟩, ⟨by repeat (first | (with_reducible first | exact HK.out | apply Kept.alloc | apply Kept.drewN | apply Kept.drew | refine Kept.setCell ?_ HMgo17.out _ | refine Kept.setCell ?_ (.inr GW475.out) _) | exact HK.out)⟩, ⟨by repeat (first | (with_reducible first | exact HB.out | apply yea | apply yen | apply yed | refine below_set ?_ GB17.out | refine below_set ?_ GE475.out) | exact HB.out)⟩⟩
  rw [if_neg c5] at H
  have c5b0 : ((l2.length : Int) == (l0_1.length : Int)) = false := beq_eq_false_iff_ne.mpr c5
  have c5b1 : ((l2.length : Int) != (l0_1.length : Int)) = true := bne_iff_ne.mpr c5
  have c5b2 : (l2.length == l0_1.length) = false := by first | simpa using c5 | (simp at c5 ⊢; omega)
  by_cases c24 : 0 ≤ (l2.length : Int)
  rotate_left
  · rw [if_neg c24] at H
    exact absurd H (by simp)

  rw [if_pos c24] at H
  have c24b0 : decide (0 ≤ (l2.length : Int)) = true := decide_eq_true c24
  have c24b1 : decide (0 ≤ l2.length) = true := decide_eq_true (by omega)
  clear c24
  by_cases c25 : (l2.length : Int) < (l0_1.length : Int)
  rotate_left
  · rw [if_neg c25] at H
    exact absurd H (by simp)
  rw [if_pos c25] at H
  have c25b0 : decide ((l2.length : Int) < (l0_1.length : Int)) = true := decide_eq_true c25
  have c25b1 : decide (l2.length < l0_1.length) = true := decide_eq_true (Int.ofNat_lt.mp c25)
  clear c25
  by_cases c26 : 0 ≤ (rd l0_1 (l2.length : Int))
  rotate_left
  · rw [if_neg c26] at H
    exact absurd H (by simp)
  rw [if_pos c26] at H
  have c26b0 : decide (0 ≤ (rd l0_1 (l2.length : Int))) = true := decide_eq_true c26
  clear c26
  by_cases c27 : (rd l0_1 (l2.length : Int)) < (l1.length : Int)
  rotate_left
  · rw [if_neg c27] at H
    exact absurd H (by simp)
  rw [if_pos c27] at H
  have c27b0 : decide ((rd l0_1 (l2.length : Int)) < (l1.length : Int)) = true := decide_eq_true c27
  clear c27
  replace H := Option.bind_eq_some_iff.mp H
  obtain ⟨t482, A280, H⟩ := H
  try dsimp only at H
  have A28 := yam A280
  clear A280
  have H' := yam H
  clear H
  go_enter Try.func76, Try.ntmps76
  go_wp2_with (first | ((with_reducible refine gate_dst (N := 4) rfl ?_); refine box_event ?hg (N := 4) ?hd (cs := #[.int .i64 a0_0, .slice A0_1 l0_1.length c0_1, .int .i64 a0_2]) (t := 32) ?hr ?_; (case hd => rfl); (case hg => rfl); (case hr => first | (go_simp; done) | (go_simp; rfl)); intro gb475 hg w29 hbox hb; have n0_ := yam (Kd.R_below (Kd.Yz HO3.out) hb); have n1_ := yam (Kept.below (S := (fun k_ => P3_ k_)) (by repeat (first | (with_reducible first | exact HK.out | apply Kept.alloc | apply Kept.drewN | apply Kept.drew) | exact HK.out)) hb); have n2_ := yam (below_step (yez HB.out) hb); have n3_ := yam (hbox); have n4_ := yam ((by rw [hg]; exact (by first | exact HK.out.1 | exact (show Kept w _ (fun k_ => P3_ k_) from by repeat (first | (with_reducible first | exact HK.out | apply Kept.alloc | apply Kept.drewN | apply Kept.drew) | exact HK.out)).1) : w.heap.size ≤ gb475)); have n5_ := yam ((by rw [hg]; exact (below_size (yez HB.out)) : w0.heap.size ≤ gb475)); clear HO3; clear HK; clear HB; have HO3 := n0_; have HK := n1_; have HB := n2_; have BK475 := n3_; have GW475 := n4_; have GE475 := n5_; clear n0_ n1_ n2_ n3_ n4_ n5_; clear hb hbox hg; have hcz30_0 : w29.cell? ⟨gb475, 0, none⟩ = some (.int .i64 a0_0) := (blk_cell BK475.out 0).trans rfl; have hcz30_1 : w29.cell? ⟨gb475, 1, none⟩ = some (.slice A0_1 l0_1.length c0_1) := (blk_cell BK475.out 1).trans rfl; have hcz30_2 : w29.cell? ⟨gb475, 2, none⟩ = some (.int .i64 a0_2) := (blk_cell BK475.out 2).trans rfl; have hfz30_0 := blk_frozen BK475.out 0; have hfz30_1 := blk_frozen BK475.out 1; have hfz30_2 := blk_frozen BK475.out 2; have p480 : 0 ≤ ((l2.length : Int) : Int) := of_decide_eq_true (by first | (with_reducible assumption) | assumption); have q480 : (l2.length : Int) < (l0_1.length : Int) := of_decide_eq_true (by first | (with_reducible assumption) | assumption); obtain ⟨ad480, e480, hx480_0⟩ := Kd.at_int (Kd.C_kept_now HR0_1.out HK.out) (l2.length : Int) p480 q480; cases e480; (try simp only [Go.IntWalk.toNatUp] at hx480_0); replace p480 := eq_true p480; replace q480 := eq_true q480; have p481 : 0 ≤ ((rd l0_1 (l2.length : Int)) : Int) := of_decide_eq_true (by first | (with_reducible assumption) | assumption); have q481 : (rd l0_1 (l2.length : Int)) < (l1.length : Int) := of_decide_eq_true (by first | (with_reducible assumption) | assumption); obtain ⟨ad481, e481, hx481_0⟩ := Kd.at_int (Kd.C_kept_now HR1.out HK.out) (rd l0_1 (l2.length : Int)) p481 q481; cases e481; (try simp only [Go.IntWalk.toNatUp] at hx481_0); replace p481 := eq_true p481; replace q481 := eq_true q481) | ((with_reducible refine gate_callee (f := 90) rfl ?_); refine goesL_ (some 48) rfl rfl Try.func90 (by kernel_rfl) rfl #[.int .i64 (rd l1 (rd l0_1 (l2.length : Int)))] rfl (by (try simp only [List.map_toArray, List.map_cons, List.map_nil]); first | done | rfl | (simp only [List.length_drop, List.length_take]; rfl)) ?_; (with_reducible refine (spec_MaskValues.calls k (rd l1 (rd l0_1 (l2.length : Int))) t482 _ A28.out).mono ?_); rintro e w31 ⟨v483, rfl, ho0, hb⟩; refine ⟨_, rfl, ?_⟩; have n0_ := yam (Kd.Ye (Kd.Yz HO3.out) (Kd.Yb ho0) hb); have n1_ := yam (Kd.R_lower (Kd.Yw (Kd.R_newM (M := fun k_ => (P3_ k_ ∨ w.heap.size ≤ k_)) ho0 (by first | exact HK.out.1 | exact (show Kept w _ (fun k_ => P3_ k_) from by repeat (first | (with_reducible first | exact HK.out | apply Kept.alloc | apply Kept.drewN | apply Kept.drew | refine Kept.setCell ?_ (.inr GW475.out) _) | exact HK.out)).1) (fun k_ h_ => .inr h_)) (Kd.R_lt (Kd.Yz HO3.out))) (below_size (by repeat (first | (with_reducible first | exact HB.out | apply yea | apply yen | apply yed | refine below_set ?_ GE475.out) | exact HB.out)))); have n2_ := yam (blk_below (g := gb475) (o := .cells #[.int .i64 a0_0, .slice (some ad480) l0_1.length c0_1, .int .i64 a0_2] 32 (0, 0)) (ybz BK475.out) hb); have n3_ := yam (Kept.below (S := (fun k_ => P3_ k_)) (by repeat (first | (with_reducible first | exact HK.out | apply Kept.alloc | apply Kept.drewN | apply Kept.drew | refine Kept.setCell ?_ (.inr GW475.out) _) | exact HK.out)) hb); have n4_ := yam (below_step (by repeat (first | (with_reducible first | exact HB.out | apply yea | apply yen | apply yed | refine below_set ?_ GE475.out) | exact HB.out)) hb); clear HO3; clear BK475; clear HK; clear HB; have HO3 := n0_; have HO484 := n1_; have BK475 := n2_; have HK := n3_; have HB := n4_; clear n0_ n1_ n2_ n3_ n4_; (try clear hb); (try clear hb2); (try clear hk); (try clear hi); (try clear ho0)))
  go_loopg [11] k (fun kq v11 w' => ∃ (x3_1 : List Int) (x11_1 : Int), v11 = .int .i64 x11_1 ∧ Aside0 (spec_l4Ways.l1 kq l1 l2 x3_1 t482 x11_1 a0_0 l0_1 a0_2 = some r) ∧ Aside0 (kq ≤ k) ∧ Aside0 (Kd.R (Kd.int .i64) 3 w' w0.heap.size (fun k_ => (P3_ k_ ∨ w.heap.size ≤ k_) ∧ some k_ ≠ (v483 : Value).ownBlock) u9000_ x3_1) ∧ Aside0 (Kd.R (Kd.int .i64) 3 w' w0.heap.size (fun k_ => (P3_ k_ ∨ w.heap.size ≤ k_) ∧ some k_ ≠ (u9000_ : Value).ownBlock) v483 t482) ∧ Aside0 (w'.heap[gb475]? = some (.cells #[.int .i64 a0_0, (.slice (some ad480) l0_1.length c0_1), .int .i64 a0_2] 32 (0, 0))) ∧ Aside0 (Kept w w' (fun k_ => P3_ k_)) ∧ Aside0 (Below w0.heap.size w0 w'))
  case atStart => exact ⟨(l3), (0), (by first | rfl | (simp; done) | (simp [*]; done)), H', ⟨Nat.le_refl _⟩, ⟨by (with_reducible repeat (first | apply Kd.Ya | apply Kd.Yn | apply Kd.Yd)); exact HO3.out⟩, ⟨by (with_reducible repeat (first | apply Kd.Ya | apply Kd.Yn | apply Kd.Yd)); exact Kd.R_mono HO484.out (fun _ hk => ⟨hk.1.1, hk.2⟩)⟩, ⟨by (with_reducible repeat (first | refine ybn ?_ _ | refine ybd ?_ | refine yba ?_ _)); exact BK475.out⟩, ⟨by repeat (first | (with_reducible first | exact HK.out | apply Kept.alloc | apply Kept.drewN | apply Kept.drew | refine Kept.setCell ?_ (.inr GW475.out) _) | exact HK.out)⟩, ⟨by repeat (first | (with_reducible first | exact HB.out | apply yea | apply yen | apply yed | refine below_set ?_ GE475.out) | exact HB.out)⟩⟩
  case round =>
    clear H'
    try clear c1
    try clear p1
    try clear q1
    try clear hx1
    try clear c2
    try clear p2
    try clear p4
    try clear q4
    try clear hx4
    try clear c5
    try clear c5b0
    try clear c5b1
    try clear c5b2
    try clear p6
    try clear c7
    try clear c8
    try clear c9
    try clear c11
    try clear c11b0
    try clear c12
    try clear c12b0
    try clear c13
    try clear c13b0
    try clear c14
    try clear c14b0
    try clear c15
    try clear c15b0
    try clear c15b1
    try clear p17
    try clear q17
    try clear hx17
    try clear hf17
    try clear c24
    try clear c24b0
    try clear c24b1
    try clear c25
    try clear c25b0
    try clear c25b1
    try clear c26
    try clear c26b0
    try clear c27
    try clear c27b0
    try clear hcz22_0
    try clear hcz22_1
    try clear hcz22_2
    try clear hcz30_0
    try clear hcz30_1
    try clear hcz30_2
    try clear hcz9_0
    try clear hcz9_1
    try clear hcz9_2
    try clear hfz22_0
    try clear hfz22_1
    try clear hfz22_2
    try clear hfz30_0
    try clear hfz30_1
    try clear hfz30_2
    try clear hfz9_0
    try clear hfz9_1
    try clear hfz9_2
    try clear hx17_0
    try clear hx477_0
    try clear hx478_0
    try clear hx480_0
    try clear hx481_0
    try clear p17
    try clear p2
    try clear p477
    try clear p478
    try clear p480
    try clear p481
    try clear q17
    try clear q477
    try clear q478
    try clear q480
    try clear q481
    obtain ⟨x3_1, x11_1, rfl, HA, HK1, HO_3, HO_10, BK475, HK, HB⟩ := hrel
    cases gk with
    | zero => exact absurd HA.out (by simp [spec_l4Ways.l1])
    | succ k1 =>
      have H := HA.out
      clear HA
      simp only [spec_l4Ways.l1] at H
      by_cases c32 : x11_1 < (t482.length : Int)
      rotate_left
      · rw [if_neg c32] at H
        have c32b0 : decide (x11_1 < (t482.length : Int)) = false := decide_eq_false c32
        clear c32
        obtain rfl := Option.some.inj H
        obtain ⟨Ao50, co50, eo50⟩ := Kd.R_slice HO_10.out
        subst eo50
        go_wp2
        first | go_end0 | ((try simp only [Exit.inBlock, Exit.then]); refine bodyPost_ret (results_none rfl _ _ _) rfl ?_)
        exact ⟨by first | rfl | (simp [errW_none, errW_some] <;> rfl) | (simp [*, errW_none, errW_some] <;> rfl), by (with_reducible repeat (first | apply Kd.Ya | apply Kd.Yn | apply Kd.Yd)); exact Kd.R_mono HO_3.out (fun _ hk => hk.1), by repeat (first | (with_reducible first | exact HB.out | apply yea | apply yen | apply yed | refine below_set ?_ GE475.out) | exact HB.out), by repeat (first | (with_reducible first | exact HK.out | apply Kept.alloc | apply Kept.drewN | apply Kept.drew | refine Kept.setCell ?_ (.inr GW475.out) _) | exact HK.out)⟩
      rw [if_pos c32] at H
      have c32b0 : decide (x11_1 < (t482.length : Int)) = true := decide_eq_true c32
      clear c32
      obtain ⟨y485, hy485⟩ : ∃ y_ : List Int, y_ = (([] : List Int)) := ⟨_, rfl⟩
      replace H : (if y485.length + l2.length < 17592186044416 then ((some (y485 ++ l2 : List Int)).bind fun y488 => (if 0 ≤ x11_1 then ((some (([rd t482 x11_1] : List Int) : List Int)).bind fun y492 => (if y488.length + y492.length < 17592186044416 then ((spec_l4Ways.f k1 a0_0 l0_1 a0_2 l1 (y488 ++ y492) x3_1).bind fun t498 => (spec_l4Ways.l1 k1 l1 l2 t498 t482 (wrap64 (x11_1 + 1)) a0_0 l0_1 a0_2)) else (none))) else (none))) else (none)) = some r := by first | (rw [hy485]; with_reducible exact H) | (have H2_ := (Option.bind_some _ _).symm.trans H; rw [hy485]; with_reducible exact H2_) | (have H2_ := (Option.bind_some _ _).symm.trans H; with_reducible exact H2_) | with_reducible exact H | (rw [hy485]; exact H) | exact H
      have Ny485 := yam hy485
      clear hy485
      by_cases c33 : y485.length + l2.length < 17592186044416
      rotate_left
      · rw [if_neg c33] at H
        exact absurd H (by simp)
      rw [if_pos c33] at H
      have LMc33 := yam c33
      clear c33
      obtain ⟨y488, hy488⟩ : ∃ y_ : List Int, y_ = (y485 ++ l2) := ⟨_, rfl⟩
      replace H : (if 0 ≤ x11_1 then ((some (([rd t482 x11_1] : List Int) : List Int)).bind fun y492 => (if y488.length + y492.length < 17592186044416 then ((spec_l4Ways.f k1 a0_0 l0_1 a0_2 l1 (y488 ++ y492) x3_1).bind fun t498 => (spec_l4Ways.l1 k1 l1 l2 t498 t482 (wrap64 (x11_1 + 1)) a0_0 l0_1 a0_2)) else (none))) else (none)) = some r := by first | (rw [hy488]; with_reducible exact H) | (have H2_ := (Option.bind_some _ _).symm.trans H; rw [hy488]; with_reducible exact H2_) | (have H2_ := (Option.bind_some _ _).symm.trans H; with_reducible exact H2_) | with_reducible exact H | (rw [hy488]; exact H) | exact H
      have Ny488 := yam hy488
      clear hy488
      by_cases c34 : 0 ≤ x11_1
      rotate_left
      · rw [if_neg c34] at H
        exact absurd H (by simp)
      rw [if_pos c34] at H
      have c34b0 : decide (0 ≤ x11_1) = true := decide_eq_true c34
      clear c34
      obtain ⟨y492, hy492⟩ : ∃ y_ : List Int, y_ = (([rd t482 x11_1] : List Int)) := ⟨_, rfl⟩
      replace H : (if y488.length + y492.length < 17592186044416 then ((spec_l4Ways.f k1 a0_0 l0_1 a0_2 l1 (y488 ++ y492) x3_1).bind fun t498 => (spec_l4Ways.l1 k1 l1 l2 t498 t482 (wrap64 (x11_1 + 1)) a0_0 l0_1 a0_2)) else (none)) = some r := by first | (rw [hy492]; with_reducible exact H) | (have H2_ := (Option.bind_some _ _).symm.trans H; rw [hy492]; with_reducible exact H2_) | (have H2_ := (Option.bind_some _ _).symm.trans H; with_reducible exact H2_) | with_reducible exact H | (rw [hy492]; exact H) | exact H
      have Ny492 := yam hy492
      clear hy492
      by_cases c35 : y488.length + y492.length < 17592186044416
      rotate_left
      · rw [if_neg c35] at H
        exact absurd H (by simp)
      rw [if_pos c35] at H
      have LMc35 := yam c35
      clear c35
      obtain ⟨y495, hy495⟩ : ∃ y_ : List Int, y_ = (y488 ++ y492) := ⟨_, rfl⟩
      replace H : ((spec_l4Ways.f k1 a0_0 l0_1 a0_2 l1 y495 x3_1).bind fun t498 => (spec_l4Ways.l1 k1 l1 l2 t498 t482 (wrap64 (x11_1 + 1)) a0_0 l0_1 a0_2)) = some r := by first | (rw [hy495]; with_reducible exact H) | (have H2_ := (Option.bind_some _ _).symm.trans H; rw [hy495]; with_reducible exact H2_) | (have H2_ := (Option.bind_some _ _).symm.trans H; with_reducible exact H2_) | with_reducible exact H | (rw [hy495]; exact H) | exact H
      have Ny495 := yam hy495
      clear hy495
      replace H := Option.bind_eq_some_iff.mp H
      obtain ⟨t498, A360, H⟩ := H
      try dsimp only at H
      have A36 := yam A360
      clear A360
      have H' := yam H
      clear H
      obtain ⟨Ao37, co37, eo37⟩ := Kd.R_slice HO_10.out
      subst eo37
      obtain ⟨Ao38, co38, eo38⟩ := Kd.R_slice HO_3.out
      subst eo38
      try go_wp2
      have n0_ := yam (Kd.Yd HO_3.out)
      have n1_ := yam (Kd.Yd HO_10.out)
      have n2_ := yam (ybd BK475.out)
      have n3_ := yam (Kept.drew HK.out)
      have n4_ := yam (yed HB.out)
      clear HO_3
      clear HO_10
      clear BK475
      clear HK
      clear HB
      have HO_3 := n0_
      have HO_10 := n1_
      have BK475 := n2_
      have HK := n3_
      have HB := n4_
      clear n0_ n1_ n2_ n3_ n4_
      have p491 : 0 ≤ (x11_1 : Int) := of_decide_eq_true (by first | (with_reducible assumption) | assumption)
      have q491 : x11_1 < (t482.length : Int) := of_decide_eq_true (by first | (with_reducible assumption) | assumption)
      obtain ⟨ad491, e491, hx491_0⟩ := Kd.at_int (Kd.Yr HO_10.out).2.2 x11_1 p491 q491
      cases e491
      replace p491 := eq_true p491
      replace q491 := eq_true q491
      refine start_ (n := 13) (S := fun w' => w'.cell? ⟨gb475, 0, none⟩ = some (.int .i64 a0_0) ∧ w'.cell? ⟨gb475, 1, none⟩ = some (.slice (some ad480) l0_1.length c0_1) ∧ w'.cell? ⟨gb475, 2, none⟩ = some (.int .i64 a0_2) ∧ w'.cell? (ad491.add (x11_1).toNat) = some (.int .i64 (rd t482 x11_1))) (ds := []) #[false, false, false, false, false, false, false, false, false, false, false, false, false] (by kernel_rfl) rfl rfl ⟨(blk_cell BK475.out 0).trans rfl, (blk_cell BK475.out 1).trans rfl, (blk_cell BK475.out 2).trans rfl, hx491_0⟩ (fun hHeld => ?_); refine with_tabW spec_l4Ways.tab12 spec_l4Ways.bits12 (fun HT_ HW_ => ?_)
      generalize wr.drew = w39 at HO_3 HO_10 BK475 HK HB hx491_0 hHeld ⊢
      refine pure_ (i := 1) (N := some 56) (v := ?_) (a' := ?_) #[false, true, false, false, false, false, false, false, false, false, false, false, false] rfl rfl (any_of HT_.out (by kernel_rfl)) (fun _ _ _ h => h) (Or.inl ⟨by rfl, ?_⟩) ?_ ?_
      rotate_left
      · intro w'
        go_simp
        with_reducible rfl
      rotate_left
      · simp only [Act.put, yps, i64_w, i32_w]
        rfl
      refine pure_ (i := 3) (N := some 58) (v := ?_) (a' := ?_) #[false, true, false, true, false, false, false, false, false, false, false, false, false] rfl rfl (any_of HT_.out (by kernel_rfl)) (fun _ _ _ h => h) (Or.inl ⟨by rfl, ?_⟩) ?_ ?_
      rotate_left
      · intro w'
        go_simp
        with_reducible rfl
      rotate_left
      · simp only [Act.put, yps, i64_w, i32_w]
        rfl
      refine pure_ (i := 5) (N := some 60) (v := ?_) (a' := ?_) #[false, true, false, true, false, true, false, false, false, false, false, false, false] rfl rfl (any_of HT_.out (by kernel_rfl)) (fun _ _ _ h => h) (Or.inl ⟨by rfl, ?_⟩) ?_ ?_
      rotate_left
      · intro w'
        go_simp
        with_reducible rfl
      rotate_left
      · simp only [Act.put, yps, i64_w, i32_w]
        rfl
      refine pure_ (i := 6) (N := some 61) (v := ?_) (a' := ?_) #[false, true, false, true, false, true, true, false, false, false, false, false, false] rfl rfl (any_of HT_.out (by kernel_rfl)) (fun _ _ _ h => h) (Or.inl ⟨by rfl, ?_⟩) ?_ ?_
      rotate_left
      · intro w'
        go_simp
        with_reducible rfl
      rotate_left
      · simp only [Act.put, yps, i64_w, i32_w]
        rfl
      refine pure_ (i := 7) (N := some 62) (v := ?_) (a' := ?_) #[false, true, false, true, false, true, true, true, false, false, false, false, false] rfl rfl (any_of HT_.out (by kernel_rfl)) (fun _ _ _ h => h) (Or.inl ⟨by rfl, ?_⟩) ?_ ?_
      rotate_left
      · intro w'
        go_simp
        with_reducible rfl
      rotate_left
      · simp only [Act.put, yps, i64_w, i32_w]
        rfl
      refine pure_ (i := 11) (N := some 66) (v := ?_) (a' := ?_) #[false, true, false, true, false, true, true, true, false, false, false, true, false] rfl rfl (any_of HT_.out (by kernel_rfl)) (fun _ _ _ h => h) (Or.inl ⟨by rfl, ?_⟩) ?_ ?_
      rotate_left
      · intro w'
        go_simp
        with_reducible rfl
      rotate_left
      · simp only [Act.put, yps, i64_w, i32_w]
        rfl
      refine take_ (i := 0) (N := some 55) (v := ?_) (a' := ?_) #[true, true, false, true, false, true, true, true, false, false, false, true, false] rfl rfl (take_ofW HT_.out HW_.out (by kernel_rfl)) (fun _ _ _ h => h) (Or.inl ⟨by rfl, ?_⟩) hHeld ?_ ?_
      rotate_left
      · rintro w' ⟨s0, s1, s2, s3⟩
        go_simp
        with_reducible rfl
      rotate_left
      · simp only [Act.put, yps, i64_w, i32_w]
        rfl
      refine take_ (i := 8) (N := some 63) (v := ?_) (a' := ?_) #[true, true, false, true, false, true, true, true, true, false, false, true, false] rfl rfl (take_ofW HT_.out HW_.out (by kernel_rfl)) (fun _ _ _ h => h) (Or.inl ⟨by rfl, ?_⟩) hHeld ?_ ?_
      rotate_left
      · rintro w' ⟨s0, s1, s2, s3⟩
        go_simp
        with_reducible rfl
      rotate_left
      · simp only [Act.put, yps, i64_w, i32_w]
        rfl
      refine join_ (σ := Value × Value × Value) 2 #[true, true, true, true, true, true, true, true, true, true, false, true, false] (fun s_ => [(57, s_.1), (59, s_.2.1), (64, s_.2.2)]) (fun s_ w' => (w'.cell? ⟨gb475, 0, none⟩ = some (.int .i64 a0_0) ∧ w'.cell? ⟨gb475, 1, none⟩ = some (.slice (some ad480) l0_1.length c0_1) ∧ w'.cell? ⟨gb475, 2, none⟩ = some (.int .i64 a0_2) ∧ w'.cell? (ad491.add (x11_1).toNat) = some (.int .i64 (rd t482 x11_1))) ∧ (Kd.R (Kd.int .i64) 3 w' w0.heap.size (fun k_ => (P3_ k_ ∨ w.heap.size ≤ k_) ∧ some k_ ≠ (s_.2.2 : Value).ownBlock ∧ some k_ ≠ (.slice (some ad491) t482.length co37 : Value).ownBlock ∧ some k_ ≠ (.slice Ao38 x3_1.length co38 : Value).ownBlock) s_.2.1 y488) ∧ (Kd.R (Kd.int .i64) 3 w' w0.heap.size (fun k_ => (P3_ k_ ∨ w.heap.size ≤ k_) ∧ some k_ ≠ (s_.2.1 : Value).ownBlock ∧ some k_ ≠ (.slice (some ad491) t482.length co37 : Value).ownBlock ∧ some k_ ≠ (.slice Ao38 x3_1.length co38 : Value).ownBlock) s_.2.2 y492) ∧ (Kd.R (Kd.int .i64) 3 w' w0.heap.size (fun k_ => (P3_ k_ ∨ w.heap.size ≤ k_) ∧ some k_ ≠ (s_.2.1 : Value).ownBlock ∧ some k_ ≠ (s_.2.2 : Value).ownBlock ∧ some k_ ≠ (.slice Ao38 x3_1.length co38 : Value).ownBlock) (.slice (some ad491) t482.length co37) t482) ∧ (Kd.R (Kd.int .i64) 3 w' w0.heap.size (fun k_ => (P3_ k_ ∨ w.heap.size ≤ k_) ∧ some k_ ≠ (s_.2.1 : Value).ownBlock ∧ some k_ ≠ (s_.2.2 : Value).ownBlock ∧ some k_ ≠ (.slice (some ad491) t482.length co37 : Value).ownBlock) (.slice Ao38 x3_1.length co38) x3_1) ∧ (w'.heap[gb475]? = some (.cells #[.int .i64 a0_0, .slice (some ad480) l0_1.length c0_1, .int .i64 a0_2] 32 (0, 0))) ∧ (Kept w w' (fun k_ => P3_ k_)) ∧ (Below w0.heap.size w0 w')) ?_ ?_
      rotate_left
      · intro hCont
        refine two_ (i := 2) (j := 9) (Ni := some 57) (Nj := some 64) #[true, true, true, true, false, true, true, true, true, false, false, true, false] #[true, true, false, true, false, true, true, true, true, true, false, true, false] rfl rfl rfl rfl (two_of HT_.out (by kernel_rfl)) (by decide) (by decide) (fun K hK => ?_) (fun K hK => ?_)
        · skip
          refine Kd.R_lit_step (Kd.int .i64) _ 3 ?hg (N := 57) ?hd (xs := ([] : List Int)) (inner := []) (ok := fun _ => True) (okp := fun _ => True) ?hr ?hp (fun _ hk => hk) trivial (Below.refl _ _) (Nat.le_refl _) (by simp) ?_; (case hd => rfl); (case hg => rfl); (case hr => first | (go_simp; done) | (go_simp; rfl)); (case hp => exact (Reps.none _ _))
          intro v486 w40 ho41 hb hg_ hnew_
          have HS3_ := (hb.cell (World.block_lt_of_cell? _ _ (hHeld.2.2.2))).trans (hHeld.2.2.2)
          clear hg_ hnew_
          (first | rw [← Ny485.out] at ho41 | (simp only [Int.reduceToNat] at ho41; rw [← Ny485.out] at ho41))
          have n0_ := yam (Kd.Ye (Kd.Yz HO_3.out) (Kd.Yb ho41) hb)
          have n1_ := yam (Kd.Ye (Kd.Yz HO_10.out) (Kd.Yb ho41) hb)
          have n2_ := yam (Kd.R_lower (Kd.Yw (Kd.Yw (Kd.R_newM (M := fun k_ => (P3_ k_ ∨ w.heap.size ≤ k_)) ho41 (by first | exact HK.out.1 | exact (show Kept w _ (fun k_ => P3_ k_) from by repeat (first | (with_reducible first | exact HK.out | apply Kept.alloc | apply Kept.drewN | apply Kept.drew | refine Kept.setCell ?_ (.inr GW475.out) _) | exact HK.out)).1) (fun k_ h_ => .inr h_)) (Kd.R_lt (Kd.Yz HO_3.out))) (Kd.R_lt (Kd.Yz HO_10.out))) (below_size (by repeat (first | (with_reducible first | exact HB.out | apply yea | apply yen | apply yed | refine below_set ?_ GE475.out) | exact HB.out))))
          have n3_ := yam (blk_below (g := gb475) (o := .cells #[.int .i64 a0_0, .slice (some ad480) l0_1.length c0_1, .int .i64 a0_2] 32 (0, 0)) (ybz BK475.out) hb)
          have n4_ := yam (Kept.below (S := (fun k_ => P3_ k_)) (by repeat (first | (with_reducible first | exact HK.out | apply Kept.alloc | apply Kept.drewN | apply Kept.drew | refine Kept.setCell ?_ (.inr GW475.out) _) | exact HK.out)) hb)
          have n5_ := yam (below_step (by repeat (first | (with_reducible first | exact HB.out | apply yea | apply yen | apply yed | refine below_set ?_ GE475.out) | exact HB.out)) hb)
          clear HO_3
          clear HO_10
          clear BK475
          clear HK
          clear HB
          have HO_3 := n0_
          have HO_10 := n1_
          have HO487 := n2_
          have BK475 := n3_
          have HK := n4_
          have HB := n5_
          clear n0_ n1_ n2_ n3_ n4_ n5_
          clear hb ho41
          refine hK.out _ _ ⟨(blk_cell BK475.out 0).trans rfl, (blk_cell BK475.out 1).trans rfl, (blk_cell BK475.out 2).trans rfl, HS3_⟩ (fun hHeld => ?_)
          clear hK K
          refine norm_ (a' := ?_) ?_ ?_
          rotate_left
          · show Act.put _ (some 57) _ = _
            simp only [Act.put, yps, i64_w, i32_w]
            rfl
          refine two_ (i := 4) (j := 9) (Ni := some 59) (Nj := some 64) #[true, true, true, true, true, true, true, true, true, false, false, true, false] #[true, true, true, true, false, true, true, true, true, true, false, true, false] rfl rfl rfl rfl (two_of HT_.out (by kernel_rfl)) (by decide) (by decide) (fun K hK => ?_) (fun K hK => ?_)
          · skip
            refine Kd.R_append_rows_step (Kd.int .i64) (w0 := w0) w0.heap.size (by rfl) (.tmp 57) (.tmp 58) 23 3 (.int .i64 0) 8 rfl Try.underlying23 info3 rfl (by decide) (by omega) v486 y485 l2 _ _ _ (fun k_ => (P3_ k_ ∨ w.heap.size ≤ k_) ∧ some k_ ≠ (.slice Ao38 x3_1.length co38 : Value).ownBlock ∧ some k_ ≠ (.slice (some ad491) t482.length co37 : Value).ownBlock) (fun _ => False) rfl rfl ?aO ?aR (fun _ _ h => h) (fun _ h => h.elim) ?aF ?aB ?aS ?aL ?_
            (case aR => exact Kd.C_kept_now HR2.out (by repeat (first | (with_reducible first | exact HK.out | apply Kept.alloc | apply Kept.drewN | apply Kept.drew | refine Kept.setCell ?_ (.inr GW475.out) _) | exact HK.out)))
            (case aB => exact (by repeat (first | (with_reducible first | exact HB.out | apply yea | apply yen | apply yed | refine below_set ?_ GE475.out) | exact HB.out)))
            (case aF => exact (fun k_ hk => ⟨(.inr (Nat.le_trans (by first | exact HK.out.1 | exact (show Kept w _ (fun k_ => P3_ k_) from by repeat (first | (with_reducible first | exact HK.out | apply Kept.alloc | apply Kept.drewN | apply Kept.drew | refine Kept.setCell ?_ (.inr GW475.out) _) | exact HK.out)).1) hk)), Kd.fresh' (Kd.R_lt (Kd.Yz HO_3.out)) k_ hk, Kd.fresh' (Kd.R_lt (Kd.Yz HO_10.out)) k_ hk⟩))
            (case aO => exact (by (with_reducible repeat (first | apply Kd.Ya | apply Kd.Yn | apply Kd.Yd)); exact Kd.R_mono HO487.out (fun _ hk => ⟨hk.1.1.1, ⟨hk.1.2, hk.2⟩⟩)))
            (case aS => exact (below_size (by repeat (first | (with_reducible first | exact HB.out | apply yea | apply yen | apply yed | refine below_set ?_ GE475.out) | exact HB.out))))
            (case aL => have := LMc33.out; omega)
            intro v489 w42 ho hb hg hat
            have HS3_ := cell_grown hg (hHeld.2.2.2) (by first | (rw [add_block]; exact (fun e_ => (by first | exact (HO487.out.1 _ e_.symm) rfl | exact (HO487.out.1 _ e_.symm).1 rfl | exact (HO487.out.1 _ e_.symm).2 rfl | exact (HO487.out.1 _ e_.symm).1.1 rfl | exact (HO487.out.1 _ e_.symm).1.2 rfl | exact (HO487.out.1 _ e_.symm).2.1 rfl | exact (HO487.out.1 _ e_.symm).2.2 rfl | exact (HO487.out.1 _ e_.symm).1.1.1 rfl | exact (HO487.out.1 _ e_.symm).1.1.2 rfl | exact (HO487.out.1 _ e_.symm).1.2.1 rfl | exact (HO487.out.1 _ e_.symm).1.2.2 rfl | exact (HO487.out.1 _ e_.symm).2.1.1 rfl | exact (HO487.out.1 _ e_.symm).2.1.2 rfl | exact (HO487.out.1 _ e_.symm).2.2.1 rfl | exact (HO487.out.1 _ e_.symm).2.2.2 rfl | exact (HO487.out.1 _ e_.symm).1.1.1.1 rfl | exact (HO487.out.1 _ e_.symm).1.1.1.2 rfl | exact (HO487.out.1 _ e_.symm).1.1.2.1 rfl | exact (HO487.out.1 _ e_.symm).1.1.2.2 rfl | exact (HO487.out.1 _ e_.symm).1.2.1.1 rfl | exact (HO487.out.1 _ e_.symm).1.2.1.2 rfl | exact (HO487.out.1 _ e_.symm).1.2.2.1 rfl | exact (HO487.out.1 _ e_.symm).1.2.2.2 rfl | exact (HO487.out.1 _ e_.symm).2.1.1.1 rfl | exact (HO487.out.1 _ e_.symm).2.1.1.2 rfl | exact (HO487.out.1 _ e_.symm).2.1.2.1 rfl | exact (HO487.out.1 _ e_.symm).2.1.2.2 rfl | exact (HO487.out.1 _ e_.symm).2.2.1.1 rfl | exact (HO487.out.1 _ e_.symm).2.2.1.2 rfl | exact (HO487.out.1 _ e_.symm).2.2.2.1 rfl | exact (HO487.out.1 _ e_.symm).2.2.2.2 rfl))) | (show some (Addr.add _ _).block ≠ _; rw [add_block]; exact (fun e_ => (by first | exact (HO487.out.1 _ e_.symm) rfl | exact (HO487.out.1 _ e_.symm).1 rfl | exact (HO487.out.1 _ e_.symm).2 rfl | exact (HO487.out.1 _ e_.symm).1.1 rfl | exact (HO487.out.1 _ e_.symm).1.2 rfl | exact (HO487.out.1 _ e_.symm).2.1 rfl | exact (HO487.out.1 _ e_.symm).2.2 rfl | exact (HO487.out.1 _ e_.symm).1.1.1 rfl | exact (HO487.out.1 _ e_.symm).1.1.2 rfl | exact (HO487.out.1 _ e_.symm).1.2.1 rfl | exact (HO487.out.1 _ e_.symm).1.2.2 rfl | exact (HO487.out.1 _ e_.symm).2.1.1 rfl | exact (HO487.out.1 _ e_.symm).2.1.2 rfl | exact (HO487.out.1 _ e_.symm).2.2.1 rfl | exact (HO487.out.1 _ e_.symm).2.2.2 rfl | exact (HO487.out.1 _ e_.symm).1.1.1.1 rfl | exact (HO487.out.1 _ e_.symm).1.1.1.2 rfl | exact (HO487.out.1 _ e_.symm).1.1.2.1 rfl | exact (HO487.out.1 _ e_.symm).1.1.2.2 rfl | exact (HO487.out.1 _ e_.symm).1.2.1.1 rfl | exact (HO487.out.1 _ e_.symm).1.2.1.2 rfl | exact (HO487.out.1 _ e_.symm).1.2.2.1 rfl | exact (HO487.out.1 _ e_.symm).1.2.2.2 rfl | exact (HO487.out.1 _ e_.symm).2.1.1.1 rfl | exact (HO487.out.1 _ e_.symm).2.1.1.2 rfl | exact (HO487.out.1 _ e_.symm).2.1.2.1 rfl | exact (HO487.out.1 _ e_.symm).2.1.2.2 rfl | exact (HO487.out.1 _ e_.symm).2.2.1.1 rfl | exact (HO487.out.1 _ e_.symm).2.2.1.2 rfl | exact (HO487.out.1 _ e_.symm).2.2.2.1 rfl | exact (HO487.out.1 _ e_.symm).2.2.2.2 rfl))) | exact (fun e_ => (by first | exact (HO487.out.1 _ e_.symm) rfl | exact (HO487.out.1 _ e_.symm).1 rfl | exact (HO487.out.1 _ e_.symm).2 rfl | exact (HO487.out.1 _ e_.symm).1.1 rfl | exact (HO487.out.1 _ e_.symm).1.2 rfl | exact (HO487.out.1 _ e_.symm).2.1 rfl | exact (HO487.out.1 _ e_.symm).2.2 rfl | exact (HO487.out.1 _ e_.symm).1.1.1 rfl | exact (HO487.out.1 _ e_.symm).1.1.2 rfl | exact (HO487.out.1 _ e_.symm).1.2.1 rfl | exact (HO487.out.1 _ e_.symm).1.2.2 rfl | exact (HO487.out.1 _ e_.symm).2.1.1 rfl | exact (HO487.out.1 _ e_.symm).2.1.2 rfl | exact (HO487.out.1 _ e_.symm).2.2.1 rfl | exact (HO487.out.1 _ e_.symm).2.2.2 rfl | exact (HO487.out.1 _ e_.symm).1.1.1.1 rfl | exact (HO487.out.1 _ e_.symm).1.1.1.2 rfl | exact (HO487.out.1 _ e_.symm).1.1.2.1 rfl | exact (HO487.out.1 _ e_.symm).1.1.2.2 rfl | exact (HO487.out.1 _ e_.symm).1.2.1.1 rfl | exact (HO487.out.1 _ e_.symm).1.2.1.2 rfl | exact (HO487.out.1 _ e_.symm).1.2.2.1 rfl | exact (HO487.out.1 _ e_.symm).1.2.2.2 rfl | exact (HO487.out.1 _ e_.symm).2.1.1.1 rfl | exact (HO487.out.1 _ e_.symm).2.1.1.2 rfl | exact (HO487.out.1 _ e_.symm).2.1.2.1 rfl | exact (HO487.out.1 _ e_.symm).2.1.2.2 rfl | exact (HO487.out.1 _ e_.symm).2.2.1.1 rfl | exact (HO487.out.1 _ e_.symm).2.2.1.2 rfl | exact (HO487.out.1 _ e_.symm).2.2.2.1 rfl | exact (HO487.out.1 _ e_.symm).2.2.2.2 rfl)))
            rw [← Ny488.out] at ho
            have n0_ := yam (Kd.R_after (ok := (fun k_ => (P3_ k_ ∨ w.heap.size ≤ k_) ∧ some k_ ≠ (.slice (some ad491) t482.length co37 : Value).ownBlock)) (Kd.Yz HO_3.out) hg hat)
            have n1_ := yam (Kd.R_after (ok := (fun k_ => (P3_ k_ ∨ w.heap.size ≤ k_) ∧ some k_ ≠ (.slice Ao38 x3_1.length co38 : Value).ownBlock)) (Kd.Yz HO_10.out) hg hat)
            have n2_ := yam (blk_grown (g := gb475) (o := .cells #[.int .i64 a0_0, .slice (some ad480) l0_1.length c0_1, .int .i64 a0_2] 32 (0, 0)) (ybz BK475.out) hg (Kd.R_ne HO487.out BK475.out (by decide)))
            have n3_ := yam (hb)
            have n4_ := yam (Kept.of_grown (S := (fun k_ => P3_ k_)) hg (by repeat (first | (with_reducible first | exact HK.out | apply Kept.alloc | apply Kept.drewN | apply Kept.drew | refine Kept.setCell ?_ (.inr GW475.out) _) | exact HK.out)) (fun k_ e_ => (HO487.out.1 k_ e_).1.1.1))
            have n5_ := yam (ho)
            clear HO_3
            clear HO_10
            clear BK475
            clear HB
            clear HK
            clear HO487
            have HO_3 := n0_
            have HO_10 := n1_
            have BK475 := n2_
            have HB := n3_
            have HK := n4_
            have HO490 := n5_
            clear n0_ n1_ n2_ n3_ n4_ n5_
            clear ho hb hg hat
            refine hK.out _ _ ⟨(blk_cell BK475.out 0).trans rfl, (blk_cell BK475.out 1).trans rfl, (blk_cell BK475.out 2).trans rfl, HS3_⟩ (fun hHeld => ?_)
            clear hK K
            refine norm_ (a' := ?_) ?_ ?_
            rotate_left
            · show Act.put _ (some 59) _ = _
              simp only [Act.put, yps, i64_w, i32_w]
              rfl
            refine one_ (i := 9) (N := some 64) #[true, true, true, true, true, true, true, true, true, true, false, true, false] rfl rfl (one_of HT_.out (by kernel_rfl)) (by decide) (fun K hK => ?_)
            refine Kd.R_lit_step (Kd.int .i64) _ 3 ?hg (N := 64) ?hd (xs := ([rd t482 x11_1] : List Int)) (inner := [.int .i64 (rd t482 x11_1)]) (ok := fun _ => True) (okp := fun _ => True) ?hr ?hp (fun _ hk => hk) trivial (Below.refl _ _) (Nat.le_refl _) (by simp) ?_; (case hd => rfl); (case hg => rfl); (case hr => first | (go_simp; done) | (go_simp; rfl)); (case hp => exact (Reps.one (show Kd.M (Kd.int .i64) _ _ _ (rd t482 x11_1) [.int .i64 (rd t482 x11_1)] from rfl) (Reps.none _ _)))
            intro v493 w43 ho44 hb hg_ hnew_
            have HS3_ := (hb.cell (World.block_lt_of_cell? _ _ (hHeld.2.2.2))).trans (hHeld.2.2.2)
            clear hg_ hnew_
            (first | rw [← Ny492.out] at ho44 | (simp only [Int.reduceToNat] at ho44; rw [← Ny492.out] at ho44))
            have n0_ := yam (Kd.Ye (Kd.Yz HO_3.out) (Kd.Yb ho44) hb)
            have n1_ := yam (Kd.Ye (Kd.Yz HO_10.out) (Kd.Yb ho44) hb)
            have n2_ := yam (Kd.Ye (Kd.Yz HO490.out) (Kd.Yb ho44) hb)
            have n3_ := yam (Kd.R_lower (Kd.Yw (Kd.Yw (Kd.Yw (Kd.R_newM (M := fun k_ => (P3_ k_ ∨ w.heap.size ≤ k_)) ho44 (by first | exact HK.out.1 | exact (show Kept w _ (fun k_ => P3_ k_) from by repeat (first | (with_reducible first | exact HK.out | apply Kept.alloc | apply Kept.drewN | apply Kept.drew | refine Kept.setCell ?_ (.inr GW475.out) _) | exact HK.out)).1) (fun k_ h_ => .inr h_)) (Kd.R_lt (Kd.Yz HO_3.out))) (Kd.R_lt (Kd.Yz HO_10.out))) (Kd.R_lt (Kd.Yz HO490.out))) (below_size (by repeat (first | (with_reducible first | exact HB.out | apply yea | apply yen | apply yed | refine below_set ?_ GE475.out) | exact HB.out))))
            have n4_ := yam (blk_below (g := gb475) (o := .cells #[.int .i64 a0_0, .slice (some ad480) l0_1.length c0_1, .int .i64 a0_2] 32 (0, 0)) (ybz BK475.out) hb)
            have n5_ := yam (Kept.below (S := (fun k_ => P3_ k_)) (by repeat (first | (with_reducible first | exact HK.out | apply Kept.alloc | apply Kept.drewN | apply Kept.drew | refine Kept.setCell ?_ (.inr GW475.out) _) | exact HK.out)) hb)
            have n6_ := yam (below_step (by repeat (first | (with_reducible first | exact HB.out | apply yea | apply yen | apply yed | refine below_set ?_ GE475.out) | exact HB.out)) hb)
            clear HO_3
            clear HO_10
            clear HO490
            clear BK475
            clear HK
            clear HB
            have HO_3 := n0_
            have HO_10 := n1_
            have HO490 := n2_
            have HO494 := n3_
            have BK475 := n4_
            have HK := n5_
            have HB := n6_
            clear n0_ n1_ n2_ n3_ n4_ n5_ n6_
            clear hb ho44
            refine hK.out _ _ ⟨(blk_cell BK475.out 0).trans rfl, (blk_cell BK475.out 1).trans rfl, (blk_cell BK475.out 2).trans rfl, HS3_⟩ (fun hHeld => ?_)
            clear hK K
            refine norm_ (a' := ?_) ?_ ?_
            rotate_left
            · show Act.put _ (some 64) _ = _
              simp only [Act.put, yps, i64_w, i32_w]
              rfl
            exact norm_ (by simp only [putAll, Act.put, yps]) (hCont (v486, v489, v493) _ ⟨hHeld, (by (with_reducible repeat (first | apply Kd.Ya | apply Kd.Yn | apply Kd.Yd)); exact Kd.R_mono HO490.out (fun _ hk => ⟨hk.1.1, ⟨hk.2, ⟨hk.1.2.2, hk.1.2.1⟩⟩⟩)), (by (with_reducible repeat (first | apply Kd.Ya | apply Kd.Yn | apply Kd.Yd)); exact Kd.R_mono HO494.out (fun _ hk => ⟨hk.1.1.1.1, ⟨hk.2, ⟨hk.1.2, hk.1.1.2⟩⟩⟩)), (by (with_reducible repeat (first | apply Kd.Ya | apply Kd.Yn | apply Kd.Yd)); exact Kd.R_mono HO_10.out (fun _ hk => ⟨hk.1.1.1, ⟨hk.1.2, ⟨hk.2, hk.1.1.2⟩⟩⟩)), (by (with_reducible repeat (first | apply Kd.Ya | apply Kd.Yn | apply Kd.Yd)); exact Kd.R_mono HO_3.out (fun _ hk => ⟨hk.1.1.1, ⟨hk.1.2, ⟨hk.2, hk.1.1.2⟩⟩⟩)), (ybz BK475.out), (by repeat (first | (with_reducible first | exact HK.out | apply Kept.alloc | apply Kept.drewN | apply Kept.drew | refine Kept.setCell ?_ (.inr GW475.out) _) | exact HK.out)), (by repeat (first | (with_reducible first | exact HB.out | apply yea | apply yen | apply yed | refine below_set ?_ GE475.out) | exact HB.out))⟩)
          · skip
            refine Kd.R_lit_step (Kd.int .i64) _ 3 ?hg (N := 64) ?hd (xs := ([rd t482 x11_1] : List Int)) (inner := [.int .i64 (rd t482 x11_1)]) (ok := fun _ => True) (okp := fun _ => True) ?hr ?hp (fun _ hk => hk) trivial (Below.refl _ _) (Nat.le_refl _) (by simp) ?_; (case hd => rfl); (case hg => rfl); (case hr => first | (go_simp; done) | (go_simp; rfl)); (case hp => exact (Reps.one (show Kd.M (Kd.int .i64) _ _ _ (rd t482 x11_1) [.int .i64 (rd t482 x11_1)] from rfl) (Reps.none _ _)))
            intro v493 w42 ho43 hb hg_ hnew_
            have HS3_ := (hb.cell (World.block_lt_of_cell? _ _ (hHeld.2.2.2))).trans (hHeld.2.2.2)
            clear hg_ hnew_
            (first | rw [← Ny492.out] at ho43 | (simp only [Int.reduceToNat] at ho43; rw [← Ny492.out] at ho43))
            have n0_ := yam (Kd.Ye (Kd.Yz HO_3.out) (Kd.Yb ho43) hb)
            have n1_ := yam (Kd.Ye (Kd.Yz HO_10.out) (Kd.Yb ho43) hb)
            have n2_ := yam (Kd.Ye (Kd.Yz HO487.out) (Kd.Yb ho43) hb)
            have n3_ := yam (Kd.R_lower (Kd.Yw (Kd.Yw (Kd.Yw (Kd.R_newM (M := fun k_ => (P3_ k_ ∨ w.heap.size ≤ k_)) ho43 (by first | exact HK.out.1 | exact (show Kept w _ (fun k_ => P3_ k_) from by repeat (first | (with_reducible first | exact HK.out | apply Kept.alloc | apply Kept.drewN | apply Kept.drew | refine Kept.setCell ?_ (.inr GW475.out) _) | exact HK.out)).1) (fun k_ h_ => .inr h_)) (Kd.R_lt (Kd.Yz HO_3.out))) (Kd.R_lt (Kd.Yz HO_10.out))) (Kd.R_lt (Kd.Yz HO487.out))) (below_size (by repeat (first | (with_reducible first | exact HB.out | apply yea | apply yen | apply yed | refine below_set ?_ GE475.out) | exact HB.out))))
            have n4_ := yam (blk_below (g := gb475) (o := .cells #[.int .i64 a0_0, .slice (some ad480) l0_1.length c0_1, .int .i64 a0_2] 32 (0, 0)) (ybz BK475.out) hb)
            have n5_ := yam (Kept.below (S := (fun k_ => P3_ k_)) (by repeat (first | (with_reducible first | exact HK.out | apply Kept.alloc | apply Kept.drewN | apply Kept.drew | refine Kept.setCell ?_ (.inr GW475.out) _) | exact HK.out)) hb)
            have n6_ := yam (below_step (by repeat (first | (with_reducible first | exact HB.out | apply yea | apply yen | apply yed | refine below_set ?_ GE475.out) | exact HB.out)) hb)
            clear HO_3
            clear HO_10
            clear HO487
            clear BK475
            clear HK
            clear HB
            have HO_3 := n0_
            have HO_10 := n1_
            have HO487 := n2_
            have HO494 := n3_
            have BK475 := n4_
            have HK := n5_
            have HB := n6_
            clear n0_ n1_ n2_ n3_ n4_ n5_ n6_
            clear hb ho43
            refine hK.out _ _ ⟨(blk_cell BK475.out 0).trans rfl, (blk_cell BK475.out 1).trans rfl, (blk_cell BK475.out 2).trans rfl, HS3_⟩ (fun hHeld => ?_)
            clear hK K
            refine norm_ (a' := ?_) ?_ ?_
            rotate_left
            · show Act.put _ (some 64) _ = _
              simp only [Act.put, yps, i64_w, i32_w]
              rfl
            refine one_ (i := 4) (N := some 59) #[true, true, true, true, true, true, true, true, true, true, false, true, false] rfl rfl (one_of HT_.out (by kernel_rfl)) (by decide) (fun K hK => ?_)
            refine Kd.R_append_rows_step (Kd.int .i64) (w0 := w0) w0.heap.size (by rfl) (.tmp 57) (.tmp 58) 23 3 (.int .i64 0) 8 rfl Try.underlying23 info3 rfl (by decide) (by omega) v486 y485 l2 _ _ _ (fun k_ => (P3_ k_ ∨ w.heap.size ≤ k_) ∧ some k_ ≠ (.slice Ao38 x3_1.length co38 : Value).ownBlock ∧ some k_ ≠ (.slice (some ad491) t482.length co37 : Value).ownBlock ∧ some k_ ≠ (v493 : Value).ownBlock) (fun _ => False) rfl rfl ?aO ?aR (fun _ _ h => h) (fun _ h => h.elim) ?aF ?aB ?aS ?aL ?_
            (case aR => exact Kd.C_kept_now HR2.out (by repeat (first | (with_reducible first | exact HK.out | apply Kept.alloc | apply Kept.drewN | apply Kept.drew | refine Kept.setCell ?_ (.inr GW475.out) _) | exact HK.out)))
            (case aB => exact (by repeat (first | (with_reducible first | exact HB.out | apply yea | apply yen | apply yed | refine below_set ?_ GE475.out) | exact HB.out)))
            (case aF => exact (fun k_ hk => ⟨(.inr (Nat.le_trans (by first | exact HK.out.1 | exact (show Kept w _ (fun k_ => P3_ k_) from by repeat (first | (with_reducible first | exact HK.out | apply Kept.alloc | apply Kept.drewN | apply Kept.drew | refine Kept.setCell ?_ (.inr GW475.out) _) | exact HK.out)).1) hk)), Kd.fresh' (Kd.R_lt (Kd.Yz HO_3.out)) k_ hk, Kd.fresh' (Kd.R_lt (Kd.Yz HO_10.out)) k_ hk, Kd.fresh' (Kd.R_lt (Kd.Yz HO494.out)) k_ hk⟩))
            (case aO => exact (by (with_reducible repeat (first | apply Kd.Ya | apply Kd.Yn | apply Kd.Yd)); exact Kd.R_mono HO487.out (fun _ hk => ⟨hk.1.1.1.1, ⟨hk.1.1.2, ⟨hk.1.2, hk.2⟩⟩⟩)))
            (case aS => exact (below_size (by repeat (first | (with_reducible first | exact HB.out | apply yea | apply yen | apply yed | refine below_set ?_ GE475.out) | exact HB.out))))
            (case aL => have := LMc33.out; omega)
            intro v489 w44 ho hb hg hat
            have HS3_ := cell_grown hg (hHeld.2.2.2) (by first | (rw [add_block]; exact (fun e_ => (by first | exact (HO487.out.1 _ e_.symm) rfl | exact (HO487.out.1 _ e_.symm).1 rfl | exact (HO487.out.1 _ e_.symm).2 rfl | exact (HO487.out.1 _ e_.symm).1.1 rfl | exact (HO487.out.1 _ e_.symm).1.2 rfl | exact (HO487.out.1 _ e_.symm).2.1 rfl | exact (HO487.out.1 _ e_.symm).2.2 rfl | exact (HO487.out.1 _ e_.symm).1.1.1 rfl | exact (HO487.out.1 _ e_.symm).1.1.2 rfl | exact (HO487.out.1 _ e_.symm).1.2.1 rfl | exact (HO487.out.1 _ e_.symm).1.2.2 rfl | exact (HO487.out.1 _ e_.symm).2.1.1 rfl | exact (HO487.out.1 _ e_.symm).2.1.2 rfl | exact (HO487.out.1 _ e_.symm).2.2.1 rfl | exact (HO487.out.1 _ e_.symm).2.2.2 rfl | exact (HO487.out.1 _ e_.symm).1.1.1.1 rfl | exact (HO487.out.1 _ e_.symm).1.1.1.2 rfl | exact (HO487.out.1 _ e_.symm).1.1.2.1 rfl | exact (HO487.out.1 _ e_.symm).1.1.2.2 rfl | exact (HO487.out.1 _ e_.symm).1.2.1.1 rfl | exact (HO487.out.1 _ e_.symm).1.2.1.2 rfl | exact (HO487.out.1 _ e_.symm).1.2.2.1 rfl | exact (HO487.out.1 _ e_.symm).1.2.2.2 rfl | exact (HO487.out.1 _ e_.symm).2.1.1.1 rfl | exact (HO487.out.1 _ e_.symm).2.1.1.2 rfl | exact (HO487.out.1 _ e_.symm).2.1.2.1 rfl | exact (HO487.out.1 _ e_.symm).2.1.2.2 rfl | exact (HO487.out.1 _ e_.symm).2.2.1.1 rfl | exact (HO487.out.1 _ e_.symm).2.2.1.2 rfl | exact (HO487.out.1 _ e_.symm).2.2.2.1 rfl | exact (HO487.out.1 _ e_.symm).2.2.2.2 rfl))) | (show some (Addr.add _ _).block ≠ _; rw [add_block]; exact (fun e_ => (by first | exact (HO487.out.1 _ e_.symm) rfl | exact (HO487.out.1 _ e_.symm).1 rfl | exact (HO487.out.1 _ e_.symm).2 rfl | exact (HO487.out.1 _ e_.symm).1.1 rfl | exact (HO487.out.1 _ e_.symm).1.2 rfl | exact (HO487.out.1 _ e_.symm).2.1 rfl | exact (HO487.out.1 _ e_.symm).2.2 rfl | exact (HO487.out.1 _ e_.symm).1.1.1 rfl | exact (HO487.out.1 _ e_.symm).1.1.2 rfl | exact (HO487.out.1 _ e_.symm).1.2.1 rfl | exact (HO487.out.1 _ e_.symm).1.2.2 rfl | exact (HO487.out.1 _ e_.symm).2.1.1 rfl | exact (HO487.out.1 _ e_.symm).2.1.2 rfl | exact (HO487.out.1 _ e_.symm).2.2.1 rfl | exact (HO487.out.1 _ e_.symm).2.2.2 rfl | exact (HO487.out.1 _ e_.symm).1.1.1.1 rfl | exact (HO487.out.1 _ e_.symm).1.1.1.2 rfl | exact (HO487.out.1 _ e_.symm).1.1.2.1 rfl | exact (HO487.out.1 _ e_.symm).1.1.2.2 rfl | exact (HO487.out.1 _ e_.symm).1.2.1.1 rfl | exact (HO487.out.1 _ e_.symm).1.2.1.2 rfl | exact (HO487.out.1 _ e_.symm).1.2.2.1 rfl | exact (HO487.out.1 _ e_.symm).1.2.2.2 rfl | exact (HO487.out.1 _ e_.symm).2.1.1.1 rfl | exact (HO487.out.1 _ e_.symm).2.1.1.2 rfl | exact (HO487.out.1 _ e_.symm).2.1.2.1 rfl | exact (HO487.out.1 _ e_.symm).2.1.2.2 rfl | exact (HO487.out.1 _ e_.symm).2.2.1.1 rfl | exact (HO487.out.1 _ e_.symm).2.2.1.2 rfl | exact (HO487.out.1 _ e_.symm).2.2.2.1 rfl | exact (HO487.out.1 _ e_.symm).2.2.2.2 rfl))) | exact (fun e_ => (by first | exact (HO487.out.1 _ e_.symm) rfl | exact (HO487.out.1 _ e_.symm).1 rfl | exact (HO487.out.1 _ e_.symm).2 rfl | exact (HO487.out.1 _ e_.symm).1.1 rfl | exact (HO487.out.1 _ e_.symm).1.2 rfl | exact (HO487.out.1 _ e_.symm).2.1 rfl | exact (HO487.out.1 _ e_.symm).2.2 rfl | exact (HO487.out.1 _ e_.symm).1.1.1 rfl | exact (HO487.out.1 _ e_.symm).1.1.2 rfl | exact (HO487.out.1 _ e_.symm).1.2.1 rfl | exact (HO487.out.1 _ e_.symm).1.2.2 rfl | exact (HO487.out.1 _ e_.symm).2.1.1 rfl | exact (HO487.out.1 _ e_.symm).2.1.2 rfl | exact (HO487.out.1 _ e_.symm).2.2.1 rfl | exact (HO487.out.1 _ e_.symm).2.2.2 rfl | exact (HO487.out.1 _ e_.symm).1.1.1.1 rfl | exact (HO487.out.1 _ e_.symm).1.1.1.2 rfl | exact (HO487.out.1 _ e_.symm).1.1.2.1 rfl | exact (HO487.out.1 _ e_.symm).1.1.2.2 rfl | exact (HO487.out.1 _ e_.symm).1.2.1.1 rfl | exact (HO487.out.1 _ e_.symm).1.2.1.2 rfl | exact (HO487.out.1 _ e_.symm).1.2.2.1 rfl | exact (HO487.out.1 _ e_.symm).1.2.2.2 rfl | exact (HO487.out.1 _ e_.symm).2.1.1.1 rfl | exact (HO487.out.1 _ e_.symm).2.1.1.2 rfl | exact (HO487.out.1 _ e_.symm).2.1.2.1 rfl | exact (HO487.out.1 _ e_.symm).2.1.2.2 rfl | exact (HO487.out.1 _ e_.symm).2.2.1.1 rfl | exact (HO487.out.1 _ e_.symm).2.2.1.2 rfl | exact (HO487.out.1 _ e_.symm).2.2.2.1 rfl | exact (HO487.out.1 _ e_.symm).2.2.2.2 rfl)))
            rw [← Ny488.out] at ho
            have n0_ := yam (Kd.R_after (ok := (fun k_ => (P3_ k_ ∨ w.heap.size ≤ k_) ∧ some k_ ≠ (.slice (some ad491) t482.length co37 : Value).ownBlock ∧ some k_ ≠ (v493 : Value).ownBlock)) (by (with_reducible repeat (first | apply Kd.Ya | apply Kd.Yn | apply Kd.Yd)); exact Kd.R_mono HO_3.out (fun _ hk => ⟨⟨hk.1.1.1, ⟨hk.1.1.2, hk.2⟩⟩, hk.1.2⟩)) hg hat)
            have n1_ := yam (Kd.R_after (ok := (fun k_ => (P3_ k_ ∨ w.heap.size ≤ k_) ∧ some k_ ≠ (.slice Ao38 x3_1.length co38 : Value).ownBlock ∧ some k_ ≠ (v493 : Value).ownBlock)) (by (with_reducible repeat (first | apply Kd.Ya | apply Kd.Yn | apply Kd.Yd)); exact Kd.R_mono HO_10.out (fun _ hk => ⟨⟨hk.1.1.1, ⟨hk.1.1.2, hk.2⟩⟩, hk.1.2⟩)) hg hat)
            have n2_ := yam (blk_grown (g := gb475) (o := .cells #[.int .i64 a0_0, .slice (some ad480) l0_1.length c0_1, .int .i64 a0_2] 32 (0, 0)) (ybz BK475.out) hg (Kd.R_ne HO487.out BK475.out (by decide)))
            have n3_ := yam (Kd.R_after (ok := (fun k_ => (P3_ k_ ∨ w.heap.size ≤ k_) ∧ some k_ ≠ (.slice Ao38 x3_1.length co38 : Value).ownBlock ∧ some k_ ≠ (.slice (some ad491) t482.length co37 : Value).ownBlock)) (by (with_reducible repeat (first | apply Kd.Ya | apply Kd.Yn | apply Kd.Yd)); exact Kd.R_mono HO494.out (fun _ hk => ⟨⟨hk.1.1.1.1, ⟨hk.1.1.2, hk.1.2⟩⟩, hk.2⟩)) hg hat)
            have n4_ := yam (hb)
            have n5_ := yam (Kept.of_grown (S := (fun k_ => P3_ k_)) hg (by repeat (first | (with_reducible first | exact HK.out | apply Kept.alloc | apply Kept.drewN | apply Kept.drew | refine Kept.setCell ?_ (.inr GW475.out) _) | exact HK.out)) (fun k_ e_ => (HO487.out.1 k_ e_).1.1.1.1))
            have n6_ := yam (ho)
            clear HO_3
            clear HO_10
            clear BK475
            clear HO494
            clear HB
            clear HK
            clear HO487
            have HO_3 := n0_
            have HO_10 := n1_
            have BK475 := n2_
            have HO494 := n3_
            have HB := n4_
            have HK := n5_
            have HO490 := n6_
            clear n0_ n1_ n2_ n3_ n4_ n5_ n6_
            clear ho hb hg hat
            refine hK.out _ _ ⟨(blk_cell BK475.out 0).trans rfl, (blk_cell BK475.out 1).trans rfl, (blk_cell BK475.out 2).trans rfl, HS3_⟩ (fun hHeld => ?_)
            clear hK K
            refine norm_ (a' := ?_) ?_ ?_
            rotate_left
            · show Act.put _ (some 59) _ = _
              simp only [Act.put, yps, i64_w, i32_w]
              rfl
            exact norm_ (by simp only [putAll, Act.put, yps]) (hCont (v486, v489, v493) _ ⟨hHeld, (by (with_reducible repeat (first | apply Kd.Ya | apply Kd.Yn | apply Kd.Yd)); exact Kd.R_mono HO490.out (fun _ hk => ⟨hk.1, ⟨hk.2.2.2, ⟨hk.2.2.1, hk.2.1⟩⟩⟩)), (by (with_reducible repeat (first | apply Kd.Ya | apply Kd.Yn | apply Kd.Yd)); exact Kd.R_mono HO494.out (fun _ hk => ⟨hk.1.1, ⟨hk.2, ⟨hk.1.2.2, hk.1.2.1⟩⟩⟩)), (by (with_reducible repeat (first | apply Kd.Ya | apply Kd.Yn | apply Kd.Yd)); exact Kd.R_mono HO_10.out (fun _ hk => ⟨hk.1.1, ⟨hk.2, ⟨hk.1.2.2, hk.1.2.1⟩⟩⟩)), (by (with_reducible repeat (first | apply Kd.Ya | apply Kd.Yn | apply Kd.Yd)); exact Kd.R_mono HO_3.out (fun _ hk => ⟨hk.1.1, ⟨hk.2, ⟨hk.1.2.2, hk.1.2.1⟩⟩⟩)), (ybz BK475.out), (by repeat (first | (with_reducible first | exact HK.out | apply Kept.alloc | apply Kept.drewN | apply Kept.drew | refine Kept.setCell ?_ (.inr GW475.out) _) | exact HK.out)), (by repeat (first | (with_reducible first | exact HB.out | apply yea | apply yen | apply yed | refine below_set ?_ GE475.out) | exact HB.out))⟩)
        · skip
          refine Kd.R_lit_step (Kd.int .i64) _ 3 ?hg (N := 64) ?hd (xs := ([rd t482 x11_1] : List Int)) (inner := [.int .i64 (rd t482 x11_1)]) (ok := fun _ => True) (okp := fun _ => True) ?hr ?hp (fun _ hk => hk) trivial (Below.refl _ _) (Nat.le_refl _) (by simp) ?_; (case hd => rfl); (case hg => rfl); (case hr => first | (go_simp; done) | (go_simp; rfl)); (case hp => exact (Reps.one (show Kd.M (Kd.int .i64) _ _ _ (rd t482 x11_1) [.int .i64 (rd t482 x11_1)] from rfl) (Reps.none _ _)))
          intro v493 w40 ho41 hb hg_ hnew_
          have HS3_ := (hb.cell (World.block_lt_of_cell? _ _ (hHeld.2.2.2))).trans (hHeld.2.2.2)
          clear hg_ hnew_
          (first | rw [← Ny492.out] at ho41 | (simp only [Int.reduceToNat] at ho41; rw [← Ny492.out] at ho41))
          have n0_ := yam (Kd.Ye (Kd.Yz HO_3.out) (Kd.Yb ho41) hb)
          have n1_ := yam (Kd.Ye (Kd.Yz HO_10.out) (Kd.Yb ho41) hb)
          have n2_ := yam (Kd.R_lower (Kd.Yw (Kd.Yw (Kd.R_newM (M := fun k_ => (P3_ k_ ∨ w.heap.size ≤ k_)) ho41 (by first | exact HK.out.1 | exact (show Kept w _ (fun k_ => P3_ k_) from by repeat (first | (with_reducible first | exact HK.out | apply Kept.alloc | apply Kept.drewN | apply Kept.drew | refine Kept.setCell ?_ (.inr GW475.out) _) | exact HK.out)).1) (fun k_ h_ => .inr h_)) (Kd.R_lt (Kd.Yz HO_3.out))) (Kd.R_lt (Kd.Yz HO_10.out))) (below_size (by repeat (first | (with_reducible first | exact HB.out | apply yea | apply yen | apply yed | refine below_set ?_ GE475.out) | exact HB.out))))
          have n3_ := yam (blk_below (g := gb475) (o := .cells #[.int .i64 a0_0, .slice (some ad480) l0_1.length c0_1, .int .i64 a0_2] 32 (0, 0)) (ybz BK475.out) hb)
          have n4_ := yam (Kept.below (S := (fun k_ => P3_ k_)) (by repeat (first | (with_reducible first | exact HK.out | apply Kept.alloc | apply Kept.drewN | apply Kept.drew | refine Kept.setCell ?_ (.inr GW475.out) _) | exact HK.out)) hb)
          have n5_ := yam (below_step (by repeat (first | (with_reducible first | exact HB.out | apply yea | apply yen | apply yed | refine below_set ?_ GE475.out) | exact HB.out)) hb)
          clear HO_3
          clear HO_10
          clear BK475
          clear HK
          clear HB
          have HO_3 := n0_
          have HO_10 := n1_
          have HO494 := n2_
          have BK475 := n3_
          have HK := n4_
          have HB := n5_
          clear n0_ n1_ n2_ n3_ n4_ n5_
          clear hb ho41
          refine hK.out _ _ ⟨(blk_cell BK475.out 0).trans rfl, (blk_cell BK475.out 1).trans rfl, (blk_cell BK475.out 2).trans rfl, HS3_⟩ (fun hHeld => ?_)
          clear hK K
          refine norm_ (a' := ?_) ?_ ?_
          rotate_left
          · show Act.put _ (some 64) _ = _
            simp only [Act.put, yps, i64_w, i32_w]
            rfl
          refine one_ (i := 2) (N := some 57) #[true, true, true, true, false, true, true, true, true, true, false, true, false] rfl rfl (one_of HT_.out (by kernel_rfl)) (by decide) (fun K hK => ?_)
          refine Kd.R_lit_step (Kd.int .i64) _ 3 ?hg (N := 57) ?hd (xs := ([] : List Int)) (inner := []) (ok := fun _ => True) (okp := fun _ => True) ?hr ?hp (fun _ hk => hk) trivial (Below.refl _ _) (Nat.le_refl _) (by simp) ?_; (case hd => rfl); (case hg => rfl); (case hr => first | (go_simp; done) | (go_simp; rfl)); (case hp => exact (Reps.none _ _))
          intro v486 w42 ho43 hb hg_ hnew_
          have HS3_ := (hb.cell (World.block_lt_of_cell? _ _ (hHeld.2.2.2))).trans (hHeld.2.2.2)
          clear hg_ hnew_
          (first | rw [← Ny485.out] at ho43 | (simp only [Int.reduceToNat] at ho43; rw [← Ny485.out] at ho43))
          have n0_ := yam (Kd.Ye (Kd.Yz HO_3.out) (Kd.Yb ho43) hb)
          have n1_ := yam (Kd.Ye (Kd.Yz HO_10.out) (Kd.Yb ho43) hb)
          have n2_ := yam (Kd.Ye (Kd.Yz HO494.out) (Kd.Yb ho43) hb)
          have n3_ := yam (Kd.R_lower (Kd.Yw (Kd.Yw (Kd.Yw (Kd.R_newM (M := fun k_ => (P3_ k_ ∨ w.heap.size ≤ k_)) ho43 (by first | exact HK.out.1 | exact (show Kept w _ (fun k_ => P3_ k_) from by repeat (first | (with_reducible first | exact HK.out | apply Kept.alloc | apply Kept.drewN | apply Kept.drew | refine Kept.setCell ?_ (.inr GW475.out) _) | exact HK.out)).1) (fun k_ h_ => .inr h_)) (Kd.R_lt (Kd.Yz HO_3.out))) (Kd.R_lt (Kd.Yz HO_10.out))) (Kd.R_lt (Kd.Yz HO494.out))) (below_size (by repeat (first | (with_reducible first | exact HB.out | apply yea | apply yen | apply yed | refine below_set ?_ GE475.out) | exact HB.out))))
          have n4_ := yam (blk_below (g := gb475) (o := .cells #[.int .i64 a0_0, .slice (some ad480) l0_1.length c0_1, .int .i64 a0_2] 32 (0, 0)) (ybz BK475.out) hb)
          have n5_ := yam (Kept.below (S := (fun k_ => P3_ k_)) (by repeat (first | (with_reducible first | exact HK.out | apply Kept.alloc | apply Kept.drewN | apply Kept.drew | refine Kept.setCell ?_ (.inr GW475.out) _) | exact HK.out)) hb)
          have n6_ := yam (below_step (by repeat (first | (with_reducible first | exact HB.out | apply yea | apply yen | apply yed | refine below_set ?_ GE475.out) | exact HB.out)) hb)
          clear HO_3
          clear HO_10
          clear HO494
          clear BK475
          clear HK
          clear HB
          have HO_3 := n0_
          have HO_10 := n1_
          have HO494 := n2_
          have HO487 := n3_
          have BK475 := n4_
          have HK := n5_
          have HB := n6_
          clear n0_ n1_ n2_ n3_ n4_ n5_ n6_
          clear hb ho43
          refine hK.out _ _ ⟨(blk_cell BK475.out 0).trans rfl, (blk_cell BK475.out 1).trans rfl, (blk_cell BK475.out 2).trans rfl, HS3_⟩ (fun hHeld => ?_)
          clear hK K
          refine norm_ (a' := ?_) ?_ ?_
          rotate_left
          · show Act.put _ (some 57) _ = _
            simp only [Act.put, yps, i64_w, i32_w]
            rfl
          refine one_ (i := 4) (N := some 59) #[true, true, true, true, true, true, true, true, true, true, false, true, false] rfl rfl (one_of HT_.out (by kernel_rfl)) (by decide) (fun K hK => ?_)
          refine Kd.R_append_rows_step (Kd.int .i64) (w0 := w0) w0.heap.size (by rfl) (.tmp 57) (.tmp 58) 23 3 (.int .i64 0) 8 rfl Try.underlying23 info3 rfl (by decide) (by omega) v486 y485 l2 _ _ _ (fun k_ => (P3_ k_ ∨ w.heap.size ≤ k_) ∧ some k_ ≠ (.slice Ao38 x3_1.length co38 : Value).ownBlock ∧ some k_ ≠ (.slice (some ad491) t482.length co37 : Value).ownBlock ∧ some k_ ≠ (v493 : Value).ownBlock) (fun _ => False) rfl rfl ?aO ?aR (fun _ _ h => h) (fun _ h => h.elim) ?aF ?aB ?aS ?aL ?_
          (case aR => exact Kd.C_kept_now HR2.out (by repeat (first | (with_reducible first | exact HK.out | apply Kept.alloc | apply Kept.drewN | apply Kept.drew | refine Kept.setCell ?_ (.inr GW475.out) _) | exact HK.out)))
          (case aB => exact (by repeat (first | (with_reducible first | exact HB.out | apply yea | apply yen | apply yed | refine below_set ?_ GE475.out) | exact HB.out)))
          (case aF => exact (fun k_ hk => ⟨(.inr (Nat.le_trans (by first | exact HK.out.1 | exact (show Kept w _ (fun k_ => P3_ k_) from by repeat (first | (with_reducible first | exact HK.out | apply Kept.alloc | apply Kept.drewN | apply Kept.drew | refine Kept.setCell ?_ (.inr GW475.out) _) | exact HK.out)).1) hk)), Kd.fresh' (Kd.R_lt (Kd.Yz HO_3.out)) k_ hk, Kd.fresh' (Kd.R_lt (Kd.Yz HO_10.out)) k_ hk, Kd.fresh' (Kd.R_lt (Kd.Yz HO494.out)) k_ hk⟩))
          (case aO => exact (by (with_reducible repeat (first | apply Kd.Ya | apply Kd.Yn | apply Kd.Yd)); exact Kd.R_mono HO487.out (fun _ hk => ⟨hk.1.1.1.1, ⟨hk.1.1.2, ⟨hk.1.2, hk.2⟩⟩⟩)))
          (case aS => exact (below_size (by repeat (first | (with_reducible first | exact HB.out | apply yea | apply yen | apply yed | refine below_set ?_ GE475.out) | exact HB.out))))
          (case aL => have := LMc33.out; omega)
          intro v489 w44 ho hb hg hat
          have HS3_ := cell_grown hg (hHeld.2.2.2) (by first | (rw [add_block]; exact (fun e_ => (by first | exact (HO487.out.1 _ e_.symm) rfl | exact (HO487.out.1 _ e_.symm).1 rfl | exact (HO487.out.1 _ e_.symm).2 rfl | exact (HO487.out.1 _ e_.symm).1.1 rfl | exact (HO487.out.1 _ e_.symm).1.2 rfl | exact (HO487.out.1 _ e_.symm).2.1 rfl | exact (HO487.out.1 _ e_.symm).2.2 rfl | exact (HO487.out.1 _ e_.symm).1.1.1 rfl | exact (HO487.out.1 _ e_.symm).1.1.2 rfl | exact (HO487.out.1 _ e_.symm).1.2.1 rfl | exact (HO487.out.1 _ e_.symm).1.2.2 rfl | exact (HO487.out.1 _ e_.symm).2.1.1 rfl | exact (HO487.out.1 _ e_.symm).2.1.2 rfl | exact (HO487.out.1 _ e_.symm).2.2.1 rfl | exact (HO487.out.1 _ e_.symm).2.2.2 rfl | exact (HO487.out.1 _ e_.symm).1.1.1.1 rfl | exact (HO487.out.1 _ e_.symm).1.1.1.2 rfl | exact (HO487.out.1 _ e_.symm).1.1.2.1 rfl | exact (HO487.out.1 _ e_.symm).1.1.2.2 rfl | exact (HO487.out.1 _ e_.symm).1.2.1.1 rfl | exact (HO487.out.1 _ e_.symm).1.2.1.2 rfl | exact (HO487.out.1 _ e_.symm).1.2.2.1 rfl | exact (HO487.out.1 _ e_.symm).1.2.2.2 rfl | exact (HO487.out.1 _ e_.symm).2.1.1.1 rfl | exact (HO487.out.1 _ e_.symm).2.1.1.2 rfl | exact (HO487.out.1 _ e_.symm).2.1.2.1 rfl | exact (HO487.out.1 _ e_.symm).2.1.2.2 rfl | exact (HO487.out.1 _ e_.symm).2.2.1.1 rfl | exact (HO487.out.1 _ e_.symm).2.2.1.2 rfl | exact (HO487.out.1 _ e_.symm).2.2.2.1 rfl | exact (HO487.out.1 _ e_.symm).2.2.2.2 rfl))) | (show some (Addr.add _ _).block ≠ _; rw [add_block]; exact (fun e_ => (by first | exact (HO487.out.1 _ e_.symm) rfl | exact (HO487.out.1 _ e_.symm).1 rfl | exact (HO487.out.1 _ e_.symm).2 rfl | exact (HO487.out.1 _ e_.symm).1.1 rfl | exact (HO487.out.1 _ e_.symm).1.2 rfl | exact (HO487.out.1 _ e_.symm).2.1 rfl | exact (HO487.out.1 _ e_.symm).2.2 rfl | exact (HO487.out.1 _ e_.symm).1.1.1 rfl | exact (HO487.out.1 _ e_.symm).1.1.2 rfl | exact (HO487.out.1 _ e_.symm).1.2.1 rfl | exact (HO487.out.1 _ e_.symm).1.2.2 rfl | exact (HO487.out.1 _ e_.symm).2.1.1 rfl | exact (HO487.out.1 _ e_.symm).2.1.2 rfl | exact (HO487.out.1 _ e_.symm).2.2.1 rfl | exact (HO487.out.1 _ e_.symm).2.2.2 rfl | exact (HO487.out.1 _ e_.symm).1.1.1.1 rfl | exact (HO487.out.1 _ e_.symm).1.1.1.2 rfl | exact (HO487.out.1 _ e_.symm).1.1.2.1 rfl | exact (HO487.out.1 _ e_.symm).1.1.2.2 rfl | exact (HO487.out.1 _ e_.symm).1.2.1.1 rfl | exact (HO487.out.1 _ e_.symm).1.2.1.2 rfl | exact (HO487.out.1 _ e_.symm).1.2.2.1 rfl | exact (HO487.out.1 _ e_.symm).1.2.2.2 rfl | exact (HO487.out.1 _ e_.symm).2.1.1.1 rfl | exact (HO487.out.1 _ e_.symm).2.1.1.2 rfl | exact (HO487.out.1 _ e_.symm).2.1.2.1 rfl | exact (HO487.out.1 _ e_.symm).2.1.2.2 rfl | exact (HO487.out.1 _ e_.symm).2.2.1.1 rfl | exact (HO487.out.1 _ e_.symm).2.2.1.2 rfl | exact (HO487.out.1 _ e_.symm).2.2.2.1 rfl | exact (HO487.out.1 _ e_.symm).2.2.2.2 rfl))) | exact (fun e_ => (by first | exact (HO487.out.1 _ e_.symm) rfl | exact (HO487.out.1 _ e_.symm).1 rfl | exact (HO487.out.1 _ e_.symm).2 rfl | exact (HO487.out.1 _ e_.symm).1.1 rfl | exact (HO487.out.1 _ e_.symm).1.2 rfl | exact (HO487.out.1 _ e_.symm).2.1 rfl | exact (HO487.out.1 _ e_.symm).2.2 rfl | exact (HO487.out.1 _ e_.symm).1.1.1 rfl | exact (HO487.out.1 _ e_.symm).1.1.2 rfl | exact (HO487.out.1 _ e_.symm).1.2.1 rfl | exact (HO487.out.1 _ e_.symm).1.2.2 rfl | exact (HO487.out.1 _ e_.symm).2.1.1 rfl | exact (HO487.out.1 _ e_.symm).2.1.2 rfl | exact (HO487.out.1 _ e_.symm).2.2.1 rfl | exact (HO487.out.1 _ e_.symm).2.2.2 rfl | exact (HO487.out.1 _ e_.symm).1.1.1.1 rfl | exact (HO487.out.1 _ e_.symm).1.1.1.2 rfl | exact (HO487.out.1 _ e_.symm).1.1.2.1 rfl | exact (HO487.out.1 _ e_.symm).1.1.2.2 rfl | exact (HO487.out.1 _ e_.symm).1.2.1.1 rfl | exact (HO487.out.1 _ e_.symm).1.2.1.2 rfl | exact (HO487.out.1 _ e_.symm).1.2.2.1 rfl | exact (HO487.out.1 _ e_.symm).1.2.2.2 rfl | exact (HO487.out.1 _ e_.symm).2.1.1.1 rfl | exact (HO487.out.1 _ e_.symm).2.1.1.2 rfl | exact (HO487.out.1 _ e_.symm).2.1.2.1 rfl | exact (HO487.out.1 _ e_.symm).2.1.2.2 rfl | exact (HO487.out.1 _ e_.symm).2.2.1.1 rfl | exact (HO487.out.1 _ e_.symm).2.2.1.2 rfl | exact (HO487.out.1 _ e_.symm).2.2.2.1 rfl | exact (HO487.out.1 _ e_.symm).2.2.2.2 rfl)))
          rw [← Ny488.out] at ho
          have n0_ := yam (Kd.R_after (ok := (fun k_ => (P3_ k_ ∨ w.heap.size ≤ k_) ∧ some k_ ≠ (.slice (some ad491) t482.length co37 : Value).ownBlock ∧ some k_ ≠ (v493 : Value).ownBlock)) (by (with_reducible repeat (first | apply Kd.Ya | apply Kd.Yn | apply Kd.Yd)); exact Kd.R_mono HO_3.out (fun _ hk => ⟨⟨hk.1.1.1, ⟨hk.1.1.2, hk.1.2⟩⟩, hk.2⟩)) hg hat)
          have n1_ := yam (Kd.R_after (ok := (fun k_ => (P3_ k_ ∨ w.heap.size ≤ k_) ∧ some k_ ≠ (.slice Ao38 x3_1.length co38 : Value).ownBlock ∧ some k_ ≠ (v493 : Value).ownBlock)) (by (with_reducible repeat (first | apply Kd.Ya | apply Kd.Yn | apply Kd.Yd)); exact Kd.R_mono HO_10.out (fun _ hk => ⟨⟨hk.1.1.1, ⟨hk.1.1.2, hk.1.2⟩⟩, hk.2⟩)) hg hat)
          have n2_ := yam (blk_grown (g := gb475) (o := .cells #[.int .i64 a0_0, .slice (some ad480) l0_1.length c0_1, .int .i64 a0_2] 32 (0, 0)) (ybz BK475.out) hg (Kd.R_ne HO487.out BK475.out (by decide)))
          have n3_ := yam (Kd.R_after (ok := (fun k_ => (P3_ k_ ∨ w.heap.size ≤ k_) ∧ some k_ ≠ (.slice Ao38 x3_1.length co38 : Value).ownBlock ∧ some k_ ≠ (.slice (some ad491) t482.length co37 : Value).ownBlock)) (by (with_reducible repeat (first | apply Kd.Ya | apply Kd.Yn | apply Kd.Yd)); exact Kd.R_mono HO494.out (fun _ hk => ⟨⟨hk.1.1.1.1, ⟨hk.1.1.2, hk.1.2⟩⟩, hk.2⟩)) hg hat)
          have n4_ := yam (hb)
          have n5_ := yam (Kept.of_grown (S := (fun k_ => P3_ k_)) hg (by repeat (first | (with_reducible first | exact HK.out | apply Kept.alloc | apply Kept.drewN | apply Kept.drew | refine Kept.setCell ?_ (.inr GW475.out) _) | exact HK.out)) (fun k_ e_ => (HO487.out.1 k_ e_).1.1.1.1))
          have n6_ := yam (ho)
          clear HO_3
          clear HO_10
          clear BK475
          clear HO494
          clear HB
          clear HK
          clear HO487
          have HO_3 := n0_
          have HO_10 := n1_
          have BK475 := n2_
          have HO494 := n3_
          have HB := n4_
          have HK := n5_
          have HO490 := n6_
          clear n0_ n1_ n2_ n3_ n4_ n5_ n6_
          clear ho hb hg hat
          refine hK.out _ _ ⟨(blk_cell BK475.out 0).trans rfl, (blk_cell BK475.out 1).trans rfl, (blk_cell BK475.out 2).trans rfl, HS3_⟩ (fun hHeld => ?_)
          clear hK K
          refine norm_ (a' := ?_) ?_ ?_
          rotate_left
          · show Act.put _ (some 59) _ = _
            simp only [Act.put, yps, i64_w, i32_w]
            rfl
          exact norm_ (by simp only [putAll, Act.put, yps]) (hCont (v486, v489, v493) _ ⟨hHeld, (by (with_reducible repeat (first | apply Kd.Ya | apply Kd.Yn | apply Kd.Yd)); exact Kd.R_mono HO490.out (fun _ hk => ⟨hk.1, ⟨hk.2.2.2, ⟨hk.2.2.1, hk.2.1⟩⟩⟩)), (by (with_reducible repeat (first | apply Kd.Ya | apply Kd.Yn | apply Kd.Yd)); exact Kd.R_mono HO494.out (fun _ hk => ⟨hk.1.1, ⟨hk.2, ⟨hk.1.2.2, hk.1.2.1⟩⟩⟩)), (by (with_reducible repeat (first | apply Kd.Ya | apply Kd.Yn | apply Kd.Yd)); exact Kd.R_mono HO_10.out (fun _ hk => ⟨hk.1.1, ⟨hk.2, ⟨hk.1.2.2, hk.1.2.1⟩⟩⟩)), (by (with_reducible repeat (first | apply Kd.Ya | apply Kd.Yn | apply Kd.Yd)); exact Kd.R_mono HO_3.out (fun _ hk => ⟨hk.1.1, ⟨hk.2, ⟨hk.1.2.2, hk.1.2.1⟩⟩⟩)), (ybz BK475.out), (by repeat (first | (with_reducible first | exact HK.out | apply Kept.alloc | apply Kept.drewN | apply Kept.drew | refine Kept.setCell ?_ (.inr GW475.out) _) | exact HK.out)), (by repeat (first | (with_reducible first | exact HB.out | apply yea | apply yen | apply yed | refine below_set ?_ GE475.out) | exact HB.out))⟩)
      rintro ⟨v486, v489, v493⟩ w45 ⟨hS_, h0_, h1_, h2_, h3_, h4_, h5_, h6_⟩
      have n0_ : Aside0 (Kd.R (Kd.int .i64) 3 w45 w0.heap.size (fun k_ => (P3_ k_ ∨ w.heap.size ≤ k_) ∧ some k_ ≠ (v493 : Value).ownBlock ∧ some k_ ≠ (.slice (some ad491) t482.length co37 : Value).ownBlock ∧ some k_ ≠ (.slice Ao38 x3_1.length co38 : Value).ownBlock) v489 y488) := ⟨h0_⟩
      have n1_ : Aside0 (Kd.R (Kd.int .i64) 3 w45 w0.heap.size (fun k_ => (P3_ k_ ∨ w.heap.size ≤ k_) ∧ some k_ ≠ (v489 : Value).ownBlock ∧ some k_ ≠ (.slice (some ad491) t482.length co37 : Value).ownBlock ∧ some k_ ≠ (.slice Ao38 x3_1.length co38 : Value).ownBlock) v493 y492) := ⟨h1_⟩
      have n2_ : Aside0 (Kd.R (Kd.int .i64) 3 w45 w0.heap.size (fun k_ => (P3_ k_ ∨ w.heap.size ≤ k_) ∧ some k_ ≠ (v489 : Value).ownBlock ∧ some k_ ≠ (v493 : Value).ownBlock ∧ some k_ ≠ (.slice Ao38 x3_1.length co38 : Value).ownBlock) (.slice (some ad491) t482.length co37) t482) := ⟨h2_⟩
      have n3_ : Aside0 (Kd.R (Kd.int .i64) 3 w45 w0.heap.size (fun k_ => (P3_ k_ ∨ w.heap.size ≤ k_) ∧ some k_ ≠ (v489 : Value).ownBlock ∧ some k_ ≠ (v493 : Value).ownBlock ∧ some k_ ≠ (.slice (some ad491) t482.length co37 : Value).ownBlock) (.slice Ao38 x3_1.length co38) x3_1) := ⟨h3_⟩
      have n4_ : Aside0 (w45.heap[gb475]? = some (.cells #[.int .i64 a0_0, .slice (some ad480) l0_1.length c0_1, .int .i64 a0_2] 32 (0, 0))) := ⟨h4_⟩
      have n5_ : Aside0 (Kept w w45 (fun k_ => P3_ k_)) := ⟨h5_⟩
      have n6_ : Aside0 (Below w0.heap.size w0 w45) := ⟨h6_⟩
      clear HO_3
      clear HO_10
      clear BK475
      clear HK
      clear HB
      clear h0_ h1_ h2_ h3_ h4_ h5_ h6_
      have HO490 := n0_
      have HO494 := n1_
      have HO_10 := n2_
      have HO_3 := n3_
      have BK475 := n4_
      have HK := n5_
      have HB := n6_
      clear n0_ n1_ n2_ n3_ n4_ n5_ n6_
      have hHeld : w45.cell? ⟨gb475, 0, none⟩ = some (.int .i64 a0_0) ∧ w45.cell? ⟨gb475, 1, none⟩ = some (.slice (some ad480) l0_1.length c0_1) ∧ w45.cell? ⟨gb475, 2, none⟩ = some (.int .i64 a0_2) ∧ w45.cell? (ad491.add (x11_1).toNat) = some (.int .i64 (rd t482 x11_1)) := hS_
      obtain ⟨Ao47, co47, eo47⟩ := Kd.R_slice HO494.out
      (first | subst eo47 | (injection eo47 with f1_ f2_ f3_; have f4_ := f1_.symm; have f5_ := f3_.symm; clear f1_ f2_ f3_; subst f4_; subst f5_))
      refine norm_ (a' := ?_) ?_ ?_
      rotate_left
      · simp only [putAll, Act.put, yps]
        rfl
      refine one_ (i := 10) (N := some 65) #[true, true, true, true, true, true, true, true, true, true, true, true, false] rfl rfl (one_of HT_.out (by kernel_rfl)) (by decide) (fun K hK => ?_)
      refine Kd.R_append_rows_step (Kd.int .i64) (w0 := w0) w0.heap.size (by rfl) (.tmp 59) (.tmp 64) 23 3 (.int .i64 0) 8 rfl Try.underlying23 info3 rfl (by decide) (by omega) v489 y488 y492 _ _ _ (fun k_ => (P3_ k_ ∨ w.heap.size ≤ k_) ∧ some k_ ≠ (.slice Ao38 x3_1.length co38 : Value).ownBlock ∧ some k_ ≠ (.slice (some ad491) t482.length co37 : Value).ownBlock ∧ some k_ ≠ (.slice Ao47 y492.length co47 : Value).ownBlock) (fun _ => False) rfl rfl ?aO ?aR (fun _ _ h => h) (fun _ h => h.elim) ?aF ?aB ?aS ?aL ?_
      (case aR => repeat (first | exact (Kd.Yr HO494.out).2.2 | (with_reducible refine Kd.C_alloc ?_ _) | (with_reducible refine Kd.C_drewN ?_ _) | (with_reducible refine Kd.C_drew ?_)))
      (case aB => exact (by repeat (first | (with_reducible first | exact HB.out | apply yea | apply yen | apply yed | refine below_set ?_ GE475.out) | exact HB.out)))
      (case aF => exact (fun k_ hk => ⟨(.inr (Nat.le_trans (by first | exact HK.out.1 | exact (show Kept w _ (fun k_ => P3_ k_) from by repeat (first | (with_reducible first | exact HK.out | apply Kept.alloc | apply Kept.drewN | apply Kept.drew | refine Kept.setCell ?_ (.inr GW475.out) _) | exact HK.out)).1) hk)), Kd.fresh' (Kd.R_lt (Kd.Yz HO_3.out)) k_ hk, Kd.fresh' (Kd.R_lt (Kd.Yz HO_10.out)) k_ hk, Kd.fresh' (Kd.R_lt (Kd.Yz HO494.out)) k_ hk⟩))
      (case aO => exact (by (with_reducible repeat (first | apply Kd.Ya | apply Kd.Yn | apply Kd.Yd)); exact Kd.R_mono HO490.out (fun _ hk => ⟨hk.1, ⟨hk.2.2.2, ⟨hk.2.2.1, hk.2.1⟩⟩⟩)))
      (case aS => exact (below_size (by repeat (first | (with_reducible first | exact HB.out | apply yea | apply yen | apply yed | refine below_set ?_ GE475.out) | exact HB.out))))
      (case aL => have := LMc35.out; omega)
      intro v496 w46 ho hb hg hat
      have HS3_ := cell_grown hg (hHeld.2.2.2) (by first | (rw [add_block]; exact (fun e_ => (by first | exact (HO490.out.1 _ e_.symm) rfl | exact (HO490.out.1 _ e_.symm).1 rfl | exact (HO490.out.1 _ e_.symm).2 rfl | exact (HO490.out.1 _ e_.symm).1.1 rfl | exact (HO490.out.1 _ e_.symm).1.2 rfl | exact (HO490.out.1 _ e_.symm).2.1 rfl | exact (HO490.out.1 _ e_.symm).2.2 rfl | exact (HO490.out.1 _ e_.symm).1.1.1 rfl | exact (HO490.out.1 _ e_.symm).1.1.2 rfl | exact (HO490.out.1 _ e_.symm).1.2.1 rfl | exact (HO490.out.1 _ e_.symm).1.2.2 rfl | exact (HO490.out.1 _ e_.symm).2.1.1 rfl | exact (HO490.out.1 _ e_.symm).2.1.2 rfl | exact (HO490.out.1 _ e_.symm).2.2.1 rfl | exact (HO490.out.1 _ e_.symm).2.2.2 rfl | exact (HO490.out.1 _ e_.symm).1.1.1.1 rfl | exact (HO490.out.1 _ e_.symm).1.1.1.2 rfl | exact (HO490.out.1 _ e_.symm).1.1.2.1 rfl | exact (HO490.out.1 _ e_.symm).1.1.2.2 rfl | exact (HO490.out.1 _ e_.symm).1.2.1.1 rfl | exact (HO490.out.1 _ e_.symm).1.2.1.2 rfl | exact (HO490.out.1 _ e_.symm).1.2.2.1 rfl | exact (HO490.out.1 _ e_.symm).1.2.2.2 rfl | exact (HO490.out.1 _ e_.symm).2.1.1.1 rfl | exact (HO490.out.1 _ e_.symm).2.1.1.2 rfl | exact (HO490.out.1 _ e_.symm).2.1.2.1 rfl | exact (HO490.out.1 _ e_.symm).2.1.2.2 rfl | exact (HO490.out.1 _ e_.symm).2.2.1.1 rfl | exact (HO490.out.1 _ e_.symm).2.2.1.2 rfl | exact (HO490.out.1 _ e_.symm).2.2.2.1 rfl | exact (HO490.out.1 _ e_.symm).2.2.2.2 rfl))) | (show some (Addr.add _ _).block ≠ _; rw [add_block]; exact (fun e_ => (by first | exact (HO490.out.1 _ e_.symm) rfl | exact (HO490.out.1 _ e_.symm).1 rfl | exact (HO490.out.1 _ e_.symm).2 rfl | exact (HO490.out.1 _ e_.symm).1.1 rfl | exact (HO490.out.1 _ e_.symm).1.2 rfl | exact (HO490.out.1 _ e_.symm).2.1 rfl | exact (HO490.out.1 _ e_.symm).2.2 rfl | exact (HO490.out.1 _ e_.symm).1.1.1 rfl | exact (HO490.out.1 _ e_.symm).1.1.2 rfl | exact (HO490.out.1 _ e_.symm).1.2.1 rfl | exact (HO490.out.1 _ e_.symm).1.2.2 rfl | exact (HO490.out.1 _ e_.symm).2.1.1 rfl | exact (HO490.out.1 _ e_.symm).2.1.2 rfl | exact (HO490.out.1 _ e_.symm).2.2.1 rfl | exact (HO490.out.1 _ e_.symm).2.2.2 rfl | exact (HO490.out.1 _ e_.symm).1.1.1.1 rfl | exact (HO490.out.1 _ e_.symm).1.1.1.2 rfl | exact (HO490.out.1 _ e_.symm).1.1.2.1 rfl | exact (HO490.out.1 _ e_.symm).1.1.2.2 rfl | exact (HO490.out.1 _ e_.symm).1.2.1.1 rfl | exact (HO490.out.1 _ e_.symm).1.2.1.2 rfl | exact (HO490.out.1 _ e_.symm).1.2.2.1 rfl | exact (HO490.out.1 _ e_.symm).1.2.2.2 rfl | exact (HO490.out.1 _ e_.symm).2.1.1.1 rfl | exact (HO490.out.1 _ e_.symm).2.1.1.2 rfl | exact (HO490.out.1 _ e_.symm).2.1.2.1 rfl | exact (HO490.out.1 _ e_.symm).2.1.2.2 rfl | exact (HO490.out.1 _ e_.symm).2.2.1.1 rfl | exact (HO490.out.1 _ e_.symm).2.2.1.2 rfl | exact (HO490.out.1 _ e_.symm).2.2.2.1 rfl | exact (HO490.out.1 _ e_.symm).2.2.2.2 rfl))) | exact (fun e_ => (by first | exact (HO490.out.1 _ e_.symm) rfl | exact (HO490.out.1 _ e_.symm).1 rfl | exact (HO490.out.1 _ e_.symm).2 rfl | exact (HO490.out.1 _ e_.symm).1.1 rfl | exact (HO490.out.1 _ e_.symm).1.2 rfl | exact (HO490.out.1 _ e_.symm).2.1 rfl | exact (HO490.out.1 _ e_.symm).2.2 rfl | exact (HO490.out.1 _ e_.symm).1.1.1 rfl | exact (HO490.out.1 _ e_.symm).1.1.2 rfl | exact (HO490.out.1 _ e_.symm).1.2.1 rfl | exact (HO490.out.1 _ e_.symm).1.2.2 rfl | exact (HO490.out.1 _ e_.symm).2.1.1 rfl | exact (HO490.out.1 _ e_.symm).2.1.2 rfl | exact (HO490.out.1 _ e_.symm).2.2.1 rfl | exact (HO490.out.1 _ e_.symm).2.2.2 rfl | exact (HO490.out.1 _ e_.symm).1.1.1.1 rfl | exact (HO490.out.1 _ e_.symm).1.1.1.2 rfl | exact (HO490.out.1 _ e_.symm).1.1.2.1 rfl | exact (HO490.out.1 _ e_.symm).1.1.2.2 rfl | exact (HO490.out.1 _ e_.symm).1.2.1.1 rfl | exact (HO490.out.1 _ e_.symm).1.2.1.2 rfl | exact (HO490.out.1 _ e_.symm).1.2.2.1 rfl | exact (HO490.out.1 _ e_.symm).1.2.2.2 rfl | exact (HO490.out.1 _ e_.symm).2.1.1.1 rfl | exact (HO490.out.1 _ e_.symm).2.1.1.2 rfl | exact (HO490.out.1 _ e_.symm).2.1.2.1 rfl | exact (HO490.out.1 _ e_.symm).2.1.2.2 rfl | exact (HO490.out.1 _ e_.symm).2.2.1.1 rfl | exact (HO490.out.1 _ e_.symm).2.2.1.2 rfl | exact (HO490.out.1 _ e_.symm).2.2.2.1 rfl | exact (HO490.out.1 _ e_.symm).2.2.2.2 rfl)))
      rw [← Ny495.out] at ho
      have n0_ := yam (Kd.R_after (ok := (fun k_ => (P3_ k_ ∨ w.heap.size ≤ k_) ∧ some k_ ≠ (.slice (some ad491) t482.length co37 : Value).ownBlock ∧ some k_ ≠ (.slice Ao47 y492.length co47 : Value).ownBlock)) (by (with_reducible repeat (first | apply Kd.Ya | apply Kd.Yn | apply Kd.Yd)); exact Kd.R_mono HO_3.out (fun _ hk => ⟨⟨hk.1, ⟨hk.2.2.2, hk.2.2.1⟩⟩, hk.2.1⟩)) hg hat)
      have n1_ := yam (Kd.R_after (ok := (fun k_ => (P3_ k_ ∨ w.heap.size ≤ k_) ∧ some k_ ≠ (.slice Ao38 x3_1.length co38 : Value).ownBlock ∧ some k_ ≠ (.slice Ao47 y492.length co47 : Value).ownBlock)) (by (with_reducible repeat (first | apply Kd.Ya | apply Kd.Yn | apply Kd.Yd)); exact Kd.R_mono HO_10.out (fun _ hk => ⟨⟨hk.1, ⟨hk.2.2.2, hk.2.2.1⟩⟩, hk.2.1⟩)) hg hat)
      have n2_ := yam (blk_grown (g := gb475) (o := .cells #[.int .i64 a0_0, .slice (some ad480) l0_1.length c0_1, .int .i64 a0_2] 32 (0, 0)) (ybz BK475.out) hg (Kd.R_ne HO490.out BK475.out (by decide)))
      have n3_ := yam (Kd.R_after (ok := (fun k_ => (P3_ k_ ∨ w.heap.size ≤ k_) ∧ some k_ ≠ (.slice Ao38 x3_1.length co38 : Value).ownBlock ∧ some k_ ≠ (.slice (some ad491) t482.length co37 : Value).ownBlock)) (by (with_reducible repeat (first | apply Kd.Ya | apply Kd.Yn | apply Kd.Yd)); exact Kd.R_mono HO494.out (fun _ hk => ⟨⟨hk.1, ⟨hk.2.2.2, hk.2.2.1⟩⟩, hk.2.1⟩)) hg hat)
      have n4_ := yam (hb)
      have n5_ := yam (Kept.of_grown (S := (fun k_ => P3_ k_)) hg (by repeat (first | (with_reducible first | exact HK.out | apply Kept.alloc | apply Kept.drewN | apply Kept.drew | refine Kept.setCell ?_ (.inr GW475.out) _) | exact HK.out)) (fun k_ e_ => (HO490.out.1 k_ e_).1))
      have n6_ := yam (ho)
      clear HO_3
      clear HO_10
      clear BK475
      clear HO494
      clear HB
      clear HK
      clear HO490
      have HO_3 := n0_
      have HO_10 := n1_
      have BK475 := n2_
      have HO494 := n3_
      have HB := n4_
      have HK := n5_
      have HO497 := n6_
      clear n0_ n1_ n2_ n3_ n4_ n5_ n6_
      clear ho hb hg hat
      obtain ⟨Ao48, co48, eo48⟩ := Kd.R_slice HO497.out
      (first | subst eo48 | (injection eo48 with f1_ f2_ f3_; have f4_ := f1_.symm; have f5_ := f3_.symm; clear f1_ f2_ f3_; subst f4_; subst f5_))
      refine hK.out _ _ ⟨(blk_cell BK475.out 0).trans rfl, (blk_cell BK475.out 1).trans rfl, (blk_cell BK475.out 2).trans rfl, HS3_⟩ (fun hHeld => ?_)
      clear hK K
      refine norm_ (a' := ?_) ?_ ?_
      rotate_left
      · show Act.put _ (some 65) _ = _
        simp only [Act.put, yps, i64_w, i32_w]
        rfl
      refine one_ (i := 12) (N := some 67) #[true, true, true, true, true, true, true, true, true, true, true, true, true] rfl rfl (one_of HT_.out (by kernel_rfl)) (by decide) (fun K hK => ?_)
      refine goes_ Try.func76 (by kernel_rfl) rfl #[.agg #[.int .i64 a0_0, .slice (some ad480) l0_1.length c0_1, .int .i64 a0_2], .slice (some ad481) l1.length c1, .slice Ao48 y495.length co48, .slice Ao38 x3_1.length co38] (by rfl) rfl rfl (by (try simp only [List.map_toArray, List.map_cons, List.map_nil]); first | done | rfl | (simp only [List.length_drop, List.length_take]; rfl)) ?_
      with_reducible refine (ih k1 (by have := HK1.out; omega) a0_0 _ _ l0_1 a0_2 _ _ l1 _ _ y495 (fun k_ => some k_ = (.slice Ao38 x3_1.length co38 : Value).ownBlock) (.slice Ao38 x3_1.length co38) x3_1 t498 w0 _ ?side1 ?side2 ?side3 ?side4 ?side5 ?side6 ?side7 ?side8 A36.out).mono ?_
      (case side1 => repeat (first | (with_reducible first | exact HB.out | apply yea | apply yen | apply yed | refine below_set ?_ GE475.out) | exact HB.out))
      (case side2 => exact Kd.C_kept_call HR0_1.out (by repeat (first | (with_reducible first | exact HK.out | apply Kept.alloc | apply Kept.drewN | apply Kept.drew | refine Kept.setCell ?_ (.inr GW475.out) _) | exact HK.out)) (fun k_ hs_ => (fun e_ => (HO_3.out.1 k_ e_.symm).1.1) hs_))
      (case side3 => exact HC0_1.out)
      (case side4 => exact Kd.C_kept_call HR1.out (by repeat (first | (with_reducible first | exact HK.out | apply Kept.alloc | apply Kept.drewN | apply Kept.drew | refine Kept.setCell ?_ (.inr GW475.out) _) | exact HK.out)) (fun k_ hs_ => (fun e_ => (HO_3.out.1 k_ e_.symm).1.1) hs_))
      (case side5 => exact HC1.out)
      (case side6 => exact Kd.C_kept_own (HO497.out) (fun k_ hk_ hs_ => (hk_.2.1) hs_))
      (case side7 => exact (Kd.Yr HO497.out).2.1)
      (case side8 => exact Kd.R_tight rfl HO_3.out)
      rintro e w49 ⟨rfl, hy0, hb, hkp⟩
      have HS3_ := cell_kept (hHeld.2.2.2) hkp (by first | (rw [add_block]; exact (fun hs_ => (((HO_10.out).1 _ rfl).1.2.1) hs_)) | (show ¬ _; simp only [add_block]; exact (fun hs_ => (((HO_10.out).1 _ rfl).1.2.1) hs_)) | exact (fun hs_ => (((HO_10.out).1 _ rfl).1.2.1) hs_))
      refine ⟨_, rfl, ?_⟩
      have n0_ := yam (Kd.R_reok rfl hy0 (fun k_ e_ => HO_3.out.1 k_ e_))
      have n1_ := yam (Kd.R_mono (ok' := fun k_ => (P3_ k_ ∨ w.heap.size ≤ k_) ∧ some k_ ≠ (.slice Ao38 x3_1.length co38 : Value).ownBlock ∧ some k_ ≠ (.slice Ao47 y492.length co47 : Value).ownBlock ∧ some k_ ≠ (.slice Ao48 y495.length co48 : Value).ownBlock) (Kd.R_keptB (HO_10.out) hkp (fun k_ hk_ hs_ => (hk_.1.2.1) hs_)) (fun k_ hk_ => ⟨hk_.1.1.1, hk_.1.1.2.1, hk_.1.1.2.2, hk_.1.2⟩))
      have n2_ := yam (blk_kept (ybz BK475.out) hkp (fun hs_ => (fun e_ => (Kd.R_ne HO_3.out BK475.out (by decide)) e_) hs_))
      have n3_ := yam (Kd.R_mono (ok' := fun k_ => (P3_ k_ ∨ w.heap.size ≤ k_) ∧ some k_ ≠ (.slice Ao38 x3_1.length co38 : Value).ownBlock ∧ some k_ ≠ (.slice (some ad491) t482.length co37 : Value).ownBlock ∧ some k_ ≠ (.slice Ao48 y495.length co48 : Value).ownBlock) (Kd.R_keptB (HO494.out) hkp (fun k_ hk_ hs_ => (hk_.1.2.1) hs_)) (fun k_ hk_ => ⟨hk_.1.1.1, hk_.1.1.2.1, hk_.1.1.2.2, hk_.1.2⟩))
      have n4_ := yam (Kd.R_mono (ok' := fun k_ => (P3_ k_ ∨ w.heap.size ≤ k_) ∧ some k_ ≠ (.slice Ao38 x3_1.length co38 : Value).ownBlock ∧ some k_ ≠ (.slice (some ad491) t482.length co37 : Value).ownBlock ∧ some k_ ≠ (.slice Ao47 y492.length co47 : Value).ownBlock) (Kd.R_keptB (HO497.out) hkp (fun k_ hk_ hs_ => (hk_.2.1) hs_)) (fun k_ hk_ => ⟨hk_.1.1, hk_.1.2.1, hk_.1.2.2.1, hk_.1.2.2.2⟩))
      have n5_ := yam (Kept.then_ (S := (fun k_ => P3_ k_)) (by repeat (first | (with_reducible first | exact HK.out | apply Kept.alloc | apply Kept.drewN | apply Kept.drew | refine Kept.setCell ?_ (.inr GW475.out) _) | exact HK.out)) hkp (fun k_ hs_ => (fun e_ => (HO_3.out.1 k_ e_.symm).1.1) hs_))
      have n6_ := yam (hb)
      clear HO_3
      clear HO_10
      clear BK475
      clear HO494
      clear HO497
      clear HK
      clear HB
      have HO_3 := n0_
      have HO_10 := n1_
      have BK475 := n2_
      have HO494 := n3_
      have HO497 := n4_
      have HK := n5_
      have HB := n6_
      clear n0_ n1_ n2_ n3_ n4_ n5_ n6_
      (try clear hb)
      (try clear hkp)
      (try clear hy0)
      refine hK.out _ _ ⟨(blk_cell BK475.out 0).trans rfl, (blk_cell BK475.out 1).trans rfl, (blk_cell BK475.out 2).trans rfl, HS3_⟩ (fun hHeld => ?_)
      clear hK K
      refine norm_ (a' := ?_) ?_ ?_
      rotate_left
      · show Act.put _ (some 67) _ = _
        simp only [Act.put, yps, i64_w, i32_w]
        rfl
      refine done_ (done_of HT_.out (by kernel_rfl)) ?_
      try go_wp2
      go_roundg k1
      case measure => have := HK1.out; omega
      case rel => exact ⟨(t498), (wrap64 (x11_1 + 1)), (by first | rfl | (simp; done) | (simp [*]; done)), H', ⟨by have := HK1.out; omega⟩, ⟨by (with_reducible repeat (first | apply Kd.Ya | apply Kd.Yn | apply Kd.Yd)); exact Kd.R_mono HO_3.out (fun _ hk => ⟨hk.1.1, hk.1.2.1⟩)⟩, ⟨by (with_reducible repeat (first | apply Kd.Ya | apply Kd.Yn | apply Kd.Yd)); exact Kd.R_mono HO_10.out (fun _ hk => ⟨hk.1, hk.2.1⟩)⟩, ⟨by (with_reducible repeat (first | refine ybn ?_ _ | refine ybd ?_ | refine yba ?_ _)); exact BK475.out⟩, ⟨by repeat (first | (with_reducible first | exact HK.out | apply Kept.alloc | apply Kept.drewN | apply Kept.drew | refine Kept.setCell ?_ (.inr GW475.out) _) | exact HK.out)⟩, ⟨by repeat (first | (with_reducible first | exact HB.out | apply yea | apply yen | apply yed | refine below_set ?_ GE475.out) | exact HB.out)⟩⟩
end Go.Proofs.Ythfbjkniinfgcaa.P
namespace Go.Proofs.Ythfbjkniinfgcaa.P
open Go.RowKit Go.Proofs.YthfbjkniinfgcaaW.PrintWords Go.Proofs.YthfbjkniinfgcaaW.PrintLast Go.Proofs.YthfbjkniinfgcaaW.PrintMore
attribute [local go_sem] max2_int min2_int max_two min_two max_three min_three max_four min_four   -- for this text's walks alone
set_option linter.unusedVariables false
set_option linter.unusedSimpArgs false

/-! ### spec_RuleMasks: function 31 -/
def spec_RuleMasks.f (k : Nat) (a0_0 : Int) (l0_1 : List Int) (a0_2 : Int) (l1 : List Int) (a2 : Int) : Option (List Int) := (spec_RuleValid.f k a0_0 l0_1 a0_2 a2).bind fun t500 => (if t500 = true then ((spec_MasksValid.f k l1 a2).bind fun t501 => (if t501 = true then (if 0 ≤ (l0_1.length : Int) then (if ((l0_1.length : Int) : Int).toNat ≤ 35184372088832 then ((spec_l4Ways.f k a0_0 l0_1 a0_2 l1 (([] : List Int)) (List.replicate ((l0_1.length : Int) : Int).toNat 0)).bind fun t508 => (some t508)) else (none)) else (none)) else (some (([] : List Int))))) else (some (([] : List Int))))
theorem spec_RuleMasks.mono : ∀ a0 a1 a2 a3 a4 k, LeO (spec_RuleMasks.f k a0 a1 a2 a3 a4) (spec_RuleMasks.f (k + 1) a0 a1 a2 a3 a4) := by
  intro a0 a1 a2 a3 a4 k
  unfold spec_RuleMasks.f
  repeat' first
      | (with_reducible exact spec_MasksValid.mono _ _ _)
      | (with_reducible exact spec_RuleValid.mono _ _ _ _ _)
      | (with_reducible exact spec_l4Ways.mono _ _ _ _ _ _ _)
      | (with_reducible exact LeO.refl _)
      | (with_reducible exact LeO.none _)
      | (with_reducible refine LeO.ite ?_ ?_)
      | (with_reducible refine LeO.bind ?_ (fun _ => ?_))
      | exact spec_MasksValid.mono _ _ _
      | exact spec_RuleValid.mono _ _ _ _ _
      | exact spec_l4Ways.mono _ _ _ _ _ _ _
      | exact LeO.none _
      | refine LeO.ite ?_ ?_
      | refine LeO.bind ?_ (fun _ => ?_)
set_option maxHeartbeats 8000000 in
set_option maxRecDepth 100000 in
theorem spec_RuleMasks.calls (k : Nat) (a0_0 : Int) (A0_1 : Option Addr) (c0_1 : Nat) (l0_1 : List Int) (a0_2 : Int) (A1 : Option Addr) (c1 : Nat) (l1 : List Int) (a2 : Int) (r : List Int) (w : World) (hr0_1 : Kd.C (Kd.int .i64) w A0_1 l0_1.length l0_1) (hc0_1 : l0_1.length ≤ c0_1) (hr1 : Kd.C (Kd.int .i64) w A1 l1.length l1) (hc1 : l1.length ≤ c1) (h : spec_RuleMasks.f k a0_0 l0_1 a0_2 l1 a2 = some r) :
    Calls Try.prog 31 #[.agg #[.int .i64 a0_0, .slice A0_1 l0_1.length c0_1, .int .i64 a0_2], .slice A1 l1.length c1, .int .i64 a2] w fun e w' => ∃ v0_ : Value, e = .returned (v0_) ∧ Kd.R (Kd.int .i64) 3 w' w.heap.size (fun _ => True) v0_ r ∧ Below w.heap.size w w' := by
  have hu32 := Try.underlying32
  have HR0_1 := yam hr0_1
  have HC0_1 := yam hc0_1
  clear hr0_1 hc0_1
  have HR1 := yam hr1
  have HC1 := yam hc1
  clear hr1 hc1
  have HB := yam (Below.refl w.heap.size w)
  have H : ((spec_RuleValid.f k a0_0 l0_1 a0_2 a2).bind fun t500 => (if t500 = true then ((spec_MasksValid.f k l1 a2).bind fun t501 => (if t501 = true then (if 0 ≤ (l0_1.length : Int) then (if ((l0_1.length : Int) : Int).toNat ≤ 35184372088832 then ((spec_l4Ways.f k a0_0 l0_1 a0_2 l1 (([] : List Int)) (List.replicate ((l0_1.length : Int) : Int).toNat 0)).bind fun t508 => (some t508)) else (none)) else (none)) else (some (([] : List Int))))) else (some (([] : List Int))))) = some r := h
  clear h
  replace H := Option.bind_eq_some_iff.mp H
  obtain ⟨t500, A40, H⟩ := H
  try dsimp only at H
  have A4 := yam A40
  clear A40
  by_cases c5 : t500 = true
  rotate_left
  · replace c5 := Bool.eq_false_iff.mpr c5
    subst c5
    have H1 : (some (([] : List Int))) = some r := by rw [if_neg (show ¬ (false = true) by decide)] at H; exact H
    clear H
    have H := H1
    clear H1
    obtain ⟨y512, hy512⟩ : ∃ y_ : List Int, y_ = (([] : List Int)) := ⟨_, rfl⟩
    replace H : (some y512) = some r := by first | (rw [hy512]; with_reducible exact H) | (have H2_ := (Option.bind_some _ _).symm.trans H; rw [hy512]; with_reducible exact H2_) | (have H2_ := (Option.bind_some _ _).symm.trans H; with_reducible exact H2_) | with_reducible exact H | (rw [hy512]; exact H) | exact H
    have Ny512 := yam hy512
    clear hy512
    obtain rfl := Option.some.inj H
    go_enter Try.func31, Try.ntmps31
    go_wp2_with (first | ((with_reducible refine gate_dst (N := 3) rfl ?_); refine box_event ?hg (N := 3) ?hd (cs := #[.int .i64 a0_0, .slice A0_1 l0_1.length c0_1, .int .i64 a0_2]) (t := 32) ?hr ?_; (case hd => rfl); (case hg => rfl); (case hr => first | (go_simp; done) | (go_simp; rfl)); intro gb499 hg w28 hbox hb; have n0_ := yam (below_step (yez HB.out) hb); have n1_ := yam (hbox); have n2_ := yam ((by rw [hg]; exact (below_size (yez HB.out)) : w.heap.size ≤ gb499)); have n3_ := yam ((by rw [hg]; exact (below_size (yez HB.out)) : w.heap.size ≤ gb499)); clear HB; have HB := n0_; have BK499 := n1_; have GW499 := n2_; have GE499 := n3_; clear n0_ n1_ n2_ n3_; clear hb hbox hg; have hcz29_0 : w28.cell? ⟨gb499, 0, none⟩ = some (.int .i64 a0_0) := (blk_cell BK499.out 0).trans rfl; have hcz29_1 : w28.cell? ⟨gb499, 1, none⟩ = some (.slice A0_1 l0_1.length c0_1) := (blk_cell BK499.out 1).trans rfl; have hcz29_2 : w28.cell? ⟨gb499, 2, none⟩ = some (.int .i64 a0_2) := (blk_cell BK499.out 2).trans rfl; have hfz29_0 := blk_frozen BK499.out 0; have hfz29_1 := blk_frozen BK499.out 1; have hfz29_2 := blk_frozen BK499.out 2) | ((with_reducible refine gate_callee (f := 24) rfl ?_); refine goesL_ (some 10) rfl rfl Try.func24 (by kernel_rfl) rfl #[.agg #[.int .i64 a0_0, .slice A0_1 l0_1.length c0_1, .int .i64 a0_2], .int .i64 a2] rfl (by (try simp only [List.map_toArray, List.map_cons, List.map_nil]); first | done | rfl | (simp only [List.length_drop, List.length_take]; rfl)) ?_; (with_reducible refine (spec_RuleValid.calls k a0_0 _ _ l0_1 a0_2 a2 false _ ?side1 ?side2 A4.out).mono ?_); (case side1 => exact Kd.Cz ((Kd.C_below HR0_1.out HB.out))); (case side2 => exact HC0_1.out); rintro e w30 ⟨rfl, hb⟩; refine ⟨_, rfl, ?_⟩; have n0_ := yam (blk_below (g := gb499) (o := .cells #[.int .i64 a0_0, .slice A0_1 l0_1.length c0_1, .int .i64 a0_2] 32 (0, 0)) (ybz BK499.out) hb); have n1_ := yam (below_step (by repeat (first | (with_reducible first | exact HB.out | apply yea | apply yen | apply yed | refine below_set ?_ GE499.out) | exact HB.out)) hb); clear BK499; clear HB; have BK499 := n0_; have HB := n1_; clear n0_ n1_; (try clear hb); (try clear hb2); (try clear hk); (try clear hi)) | ((with_reducible refine gate_dst (N := 18) rfl ?_); refine Kd.R_lit (Kd.int .i64) _ 3 ?hg (N := 18) ?hd (xs := ([] : List Int)) (inner := []) (ok := fun _ => True) (okp := fun _ => True) ?hr ?hp (fun _ hk => hk) trivial (Below.refl _ _) (Nat.le_refl _) (by simp) ?_; (case hd => rfl); (case hg => rfl); (case hr => first | (go_simp; done) | (go_simp; rfl)); (case hp => exact (Reps.none _ _)); intro v513 w31 ho32 hb hg_ hnew_; clear hg_ hnew_; (first | rw [← Ny512.out] at ho32 | (simp only [Int.reduceToNat] at ho32; rw [← Ny512.out] at ho32)); have n0_ := yam (Kd.R_lower ho32 (below_size (by repeat (first | (with_reducible first | exact HB.out | apply yea | apply yen | apply yed | refine below_set ?_ GE499.out) | exact HB.out)))); have n1_ := yam (blk_below (g := gb499) (o := .cells #[.int .i64 a0_0, .slice A0_1 l0_1.length c0_1, .int .i64 a0_2] 32 (0, 0)) (ybz BK499.out) hb); have n2_ := yam (below_step (by repeat (first | (with_reducible first | exact HB.out | apply yea | apply yen | apply yed | refine below_set ?_ GE499.out) | exact HB.out)) hb); clear BK499; clear HB; have HO514 := n0_; have BK499 := n1_; have HB := n2_; clear n0_ n1_ n2_; clear hb ho32))
    go_ret
    exact ⟨_, by first | rfl | (simp [errW_none, errW_some] <;> rfl) | (simp [*, errW_none, errW_some] <;> rfl), by (with_reducible repeat (first | apply Kd.Ya | apply Kd.Yn | apply Kd.Yd)); exact HO514.out, by repeat (first | (with_reducible first | exact HB.out | apply yea | apply yen | apply yed | refine below_set ?_ GE499.out) | exact HB.out)⟩

  subst c5
  have H1 : ((spec_MasksValid.f k l1 a2).bind fun t501 => (if t501 = true then (if 0 ≤ (l0_1.length : Int) then (if ((l0_1.length : Int) : Int).toNat ≤ 35184372088832 then ((spec_l4Ways.f k a0_0 l0_1 a0_2 l1 (([] : List Int)) (List.replicate ((l0_1.length : Int) : Int).toNat 0)).bind fun t508 => (some t508)) else (none)) else (none)) else (some (([] : List Int))))) = some r := by rw [if_pos rfl] at H; exact H
  clear H
  have H := H1
  clear H1
  replace H := Option.bind_eq_some_iff.mp H
  obtain ⟨t501, A60, H⟩ := H
  try dsimp only at H
  have A6 := yam A60
  clear A60
  by_cases c7 : t501 = true
  rotate_left
  · replace c7 := Bool.eq_false_iff.mpr c7
    subst c7
    have H1 : (some (([] : List Int))) = some r := by rw [if_neg (show ¬ (false = true) by decide)] at H; exact H
    clear H
    have H := H1
    clear H1
    obtain ⟨y509, hy509⟩ : ∃ y_ : List Int, y_ = (([] : List Int)) := ⟨_, rfl⟩
    replace H : (some y509) = some r := by first | (rw [hy509]; with_reducible exact H) | (have H2_ := (Option.bind_some _ _).symm.trans H; rw [hy509]; with_reducible exact H2_) | (have H2_ := (Option.bind_some _ _).symm.trans H; with_reducible exact H2_) | with_reducible exact H | (rw [hy509]; exact H) | exact H
    have Ny509 := yam hy509
    clear hy509
    obtain rfl := Option.some.inj H
    go_enter Try.func31, Try.ntmps31
    go_wp2_with (first | ((with_reducible refine gate_dst (N := 3) rfl ?_); refine box_event ?hg (N := 3) ?hd (cs := #[.int .i64 a0_0, .slice A0_1 l0_1.length c0_1, .int .i64 a0_2]) (t := 32) ?hr ?_; (case hd => rfl); (case hg => rfl); (case hr => first | (go_simp; done) | (go_simp; rfl)); intro gb499 hg w23 hbox hb; have n0_ := yam (below_step (yez HB.out) hb); have n1_ := yam (hbox); have n2_ := yam ((by rw [hg]; exact (below_size (yez HB.out)) : w.heap.size ≤ gb499)); have n3_ := yam ((by rw [hg]; exact (below_size (yez HB.out)) : w.heap.size ≤ gb499)); clear HB; have HB := n0_; have BK499 := n1_; have GW499 := n2_; have GE499 := n3_; clear n0_ n1_ n2_ n3_; clear hb hbox hg; have hcz24_0 : w23.cell? ⟨gb499, 0, none⟩ = some (.int .i64 a0_0) := (blk_cell BK499.out 0).trans rfl; have hcz24_1 : w23.cell? ⟨gb499, 1, none⟩ = some (.slice A0_1 l0_1.length c0_1) := (blk_cell BK499.out 1).trans rfl; have hcz24_2 : w23.cell? ⟨gb499, 2, none⟩ = some (.int .i64 a0_2) := (blk_cell BK499.out 2).trans rfl; have hfz24_0 := blk_frozen BK499.out 0; have hfz24_1 := blk_frozen BK499.out 1; have hfz24_2 := blk_frozen BK499.out 2) | ((with_reducible refine gate_callee (f := 24) rfl ?_); refine goesL_ (some 10) rfl rfl Try.func24 (by kernel_rfl) rfl #[.agg #[.int .i64 a0_0, .slice A0_1 l0_1.length c0_1, .int .i64 a0_2], .int .i64 a2] rfl (by (try simp only [List.map_toArray, List.map_cons, List.map_nil]); first | done | rfl | (simp only [List.length_drop, List.length_take]; rfl)) ?_; (with_reducible refine (spec_RuleValid.calls k a0_0 _ _ l0_1 a0_2 a2 true _ ?side1 ?side2 A4.out).mono ?_); (case side1 => exact Kd.Cz ((Kd.C_below HR0_1.out HB.out))); (case side2 => exact HC0_1.out); rintro e w25 ⟨rfl, hb⟩; refine ⟨_, rfl, ?_⟩; have n0_ := yam (blk_below (g := gb499) (o := .cells #[.int .i64 a0_0, .slice A0_1 l0_1.length c0_1, .int .i64 a0_2] 32 (0, 0)) (ybz BK499.out) hb); have n1_ := yam (below_step (by repeat (first | (with_reducible first | exact HB.out | apply yea | apply yen | apply yed | refine below_set ?_ GE499.out) | exact HB.out)) hb); clear BK499; clear HB; have BK499 := n0_; have HB := n1_; clear n0_ n1_; (try clear hb); (try clear hb2); (try clear hk); (try clear hi)) | (go_at_call 75; (with_reducible refine (spec_MasksValid.calls k _ _ l1 a2 false _ ?side1 ?side2 A6.out).mono ?_); (case side1 => exact Kd.Cz ((Kd.C_below HR1.out HB.out))); (case side2 => exact HC1.out); rintro e w' ⟨rfl, ⟨nd, rfl⟩⟩) | ((with_reducible refine gate_dst (N := 18) rfl ?_); refine Kd.R_lit (Kd.int .i64) _ 3 ?hg (N := 18) ?hd (xs := ([] : List Int)) (inner := []) (ok := fun _ => True) (okp := fun _ => True) ?hr ?hp (fun _ hk => hk) trivial (Below.refl _ _) (Nat.le_refl _) (by simp) ?_; (case hd => rfl); (case hg => rfl); (case hr => first | (go_simp; done) | (go_simp; rfl)); (case hp => exact (Reps.none _ _)); intro v510 w26 ho27 hb hg_ hnew_; clear hg_ hnew_; (first | rw [← Ny509.out] at ho27 | (simp only [Int.reduceToNat] at ho27; rw [← Ny509.out] at ho27)); have n0_ := yam (Kd.R_lower ho27 (below_size (by repeat (first | (with_reducible first | exact HB.out | apply yea | apply yen | apply yed | refine below_set ?_ GE499.out) | exact HB.out)))); have n1_ := yam (blk_below (g := gb499) (o := .cells #[.int .i64 a0_0, .slice A0_1 l0_1.length c0_1, .int .i64 a0_2] 32 (0, 0)) (ybz BK499.out) hb); have n2_ := yam (below_step (by repeat (first | (with_reducible first | exact HB.out | apply yea | apply yen | apply yed | refine below_set ?_ GE499.out) | exact HB.out)) hb); clear BK499; clear HB; have HO511 := n0_; have BK499 := n1_; have HB := n2_; clear n0_ n1_ n2_; clear hb ho27))
    go_ret
    exact ⟨_, by first | rfl | (simp [errW_none, errW_some] <;> rfl) | (simp [*, errW_none, errW_some] <;> rfl), by (with_reducible repeat (first | apply Kd.Ya | apply Kd.Yn | apply Kd.Yd)); exact HO511.out, by repeat (first | (with_reducible first | exact HB.out | apply yea | apply yen | apply yed | refine below_set ?_ GE499.out) | exact HB.out)⟩
  subst c7
  have H1 : (if 0 ≤ (l0_1.length : Int) then (if ((l0_1.length : Int) : Int).toNat ≤ 35184372088832 then ((spec_l4Ways.f k a0_0 l0_1 a0_2 l1 (([] : List Int)) (List.replicate ((l0_1.length : Int) : Int).toNat 0)).bind fun t508 => (some t508)) else (none)) else (none)) = some r := by rw [if_pos rfl] at H; exact H
  clear H
  have H := H1
  clear H1
  by_cases c8 : 0 ≤ (l0_1.length : Int)
  rotate_left
  · rw [if_neg c8] at H
    exact absurd H (by simp)
  rw [if_pos c8] at H
  have c8b0 := eq_true c8
  have c8b1 : decide (0 ≤ (l0_1.length : Int)) = true := decide_eq_true c8
  clear c8
  by_cases c9 : ((l0_1.length : Int) : Int).toNat ≤ 35184372088832
  rotate_left
  · rw [if_neg c9] at H
    exact absurd H (by simp)
  rw [if_pos c9] at H
  have c9b0 := eq_true c9
  have c9b1 : decide (((l0_1.length : Int) : Int).toNat ≤ 35184372088832) = true := decide_eq_true c9
  clear c9
  obtain ⟨y502, hy502⟩ : ∃ y_ : List Int, y_ = (List.replicate ((l0_1.length : Int) : Int).toNat 0) := ⟨_, rfl⟩
  replace H : ((spec_l4Ways.f k a0_0 l0_1 a0_2 l1 (([] : List Int)) y502).bind fun t508 => (some t508)) = some r := by first | (rw [hy502]; with_reducible exact H) | (have H2_ := (Option.bind_some _ _).symm.trans H; rw [hy502]; with_reducible exact H2_) | (have H2_ := (Option.bind_some _ _).symm.trans H; with_reducible exact H2_) | with_reducible exact H | (rw [hy502]; exact H) | exact H
  have Ny502 := yam hy502
  clear hy502
  obtain ⟨y505, hy505⟩ : ∃ y_ : List Int, y_ = (([] : List Int)) := ⟨_, rfl⟩
  replace H : ((spec_l4Ways.f k a0_0 l0_1 a0_2 l1 y505 y502).bind fun t508 => (some t508)) = some r := by first | (rw [hy505]; with_reducible exact H) | (have H2_ := (Option.bind_some _ _).symm.trans H; rw [hy505]; with_reducible exact H2_) | (have H2_ := (Option.bind_some _ _).symm.trans H; with_reducible exact H2_) | with_reducible exact H | (rw [hy505]; exact H) | exact H
  have Ny505 := yam hy505
  clear hy505
  replace H := Option.bind_eq_some_iff.mp H
  obtain ⟨t508, A100, H⟩ := H
  try dsimp only at H
  have A10 := yam A100
  clear A100
  obtain rfl := Option.some.inj H
  go_enter Try.func31, Try.ntmps31
  go_wp2_with (first | ((with_reducible refine gate_dst (N := 3) rfl ?_); refine box_event ?hg (N := 3) ?hd (cs := #[.int .i64 a0_0, .slice A0_1 l0_1.length c0_1, .int .i64 a0_2]) (t := 32) ?hr ?_; (case hd => rfl); (case hg => rfl); (case hr => first | (go_simp; done) | (go_simp; rfl)); intro gb499 hg w11 hbox hb; have n0_ := yam (below_step (yez HB.out) hb); have n1_ := yam (hbox); have n2_ := yam ((by rw [hg]; exact (below_size (yez HB.out)) : w.heap.size ≤ gb499)); have n3_ := yam ((by rw [hg]; exact (below_size (yez HB.out)) : w.heap.size ≤ gb499)); clear HB; have HB := n0_; have BK499 := n1_; have GW499 := n2_; have GE499 := n3_; clear n0_ n1_ n2_ n3_; clear hb hbox hg; have hcz12_0 : w11.cell? ⟨gb499, 0, none⟩ = some (.int .i64 a0_0) := (blk_cell BK499.out 0).trans rfl; have hcz12_1 : w11.cell? ⟨gb499, 1, none⟩ = some (.slice A0_1 l0_1.length c0_1) := (blk_cell BK499.out 1).trans rfl; have hcz12_2 : w11.cell? ⟨gb499, 2, none⟩ = some (.int .i64 a0_2) := (blk_cell BK499.out 2).trans rfl; have hfz12_0 := blk_frozen BK499.out 0; have hfz12_1 := blk_frozen BK499.out 1; have hfz12_2 := blk_frozen BK499.out 2) | ((with_reducible refine gate_callee (f := 24) rfl ?_); refine goesL_ (some 10) rfl rfl Try.func24 (by kernel_rfl) rfl #[.agg #[.int .i64 a0_0, .slice A0_1 l0_1.length c0_1, .int .i64 a0_2], .int .i64 a2] rfl (by (try simp only [List.map_toArray, List.map_cons, List.map_nil]); first | done | rfl | (simp only [List.length_drop, List.length_take]; rfl)) ?_; (with_reducible refine (spec_RuleValid.calls k a0_0 _ _ l0_1 a0_2 a2 true _ ?side1 ?side2 A4.out).mono ?_); (case side1 => exact Kd.Cz ((Kd.C_below HR0_1.out HB.out))); (case side2 => exact HC0_1.out); rintro e w13 ⟨rfl, hb⟩; refine ⟨_, rfl, ?_⟩; have n0_ := yam (blk_below (g := gb499) (o := .cells #[.int .i64 a0_0, .slice A0_1 l0_1.length c0_1, .int .i64 a0_2] 32 (0, 0)) (ybz BK499.out) hb); have n1_ := yam (below_step (by repeat (first | (with_reducible first | exact HB.out | apply yea | apply yen | apply yed | refine below_set ?_ GE499.out) | exact HB.out)) hb); clear BK499; clear HB; have BK499 := n0_; have HB := n1_; clear n0_ n1_; (try clear hb); (try clear hb2); (try clear hk); (try clear hi)) | (go_at_call 75; (with_reducible refine (spec_MasksValid.calls k _ _ l1 a2 true _ ?side1 ?side2 A6.out).mono ?_); (case side1 => exact Kd.Cz ((Kd.C_below HR1.out HB.out))); (case side2 => exact HC1.out); rintro e w' ⟨rfl, ⟨nd, rfl⟩⟩; have hcz14_0 : w13.cell? ⟨gb499, 0, none⟩ = some (.int .i64 a0_0) := (blk_cell BK499.out 0).trans rfl; have hcz14_1 : w13.cell? ⟨gb499, 1, none⟩ = some (.slice A0_1 l0_1.length c0_1) := (blk_cell BK499.out 1).trans rfl; have hcz14_2 : w13.cell? ⟨gb499, 2, none⟩ = some (.int .i64 a0_2) := (blk_cell BK499.out 2).trans rfl; have hfz14_0 := blk_frozen BK499.out 0; have hfz14_1 := blk_frozen BK499.out 1; have hfz14_2 := blk_frozen BK499.out 2) | ((with_reducible refine gate_dst (N := 22) rfl ?_); refine Kd.R_make (Kd.int .i64) _ 3 rfl (N := 22) rfl 23 _ _ rfl (l0_1.length : Int) rfl rfl Try.underlying23 (.int .i64 0) 8 info3 rfl (by decide) (by omega) 0 (ok := fun _ => True) (okp := fun _ => True) rfl (fun _ hk => hk) trivial (of_decide_eq_true (by first | (with_reducible assumption) | assumption)) (Nat.le_trans (Nat.mul_le_mul_right _ (of_decide_eq_true (by first | (with_reducible assumption) | assumption) : (l0_1.length : Int).toNat ≤ 35184372088832)) (by omega)) (Below.refl _ _) (Nat.le_refl _) ?_; intro v503 w15 ho16 hb hg_ hnew_; clear hg_ hnew_; (first | rw [← Ny502.out] at ho16 | (simp only [Int.reduceToNat] at ho16; rw [← Ny502.out] at ho16)); have n0_ := yam (Kd.R_lower ho16 (below_size (by repeat (first | (with_reducible first | exact HB.out | apply yea | apply yen | apply yed | refine below_set ?_ GE499.out) | exact HB.out)))); have n1_ := yam (blk_below (g := gb499) (o := .cells #[.int .i64 a0_0, .slice A0_1 l0_1.length c0_1, .int .i64 a0_2] 32 (0, 0)) (ybz BK499.out) hb); have n2_ := yam (below_step (by repeat (first | (with_reducible first | exact HB.out | apply yea | apply yen | apply yed | refine below_set ?_ GE499.out) | exact HB.out)) hb); clear BK499; clear HB; have HO504 := n0_; have BK499 := n1_; have HB := n2_; clear n0_ n1_ n2_; clear hb ho16; have hcz17_0 : w15.cell? ⟨gb499, 0, none⟩ = some (.int .i64 a0_0) := (blk_cell BK499.out 0).trans rfl; have hcz17_1 : w15.cell? ⟨gb499, 1, none⟩ = some (.slice A0_1 l0_1.length c0_1) := (blk_cell BK499.out 1).trans rfl; have hcz17_2 : w15.cell? ⟨gb499, 2, none⟩ = some (.int .i64 a0_2) := (blk_cell BK499.out 2).trans rfl; have hfz17_0 := blk_frozen BK499.out 0; have hfz17_1 := blk_frozen BK499.out 1; have hfz17_2 := blk_frozen BK499.out 2) | ((with_reducible refine gate_dst (N := 25) rfl ?_); refine Kd.R_lit (Kd.int .i64) _ 3 ?hg (N := 25) ?hd (xs := ([] : List Int)) (inner := []) (ok := fun _ => True) (okp := fun _ => True) ?hr ?hp (fun _ hk => hk) trivial (Below.refl _ _) (Nat.le_refl _) (by simp) ?_; (case hd => rfl); (case hg => rfl); (case hr => first | (go_simp; done) | (go_simp; rfl)); (case hp => exact (Reps.none _ _)); intro v506 w18 ho19 hb hg_ hnew_; clear hg_ hnew_; (first | rw [← Ny505.out] at ho19 | (simp only [Int.reduceToNat] at ho19; rw [← Ny505.out] at ho19)); have n0_ := yam (Kd.Ye (Kd.Yz HO504.out) (Kd.Yb ho19) hb); have n1_ := yam (Kd.R_lower (Kd.Yw ho19 (Kd.R_lt (Kd.Yz HO504.out))) (below_size (by repeat (first | (with_reducible first | exact HB.out | apply yea | apply yen | apply yed | refine below_set ?_ GE499.out) | exact HB.out)))); have n2_ := yam (blk_below (g := gb499) (o := .cells #[.int .i64 a0_0, .slice A0_1 l0_1.length c0_1, .int .i64 a0_2] 32 (0, 0)) (ybz BK499.out) hb); have n3_ := yam (below_step (by repeat (first | (with_reducible first | exact HB.out | apply yea | apply yen | apply yed | refine below_set ?_ GE499.out) | exact HB.out)) hb); clear HO504; clear BK499; clear HB; have HO504 := n0_; have HO507 := n1_; have BK499 := n2_; have HB := n3_; clear n0_ n1_ n2_ n3_; clear hb ho19; obtain ⟨Ao20, co20, eo20⟩ := Kd.R_slice HO507.out; subst eo20; obtain ⟨Ao21, co21, eo21⟩ := Kd.R_slice HO504.out; subst eo21) | ((with_reducible refine gate_callee (f := 76) rfl ?_); refine goesL_ (some 27) rfl rfl Try.func76 (by kernel_rfl) rfl #[.agg #[.int .i64 a0_0, .slice A0_1 l0_1.length c0_1, .int .i64 a0_2], .slice A1 l1.length c1, .slice Ao20 y505.length co20, .slice Ao21 y502.length co21] rfl (by (try simp only [List.map_toArray, List.map_cons, List.map_nil]); first | done | rfl | (simp only [List.length_drop, List.length_take]; rfl)) ?_; (with_reducible refine (spec_l4Ways.calls k a0_0 _ _ l0_1 a0_2 _ _ l1 _ _ y505 (fun k_ => some k_ = (.slice Ao21 y502.length co21 : Value).ownBlock) (.slice Ao21 y502.length co21) y502 t508 w _ ?side1 ?side2 ?side3 ?side4 ?side5 ?side6 ?side7 ?side8 A10.out).mono ?_); (case side1 => repeat (first | (with_reducible first | exact HB.out | apply yea | apply yen | apply yed | refine below_set ?_ GE499.out) | exact HB.out)); (case side2 => exact Kd.C_kept_came (Kd.heap_int .i64) HR0_1.out (by repeat (first | (with_reducible first | exact HB.out | apply yea | apply yen | apply yed | refine below_set ?_ GE499.out) | exact HB.out)) (fun k_ hs_ => (fun e_ => Kd.Yb HO504.out k_ e_.symm) hs_)); (case side3 => exact HC0_1.out); (case side4 => exact Kd.C_kept_came (Kd.heap_int .i64) HR1.out (by repeat (first | (with_reducible first | exact HB.out | apply yea | apply yen | apply yed | refine below_set ?_ GE499.out) | exact HB.out)) (fun k_ hs_ => (fun e_ => Kd.Yb HO504.out k_ e_.symm) hs_)); (case side5 => exact HC1.out); (case side6 => exact Kd.C_kept_own (HO507.out) (fun k_ hk_ hs_ => (hk_.2) hs_)); (case side7 => exact (Kd.Yr HO507.out).2.1); (case side8 => exact Kd.R_tight rfl HO504.out); rintro e w22 ⟨rfl, hy0, hb, hkp⟩; refine ⟨_, rfl, ?_⟩; have n0_ := yam (blk_kept (ybz BK499.out) hkp (fun hs_ => (fun e_ => (Kd.R_ne HO504.out BK499.out (by decide)) e_) hs_)); have n1_ := yam (Kd.R_reok rfl hy0 (fun k_ e_ => HO504.out.1 k_ e_)); have n2_ := yam (Kd.R_mono (ok' := fun k_ => some k_ ≠ (.slice Ao21 y502.length co21 : Value).ownBlock) (Kd.R_keptB (HO507.out) hkp (fun k_ hk_ hs_ => (hk_.2) hs_)) (fun k_ hk_ => hk_.1.2)); have n3_ := yam (hb); clear BK499; clear HO504; clear HO507; clear HB; have BK499 := n0_; have HO504 := n1_; have HO507 := n2_; have HB := n3_; clear n0_ n1_ n2_ n3_; (try clear hb); (try clear hkp); (try clear hy0)))
  go_ret
  exact ⟨_, by first | rfl | (simp [errW_none, errW_some] <;> rfl) | (simp [*, errW_none, errW_some] <;> rfl), by (with_reducible repeat (first | apply Kd.Ya | apply Kd.Yn | apply Kd.Yd)); exact Kd.R_mono HO504.out (fun _ hk => trivial), by repeat (first | (with_reducible first | exact HB.out | apply yea | apply yen | apply yed | refine below_set ?_ GE499.out) | exact HB.out)⟩
end Go.Proofs.Ythfbjkniinfgcaa.P
namespace Go.Proofs.Ythfbjkniinfgcaa.P
open Go.RowKit Go.Proofs.YthfbjkniinfgcaaW.PrintWords Go.Proofs.YthfbjkniinfgcaaW.PrintLast Go.Proofs.YthfbjkniinfgcaaW.PrintMore
attribute [local go_sem] max2_int min2_int max_two min_two max_three min_three max_four min_four   -- for this text's walks alone
set_option linter.unusedVariables false
set_option linter.unusedSimpArgs false

/-! ### spec_l6Copy: function 85 -/
def spec_l6Copy.f (l0 : List Int) : Option (List Int) := (some (([] : List Int) : List Int)).bind fun y745 => (if y745.length + l0.length < 17592186044416 then (some (y745 ++ l0)) else (none))
set_option maxHeartbeats 8000000 in
set_option maxRecDepth 100000 in
theorem spec_l6Copy.calls (A0 : Option Addr) (c0 : Nat) (l0 : List Int) (r : List Int) (w : World) (hr0 : Kd.C (Kd.int .i64) w A0 l0.length l0) (hc0 : l0.length ≤ c0) (h : spec_l6Copy.f l0 = some r) :
    Calls Try.prog 85 #[.slice A0 l0.length c0] w fun e w' => ∃ v0_ : Value, e = .returned (v0_) ∧ Kd.R (Kd.int .i64) 3 w' w.heap.size (fun _ => True) v0_ r ∧ Below w.heap.size w w' := by
  have HR0 := yam hr0
  have HC0 := yam hc0
  clear hr0 hc0
  have HB := yam (Below.refl w.heap.size w)
  have H : ((some (([] : List Int) : List Int)).bind fun y745 => (if y745.length + l0.length < 17592186044416 then (some (y745 ++ l0)) else (none))) = some r := h
  clear h
  obtain ⟨y745, hy745⟩ : ∃ y_ : List Int, y_ = (([] : List Int)) := ⟨_, rfl⟩
  replace H : (if y745.length + l0.length < 17592186044416 then (some (y745 ++ l0)) else (none)) = some r := by first | (rw [hy745]; with_reducible exact H) | (have H2_ := (Option.bind_some _ _).symm.trans H; rw [hy745]; with_reducible exact H2_) | (have H2_ := (Option.bind_some _ _).symm.trans H; with_reducible exact H2_) | with_reducible exact H | (rw [hy745]; exact H) | exact H
  have Ny745 := yam hy745
  clear hy745
  by_cases c2 : y745.length + l0.length < 17592186044416
  rotate_left
  · rw [if_neg c2] at H
    exact absurd H (by simp)

  rw [if_pos c2] at H
  have LMc2 := yam c2
  clear c2
  obtain ⟨y748, hy748⟩ : ∃ y_ : List Int, y_ = (y745 ++ l0) := ⟨_, rfl⟩
  replace H : (some y748) = some r := by first | (rw [hy748]; with_reducible exact H) | (have H2_ := (Option.bind_some _ _).symm.trans H; rw [hy748]; with_reducible exact H2_) | (have H2_ := (Option.bind_some _ _).symm.trans H; with_reducible exact H2_) | with_reducible exact H | (rw [hy748]; exact H) | exact H
  have Ny748 := yam hy748
  clear hy748
  obtain rfl := Option.some.inj H
  go_enter Try.func85, Try.ntmps85
  go_wp2_with (first | ((with_reducible refine gate_dst (N := 3) rfl ?_); refine Kd.R_lit (Kd.int .i64) _ 3 ?hg (N := 3) ?hd (xs := ([] : List Int)) (inner := []) (ok := fun _ => True) (okp := fun _ => True) ?hr ?hp (fun _ hk => hk) trivial (Below.refl _ _) (Nat.le_refl _) (by simp) ?_; (case hd => rfl); (case hg => rfl); (case hr => first | (go_simp; done) | (go_simp; rfl)); (case hp => exact (Reps.none _ _)); intro v746 w3 ho4 hb hg_ hnew_; clear hg_ hnew_; (first | rw [← Ny745.out] at ho4 | (simp only [Int.reduceToNat] at ho4; rw [← Ny745.out] at ho4)); have n0_ := yam (Kd.R_lower ho4 (below_size (yez HB.out))); have n1_ := yam (below_step (yez HB.out) hb); clear HB; have HO747 := n0_; have HB := n1_; clear n0_ n1_; clear hb ho4) | ((with_reducible refine gate_builtin (b := .append) (xs := #[.tmp 3, .tmp 4]) rfl ?_); at_builtin; refine Kd.R_append_rows (Kd.int .i64) (w0 := w) w.heap.size rfl (.tmp 3) (.tmp 4) 23 3 (.int .i64 0) 8 rfl Try.underlying23 info3 rfl (by decide) (by omega) v746 y745 l0 _ _ _ (fun _ => True) (fun _ => False) rfl rfl ?aO ?aR (fun _ _ h => h) (fun _ h => h.elim) ?aF ?aB ?aS ?aL ?_; (case aR => exact Kd.Cz ((Kd.C_below HR0.out HB.out))); (case aB => exact (yez HB.out)); (case aF => exact (fun _ _ => trivial)); (case aO => exact (Kd.Yz HO747.out)); (case aS => exact (below_size (yez HB.out))); (case aL => have := LMc2.out; omega); intro v749 w5 ho hb hg hat; rw [← Ny748.out] at ho; have n0_ := yam (hb); have n1_ := yam (ho); clear HB; clear HO747; have HB := n0_; have HO750 := n1_; clear n0_ n1_; clear ho hb hg hat))
  go_ret
  exact ⟨_, by first | rfl | (simp [errW_none, errW_some] <;> rfl) | (simp [*, errW_none, errW_some] <;> rfl), by (with_reducible repeat (first | apply Kd.Ya | apply Kd.Yn | apply Kd.Yd)); exact HO750.out, by repeat (first | (with_reducible first | exact HB.out | apply yea | apply yen | apply yed) | exact HB.out)⟩
end Go.Proofs.Ythfbjkniinfgcaa.P
