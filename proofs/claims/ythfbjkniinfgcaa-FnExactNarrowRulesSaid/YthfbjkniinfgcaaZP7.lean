/- The machine's side: each Go function as a plain Lean function and the proof that the machine's call does what that function says; written by this session's own program over the kit's print. -/
import Derived.Test.YthfbjkniinfgcaaZP1
import Derived.Test.YthfbjkniinfgcaaZP2
import Derived.Test.YthfbjkniinfgcaaZP5
import Derived.Test.YthfbjkniinfgcaaZP6
namespace Go.Proofs.Ythfbjkniinfgcaa.P
open Go.RowKit Go.Proofs.YthfbjkniinfgcaaW.PrintWords Go.Proofs.YthfbjkniinfgcaaW.PrintLast Go.Proofs.YthfbjkniinfgcaaW.PrintMore
attribute [local go_sem] max2_int min2_int max_two min_two max_three min_three max_four min_four   -- for this text's walks alone
set_option linter.unusedVariables false
set_option linter.unusedSimpArgs false

/-! ### impl_NarrowRules: function 53 -/
mutual
def impl_NarrowRules.j0 : Nat → List Int → Bool → Int → List Int → List (S32) → Option (List Int)
  | 0, _, _, _, _, _ => none
  | k + 1, x1, x19, x769000, x769001, x769002 => if x19 = true then (some ([] : List Int)) else ((slices_Clone_int_int.f x1).bind fun t771 => (impl_NarrowRules.l0 k t771 x769002 (x769002.length : Int) 0 x769000 x769001 x769002))
def impl_NarrowRules.l0 : Nat → List Int → List (S32) → Int → Int → Int → List Int → List (S32) → Option (List Int)
  | 0, _, _, _, _, _, _, _ => none
  | k + 1, x5, x23, x24, x25, x769000, x769001, x769002 => if x25 < x24 then (if 0 ≤ x25 then (if x25 < (x23.length : Int) then ((impl_RuleMasks.f k ((rd_T32 x23 x25).f0) ((rd_T32 x23 x25).f1) ((rd_T32 x23 x25).f2) x5 x769000).bind fun t776 => (impl_NarrowRules.l1 k x5 x23 x24 x25 t776 (t776.length : Int) 0 x769000 x769001 x769002 ((rd_T32 x23 x25).f0) ((rd_T32 x23 x25).f1) ((rd_T32 x23 x25).f2))) else (none)) else (none)) else (some x5)
def impl_NarrowRules.l1 : Nat → List Int → List (S32) → Int → Int → List Int → Int → Int → Int → List Int → List (S32) → Int → List Int → Int → Option (List Int)
  | 0, _, _, _, _, _, _, _, _, _, _, _, _, _ => none
  | k + 1, x5, x23, x24, x25, x33, x34, x35, x769000, x769001, x769002, x776000, x776001, x776002 => if x35 < x34 then (if 0 ≤ x35 then (if x35 < (x33.length : Int) then (if x35 < (x776001.length : Int) then (if 0 ≤ (rd x776001 x35) then (if (rd x776001 x35) < (x5.length : Int) then (impl_NarrowRules.l1 k (x5.set ((rd x776001 x35) : Int).toNat (rd x33 x35)) x23 x24 x25 x33 x34 (wrap64 (x35 + 1)) x769000 x769001 x769002 x776000 x776001 x776002) else (none)) else (none)) else (none)) else (none)) else (none)) else (impl_NarrowRules.l0 k x5 x23 x24 (wrap64 (x25 + 1)) x769000 x769001 x769002)
end
def impl_NarrowRules.f (k : Nat) (a0_0 : Int) (l0_1 : List Int) (l0_2 : List (S32)) (l1 : List Int) : Option (List Int) := (impl_PuzzleValid.f k a0_0 l0_1 l0_2).bind fun t769 => (if t769 = true then ((impl_MasksValid.f k l1 a0_0).bind fun t770 => (impl_NarrowRules.j0 k l1 (!t770) a0_0 l0_1 l0_2)) else (impl_NarrowRules.j0 k l1 true a0_0 l0_1 l0_2))
theorem impl_NarrowRules.mono_l : ∀ k, (∀ y0 y1 y2 y3 y4, LeO (impl_NarrowRules.j0 k y0 y1 y2 y3 y4) (impl_NarrowRules.j0 (k + 1) y0 y1 y2 y3 y4)) ∧ (∀ y0 y1 y2 y3 y4 y5 y6, LeO (impl_NarrowRules.l0 k y0 y1 y2 y3 y4 y5 y6) (impl_NarrowRules.l0 (k + 1) y0 y1 y2 y3 y4 y5 y6)) ∧ (∀ y0 y1 y2 y3 y4 y5 y6 y7 y8 y9 y10 y11 y12, LeO (impl_NarrowRules.l1 k y0 y1 y2 y3 y4 y5 y6 y7 y8 y9 y10 y11 y12) (impl_NarrowRules.l1 (k + 1) y0 y1 y2 y3 y4 y5 y6 y7 y8 y9 y10 y11 y12))
  | 0 => ⟨fun _ _ _ _ _ r h => by simp [impl_NarrowRules.j0] at h, fun _ _ _ _ _ _ _ r h => by simp [impl_NarrowRules.l0] at h, fun _ _ _ _ _ _ _ _ _ _ _ _ _ r h => by simp [impl_NarrowRules.l1] at h⟩
  | k + 1 => by
    obtain ⟨ih0, ih1, ih2⟩ := impl_NarrowRules.mono_l k
    refine ⟨?_, ?_, ?_⟩
    · intro y0 y1 y2 y3 y4
      unfold impl_NarrowRules.j0
      repeat' first
      | (with_reducible exact ih0 _ _ _ _ _)
      | (with_reducible exact ih1 _ _ _ _ _ _ _)
      | (with_reducible exact ih2 _ _ _ _ _ _ _ _ _ _ _ _ _)
      | (with_reducible exact impl_MasksValid.mono _ _ _)
      | (with_reducible exact impl_PuzzleValid.mono _ _ _ _)
      | (with_reducible exact impl_RuleMasks.mono _ _ _ _ _ _)
      | (with_reducible exact LeO.refl _)
      | (with_reducible exact LeO.none _)
      | (with_reducible refine LeO.ite ?_ ?_)
      | (with_reducible refine LeO.bind ?_ (fun _ => ?_))
      | exact ih0 _ _ _ _ _
      | exact ih1 _ _ _ _ _ _ _
      | exact ih2 _ _ _ _ _ _ _ _ _ _ _ _ _
      | exact impl_MasksValid.mono _ _ _
      | exact impl_PuzzleValid.mono _ _ _ _
      | exact impl_RuleMasks.mono _ _ _ _ _ _
      | exact LeO.none _
      | refine LeO.ite ?_ ?_
      | refine LeO.bind ?_ (fun _ => ?_)
    · intro y0 y1 y2 y3 y4 y5 y6
      unfold impl_NarrowRules.l0
      repeat' first
      | (with_reducible exact ih0 _ _ _ _ _)
      | (with_reducible exact ih1 _ _ _ _ _ _ _)
      | (with_reducible exact ih2 _ _ _ _ _ _ _ _ _ _ _ _ _)
      | (with_reducible exact impl_MasksValid.mono _ _ _)
      | (with_reducible exact impl_PuzzleValid.mono _ _ _ _)
      | (with_reducible exact impl_RuleMasks.mono _ _ _ _ _ _)
      | (with_reducible exact LeO.refl _)
      | (with_reducible exact LeO.none _)
      | (with_reducible refine LeO.ite ?_ ?_)
      | (with_reducible refine LeO.bind ?_ (fun _ => ?_))
      | exact ih0 _ _ _ _ _
      | exact ih1 _ _ _ _ _ _ _
      | exact ih2 _ _ _ _ _ _ _ _ _ _ _ _ _
      | exact impl_MasksValid.mono _ _ _
      | exact impl_PuzzleValid.mono _ _ _ _
      | exact impl_RuleMasks.mono _ _ _ _ _ _
      | exact LeO.none _
      | refine LeO.ite ?_ ?_
      | refine LeO.bind ?_ (fun _ => ?_)
    · intro y0 y1 y2 y3 y4 y5 y6 y7 y8 y9 y10 y11 y12
      unfold impl_NarrowRules.l1
      repeat' first
      | (with_reducible exact ih0 _ _ _ _ _)
      | (with_reducible exact ih1 _ _ _ _ _ _ _)
      | (with_reducible exact ih2 _ _ _ _ _ _ _ _ _ _ _ _ _)
      | (with_reducible exact impl_MasksValid.mono _ _ _)
      | (with_reducible exact impl_PuzzleValid.mono _ _ _ _)
      | (with_reducible exact impl_RuleMasks.mono _ _ _ _ _ _)
      | (with_reducible exact LeO.refl _)
      | (with_reducible exact LeO.none _)
      | (with_reducible refine LeO.ite ?_ ?_)
      | (with_reducible refine LeO.bind ?_ (fun _ => ?_))
      | exact ih0 _ _ _ _ _
      | exact ih1 _ _ _ _ _ _ _
      | exact ih2 _ _ _ _ _ _ _ _ _ _ _ _ _
      | exact impl_MasksValid.mono _ _ _
      | exact impl_PuzzleValid.mono _ _ _ _
      | exact impl_RuleMasks.mono _ _ _ _ _ _
      | exact LeO.none _
      | refine LeO.ite ?_ ?_
      | refine LeO.bind ?_ (fun _ => ?_)
theorem impl_NarrowRules.mono : ∀ a0 a1 a2 a3 k, LeO (impl_NarrowRules.f k a0 a1 a2 a3) (impl_NarrowRules.f (k + 1) a0 a1 a2 a3) := by
  intro a0 a1 a2 a3 k
  obtain ⟨ih0, ih1, ih2⟩ := impl_NarrowRules.mono_l k
  unfold impl_NarrowRules.f
  repeat' first
      | (with_reducible exact ih0 _ _ _ _ _)
      | (with_reducible exact ih1 _ _ _ _ _ _ _)
      | (with_reducible exact ih2 _ _ _ _ _ _ _ _ _ _ _ _ _)
      | (with_reducible exact impl_MasksValid.mono _ _ _)
      | (with_reducible exact impl_PuzzleValid.mono _ _ _ _)
      | (with_reducible exact impl_RuleMasks.mono _ _ _ _ _ _)
      | (with_reducible exact LeO.refl _)
      | (with_reducible exact LeO.none _)
      | (with_reducible refine LeO.ite ?_ ?_)
      | (with_reducible refine LeO.bind ?_ (fun _ => ?_))
      | exact ih0 _ _ _ _ _
      | exact ih1 _ _ _ _ _ _ _
      | exact ih2 _ _ _ _ _ _ _ _ _ _ _ _ _
      | exact impl_MasksValid.mono _ _ _
      | exact impl_PuzzleValid.mono _ _ _ _
      | exact impl_RuleMasks.mono _ _ _ _ _ _
      | exact LeO.none _
      | refine LeO.ite ?_ ?_
      | refine LeO.bind ?_ (fun _ => ?_)
set_option maxHeartbeats 8000000 in
set_option maxRecDepth 100000 in
theorem impl_NarrowRules.calls (k : Nat) (a0_0 : Int) (A0_1 : Option Addr) (c0_1 : Nat) (l0_1 : List Int) (A0_2 : Option Addr) (c0_2 : Nat) (l0_2 : List (S32)) (A1 : Option Addr) (c1 : Nat) (l1 : List Int) (r : List Int) (w : World) (hr0_1 : Kd.C (Kd.int .i64) w A0_1 l0_1.length l0_1) (hc0_1 : l0_1.length ≤ c0_1) (hr0_2 : Kd.C k32 w A0_2 l0_2.length l0_2) (hc0_2 : l0_2.length ≤ c0_2) (hr1 : Kd.C (Kd.int .i64) w A1 l1.length l1) (hc1 : l1.length ≤ c1) (h : impl_NarrowRules.f k a0_0 l0_1 l0_2 l1 = some r) :
    Calls Try.prog 53 #[.agg #[.int .i64 a0_0, .slice A0_1 l0_1.length c0_1, .slice A0_2 l0_2.length c0_2], .slice A1 l1.length c1] w fun e w' => ∃ v0_ : Value, e = .returned (v0_) ∧ Kd.R (Kd.int .i64) 3 w' w.heap.size (fun _ => True) v0_ r ∧ Below w.heap.size w w' := by
  have hu43 := Try.underlying43
  have hu32 := Try.underlying32
  have HR0_1 := yam hr0_1
  have HC0_1 := yam hc0_1
  clear hr0_1 hc0_1
  have HR0_2 := yam hr0_2
  have HC0_2 := yam hc0_2
  clear hr0_2 hc0_2
  have HR1 := yam hr1
  have HC1 := yam hc1
  clear hr1 hc1
  have HB := yam (Below.refl w.heap.size w)
  have H : ((impl_PuzzleValid.f k a0_0 l0_1 l0_2).bind fun t769 => (if t769 = true then ((impl_MasksValid.f k l1 a0_0).bind fun t770 => (impl_NarrowRules.j0 k l1 (!t770) a0_0 l0_1 l0_2)) else (impl_NarrowRules.j0 k l1 true a0_0 l0_1 l0_2))) = some r := h
  clear h
  have HC3 := yam H
  clear H
  go_enter Try.func53, Try.ntmps53
  go_upto_region 1 with (first | ((with_reducible refine gate_dst (N := 2) rfl ?_); refine box_event ?hg (N := 2) ?hd (cs := #[.int .i64 a0_0, .slice A0_1 l0_1.length c0_1, .slice A0_2 l0_2.length c0_2]) (t := 43) ?hr ?_; (case hd => rfl); (case hg => rfl); (case hr => first | (go_simp; done) | (go_simp; rfl)); intro gb768 hg w4 hbox hb; have n0_ := yam (below_step (yez HB.out) hb); have n1_ := yam (hbox); have n2_ := yam ((by rw [hg]; exact (below_size (yez HB.out)) : w.heap.size ≤ gb768)); have n3_ := yam ((by rw [hg]; exact (below_size (yez HB.out)) : w.heap.size ≤ gb768)); clear HB; have HB := n0_; have BK768 := n1_; have GW768 := n2_; have GE768 := n3_; clear n0_ n1_ n2_ n3_; clear hb hbox hg))
  (try simp only [Act.put, yps])
  go_cut [19] (fun v19 wc => ∃ (kq : Nat) (x19_2 : Bool), v19 = .bool x19_2 ∧ Aside0 (impl_NarrowRules.j0 kq l1 x19_2 a0_0 l0_1 l0_2 = some r) ∧ Aside0 (kq ≤ k) ∧ Aside0 (wc.heap[gb768]? = some (.cells #[.int .i64 a0_0, (.slice A0_1 l0_1.length c0_1), (.slice A0_2 l0_2.length c0_2)] 43 (0, 0))) ∧ Aside0 (Below w.heap.size w wc))
  case first =>
    have H := HC3.out
    clear HC3
    replace H := Option.bind_eq_some_iff.mp H
    obtain ⟨t769, A50, H⟩ := H
    try dsimp only at H
    have A5 := yam A50
    clear A50
    by_cases c6 : t769 = true
    rotate_left
    · replace c6 := Bool.eq_false_iff.mpr c6
      subst c6
      have H1 : (impl_NarrowRules.j0 k l1 true a0_0 l0_1 l0_2) = some r := by rw [if_neg (show ¬ (false = true) by decide)] at H; exact H
      clear H
      have H := H1
      clear H1
      have H' := yam H
      clear H
      have hcz11_0 : w4.cell? ⟨gb768, 0, none⟩ = some (.int .i64 a0_0) := (blk_cell BK768.out 0).trans rfl
      have hcz11_1 : w4.cell? ⟨gb768, 1, none⟩ = some (.slice A0_1 l0_1.length c0_1) := (blk_cell BK768.out 1).trans rfl
      have hcz11_2 : w4.cell? ⟨gb768, 2, none⟩ = some (.slice A0_2 l0_2.length c0_2) := (blk_cell BK768.out 2).trans rfl
      have hfz11_0 := blk_frozen BK768.out 0
      have hfz11_1 := blk_frozen BK768.out 1
      have hfz11_2 := blk_frozen BK768.out 2
      go_wp2_with (first | ((with_reducible refine gate_callee (f := 28) rfl ?_); refine goesL_ (some 11) rfl rfl Try.func28 (by kernel_rfl) rfl #[.agg #[.int .i64 a0_0, .slice A0_1 l0_1.length c0_1, .slice A0_2 l0_2.length c0_2]] rfl (by (try simp only [List.map_toArray, List.map_cons, List.map_nil]); first | done | rfl | (simp only [List.length_drop, List.length_take]; rfl)) ?_; (with_reducible refine (impl_PuzzleValid.calls k a0_0 _ _ l0_1 _ _ l0_2 false _ ?side1 ?side2 ?side3 ?side4 A5.out).mono ?_); (case side1 => exact Kd.Cz ((Kd.C_below HR0_1.out HB.out))); (case side2 => exact HC0_1.out); (case side3 => exact Kd.Cz ((Kd.C_below HR0_2.out HB.out))); (case side4 => exact HC0_2.out); rintro e w12 ⟨rfl, hb⟩; refine ⟨_, rfl, ?_⟩; have n0_ := yam (blk_below (g := gb768) (o := .cells #[.int .i64 a0_0, .slice A0_1 l0_1.length c0_1, .slice A0_2 l0_2.length c0_2] 43 (0, 0)) (ybz BK768.out) hb); have n1_ := yam (below_step (by repeat (first | (with_reducible first | exact HB.out | apply yea | apply yen | apply yed | refine below_set ?_ GE768.out) | exact HB.out)) hb); clear BK768; clear HB; have BK768 := n0_; have HB := n1_; clear n0_ n1_; (try clear hb); (try clear hb2); (try clear hk); (try clear hi)))
      go_meet
      case rel => exact ⟨_, (true), (by first | rfl | (simp; done) | (simp [*]; done)), H', ⟨by first | omega | exact Nat.le_refl _⟩, ⟨by (with_reducible repeat (first | refine ybn ?_ _ | refine ybd ?_ | refine yba ?_ _)); exact BK768.out⟩, ⟨by repeat (first | (with_reducible first | exact HB.out | apply yea | apply yen | apply yed | refine below_set ?_ GE768.out) | exact HB.out)⟩⟩
    subst c6
    have H1 : ((impl_MasksValid.f k l1 a0_0).bind fun t770 => (impl_NarrowRules.j0 k l1 (!t770) a0_0 l0_1 l0_2)) = some r := by rw [if_pos rfl] at H; exact H
    clear H
    have H := H1
    clear H1
    replace H := Option.bind_eq_some_iff.mp H
    obtain ⟨t770, A70, H⟩ := H
    try dsimp only at H
    have A7 := yam A70
    clear A70
    have H' := yam H
    clear H
    have hcz8_0 : w4.cell? ⟨gb768, 0, none⟩ = some (.int .i64 a0_0) := (blk_cell BK768.out 0).trans rfl
    have hcz8_1 : w4.cell? ⟨gb768, 1, none⟩ = some (.slice A0_1 l0_1.length c0_1) := (blk_cell BK768.out 1).trans rfl
    have hcz8_2 : w4.cell? ⟨gb768, 2, none⟩ = some (.slice A0_2 l0_2.length c0_2) := (blk_cell BK768.out 2).trans rfl
    have hfz8_0 := blk_frozen BK768.out 0
    have hfz8_1 := blk_frozen BK768.out 1
    have hfz8_2 := blk_frozen BK768.out 2
    go_wp2_with (first | ((with_reducible refine gate_callee (f := 28) rfl ?_); refine goesL_ (some 11) rfl rfl Try.func28 (by kernel_rfl) rfl #[.agg #[.int .i64 a0_0, .slice A0_1 l0_1.length c0_1, .slice A0_2 l0_2.length c0_2]] rfl (by (try simp only [List.map_toArray, List.map_cons, List.map_nil]); first | done | rfl | (simp only [List.length_drop, List.length_take]; rfl)) ?_; (with_reducible refine (impl_PuzzleValid.calls k a0_0 _ _ l0_1 _ _ l0_2 true _ ?side1 ?side2 ?side3 ?side4 A5.out).mono ?_); (case side1 => exact Kd.Cz ((Kd.C_below HR0_1.out HB.out))); (case side2 => exact HC0_1.out); (case side3 => exact Kd.Cz ((Kd.C_below HR0_2.out HB.out))); (case side4 => exact HC0_2.out); rintro e w9 ⟨rfl, hb⟩; refine ⟨_, rfl, ?_⟩; have n0_ := yam (blk_below (g := gb768) (o := .cells #[.int .i64 a0_0, .slice A0_1 l0_1.length c0_1, .slice A0_2 l0_2.length c0_2] 43 (0, 0)) (ybz BK768.out) hb); have n1_ := yam (below_step (by repeat (first | (with_reducible first | exact HB.out | apply yea | apply yen | apply yed | refine below_set ?_ GE768.out) | exact HB.out)) hb); clear BK768; clear HB; have BK768 := n0_; have HB := n1_; clear n0_ n1_; (try clear hb); (try clear hb2); (try clear hk); (try clear hi); have hcz10_0 : w9.cell? ⟨gb768, 0, none⟩ = some (.int .i64 a0_0) := (blk_cell BK768.out 0).trans rfl; have hcz10_1 : w9.cell? ⟨gb768, 1, none⟩ = some (.slice A0_1 l0_1.length c0_1) := (blk_cell BK768.out 1).trans rfl; have hcz10_2 : w9.cell? ⟨gb768, 2, none⟩ = some (.slice A0_2 l0_2.length c0_2) := (blk_cell BK768.out 2).trans rfl; have hfz10_0 := blk_frozen BK768.out 0; have hfz10_1 := blk_frozen BK768.out 1; have hfz10_2 := blk_frozen BK768.out 2) | (go_at_call 21; (with_reducible refine (impl_MasksValid.calls k _ _ l1 a0_0 t770 _ ?side1 ?side2 A7.out).mono ?_); (case side1 => exact Kd.Cz ((Kd.C_below HR1.out HB.out))); (case side2 => exact HC1.out); rintro e w' ⟨rfl, ⟨nd, rfl⟩⟩))
    go_meet
    case rel => exact ⟨_, (!t770), (by first | rfl | (simp; done) | (simp [*]; done)), H', ⟨by first | omega | exact Nat.le_refl _⟩, ⟨by (with_reducible repeat (first | refine ybn ?_ _ | refine ybd ?_ | refine yba ?_ _)); exact BK768.out⟩, ⟨by repeat (first | (with_reducible first | exact HB.out | apply yea | apply yen | apply yed | refine below_set ?_ GE768.out) | exact HB.out)⟩⟩
  case rest =>
    clear HC3
    try clear c1
    try clear c2
    try clear p2
    try clear c5
    try clear c6
    try clear hcz10_0
    try clear hcz10_1
    try clear hcz10_2
    try clear hcz11_0
    try clear hcz11_1
    try clear hcz11_2
    try clear hcz8_0
    try clear hcz8_1
    try clear hcz8_2
    try clear hfz10_0
    try clear hfz10_1
    try clear hfz10_2
    try clear hfz11_0
    try clear hfz11_1
    try clear hfz11_2
    try clear hfz8_0
    try clear hfz8_1
    try clear hfz8_2
    obtain ⟨kq, x19_2, rfl, HA, HJ2, BK768, HB⟩ := hcut
    cases kq with
    | zero => exact absurd HA.out (by simp [impl_NarrowRules.j0])
    | succ kj2 =>
      have H := HA.out
      clear HA
      simp only [impl_NarrowRules.j0] at H
      by_cases c13 : x19_2 = true
      · subst c13
        have H1 : (some ([] : List Int)) = some r := by rw [if_pos rfl] at H; exact H
        clear H
        have H := H1
        clear H1
        obtain rfl := Option.some.inj H
        go_wp2
        go_ret
        exact ⟨_, by first | rfl | (simp [errW_none, errW_some] <;> rfl) | (simp [*, errW_none, errW_some] <;> rfl), by first | exact Kd.R_nil _ _ _ _ _ | exact Kd.N_nil _ _ _ _ _ | exact Kd.V_nil _ _ _ _ _ | exact Kd.Q_nil _ _ _ _ _ | exact Kd.S_nil _ _ _ _ _, by repeat (first | (with_reducible first | exact HB.out | apply yea | apply yen | apply yed | refine below_set ?_ GE768.out) | exact HB.out)⟩
      replace c13 := Bool.eq_false_iff.mpr c13
      subst c13
      have H1 : ((slices_Clone_int_int.f l1).bind fun t771 => (impl_NarrowRules.l0 kj2 t771 l0_2 (l0_2.length : Int) 0 a0_0 l0_1 l0_2)) = some r := by rw [if_neg (show ¬ (false = true) by decide)] at H; exact H
      clear H
      have H := H1
      clear H1
      replace H := Option.bind_eq_some_iff.mp H
      obtain ⟨t771, A140, H⟩ := H
      try dsimp only at H
      have A14 := yam A140
      clear A140
      have H' := yam H
      clear H
      go_wp2_with (first | ((with_reducible refine gate_callee (f := 84) rfl ?_); refine goesL_ (some 21) rfl rfl Try.func84 (by kernel_rfl) rfl #[.slice A1 l1.length c1] rfl (by (try simp only [List.map_toArray, List.map_cons, List.map_nil]); first | done | rfl | (simp only [List.length_drop, List.length_take]; rfl)) ?_; (with_reducible refine (slices_Clone_int_int.calls _ _ l1 t771 _ ?side1 ?side2 A14.out).mono ?_); (case side1 => exact Kd.Cz ((Kd.C_below HR1.out HB.out))); (case side2 => exact HC1.out); rintro e w15 ⟨v772, rfl, ho0, hb⟩; refine ⟨_, rfl, ?_⟩; have n0_ := yam (Kd.R_lower ho0 (below_size (by repeat (first | (with_reducible first | exact HB.out | apply yea | apply yen | apply yed | refine below_set ?_ GE768.out) | exact HB.out)))); have n1_ := yam (blk_below (g := gb768) (o := .cells #[.int .i64 a0_0, .slice A0_1 l0_1.length c0_1, .slice A0_2 l0_2.length c0_2] 43 (0, 0)) (ybz BK768.out) hb); have n2_ := yam (below_step (by repeat (first | (with_reducible first | exact HB.out | apply yea | apply yen | apply yed | refine below_set ?_ GE768.out) | exact HB.out)) hb); clear BK768; clear HB; have HO773 := n0_; have BK768 := n1_; have HB := n2_; clear n0_ n1_ n2_; (try clear hb); (try clear hb2); (try clear hk); (try clear hi); (try clear ho0); have hcz16_0 : w15.cell? ⟨gb768, 0, none⟩ = some (.int .i64 a0_0) := (blk_cell BK768.out 0).trans rfl; have hcz16_1 : w15.cell? ⟨gb768, 1, none⟩ = some (.slice A0_1 l0_1.length c0_1) := (blk_cell BK768.out 1).trans rfl; have hcz16_2 : w15.cell? ⟨gb768, 2, none⟩ = some (.slice A0_2 l0_2.length c0_2) := (blk_cell BK768.out 2).trans rfl; have hfz16_0 := blk_frozen BK768.out 0; have hfz16_1 := blk_frozen BK768.out 1; have hfz16_2 := blk_frozen BK768.out 2))
      go_loopg [25] kj2 (fun kq v25 w' => ∃ (x5_2 : List Int) (x25_2 : Int), v25 = .int .i64 x25_2 ∧ Aside0 (impl_NarrowRules.l0 kq x5_2 l0_2 (l0_2.length : Int) x25_2 a0_0 l0_1 l0_2 = some r) ∧ Aside0 (kq ≤ kj2) ∧ Aside0 (Kd.R (Kd.int .i64) 3 w' w.heap.size (fun _ => True) v772 x5_2) ∧ Aside0 (w'.heap[gb768]? = some (.cells #[.int .i64 a0_0, (.slice A0_1 l0_1.length c0_1), (.slice A0_2 l0_2.length c0_2)] 43 (0, 0))) ∧ Aside0 (Below w.heap.size w w'))
      case atStart => exact ⟨(t771), (0), (by first | rfl | (simp; done) | (simp [*]; done)), H', ⟨Nat.le_refl _⟩, ⟨by (with_reducible repeat (first | apply Kd.Ya | apply Kd.Yn | apply Kd.Yd)); exact HO773.out⟩, ⟨by (with_reducible repeat (first | refine ybn ?_ _ | refine ybd ?_ | refine yba ?_ _)); exact BK768.out⟩, ⟨by repeat (first | (with_reducible first | exact HB.out | apply yea | apply yen | apply yed | refine below_set ?_ GE768.out) | exact HB.out)⟩⟩
      case round =>
        clear H'
        try clear c1
        try clear c2
        try clear p2
        try clear c5
        try clear c6
        try clear c8
        try clear c13
        try clear hcz10_0
        try clear hcz10_1
        try clear hcz10_2
        try clear hcz11_0
        try clear hcz11_1
        try clear hcz11_2
        try clear hcz16_0
        try clear hcz16_1
        try clear hcz16_2
        try clear hcz8_0
        try clear hcz8_1
        try clear hcz8_2
        try clear hfz10_0
        try clear hfz10_1
        try clear hfz10_2
        try clear hfz11_0
        try clear hfz11_1
        try clear hfz11_2
        try clear hfz16_0
        try clear hfz16_1
        try clear hfz16_2
        try clear hfz8_0
        try clear hfz8_1
        try clear hfz8_2
        try clear p2
        obtain ⟨x5_2, x25_2, rfl, HA, HK2, HO_5, BK768, HB⟩ := hrel
        cases gk with
        | zero => exact absurd HA.out (by simp [impl_NarrowRules.l0])
        | succ k2 =>
          have H := HA.out
          clear HA
          simp only [impl_NarrowRules.l0] at H
          by_cases c17 : x25_2 < (l0_2.length : Int)
          rotate_left
          · rw [if_neg c17] at H
            have c17b0 : decide (x25_2 < (l0_2.length : Int)) = false := decide_eq_false c17
            clear c17
            obtain rfl := Option.some.inj H
            go_wp2
            go_ret
            exact ⟨_, by first | rfl | (simp [errW_none, errW_some] <;> rfl) | (simp [*, errW_none, errW_some] <;> rfl), by (with_reducible repeat (first | apply Kd.Ya | apply Kd.Yn | apply Kd.Yd)); exact HO_5.out, by repeat (first | (with_reducible first | exact HB.out | apply yea | apply yen | apply yed | refine below_set ?_ GE768.out) | exact HB.out)⟩

          rw [if_pos c17] at H
          have c17b0 : decide (x25_2 < (l0_2.length : Int)) = true := decide_eq_true c17
          clear c17
          by_cases c18 : 0 ≤ x25_2
          rotate_left
          · rw [if_neg c18] at H
            exact absurd H (by simp)
          rw [if_pos c18] at H
          have c18b0 : decide (0 ≤ x25_2) = true := decide_eq_true c18
          clear c18
          by_cases c19 : x25_2 < (l0_2.length : Int)
          rotate_left
          · rw [if_neg c19] at H
            exact absurd H (by simp)
          rw [if_pos c19] at H
          have c19b0 : decide (x25_2 < (l0_2.length : Int)) = true := decide_eq_true c19
          clear c19
          replace H := Option.bind_eq_some_iff.mp H
          obtain ⟨t776, A200, H⟩ := H
          try dsimp only at H
          have A20 := yam A200
          clear A200
          have H' := yam H
          clear H
          have p774 : 0 ≤ (x25_2 : Int) := of_decide_eq_true (by first | (with_reducible assumption) | assumption)
          have q774 : x25_2 < (l0_2.length : Int) := of_decide_eq_true (by first | (with_reducible assumption) | assumption)
          obtain ⟨ad774, A774_1, c774_1, e774, hx774_0, hx774_1, hx774_2, hl774_1, hi774_1⟩ := at_T32 HR0_2.out x25_2 p774 q774
          cases e774
          replace hx774_0 := (HB.out.cell (World.block_lt_of_cell? w _ hx774_0)).trans hx774_0
          replace hx774_1 := (HB.out.cell (World.block_lt_of_cell? w _ hx774_1)).trans hx774_1
          replace hx774_2 := (HB.out.cell (World.block_lt_of_cell? w _ hx774_2)).trans hx774_2
          have HR774_1 := yam hi774_1
          have HC774_1 := yam hl774_1
          clear hi774_1 hl774_1
          replace p774 := eq_true p774
          replace q774 := eq_true q774
          go_wp2_with (first | ((with_reducible refine gate_dst (N := 7) rfl ?_); refine box_event ?hg (N := 7) ?hd (cs := #[.int .i64 0, .slice none 0 0, .int .i64 0]) (t := 32) ?hr ?_; (case hd => rfl); (case hg => rfl); (case hr => first | (go_simp; done) | (go_simp; rfl)); intro gb775 hg w21 hbox hb; have n0_ := yam (Kd.R_below (Kd.Yz HO_5.out) hb); have n1_ := yam (blk_below (g := gb768) (o := .cells #[.int .i64 a0_0, .slice A0_1 l0_1.length c0_1, .slice (some ad774) l0_2.length c0_2] 43 (0, 0)) (ybz BK768.out) hb); have n2_ := yam (below_step (by repeat (first | (with_reducible first | exact HB.out | apply yea | apply yen | apply yed | refine below_set ?_ GE768.out) | exact HB.out)) hb); have n3_ := yam (hbox); have n4_ := yam ((by rw [hg]; exact (below_size (by repeat (first | (with_reducible first | exact HB.out | apply yea | apply yen | apply yed | refine below_set ?_ GE768.out) | exact HB.out))) : w.heap.size ≤ gb775)); have n5_ := yam ((by rw [hg]; exact (below_size (by repeat (first | (with_reducible first | exact HB.out | apply yea | apply yen | apply yed | refine below_set ?_ GE768.out) | exact HB.out))) : w.heap.size ≤ gb775)); have n6_ := yam ((by rw [hg]; exact Nat.ne_of_lt (blk_lt (g := gb768) (o := .cells #[.int .i64 a0_0, .slice A0_1 l0_1.length c0_1, .slice (some ad774) l0_2.length c0_2] 43 (0, 0)) (ybz BK768.out)) : gb768 ≠ gb775)); have n7_ := yam ((by rw [hg]; exact Nat.ne_of_gt (blk_lt (g := gb768) (o := .cells #[.int .i64 a0_0, .slice A0_1 l0_1.length c0_1, .slice (some ad774) l0_2.length c0_2] 43 (0, 0)) (ybz BK768.out)) : gb775 ≠ gb768)); clear HO_5; clear BK768; clear HB; have HO_5 := n0_; have BK768 := n1_; have HB := n2_; have BK775 := n3_; have GW775 := n4_; have GE775 := n5_; have NB768_775 := n6_; have NB775_768 := n7_; clear n0_ n1_ n2_ n3_ n4_ n5_ n6_ n7_; clear hb hbox hg; have hnb22 := NB775_768.out; have hnc22 := NB768_775.out; have hcz23_0 : w21.cell? ⟨gb775, 0, none⟩ = some (.int .i64 0) := (blk_cell BK775.out 0).trans rfl; have hcz23_1 : w21.cell? ⟨gb775, 1, none⟩ = some (.slice none 0 0) := (blk_cell BK775.out 1).trans rfl; have hcz23_2 : w21.cell? ⟨gb775, 2, none⟩ = some (.int .i64 0) := (blk_cell BK775.out 2).trans rfl; have hfz23_0 := blk_frozen BK775.out 0; have hfz23_1 := blk_frozen BK775.out 1; have hfz23_2 := blk_frozen BK775.out 2; have hcz24_0 : w21.cell? ⟨gb768, 0, none⟩ = some (.int .i64 a0_0) := (blk_cell BK768.out 0).trans rfl; have hcz24_1 : w21.cell? ⟨gb768, 1, none⟩ = some (.slice A0_1 l0_1.length c0_1) := (blk_cell BK768.out 1).trans rfl; have hcz24_2 : w21.cell? ⟨gb768, 2, none⟩ = some (.slice (some ad774) l0_2.length c0_2) := (blk_cell BK768.out 2).trans rfl; have hfz24_0 := blk_frozen BK768.out 0; have hfz24_1 := blk_frozen BK768.out 1; have hfz24_2 := blk_frozen BK768.out 2; obtain ⟨Ao25, co25, eo25⟩ := Kd.R_slice HO_5.out; subst eo25) | ((with_reducible refine gate_callee (f := 34) rfl ?_); refine goesL_ (some 33) rfl rfl Try.func34 (by kernel_rfl) rfl #[.agg #[.int .i64 ((rd_T32 l0_2 x25_2).f0), .slice A774_1 ((rd_T32 l0_2 x25_2).f1).length c774_1, .int .i64 ((rd_T32 l0_2 x25_2).f2)], .slice Ao25 x5_2.length co25, .int .i64 a0_0] rfl (by (try simp only [List.map_toArray, List.map_cons, List.map_nil]); first | done | rfl | (simp only [List.length_drop, List.length_take]; rfl)) ?_; (with_reducible refine (impl_RuleMasks.calls k2 ((rd_T32 l0_2 x25_2).f0) _ _ ((rd_T32 l0_2 x25_2).f1) ((rd_T32 l0_2 x25_2).f2) _ _ x5_2 a0_0 t776 _ ?side1 ?side2 ?side3 ?side4 A20.out).mono ?_); (case side1 => exact Kd.C_below HR774_1.out (by repeat (first | (with_reducible first | exact HB.out | apply yea | apply yen | apply yed | refine below_set ?_ GE768.out | refine below_set ?_ GE775.out) | exact HB.out))); (case side2 => exact HC774_1.out); (case side3 => refine (Kd.Yr (e := 3) (base := w.heap.size) (ok := fun k_ => True) (n := x5_2.length) (c := co25) ?_).2.2; exact (by (with_reducible repeat (first | apply Kd.Ya | apply Kd.Yn | apply Kd.Yd)); exact (Kd.R_mono (Kd.R_far (p := ⟨gb775, 2, none⟩) (Kd.R_far (p := ⟨gb775, 1, none⟩) (Kd.R_far (p := ⟨gb775, 0, none⟩) (Kd.R_types HO_5.out BK775.out (by decide)) (fun _ hk => hk.2) (.int .i64 ((rd_T32 l0_2 x25_2).f0))) (fun _ hk => hk.2) (.slice A774_1 ((rd_T32 l0_2 x25_2).f1).length c774_1)) (fun _ hk => hk.2) (.int .i64 ((rd_T32 l0_2 x25_2).f2))) (fun _ h_ => h_.1)))); (case side4 => exact (Kd.Yr HO_5.out).2.1); rintro e w26 ⟨v777, rfl, ho0, hb⟩; refine ⟨_, rfl, ?_⟩; have n0_ := yam (Kd.Ye (by (with_reducible repeat (first | apply Kd.Ya | apply Kd.Yn | apply Kd.Yd)); exact (Kd.R_mono (Kd.R_far (p := ⟨gb775, 2, none⟩) (Kd.R_far (p := ⟨gb775, 1, none⟩) (Kd.R_far (p := ⟨gb775, 0, none⟩) (Kd.R_types HO_5.out BK775.out (by decide)) (fun _ hk => hk.2) (.int .i64 ((rd_T32 l0_2 x25_2).f0))) (fun _ hk => hk.2) (.slice A774_1 ((rd_T32 l0_2 x25_2).f1).length c774_1)) (fun _ hk => hk.2) (.int .i64 ((rd_T32 l0_2 x25_2).f2))) (fun _ h_ => h_.1))) (Kd.Yb ho0) hb); have n1_ := yam (Kd.R_lower (Kd.Yw ho0 (Kd.R_lt (by (with_reducible repeat (first | apply Kd.Ya | apply Kd.Yn | apply Kd.Yd)); exact (Kd.R_mono (Kd.R_far (p := ⟨gb775, 2, none⟩) (Kd.R_far (p := ⟨gb775, 1, none⟩) (Kd.R_far (p := ⟨gb775, 0, none⟩) (Kd.R_types HO_5.out BK775.out (by decide)) (fun _ hk => hk.2) (.int .i64 ((rd_T32 l0_2 x25_2).f0))) (fun _ hk => hk.2) (.slice A774_1 ((rd_T32 l0_2 x25_2).f1).length c774_1)) (fun _ hk => hk.2) (.int .i64 ((rd_T32 l0_2 x25_2).f2))) (fun _ h_ => h_.1))))) (below_size (by repeat (first | (with_reducible first | exact HB.out | apply yea | apply yen | apply yed | refine below_set ?_ GE768.out | refine below_set ?_ GE775.out) | exact HB.out)))); have n2_ := yam (blk_below (g := gb768) (o := .cells #[.int .i64 a0_0, .slice A0_1 l0_1.length c0_1, .slice (some ad774) l0_2.length c0_2] 43 (0, 0)) (by (with_reducible repeat (first | refine ybn ?_ _ | refine ybd ?_ | refine yba ?_ _)); refine blk_far ?_ NB768_775.out _; (with_reducible repeat (first | refine ybn ?_ _ | refine ybd ?_ | refine yba ?_ _)); refine blk_far ?_ NB768_775.out _; (with_reducible repeat (first | refine ybn ?_ _ | refine ybd ?_ | refine yba ?_ _)); refine blk_far ?_ NB768_775.out _; (with_reducible repeat (first | refine ybn ?_ _ | refine ybd ?_ | refine yba ?_ _)); exact BK768.out) hb); have n3_ := yam (blk_below (g := gb775) (o := .cells #[.int .i64 ((rd_T32 l0_2 x25_2).f0), .slice A774_1 ((rd_T32 l0_2 x25_2).f1).length c774_1, .int .i64 ((rd_T32 l0_2 x25_2).f2)] 32 (0, 0)) (by (with_reducible repeat (first | refine ybn ?_ _ | refine ybd ?_ | refine yba ?_ _)); refine blk_put (cs := #[.int .i64 ((rd_T32 l0_2 x25_2).f0), .slice A774_1 ((rd_T32 l0_2 x25_2).f1).length c774_1, .int .i64 0]) ?_ 2 _ rfl; (with_reducible repeat (first | refine ybn ?_ _ | refine ybd ?_ | refine yba ?_ _)); refine blk_put (cs := #[.int .i64 ((rd_T32 l0_2 x25_2).f0), .slice none 0 0, .int .i64 0]) ?_ 1 _ rfl; (with_reducible repeat (first | refine ybn ?_ _ | refine ybd ?_ | refine yba ?_ _)); refine blk_put (cs := #[.int .i64 0, .slice none 0 0, .int .i64 0]) ?_ 0 _ rfl; (with_reducible repeat (first | refine ybn ?_ _ | refine ybd ?_ | refine yba ?_ _)); exact BK775.out) hb); have n4_ := yam (below_step (by repeat (first | (with_reducible first | exact HB.out | apply yea | apply yen | apply yed | refine below_set ?_ GE768.out | refine below_set ?_ GE775.out) | exact HB.out)) hb); clear HO_5; clear BK768; clear BK775; clear HB; have HO_5 := n0_; have HO778 := n1_; have BK768 := n2_; have BK775 := n3_; have HB := n4_; clear n0_ n1_ n2_ n3_ n4_; (try clear hb); (try clear hb2); (try clear hk); (try clear hi); (try clear ho0); obtain ⟨Ao27, co27, eo27⟩ := Kd.R_slice HO778.out; subst eo27))
          go_loopg [35] k2 (fun kq v35 w' => ∃ (x5_3 : List Int) (x35_3 : Int), v35 = .int .i64 x35_3 ∧ Aside0 (impl_NarrowRules.l1 kq x5_3 l0_2 (l0_2.length : Int) x25_2 t776 (t776.length : Int) x35_3 a0_0 l0_1 l0_2 ((rd_T32 l0_2 x25_2).f0) ((rd_T32 l0_2 x25_2).f1) ((rd_T32 l0_2 x25_2).f2) = some r) ∧ Aside0 (kq ≤ k2) ∧ Aside0 (Kd.R (Kd.int .i64) 3 w' w.heap.size (fun k_ => some k_ ≠ ((.slice Ao27 t776.length co27) : Value).ownBlock) (.slice Ao25 x5_2.length co25) x5_3) ∧ Aside0 (Kd.R (Kd.int .i64) 3 w' w.heap.size (fun k_ => some k_ ≠ ((.slice Ao25 x5_2.length co25) : Value).ownBlock) (.slice Ao27 t776.length co27) t776) ∧ Aside0 (w'.heap[gb768]? = some (.cells #[.int .i64 a0_0, (.slice A0_1 l0_1.length c0_1), (.slice (some ad774) l0_2.length c0_2)] 43 (0, 0))) ∧ Aside0 (w'.heap[gb775]? = some (.cells #[.int .i64 ((rd_T32 l0_2 x25_2).f0), (.slice A774_1 ((rd_T32 l0_2 x25_2).f1).length c774_1), .int .i64 ((rd_T32 l0_2 x25_2).f2)] 32 (0, 0))) ∧ Aside0 (Below w.heap.size w w'))
          case atStart => exact ⟨(x5_2), (0), (by first | rfl | (simp; done) | (simp [*]; done)), H', ⟨Nat.le_refl _⟩, ⟨by (with_reducible repeat (first | apply Kd.Ya | apply Kd.Yn | apply Kd.Yd)); exact Kd.R_mono HO_5.out (fun _ hk => hk.2)⟩, ⟨by (with_reducible repeat (first | apply Kd.Ya | apply Kd.Yn | apply Kd.Yd)); exact Kd.R_mono HO778.out (fun _ hk => hk.2)⟩, ⟨by (with_reducible repeat (first | refine ybn ?_ _ | refine ybd ?_ | refine yba ?_ _)); exact BK768.out⟩, ⟨by (with_reducible repeat (first | refine ybn ?_ _ | refine ybd ?_ | refine yba ?_ _)); exact BK775.out⟩, ⟨by repeat (first | (with_reducible first | exact HB.out | apply yea | apply yen | apply yed | refine below_set ?_ GE768.out | refine below_set ?_ GE775.out) | exact HB.out)⟩⟩
          case round =>
            clear H'
            try clear c1
            try clear c2
            try clear p2
            try clear c3
            try clear c5
            try clear c6
            try clear c7
            try clear p7
            try clear q7
            try clear hx7
            try clear c8
            try clear c13
            try clear c17
            try clear c17b0
            try clear c18
            try clear c18b0
            try clear c19
            try clear c19b0
            try clear c22
            try clear hcz10_0
            try clear hcz10_1
            try clear hcz10_2
            try clear hcz11_0
            try clear hcz11_1
            try clear hcz11_2
            try clear hcz16_0
            try clear hcz16_1
            try clear hcz16_2
            try clear hcz23_0
            try clear hcz23_1
            try clear hcz23_2
            try clear hcz24_0
            try clear hcz24_1
            try clear hcz24_2
            try clear hcz8_0
            try clear hcz8_1
            try clear hcz8_2
            try clear hfz10_0
            try clear hfz10_1
            try clear hfz10_2
            try clear hfz11_0
            try clear hfz11_1
            try clear hfz11_2
            try clear hfz16_0
            try clear hfz16_1
            try clear hfz16_2
            try clear hfz23_0
            try clear hfz23_1
            try clear hfz23_2
            try clear hfz24_0
            try clear hfz24_1
            try clear hfz24_2
            try clear hfz8_0
            try clear hfz8_1
            try clear hfz8_2
            try clear hx774_0
            try clear hx774_1
            try clear hx774_2
            try clear p2
            try clear p774
            try clear q774
            obtain ⟨x5_3, x35_3, rfl, HA, HK3, HO_5, HO_33, BK768, BK775, HB⟩ := hrel
            have hl5_3 := (Kd.Yr HO_5.out).1
            rw [hl5_3] at HO_5
            (try simp only [hl5_3])
            (try simp only [hl5_3] at BK768)
            (try simp only [hl5_3] at BK775)
            (try simp only [hl5_3] at HO_33)
            cases gk with
            | zero => exact absurd HA.out (by simp [impl_NarrowRules.l1])
            | succ k3 =>
              have H := HA.out
              clear HA
              simp only [impl_NarrowRules.l1] at H
              by_cases c28 : x35_3 < (t776.length : Int)
              rotate_left
              · rw [if_neg c28] at H
                have c28b0 : decide (x35_3 < (t776.length : Int)) = false := decide_eq_false c28
                clear c28
                have H' := yam H
                clear H
                go_wp2
                (try simp only [← hl5_3])
                go_roundg k3
                case measure => have := HJ2.out; have := HK2.out; have := HK3.out; omega
                case rel => exact ⟨(x5_3), (wrap64 (x25_2 + 1)), (by first | rfl | (simp; done) | (simp [*]; done)), H', ⟨by have := HJ2.out; have := HK2.out; have := HK3.out; omega⟩, ⟨by (try simp only [hl5_3]); (with_reducible repeat (first | apply Kd.Ya | apply Kd.Yn | apply Kd.Yd)); exact Kd.R_mono HO_5.out (fun _ hk => trivial)⟩, ⟨by (try simp only [hl5_3]); (with_reducible repeat (first | refine ybn ?_ _ | refine ybd ?_ | refine yba ?_ _)); exact BK768.out⟩, ⟨by repeat (first | (with_reducible first | exact HB.out | apply yea | apply yen | apply yed | refine below_set ?_ GE768.out | refine below_set ?_ GE775.out) | exact HB.out)⟩⟩
              rw [if_pos c28] at H
              have c28b0 : decide (x35_3 < (t776.length : Int)) = true := decide_eq_true c28
              clear c28
              by_cases c29 : 0 ≤ x35_3
              rotate_left
              · rw [if_neg c29] at H
                exact absurd H (by simp)
              rw [if_pos c29] at H
              have c29b0 : decide (0 ≤ x35_3) = true := decide_eq_true c29
              clear c29
              by_cases c30 : x35_3 < (t776.length : Int)
              rotate_left
              · rw [if_neg c30] at H
                exact absurd H (by simp)
              rw [if_pos c30] at H
              have c30b0 : decide (x35_3 < (t776.length : Int)) = true := decide_eq_true c30
              clear c30
              by_cases c31 : x35_3 < (((rd_T32 l0_2 x25_2).f1).length : Int)
              rotate_left
              · rw [if_neg c31] at H
                exact absurd H (by simp)
              rw [if_pos c31] at H
              have c31b0 : decide (x35_3 < (((rd_T32 l0_2 x25_2).f1).length : Int)) = true := decide_eq_true c31
              clear c31
              by_cases c32 : 0 ≤ (rd ((rd_T32 l0_2 x25_2).f1) x35_3)
              rotate_left
              · rw [if_neg c32] at H
                exact absurd H (by simp)
              rw [if_pos c32] at H
              have c32b0 : decide (0 ≤ (rd ((rd_T32 l0_2 x25_2).f1) x35_3)) = true := decide_eq_true c32
              clear c32
              by_cases c33 : (rd ((rd_T32 l0_2 x25_2).f1) x35_3) < (x5_3.length : Int)
              rotate_left
              · rw [if_neg c33] at H
                exact absurd H (by simp)
              rw [if_pos c33] at H
              have c33b0 : decide ((rd ((rd_T32 l0_2 x25_2).f1) x35_3) < (x5_3.length : Int)) = true := decide_eq_true c33
              clear c33
              obtain ⟨y781, hy781⟩ : ∃ y_ : List Int, y_ = (x5_3.set ((rd ((rd_T32 l0_2 x25_2).f1) x35_3) : Int).toNat (rd t776 x35_3)) := ⟨_, rfl⟩
              replace H : (impl_NarrowRules.l1 k3 y781 l0_2 (l0_2.length : Int) x25_2 t776 (t776.length : Int) (wrap64 (x35_3 + 1)) a0_0 l0_1 l0_2 ((rd_T32 l0_2 x25_2).f0) ((rd_T32 l0_2 x25_2).f1) ((rd_T32 l0_2 x25_2).f2)) = some r := by first | (rw [hy781]; with_reducible exact H) | (have H2_ := (Option.bind_some _ _).symm.trans H; rw [hy781]; with_reducible exact H2_) | (have H2_ := (Option.bind_some _ _).symm.trans H; with_reducible exact H2_) | with_reducible exact H | (rw [hy781]; exact H) | exact H
              have Ny781 := yam hy781
              clear hy781
              have H' := yam H
              clear H
              have p779 : 0 ≤ (x35_3 : Int) := of_decide_eq_true (by first | (with_reducible assumption) | assumption)
              have q779 : x35_3 < (t776.length : Int) := of_decide_eq_true (by first | (with_reducible assumption) | assumption)
              obtain ⟨ad779, e779, hx779_0⟩ := Kd.at_int (Kd.Yr HO_33.out).2.2 x35_3 p779 q779
              cases e779
              replace p779 := eq_true p779
              replace q779 := eq_true q779
              have hnb35 := NB775_768.out
              have hnc35 := NB768_775.out
              have hcz36_0 : wr.cell? ⟨gb775, 0, none⟩ = some (.int .i64 ((rd_T32 l0_2 x25_2).f0)) := (blk_cell BK775.out 0).trans rfl
              have hcz36_1 : wr.cell? ⟨gb775, 1, none⟩ = some (.slice A774_1 ((rd_T32 l0_2 x25_2).f1).length c774_1) := (blk_cell BK775.out 1).trans rfl
              have hcz36_2 : wr.cell? ⟨gb775, 2, none⟩ = some (.int .i64 ((rd_T32 l0_2 x25_2).f2)) := (blk_cell BK775.out 2).trans rfl
              have hfz36_0 := blk_frozen BK775.out 0
              have hfz36_1 := blk_frozen BK775.out 1
              have hfz36_2 := blk_frozen BK775.out 2
              have p780 : 0 ≤ (x35_3 : Int) := of_decide_eq_true (by first | (with_reducible assumption) | assumption)
              have q780 : x35_3 < (((rd_T32 l0_2 x25_2).f1).length : Int) := of_decide_eq_true (by first | (with_reducible assumption) | assumption)
              obtain ⟨ad780, e780, hx780_0⟩ := Kd.at_int HR774_1.out x35_3 p780 q780
              cases e780
              replace hx780_0 := (HB.out.cell (World.block_lt_of_cell? w _ hx780_0)).trans hx780_0
              replace p780 := eq_true p780
              replace q780 := eq_true q780
              have p34 : 0 ≤ ((rd ((rd_T32 l0_2 x25_2).f1) x35_3) : Int) := of_decide_eq_true (by first | (with_reducible assumption) | assumption)
              have q34 : ((rd ((rd_T32 l0_2 x25_2).f1) x35_3) : Int) < ((x5_3.length : Int) : Int) := of_decide_eq_true (by first | (with_reducible assumption) | assumption)
              obtain ⟨go34, co34, eo34, gb34, gl34, cl34, HG34⟩ := Kd.R_form HO_5.out (by omega)
              (first | cases eo34 | (injection eo34 with ea_ en_ ec_; (first | subst ea_ | (injection ea_ with ea_; subst ea_)); subst ec_; clear en_))
              have GB34 := yam gb34
              have GG34 := yam HG34
              clear gb34 gl34 HG34
              obtain ⟨hx34_0, hf34_0⟩ := Kd.R_celln 0 HO_5.out ((rd ((rd_T32 l0_2 x25_2).f1) x35_3) : Int) p34 q34
              replace p34 := eq_true p34
              replace q34 := eq_true q34
              have HP37 := Kd.R_putg HO_5.out ((rd ((rd_T32 l0_2 x25_2).f1) x35_3) : Int) (rd t776 x35_3)
              go_wp2_with (first | ((with_reducible refine gate_store (t := 3) (p := 47) rfl ?_); refine store_event (t := 3) (p := 47) (v := ?vo_w38) (w1 := (wr.setCell ⟨go34, ((rd ((rd_T32 l0_2 x25_2).f1) x35_3) : Int).toNat, none⟩ (.int .i64 (rd t776 x35_3)))) ?hg ?ho ?hn ?hr ?_; (case ho => rfl); (case hg => rfl); (case hn => rfl); (case hr => first | (go_simp; done) | (go_simp; rfl)); intro w38 hw; have hg : wr.grownBy w38 (some go34) := (by rw [hw]; exact HP37.2); have hp_ : Kd.R (Kd.int .i64) 3 w38 w.heap.size (fun k_ => some k_ ≠ (.slice (some ad779) t776.length co27 : Value).ownBlock) (.slice (some ⟨go34, 0, none⟩) x5_3.length co25) y781 := (by rw [hw, Ny781.out]; exact HP37.1); clear HP37; have n0_ := yam (hp_); have n1_ := yam (Kd.R_after (v := (.slice (some ⟨go34, 0, none⟩) x5_3.length co25)) (v1 := (.slice (some ⟨go34, 0, none⟩) x5_3.length co25)) (ok := (fun _ => True)) (by (with_reducible repeat (first | apply Kd.Ya | apply Kd.Yn | apply Kd.Yd)); exact Kd.R_mono HO_33.out (fun _ hk => ⟨trivial, hk⟩)) hg (.inl rfl)); have n2_ := yam (blk_grown (g := gb768) (o := .cells #[.int .i64 a0_0, .slice A0_1 l0_1.length c0_1, .slice (some ad774) l0_2.length c0_2] 43 (0, 0)) (ybz BK768.out) hg (Kd.R_ne HO_5.out BK768.out (by decide))); have n3_ := yam (blk_grown (g := gb775) (o := .cells #[.int .i64 ((rd_T32 l0_2 x25_2).f0), .slice (some ad780) ((rd_T32 l0_2 x25_2).f1).length c774_1, .int .i64 ((rd_T32 l0_2 x25_2).f2)] 32 (0, 0)) (ybz BK775.out) hg (Kd.R_ne HO_5.out BK775.out (by decide))); have n4_ := yam ((by rw [hw]; exact below_set (HB.out) GB34.out : Below w.heap.size w w38)); clear HO_5; clear HO_33; clear BK768; clear BK775; clear HB; have HO_5 := n0_; have HO_33 := n1_; have BK768 := n2_; have BK775 := n3_; have HB := n4_; clear n0_ n1_ n2_ n3_ n4_; clear hg hw hp_))
              (try simp only [← hl5_3])
              go_roundg k3
              case measure => have := HJ2.out; have := HK2.out; have := HK3.out; omega
              case rel => exact ⟨(y781), (wrap64 (x35_3 + 1)), (by first | rfl | (simp; done) | (simp [*]; done)), H', ⟨by have := HJ2.out; have := HK2.out; have := HK3.out; omega⟩, ⟨by (try simp only [hl5_3]); (with_reducible repeat (first | apply Kd.Ya | apply Kd.Yn | apply Kd.Yd)); exact HO_5.out⟩, ⟨by (try simp only [hl5_3]); (with_reducible repeat (first | apply Kd.Ya | apply Kd.Yn | apply Kd.Yd)); exact Kd.R_mono HO_33.out (fun _ hk => hk.2)⟩, ⟨by (try simp only [hl5_3]); (with_reducible repeat (first | refine ybn ?_ _ | refine ybd ?_ | refine yba ?_ _)); exact BK768.out⟩, ⟨by (try simp only [hl5_3]); (with_reducible repeat (first | refine ybn ?_ _ | refine ybd ?_ | refine yba ?_ _)); exact BK775.out⟩, ⟨by repeat (first | (with_reducible first | exact HB.out | apply yea | apply yen | apply yed | refine below_set ?_ GE768.out | refine below_set ?_ GE775.out) | exact HB.out)⟩⟩
end Go.Proofs.Ythfbjkniinfgcaa.P
namespace Go.Proofs.Ythfbjkniinfgcaa.P
open Go.RowKit Go.Proofs.YthfbjkniinfgcaaW.PrintWords Go.Proofs.YthfbjkniinfgcaaW.PrintLast Go.Proofs.YthfbjkniinfgcaaW.PrintMore
attribute [local go_sem] max2_int min2_int max_two min_two max_three min_three max_four min_four   -- for this text's walks alone
set_option linter.unusedVariables false
set_option linter.unusedSimpArgs false

/-! ### laws_FnExactNarrowRules: function 12 -/
def laws_FnExactNarrowRules.f (k : Nat) (a0_0 : Int) (l0_1 : List Int) (l0_2 : List S47) (l1 : List Int) : Option Bool := if (l1.length : Int) > 1048576 then some true else (laws_szPuzzle.f k a0_0 l0_1 l0_2 1048576).bind fun u104 => if u104 < 0 then some true else (laws_toPuzzle.f k a0_0 l0_1 l0_2).bind fun u105 => (laws_toIntS.f k l1).bind fun u106 => (spec_NarrowRules.f k u105.1 u105.2.1 u105.2.2 u106).bind fun u107 => (laws_toPuzzle.f k a0_0 l0_1 l0_2).bind fun u108 => (laws_toIntS.f k l1).bind fun u109 => (impl_NarrowRules.f k u108.1 u108.2.1 u108.2.2 u109).bind fun u110 => (laws_eqIntS.f k u110 u107).bind fun u111 => if u111 = true then (laws_toPuzzle.f k a0_0 l0_1 l0_2).bind fun u112 => (laws_eqPuzzle.f k u108.1 u108.2.1 u108.2.2 u112.1 u112.2.1 u112.2.2).bind fun u113 => if u113 = true then (laws_toIntS.f k l1).bind fun u114 => (laws_eqIntS.f k u109 u114).bind fun u115 => if u115 = true then (laws_markPuzzle.f k u108.1 u108.2.1 u108.2.2 1).bind fun u116 => (laws_markIntS.f k u109 u116.1).bind fun u117 => if u117.1 < 0 then some false else (laws_eqIntS.f k u110 u107).bind fun u118 => if u118 = true then (laws_markIntS.f k u110 1).bind fun u119 => (laws_heldIntS.f k u119.2 1).bind fun u120 => if u120 < 0 then some false else if (u120 != u119.1) = true then some false else (laws_toPuzzle.f k a0_0 l0_1 l0_2).bind fun u121 => (laws_toIntS.f k l1).bind fun u122 => (impl_NarrowRules.f k u121.1 u121.2.1 u121.2.2 u122).bind fun u123 => (laws_eqIntS.f k u123 u107).bind fun u124 => if u124 = true then (laws_heldIntS.f k u119.2 1).bind fun u125 => if u125 < 0 then some false else if (u125 != u119.1) = true then some false else some true else some false else some false else some false else some false else some false
set_option maxHeartbeats 8000000 in
set_option maxRecDepth 100000 in
theorem laws_FnExactNarrowRules.calls (k : Nat) (a0_0 : Int) (A0_1 : Option Addr) (c0_1 : Nat) (l0_1 : List Int) (A0_2 : Option Addr) (c0_2 : Nat) (l0_2 : List S47) (A1 : Option Addr) (c1 : Nat) (l1 : List Int) (_r : Bool) (w : World) (hr0_1 : Kd.C (Kd.int .i64) w A0_1 l0_1.length l0_1) (hc0_1 : l0_1.length ≤ c0_1) (hr0_2 : Kd.C k47 w A0_2 l0_2.length l0_2) (hc0_2 : l0_2.length ≤ c0_2) (hr1 : Kd.C (Kd.int .i64) w A1 l1.length l1) (hc1 : l1.length ≤ c1) (h : laws_FnExactNarrowRules.f k a0_0 l0_1 l0_2 l1 = some true) :
    Calls Try.prog 12 #[.agg #[.int .i64 a0_0, .slice A0_1 l0_1.length c0_1, .slice A0_2 l0_2.length c0_2], .slice A1 l1.length c1] w fun e w' => e = .returned (.bool true) ∧ Below w.heap.size w w' := by
  have HR0_1 := Aside0.mk hr0_1
  have HC0_1 := Aside0.mk hc0_1
  clear hr0_1 hc0_1
  have HR0_2 := Aside0.mk hr0_2
  have HC0_2 := Aside0.mk hc0_2
  clear hr0_2 hc0_2
  have HR1 := Aside0.mk hr1
  have HC1 := Aside0.mk hc1
  clear hr1 hc1
  have HB := Aside0.mk (Below.refl w.heap.size w)
  unfold laws_FnExactNarrowRules.f at h
  by_cases q1 : (l1.length : Int) > 1048576
  · clear h
    have b1 : decide (1048576 < (l1.length : Int)) = true := decide_eq_true q1
    have bb1 : decide (1048576 < l1.length) = true := decide_eq_true (by omega)
    clear q1
    go_enter Try.func12, Try.ntmps12
    go_wp2_with (first
      | ((with_reducible refine gate_dst (N := 2) rfl ?_); refine box_event ?hg (N := 2) ?hd (cs := #[.int .i64 a0_0, .slice A0_1 l0_1.length c0_1, .slice A0_2 l0_2.length c0_2]) (t := 38) ?hr ?_; (case hd => rfl); (case hg => rfl); (case hr => first | (go_simp; done) | (go_simp; rfl)); intro g1 hg w1_ hbox hb; have Bg1 := Aside0.mk hbox; have Gg1 := Aside0.mk (show w.heap.size ≤ g1 ∧ g1 < w1_.heap.size from ⟨Nat.le_of_eq hg.symm, blk_lt hbox⟩); have Zw1_ := Aside0.mk hb.size; replace HB := Aside0.mk (below_step HB.out hb); clear hb hbox hg))
    go_ret
    exact ⟨rfl, HB.out⟩
  rw [if_neg q1] at h
  have b1 : decide (1048576 < (l1.length : Int)) = false := decide_eq_false q1
  have bb1 : decide (1048576 < l1.length) = false := decide_eq_false (by omega)
  clear q1
  replace h := Option.bind_eq_some_iff.1 h
  obtain ⟨t3, e_, h⟩ := h
  try dsimp only at h
  have E2 := Aside0.mk e_
  clear e_
  by_cases q2 : t3 < 0
  · clear h
    have b2 := decide_eq_true q2
    clear q2
    go_enter Try.func12, Try.ntmps12
    go_wp2_with (first
      | ((with_reducible refine gate_dst (N := 2) rfl ?_); refine box_event ?hg (N := 2) ?hd (cs := #[.int .i64 a0_0, .slice A0_1 l0_1.length c0_1, .slice A0_2 l0_2.length c0_2]) (t := 38) ?hr ?_; (case hd => rfl); (case hg => rfl); (case hr => first | (go_simp; done) | (go_simp; rfl)); intro g1 hg w1_ hbox hb; have Bg1 := Aside0.mk hbox; have Gg1 := Aside0.mk (show w.heap.size ≤ g1 ∧ g1 < w1_.heap.size from ⟨Nat.le_of_eq hg.symm, blk_lt hbox⟩); have Zw1_ := Aside0.mk hb.size; replace HB := Aside0.mk (below_step HB.out hb); have hzg1_0 : w1_.cell? ⟨g1, 0, none⟩ = some (.int .i64 a0_0) := (blk_cell Bg1.out 0).trans rfl; have hzg1_1 : w1_.cell? ⟨g1, 1, none⟩ = some (.slice A0_1 l0_1.length c0_1) := (blk_cell Bg1.out 1).trans rfl; have hzg1_2 : w1_.cell? ⟨g1, 2, none⟩ = some (.slice A0_2 l0_2.length c0_2) := (blk_cell Bg1.out 2).trans rfl; clear hb hbox hg)
      | ((with_reducible refine gate_callee (f := 25) rfl ?_); refine goesL_ (some 19) rfl rfl Try.func25 (by kernel_rfl) rfl #[.agg #[.int .i64 a0_0, .slice A0_1 l0_1.length c0_1, .slice A0_2 l0_2.length c0_2], .int .i64 1048576] rfl (by (try simp only [List.map_toArray, List.map_cons, List.map_nil]); first | done | rfl) ?_; (with_reducible refine (laws_szPuzzle.calls k a0_0 _ _ l0_1 _ _ l0_2 1048576 t3 _ (Kd.C_below HR0_1.out HB.out) HC0_1.out (Kd.C_below HR0_2.out HB.out) HC0_2.out E2.out).mono ?_); rintro e w2_ ⟨rfl, hb⟩; refine ⟨_, rfl, ?_⟩; clear Bg1; have Zw2_ := Aside0.mk hb.size; replace HB := Aside0.mk (below_step HB.out hb); clear hb; clear hzg1_0; clear hzg1_1; clear hzg1_2; skip))
    go_ret
    exact ⟨rfl, HB.out⟩
  rw [if_neg q2] at h
  have b2 := decide_eq_false q2
  clear q2
  replace h := Option.bind_eq_some_iff.1 h
  obtain ⟨⟨t5, t6, t10⟩, e_, h⟩ := h
  try dsimp only at h
  have E4 := Aside0.mk e_
  clear e_
  replace h := Option.bind_eq_some_iff.1 h
  obtain ⟨t15, e_, h⟩ := h
  try dsimp only at h
  have E14 := Aside0.mk e_
  clear e_
  replace h := Option.bind_eq_some_iff.1 h
  obtain ⟨t20, e_, h⟩ := h
  try dsimp only at h
  have E19 := Aside0.mk e_
  clear e_
  replace h := Option.bind_eq_some_iff.1 h
  obtain ⟨⟨t25, t26, t30⟩, e_, h⟩ := h
  try dsimp only at h
  have E24 := Aside0.mk e_
  clear e_
  replace h := Option.bind_eq_some_iff.1 h
  obtain ⟨t36, e_, h⟩ := h
  try dsimp only at h
  have E35 := Aside0.mk e_
  clear e_
  replace h := Option.bind_eq_some_iff.1 h
  obtain ⟨t41, e_, h⟩ := h
  try dsimp only at h
  have E40 := Aside0.mk e_
  clear e_
  replace h := Option.bind_eq_some_iff.1 h
  obtain ⟨t46, e_, h⟩ := h
  try dsimp only at h
  have E45 := Aside0.mk e_
  clear e_
  by_cases q3 : t46 = true
  rotate_left
  · rw [if_neg q3] at h
    exact absurd h (by decide)
  rw [if_pos q3] at h
  subst q3
  replace h := Option.bind_eq_some_iff.1 h
  obtain ⟨⟨t48, t49, t53⟩, e_, h⟩ := h
  try dsimp only at h
  have E47 := Aside0.mk e_
  clear e_
  replace h := Option.bind_eq_some_iff.1 h
  obtain ⟨t58, e_, h⟩ := h
  try dsimp only at h
  have E57 := Aside0.mk e_
  clear e_
  by_cases q4 : t58 = true
  rotate_left
  · rw [if_neg q4] at h
    exact absurd h (by decide)
  rw [if_pos q4] at h
  subst q4
  replace h := Option.bind_eq_some_iff.1 h
  obtain ⟨t60, e_, h⟩ := h
  try dsimp only at h
  have E59 := Aside0.mk e_
  clear e_
  replace h := Option.bind_eq_some_iff.1 h
  obtain ⟨t65, e_, h⟩ := h
  try dsimp only at h
  have E64 := Aside0.mk e_
  clear e_
  by_cases q5 : t65 = true
  rotate_left
  · rw [if_neg q5] at h
    exact absurd h (by decide)
  rw [if_pos q5] at h
  subst q5
  replace h := Option.bind_eq_some_iff.1 h
  obtain ⟨⟨t67, t68, t69⟩, e_, h⟩ := h
  try dsimp only at h
  have E66 := Aside0.mk e_
  clear e_
  replace h := Option.bind_eq_some_iff.1 h
  obtain ⟨⟨t71, t72⟩, e_, h⟩ := h
  try dsimp only at h
  have E70 := Aside0.mk e_
  clear e_
  by_cases q6 : t71 < 0
  · rw [if_pos q6] at h
    exact absurd h (by decide)
  rw [if_neg q6] at h
  have b6 := decide_eq_false q6
  clear q6
  replace h := Option.bind_eq_some_iff.1 h
  obtain ⟨t74, e_, h⟩ := h
  try dsimp only at h
  have E73 := Aside0.mk e_
  clear e_
  by_cases q7 : t74 = true
  rotate_left
  · rw [if_neg q7] at h
    exact absurd h (by decide)
  rw [if_pos q7] at h
  subst q7
  replace h := Option.bind_eq_some_iff.1 h
  obtain ⟨⟨t76, t77⟩, e_, h⟩ := h
  try dsimp only at h
  have E75 := Aside0.mk e_
  clear e_
  replace h := Option.bind_eq_some_iff.1 h
  obtain ⟨t79, e_, h⟩ := h
  try dsimp only at h
  have E78 := Aside0.mk e_
  clear e_
  by_cases q8 : t79 < 0
  · rw [if_pos q8] at h
    exact absurd h (by decide)
  rw [if_neg q8] at h
  have b8 := decide_eq_false q8
  clear q8
  by_cases q9 : (t79 != t76) = true
  · rw [if_pos q9] at h
    exact absurd h (by decide)
  rw [if_neg q9] at h
  have b9 : (t79 != t76) = false := by simpa using q9
  have bb9 : t79 = t76 := by simpa using q9
  clear q9
  have bc9 := Aside0.mk bb9
  clear bb9
  replace h := Option.bind_eq_some_iff.1 h
  obtain ⟨⟨t81, t82, t86⟩, e_, h⟩ := h
  try dsimp only at h
  have E80 := Aside0.mk e_
  clear e_
  replace h := Option.bind_eq_some_iff.1 h
  obtain ⟨t91, e_, h⟩ := h
  try dsimp only at h
  have E90 := Aside0.mk e_
  clear e_
  replace h := Option.bind_eq_some_iff.1 h
  obtain ⟨t96, e_, h⟩ := h
  try dsimp only at h
  have E95 := Aside0.mk e_
  clear e_
  replace h := Option.bind_eq_some_iff.1 h
  obtain ⟨t101, e_, h⟩ := h
  try dsimp only at h
  have E100 := Aside0.mk e_
  clear e_
  by_cases q10 : t101 = true
  rotate_left
  · rw [if_neg q10] at h
    exact absurd h (by decide)
  rw [if_pos q10] at h
  subst q10
  replace h := Option.bind_eq_some_iff.1 h
  obtain ⟨t103, e_, h⟩ := h
  try dsimp only at h
  have E102 := Aside0.mk e_
  clear e_
  by_cases q11 : t103 < 0
  · rw [if_pos q11] at h
    exact absurd h (by decide)
  rw [if_neg q11] at h
  have b11 := decide_eq_false q11
  clear q11
  by_cases q12 : (t103 != t76) = true
  · rw [if_pos q12] at h
    exact absurd h (by decide)
  rw [if_neg q12] at h
  have b12 : (t103 != t76) = false := by simpa using q12
  have bb12 : t103 = t76 := by simpa using q12
  clear q12
  have bc12 := Aside0.mk bb12
  clear bb12
  clear h
  go_enter Try.func12, Try.ntmps12
  go_wp2_with (first
    | ((with_reducible refine gate_dst (N := 2) rfl ?_); refine box_event ?hg (N := 2) ?hd (cs := #[.int .i64 a0_0, .slice A0_1 l0_1.length c0_1, .slice A0_2 l0_2.length c0_2]) (t := 38) ?hr ?_; (case hd => rfl); (case hg => rfl); (case hr => first | (go_simp; done) | (go_simp; rfl)); intro g1 hg w1_ hbox hb; have Bg1 := Aside0.mk hbox; have Gg1 := Aside0.mk (show w.heap.size ≤ g1 ∧ g1 < w1_.heap.size from ⟨Nat.le_of_eq hg.symm, blk_lt hbox⟩); have Zw1_ := Aside0.mk hb.size; replace HB := Aside0.mk (below_step HB.out hb); have hzg1_0 : w1_.cell? ⟨g1, 0, none⟩ = some (.int .i64 a0_0) := (blk_cell Bg1.out 0).trans rfl; have hzg1_1 : w1_.cell? ⟨g1, 1, none⟩ = some (.slice A0_1 l0_1.length c0_1) := (blk_cell Bg1.out 1).trans rfl; have hzg1_2 : w1_.cell? ⟨g1, 2, none⟩ = some (.slice A0_2 l0_2.length c0_2) := (blk_cell Bg1.out 2).trans rfl; clear hb hbox hg)
    | ((with_reducible refine gate_callee (f := 25) rfl ?_); refine goesL_ (some 19) rfl rfl Try.func25 (by kernel_rfl) rfl #[.agg #[.int .i64 a0_0, .slice A0_1 l0_1.length c0_1, .slice A0_2 l0_2.length c0_2], .int .i64 1048576] rfl (by (try simp only [List.map_toArray, List.map_cons, List.map_nil]); first | done | rfl) ?_; (with_reducible refine (laws_szPuzzle.calls k a0_0 _ _ l0_1 _ _ l0_2 1048576 t3 _ (Kd.C_below HR0_1.out HB.out) HC0_1.out (Kd.C_below HR0_2.out HB.out) HC0_2.out E2.out).mono ?_); rintro e w2_ ⟨rfl, hb⟩; refine ⟨_, rfl, ?_⟩; replace Bg1 := Aside0.mk (blk_below Bg1.out hb); have Zw2_ := Aside0.mk hb.size; replace HB := Aside0.mk (below_step HB.out hb); clear hb; clear hzg1_0; clear hzg1_1; clear hzg1_2; have hzg1_0 : w2_.cell? ⟨g1, 0, none⟩ = some (.int .i64 a0_0) := (blk_cell Bg1.out 0).trans rfl; have hzg1_1 : w2_.cell? ⟨g1, 1, none⟩ = some (.slice A0_1 l0_1.length c0_1) := (blk_cell Bg1.out 1).trans rfl; have hzg1_2 : w2_.cell? ⟨g1, 2, none⟩ = some (.slice A0_2 l0_2.length c0_2) := (blk_cell Bg1.out 2).trans rfl; skip)
    | ((with_reducible refine gate_callee (f := 27) rfl ?_); refine goesL_ (some 23) rfl rfl Try.func27 (by kernel_rfl) rfl #[.agg #[.int .i64 a0_0, .slice A0_1 l0_1.length c0_1, .slice A0_2 l0_2.length c0_2]] rfl (by (try simp only [List.map_toArray, List.map_cons, List.map_nil]); first | done | rfl) ?_; (with_reducible refine (laws_toPuzzle.calls k a0_0 _ _ l0_1 _ _ l0_2 t5 t6 t10 _ (Kd.C_below HR0_1.out HB.out) HC0_1.out (Kd.C_below HR0_2.out HB.out) HC0_2.out E4.out).mono ?_); rintro e w3_ ⟨v0_, v1_, rfl, ho0_, ho1_, hb⟩; refine ⟨_, rfl, ?_⟩; replace Bg1 := Aside0.mk (blk_below Bg1.out hb); have O7 := Aside0.mk (Kd.R_born ho0_ (below_size HB.out)); obtain ⟨A8, c9, e_⟩ := Kd.R_slice O7.out; subst e_; have O11 := Aside0.mk (Kd.S_born ho1_ (below_size HB.out)); obtain ⟨A12, c13, e_⟩ := Kd.S_slice O11.out; subst e_; have Zw3_ := Aside0.mk hb.size; replace HB := Aside0.mk (below_step HB.out hb); clear hb ho0_ ho1_; clear hzg1_0; clear hzg1_1; clear hzg1_2; have hzg1_0 : w3_.cell? ⟨g1, 0, none⟩ = some (.int .i64 a0_0) := (blk_cell Bg1.out 0).trans rfl; have hzg1_1 : w3_.cell? ⟨g1, 1, none⟩ = some (.slice A0_1 l0_1.length c0_1) := (blk_cell Bg1.out 1).trans rfl; have hzg1_2 : w3_.cell? ⟨g1, 2, none⟩ = some (.slice A0_2 l0_2.length c0_2) := (blk_cell Bg1.out 2).trans rfl; skip)
    | ((with_reducible refine gate_callee (f := 33) rfl ?_); refine goesL_ (some 25) rfl rfl Try.func33 (by kernel_rfl) rfl #[.slice A1 l1.length c1] rfl (by (try simp only [List.map_toArray, List.map_cons, List.map_nil]); first | done | rfl) ?_; (with_reducible refine (laws_toIntS.calls k _ _ l1 t15 _ (Kd.C_below HR1.out HB.out) HC1.out E14.out).mono ?_); rintro e w4_ ⟨v0_, rfl, ho0_, hb⟩; refine ⟨_, rfl, ?_⟩; replace O7 := Aside0.mk (Kd.R_below O7.out hb); replace O11 := Aside0.mk (Kd.S_below O11.out hb); replace Bg1 := Aside0.mk (blk_below Bg1.out hb); have O16 := Aside0.mk (Kd.R_born ho0_ (below_size HB.out)); obtain ⟨A17, c18, e_⟩ := Kd.R_slice O16.out; subst e_; have Zw4_ := Aside0.mk hb.size; replace HB := Aside0.mk (below_step HB.out hb); clear hb ho0_; clear hzg1_0; clear hzg1_1; clear hzg1_2; have hzg1_0 : w4_.cell? ⟨g1, 0, none⟩ = some (.int .i64 a0_0) := (blk_cell Bg1.out 0).trans rfl; have hzg1_1 : w4_.cell? ⟨g1, 1, none⟩ = some (.slice A0_1 l0_1.length c0_1) := (blk_cell Bg1.out 1).trans rfl; have hzg1_2 : w4_.cell? ⟨g1, 2, none⟩ = some (.slice A0_2 l0_2.length c0_2) := (blk_cell Bg1.out 2).trans rfl; skip)
    | ((with_reducible refine gate_callee (f := 52) rfl ?_); refine goesL_ (some 26) rfl rfl Try.func52 (by kernel_rfl) rfl #[.agg #[.int .i64 t5, .slice A8 t6.length c9, .slice A12 t10.length c13], .slice A17 t15.length c18] rfl (by (try simp only [List.map_toArray, List.map_cons, List.map_nil]); first | done | rfl) ?_; (with_reducible refine (spec_NarrowRules.calls k t5 _ _ t6 _ _ t10 _ _ t15 t20 _ (Kd.R_reads' O7.out).2.2 (Kd.R_reads' O7.out).2.1 (Kd.R_reads' (Kd.S_R O11.out)).2.2 (Kd.R_reads' (Kd.S_R O11.out)).2.1 (Kd.R_reads' O16.out).2.2 (Kd.R_reads' O16.out).2.1 E19.out).mono ?_); rintro e w5_ ⟨v0_, rfl, ho0_, hb⟩; refine ⟨_, rfl, ?_⟩; replace Bg1 := Aside0.mk (blk_below Bg1.out hb); clear O7; clear O11; clear O16; have O21 := Aside0.mk (Kd.R_born ho0_ (below_size HB.out)); obtain ⟨A22, c23, e_⟩ := Kd.R_slice O21.out; subst e_; have Zw5_ := Aside0.mk hb.size; replace HB := Aside0.mk (below_step HB.out hb); clear hb ho0_; clear hzg1_0; clear hzg1_1; clear hzg1_2; have hzg1_0 : w5_.cell? ⟨g1, 0, none⟩ = some (.int .i64 a0_0) := (blk_cell Bg1.out 0).trans rfl; have hzg1_1 : w5_.cell? ⟨g1, 1, none⟩ = some (.slice A0_1 l0_1.length c0_1) := (blk_cell Bg1.out 1).trans rfl; have hzg1_2 : w5_.cell? ⟨g1, 2, none⟩ = some (.slice A0_2 l0_2.length c0_2) := (blk_cell Bg1.out 2).trans rfl; skip)
    | ((with_reducible refine gate_callee (f := 27) rfl ?_); refine goesL_ (some 28) rfl rfl Try.func27 (by kernel_rfl) rfl #[.agg #[.int .i64 a0_0, .slice A0_1 l0_1.length c0_1, .slice A0_2 l0_2.length c0_2]] rfl (by (try simp only [List.map_toArray, List.map_cons, List.map_nil]); first | done | rfl) ?_; (with_reducible refine (laws_toPuzzle.calls k a0_0 _ _ l0_1 _ _ l0_2 t25 t26 t30 _ (Kd.C_below HR0_1.out HB.out) HC0_1.out (Kd.C_below HR0_2.out HB.out) HC0_2.out E24.out).mono ?_); rintro e w6_ ⟨v0_, v1_, rfl, ho0_, ho1_, hb⟩; refine ⟨_, rfl, ?_⟩; replace O21 := Aside0.mk (Kd.R_below O21.out hb); replace Bg1 := Aside0.mk (blk_below Bg1.out hb); have O27 := Aside0.mk (Kd.R_born ho0_ (below_size HB.out)); obtain ⟨A28, c29, e_⟩ := Kd.R_slice O27.out; subst e_; have O31 := Aside0.mk (Kd.S_born ho1_ (below_size HB.out)); obtain ⟨A32, c33, e_⟩ := Kd.S_slice O31.out; subst e_; have Zw6_ := Aside0.mk hb.size; replace HB := Aside0.mk (below_step HB.out hb); clear hb ho0_ ho1_; clear hzg1_0; clear hzg1_1; clear hzg1_2; skip)
    | ((with_reducible refine gate_dst (N := 7) rfl ?_); refine box_event ?hg (N := 7) ?hd (cs := #[.int .i64 0, .slice none 0 0, .slice none 0 0]) (t := 43) ?hr ?_; (case hd => rfl); (case hg => rfl); (case hr => first | (go_simp; done) | (go_simp; rfl)); intro g34 hg w7_ hbox hb; replace O21 := Aside0.mk (Kd.R_below O21.out hb); replace O27 := Aside0.mk (Kd.R_below O27.out hb); replace O31 := Aside0.mk (Kd.S_below O31.out hb); replace Bg1 := Aside0.mk (blk_below Bg1.out hb); have Bg34 := Aside0.mk hbox; have Gg34 := Aside0.mk (show w6_.heap.size ≤ g34 ∧ g34 < w7_.heap.size from ⟨Nat.le_of_eq hg.symm, blk_lt hbox⟩); have Zw7_ := Aside0.mk hb.size; have Lg34 := Aside0.mk (show w.heap.size ≤ g34 from Nat.le_trans (below_size HB.out) (Nat.le_of_eq hg.symm)); replace HB := Aside0.mk (below_step HB.out hb); have hzg34_0 : w7_.cell? ⟨g34, 0, none⟩ = some (.int .i64 0) := (blk_cell Bg34.out 0).trans rfl; have hzg34_1 : w7_.cell? ⟨g34, 1, none⟩ = some (.slice none 0 0) := (blk_cell Bg34.out 1).trans rfl; have hzg34_2 : w7_.cell? ⟨g34, 2, none⟩ = some (.slice none 0 0) := (blk_cell Bg34.out 2).trans rfl; have hzfg34_0 := blk_frozen Bg34.out 0; have hzfg34_1 := blk_frozen Bg34.out 1; have hzfg34_2 := blk_frozen Bg34.out 2; clear hb hbox hg)
    | ((with_reducible refine gate_store (t := 43) (p := 7) rfl ?_); refine store_event (t := 43) (p := 7) (v := ?vog34) (w1 := ((w7_.setCell ⟨g34, 0, none⟩ (.int .i64 t25)).setCell ⟨g34, 1, none⟩ (.slice A28 t26.length c29)).setCell ⟨g34, 2, none⟩ (.slice A32 t30.length c33)) ?hg ?ho ?hn ?hr ?_; (case ho => rfl); (case hg => rfl); (case hn => rfl); (case hr => first | (go_simp; done) | (go_simp; rfl)); intro w8_ hw; have hk : Kept w7_ w8_ (fun k_ => k_ = g34) := (by rw [hw]; exact box3_kept _ _ _ _ _); have hx : w8_.heap[g34]? = some (.cells #[.int .i64 t25, .slice A28 t26.length c29, .slice A32 t30.length c33] 43 (0, 0)) := (by rw [hw]; exact box3_blk Bg34.out _ _ _); have hb : Below w.heap.size w w8_ := (by rw [hw]; exact box3_below HB.out Lg34.out _ _ _); clear hw; replace O21 := Aside0.mk (Kd.R_kept O21.out hk (fun k_ h_ s_ => by have hx_ := Gg34.out; have hy_ := h_.1; have hz_ := s_; have := Zw1_.out; have := Zw2_.out; have := Zw3_.out; have := Zw4_.out; have := Zw5_.out; have := Zw6_.out; have := Zw7_.out; omega)); replace O27 := Aside0.mk (Kd.R_kept O27.out hk (fun k_ h_ s_ => by have hx_ := Gg34.out; have hy_ := h_.1; have hz_ := s_; have := Zw1_.out; have := Zw2_.out; have := Zw3_.out; have := Zw4_.out; have := Zw5_.out; have := Zw6_.out; have := Zw7_.out; omega)); replace O31 := Aside0.mk (Kd.S_kept O31.out hk (fun k_ h_ s_ => by have hx_ := Gg34.out; have hy_ := h_.1; have hz_ := s_; have := Zw1_.out; have := Zw2_.out; have := Zw3_.out; have := Zw4_.out; have := Zw5_.out; have := Zw6_.out; have := Zw7_.out; omega)); replace Bg1 := Aside0.mk (blk_kept Bg1.out hk (fun s_ => by have hx_ := Gg34.out; have hy_ := Gg1.out; have hz_ := s_; have := Zw1_.out; have := Zw2_.out; have := Zw3_.out; have := Zw4_.out; have := Zw5_.out; have := Zw6_.out; have := Zw7_.out; omega)); replace Bg34 := Aside0.mk hx; have Zw8_ := Aside0.mk hk.1; replace HB := Aside0.mk hb; clear hzfg34_0; clear hzfg34_1; clear hzfg34_2; clear hzg34_0; clear hzg34_1; clear hzg34_2; have hzg34_0 : w8_.cell? ⟨g34, 0, none⟩ = some (.int .i64 t25) := (blk_cell Bg34.out 0).trans rfl; have hzg34_1 : w8_.cell? ⟨g34, 1, none⟩ = some (.slice A28 t26.length c29) := (blk_cell Bg34.out 1).trans rfl; have hzg34_2 : w8_.cell? ⟨g34, 2, none⟩ = some (.slice A32 t30.length c33) := (blk_cell Bg34.out 2).trans rfl; clear hk hx hb)
    | ((with_reducible refine gate_callee (f := 33) rfl ?_); refine goesL_ (some 30) rfl rfl Try.func33 (by kernel_rfl) rfl #[.slice A1 l1.length c1] rfl (by (try simp only [List.map_toArray, List.map_cons, List.map_nil]); first | done | rfl) ?_; (with_reducible refine (laws_toIntS.calls k _ _ l1 t36 _ (Kd.C_below HR1.out HB.out) HC1.out E35.out).mono ?_); rintro e w9_ ⟨v0_, rfl, ho0_, hb⟩; refine ⟨_, rfl, ?_⟩; replace O21 := Aside0.mk (Kd.R_below O21.out hb); replace O27 := Aside0.mk (Kd.R_below O27.out hb); replace O31 := Aside0.mk (Kd.S_below O31.out hb); replace Bg1 := Aside0.mk (blk_below Bg1.out hb); replace Bg34 := Aside0.mk (blk_below Bg34.out hb); have O37 := Aside0.mk (Kd.R_born ho0_ (below_size HB.out)); obtain ⟨A38, c39, e_⟩ := Kd.R_slice O37.out; subst e_; have Zw9_ := Aside0.mk hb.size; replace HB := Aside0.mk (below_step HB.out hb); clear hb ho0_; clear hzg34_0; clear hzg34_1; clear hzg34_2; have hzg34_0 : w9_.cell? ⟨g34, 0, none⟩ = some (.int .i64 t25) := (blk_cell Bg34.out 0).trans rfl; have hzg34_1 : w9_.cell? ⟨g34, 1, none⟩ = some (.slice A28 t26.length c29) := (blk_cell Bg34.out 1).trans rfl; have hzg34_2 : w9_.cell? ⟨g34, 2, none⟩ = some (.slice A32 t30.length c33) := (blk_cell Bg34.out 2).trans rfl; skip)
    | ((with_reducible refine gate_callee (f := 53) rfl ?_); refine goesL_ (some 33) rfl rfl Try.func53 (by kernel_rfl) rfl #[.agg #[.int .i64 t25, .slice A28 t26.length c29, .slice A32 t30.length c33], .slice A38 t36.length c39] rfl (by (try simp only [List.map_toArray, List.map_cons, List.map_nil]); first | done | rfl) ?_; (with_reducible refine (impl_NarrowRules.calls k t25 _ _ t26 _ _ t30 _ _ t36 t41 _ (Kd.R_reads' O27.out).2.2 (Kd.R_reads' O27.out).2.1 (Kd.R_reads' (Kd.S_R O31.out)).2.2 (Kd.R_reads' (Kd.S_R O31.out)).2.1 (Kd.R_reads' O37.out).2.2 (Kd.R_reads' O37.out).2.1 E40.out).mono ?_); rintro e w10_ ⟨v0_, rfl, ho0_, hb⟩; refine ⟨_, rfl, ?_⟩; replace O21 := Aside0.mk (Kd.R_below O21.out hb); replace O27 := Aside0.mk (Kd.R_below O27.out hb); replace O31 := Aside0.mk (Kd.S_below O31.out hb); replace O37 := Aside0.mk (Kd.R_below O37.out hb); replace Bg1 := Aside0.mk (blk_below Bg1.out hb); replace Bg34 := Aside0.mk (blk_below Bg34.out hb); have O42 := Aside0.mk (Kd.R_born ho0_ (below_size HB.out)); obtain ⟨A43, c44, e_⟩ := Kd.R_slice O42.out; subst e_; have Zw10_ := Aside0.mk hb.size; replace HB := Aside0.mk (below_step HB.out hb); clear hb ho0_; clear hzg34_0; clear hzg34_1; clear hzg34_2; skip)
    | ((with_reducible refine gate_callee (f := 35) rfl ?_); refine goesL_ (some 36) rfl rfl Try.func35 (by kernel_rfl) rfl #[.slice A43 t41.length c44, .slice A22 t20.length c23] rfl (by (try simp only [List.map_toArray, List.map_cons, List.map_nil]); first | done | rfl) ?_; (with_reducible refine (laws_eqIntS.calls k _ _ t41 _ _ t20 true _ (Kd.R_reads' O42.out).2.2 (Kd.R_reads' O42.out).2.1 (Kd.R_reads' O21.out).2.2 (Kd.R_reads' O21.out).2.1 E45.out).mono ?_); rintro e w11_ ⟨rfl, hd⟩; refine ⟨_, rfl, ?_⟩; have hb := hd.below; clear hd; replace O21 := Aside0.mk (Kd.R_below O21.out hb); replace O27 := Aside0.mk (Kd.R_below O27.out hb); replace O31 := Aside0.mk (Kd.S_below O31.out hb); replace O37 := Aside0.mk (Kd.R_below O37.out hb); replace O42 := Aside0.mk (Kd.R_below O42.out hb); replace Bg1 := Aside0.mk (blk_below Bg1.out hb); replace Bg34 := Aside0.mk (blk_below Bg34.out hb); have Zw11_ := Aside0.mk hb.size; replace HB := Aside0.mk (below_step HB.out hb); clear hb; skip))
  refine start_ (n := 5) (S := fun w' => w'.cell? ⟨g34, 0, none⟩ = some (.int .i64 t25) ∧ w'.cell? ⟨g34, 1, none⟩ = some (.slice A28 t26.length c29) ∧ w'.cell? ⟨g34, 2, none⟩ = some (.slice A32 t30.length c33) ∧ w'.cell? ⟨g1, 0, none⟩ = some (.int .i64 a0_0) ∧ w'.cell? ⟨g1, 1, none⟩ = some (.slice A0_1 l0_1.length c0_1) ∧ w'.cell? ⟨g1, 2, none⟩ = some (.slice A0_2 l0_2.length c0_2)) (ds := []) #[false, false, false, false, false] (by kernel_rfl) rfl rfl ⟨(blk_cell Bg34.out 0).trans rfl, (blk_cell Bg34.out 1).trans rfl, (blk_cell Bg34.out 2).trans rfl, (blk_cell Bg1.out 0).trans rfl, (blk_cell Bg1.out 1).trans rfl, (blk_cell Bg1.out 2).trans rfl⟩ (fun hHeld => ?_)
  replace O21 := Aside0.mk (Kd.R_drew O21.out)
  replace O27 := Aside0.mk (Kd.R_drew O27.out)
  replace O31 := Aside0.mk (Kd.S_drew O31.out)
  replace O37 := Aside0.mk (Kd.R_drew O37.out)
  replace O42 := Aside0.mk (Kd.R_drew O42.out)
  have HB_ := Aside0.mk (show Below w.heap.size w w11_.drew from below_drew HB.out)
  have hdz_ := Aside0.mk (show w11_.heap.size ≤ w11_.drew.heap.size from Nat.le_refl _)
  clear HB
  have HB := HB_
  clear HB_
  have n_ := Aside0.mk (show w11_.drew.heap[g1]? = _ from Bg1.out)
  clear Bg1
  have Bg1 := n_
  clear n_
  have n_ := Aside0.mk (show w11_.drew.heap[g34]? = _ from Bg34.out)
  clear Bg34
  have Bg34 := n_
  clear n_
  generalize w11_.drew = w12_ at hHeld HB hdz_ O21 O27 O31 O37 O42 Bg1 Bg34 ⊢
  have Zw12_ := hdz_
  clear hdz_
  refine take_ (i := 0) (N := some 38) (v := ?_) (a' := ?_) #[true, false, false, false, false] rfl rfl (by kernel_rfl) (fun _ _ _ h => h) (Or.inl ⟨by rfl, ?_⟩) hHeld ?_ ?_
  rotate_left
  · rintro w' ⟨s0, s1, s2, s3, s4, s5⟩
    go_simp
    with_reducible rfl
  rotate_left
  · simp only [Act.put, yps, i64_w, i32_w]
    rfl
  refine take_ (i := 1) (N := some 39) (v := ?_) (a' := ?_) #[true, true, false, false, false] rfl rfl (by kernel_rfl) (fun _ _ _ h => h) (Or.inl ⟨by rfl, ?_⟩) hHeld ?_ ?_
  rotate_left
  · rintro w' ⟨s0, s1, s2, s3, s4, s5⟩
    go_simp
    with_reducible rfl
  rotate_left
  · simp only [Act.put, yps, i64_w, i32_w]
    rfl
  refine one_ (i := 2) (N := some 40) #[true, true, true, false, false] rfl rfl (by kernel_rfl) (by decide) (fun K hK => ?_)
  refine goes_ Try.func27 (by kernel_rfl) rfl #[.agg #[.int .i64 a0_0, .slice A0_1 l0_1.length c0_1, .slice A0_2 l0_2.length c0_2]] (by rfl) rfl rfl (by (try simp only [List.map_toArray, List.map_cons, List.map_nil]); first | done | rfl) ?_
  with_reducible refine (laws_toPuzzle.calls k a0_0 _ _ l0_1 _ _ l0_2 t48 t49 t53 _ (Kd.C_below HR0_1.out HB.out) HC0_1.out (Kd.C_below HR0_2.out HB.out) HC0_2.out E47.out).mono ?_
  rintro e w13_ ⟨v0_, v1_, rfl, ho0_, ho1_, hb⟩
  refine ⟨_, rfl, ?_⟩
  replace O21 := Aside0.mk (Kd.R_below O21.out hb)
  replace O27 := Aside0.mk (Kd.R_below O27.out hb)
  replace O31 := Aside0.mk (Kd.S_below O31.out hb)
  replace O37 := Aside0.mk (Kd.R_below O37.out hb)
  replace O42 := Aside0.mk (Kd.R_below O42.out hb)
  replace Bg1 := Aside0.mk (blk_below Bg1.out hb)
  replace Bg34 := Aside0.mk (blk_below Bg34.out hb)
  have O50 := Aside0.mk (Kd.R_born ho0_ (below_size HB.out))
  obtain ⟨A51, c52, e_⟩ := Kd.R_slice O50.out
  subst e_
  have O54 := Aside0.mk (Kd.S_born ho1_ (below_size HB.out))
  obtain ⟨A55, c56, e_⟩ := Kd.S_slice O54.out
  subst e_
  have Zw13_ := Aside0.mk hb.size
  replace HB := Aside0.mk (below_step HB.out hb)
  clear hb ho0_ ho1_
  refine hK.out _ _ ⟨(blk_cell Bg34.out 0).trans rfl, (blk_cell Bg34.out 1).trans rfl, (blk_cell Bg34.out 2).trans rfl, (blk_cell Bg1.out 0).trans rfl, (blk_cell Bg1.out 1).trans rfl, (blk_cell Bg1.out 2).trans rfl⟩ (fun hHeld => ?_)
  clear hK K
  refine norm_ (a' := ?_) ?_ ?_
  rotate_left
  · show Act.put _ (some 40) _ = _
    simp only [Act.put, yps, i64_w, i32_w]
    rfl
  refine one_ (i := 3) (N := some 41) #[true, true, true, true, false] rfl rfl (by kernel_rfl) (by decide) (fun K hK => ?_)
  refine goes_ Try.func29 (by kernel_rfl) rfl #[.agg #[.int .i64 t25, .slice A28 t26.length c29, .slice A32 t30.length c33], .agg #[.int .i64 t48, .slice A51 t49.length c52, .slice A55 t53.length c56]] (by rfl) rfl rfl (by (try simp only [List.map_toArray, List.map_cons, List.map_nil]); first | done | rfl) ?_
  with_reducible refine (laws_eqPuzzle.calls k t25 _ _ t26 _ _ t30 t48 _ _ t49 _ _ t53 true _ (Kd.R_reads' O27.out).2.2 (Kd.R_reads' O27.out).2.1 (Kd.R_reads' (Kd.S_R O31.out)).2.2 (Kd.R_reads' (Kd.S_R O31.out)).2.1 (Kd.R_reads' O50.out).2.2 (Kd.R_reads' O50.out).2.1 (Kd.R_reads' (Kd.S_R O54.out)).2.2 (Kd.R_reads' (Kd.S_R O54.out)).2.1 E57.out).mono ?_
  rintro e w14_ ⟨rfl, hb⟩
  refine ⟨_, rfl, ?_⟩
  replace O21 := Aside0.mk (Kd.R_below O21.out hb)
  replace O27 := Aside0.mk (Kd.R_below O27.out hb)
  replace O31 := Aside0.mk (Kd.S_below O31.out hb)
  replace O37 := Aside0.mk (Kd.R_below O37.out hb)
  replace O42 := Aside0.mk (Kd.R_below O42.out hb)
  replace Bg1 := Aside0.mk (blk_below Bg1.out hb)
  replace Bg34 := Aside0.mk (blk_below Bg34.out hb)
  clear O50
  clear O54
  have Zw14_ := Aside0.mk hb.size
  replace HB := Aside0.mk (below_step HB.out hb)
  clear hb
  refine hK.out _ _ ⟨(blk_cell Bg34.out 0).trans rfl, (blk_cell Bg34.out 1).trans rfl, (blk_cell Bg34.out 2).trans rfl, (blk_cell Bg1.out 0).trans rfl, (blk_cell Bg1.out 1).trans rfl, (blk_cell Bg1.out 2).trans rfl⟩ (fun hHeld => ?_)
  clear hK K
  refine norm_ (a' := ?_) ?_ ?_
  rotate_left
  · show Act.put _ (some 41) _ = _
    simp only [Act.put, yps, i64_w, i32_w]
    rfl
  refine pure_ (i := 4) (N := some 42) (v := ?_) (a' := ?_) #[true, true, true, true, true] rfl rfl (by kernel_rfl) (fun _ _ _ h => h) (Or.inl ⟨by rfl, ?_⟩) ?_ ?_
  rotate_left
  · intro w'
    go_simp
    with_reducible rfl
  rotate_left
  · simp only [Act.put, yps, i64_w, i32_w]
    rfl
  refine done_ (by kernel_rfl) ?_
  have hzg1_0 : w14_.cell? ⟨g1, 0, none⟩ = some (.int .i64 a0_0) := (blk_cell Bg1.out 0).trans rfl
  have hzg1_1 : w14_.cell? ⟨g1, 1, none⟩ = some (.slice A0_1 l0_1.length c0_1) := (blk_cell Bg1.out 1).trans rfl
  have hzg1_2 : w14_.cell? ⟨g1, 2, none⟩ = some (.slice A0_2 l0_2.length c0_2) := (blk_cell Bg1.out 2).trans rfl
  have hzg34_0 : w14_.cell? ⟨g34, 0, none⟩ = some (.int .i64 t25) := (blk_cell Bg34.out 0).trans rfl
  have hzg34_1 : w14_.cell? ⟨g34, 1, none⟩ = some (.slice A28 t26.length c29) := (blk_cell Bg34.out 1).trans rfl
  have hzg34_2 : w14_.cell? ⟨g34, 2, none⟩ = some (.slice A32 t30.length c33) := (blk_cell Bg34.out 2).trans rfl
  go_wp2_with (first
    | ((with_reducible refine gate_callee (f := 33) rfl ?_); refine goesL_ (some 45) rfl rfl Try.func33 (by kernel_rfl) rfl #[.slice A1 l1.length c1] rfl (by (try simp only [List.map_toArray, List.map_cons, List.map_nil]); first | done | rfl) ?_; (with_reducible refine (laws_toIntS.calls k _ _ l1 t60 _ (Kd.C_below HR1.out HB.out) HC1.out E59.out).mono ?_); rintro e w15_ ⟨v0_, rfl, ho0_, hb⟩; refine ⟨_, rfl, ?_⟩; replace O21 := Aside0.mk (Kd.R_below O21.out hb); replace O27 := Aside0.mk (Kd.R_below O27.out hb); replace O31 := Aside0.mk (Kd.S_below O31.out hb); replace O37 := Aside0.mk (Kd.R_below O37.out hb); replace O42 := Aside0.mk (Kd.R_below O42.out hb); replace Bg1 := Aside0.mk (blk_below Bg1.out hb); replace Bg34 := Aside0.mk (blk_below Bg34.out hb); have O61 := Aside0.mk (Kd.R_born ho0_ (below_size HB.out)); obtain ⟨A62, c63, e_⟩ := Kd.R_slice O61.out; subst e_; have Zw15_ := Aside0.mk hb.size; replace HB := Aside0.mk (below_step HB.out hb); clear hb ho0_; clear hzg1_0; clear hzg1_1; clear hzg1_2; clear hzg34_0; clear hzg34_1; clear hzg34_2; have hzg1_0 : w15_.cell? ⟨g1, 0, none⟩ = some (.int .i64 a0_0) := (blk_cell Bg1.out 0).trans rfl; have hzg1_1 : w15_.cell? ⟨g1, 1, none⟩ = some (.slice A0_1 l0_1.length c0_1) := (blk_cell Bg1.out 1).trans rfl; have hzg1_2 : w15_.cell? ⟨g1, 2, none⟩ = some (.slice A0_2 l0_2.length c0_2) := (blk_cell Bg1.out 2).trans rfl; have hzg34_0 : w15_.cell? ⟨g34, 0, none⟩ = some (.int .i64 t25) := (blk_cell Bg34.out 0).trans rfl; have hzg34_1 : w15_.cell? ⟨g34, 1, none⟩ = some (.slice A28 t26.length c29) := (blk_cell Bg34.out 1).trans rfl; have hzg34_2 : w15_.cell? ⟨g34, 2, none⟩ = some (.slice A32 t30.length c33) := (blk_cell Bg34.out 2).trans rfl; skip)
    | ((with_reducible refine gate_callee (f := 35) rfl ?_); refine goesL_ (some 46) rfl rfl Try.func35 (by kernel_rfl) rfl #[.slice A38 t36.length c39, .slice A62 t60.length c63] rfl (by (try simp only [List.map_toArray, List.map_cons, List.map_nil]); first | done | rfl) ?_; (with_reducible refine (laws_eqIntS.calls k _ _ t36 _ _ t60 true _ (Kd.R_reads' O37.out).2.2 (Kd.R_reads' O37.out).2.1 (Kd.R_reads' O61.out).2.2 (Kd.R_reads' O61.out).2.1 E64.out).mono ?_); rintro e w16_ ⟨rfl, hd⟩; refine ⟨_, rfl, ?_⟩; have hb := hd.below; clear hd; replace O21 := Aside0.mk (Kd.R_below O21.out hb); replace O27 := Aside0.mk (Kd.R_below O27.out hb); replace O31 := Aside0.mk (Kd.S_below O31.out hb); replace O37 := Aside0.mk (Kd.R_below O37.out hb); replace O42 := Aside0.mk (Kd.R_below O42.out hb); replace Bg1 := Aside0.mk (blk_below Bg1.out hb); replace Bg34 := Aside0.mk (blk_below Bg34.out hb); clear O61; have Zw16_ := Aside0.mk hb.size; replace HB := Aside0.mk (below_step HB.out hb); clear hb; clear hzg1_0; clear hzg1_1; clear hzg1_2; clear hzg34_0; clear hzg34_1; clear hzg34_2; have hzg1_0 : w16_.cell? ⟨g1, 0, none⟩ = some (.int .i64 a0_0) := (blk_cell Bg1.out 0).trans rfl; have hzg1_1 : w16_.cell? ⟨g1, 1, none⟩ = some (.slice A0_1 l0_1.length c0_1) := (blk_cell Bg1.out 1).trans rfl; have hzg1_2 : w16_.cell? ⟨g1, 2, none⟩ = some (.slice A0_2 l0_2.length c0_2) := (blk_cell Bg1.out 2).trans rfl; have hzg34_0 : w16_.cell? ⟨g34, 0, none⟩ = some (.int .i64 t25) := (blk_cell Bg34.out 0).trans rfl; have hzg34_1 : w16_.cell? ⟨g34, 1, none⟩ = some (.slice A28 t26.length c29) := (blk_cell Bg34.out 1).trans rfl; have hzg34_2 : w16_.cell? ⟨g34, 2, none⟩ = some (.slice A32 t30.length c33) := (blk_cell Bg34.out 2).trans rfl; skip)
    | ((with_reducible refine gate_callee (f := 42) rfl ?_); refine goesL_ (some 50) rfl rfl Try.func42 (by kernel_rfl) rfl #[.agg #[.int .i64 t25, .slice A28 t26.length c29, .slice A32 t30.length c33], .int .i64 1] rfl (by (try simp only [List.map_toArray, List.map_cons, List.map_nil]); first | done | rfl) ?_; (with_reducible refine (laws_markPuzzle.calls k t25 _ _ _ _ t26 _ _ t30 1 t67 t68 t69 w w16_ HB.out apart_own (Kd.R_tight rfl O27.out) O31.out E66.out).mono ?_); rintro e w17_ ⟨rfl, hm0_, hm1_, hb, hk⟩; refine ⟨_, rfl, ?_⟩; replace O21 := Aside0.mk (Kd.R_kept O21.out hk (fun k_ h_ s_ => s_.elim (fun p_ => by have hx_ := (O27.out.1 _ p_.symm).1; have hy_ := h_.1; have := Zw1_.out; have := Zw2_.out; have := Zw3_.out; have := Zw4_.out; have := Zw5_.out; have := Zw6_.out; have := Zw7_.out; have := Zw8_.out; have := Zw9_.out; have := Zw10_.out; have := Zw11_.out; have := Zw12_.out; have := Zw13_.out; have := Zw14_.out; have := Zw15_.out; have := Zw16_.out; omega) (fun q_ => by have hx_ := q_.1; have hy_ := h_.1; have := Zw1_.out; have := Zw2_.out; have := Zw3_.out; have := Zw4_.out; have := Zw5_.out; have := Zw6_.out; have := Zw7_.out; have := Zw8_.out; have := Zw9_.out; have := Zw10_.out; have := Zw11_.out; have := Zw12_.out; have := Zw13_.out; have := Zw14_.out; have := Zw15_.out; have := Zw16_.out; omega))); replace O37 := Aside0.mk (Kd.R_kept O37.out hk (fun k_ h_ s_ => s_.elim (fun p_ => by have hx_ := (O27.out.1 _ p_.symm).1; have hy_ := h_.1; have := Zw1_.out; have := Zw2_.out; have := Zw3_.out; have := Zw4_.out; have := Zw5_.out; have := Zw6_.out; have := Zw7_.out; have := Zw8_.out; have := Zw9_.out; have := Zw10_.out; have := Zw11_.out; have := Zw12_.out; have := Zw13_.out; have := Zw14_.out; have := Zw15_.out; have := Zw16_.out; omega) (fun q_ => by have hx_ := q_.1; have hy_ := h_.1; have := Zw1_.out; have := Zw2_.out; have := Zw3_.out; have := Zw4_.out; have := Zw5_.out; have := Zw6_.out; have := Zw7_.out; have := Zw8_.out; have := Zw9_.out; have := Zw10_.out; have := Zw11_.out; have := Zw12_.out; have := Zw13_.out; have := Zw14_.out; have := Zw15_.out; have := Zw16_.out; omega))); replace O42 := Aside0.mk (Kd.R_kept O42.out hk (fun k_ h_ s_ => s_.elim (fun p_ => by have hx_ := (O27.out.1 _ p_.symm).1; have hy_ := h_.1; have := Zw1_.out; have := Zw2_.out; have := Zw3_.out; have := Zw4_.out; have := Zw5_.out; have := Zw6_.out; have := Zw7_.out; have := Zw8_.out; have := Zw9_.out; have := Zw10_.out; have := Zw11_.out; have := Zw12_.out; have := Zw13_.out; have := Zw14_.out; have := Zw15_.out; have := Zw16_.out; omega) (fun q_ => by have hx_ := q_.1; have hy_ := h_.1; have := Zw1_.out; have := Zw2_.out; have := Zw3_.out; have := Zw4_.out; have := Zw5_.out; have := Zw6_.out; have := Zw7_.out; have := Zw8_.out; have := Zw9_.out; have := Zw10_.out; have := Zw11_.out; have := Zw12_.out; have := Zw13_.out; have := Zw14_.out; have := Zw15_.out; have := Zw16_.out; omega))); replace Bg1 := Aside0.mk (blk_kept Bg1.out hk (fun s_ => s_.elim (fun p_ => by have hx_ := (O27.out.1 _ p_.symm).1; have hy_ := Gg1.out; have := Zw1_.out; have := Zw2_.out; have := Zw3_.out; have := Zw4_.out; have := Zw5_.out; have := Zw6_.out; have := Zw7_.out; have := Zw8_.out; have := Zw9_.out; have := Zw10_.out; have := Zw11_.out; have := Zw12_.out; have := Zw13_.out; have := Zw14_.out; have := Zw15_.out; have := Zw16_.out; omega) (fun q_ => by have hx_ := q_.1; have hy_ := Gg1.out; have := Zw1_.out; have := Zw2_.out; have := Zw3_.out; have := Zw4_.out; have := Zw5_.out; have := Zw6_.out; have := Zw7_.out; have := Zw8_.out; have := Zw9_.out; have := Zw10_.out; have := Zw11_.out; have := Zw12_.out; have := Zw13_.out; have := Zw14_.out; have := Zw15_.out; have := Zw16_.out; omega))); clear O27; clear O31; clear Bg34; have Zw17_ := Aside0.mk hk.1; replace HB := Aside0.mk hb; clear hk hb hm0_ hm1_; clear hzg1_0; clear hzg1_1; clear hzg1_2; clear hzg34_0; clear hzg34_1; clear hzg34_2; have hzg1_0 : w17_.cell? ⟨g1, 0, none⟩ = some (.int .i64 a0_0) := (blk_cell Bg1.out 0).trans rfl; have hzg1_1 : w17_.cell? ⟨g1, 1, none⟩ = some (.slice A0_1 l0_1.length c0_1) := (blk_cell Bg1.out 1).trans rfl; have hzg1_2 : w17_.cell? ⟨g1, 2, none⟩ = some (.slice A0_2 l0_2.length c0_2) := (blk_cell Bg1.out 2).trans rfl; skip)
    | ((with_reducible refine gate_callee (f := 38) rfl ?_); refine goesL_ (some 53) rfl rfl Try.func38 (by kernel_rfl) rfl #[.slice A38 t36.length c39, .int .i64 t67] rfl (by (try simp only [List.map_toArray, List.map_cons, List.map_nil]); first | done | rfl) ?_; (with_reducible refine (laws_markIntS.calls k _ _ t36 t67 t71 t72 w w17_ HB.out (Kd.R_tight rfl O37.out) E70.out).mono ?_); rintro e w18_ ⟨rfl, hm0_, hb, hk⟩; refine ⟨_, rfl, ?_⟩; replace O21 := Aside0.mk (Kd.R_kept O21.out hk (fun k_ h_ s_ => by have hx_ := (O37.out.1 _ s_.symm).1; have hy_ := h_.1; have := Zw1_.out; have := Zw2_.out; have := Zw3_.out; have := Zw4_.out; have := Zw5_.out; have := Zw6_.out; have := Zw7_.out; have := Zw8_.out; have := Zw9_.out; have := Zw10_.out; have := Zw11_.out; have := Zw12_.out; have := Zw13_.out; have := Zw14_.out; have := Zw15_.out; have := Zw16_.out; have := Zw17_.out; omega)); replace O42 := Aside0.mk (Kd.R_kept O42.out hk (fun k_ h_ s_ => by have hx_ := (O37.out.1 _ s_.symm).1; have hy_ := h_.1; have := Zw1_.out; have := Zw2_.out; have := Zw3_.out; have := Zw4_.out; have := Zw5_.out; have := Zw6_.out; have := Zw7_.out; have := Zw8_.out; have := Zw9_.out; have := Zw10_.out; have := Zw11_.out; have := Zw12_.out; have := Zw13_.out; have := Zw14_.out; have := Zw15_.out; have := Zw16_.out; have := Zw17_.out; omega)); replace Bg1 := Aside0.mk (blk_kept Bg1.out hk (fun s_ => by have hx_ := (O37.out.1 _ s_.symm).1; have hy_ := Gg1.out; have := Zw1_.out; have := Zw2_.out; have := Zw3_.out; have := Zw4_.out; have := Zw5_.out; have := Zw6_.out; have := Zw7_.out; have := Zw8_.out; have := Zw9_.out; have := Zw10_.out; have := Zw11_.out; have := Zw12_.out; have := Zw13_.out; have := Zw14_.out; have := Zw15_.out; have := Zw16_.out; have := Zw17_.out; omega)); clear O37; have Zw18_ := Aside0.mk hk.1; replace HB := Aside0.mk hb; clear hk hb hm0_; clear hzg1_0; clear hzg1_1; clear hzg1_2; have hzg1_0 : w18_.cell? ⟨g1, 0, none⟩ = some (.int .i64 a0_0) := (blk_cell Bg1.out 0).trans rfl; have hzg1_1 : w18_.cell? ⟨g1, 1, none⟩ = some (.slice A0_1 l0_1.length c0_1) := (blk_cell Bg1.out 1).trans rfl; have hzg1_2 : w18_.cell? ⟨g1, 2, none⟩ = some (.slice A0_2 l0_2.length c0_2) := (blk_cell Bg1.out 2).trans rfl; skip)
    | (go_at_call 35; (with_reducible refine (laws_eqIntS.calls k _ _ t41 _ _ t20 true _ (Kd.R_reads' O42.out).2.2 (Kd.R_reads' O42.out).2.1 (Kd.R_reads' O21.out).2.2 (Kd.R_reads' O21.out).2.1 E73.out).mono ?_); rintro e w19_ ⟨rfl, hd⟩; have hb := hd.below; clear hd; replace O21 := Aside0.mk (Kd.R_below O21.out hb); replace O42 := Aside0.mk (Kd.R_below O42.out hb); replace Bg1 := Aside0.mk (blk_below Bg1.out hb); have Zw19_ := Aside0.mk hb.size; replace HB := Aside0.mk (below_step HB.out hb); clear hb; clear hzg1_0; clear hzg1_1; clear hzg1_2; have hzg1_0 : w19_.cell? ⟨g1, 0, none⟩ = some (.int .i64 a0_0) := (blk_cell Bg1.out 0).trans rfl; have hzg1_1 : w19_.cell? ⟨g1, 1, none⟩ = some (.slice A0_1 l0_1.length c0_1) := (blk_cell Bg1.out 1).trans rfl; have hzg1_2 : w19_.cell? ⟨g1, 2, none⟩ = some (.slice A0_2 l0_2.length c0_2) := (blk_cell Bg1.out 2).trans rfl; skip)
    | ((with_reducible refine gate_callee (f := 38) rfl ?_); refine goesL_ (some 64) rfl rfl Try.func38 (by kernel_rfl) rfl #[.slice A43 t41.length c44, .int .i64 1] rfl (by (try simp only [List.map_toArray, List.map_cons, List.map_nil]); first | done | rfl) ?_; (with_reducible refine (laws_markIntS.calls k _ _ t41 1 t76 t77 w w19_ HB.out (Kd.R_tight rfl O42.out) E75.out).mono ?_); rintro e w20_ ⟨rfl, hm0_, hb, hk⟩; refine ⟨_, rfl, ?_⟩; replace O21 := Aside0.mk (Kd.R_kept O21.out hk (fun k_ h_ s_ => by have hx_ := (O42.out.1 _ s_.symm).1; have hy_ := h_.1; have := Zw1_.out; have := Zw2_.out; have := Zw3_.out; have := Zw4_.out; have := Zw5_.out; have := Zw6_.out; have := Zw7_.out; have := Zw8_.out; have := Zw9_.out; have := Zw10_.out; have := Zw11_.out; have := Zw12_.out; have := Zw13_.out; have := Zw14_.out; have := Zw15_.out; have := Zw16_.out; have := Zw17_.out; have := Zw18_.out; have := Zw19_.out; omega)); replace Bg1 := Aside0.mk (blk_kept Bg1.out hk (fun s_ => by have hx_ := (O42.out.1 _ s_.symm).1; have hy_ := Gg1.out; have := Zw1_.out; have := Zw2_.out; have := Zw3_.out; have := Zw4_.out; have := Zw5_.out; have := Zw6_.out; have := Zw7_.out; have := Zw8_.out; have := Zw9_.out; have := Zw10_.out; have := Zw11_.out; have := Zw12_.out; have := Zw13_.out; have := Zw14_.out; have := Zw15_.out; have := Zw16_.out; have := Zw17_.out; have := Zw18_.out; have := Zw19_.out; omega)); replace O42 := Aside0.mk hm0_; have Lt77 := Aside0.mk (Kd.R_reads' hm0_).1.symm; have Zw20_ := Aside0.mk hk.1; replace HB := Aside0.mk hb; clear hk hb hm0_; clear hzg1_0; clear hzg1_1; clear hzg1_2; have hzg1_0 : w20_.cell? ⟨g1, 0, none⟩ = some (.int .i64 a0_0) := (blk_cell Bg1.out 0).trans rfl; have hzg1_1 : w20_.cell? ⟨g1, 1, none⟩ = some (.slice A0_1 l0_1.length c0_1) := (blk_cell Bg1.out 1).trans rfl; have hzg1_2 : w20_.cell? ⟨g1, 2, none⟩ = some (.slice A0_2 l0_2.length c0_2) := (blk_cell Bg1.out 2).trans rfl; skip)
    | ((with_reducible refine gate_callee (f := 39) rfl ?_); refine goesL_ (some 67) rfl rfl Try.func39 (by kernel_rfl) rfl #[.slice A43 t77.length c44, .int .i64 1] rfl (by (try simp only [List.map_toArray, List.map_cons, List.map_nil]); first | done | rfl | (rw [Lt77.out]; rfl)) ?_; (with_reducible refine (laws_heldIntS.calls k _ _ t77 1 t79 _ (Kd.R_reads' O42.out).2.2 (by rw [Lt77.out]; exact (Kd.R_reads' O42.out).2.1) E78.out).mono ?_); rintro e w21_ ⟨rfl, hd⟩; refine ⟨_, rfl, ?_⟩; have hb := hd.below; clear hd; replace O21 := Aside0.mk (Kd.R_below O21.out hb); replace O42 := Aside0.mk (Kd.R_below O42.out hb); replace Bg1 := Aside0.mk (blk_below Bg1.out hb); have Zw21_ := Aside0.mk hb.size; replace HB := Aside0.mk (below_step HB.out hb); clear hb; clear hzg1_0; clear hzg1_1; clear hzg1_2; have hzg1_0 : w21_.cell? ⟨g1, 0, none⟩ = some (.int .i64 a0_0) := (blk_cell Bg1.out 0).trans rfl; have hzg1_1 : w21_.cell? ⟨g1, 1, none⟩ = some (.slice A0_1 l0_1.length c0_1) := (blk_cell Bg1.out 1).trans rfl; have hzg1_2 : w21_.cell? ⟨g1, 2, none⟩ = some (.slice A0_2 l0_2.length c0_2) := (blk_cell Bg1.out 2).trans rfl; skip)
    | ((with_reducible refine gate_callee (f := 27) rfl ?_); refine goesL_ (some 74) rfl rfl Try.func27 (by kernel_rfl) rfl #[.agg #[.int .i64 a0_0, .slice A0_1 l0_1.length c0_1, .slice A0_2 l0_2.length c0_2]] rfl (by (try simp only [List.map_toArray, List.map_cons, List.map_nil]); first | done | rfl) ?_; (with_reducible refine (laws_toPuzzle.calls k a0_0 _ _ l0_1 _ _ l0_2 t81 t82 t86 _ (Kd.C_below HR0_1.out HB.out) HC0_1.out (Kd.C_below HR0_2.out HB.out) HC0_2.out E80.out).mono ?_); rintro e w22_ ⟨v0_, v1_, rfl, ho0_, ho1_, hb⟩; refine ⟨_, rfl, ?_⟩; replace O21 := Aside0.mk (Kd.R_below O21.out hb); replace O42 := Aside0.mk (Kd.R_below O42.out hb); clear Bg1; have O83 := Aside0.mk (Kd.R_born ho0_ (below_size HB.out)); obtain ⟨A84, c85, e_⟩ := Kd.R_slice O83.out; subst e_; have O87 := Aside0.mk (Kd.S_born ho1_ (below_size HB.out)); obtain ⟨A88, c89, e_⟩ := Kd.S_slice O87.out; subst e_; have Zw22_ := Aside0.mk hb.size; replace HB := Aside0.mk (below_step HB.out hb); clear hb ho0_ ho1_; clear hzg1_0; clear hzg1_1; clear hzg1_2; skip)
    | ((with_reducible refine gate_callee (f := 33) rfl ?_); refine goesL_ (some 76) rfl rfl Try.func33 (by kernel_rfl) rfl #[.slice A1 l1.length c1] rfl (by (try simp only [List.map_toArray, List.map_cons, List.map_nil]); first | done | rfl) ?_; (with_reducible refine (laws_toIntS.calls k _ _ l1 t91 _ (Kd.C_below HR1.out HB.out) HC1.out E90.out).mono ?_); rintro e w23_ ⟨v0_, rfl, ho0_, hb⟩; refine ⟨_, rfl, ?_⟩; replace O21 := Aside0.mk (Kd.R_below O21.out hb); replace O42 := Aside0.mk (Kd.R_below O42.out hb); replace O83 := Aside0.mk (Kd.R_below O83.out hb); replace O87 := Aside0.mk (Kd.S_below O87.out hb); have O92 := Aside0.mk (Kd.R_born ho0_ (below_size HB.out)); obtain ⟨A93, c94, e_⟩ := Kd.R_slice O92.out; subst e_; have Zw23_ := Aside0.mk hb.size; replace HB := Aside0.mk (below_step HB.out hb); clear hb ho0_; skip)
    | ((with_reducible refine gate_callee (f := 53) rfl ?_); refine goesL_ (some 77) rfl rfl Try.func53 (by kernel_rfl) rfl #[.agg #[.int .i64 t81, .slice A84 t82.length c85, .slice A88 t86.length c89], .slice A93 t91.length c94] rfl (by (try simp only [List.map_toArray, List.map_cons, List.map_nil]); first | done | rfl) ?_; (with_reducible refine (impl_NarrowRules.calls k t81 _ _ t82 _ _ t86 _ _ t91 t96 _ (Kd.R_reads' O83.out).2.2 (Kd.R_reads' O83.out).2.1 (Kd.R_reads' (Kd.S_R O87.out)).2.2 (Kd.R_reads' (Kd.S_R O87.out)).2.1 (Kd.R_reads' O92.out).2.2 (Kd.R_reads' O92.out).2.1 E95.out).mono ?_); rintro e w24_ ⟨v0_, rfl, ho0_, hb⟩; refine ⟨_, rfl, ?_⟩; replace O21 := Aside0.mk (Kd.R_below O21.out hb); replace O42 := Aside0.mk (Kd.R_below O42.out hb); clear O83; clear O87; clear O92; have O97 := Aside0.mk (Kd.R_born ho0_ (below_size HB.out)); obtain ⟨A98, c99, e_⟩ := Kd.R_slice O97.out; subst e_; have Zw24_ := Aside0.mk hb.size; replace HB := Aside0.mk (below_step HB.out hb); clear hb ho0_; skip)
    | ((with_reducible refine gate_callee (f := 35) rfl ?_); refine goesL_ (some 80) rfl rfl Try.func35 (by kernel_rfl) rfl #[.slice A98 t96.length c99, .slice A22 t20.length c23] rfl (by (try simp only [List.map_toArray, List.map_cons, List.map_nil]); first | done | rfl) ?_; (with_reducible refine (laws_eqIntS.calls k _ _ t96 _ _ t20 true _ (Kd.R_reads' O97.out).2.2 (Kd.R_reads' O97.out).2.1 (Kd.R_reads' O21.out).2.2 (Kd.R_reads' O21.out).2.1 E100.out).mono ?_); rintro e w25_ ⟨rfl, hd⟩; refine ⟨_, rfl, ?_⟩; have hb := hd.below; clear hd; replace O42 := Aside0.mk (Kd.R_below O42.out hb); clear O21; clear O97; have Zw25_ := Aside0.mk hb.size; replace HB := Aside0.mk (below_step HB.out hb); clear hb; skip)
    | ((with_reducible refine gate_callee (f := 39) rfl ?_); refine goesL_ (some 84) rfl rfl Try.func39 (by kernel_rfl) rfl #[.slice A43 t77.length c44, .int .i64 1] rfl (by (try simp only [List.map_toArray, List.map_cons, List.map_nil]); first | done | rfl | (rw [Lt77.out]; rfl)) ?_; (with_reducible refine (laws_heldIntS.calls k _ _ t77 1 t103 _ (Kd.R_reads' O42.out).2.2 (by rw [Lt77.out]; exact (Kd.R_reads' O42.out).2.1) E102.out).mono ?_); rintro e w26_ ⟨rfl, hd⟩; refine ⟨_, rfl, ?_⟩; have hb := hd.below; clear hd; clear O42; have Zw26_ := Aside0.mk hb.size; replace HB := Aside0.mk (below_step HB.out hb); clear hb; skip))
  go_ret
  exact ⟨rfl, HB.out⟩

end Go.Proofs.Ythfbjkniinfgcaa.P
