/- The machine's side of laws of this seat: each Go function as a plain Lean function and the proof that the machine's call does what that function says; written by this session's own program over the kit's print. -/
import Derived.Test.YtaglakdahmepeaaP0
import Derived.Test.YtaglakdahmepeaaP1
import Derived.Test.YtaglakdahmepeaaP19
import Derived.Test.YtaglakdahmepeaaP43
namespace Go.Proofs.Ytaglakdahmepeaa.P
open Go.RowKit Go.Proofs.YtaglakdahmepeaaW.PrintWords Go.Proofs.YtaglakdahmepeaaW.PrintLast Go.Proofs.YtaglakdahmepeaaW.PrintMore
attribute [local go_sem] max2_int min2_int max_two min_two max_three min_three max_four min_four   -- for this text's walks alone
set_option linter.unusedVariables false
set_option linter.unusedSimpArgs false

/-! ### spec_RuleHolds: function 44 -/
mutual
def spec_RuleHolds.j0 : Nat → List Int → Bool → Int → List Int → Int → Option (Bool)
  | 0, _, _, _, _, _ => none
  | k + 1, x1, x18, x652000, x652001, x652002 => if x18 = true then (some false) else (spec_RuleHolds.l0 k x1 (([] : List Int)) 0 x652000 x652001 x652002)
def spec_RuleHolds.l0 : Nat → List Int → List Int → Int → Int → List Int → Int → Option (Bool)
  | 0, _, _, _, _, _, _ => none
  | k + 1, x1, x7, x8, x652000, x652001, x652002 => if x8 < (x652001.length : Int) then (if 0 ≤ x8 then (if 0 ≤ (rd x652001 x8) then (if (rd x652001 x8) < (x1.length : Int) then (if (rd x1 (rd x652001 x8)) = 0 then (some false) else (if x7.length < 17592186044416 then (spec_RuleHolds.l0 k x1 (x7 ++ [rd x1 (rd x652001 x8)]) (wrap64 (x8 + 1)) x652000 x652001 x652002) else (none))) else (none)) else (none)) else (none)) else ((spec_l4Holds.f k x652000 x652001 x652002 x7).bind fun t664 => (some t664))
end
def spec_RuleHolds.f (k : Nat) (a0_0 : Int) (l0_1 : List Int) (a0_2 : Int) (l1 : List Int) (a2 : Int) : Option (Bool) := (spec_RuleValid.f k a0_0 l0_1 a0_2 a2).bind fun t652 => (if t652 = true then ((spec_GridValid.f k l1 a2).bind fun t653 => (spec_RuleHolds.j0 k l1 (!t653) a0_0 l0_1 a0_2)) else (spec_RuleHolds.j0 k l1 true a0_0 l0_1 a0_2))
theorem spec_RuleHolds.mono_l : ∀ k, (∀ y0 y1 y2 y3 y4, LeO (spec_RuleHolds.j0 k y0 y1 y2 y3 y4) (spec_RuleHolds.j0 (k + 1) y0 y1 y2 y3 y4)) ∧ (∀ y0 y1 y2 y3 y4 y5, LeO (spec_RuleHolds.l0 k y0 y1 y2 y3 y4 y5) (spec_RuleHolds.l0 (k + 1) y0 y1 y2 y3 y4 y5))
  | 0 => ⟨fun _ _ _ _ _ r h => by simp [spec_RuleHolds.j0] at h, fun _ _ _ _ _ _ r h => by simp [spec_RuleHolds.l0] at h⟩
  | k + 1 => by
    obtain ⟨ih0, ih1⟩ := spec_RuleHolds.mono_l k
    refine ⟨?_, ?_⟩
    · intro y0 y1 y2 y3 y4
      unfold spec_RuleHolds.j0
      repeat' first
      | (with_reducible exact ih0 _ _ _ _ _)
      | (with_reducible exact ih1 _ _ _ _ _ _)
      | (with_reducible exact spec_GridValid.mono _ _ _)
      | (with_reducible exact spec_RuleValid.mono _ _ _ _ _)
      | (with_reducible exact spec_l4Holds.mono _ _ _ _ _)
      | (with_reducible exact LeO.refl _)
      | (with_reducible exact LeO.none _)
      | (with_reducible refine LeO.ite ?_ ?_)
      | (with_reducible refine LeO.bind ?_ (fun _ => ?_))
      | exact ih0 _ _ _ _ _
      | exact ih1 _ _ _ _ _ _
      | exact spec_GridValid.mono _ _ _
      | exact spec_RuleValid.mono _ _ _ _ _
      | exact spec_l4Holds.mono _ _ _ _ _
      | exact LeO.none _
      | refine LeO.ite ?_ ?_
      | refine LeO.bind ?_ (fun _ => ?_)
    · intro y0 y1 y2 y3 y4 y5
      unfold spec_RuleHolds.l0
      repeat' first
      | (with_reducible exact ih0 _ _ _ _ _)
      | (with_reducible exact ih1 _ _ _ _ _ _)
      | (with_reducible exact spec_GridValid.mono _ _ _)
      | (with_reducible exact spec_RuleValid.mono _ _ _ _ _)
      | (with_reducible exact spec_l4Holds.mono _ _ _ _ _)
      | (with_reducible exact LeO.refl _)
      | (with_reducible exact LeO.none _)
      | (with_reducible refine LeO.ite ?_ ?_)
      | (with_reducible refine LeO.bind ?_ (fun _ => ?_))
      | exact ih0 _ _ _ _ _
      | exact ih1 _ _ _ _ _ _
      | exact spec_GridValid.mono _ _ _
      | exact spec_RuleValid.mono _ _ _ _ _
      | exact spec_l4Holds.mono _ _ _ _ _
      | exact LeO.none _
      | refine LeO.ite ?_ ?_
      | refine LeO.bind ?_ (fun _ => ?_)
theorem spec_RuleHolds.mono : ∀ a0 a1 a2 a3 a4 k, LeO (spec_RuleHolds.f k a0 a1 a2 a3 a4) (spec_RuleHolds.f (k + 1) a0 a1 a2 a3 a4) := by
  intro a0 a1 a2 a3 a4 k
  obtain ⟨ih0, ih1⟩ := spec_RuleHolds.mono_l k
  unfold spec_RuleHolds.f
  repeat' first
      | (with_reducible exact ih0 _ _ _ _ _)
      | (with_reducible exact ih1 _ _ _ _ _ _)
      | (with_reducible exact spec_GridValid.mono _ _ _)
      | (with_reducible exact spec_RuleValid.mono _ _ _ _ _)
      | (with_reducible exact spec_l4Holds.mono _ _ _ _ _)
      | (with_reducible exact LeO.refl _)
      | (with_reducible exact LeO.none _)
      | (with_reducible refine LeO.ite ?_ ?_)
      | (with_reducible refine LeO.bind ?_ (fun _ => ?_))
      | exact ih0 _ _ _ _ _
      | exact ih1 _ _ _ _ _ _
      | exact spec_GridValid.mono _ _ _
      | exact spec_RuleValid.mono _ _ _ _ _
      | exact spec_l4Holds.mono _ _ _ _ _
      | exact LeO.none _
      | refine LeO.ite ?_ ?_
      | refine LeO.bind ?_ (fun _ => ?_)
set_option maxHeartbeats 8000000 in
set_option maxRecDepth 100000 in
theorem spec_RuleHolds.calls (k : Nat) (a0_0 : Int) (A0_1 : Option Addr) (c0_1 : Nat) (l0_1 : List Int) (a0_2 : Int) (A1 : Option Addr) (c1 : Nat) (l1 : List Int) (a2 : Int) (r : Bool) (w : World) (hr0_1 : Kd.C (Kd.int .i64) w A0_1 l0_1.length l0_1) (hc0_1 : l0_1.length ≤ c0_1) (hr1 : Kd.C (Kd.int .i64) w A1 l1.length l1) (hc1 : l1.length ≤ c1) (h : spec_RuleHolds.f k a0_0 l0_1 a0_2 l1 a2 = some r) :
    Calls Try.prog 44 #[.agg #[.int .i64 a0_0, .slice A0_1 l0_1.length c0_1, .int .i64 a0_2], .slice A1 l1.length c1, .int .i64 a2] w fun e w' => e = .returned (.bool r) ∧ Below w.heap.size w w' := by
  have hu32 := Try.underlying32
  have HR0_1 := Aside0.mk hr0_1
  have HC0_1 := Aside0.mk hc0_1
  clear hr0_1 hc0_1
  have HR1 := Aside0.mk hr1
  have HC1 := Aside0.mk hc1
  clear hr1 hc1
  have HB := Aside0.mk (Below.refl w.heap.size w)
  have H : ((spec_RuleValid.f k a0_0 l0_1 a0_2 a2).bind fun t652 => (if t652 = true then ((spec_GridValid.f k l1 a2).bind fun t653 => (spec_RuleHolds.j0 k l1 (!t653) a0_0 l0_1 a0_2)) else (spec_RuleHolds.j0 k l1 true a0_0 l0_1 a0_2))) = some r := h
  clear h
  have HC4 := Aside0.mk H
  clear H
  go_enter Try.func44, Try.ntmps44
  go_upto_region 1 with (first | ((with_reducible refine gate_dst (N := 3) rfl ?_); refine box_event ?hg (N := 3) ?hd (cs := #[.int .i64 a0_0, .slice A0_1 l0_1.length c0_1, .int .i64 a0_2]) (t := 32) ?hr ?_; (case hd => rfl); (case hg => rfl); (case hr => first | (go_simp; done) | (go_simp; rfl)); intro gb651 hg w5 hbox hb; have n0_ := Aside0.mk (below_step (by repeat (first | (with_reducible first | exact HB.out | apply below_alloc | apply pw_below_drewN | apply below_drew1) | exact HB.out)) hb); have n1_ := Aside0.mk (hbox); have n2_ := Aside0.mk ((by rw [hg]; exact (below_size (by repeat (first | (with_reducible first | exact HB.out | apply below_alloc | apply pw_below_drewN | apply below_drew1) | exact HB.out))) : w.heap.size ≤ gb651)); have n3_ := Aside0.mk ((by rw [hg]; exact (below_size (by repeat (first | (with_reducible first | exact HB.out | apply below_alloc | apply pw_below_drewN | apply below_drew1) | exact HB.out))) : w.heap.size ≤ gb651)); clear HB; have HB := n0_; have BK651 := n1_; have GW651 := n2_; have GE651 := n3_; clear n0_ n1_ n2_ n3_; clear hb hbox hg))
  (try simp only [Act.put, List.setIfInBounds_toArray, List.set_cons_zero, List.set_cons_succ])
  go_cut [18] (fun v18 wc => ∃ (kq : Nat) (x18_3 : Bool), v18 = .bool x18_3 ∧ Aside0 (spec_RuleHolds.j0 kq l1 x18_3 a0_0 l0_1 a0_2 = some r) ∧ Aside0 (kq ≤ k) ∧ Aside0 (wc.heap[gb651]? = some (.cells #[.int .i64 a0_0, (.slice A0_1 l0_1.length c0_1), .int .i64 a0_2] 32 (0, 0))) ∧ Aside0 (Below w.heap.size w wc))
  case first =>
    have H := HC4.out
    clear HC4
    replace H := Option.bind_eq_some_iff.mp H
    obtain ⟨t652, A60, H⟩ := H
    replace H : (if t652 = true then ((spec_GridValid.f k l1 a2).bind fun t653 => (spec_RuleHolds.j0 k l1 (!t653) a0_0 l0_1 a0_2)) else (spec_RuleHolds.j0 k l1 true a0_0 l0_1 a0_2)) = some r := H
    have A6 := Aside0.mk A60
    clear A60
    by_cases c7 : t652 = true
    · subst c7
      have H1 : ((spec_GridValid.f k l1 a2).bind fun t653 => (spec_RuleHolds.j0 k l1 (!t653) a0_0 l0_1 a0_2)) = some r := by rw [if_pos rfl] at H; exact H
      clear H
      have H := H1
      clear H1
      replace H := Option.bind_eq_some_iff.mp H
      obtain ⟨t653, A80, H⟩ := H
      replace H : (spec_RuleHolds.j0 k l1 (!t653) a0_0 l0_1 a0_2) = some r := H
      have A8 := Aside0.mk A80
      clear A80
      have H' := Aside0.mk H
      clear H
      have hcz9_0 : w5.cell? ⟨gb651, 0, none⟩ = some (.int .i64 a0_0) := (blk_cell BK651.out 0).trans rfl
      have hcz9_1 : w5.cell? ⟨gb651, 1, none⟩ = some (.slice A0_1 l0_1.length c0_1) := (blk_cell BK651.out 1).trans rfl
      have hcz9_2 : w5.cell? ⟨gb651, 2, none⟩ = some (.int .i64 a0_2) := (blk_cell BK651.out 2).trans rfl
      have hfz9_0 := blk_frozen BK651.out 0
      have hfz9_1 := blk_frozen BK651.out 1
      have hfz9_2 := blk_frozen BK651.out 2
      go_wp2_with (first | ((with_reducible refine gate_callee (f := 28) rfl ?_); refine goesL_ (some 11) rfl rfl Try.func28 (by kernel_rfl) rfl #[.agg #[.int .i64 a0_0, .slice A0_1 l0_1.length c0_1, .int .i64 a0_2], .int .i64 a2] rfl (by (try simp only [List.map_toArray, List.map_cons, List.map_nil]); first | done | rfl | (simp only [List.length_drop, List.length_take]; rfl)) ?_; (with_reducible refine (spec_RuleValid.calls k a0_0 _ _ l0_1 a0_2 a2 true _ ?side1 ?side2 A6.out).mono ?_); (case side1 => repeat (first | exact (Kd.C_below HR0_1.out HB.out) | (with_reducible refine Kd.C_alloc ?_ _) | (with_reducible refine Kd.C_drewN ?_ _) | (with_reducible refine Kd.C_drew ?_))); (case side2 => exact HC0_1.out); rintro e w10 ⟨rfl, hb⟩; refine ⟨_, rfl, ?_⟩; have n0_ := Aside0.mk (blk_below (g := gb651) (o := .cells #[.int .i64 a0_0, .slice A0_1 l0_1.length c0_1, .int .i64 a0_2] 32 (0, 0)) (by (with_reducible repeat (first | refine blk_drewN ?_ _ | refine blk_drew ?_ | refine blk_alloc ?_ _)); exact BK651.out) hb); have n1_ := Aside0.mk (below_step (by repeat (first | (with_reducible first | exact HB.out | apply below_alloc | apply pw_below_drewN | apply below_drew1 | refine below_set ?_ GE651.out) | exact HB.out)) hb); clear BK651; clear HB; have BK651 := n0_; have HB := n1_; clear n0_ n1_; (try clear hb); (try clear hb2); (try clear hk); (try clear hi)) | (go_at_call 46; (with_reducible refine (spec_GridValid.calls k _ _ l1 a2 t653 _ ?side1 ?side2 A8.out).mono ?_); (case side1 => repeat (first | exact (Kd.C_below HR1.out HB.out) | (with_reducible refine Kd.C_alloc ?_ _) | (with_reducible refine Kd.C_drewN ?_ _) | (with_reducible refine Kd.C_drew ?_))); (case side2 => exact HC1.out); rintro e w' ⟨rfl, ⟨nd, rfl⟩⟩))
      go_meet
      case rel => exact ⟨_, (!t653), (by first | rfl | (simp; done) | (simp [*]; done)), H', ⟨by first | omega | exact Nat.le_refl _⟩, ⟨by (with_reducible repeat (first | refine blk_drewN ?_ _ | refine blk_drew ?_ | refine blk_alloc ?_ _)); exact BK651.out⟩, ⟨by repeat (first | (with_reducible first | exact HB.out | apply below_alloc | apply pw_below_drewN | apply below_drew1 | refine below_set ?_ GE651.out) | exact HB.out)⟩⟩
    · replace c7 := Bool.eq_false_iff.mpr c7
      subst c7
      have H1 : (spec_RuleHolds.j0 k l1 true a0_0 l0_1 a0_2) = some r := by rw [if_neg (show ¬ (false = true) by decide)] at H; exact H
      clear H
      have H := H1
      clear H1
      have H' := Aside0.mk H
      clear H
      have hcz11_0 : w5.cell? ⟨gb651, 0, none⟩ = some (.int .i64 a0_0) := (blk_cell BK651.out 0).trans rfl
      have hcz11_1 : w5.cell? ⟨gb651, 1, none⟩ = some (.slice A0_1 l0_1.length c0_1) := (blk_cell BK651.out 1).trans rfl
      have hcz11_2 : w5.cell? ⟨gb651, 2, none⟩ = some (.int .i64 a0_2) := (blk_cell BK651.out 2).trans rfl
      have hfz11_0 := blk_frozen BK651.out 0
      have hfz11_1 := blk_frozen BK651.out 1
      have hfz11_2 := blk_frozen BK651.out 2
      go_wp2_with (first | ((with_reducible refine gate_callee (f := 28) rfl ?_); refine goesL_ (some 11) rfl rfl Try.func28 (by kernel_rfl) rfl #[.agg #[.int .i64 a0_0, .slice A0_1 l0_1.length c0_1, .int .i64 a0_2], .int .i64 a2] rfl (by (try simp only [List.map_toArray, List.map_cons, List.map_nil]); first | done | rfl | (simp only [List.length_drop, List.length_take]; rfl)) ?_; (with_reducible refine (spec_RuleValid.calls k a0_0 _ _ l0_1 a0_2 a2 false _ ?side1 ?side2 A6.out).mono ?_); (case side1 => repeat (first | exact (Kd.C_below HR0_1.out HB.out) | (with_reducible refine Kd.C_alloc ?_ _) | (with_reducible refine Kd.C_drewN ?_ _) | (with_reducible refine Kd.C_drew ?_))); (case side2 => exact HC0_1.out); rintro e w12 ⟨rfl, hb⟩; refine ⟨_, rfl, ?_⟩; have n0_ := Aside0.mk (blk_below (g := gb651) (o := .cells #[.int .i64 a0_0, .slice A0_1 l0_1.length c0_1, .int .i64 a0_2] 32 (0, 0)) (by (with_reducible repeat (first | refine blk_drewN ?_ _ | refine blk_drew ?_ | refine blk_alloc ?_ _)); exact BK651.out) hb); have n1_ := Aside0.mk (below_step (by repeat (first | (with_reducible first | exact HB.out | apply below_alloc | apply pw_below_drewN | apply below_drew1 | refine below_set ?_ GE651.out) | exact HB.out)) hb); clear BK651; clear HB; have BK651 := n0_; have HB := n1_; clear n0_ n1_; (try clear hb); (try clear hb2); (try clear hk); (try clear hi)))
      go_meet
      case rel => exact ⟨_, (true), (by first | rfl | (simp; done) | (simp [*]; done)), H', ⟨by first | omega | exact Nat.le_refl _⟩, ⟨by (with_reducible repeat (first | refine blk_drewN ?_ _ | refine blk_drew ?_ | refine blk_alloc ?_ _)); exact BK651.out⟩, ⟨by repeat (first | (with_reducible first | exact HB.out | apply below_alloc | apply pw_below_drewN | apply below_drew1 | refine below_set ?_ GE651.out) | exact HB.out)⟩⟩
  case rest =>
    clear HC4
    try clear c1
    try clear c2
    try clear p2
    try clear c4
    try clear c7
    try clear hcz11_0
    try clear hcz11_1
    try clear hcz11_2
    try clear hcz9_0
    try clear hcz9_1
    try clear hcz9_2
    try clear hfz11_0
    try clear hfz11_1
    try clear hfz11_2
    try clear hfz9_0
    try clear hfz9_1
    try clear hfz9_2
    obtain ⟨kq, x18_3, rfl, HA, HJ3, BK651, HB⟩ := hcut
    cases kq with
    | zero => exact absurd HA.out (by simp [spec_RuleHolds.j0])
    | succ kj3 =>
      have H := HA.out
      clear HA
      simp only [spec_RuleHolds.j0] at H
      by_cases c13 : x18_3 = true
      · subst c13
        have H1 : (some false) = some r := by rw [if_pos rfl] at H; exact H
        clear H
        have H := H1
        clear H1
        obtain rfl := Option.some.inj H
        go_wp2
        go_ret
        exact ⟨by first | rfl | (simp [errW_none, errW_some] <;> rfl) | (simp [*, errW_none, errW_some] <;> rfl), by repeat (first | (with_reducible first | exact HB.out | apply below_alloc | apply pw_below_drewN | apply below_drew1 | refine below_set ?_ GE651.out) | exact HB.out)⟩
      · replace c13 := Bool.eq_false_iff.mpr c13
        subst c13
        have H1 : (spec_RuleHolds.l0 kj3 l1 (([] : List Int)) 0 a0_0 l0_1 a0_2) = some r := by rw [if_neg (show ¬ (false = true) by decide)] at H; exact H
        clear H
        have H := H1
        clear H1
        obtain ⟨y654, hy654⟩ : ∃ y_ : List Int, y_ = (([] : List Int)) := ⟨_, rfl⟩
        replace H : (spec_RuleHolds.l0 kj3 l1 y654 0 a0_0 l0_1 a0_2) = some r := by first | (rw [hy654]; with_reducible exact H) | (have H2_ := (Option.bind_some _ _).symm.trans H; rw [hy654]; with_reducible exact H2_) | (have H2_ := (Option.bind_some _ _).symm.trans H; with_reducible exact H2_) | with_reducible exact H | (rw [hy654]; exact H) | exact H
        have Ny654 := Aside0.mk hy654
        clear hy654
        have H' := Aside0.mk H
        clear H
        go_wp2_with (first | ((with_reducible refine gate_dst (N := 19) rfl ?_); refine Kd.R_lit (Kd.int .i64) _ 3 ?hg (N := 19) ?hd (xs := ([] : List Int)) (inner := []) (ok := fun _ => True) (okp := fun _ => True) ?hr ?hp (fun _ hk => hk) trivial (Below.refl _ _) (Nat.le_refl _) (by simp) ?_; (case hd => rfl); (case hg => rfl); (case hr => first | (go_simp; done) | (go_simp; rfl)); (case hp => exact (Reps.none _ _)); intro v655 w14 ho15 hb hg_ hnew_; clear hg_ hnew_; (first | rw [← Ny654.out] at ho15 | (simp only [Int.reduceToNat] at ho15; rw [← Ny654.out] at ho15)); have n0_ := Aside0.mk (Kd.R_lower ho15 (below_size (by repeat (first | (with_reducible first | exact HB.out | apply below_alloc | apply pw_below_drewN | apply below_drew1 | refine below_set ?_ GE651.out) | exact HB.out)))); have n1_ := Aside0.mk (blk_below (g := gb651) (o := .cells #[.int .i64 a0_0, .slice A0_1 l0_1.length c0_1, .int .i64 a0_2] 32 (0, 0)) (by (with_reducible repeat (first | refine blk_drewN ?_ _ | refine blk_drew ?_ | refine blk_alloc ?_ _)); exact BK651.out) hb); have n2_ := Aside0.mk (below_step (by repeat (first | (with_reducible first | exact HB.out | apply below_alloc | apply pw_below_drewN | apply below_drew1 | refine below_set ?_ GE651.out) | exact HB.out)) hb); clear BK651; clear HB; have HO656 := n0_; have BK651 := n1_; have HB := n2_; clear n0_ n1_ n2_; clear hb ho15))
        go_loopg [7, 8] kj3 (fun kq v7 v8 w' => ∃ (x7_2 : List Int) (x8_2 : Int), v8 = .int .i64 x8_2 ∧ Aside0 (spec_RuleHolds.l0 kq l1 x7_2 x8_2 a0_0 l0_1 a0_2 = some r) ∧ Aside0 (kq ≤ kj3) ∧ Aside0 (Kd.R (Kd.int .i64) 3 w' w.heap.size (fun _ => True) v7 x7_2) ∧ Aside0 (w'.heap[gb651]? = some (.cells #[.int .i64 a0_0, (.slice A0_1 l0_1.length c0_1), .int .i64 a0_2] 32 (0, 0))) ∧ Aside0 (Below w.heap.size w w'))
        case atStart => exact ⟨(y654), (0), (by first | rfl | (simp; done) | (simp [*]; done)), H', ⟨Nat.le_refl _⟩, ⟨by (with_reducible repeat (first | apply Kd.R_alloc | apply Kd.R_drewN | apply Kd.R_drew)); exact HO656.out⟩, ⟨by (with_reducible repeat (first | refine blk_drewN ?_ _ | refine blk_drew ?_ | refine blk_alloc ?_ _)); exact BK651.out⟩, ⟨by repeat (first | (with_reducible first | exact HB.out | apply below_alloc | apply pw_below_drewN | apply below_drew1 | refine below_set ?_ GE651.out) | exact HB.out)⟩⟩
        case round =>
          clear H'
          try clear c1
          try clear c2
          try clear p2
          try clear c4
          try clear c7
          try clear c13
          try clear hcz11_0
          try clear hcz11_1
          try clear hcz11_2
          try clear hcz9_0
          try clear hcz9_1
          try clear hcz9_2
          try clear hfz11_0
          try clear hfz11_1
          try clear hfz11_2
          try clear hfz9_0
          try clear hfz9_1
          try clear hfz9_2
          try clear p2
          obtain ⟨x7_2, x8_2, rfl, HA, HK2, HO_7, BK651, HB⟩ := hrel
          cases gk with
          | zero => exact absurd HA.out (by simp [spec_RuleHolds.l0])
          | succ k2 =>
            have H := HA.out
            clear HA
            simp only [spec_RuleHolds.l0] at H
            by_cases c16 : x8_2 < (l0_1.length : Int)
            · rw [if_pos c16] at H
              have c16b0 : decide (x8_2 < (l0_1.length : Int)) = true := decide_eq_true c16
              clear c16
              by_cases c17 : 0 ≤ x8_2
              · rw [if_pos c17] at H
                have c17b0 : decide (0 ≤ x8_2) = true := decide_eq_true c17
                clear c17
                by_cases c18 : 0 ≤ (rd l0_1 x8_2)
                · rw [if_pos c18] at H
                  have c18b0 : decide (0 ≤ (rd l0_1 x8_2)) = true := decide_eq_true c18
                  clear c18
                  by_cases c19 : (rd l0_1 x8_2) < (l1.length : Int)
                  · rw [if_pos c19] at H
                    have c19b0 : decide ((rd l0_1 x8_2) < (l1.length : Int)) = true := decide_eq_true c19
                    clear c19
                    by_cases c20 : (rd l1 (rd l0_1 x8_2)) = 0
                    · rw [if_pos c20] at H
                      have c20b0 : ((rd l1 (rd l0_1 x8_2)) == 0) = true := beq_iff_eq.mpr c20
                      have c20b1 : ((rd l1 (rd l0_1 x8_2)) != 0) = false := bne_eq_false_iff_eq.mpr c20
                      clear c20
                      obtain rfl := Option.some.inj H
                      have hcz21_0 : wr.cell? ⟨gb651, 0, none⟩ = some (.int .i64 a0_0) := (blk_cell BK651.out 0).trans rfl
                      have hcz21_1 : wr.cell? ⟨gb651, 1, none⟩ = some (.slice A0_1 l0_1.length c0_1) := (blk_cell BK651.out 1).trans rfl
                      have hcz21_2 : wr.cell? ⟨gb651, 2, none⟩ = some (.int .i64 a0_2) := (blk_cell BK651.out 2).trans rfl
                      have hfz21_0 := blk_frozen BK651.out 0
                      have hfz21_1 := blk_frozen BK651.out 1
                      have hfz21_2 := blk_frozen BK651.out 2
                      have p657 : 0 ≤ (x8_2 : Int) := of_decide_eq_true (by first | (with_reducible assumption) | assumption)
                      have q657 : x8_2 < (l0_1.length : Int) := of_decide_eq_true (by first | (with_reducible assumption) | assumption)
                      obtain ⟨ad657, e657, hx657_0⟩ := Kd.at_int HR0_1.out x8_2 p657 q657
                      cases e657
                      replace hx657_0 := (HB.out.cell (World.block_lt_of_cell? w _ hx657_0)).trans hx657_0
                      replace p657 := eq_true p657
                      replace q657 := eq_true q657
                      have p658 : 0 ≤ ((rd l0_1 x8_2) : Int) := of_decide_eq_true (by first | (with_reducible assumption) | assumption)
                      have q658 : (rd l0_1 x8_2) < (l1.length : Int) := of_decide_eq_true (by first | (with_reducible assumption) | assumption)
                      obtain ⟨ad658, e658, hx658_0⟩ := Kd.at_int HR1.out (rd l0_1 x8_2) p658 q658
                      cases e658
                      replace hx658_0 := (HB.out.cell (World.block_lt_of_cell? w _ hx658_0)).trans hx658_0
                      replace p658 := eq_true p658
                      replace q658 := eq_true q658
                      go_wp2
                      go_ret
                      exact ⟨by first | rfl | (simp [errW_none, errW_some] <;> rfl) | (simp [*, errW_none, errW_some] <;> rfl), by repeat (first | (with_reducible first | exact HB.out | apply below_alloc | apply pw_below_drewN | apply below_drew1 | refine below_set ?_ GE651.out) | exact HB.out)⟩
                    · rw [if_neg c20] at H
                      have c20b0 : ((rd l1 (rd l0_1 x8_2)) == 0) = false := beq_eq_false_iff_ne.mpr c20
                      have c20b1 : ((rd l1 (rd l0_1 x8_2)) != 0) = true := bne_iff_ne.mpr c20
                      by_cases c22 : x7_2.length < 17592186044416
                      · rw [if_pos c22] at H
                        have LMc22 := Aside0.mk c22
                        clear c22
                        obtain ⟨y661, hy661⟩ : ∃ y_ : List Int, y_ = (x7_2 ++ [rd l1 (rd l0_1 x8_2)]) := ⟨_, rfl⟩
                        replace H : (spec_RuleHolds.l0 k2 l1 y661 (wrap64 (x8_2 + 1)) a0_0 l0_1 a0_2) = some r := by first | (rw [hy661]; with_reducible exact H) | (have H2_ := (Option.bind_some _ _).symm.trans H; rw [hy661]; with_reducible exact H2_) | (have H2_ := (Option.bind_some _ _).symm.trans H; with_reducible exact H2_) | with_reducible exact H | (rw [hy661]; exact H) | exact H
                        have Ny661 := Aside0.mk hy661
                        clear hy661
                        have H' := Aside0.mk H
                        clear H
                        have hcz23_0 : wr.cell? ⟨gb651, 0, none⟩ = some (.int .i64 a0_0) := (blk_cell BK651.out 0).trans rfl
                        have hcz23_1 : wr.cell? ⟨gb651, 1, none⟩ = some (.slice A0_1 l0_1.length c0_1) := (blk_cell BK651.out 1).trans rfl
                        have hcz23_2 : wr.cell? ⟨gb651, 2, none⟩ = some (.int .i64 a0_2) := (blk_cell BK651.out 2).trans rfl
                        have hfz23_0 := blk_frozen BK651.out 0
                        have hfz23_1 := blk_frozen BK651.out 1
                        have hfz23_2 := blk_frozen BK651.out 2
                        have p657 : 0 ≤ (x8_2 : Int) := of_decide_eq_true (by first | (with_reducible assumption) | assumption)
                        have q657 : x8_2 < (l0_1.length : Int) := of_decide_eq_true (by first | (with_reducible assumption) | assumption)
                        obtain ⟨ad657, e657, hx657_0⟩ := Kd.at_int HR0_1.out x8_2 p657 q657
                        cases e657
                        replace hx657_0 := (HB.out.cell (World.block_lt_of_cell? w _ hx657_0)).trans hx657_0
                        replace p657 := eq_true p657
                        replace q657 := eq_true q657
                        have p658 : 0 ≤ ((rd l0_1 x8_2) : Int) := of_decide_eq_true (by first | (with_reducible assumption) | assumption)
                        have q658 : (rd l0_1 x8_2) < (l1.length : Int) := of_decide_eq_true (by first | (with_reducible assumption) | assumption)
                        obtain ⟨ad658, e658, hx658_0⟩ := Kd.at_int HR1.out (rd l0_1 x8_2) p658 q658
                        cases e658
                        replace hx658_0 := (HB.out.cell (World.block_lt_of_cell? w _ hx658_0)).trans hx658_0
                        replace p658 := eq_true p658
                        replace q658 := eq_true q658
                        have p659 : 0 ≤ (x8_2 : Int) := of_decide_eq_true (by first | (with_reducible assumption) | assumption)
                        have q659 : x8_2 < (l0_1.length : Int) := of_decide_eq_true (by first | (with_reducible assumption) | assumption)
                        obtain ⟨ad659, e659, hx659_0⟩ := Kd.at_int HR0_1.out x8_2 p659 q659
                        obtain rfl : ad657 = ad659 := (by injection e659)
                        replace hx659_0 := (HB.out.cell (World.block_lt_of_cell? w _ hx659_0)).trans hx659_0
                        replace p659 := eq_true p659
                        replace q659 := eq_true q659
                        have p660 : 0 ≤ ((rd l0_1 x8_2) : Int) := of_decide_eq_true (by first | (with_reducible assumption) | assumption)
                        have q660 : (rd l0_1 x8_2) < (l1.length : Int) := of_decide_eq_true (by first | (with_reducible assumption) | assumption)
                        obtain ⟨ad660, e660, hx660_0⟩ := Kd.at_int HR1.out (rd l0_1 x8_2) p660 q660
                        obtain rfl : ad658 = ad660 := (by injection e660)
                        replace hx660_0 := (HB.out.cell (World.block_lt_of_cell? w _ hx660_0)).trans hx660_0
                        replace p660 := eq_true p660
                        replace q660 := eq_true q660
                        go_wp2_with (first | ((with_reducible refine gate_builtin (b := .append) (xs := #[.tmp 36, .tmp 45]) rfl ?_); at_builtin; refine Kd.R_append (Kd.int .i64) (w0 := w) w.heap.size rfl (.tmp 36) (.tmp 45) 22 3 (.int .i64 0) 8 rfl Try.underlying22 info3 rfl (by decide) (by omega) u7 x7_2 (rd l1 (rd l0_1 x8_2)) [.int .i64 (rd l1 (rd l0_1 x8_2))] (fun _ => True) (fun _ => False) rfl rfl ?aP (fun _ hk => hk.elim) ?aF ?aO ?aB ?aS ?aL ?_; (case aP => exact rfl); (case aB => exact (by repeat (first | (with_reducible first | exact HB.out | apply below_alloc | apply pw_below_drewN | apply below_drew1 | refine below_set ?_ GE651.out) | exact HB.out))); (case aF => exact (fun _ _ => trivial)); (case aO => exact (by (with_reducible repeat (first | apply Kd.R_alloc | apply Kd.R_drewN | apply Kd.R_drew)); exact HO_7.out)); (case aS => exact (below_size (by repeat (first | (with_reducible first | exact HB.out | apply below_alloc | apply pw_below_drewN | apply below_drew1 | refine below_set ?_ GE651.out) | exact HB.out)))); (case aL => have := LMc22.out; omega); intro v662 w24 ho hb hg hat; rw [← Ny661.out] at ho; have n0_ := Aside0.mk (blk_grown (g := gb651) (o := .cells #[.int .i64 a0_0, .slice (some ad657) l0_1.length c0_1, .int .i64 a0_2] 32 (0, 0)) (by (with_reducible repeat (first | refine blk_drewN ?_ _ | refine blk_drew ?_ | refine blk_alloc ?_ _)); exact BK651.out) hg (Kd.R_ne HO_7.out BK651.out (by decide))); have n1_ := Aside0.mk (hb); have n2_ := Aside0.mk (ho); clear BK651; clear HB; clear HO_7; have BK651 := n0_; have HB := n1_; have HO663 := n2_; clear n0_ n1_ n2_; clear ho hb hg hat))
                        go_roundg k2
                        case measure => have := HJ3.out; have := HK2.out; omega
                        case rel => exact ⟨(y661), (wrap64 (x8_2 + 1)), (by first | rfl | (simp; done) | (simp [*]; done)), H', ⟨by have := HJ3.out; have := HK2.out; omega⟩, ⟨by (with_reducible repeat (first | apply Kd.R_alloc | apply Kd.R_drewN | apply Kd.R_drew)); exact HO663.out⟩, ⟨by (with_reducible repeat (first | refine blk_drewN ?_ _ | refine blk_drew ?_ | refine blk_alloc ?_ _)); exact BK651.out⟩, ⟨by repeat (first | (with_reducible first | exact HB.out | apply below_alloc | apply pw_below_drewN | apply below_drew1 | refine below_set ?_ GE651.out) | exact HB.out)⟩⟩
                      · rw [if_neg c22] at H
                        exact absurd H (by simp)
                  · rw [if_neg c19] at H
                    exact absurd H (by simp)
                · rw [if_neg c18] at H
                  exact absurd H (by simp)
              · rw [if_neg c17] at H
                exact absurd H (by simp)
            · rw [if_neg c16] at H
              have c16b0 : decide (x8_2 < (l0_1.length : Int)) = false := decide_eq_false c16
              clear c16
              replace H := Option.bind_eq_some_iff.mp H
              obtain ⟨t664, A250, H⟩ := H
              replace H : (some t664) = some r := H
              have A25 := Aside0.mk A250
              clear A250
              obtain rfl := Option.some.inj H
              have hcz26_0 : wr.cell? ⟨gb651, 0, none⟩ = some (.int .i64 a0_0) := (blk_cell BK651.out 0).trans rfl
              have hcz26_1 : wr.cell? ⟨gb651, 1, none⟩ = some (.slice A0_1 l0_1.length c0_1) := (blk_cell BK651.out 1).trans rfl
              have hcz26_2 : wr.cell? ⟨gb651, 2, none⟩ = some (.int .i64 a0_2) := (blk_cell BK651.out 2).trans rfl
              have hfz26_0 := blk_frozen BK651.out 0
              have hfz26_1 := blk_frozen BK651.out 1
              have hfz26_2 := blk_frozen BK651.out 2
              obtain ⟨Ao27, co27, eo27⟩ := Kd.R_slice HO_7.out
              subst eo27
              go_wp2_with (first | ((with_reducible refine gate_callee (f := 68) rfl ?_); refine goesL_ (some 49) rfl rfl Try.func68 (by kernel_rfl) rfl #[.agg #[.int .i64 a0_0, .slice A0_1 l0_1.length c0_1, .int .i64 a0_2], .slice Ao27 x7_2.length co27] rfl (by (try simp only [List.map_toArray, List.map_cons, List.map_nil]); first | done | rfl | (simp only [List.length_drop, List.length_take]; rfl)) ?_; (with_reducible refine (spec_l4Holds.calls k2 a0_0 _ _ l0_1 a0_2 _ _ x7_2 t664 _ ?side1 ?side2 ?side3 ?side4 A25.out).mono ?_); (case side1 => repeat (first | exact (Kd.C_below HR0_1.out HB.out) | (with_reducible refine Kd.C_alloc ?_ _) | (with_reducible refine Kd.C_drewN ?_ _) | (with_reducible refine Kd.C_drew ?_))); (case side2 => exact HC0_1.out); (case side3 => repeat (first | exact (Kd.R_reads' HO_7.out).2.2 | (with_reducible refine Kd.C_alloc ?_ _) | (with_reducible refine Kd.C_drewN ?_ _) | (with_reducible refine Kd.C_drew ?_))); (case side4 => exact (Kd.R_reads' HO_7.out).2.1); rintro e w28 ⟨rfl, hb⟩; refine ⟨_, rfl, ?_⟩; have n0_ := Aside0.mk (Kd.R_below (by (with_reducible repeat (first | apply Kd.R_alloc | apply Kd.R_drewN | apply Kd.R_drew)); exact HO_7.out) hb); have n1_ := Aside0.mk (blk_below (g := gb651) (o := .cells #[.int .i64 a0_0, .slice A0_1 l0_1.length c0_1, .int .i64 a0_2] 32 (0, 0)) (by (with_reducible repeat (first | refine blk_drewN ?_ _ | refine blk_drew ?_ | refine blk_alloc ?_ _)); exact BK651.out) hb); have n2_ := Aside0.mk (below_step (by repeat (first | (with_reducible first | exact HB.out | apply below_alloc | apply pw_below_drewN | apply below_drew1 | refine below_set ?_ GE651.out) | exact HB.out)) hb); clear HO_7; clear BK651; clear HB; have HO_7 := n0_; have BK651 := n1_; have HB := n2_; clear n0_ n1_ n2_; (try clear hb); (try clear hb2); (try clear hk); (try clear hi)))
              go_ret
              exact ⟨by first | rfl | (simp [errW_none, errW_some] <;> rfl) | (simp [*, errW_none, errW_some] <;> rfl), by repeat (first | (with_reducible first | exact HB.out | apply below_alloc | apply pw_below_drewN | apply below_drew1 | refine below_set ?_ GE651.out) | exact HB.out)⟩

end Go.Proofs.Ytaglakdahmepeaa.P
