/- The machine's side: each Go function as a plain Lean function and the proof that the machine's call does what that function says; written by this session's own program over the kit's print. -/
import Derived.Test.YthfbjkniinfgcaaZP1
import Derived.Test.YthfbjkniinfgcaaZP3
import Derived.Test.YthfbjkniinfgcaaZP4
namespace Go.Proofs.Ythfbjkniinfgcaa.P
open Go.RowKit Go.Proofs.YthfbjkniinfgcaaW.PrintWords Go.Proofs.YthfbjkniinfgcaaW.PrintLast Go.Proofs.YthfbjkniinfgcaaW.PrintMore
attribute [local go_sem] max2_int min2_int max_two min_two max_three min_three max_four min_four   -- for this text's walks alone
set_option linter.unusedVariables false
set_option linter.unusedSimpArgs false

/-! ### spec_NarrowRules: function 52 -/
mutual
def spec_NarrowRules.j0 : Nat → List Int → Bool → Int → List Int → List (S32) → Option (List Int)
  | 0, _, _, _, _, _ => none
  | k + 1, x1, x19, x752000, x752001, x752002 => if x19 = true then (some (([] : List Int))) else ((spec_l6Copy.f x1).bind fun t757 => (spec_NarrowRules.l0 k t757 0 x752000 x752001 x752002))
def spec_NarrowRules.l0 : Nat → List Int → Int → Int → List Int → List (S32) → Option (List Int)
  | 0, _, _, _, _, _ => none
  | k + 1, x5, x6, x752000, x752001, x752002 => if x6 < (x752002.length : Int) then (if 0 ≤ x6 then ((spec_RuleMasks.f k ((rd_T32 x752002 x6).f0) ((rd_T32 x752002 x6).f1) ((rd_T32 x752002 x6).f2) x5 x752000).bind fun t762 => (spec_NarrowRules.l1 k x5 x6 t762 0 x752000 x752001 x752002 ((rd_T32 x752002 x6).f0) ((rd_T32 x752002 x6).f1) ((rd_T32 x752002 x6).f2))) else (none)) else (some x5)
def spec_NarrowRules.l1 : Nat → List Int → Int → List Int → Int → Int → List Int → List (S32) → Int → List Int → Int → Option (List Int)
  | 0, _, _, _, _, _, _, _, _, _, _ => none
  | k + 1, x5, x6, x8, x9, x752000, x752001, x752002, x762000, x762001, x762002 => if x9 < (x762001.length : Int) then (if 0 ≤ x9 then (if x9 < (x8.length : Int) then (if 0 ≤ (rd x762001 x9) then (if (rd x762001 x9) < (x5.length : Int) then (spec_NarrowRules.l1 k (x5.set ((rd x762001 x9) : Int).toNat (rd x8 x9)) x6 x8 (wrap64 (x9 + 1)) x752000 x752001 x752002 x762000 x762001 x762002) else (none)) else (none)) else (none)) else (none)) else (spec_NarrowRules.l0 k x5 (wrap64 (x6 + 1)) x752000 x752001 x752002)
end
def spec_NarrowRules.f (k : Nat) (a0_0 : Int) (l0_1 : List Int) (l0_2 : List (S32)) (l1 : List Int) : Option (List Int) := (spec_PuzzleValid.f k a0_0 l0_1 l0_2).bind fun t752 => (if t752 = true then ((spec_MasksValid.f k l1 a0_0).bind fun t753 => (spec_NarrowRules.j0 k l1 (!t753) a0_0 l0_1 l0_2)) else (spec_NarrowRules.j0 k l1 true a0_0 l0_1 l0_2))
theorem spec_NarrowRules.mono_l : ∀ k, (∀ y0 y1 y2 y3 y4, LeO (spec_NarrowRules.j0 k y0 y1 y2 y3 y4) (spec_NarrowRules.j0 (k + 1) y0 y1 y2 y3 y4)) ∧ (∀ y0 y1 y2 y3 y4, LeO (spec_NarrowRules.l0 k y0 y1 y2 y3 y4) (spec_NarrowRules.l0 (k + 1) y0 y1 y2 y3 y4)) ∧ (∀ y0 y1 y2 y3 y4 y5 y6 y7 y8 y9, LeO (spec_NarrowRules.l1 k y0 y1 y2 y3 y4 y5 y6 y7 y8 y9) (spec_NarrowRules.l1 (k + 1) y0 y1 y2 y3 y4 y5 y6 y7 y8 y9))
  | 0 => ⟨fun _ _ _ _ _ r h => by simp [spec_NarrowRules.j0] at h, fun _ _ _ _ _ r h => by simp [spec_NarrowRules.l0] at h, fun _ _ _ _ _ _ _ _ _ _ r h => by simp [spec_NarrowRules.l1] at h⟩
  | k + 1 => by
    obtain ⟨ih0, ih1, ih2⟩ := spec_NarrowRules.mono_l k
    refine ⟨?_, ?_, ?_⟩
    · intro y0 y1 y2 y3 y4
      unfold spec_NarrowRules.j0
      repeat' first
      | (with_reducible exact ih0 _ _ _ _ _)
      | (with_reducible exact ih1 _ _ _ _ _)
      | (with_reducible exact ih2 _ _ _ _ _ _ _ _ _ _)
      | (with_reducible exact spec_MasksValid.mono _ _ _)
      | (with_reducible exact spec_PuzzleValid.mono _ _ _ _)
      | (with_reducible exact spec_RuleMasks.mono _ _ _ _ _ _)
      | (with_reducible exact LeO.refl _)
      | (with_reducible exact LeO.none _)
      | (with_reducible refine LeO.ite ?_ ?_)
      | (with_reducible refine LeO.bind ?_ (fun _ => ?_))
      | exact ih0 _ _ _ _ _
      | exact ih1 _ _ _ _ _
      | exact ih2 _ _ _ _ _ _ _ _ _ _
      | exact spec_MasksValid.mono _ _ _
      | exact spec_PuzzleValid.mono _ _ _ _
      | exact spec_RuleMasks.mono _ _ _ _ _ _
      | exact LeO.none _
      | refine LeO.ite ?_ ?_
      | refine LeO.bind ?_ (fun _ => ?_)
    · intro y0 y1 y2 y3 y4
      unfold spec_NarrowRules.l0
      repeat' first
      | (with_reducible exact ih0 _ _ _ _ _)
      | (with_reducible exact ih1 _ _ _ _ _)
      | (with_reducible exact ih2 _ _ _ _ _ _ _ _ _ _)
      | (with_reducible exact spec_MasksValid.mono _ _ _)
      | (with_reducible exact spec_PuzzleValid.mono _ _ _ _)
      | (with_reducible exact spec_RuleMasks.mono _ _ _ _ _ _)
      | (with_reducible exact LeO.refl _)
      | (with_reducible exact LeO.none _)
      | (with_reducible refine LeO.ite ?_ ?_)
      | (with_reducible refine LeO.bind ?_ (fun _ => ?_))
      | exact ih0 _ _ _ _ _
      | exact ih1 _ _ _ _ _
      | exact ih2 _ _ _ _ _ _ _ _ _ _
      | exact spec_MasksValid.mono _ _ _
      | exact spec_PuzzleValid.mono _ _ _ _
      | exact spec_RuleMasks.mono _ _ _ _ _ _
      | exact LeO.none _
      | refine LeO.ite ?_ ?_
      | refine LeO.bind ?_ (fun _ => ?_)
    · intro y0 y1 y2 y3 y4 y5 y6 y7 y8 y9
      unfold spec_NarrowRules.l1
      repeat' first
      | (with_reducible exact ih0 _ _ _ _ _)
      | (with_reducible exact ih1 _ _ _ _ _)
      | (with_reducible exact ih2 _ _ _ _ _ _ _ _ _ _)
      | (with_reducible exact spec_MasksValid.mono _ _ _)
      | (with_reducible exact spec_PuzzleValid.mono _ _ _ _)
      | (with_reducible exact spec_RuleMasks.mono _ _ _ _ _ _)
      | (with_reducible exact LeO.refl _)
      | (with_reducible exact LeO.none _)
      | (with_reducible refine LeO.ite ?_ ?_)
      | (with_reducible refine LeO.bind ?_ (fun _ => ?_))
      | exact ih0 _ _ _ _ _
      | exact ih1 _ _ _ _ _
      | exact ih2 _ _ _ _ _ _ _ _ _ _
      | exact spec_MasksValid.mono _ _ _
      | exact spec_PuzzleValid.mono _ _ _ _
      | exact spec_RuleMasks.mono _ _ _ _ _ _
      | exact LeO.none _
      | refine LeO.ite ?_ ?_
      | refine LeO.bind ?_ (fun _ => ?_)
theorem spec_NarrowRules.mono : ∀ a0 a1 a2 a3 k, LeO (spec_NarrowRules.f k a0 a1 a2 a3) (spec_NarrowRules.f (k + 1) a0 a1 a2 a3) := by
  intro a0 a1 a2 a3 k
  obtain ⟨ih0, ih1, ih2⟩ := spec_NarrowRules.mono_l k
  unfold spec_NarrowRules.f
  repeat' first
      | (with_reducible exact ih0 _ _ _ _ _)
      | (with_reducible exact ih1 _ _ _ _ _)
      | (with_reducible exact ih2 _ _ _ _ _ _ _ _ _ _)
      | (with_reducible exact spec_MasksValid.mono _ _ _)
      | (with_reducible exact spec_PuzzleValid.mono _ _ _ _)
      | (with_reducible exact spec_RuleMasks.mono _ _ _ _ _ _)
      | (with_reducible exact LeO.refl _)
      | (with_reducible exact LeO.none _)
      | (with_reducible refine LeO.ite ?_ ?_)
      | (with_reducible refine LeO.bind ?_ (fun _ => ?_))
      | exact ih0 _ _ _ _ _
      | exact ih1 _ _ _ _ _
      | exact ih2 _ _ _ _ _ _ _ _ _ _
      | exact spec_MasksValid.mono _ _ _
      | exact spec_PuzzleValid.mono _ _ _ _
      | exact spec_RuleMasks.mono _ _ _ _ _ _
      | exact LeO.none _
      | refine LeO.ite ?_ ?_
      | refine LeO.bind ?_ (fun _ => ?_)
def spec_NarrowRules.T12 : Bool × List (List Nat × List Nat) := (true, [([], []), ([], []), ([1], [1]), ([], []), ([2, 3], [2, 3]), ([4], [4]), ([], []), ([], []), ([6, 7], [6, 7]), ([8], [8]), ([0, 5, 0, 1, 2, 3, 4, 5, 6, 7, 8, 9], [0, 5]), ([10, 9, 0, 1, 2, 3, 4, 5, 6, 7, 8, 9], [9, 10])])
def spec_NarrowRules.B12 : List Nat := [0, 0, 2, 0, 14, 30, 0, 0, 192, 448, 1023, 2047]
theorem spec_NarrowRules.tab12 : rtab .any (opsOf Try.f52 12) = spec_NarrowRules.T12 := by kernel_rfl
theorem spec_NarrowRules.bits12 : waitsOk spec_NarrowRules.T12.2 spec_NarrowRules.B12 = true := by kernel_rfl
set_option maxHeartbeats 8000000 in
set_option maxRecDepth 100000 in
theorem spec_NarrowRules.calls (k : Nat) (a0_0 : Int) (A0_1 : Option Addr) (c0_1 : Nat) (l0_1 : List Int) (A0_2 : Option Addr) (c0_2 : Nat) (l0_2 : List (S32)) (A1 : Option Addr) (c1 : Nat) (l1 : List Int) (r : List Int) (w : World) (hr0_1 : Kd.C (Kd.int .i64) w A0_1 l0_1.length l0_1) (hc0_1 : l0_1.length ≤ c0_1) (hr0_2 : Kd.C k32 w A0_2 l0_2.length l0_2) (hc0_2 : l0_2.length ≤ c0_2) (hr1 : Kd.C (Kd.int .i64) w A1 l1.length l1) (hc1 : l1.length ≤ c1) (h : spec_NarrowRules.f k a0_0 l0_1 l0_2 l1 = some r) :
    Calls Try.prog 52 #[.agg #[.int .i64 a0_0, .slice A0_1 l0_1.length c0_1, .slice A0_2 l0_2.length c0_2], .slice A1 l1.length c1] w fun e w' => ∃ v0_ : Value, e = .returned (v0_) ∧ Kd.R (Kd.int .i64) 3 w' w.heap.size (fun _ => True) v0_ r ∧ Below w.heap.size w w' := by
  have hu43 := Try.underlying43
  have hu32 := Try.underlying32
  have HR0_1 := yam hr0_1
  have HC0_1 := yam hc0_1
  clear hr0_1 hc0_1
  have HR0_2 := yam hr0_2
  have HC0_2 := yam hc0_2
  clear hr0_2 hc0_2
  have HR1 := yam hr1
  have HC1 := yam hc1
  clear hr1 hc1
  have HB := yam (Below.refl w.heap.size w)
  have H : ((spec_PuzzleValid.f k a0_0 l0_1 l0_2).bind fun t752 => (if t752 = true then ((spec_MasksValid.f k l1 a0_0).bind fun t753 => (spec_NarrowRules.j0 k l1 (!t753) a0_0 l0_1 l0_2)) else (spec_NarrowRules.j0 k l1 true a0_0 l0_1 l0_2))) = some r := h
  clear h
  have HC3 := yam H
  clear H
  go_enter Try.func52, Try.ntmps52
  go_upto_region 1 with (first | ((with_reducible refine gate_dst (N := 2) rfl ?_); refine box_event ?hg (N := 2) ?hd (cs := #[.int .i64 a0_0, .slice A0_1 l0_1.length c0_1, .slice A0_2 l0_2.length c0_2]) (t := 43) ?hr ?_; (case hd => rfl); (case hg => rfl); (case hr => first | (go_simp; done) | (go_simp; rfl)); intro gb751 hg w4 hbox hb; have n0_ := yam (below_step (yez HB.out) hb); have n1_ := yam (hbox); have n2_ := yam ((by rw [hg]; exact (below_size (yez HB.out)) : w.heap.size ≤ gb751)); have n3_ := yam ((by rw [hg]; exact (below_size (yez HB.out)) : w.heap.size ≤ gb751)); clear HB; have HB := n0_; have BK751 := n1_; have GW751 := n2_; have GE751 := n3_; clear n0_ n1_ n2_ n3_; clear hb hbox hg))
  (try simp only [Act.put, yps])
  go_cut [19] (fun v19 wc => ∃ (kq : Nat) (x19_2 : Bool), v19 = .bool x19_2 ∧ Aside0 (spec_NarrowRules.j0 kq l1 x19_2 a0_0 l0_1 l0_2 = some r) ∧ Aside0 (kq ≤ k) ∧ Aside0 (wc.heap[gb751]? = some (.cells #[.int .i64 a0_0, (.slice A0_1 l0_1.length c0_1), (.slice A0_2 l0_2.length c0_2)] 43 (0, 0))) ∧ Aside0 (Below w.heap.size w wc))
  case first =>
    have H := HC3.out
    clear HC3
    replace H := Option.bind_eq_some_iff.mp H
    obtain ⟨t752, A50, H⟩ := H
    try dsimp only at H
    have A5 := yam A50
    clear A50
    by_cases c6 : t752 = true
    rotate_left
    · replace c6 := Bool.eq_false_iff.mpr c6
      subst c6
      have H1 : (spec_NarrowRules.j0 k l1 true a0_0 l0_1 l0_2) = some r := by rw [if_neg (show ¬ (false = true) by decide)] at H; exact H
      clear H
      have H := H1
      clear H1
      have H' := yam H
      clear H
      have hcz11_0 : w4.cell? ⟨gb751, 0, none⟩ = some (.int .i64 a0_0) := (blk_cell BK751.out 0).trans rfl
      have hcz11_1 : w4.cell? ⟨gb751, 1, none⟩ = some (.slice A0_1 l0_1.length c0_1) := (blk_cell BK751.out 1).trans rfl
      have hcz11_2 : w4.cell? ⟨gb751, 2, none⟩ = some (.slice A0_2 l0_2.length c0_2) := (blk_cell BK751.out 2).trans rfl
      have hfz11_0 := blk_frozen BK751.out 0
      have hfz11_1 := blk_frozen BK751.out 1
      have hfz11_2 := blk_frozen BK751.out 2
      go_wp2_with (first | ((with_reducible refine gate_callee (f := 26) rfl ?_); refine goesL_ (some 11) rfl rfl Try.func26 (by kernel_rfl) rfl #[.agg #[.int .i64 a0_0, .slice A0_1 l0_1.length c0_1, .slice A0_2 l0_2.length c0_2]] rfl (by (try simp only [List.map_toArray, List.map_cons, List.map_nil]); first | done | rfl | (simp only [List.length_drop, List.length_take]; rfl)) ?_; (with_reducible refine (spec_PuzzleValid.calls k a0_0 _ _ l0_1 _ _ l0_2 false _ ?side1 ?side2 ?side3 ?side4 A5.out).mono ?_); (case side1 => exact Kd.Cz ((Kd.C_below HR0_1.out HB.out))); (case side2 => exact HC0_1.out); (case side3 => exact Kd.Cz ((Kd.C_below HR0_2.out HB.out))); (case side4 => exact HC0_2.out); rintro e w12 ⟨rfl, hb⟩; refine ⟨_, rfl, ?_⟩; have n0_ := yam (blk_below (g := gb751) (o := .cells #[.int .i64 a0_0, .slice A0_1 l0_1.length c0_1, .slice A0_2 l0_2.length c0_2] 43 (0, 0)) (ybz BK751.out) hb); have n1_ := yam (below_step (by repeat (first | (with_reducible first | exact HB.out | apply yea | apply yen | apply yed | refine below_set ?_ GE751.out) | exact HB.out)) hb); clear BK751; clear HB; have BK751 := n0_; have HB := n1_; clear n0_ n1_; (try clear hb); (try clear hb2); (try clear hk); (try clear hi)))
      go_meet
      case rel => exact ⟨_, (true), (by first | rfl | (simp; done) | (simp [*]; done)), H', ⟨by first | omega | exact Nat.le_refl _⟩, ⟨by (with_reducible repeat (first | refine ybn ?_ _ | refine ybd ?_ | refine yba ?_ _)); exact BK751.out⟩, ⟨by repeat (first | (with_reducible first | exact HB.out | apply yea | apply yen | apply yed | refine below_set ?_ GE751.out) | exact HB.out)⟩⟩
    subst c6
    have H1 : ((spec_MasksValid.f k l1 a0_0).bind fun t753 => (spec_NarrowRules.j0 k l1 (!t753) a0_0 l0_1 l0_2)) = some r := by rw [if_pos rfl] at H; exact H
    clear H
    have H := H1
    clear H1
    replace H := Option.bind_eq_some_iff.mp H
    obtain ⟨t753, A70, H⟩ := H
    try dsimp only at H
    have A7 := yam A70
    clear A70
    have H' := yam H
    clear H
    have hcz8_0 : w4.cell? ⟨gb751, 0, none⟩ = some (.int .i64 a0_0) := (blk_cell BK751.out 0).trans rfl
    have hcz8_1 : w4.cell? ⟨gb751, 1, none⟩ = some (.slice A0_1 l0_1.length c0_1) := (blk_cell BK751.out 1).trans rfl
    have hcz8_2 : w4.cell? ⟨gb751, 2, none⟩ = some (.slice A0_2 l0_2.length c0_2) := (blk_cell BK751.out 2).trans rfl
    have hfz8_0 := blk_frozen BK751.out 0
    have hfz8_1 := blk_frozen BK751.out 1
    have hfz8_2 := blk_frozen BK751.out 2
    go_wp2_with (first | ((with_reducible refine gate_callee (f := 26) rfl ?_); refine goesL_ (some 11) rfl rfl Try.func26 (by kernel_rfl) rfl #[.agg #[.int .i64 a0_0, .slice A0_1 l0_1.length c0_1, .slice A0_2 l0_2.length c0_2]] rfl (by (try simp only [List.map_toArray, List.map_cons, List.map_nil]); first | done | rfl | (simp only [List.length_drop, List.length_take]; rfl)) ?_; (with_reducible refine (spec_PuzzleValid.calls k a0_0 _ _ l0_1 _ _ l0_2 true _ ?side1 ?side2 ?side3 ?side4 A5.out).mono ?_); (case side1 => exact Kd.Cz ((Kd.C_below HR0_1.out HB.out))); (case side2 => exact HC0_1.out); (case side3 => exact Kd.Cz ((Kd.C_below HR0_2.out HB.out))); (case side4 => exact HC0_2.out); rintro e w9 ⟨rfl, hb⟩; refine ⟨_, rfl, ?_⟩; have n0_ := yam (blk_below (g := gb751) (o := .cells #[.int .i64 a0_0, .slice A0_1 l0_1.length c0_1, .slice A0_2 l0_2.length c0_2] 43 (0, 0)) (ybz BK751.out) hb); have n1_ := yam (below_step (by repeat (first | (with_reducible first | exact HB.out | apply yea | apply yen | apply yed | refine below_set ?_ GE751.out) | exact HB.out)) hb); clear BK751; clear HB; have BK751 := n0_; have HB := n1_; clear n0_ n1_; (try clear hb); (try clear hb2); (try clear hk); (try clear hi); have hcz10_0 : w9.cell? ⟨gb751, 0, none⟩ = some (.int .i64 a0_0) := (blk_cell BK751.out 0).trans rfl; have hcz10_1 : w9.cell? ⟨gb751, 1, none⟩ = some (.slice A0_1 l0_1.length c0_1) := (blk_cell BK751.out 1).trans rfl; have hcz10_2 : w9.cell? ⟨gb751, 2, none⟩ = some (.slice A0_2 l0_2.length c0_2) := (blk_cell BK751.out 2).trans rfl; have hfz10_0 := blk_frozen BK751.out 0; have hfz10_1 := blk_frozen BK751.out 1; have hfz10_2 := blk_frozen BK751.out 2) | (go_at_call 75; (with_reducible refine (spec_MasksValid.calls k _ _ l1 a0_0 t753 _ ?side1 ?side2 A7.out).mono ?_); (case side1 => exact Kd.Cz ((Kd.C_below HR1.out HB.out))); (case side2 => exact HC1.out); rintro e w' ⟨rfl, ⟨nd, rfl⟩⟩))
    go_meet
    case rel => exact ⟨_, (!t753), (by first | rfl | (simp; done) | (simp [*]; done)), H', ⟨by first | omega | exact Nat.le_refl _⟩, ⟨by (with_reducible repeat (first | refine ybn ?_ _ | refine ybd ?_ | refine yba ?_ _)); exact BK751.out⟩, ⟨by repeat (first | (with_reducible first | exact HB.out | apply yea | apply yen | apply yed | refine below_set ?_ GE751.out) | exact HB.out)⟩⟩
  case rest =>
    clear HC3
    try clear c1
    try clear c2
    try clear p2
    try clear c5
    try clear c6
    try clear hcz10_0
    try clear hcz10_1
    try clear hcz10_2
    try clear hcz11_0
    try clear hcz11_1
    try clear hcz11_2
    try clear hcz8_0
    try clear hcz8_1
    try clear hcz8_2
    try clear hfz10_0
    try clear hfz10_1
    try clear hfz10_2
    try clear hfz11_0
    try clear hfz11_1
    try clear hfz11_2
    try clear hfz8_0
    try clear hfz8_1
    try clear hfz8_2
    obtain ⟨kq, x19_2, rfl, HA, HJ2, BK751, HB⟩ := hcut
    cases kq with
    | zero => exact absurd HA.out (by simp [spec_NarrowRules.j0])
    | succ kj2 =>
      have H := HA.out
      clear HA
      simp only [spec_NarrowRules.j0] at H
      by_cases c13 : x19_2 = true
      · subst c13
        have H1 : (some (([] : List Int))) = some r := by rw [if_pos rfl] at H; exact H
        clear H
        have H := H1
        clear H1
        obtain ⟨y754, hy754⟩ : ∃ y_ : List Int, y_ = (([] : List Int)) := ⟨_, rfl⟩
        replace H : (some y754) = some r := by first | (rw [hy754]; with_reducible exact H) | (have H2_ := (Option.bind_some _ _).symm.trans H; rw [hy754]; with_reducible exact H2_) | (have H2_ := (Option.bind_some _ _).symm.trans H; with_reducible exact H2_) | with_reducible exact H | (rw [hy754]; exact H) | exact H
        have Ny754 := yam hy754
        clear hy754
        obtain rfl := Option.some.inj H
        go_wp2_with (first | ((with_reducible refine gate_dst (N := 20) rfl ?_); refine Kd.R_lit (Kd.int .i64) _ 3 ?hg (N := 20) ?hd (xs := ([] : List Int)) (inner := []) (ok := fun _ => True) (okp := fun _ => True) ?hr ?hp (fun _ hk => hk) trivial (Below.refl _ _) (Nat.le_refl _) (by simp) ?_; (case hd => rfl); (case hg => rfl); (case hr => first | (go_simp; done) | (go_simp; rfl)); (case hp => exact (Reps.none _ _)); intro v755 w14 ho15 hb hg_ hnew_; clear hg_ hnew_; (first | rw [← Ny754.out] at ho15 | (simp only [Int.reduceToNat] at ho15; rw [← Ny754.out] at ho15)); have n0_ := yam (Kd.R_lower ho15 (below_size (by repeat (first | (with_reducible first | exact HB.out | apply yea | apply yen | apply yed | refine below_set ?_ GE751.out) | exact HB.out)))); have n1_ := yam (blk_below (g := gb751) (o := .cells #[.int .i64 a0_0, .slice A0_1 l0_1.length c0_1, .slice A0_2 l0_2.length c0_2] 43 (0, 0)) (ybz BK751.out) hb); have n2_ := yam (below_step (by repeat (first | (with_reducible first | exact HB.out | apply yea | apply yen | apply yed | refine below_set ?_ GE751.out) | exact HB.out)) hb); clear BK751; clear HB; have HO756 := n0_; have BK751 := n1_; have HB := n2_; clear n0_ n1_ n2_; clear hb ho15))
        go_ret
        exact ⟨_, by first | rfl | (simp [errW_none, errW_some] <;> rfl) | (simp [*, errW_none, errW_some] <;> rfl), by (with_reducible repeat (first | apply Kd.Ya | apply Kd.Yn | apply Kd.Yd)); exact HO756.out, by repeat (first | (with_reducible first | exact HB.out | apply yea | apply yen | apply yed | refine below_set ?_ GE751.out) | exact HB.out)⟩
      replace c13 := Bool.eq_false_iff.mpr c13
      subst c13
      have H1 : ((spec_l6Copy.f l1).bind fun t757 => (spec_NarrowRules.l0 kj2 t757 0 a0_0 l0_1 l0_2)) = some r := by rw [if_neg (show ¬ (false = true) by decide)] at H; exact H
      clear H
      have H := H1
      clear H1
      replace H := Option.bind_eq_some_iff.mp H
      obtain ⟨t757, A160, H⟩ := H
      try dsimp only at H
      have A16 := yam A160
      clear A160
      have H' := yam H
      clear H
      go_wp2_with (first | ((with_reducible refine gate_callee (f := 85) rfl ?_); refine goesL_ (some 22) rfl rfl Try.func85 (by kernel_rfl) rfl #[.slice A1 l1.length c1] rfl (by (try simp only [List.map_toArray, List.map_cons, List.map_nil]); first | done | rfl | (simp only [List.length_drop, List.length_take]; rfl)) ?_; (with_reducible refine (spec_l6Copy.calls _ _ l1 t757 _ ?side1 ?side2 A16.out).mono ?_); (case side1 => exact Kd.Cz ((Kd.C_below HR1.out HB.out))); (case side2 => exact HC1.out); rintro e w17 ⟨v758, rfl, ho0, hb⟩; refine ⟨_, rfl, ?_⟩; have n0_ := yam (Kd.R_lower ho0 (below_size (by repeat (first | (with_reducible first | exact HB.out | apply yea | apply yen | apply yed | refine below_set ?_ GE751.out) | exact HB.out)))); have n1_ := yam (blk_below (g := gb751) (o := .cells #[.int .i64 a0_0, .slice A0_1 l0_1.length c0_1, .slice A0_2 l0_2.length c0_2] 43 (0, 0)) (ybz BK751.out) hb); have n2_ := yam (below_step (by repeat (first | (with_reducible first | exact HB.out | apply yea | apply yen | apply yed | refine below_set ?_ GE751.out) | exact HB.out)) hb); clear BK751; clear HB; have HO759 := n0_; have BK751 := n1_; have HB := n2_; clear n0_ n1_ n2_; (try clear hb); (try clear hb2); (try clear hk); (try clear hi); (try clear ho0)))
      go_loopg [6] kj2 (fun kq v6 w' => ∃ (x5_2 : List Int) (x6_2 : Int), v6 = .int .i64 x6_2 ∧ Aside0 (spec_NarrowRules.l0 kq x5_2 x6_2 a0_0 l0_1 l0_2 = some r) ∧ Aside0 (kq ≤ kj2) ∧ Aside0 (Kd.R (Kd.int .i64) 3 w' w.heap.size (fun _ => True) v758 x5_2) ∧ Aside0 (w'.heap[gb751]? = some (.cells #[.int .i64 a0_0, (.slice A0_1 l0_1.length c0_1), (.slice A0_2 l0_2.length c0_2)] 43 (0, 0))) ∧ Aside0 (Below w.heap.size w w'))
      case atStart => exact ⟨(t757), (0), (by first | rfl | (simp; done) | (simp [*]; done)), H', ⟨Nat.le_refl _⟩, ⟨by (with_reducible repeat (first | apply Kd.Ya | apply Kd.Yn | apply Kd.Yd)); exact HO759.out⟩, ⟨by (with_reducible repeat (first | refine ybn ?_ _ | refine ybd ?_ | refine yba ?_ _)); exact BK751.out⟩, ⟨by repeat (first | (with_reducible first | exact HB.out | apply yea | apply yen | apply yed | refine below_set ?_ GE751.out) | exact HB.out)⟩⟩
      case round =>
        clear H'
        try clear c1
        try clear c2
        try clear p2
        try clear c5
        try clear c6
        try clear c8
        try clear c13
        try clear hcz10_0
        try clear hcz10_1
        try clear hcz10_2
        try clear hcz11_0
        try clear hcz11_1
        try clear hcz11_2
        try clear hcz8_0
        try clear hcz8_1
        try clear hcz8_2
        try clear hfz10_0
        try clear hfz10_1
        try clear hfz10_2
        try clear hfz11_0
        try clear hfz11_1
        try clear hfz11_2
        try clear hfz8_0
        try clear hfz8_1
        try clear hfz8_2
        try clear p2
        obtain ⟨x5_2, x6_2, rfl, HA, HK2, HO_5, BK751, HB⟩ := hrel
        cases gk with
        | zero => exact absurd HA.out (by simp [spec_NarrowRules.l0])
        | succ k2 =>
          have H := HA.out
          clear HA
          simp only [spec_NarrowRules.l0] at H
          by_cases c18 : x6_2 < (l0_2.length : Int)
          rotate_left
          · rw [if_neg c18] at H
            have c18b0 : decide (x6_2 < (l0_2.length : Int)) = false := decide_eq_false c18
            clear c18
            obtain rfl := Option.some.inj H
            have hcz41_0 : wr.cell? ⟨gb751, 0, none⟩ = some (.int .i64 a0_0) := (blk_cell BK751.out 0).trans rfl
            have hcz41_1 : wr.cell? ⟨gb751, 1, none⟩ = some (.slice A0_1 l0_1.length c0_1) := (blk_cell BK751.out 1).trans rfl
            have hcz41_2 : wr.cell? ⟨gb751, 2, none⟩ = some (.slice A0_2 l0_2.length c0_2) := (blk_cell BK751.out 2).trans rfl
            have hfz41_0 := blk_frozen BK751.out 0
            have hfz41_1 := blk_frozen BK751.out 1
            have hfz41_2 := blk_frozen BK751.out 2
            go_wp2
            go_ret
            exact ⟨_, by first | rfl | (simp [errW_none, errW_some] <;> rfl) | (simp [*, errW_none, errW_some] <;> rfl), by (with_reducible repeat (first | apply Kd.Ya | apply Kd.Yn | apply Kd.Yd)); exact HO_5.out, by repeat (first | (with_reducible first | exact HB.out | apply yea | apply yen | apply yed | refine below_set ?_ GE751.out) | exact HB.out)⟩

          rw [if_pos c18] at H
          have c18b0 : decide (x6_2 < (l0_2.length : Int)) = true := decide_eq_true c18
          clear c18
          by_cases c19 : 0 ≤ x6_2
          rotate_left
          · rw [if_neg c19] at H
            exact absurd H (by simp)
          rw [if_pos c19] at H
          have c19b0 : decide (0 ≤ x6_2) = true := decide_eq_true c19
          clear c19
          replace H := Option.bind_eq_some_iff.mp H
          obtain ⟨t762, A200, H⟩ := H
          try dsimp only at H
          have A20 := yam A200
          clear A200
          have H' := yam H
          clear H
          have hcz21_0 : wr.cell? ⟨gb751, 0, none⟩ = some (.int .i64 a0_0) := (blk_cell BK751.out 0).trans rfl
          have hcz21_1 : wr.cell? ⟨gb751, 1, none⟩ = some (.slice A0_1 l0_1.length c0_1) := (blk_cell BK751.out 1).trans rfl
          have hcz21_2 : wr.cell? ⟨gb751, 2, none⟩ = some (.slice A0_2 l0_2.length c0_2) := (blk_cell BK751.out 2).trans rfl
          have hfz21_0 := blk_frozen BK751.out 0
          have hfz21_1 := blk_frozen BK751.out 1
          have hfz21_2 := blk_frozen BK751.out 2
          have p760 : 0 ≤ (x6_2 : Int) := of_decide_eq_true (by first | (with_reducible assumption) | assumption)
          have q760 : x6_2 < (l0_2.length : Int) := of_decide_eq_true (by first | (with_reducible assumption) | assumption)
          obtain ⟨ad760, A760_1, c760_1, e760, hx760_0, hx760_1, hx760_2, hl760_1, hi760_1⟩ := at_T32 HR0_2.out x6_2 p760 q760
          cases e760
          replace hx760_0 := (HB.out.cell (World.block_lt_of_cell? w _ hx760_0)).trans hx760_0
          replace hx760_1 := (HB.out.cell (World.block_lt_of_cell? w _ hx760_1)).trans hx760_1
          replace hx760_2 := (HB.out.cell (World.block_lt_of_cell? w _ hx760_2)).trans hx760_2
          have HR760_1 := yam hi760_1
          have HC760_1 := yam hl760_1
          clear hi760_1 hl760_1
          replace p760 := eq_true p760
          replace q760 := eq_true q760
          go_wp2_with (first | ((with_reducible refine gate_dst (N := 7) rfl ?_); refine box_event ?hg (N := 7) ?hd (cs := #[.int .i64 0, .slice none 0 0, .int .i64 0]) (t := 32) ?hr ?_; (case hd => rfl); (case hg => rfl); (case hr => first | (go_simp; done) | (go_simp; rfl)); intro gb761 hg w22 hbox hb; have n0_ := yam (Kd.R_below (Kd.Yz HO_5.out) hb); have n1_ := yam (blk_below (g := gb751) (o := .cells #[.int .i64 a0_0, .slice A0_1 l0_1.length c0_1, .slice (some ad760) l0_2.length c0_2] 43 (0, 0)) (ybz BK751.out) hb); have n2_ := yam (below_step (by repeat (first | (with_reducible first | exact HB.out | apply yea | apply yen | apply yed | refine below_set ?_ GE751.out) | exact HB.out)) hb); have n3_ := yam (hbox); have n4_ := yam ((by rw [hg]; exact (below_size (by repeat (first | (with_reducible first | exact HB.out | apply yea | apply yen | apply yed | refine below_set ?_ GE751.out) | exact HB.out))) : w.heap.size ≤ gb761)); have n5_ := yam ((by rw [hg]; exact (below_size (by repeat (first | (with_reducible first | exact HB.out | apply yea | apply yen | apply yed | refine below_set ?_ GE751.out) | exact HB.out))) : w.heap.size ≤ gb761)); have n6_ := yam ((by rw [hg]; exact Nat.ne_of_lt (blk_lt (g := gb751) (o := .cells #[.int .i64 a0_0, .slice A0_1 l0_1.length c0_1, .slice (some ad760) l0_2.length c0_2] 43 (0, 0)) (ybz BK751.out)) : gb751 ≠ gb761)); have n7_ := yam ((by rw [hg]; exact Nat.ne_of_gt (blk_lt (g := gb751) (o := .cells #[.int .i64 a0_0, .slice A0_1 l0_1.length c0_1, .slice (some ad760) l0_2.length c0_2] 43 (0, 0)) (ybz BK751.out)) : gb761 ≠ gb751)); clear HO_5; clear BK751; clear HB; have HO_5 := n0_; have BK751 := n1_; have HB := n2_; have BK761 := n3_; have GW761 := n4_; have GE761 := n5_; have NB751_761 := n6_; have NB761_751 := n7_; clear n0_ n1_ n2_ n3_ n4_ n5_ n6_ n7_; clear hb hbox hg; have hnb23 := NB761_751.out; have hnc23 := NB751_761.out; have hcz24_0 : w22.cell? ⟨gb761, 0, none⟩ = some (.int .i64 0) := (blk_cell BK761.out 0).trans rfl; have hcz24_1 : w22.cell? ⟨gb761, 1, none⟩ = some (.slice none 0 0) := (blk_cell BK761.out 1).trans rfl; have hcz24_2 : w22.cell? ⟨gb761, 2, none⟩ = some (.int .i64 0) := (blk_cell BK761.out 2).trans rfl; have hfz24_0 := blk_frozen BK761.out 0; have hfz24_1 := blk_frozen BK761.out 1; have hfz24_2 := blk_frozen BK761.out 2; have hcz25_0 : w22.cell? ⟨gb751, 0, none⟩ = some (.int .i64 a0_0) := (blk_cell BK751.out 0).trans rfl; have hcz25_1 : w22.cell? ⟨gb751, 1, none⟩ = some (.slice A0_1 l0_1.length c0_1) := (blk_cell BK751.out 1).trans rfl; have hcz25_2 : w22.cell? ⟨gb751, 2, none⟩ = some (.slice (some ad760) l0_2.length c0_2) := (blk_cell BK751.out 2).trans rfl; have hfz25_0 := blk_frozen BK751.out 0; have hfz25_1 := blk_frozen BK751.out 1; have hfz25_2 := blk_frozen BK751.out 2; obtain ⟨Ao26, co26, eo26⟩ := Kd.R_slice HO_5.out; subst eo26) | ((with_reducible refine gate_callee (f := 31) rfl ?_); refine goesL_ (some 39) rfl rfl Try.func31 (by kernel_rfl) rfl #[.agg #[.int .i64 ((rd_T32 l0_2 x6_2).f0), .slice A760_1 ((rd_T32 l0_2 x6_2).f1).length c760_1, .int .i64 ((rd_T32 l0_2 x6_2).f2)], .slice Ao26 x5_2.length co26, .int .i64 a0_0] rfl (by (try simp only [List.map_toArray, List.map_cons, List.map_nil]); first | done | rfl | (simp only [List.length_drop, List.length_take]; rfl)) ?_; (with_reducible refine (spec_RuleMasks.calls k2 ((rd_T32 l0_2 x6_2).f0) _ _ ((rd_T32 l0_2 x6_2).f1) ((rd_T32 l0_2 x6_2).f2) _ _ x5_2 a0_0 t762 _ ?side1 ?side2 ?side3 ?side4 A20.out).mono ?_); (case side1 => exact Kd.C_below HR760_1.out (by repeat (first | (with_reducible first | exact HB.out | apply yea | apply yen | apply yed | refine below_set ?_ GE751.out | refine below_set ?_ GE761.out) | exact HB.out))); (case side2 => exact HC760_1.out); (case side3 => refine (Kd.Yr (e := 3) (base := w.heap.size) (ok := fun k_ => True) (n := x5_2.length) (c := co26) ?_).2.2; exact (by (with_reducible repeat (first | apply Kd.Ya | apply Kd.Yn | apply Kd.Yd)); exact (Kd.R_mono (Kd.R_far (p := ⟨gb761, 2, none⟩) (Kd.R_far (p := ⟨gb761, 1, none⟩) (Kd.R_far (p := ⟨gb761, 0, none⟩) (Kd.R_types HO_5.out BK761.out (by decide)) (fun _ hk => hk.2) (.int .i64 ((rd_T32 l0_2 x6_2).f0))) (fun _ hk => hk.2) (.slice A760_1 ((rd_T32 l0_2 x6_2).f1).length c760_1)) (fun _ hk => hk.2) (.int .i64 ((rd_T32 l0_2 x6_2).f2))) (fun _ h_ => h_.1)))); (case side4 => exact (Kd.Yr HO_5.out).2.1); rintro e w27 ⟨v763, rfl, ho0, hb⟩; refine ⟨_, rfl, ?_⟩; have n0_ := yam (Kd.Ye (by (with_reducible repeat (first | apply Kd.Ya | apply Kd.Yn | apply Kd.Yd)); exact (Kd.R_mono (Kd.R_far (p := ⟨gb761, 2, none⟩) (Kd.R_far (p := ⟨gb761, 1, none⟩) (Kd.R_far (p := ⟨gb761, 0, none⟩) (Kd.R_types HO_5.out BK761.out (by decide)) (fun _ hk => hk.2) (.int .i64 ((rd_T32 l0_2 x6_2).f0))) (fun _ hk => hk.2) (.slice A760_1 ((rd_T32 l0_2 x6_2).f1).length c760_1)) (fun _ hk => hk.2) (.int .i64 ((rd_T32 l0_2 x6_2).f2))) (fun _ h_ => h_.1))) (Kd.Yb ho0) hb); have n1_ := yam (Kd.R_lower (Kd.Yw ho0 (Kd.R_lt (by (with_reducible repeat (first | apply Kd.Ya | apply Kd.Yn | apply Kd.Yd)); exact (Kd.R_mono (Kd.R_far (p := ⟨gb761, 2, none⟩) (Kd.R_far (p := ⟨gb761, 1, none⟩) (Kd.R_far (p := ⟨gb761, 0, none⟩) (Kd.R_types HO_5.out BK761.out (by decide)) (fun _ hk => hk.2) (.int .i64 ((rd_T32 l0_2 x6_2).f0))) (fun _ hk => hk.2) (.slice A760_1 ((rd_T32 l0_2 x6_2).f1).length c760_1)) (fun _ hk => hk.2) (.int .i64 ((rd_T32 l0_2 x6_2).f2))) (fun _ h_ => h_.1))))) (below_size (by repeat (first | (with_reducible first | exact HB.out | apply yea | apply yen | apply yed | refine below_set ?_ GE751.out | refine below_set ?_ GE761.out) | exact HB.out)))); have n2_ := yam (blk_below (g := gb751) (o := .cells #[.int .i64 a0_0, .slice A0_1 l0_1.length c0_1, .slice (some ad760) l0_2.length c0_2] 43 (0, 0)) (by (with_reducible repeat (first | refine ybn ?_ _ | refine ybd ?_ | refine yba ?_ _)); refine blk_far ?_ NB751_761.out _; (with_reducible repeat (first | refine ybn ?_ _ | refine ybd ?_ | refine yba ?_ _)); refine blk_far ?_ NB751_761.out _; (with_reducible repeat (first | refine ybn ?_ _ | refine ybd ?_ | refine yba ?_ _)); refine blk_far ?_ NB751_761.out _; (with_reducible repeat (first | refine ybn ?_ _ | refine ybd ?_ | refine yba ?_ _)); exact BK751.out) hb); have n3_ := yam (blk_below (g := gb761) (o := .cells #[.int .i64 ((rd_T32 l0_2 x6_2).f0), .slice A760_1 ((rd_T32 l0_2 x6_2).f1).length c760_1, .int .i64 ((rd_T32 l0_2 x6_2).f2)] 32 (0, 0)) (by (with_reducible repeat (first | refine ybn ?_ _ | refine ybd ?_ | refine yba ?_ _)); refine blk_put (cs := #[.int .i64 ((rd_T32 l0_2 x6_2).f0), .slice A760_1 ((rd_T32 l0_2 x6_2).f1).length c760_1, .int .i64 0]) ?_ 2 _ rfl; (with_reducible repeat (first | refine ybn ?_ _ | refine ybd ?_ | refine yba ?_ _)); refine blk_put (cs := #[.int .i64 ((rd_T32 l0_2 x6_2).f0), .slice none 0 0, .int .i64 0]) ?_ 1 _ rfl; (with_reducible repeat (first | refine ybn ?_ _ | refine ybd ?_ | refine yba ?_ _)); refine blk_put (cs := #[.int .i64 0, .slice none 0 0, .int .i64 0]) ?_ 0 _ rfl; (with_reducible repeat (first | refine ybn ?_ _ | refine ybd ?_ | refine yba ?_ _)); exact BK761.out) hb); have n4_ := yam (below_step (by repeat (first | (with_reducible first | exact HB.out | apply yea | apply yen | apply yed | refine below_set ?_ GE751.out | refine below_set ?_ GE761.out) | exact HB.out)) hb); clear HO_5; clear BK751; clear BK761; clear HB; have HO_5 := n0_; have HO764 := n1_; have BK751 := n2_; have BK761 := n3_; have HB := n4_; clear n0_ n1_ n2_ n3_ n4_; (try clear hb); (try clear hb2); (try clear hk); (try clear hi); (try clear ho0)))
          go_loopg [9] k2 (fun kq v9 w' => ∃ (x5_3 : List Int) (x9_3 : Int), v9 = .int .i64 x9_3 ∧ Aside0 (spec_NarrowRules.l1 kq x5_3 x6_2 t762 x9_3 a0_0 l0_1 l0_2 ((rd_T32 l0_2 x6_2).f0) ((rd_T32 l0_2 x6_2).f1) ((rd_T32 l0_2 x6_2).f2) = some r) ∧ Aside0 (kq ≤ k2) ∧ Aside0 (Kd.R (Kd.int .i64) 3 w' w.heap.size (fun k_ => some k_ ≠ (v763 : Value).ownBlock) (.slice Ao26 x5_2.length co26) x5_3) ∧ Aside0 (Kd.R (Kd.int .i64) 3 w' w.heap.size (fun k_ => some k_ ≠ ((.slice Ao26 x5_2.length co26) : Value).ownBlock) v763 t762) ∧ Aside0 (w'.heap[gb751]? = some (.cells #[.int .i64 a0_0, (.slice A0_1 l0_1.length c0_1), (.slice (some ad760) l0_2.length c0_2)] 43 (0, 0))) ∧ Aside0 (w'.heap[gb761]? = some (.cells #[.int .i64 ((rd_T32 l0_2 x6_2).f0), (.slice A760_1 ((rd_T32 l0_2 x6_2).f1).length c760_1), .int .i64 ((rd_T32 l0_2 x6_2).f2)] 32 (0, 0))) ∧ Aside0 (Below w.heap.size w w'))
          case atStart => exact ⟨(x5_2), (0), (by first | rfl | (simp; done) | (simp [*]; done)), H', ⟨Nat.le_refl _⟩, ⟨by (with_reducible repeat (first | apply Kd.Ya | apply Kd.Yn | apply Kd.Yd)); exact Kd.R_mono HO_5.out (fun _ hk => hk.2)⟩, ⟨by (with_reducible repeat (first | apply Kd.Ya | apply Kd.Yn | apply Kd.Yd)); exact Kd.R_mono HO764.out (fun _ hk => hk.2)⟩, ⟨by (with_reducible repeat (first | refine ybn ?_ _ | refine ybd ?_ | refine yba ?_ _)); exact BK751.out⟩, ⟨by (with_reducible repeat (first | refine ybn ?_ _ | refine ybd ?_ | refine yba ?_ _)); exact BK761.out⟩, ⟨by repeat (first | (with_reducible first | exact HB.out | apply yea | apply yen | apply yed | refine below_set ?_ GE751.out | refine below_set ?_ GE761.out) | exact HB.out)⟩⟩
          case round =>
            clear H'
            try clear c1
            try clear c2
            try clear p2
            try clear c3
            try clear c5
            try clear c6
            try clear c7
            try clear p7
            try clear q7
            try clear hx7
            try clear c8
            try clear c13
            try clear c18
            try clear c18b0
            try clear c19
            try clear c19b0
            try clear c23
            try clear c26
            try clear hcz10_0
            try clear hcz10_1
            try clear hcz10_2
            try clear hcz11_0
            try clear hcz11_1
            try clear hcz11_2
            try clear hcz21_0
            try clear hcz21_1
            try clear hcz21_2
            try clear hcz24_0
            try clear hcz24_1
            try clear hcz24_2
            try clear hcz25_0
            try clear hcz25_1
            try clear hcz25_2
            try clear hcz8_0
            try clear hcz8_1
            try clear hcz8_2
            try clear hfz10_0
            try clear hfz10_1
            try clear hfz10_2
            try clear hfz11_0
            try clear hfz11_1
            try clear hfz11_2
            try clear hfz21_0
            try clear hfz21_1
            try clear hfz21_2
            try clear hfz24_0
            try clear hfz24_1
            try clear hfz24_2
            try clear hfz25_0
            try clear hfz25_1
            try clear hfz25_2
            try clear hfz8_0
            try clear hfz8_1
            try clear hfz8_2
            try clear hx760_0
            try clear hx760_1
            try clear hx760_2
            try clear p2
            try clear p760
            try clear q760
            obtain ⟨x5_3, x9_3, rfl, HA, HK3, HO_5, HO_8, BK751, BK761, HB⟩ := hrel
            have hl5_3 := (Kd.Yr HO_5.out).1
            rw [hl5_3] at HO_5
            (try simp only [hl5_3])
            (try simp only [hl5_3] at BK751)
            (try simp only [hl5_3] at BK761)
            (try simp only [hl5_3] at HO_8)
            cases gk with
            | zero => exact absurd HA.out (by simp [spec_NarrowRules.l1])
            | succ k3 =>
              have H := HA.out
              clear HA
              simp only [spec_NarrowRules.l1] at H
              by_cases c28 : x9_3 < (((rd_T32 l0_2 x6_2).f1).length : Int)
              rotate_left
              · rw [if_neg c28] at H
                have c28b0 : decide (x9_3 < (((rd_T32 l0_2 x6_2).f1).length : Int)) = false := decide_eq_false c28
                clear c28
                have H' := yam H
                clear H
                have hnb39 := NB761_751.out
                have hnc39 := NB751_761.out
                have hcz40_0 : wr.cell? ⟨gb761, 0, none⟩ = some (.int .i64 ((rd_T32 l0_2 x6_2).f0)) := (blk_cell BK761.out 0).trans rfl
                have hcz40_1 : wr.cell? ⟨gb761, 1, none⟩ = some (.slice A760_1 ((rd_T32 l0_2 x6_2).f1).length c760_1) := (blk_cell BK761.out 1).trans rfl
                have hcz40_2 : wr.cell? ⟨gb761, 2, none⟩ = some (.int .i64 ((rd_T32 l0_2 x6_2).f2)) := (blk_cell BK761.out 2).trans rfl
                have hfz40_0 := blk_frozen BK761.out 0
                have hfz40_1 := blk_frozen BK761.out 1
                have hfz40_2 := blk_frozen BK761.out 2
                go_wp2
                (try simp only [← hl5_3])
                go_roundg k3
                case measure => have := HJ2.out; have := HK2.out; have := HK3.out; omega
                case rel => exact ⟨(x5_3), (wrap64 (x6_2 + 1)), (by first | rfl | (simp; done) | (simp [*]; done)), H', ⟨by have := HJ2.out; have := HK2.out; have := HK3.out; omega⟩, ⟨by (try simp only [hl5_3]); (with_reducible repeat (first | apply Kd.Ya | apply Kd.Yn | apply Kd.Yd)); exact Kd.R_mono HO_5.out (fun _ hk => trivial)⟩, ⟨by (try simp only [hl5_3]); (with_reducible repeat (first | refine ybn ?_ _ | refine ybd ?_ | refine yba ?_ _)); exact BK751.out⟩, ⟨by repeat (first | (with_reducible first | exact HB.out | apply yea | apply yen | apply yed | refine below_set ?_ GE751.out | refine below_set ?_ GE761.out) | exact HB.out)⟩⟩
              rw [if_pos c28] at H
              have c28b0 : decide (x9_3 < (((rd_T32 l0_2 x6_2).f1).length : Int)) = true := decide_eq_true c28
              clear c28
              by_cases c29 : 0 ≤ x9_3
              rotate_left
              · rw [if_neg c29] at H
                exact absurd H (by simp)
              rw [if_pos c29] at H
              have c29b0 : decide (0 ≤ x9_3) = true := decide_eq_true c29
              clear c29
              by_cases c30 : x9_3 < (t762.length : Int)
              rotate_left
              · rw [if_neg c30] at H
                exact absurd H (by simp)
              rw [if_pos c30] at H
              have c30b0 : decide (x9_3 < (t762.length : Int)) = true := decide_eq_true c30
              clear c30
              by_cases c31 : 0 ≤ (rd ((rd_T32 l0_2 x6_2).f1) x9_3)
              rotate_left
              · rw [if_neg c31] at H
                exact absurd H (by simp)
              rw [if_pos c31] at H
              have c31b0 : decide (0 ≤ (rd ((rd_T32 l0_2 x6_2).f1) x9_3)) = true := decide_eq_true c31
              clear c31
              by_cases c32 : (rd ((rd_T32 l0_2 x6_2).f1) x9_3) < (x5_3.length : Int)
              rotate_left
              · rw [if_neg c32] at H
                exact absurd H (by simp)
              rw [if_pos c32] at H
              have c32b0 : decide ((rd ((rd_T32 l0_2 x6_2).f1) x9_3) < (x5_3.length : Int)) = true := decide_eq_true c32
              clear c32
              obtain ⟨y767, hy767⟩ : ∃ y_ : List Int, y_ = (x5_3.set ((rd ((rd_T32 l0_2 x6_2).f1) x9_3) : Int).toNat (rd t762 x9_3)) := ⟨_, rfl⟩
              replace H : (spec_NarrowRules.l1 k3 y767 x6_2 t762 (wrap64 (x9_3 + 1)) a0_0 l0_1 l0_2 ((rd_T32 l0_2 x6_2).f0) ((rd_T32 l0_2 x6_2).f1) ((rd_T32 l0_2 x6_2).f2)) = some r := by first | (rw [hy767]; with_reducible exact H) | (have H2_ := (Option.bind_some _ _).symm.trans H; rw [hy767]; with_reducible exact H2_) | (have H2_ := (Option.bind_some _ _).symm.trans H; with_reducible exact H2_) | with_reducible exact H | (rw [hy767]; exact H) | exact H
              have Ny767 := yam hy767
              clear hy767
              have H' := yam H
              clear H
              have hnb34 := NB761_751.out
              have hnc34 := NB751_761.out
              have hcz35_0 : wr.cell? ⟨gb761, 0, none⟩ = some (.int .i64 ((rd_T32 l0_2 x6_2).f0)) := (blk_cell BK761.out 0).trans rfl
              have hcz35_1 : wr.cell? ⟨gb761, 1, none⟩ = some (.slice A760_1 ((rd_T32 l0_2 x6_2).f1).length c760_1) := (blk_cell BK761.out 1).trans rfl
              have hcz35_2 : wr.cell? ⟨gb761, 2, none⟩ = some (.int .i64 ((rd_T32 l0_2 x6_2).f2)) := (blk_cell BK761.out 2).trans rfl
              have hfz35_0 := blk_frozen BK761.out 0
              have hfz35_1 := blk_frozen BK761.out 1
              have hfz35_2 := blk_frozen BK761.out 2
              try go_wp2
              have n0_ := yam (Kd.Yd HO_5.out)
              have n1_ := yam (Kd.Yd HO_8.out)
              have n2_ := yam (ybd BK751.out)
              have n3_ := yam (ybd BK761.out)
              have n4_ := yam (yed HB.out)
              clear HO_5
              clear HO_8
              clear BK751
              clear BK761
              clear HB
              have HO_5 := n0_
              have HO_8 := n1_
              have BK751 := n2_
              have BK761 := n3_
              have HB := n4_
              clear n0_ n1_ n2_ n3_ n4_
              have p765 : 0 ≤ (x9_3 : Int) := of_decide_eq_true (by first | (with_reducible assumption) | assumption)
              have q765 : x9_3 < (((rd_T32 l0_2 x6_2).f1).length : Int) := of_decide_eq_true (by first | (with_reducible assumption) | assumption)
              obtain ⟨ad765, e765, hx765_0⟩ := Kd.at_int HR760_1.out x9_3 p765 q765
              have hw765_0 := hx765_0
              cases e765
              replace hx765_0 := (HB.out.cell (World.block_lt_of_cell? w _ hx765_0)).trans hx765_0
              replace p765 := eq_true p765
              replace q765 := eq_true q765
              obtain ⟨Ao37, co37, eo37⟩ := Kd.R_slice HO_8.out
              (first | subst eo37 | (injection eo37 with f1_ f2_ f3_; have f4_ := f1_.symm; have f5_ := f3_.symm; clear f1_ f2_ f3_; subst f4_; subst f5_))
              have p766 : 0 ≤ (x9_3 : Int) := of_decide_eq_true (by first | (with_reducible assumption) | assumption)
              have q766 : x9_3 < (t762.length : Int) := of_decide_eq_true (by first | (with_reducible assumption) | assumption)
              obtain ⟨ad766, e766, hx766_0⟩ := Kd.at_int (Kd.Yr HO_8.out).2.2 x9_3 p766 q766
              cases e766
              replace p766 := eq_true p766
              replace q766 := eq_true q766
              have p33 : 0 ≤ ((rd ((rd_T32 l0_2 x6_2).f1) x9_3) : Int) := of_decide_eq_true (by first | (with_reducible assumption) | assumption)
              have q33 : ((rd ((rd_T32 l0_2 x6_2).f1) x9_3) : Int) < ((x5_3.length : Int) : Int) := of_decide_eq_true (by first | (with_reducible assumption) | assumption)
              obtain ⟨go33, co33, eo33, gb33, gl33, cl33, HG33⟩ := Kd.R_form HO_5.out (by omega)
              (first | cases eo33 | (injection eo33 with ea_ en_ ec_; (first | subst ea_ | (injection ea_ with ea_; subst ea_)); subst ec_; clear en_))
              have GB33 := yam gb33
              have GG33 := yam HG33
              clear gb33 gl33 HG33
              obtain ⟨hx33_0, hf33_0⟩ := Kd.R_celln 0 HO_5.out ((rd ((rd_T32 l0_2 x6_2).f1) x9_3) : Int) p33 q33
              replace p33 := eq_true p33
              replace q33 := eq_true q33
              have HP38 := Kd.R_putn HO_5.out ((rd ((rd_T32 l0_2 x6_2).f1) x9_3) : Int) (rd t762 x9_3)
              rw [← Ny767.out] at HP38
              have HQ38 := yam HP38
              clear HP38
              refine start_ (n := 12) (S := fun w' => w'.cell? ⟨gb761, 0, none⟩ = some (.int .i64 ((rd_T32 l0_2 x6_2).f0)) ∧ w'.cell? ⟨gb761, 1, none⟩ = some (.slice (some ad765) ((rd_T32 l0_2 x6_2).f1).length c760_1) ∧ w'.cell? ⟨gb761, 2, none⟩ = some (.int .i64 ((rd_T32 l0_2 x6_2).f2)) ∧ w'.cell? (ad765.add (x9_3).toNat) = some (.int .i64 (rd ((rd_T32 l0_2 x6_2).f1) x9_3)) ∧ w'.cell? (ad766.add (x9_3).toNat) = some (.int .i64 (rd t762 x9_3))) (ds := [11]) #[false, false, false, false, false, false, false, false, false, false, false, false] (by kernel_rfl) rfl rfl ⟨(blk_cell BK761.out 0).trans rfl, (blk_cell BK761.out 1).trans rfl, (blk_cell BK761.out 2).trans rfl, ((HB.out.cell (World.block_lt_of_cell? w _ hw765_0)).trans hw765_0), hx766_0⟩ (fun hHeld => ?_); refine with_tabW spec_NarrowRules.tab12 spec_NarrowRules.bits12 (fun HT_ HW_ => ?_)
              generalize wr.drew = w36 at HO_5 HO_8 BK751 BK761 HB GG33 HQ38 hf33_0 hx33_0 hx765_0 hx766_0 hHeld ⊢
              refine pure_ (i := 0) (N := some 47) (v := ?_) (a' := ?_) #[true, false, false, false, false, false, false, false, false, false, false, false] rfl rfl (any_of HT_.out (by kernel_rfl)) (fun _ _ _ h => h) (Or.inl ⟨by rfl, ?_⟩) ?_ ?_
              rotate_left
              · intro w'
                go_simp
                with_reducible rfl
              rotate_left
              · simp only [Act.put, yps, i64_w, i32_w]
                rfl
              refine pure_ (i := 1) (N := some 48) (v := ?_) (a' := ?_) #[true, true, false, false, false, false, false, false, false, false, false, false] rfl rfl (any_of HT_.out (by kernel_rfl)) (fun _ _ _ h => h) (Or.inl ⟨by rfl, ?_⟩) ?_ ?_
              rotate_left
              · intro w'
                go_simp
                with_reducible rfl
              rotate_left
              · simp only [Act.put, yps, i64_w, i32_w]
                rfl
              refine pure_ (i := 3) (N := some 50) (v := ?_) (a' := ?_) #[true, true, false, true, false, false, false, false, false, false, false, false] rfl rfl (any_of HT_.out (by kernel_rfl)) (fun _ _ _ h => h) (Or.inl ⟨by rfl, ?_⟩) ?_ ?_
              rotate_left
              · intro w'
                go_simp
                with_reducible rfl
              rotate_left
              · simp only [Act.put, yps, i64_w, i32_w]
                rfl
              refine pure_ (i := 6) (N := some 53) (v := ?_) (a' := ?_) #[true, true, false, true, false, false, true, false, false, false, false, false] rfl rfl (any_of HT_.out (by kernel_rfl)) (fun _ _ _ h => h) (Or.inl ⟨by rfl, ?_⟩) ?_ ?_
              rotate_left
              · intro w'
                go_simp
                with_reducible rfl
              rotate_left
              · simp only [Act.put, yps, i64_w, i32_w]
                rfl
              refine pure_ (i := 7) (N := some 54) (v := ?_) (a' := ?_) #[true, true, false, true, false, false, true, true, false, false, false, false] rfl rfl (any_of HT_.out (by kernel_rfl)) (fun _ _ _ h => h) (Or.inl ⟨by rfl, ?_⟩) ?_ ?_
              rotate_left
              · intro w'
                go_simp
                with_reducible rfl
              rotate_left
              · simp only [Act.put, yps, i64_w, i32_w]
                rfl
              refine pure_ (i := 8) (N := some 55) (v := ?_) (a' := ?_) #[true, true, false, true, false, false, true, true, true, false, false, false] rfl rfl (any_of HT_.out (by kernel_rfl)) (fun _ _ _ h => h) (Or.inl ⟨by rfl, ?_⟩) ?_ ?_
              rotate_left
              · intro w'
                go_simp
                with_reducible rfl
              rotate_left
              · simp only [Act.put, yps, i64_w, i32_w]
                rfl
              refine take_ (i := 2) (N := some 49) (v := ?_) (a' := ?_) #[true, true, true, true, false, false, true, true, true, false, false, false] rfl rfl (take_ofW HT_.out HW_.out (by kernel_rfl)) (fun _ _ _ h => h) (Or.inl ⟨by rfl, ?_⟩) hHeld ?_ ?_
              rotate_left
              · rintro w' ⟨s0, s1, s2, s3, s4⟩
                go_simp
                with_reducible rfl
              rotate_left
              · simp only [Act.put, yps, i64_w, i32_w]
                rfl
              refine pure_ (i := 4) (N := some 51) (v := ?_) (a' := ?_) #[true, true, true, true, true, false, true, true, true, false, false, false] rfl rfl (any_of HT_.out (by kernel_rfl)) (fun _ _ _ h => h) (Or.inl ⟨by rfl, ?_⟩) ?_ ?_
              rotate_left
              · intro w'
                go_simp
                with_reducible rfl
              rotate_left
              · simp only [Act.put, yps, i64_w, i32_w]
                rfl
              refine take_ (i := 5) (N := some 52) (v := ?_) (a' := ?_) #[true, true, true, true, true, true, true, true, true, false, false, false] rfl rfl (take_ofW HT_.out HW_.out (by kernel_rfl)) (fun _ _ _ h => h) (Or.inl ⟨by rfl, ?_⟩) hHeld ?_ ?_
              rotate_left
              · rintro w' ⟨s0, s1, s2, s3, s4⟩
                go_simp
                with_reducible rfl
              rotate_left
              · simp only [Act.put, yps, i64_w, i32_w]
                rfl
              refine take_ (i := 9) (N := some 56) (v := ?_) (a' := ?_) #[true, true, true, true, true, true, true, true, true, true, false, false] rfl rfl (take_ofW HT_.out HW_.out (by kernel_rfl)) (fun _ _ _ h => h) (Or.inl ⟨by rfl, ?_⟩) hHeld ?_ ?_
              rotate_left
              · rintro w' ⟨s0, s1, s2, s3, s4⟩
                go_simp
                with_reducible rfl
              rotate_left
              · simp only [Act.put, yps, i64_w, i32_w]
                rfl
              refine pure_ (i := 10) (N := some 57) (v := ?_) (a' := ?_) #[true, true, true, true, true, true, true, true, true, true, true, false] rfl rfl (any_of HT_.out (by kernel_rfl)) (fun _ _ _ h => h) (Or.inl ⟨by rfl, ?_⟩) ?_ ?_
              rotate_left
              · intro w'
                go_simp
                with_reducible rfl
              rotate_left
              · simp only [Act.put, yps, i64_w, i32_w]
                rfl
              refine last_ (i := 11) (N := none) #[true, true, true, true, true, true, true, true, true, true, true, true] rfl rfl (one_of HT_.out (by kernel_rfl)) (by decide) (fun K hK => ?_)
              refine skip_ (w1 := ?_) (by rfl) rfl ?_ ?_
              rotate_left
              · go_simp
                rfl
              refine hK.out _ _ ?_
              clear hK K
              refine done_ (done_of HT_.out (by kernel_rfl)) ?_
              try go_wp2
              (try simp only [← hl5_3])
              go_roundg k3
              case measure => have := HJ2.out; have := HK2.out; have := HK3.out; omega
              case rel => exact ⟨(y767), (wrap64 (x9_3 + 1)), (by first | rfl | (simp; done) | (simp [*]; done)), H', ⟨by have := HJ2.out; have := HK2.out; have := HK3.out; omega⟩, ⟨by (try simp only [hl5_3]); (with_reducible repeat (first | apply Kd.Ya | apply Kd.Yn | apply Kd.Yd)); exact HQ38.out⟩, ⟨by (try simp only [hl5_3]); (with_reducible repeat (first | apply Kd.Ya | apply Kd.Yn | apply Kd.Yd)); exact Kd.R_mono (Kd.R_far (p := ⟨go33, ((rd ((rd_T32 l0_2 x6_2).f1) x9_3) : Int).toNat, none⟩) (Kd.R_mono HO_8.out (fun k_ hk => (⟨hk, fun e_ => hk (by rw [e_]; rfl)⟩ : _ ∧ k_ ≠ go33))) (fun _ hk => hk.2) (.int .i64 (rd t762 x9_3))) (fun _ hk => hk.1)⟩, ⟨by (try simp only [hl5_3]); (with_reducible repeat (first | refine ybn ?_ _ | refine ybd ?_ | refine yba ?_ _)); refine blk_far ?_ (by have h_ := Kd.R_ne HO_5.out BK751.out (by decide); intro e_; exact h_ (by rw [e_]; rfl)) _; (with_reducible repeat (first | refine ybn ?_ _ | refine ybd ?_ | refine yba ?_ _)); exact BK751.out⟩, ⟨by (try simp only [hl5_3]); (with_reducible repeat (first | refine ybn ?_ _ | refine ybd ?_ | refine yba ?_ _)); refine blk_far ?_ (by have h_ := Kd.R_ne HO_5.out BK761.out (by decide); intro e_; exact h_ (by rw [e_]; rfl)) _; (with_reducible repeat (first | refine ybn ?_ _ | refine ybd ?_ | refine yba ?_ _)); exact BK761.out⟩, ⟨by repeat (first | (with_reducible first | exact HB.out | apply yea | apply yen | apply yed | refine below_set ?_ GB33.out | refine below_set ?_ GE751.out | refine below_set ?_ GE761.out) | exact HB.out)⟩⟩
end Go.Proofs.Ythfbjkniinfgcaa.P
namespace Go.Proofs.Ythfbjkniinfgcaa.P
open Go.RowKit Go.Proofs.YthfbjkniinfgcaaW.PrintWords Go.Proofs.YthfbjkniinfgcaaW.PrintLast Go.Proofs.YthfbjkniinfgcaaW.PrintMore
attribute [local go_sem] max2_int min2_int max_two min_two max_three min_three max_four min_four   -- for this text's walks alone
set_option linter.unusedVariables false
set_option linter.unusedSimpArgs false

/-! ### impl_sizeOk: function 64 -/
def impl_sizeOk.f (a0 : Int) : Option (Bool) := if a0 ≥ 2 then (some (decide (a0 ≤ 4))) else (some false)
set_option maxHeartbeats 8000000 in
set_option maxRecDepth 100000 in
theorem impl_sizeOk.calls (a0 : Int) (r : Bool) (w : World) (h : impl_sizeOk.f a0 = some r) :
    Calls Try.prog 64 #[.int .i64 a0] w fun e w' => e = .returned (.bool r) ∧ Drawn0 w w' := by
  have H : (if a0 ≥ 2 then (some (decide (a0 ≤ 4))) else (some false)) = some r := h
  clear h
  by_cases c2 : a0 ≥ 2
  · rw [if_pos c2] at H
    have c2b0 : decide (2 ≤ a0) = true := decide_eq_true c2
    clear c2
    obtain rfl := Option.some.inj H
    go_enter Try.func64, Try.ntmps64
    go_wp2
    go_ret
    exact ⟨by first | rfl | (simp; done) | (simp [*]; done), by repeat (first | exact Drawn0.refl _ | apply Drawn0.step)⟩
  rw [if_neg c2] at H
  have c2b0 : decide (2 ≤ a0) = false := decide_eq_false c2
  clear c2
  obtain rfl := Option.some.inj H
  go_enter Try.func64, Try.ntmps64
  go_wp2
  go_ret
  exact ⟨by first | rfl | (simp; done) | (simp [*]; done), by repeat (first | exact Drawn0.refl _ | apply Drawn0.step)⟩

end Go.Proofs.Ythfbjkniinfgcaa.P
namespace Go.Proofs.Ythfbjkniinfgcaa.P
open Go.RowKit Go.Proofs.YthfbjkniinfgcaaW.PrintWords Go.Proofs.YthfbjkniinfgcaaW.PrintLast Go.Proofs.YthfbjkniinfgcaaW.PrintMore
attribute [local go_sem] max2_int min2_int max_two min_two max_three min_three max_four min_four   -- for this text's walks alone
set_option linter.unusedVariables false
set_option linter.unusedSimpArgs false

/-! ### impl_allValues: function 61 -/
def impl_allValues.f (a0 : Int) : Option (Int) := if 0 ≤ (wrap64 (a0 + 1)) then (some (wrap64 ((shl .i64 1 (wrap64 (a0 + 1))) - 2))) else (none)
set_option maxHeartbeats 8000000 in
set_option maxRecDepth 100000 in
theorem impl_allValues.calls (a0 : Int) (r : Int) (w : World) (h : impl_allValues.f a0 = some r) :
    Calls Try.prog 61 #[.int .i64 a0] w fun e w' => e = .returned (.int .i64 r) ∧ Drawn0 w w' := by
  have H : (if 0 ≤ (wrap64 (a0 + 1)) then (some (wrap64 ((shl .i64 1 (wrap64 (a0 + 1))) - 2))) else (none)) = some r := h
  clear h
  obtain ⟨ji2, hji2⟩ : ∃ j_ : Int, (wrap64 (a0 + 1)) = j_ := ⟨_, rfl⟩
  replace H : (if 0 ≤ (ji2) then (some (wrap64 ((shl .i64 1 (ji2)) - 2))) else (none)) = some r := by first | (rw [hji2] at H; exact H) | (simp only [hji2] at H ⊢; exact H)
  have hji2w : (IntKind.i64.wrap (a0 + 1)) = ji2 := (i64_w _).trans hji2
  by_cases c3 : 0 ≤ (ji2)
  rotate_left
  · rw [if_neg c3] at H
    exact absurd H (by simp)

  rw [if_pos c3] at H
  have c3b0 := eq_true c3
  have c3b1 : decide (0 ≤ (ji2)) = true := decide_eq_true c3
  clear c3
  obtain ⟨ji4, hji4⟩ : ∃ j_ : Int, (shl .i64 1 (ji2)) = j_ := ⟨_, rfl⟩
  replace H : (some (wrap64 ((ji4) - 2))) = some r := by first | (rw [hji4] at H; exact H) | (simp only [hji4] at H ⊢; exact H)
  have hji4_ : (IntKind.i64.wrap (1 * 2 ^ min (ji2).toNat 64)) = ji4 := hji4
  have hji4z : (ji2) ≤ 64 → (IntKind.i64.wrap (1 * 2 ^ (ji2).toNat)) = ji4 := shl_small hji4
  have hji4u : (IntKind.i64.wrap (2 ^ min (ji2).toNat 64)) = ji4 := by have h_ := hji4_; rw [Int.one_mul] at h_; exact h_
  have hji4v : (ji2) ≤ 64 → (IntKind.i64.wrap (2 ^ (ji2).toNat)) = ji4 := fun hle_ => by have h_ := hji4z hle_; rw [Int.one_mul] at h_; exact h_
  have hji4y : (wrap64 (1 * 2 ^ min (ji2).toNat 64)) = ji4 := (i64_w _).symm.trans hji4_
  have hji4x : (ji2) ≤ 64 → (wrap64 (1 * 2 ^ (ji2).toNat)) = ji4 := fun h_ => (i64_w _).symm.trans (hji4z h_)
  obtain rfl := Option.some.inj H
  go_enter Try.func61, Try.ntmps61
  go_wp2
  go_ret
  exact ⟨by first | rfl | (simp; done) | (simp only [← hji2, ← hji4] <;> (first | rfl | simp)) | (simp [*]; done), by repeat (first | exact Drawn0.refl _ | apply Drawn0.step)⟩
end Go.Proofs.Ythfbjkniinfgcaa.P
namespace Go.Proofs.Ythfbjkniinfgcaa.P
open Go.RowKit Go.Proofs.YthfbjkniinfgcaaW.PrintWords Go.Proofs.YthfbjkniinfgcaaW.PrintLast Go.Proofs.YthfbjkniinfgcaaW.PrintMore
attribute [local go_sem] max2_int min2_int max_two min_two max_three min_three max_four min_four   -- for this text's walks alone
set_option linter.unusedVariables false
set_option linter.unusedSimpArgs false

/-! ### impl_MasksValid: function 21 -/
mutual
def impl_MasksValid.j0 : Nat → List Int → Int → Bool → Option (Bool)
  | 0, _, _, _ => none
  | k + 1, x0, x1, x17 => if x17 = true then (some false) else (impl_MasksValid.l0 k x1 x0 (x0.length : Int) 0)
def impl_MasksValid.l0 : Nat → Int → List Int → Int → Int → Option (Bool)
  | 0, _, _, _, _ => none
  | k + 1, x1, x18, x19, x20 => if x20 < x19 then (if 0 ≤ x20 then (if x20 < (x18.length : Int) then (if (rd x18 x20) < 0 then (some false) else ((impl_allValues.f x1).bind fun t254 => (if (Go.bits .andNot .i64 (rd x18 x20) t254) = 0 then (impl_MasksValid.l0 k x1 x18 x19 (wrap64 (x20 + 1))) else (some false)))) else (none)) else (none)) else (some true)
end
def impl_MasksValid.f (k : Nat) (l0 : List Int) (a1 : Int) : Option (Bool) := (impl_sizeOk.f a1).bind fun t252 => (if t252 = true then (impl_MasksValid.j0 k l0 a1 ((l0.length : Int) != (wrap64 (a1 * a1)))) else (impl_MasksValid.j0 k l0 a1 true))
theorem impl_MasksValid.mono_l : ∀ k, (∀ y0 y1 y2, LeO (impl_MasksValid.j0 k y0 y1 y2) (impl_MasksValid.j0 (k + 1) y0 y1 y2)) ∧ (∀ y0 y1 y2 y3, LeO (impl_MasksValid.l0 k y0 y1 y2 y3) (impl_MasksValid.l0 (k + 1) y0 y1 y2 y3))
  | 0 => ⟨fun _ _ _ r h => by simp [impl_MasksValid.j0] at h, fun _ _ _ _ r h => by simp [impl_MasksValid.l0] at h⟩
  | k + 1 => by
    obtain ⟨ih0, ih1⟩ := impl_MasksValid.mono_l k
    refine ⟨?_, ?_⟩
    · intro y0 y1 y2
      unfold impl_MasksValid.j0
      repeat' first
      | (with_reducible exact ih0 _ _ _)
      | (with_reducible exact ih1 _ _ _ _)
      | (with_reducible exact LeO.refl _)
      | (with_reducible exact LeO.none _)
      | (with_reducible refine LeO.ite ?_ ?_)
      | (with_reducible refine LeO.bind ?_ (fun _ => ?_))
      | exact ih0 _ _ _
      | exact ih1 _ _ _ _
      | exact LeO.none _
      | refine LeO.ite ?_ ?_
      | refine LeO.bind ?_ (fun _ => ?_)
    · intro y0 y1 y2 y3
      unfold impl_MasksValid.l0
      repeat' first
      | (with_reducible exact ih0 _ _ _)
      | (with_reducible exact ih1 _ _ _ _)
      | (with_reducible exact LeO.refl _)
      | (with_reducible exact LeO.none _)
      | (with_reducible refine LeO.ite ?_ ?_)
      | (with_reducible refine LeO.bind ?_ (fun _ => ?_))
      | exact ih0 _ _ _
      | exact ih1 _ _ _ _
      | exact LeO.none _
      | refine LeO.ite ?_ ?_
      | refine LeO.bind ?_ (fun _ => ?_)
theorem impl_MasksValid.mono : ∀ a0 a1 k, LeO (impl_MasksValid.f k a0 a1) (impl_MasksValid.f (k + 1) a0 a1) := by
  intro a0 a1 k
  obtain ⟨ih0, ih1⟩ := impl_MasksValid.mono_l k
  unfold impl_MasksValid.f
  repeat' first
      | (with_reducible exact ih0 _ _ _)
      | (with_reducible exact ih1 _ _ _ _)
      | (with_reducible exact LeO.refl _)
      | (with_reducible exact LeO.none _)
      | (with_reducible refine LeO.ite ?_ ?_)
      | (with_reducible refine LeO.bind ?_ (fun _ => ?_))
      | exact ih0 _ _ _
      | exact ih1 _ _ _ _
      | exact LeO.none _
      | refine LeO.ite ?_ ?_
      | refine LeO.bind ?_ (fun _ => ?_)
set_option maxHeartbeats 8000000 in
set_option maxRecDepth 100000 in
theorem impl_MasksValid.calls (k : Nat) (A0 : Option Addr) (c0 : Nat) (l0 : List Int) (a1 : Int) (r : Bool) (w : World) (hr0 : Kd.C (Kd.int .i64) w A0 l0.length l0) (hc0 : l0.length ≤ c0) (h : impl_MasksValid.f k l0 a1 = some r) :
    Calls Try.prog 21 #[.slice A0 l0.length c0, .int .i64 a1] w fun e w' => e = .returned (.bool r) ∧ Drawn0 w w' := by
  have HR0 := yam hr0
  have HC0 := yam hc0
  clear hr0 hc0
  have H : ((impl_sizeOk.f a1).bind fun t252 => (if t252 = true then (impl_MasksValid.j0 k l0 a1 ((l0.length : Int) != (wrap64 (a1 * a1)))) else (impl_MasksValid.j0 k l0 a1 true))) = some r := h
  clear h
  have HC3 := yam H
  clear H
  go_enter Try.func21, Try.ntmps21
  go_upto_region 1 with (fail)
  go_cut [17] (fun v17 wc => ∃ (kq : Nat) (x17_2 : Bool), v17 = .bool x17_2 ∧ Aside0 (impl_MasksValid.j0 kq l0 a1 x17_2 = some r) ∧ Aside0 (kq ≤ k) ∧ Drawn0 w wc)
  case first =>
    have H := HC3.out
    clear HC3
    replace H := Option.bind_eq_some_iff.mp H
    obtain ⟨t252, A40, H⟩ := H
    try dsimp only at H
    have A4 := yam A40
    clear A40
    by_cases c5 : t252 = true
    · subst c5
      have H1 : (impl_MasksValid.j0 k l0 a1 ((l0.length : Int) != (wrap64 (a1 * a1)))) = some r := by rw [if_pos rfl] at H; exact H
      clear H
      have H := H1
      clear H1
      have H' := yam H
      clear H
      go_wp2_with (first | ((with_reducible refine gate_callee (f := 64) rfl ?_); refine goesL_ (some 8) rfl rfl Try.func64 (by kernel_rfl) rfl #[.int .i64 a1] rfl (by (try simp only [List.map_toArray, List.map_cons, List.map_nil]); first | done | rfl | (simp only [List.length_drop, List.length_take]; rfl)) ?_; (with_reducible refine (impl_sizeOk.calls a1 true _ A4.out).mono ?_); rintro e w' ⟨rfl, ⟨nd, rfl⟩⟩; refine ⟨_, rfl, ?_⟩))
      go_meet
      case rel => exact ⟨_, (((l0.length : Int) != (wrap64 (a1 * a1)))), (by first | rfl | (simp; done) | (simp [*]; done)), H', ⟨by first | omega | exact Nat.le_refl _⟩, by repeat (first | exact Drawn0.refl _ | apply Drawn0.step)⟩
    replace c5 := Bool.eq_false_iff.mpr c5
    subst c5
    have H1 : (impl_MasksValid.j0 k l0 a1 true) = some r := by rw [if_neg (show ¬ (false = true) by decide)] at H; exact H
    clear H
    have H := H1
    clear H1
    have H' := yam H
    clear H
    go_wp2_with (first | ((with_reducible refine gate_callee (f := 64) rfl ?_); refine goesL_ (some 8) rfl rfl Try.func64 (by kernel_rfl) rfl #[.int .i64 a1] rfl (by (try simp only [List.map_toArray, List.map_cons, List.map_nil]); first | done | rfl | (simp only [List.length_drop, List.length_take]; rfl)) ?_; (with_reducible refine (impl_sizeOk.calls a1 false _ A4.out).mono ?_); rintro e w' ⟨rfl, ⟨nd, rfl⟩⟩; refine ⟨_, rfl, ?_⟩))
    go_meet
    case rel => exact ⟨_, (true), (by first | rfl | (simp; done) | (simp [*]; done)), H', ⟨by first | omega | exact Nat.le_refl _⟩, by repeat (first | exact Drawn0.refl _ | apply Drawn0.step)⟩
  case rest =>
    clear HC3
    try clear c2
    try clear p2
    try clear c5
    obtain ⟨kq, x17_2, rfl, HA, HJ2, ⟨mc2, rfl⟩⟩ := hcut
    cases kq with
    | zero => exact absurd HA.out (by simp [impl_MasksValid.j0])
    | succ kj2 =>
      have H := HA.out
      clear HA
      simp only [impl_MasksValid.j0] at H
      by_cases c6 : x17_2 = true
      · subst c6
        have H1 : (some false) = some r := by rw [if_pos rfl] at H; exact H
        clear H
        have H := H1
        clear H1
        obtain rfl := Option.some.inj H
        go_wp2
        go_ret
        exact ⟨by first | rfl | (simp; done) | (simp [*]; done), by repeat (first | exact Drawn0.refl _ | apply Drawn0.step)⟩
      replace c6 := Bool.eq_false_iff.mpr c6
      subst c6
      have H1 : (impl_MasksValid.l0 kj2 a1 l0 (l0.length : Int) 0) = some r := by rw [if_neg (show ¬ (false = true) by decide)] at H; exact H
      clear H
      have H := H1
      clear H1
      have H' := yam H
      clear H
      go_wp2
      go_loopg [20] kj2 (fun kq v20 w' => ∃ (x20_2 : Int), v20 = .int .i64 x20_2 ∧ Aside0 (impl_MasksValid.l0 kq a1 l0 (l0.length : Int) x20_2 = some r) ∧ Aside0 (kq ≤ kj2) ∧ Drawn0 w w')
      case atStart => exact ⟨(0), (by first | rfl | (simp; done) | (simp [*]; done)), H', ⟨Nat.le_refl _⟩, by repeat (first | exact Drawn0.refl _ | apply Drawn0.step)⟩
      case round =>
        clear H'
        try clear c2
        try clear p2
        try clear c5
        try clear c6
        try clear p6
        try clear p2
        obtain ⟨x20_2, rfl, HA, HK2, ⟨m2, rfl⟩⟩ := hrel
        cases gk with
        | zero => exact absurd HA.out (by simp [impl_MasksValid.l0])
        | succ k2 =>
          have H := HA.out
          clear HA
          simp only [impl_MasksValid.l0] at H
          by_cases c7 : x20_2 < (l0.length : Int)
          rotate_left
          · rw [if_neg c7] at H
            have c7b0 : decide (x20_2 < (l0.length : Int)) = false := decide_eq_false c7
            clear c7
            obtain rfl := Option.some.inj H
            go_wp2
            go_ret
            exact ⟨by first | rfl | (simp; done) | (simp [*]; done), by repeat (first | exact Drawn0.refl _ | apply Drawn0.step)⟩

          rw [if_pos c7] at H
          have c7b0 : decide (x20_2 < (l0.length : Int)) = true := decide_eq_true c7
          clear c7
          by_cases c8 : 0 ≤ x20_2
          rotate_left
          · rw [if_neg c8] at H
            exact absurd H (by simp)
          rw [if_pos c8] at H
          have c8b0 : decide (0 ≤ x20_2) = true := decide_eq_true c8
          clear c8
          by_cases c9 : x20_2 < (l0.length : Int)
          rotate_left
          · rw [if_neg c9] at H
            exact absurd H (by simp)
          rw [if_pos c9] at H
          have c9b0 : decide (x20_2 < (l0.length : Int)) = true := decide_eq_true c9
          clear c9
          by_cases c10 : (rd l0 x20_2) < 0
          · rw [if_pos c10] at H
            have c10b0 : decide ((rd l0 x20_2) < 0) = true := decide_eq_true c10
            clear c10
            obtain rfl := Option.some.inj H
            have p253 : 0 ≤ (x20_2 : Int) := of_decide_eq_true (by first | (with_reducible assumption) | assumption)
            have q253 : x20_2 < (l0.length : Int) := of_decide_eq_true (by first | (with_reducible assumption) | assumption)
            obtain ⟨ad253, e253, hx253_0⟩ := Kd.at_int HR0.out x20_2 p253 q253
            cases e253
            replace p253 := eq_true p253
            replace q253 := eq_true q253
            go_wp2
            go_ret
            exact ⟨by first | rfl | (simp; done) | (simp [*]; done), by repeat (first | exact Drawn0.refl _ | apply Drawn0.step)⟩
          rw [if_neg c10] at H
          have c10b0 : decide ((rd l0 x20_2) < 0) = false := decide_eq_false c10
          clear c10
          replace H := Option.bind_eq_some_iff.mp H
          obtain ⟨t254, A110, H⟩ := H
          try dsimp only at H
          have A11 := yam A110
          clear A110
          by_cases c12 : (Go.bits .andNot .i64 (rd l0 x20_2) t254) = 0
          rotate_left
          · rw [if_neg c12] at H
            have c12b0 : ((Go.bits .andNot .i64 (rd l0 x20_2) t254) == 0) = false := beq_eq_false_iff_ne.mpr c12
            have c12b1 : ((Go.bits .andNot .i64 (rd l0 x20_2) t254) != 0) = true := bne_iff_ne.mpr c12
            obtain rfl := Option.some.inj H
            have p253 : 0 ≤ (x20_2 : Int) := of_decide_eq_true (by first | (with_reducible assumption) | assumption)
            have q253 : x20_2 < (l0.length : Int) := of_decide_eq_true (by first | (with_reducible assumption) | assumption)
            obtain ⟨ad253, e253, hx253_0⟩ := Kd.at_int HR0.out x20_2 p253 q253
            cases e253
            replace p253 := eq_true p253
            replace q253 := eq_true q253
            go_wp2_with (first | (go_at_call 61; (with_reducible refine (impl_allValues.calls a1 t254 _ A11.out).mono ?_); rintro e w' ⟨rfl, ⟨nd, rfl⟩⟩))
            go_ret
            exact ⟨by first | rfl | (simp; done) | (simp [*]; done), by repeat (first | exact Drawn0.refl _ | apply Drawn0.step)⟩
          rw [if_pos c12] at H
          have c12b0 : ((Go.bits .andNot .i64 (rd l0 x20_2) t254) == 0) = true := beq_iff_eq.mpr c12
          have c12b1 : ((Go.bits .andNot .i64 (rd l0 x20_2) t254) != 0) = false := bne_eq_false_iff_eq.mpr c12
          clear c12
          have H' := yam H
          clear H
          have p253 : 0 ≤ (x20_2 : Int) := of_decide_eq_true (by first | (with_reducible assumption) | assumption)
          have q253 : x20_2 < (l0.length : Int) := of_decide_eq_true (by first | (with_reducible assumption) | assumption)
          obtain ⟨ad253, e253, hx253_0⟩ := Kd.at_int HR0.out x20_2 p253 q253
          cases e253
          replace p253 := eq_true p253
          replace q253 := eq_true q253
          go_wp2_with (first | (go_at_call 61; (with_reducible refine (impl_allValues.calls a1 t254 _ A11.out).mono ?_); rintro e w' ⟨rfl, ⟨nd, rfl⟩⟩))
          go_roundg k2
          case measure => have := HJ2.out; have := HK2.out; omega
          case rel => exact ⟨(wrap64 (x20_2 + 1)), (by first | rfl | (simp; done) | (simp [*]; done)), H', ⟨by have := HJ2.out; have := HK2.out; omega⟩, by repeat (first | exact Drawn0.refl _ | apply Drawn0.step)⟩
end Go.Proofs.Ythfbjkniinfgcaa.P
namespace Go.Proofs.Ythfbjkniinfgcaa.P
open Go.RowKit Go.Proofs.YthfbjkniinfgcaaW.PrintWords Go.Proofs.YthfbjkniinfgcaaW.PrintLast Go.Proofs.YthfbjkniinfgcaaW.PrintMore
attribute [local go_sem] max2_int min2_int max_two min_two max_three min_three max_four min_four   -- for this text's walks alone
set_option linter.unusedVariables false
set_option linter.unusedSimpArgs false

/-! ### impl_GridValid: function 60 -/
mutual
def impl_GridValid.j0 : Nat → List Int → Int → Bool → Option (Bool)
  | 0, _, _, _ => none
  | k + 1, x0, x1, x17 => if x17 = true then (some false) else (impl_GridValid.l0 k x1 x0 (x0.length : Int) 0)
def impl_GridValid.l0 : Nat → Int → List Int → Int → Int → Option (Bool)
  | 0, _, _, _, _ => none
  | k + 1, x1, x18, x19, x20 => if x20 < x19 then (if 0 ≤ x20 then (if x20 < (x18.length : Int) then (if (rd x18 x20) < 0 then (some false) else (if (rd x18 x20) > x1 then (some false) else (impl_GridValid.l0 k x1 x18 x19 (wrap64 (x20 + 1))))) else (none)) else (none)) else (some true)
end
def impl_GridValid.f (k : Nat) (l0 : List Int) (a1 : Int) : Option (Bool) := (impl_sizeOk.f a1).bind fun t206 => (if t206 = true then (impl_GridValid.j0 k l0 a1 ((l0.length : Int) != (wrap64 (a1 * a1)))) else (impl_GridValid.j0 k l0 a1 true))
theorem impl_GridValid.mono_l : ∀ k, (∀ y0 y1 y2, LeO (impl_GridValid.j0 k y0 y1 y2) (impl_GridValid.j0 (k + 1) y0 y1 y2)) ∧ (∀ y0 y1 y2 y3, LeO (impl_GridValid.l0 k y0 y1 y2 y3) (impl_GridValid.l0 (k + 1) y0 y1 y2 y3))
  | 0 => ⟨fun _ _ _ r h => by simp [impl_GridValid.j0] at h, fun _ _ _ _ r h => by simp [impl_GridValid.l0] at h⟩
  | k + 1 => by
    obtain ⟨ih0, ih1⟩ := impl_GridValid.mono_l k
    refine ⟨?_, ?_⟩
    · intro y0 y1 y2
      unfold impl_GridValid.j0
      repeat' first
      | (with_reducible exact ih0 _ _ _)
      | (with_reducible exact ih1 _ _ _ _)
      | (with_reducible exact LeO.refl _)
      | (with_reducible exact LeO.none _)
      | (with_reducible refine LeO.ite ?_ ?_)
      | (with_reducible refine LeO.bind ?_ (fun _ => ?_))
      | exact ih0 _ _ _
      | exact ih1 _ _ _ _
      | exact LeO.none _
      | refine LeO.ite ?_ ?_
      | refine LeO.bind ?_ (fun _ => ?_)
    · intro y0 y1 y2 y3
      unfold impl_GridValid.l0
      repeat' first
      | (with_reducible exact ih0 _ _ _)
      | (with_reducible exact ih1 _ _ _ _)
      | (with_reducible exact LeO.refl _)
      | (with_reducible exact LeO.none _)
      | (with_reducible refine LeO.ite ?_ ?_)
      | (with_reducible refine LeO.bind ?_ (fun _ => ?_))
      | exact ih0 _ _ _
      | exact ih1 _ _ _ _
      | exact LeO.none _
      | refine LeO.ite ?_ ?_
      | refine LeO.bind ?_ (fun _ => ?_)
theorem impl_GridValid.mono : ∀ a0 a1 k, LeO (impl_GridValid.f k a0 a1) (impl_GridValid.f (k + 1) a0 a1) := by
  intro a0 a1 k
  obtain ⟨ih0, ih1⟩ := impl_GridValid.mono_l k
  unfold impl_GridValid.f
  repeat' first
      | (with_reducible exact ih0 _ _ _)
      | (with_reducible exact ih1 _ _ _ _)
      | (with_reducible exact LeO.refl _)
      | (with_reducible exact LeO.none _)
      | (with_reducible refine LeO.ite ?_ ?_)
      | (with_reducible refine LeO.bind ?_ (fun _ => ?_))
      | exact ih0 _ _ _
      | exact ih1 _ _ _ _
      | exact LeO.none _
      | refine LeO.ite ?_ ?_
      | refine LeO.bind ?_ (fun _ => ?_)
set_option maxHeartbeats 8000000 in
set_option maxRecDepth 100000 in
theorem impl_GridValid.calls (k : Nat) (A0 : Option Addr) (c0 : Nat) (l0 : List Int) (a1 : Int) (r : Bool) (w : World) (hr0 : Kd.C (Kd.int .i64) w A0 l0.length l0) (hc0 : l0.length ≤ c0) (h : impl_GridValid.f k l0 a1 = some r) :
    Calls Try.prog 60 #[.slice A0 l0.length c0, .int .i64 a1] w fun e w' => e = .returned (.bool r) ∧ Drawn0 w w' := by
  have HR0 := yam hr0
  have HC0 := yam hc0
  clear hr0 hc0
  have H : ((impl_sizeOk.f a1).bind fun t206 => (if t206 = true then (impl_GridValid.j0 k l0 a1 ((l0.length : Int) != (wrap64 (a1 * a1)))) else (impl_GridValid.j0 k l0 a1 true))) = some r := h
  clear h
  have HC3 := yam H
  clear H
  go_enter Try.func60, Try.ntmps60
  go_upto_region 1 with (fail)
  go_cut [17] (fun v17 wc => ∃ (kq : Nat) (x17_2 : Bool), v17 = .bool x17_2 ∧ Aside0 (impl_GridValid.j0 kq l0 a1 x17_2 = some r) ∧ Aside0 (kq ≤ k) ∧ Drawn0 w wc)
  case first =>
    have H := HC3.out
    clear HC3
    replace H := Option.bind_eq_some_iff.mp H
    obtain ⟨t206, A40, H⟩ := H
    try dsimp only at H
    have A4 := yam A40
    clear A40
    by_cases c5 : t206 = true
    · subst c5
      have H1 : (impl_GridValid.j0 k l0 a1 ((l0.length : Int) != (wrap64 (a1 * a1)))) = some r := by rw [if_pos rfl] at H; exact H
      clear H
      have H := H1
      clear H1
      have H' := yam H
      clear H
      go_wp2_with (first | ((with_reducible refine gate_callee (f := 64) rfl ?_); refine goesL_ (some 8) rfl rfl Try.func64 (by kernel_rfl) rfl #[.int .i64 a1] rfl (by (try simp only [List.map_toArray, List.map_cons, List.map_nil]); first | done | rfl | (simp only [List.length_drop, List.length_take]; rfl)) ?_; (with_reducible refine (impl_sizeOk.calls a1 true _ A4.out).mono ?_); rintro e w' ⟨rfl, ⟨nd, rfl⟩⟩; refine ⟨_, rfl, ?_⟩))
      go_meet
      case rel => exact ⟨_, (((l0.length : Int) != (wrap64 (a1 * a1)))), (by first | rfl | (simp; done) | (simp [*]; done)), H', ⟨by first | omega | exact Nat.le_refl _⟩, by repeat (first | exact Drawn0.refl _ | apply Drawn0.step)⟩
    replace c5 := Bool.eq_false_iff.mpr c5
    subst c5
    have H1 : (impl_GridValid.j0 k l0 a1 true) = some r := by rw [if_neg (show ¬ (false = true) by decide)] at H; exact H
    clear H
    have H := H1
    clear H1
    have H' := yam H
    clear H
    go_wp2_with (first | ((with_reducible refine gate_callee (f := 64) rfl ?_); refine goesL_ (some 8) rfl rfl Try.func64 (by kernel_rfl) rfl #[.int .i64 a1] rfl (by (try simp only [List.map_toArray, List.map_cons, List.map_nil]); first | done | rfl | (simp only [List.length_drop, List.length_take]; rfl)) ?_; (with_reducible refine (impl_sizeOk.calls a1 false _ A4.out).mono ?_); rintro e w' ⟨rfl, ⟨nd, rfl⟩⟩; refine ⟨_, rfl, ?_⟩))
    go_meet
    case rel => exact ⟨_, (true), (by first | rfl | (simp; done) | (simp [*]; done)), H', ⟨by first | omega | exact Nat.le_refl _⟩, by repeat (first | exact Drawn0.refl _ | apply Drawn0.step)⟩
  case rest =>
    clear HC3
    try clear p2
    try clear c5
    obtain ⟨kq, x17_2, rfl, HA, HJ2, ⟨mc2, rfl⟩⟩ := hcut
    cases kq with
    | zero => exact absurd HA.out (by simp [impl_GridValid.j0])
    | succ kj2 =>
      have H := HA.out
      clear HA
      simp only [impl_GridValid.j0] at H
      by_cases c6 : x17_2 = true
      · subst c6
        have H1 : (some false) = some r := by rw [if_pos rfl] at H; exact H
        clear H
        have H := H1
        clear H1
        obtain rfl := Option.some.inj H
        go_wp2
        go_ret
        exact ⟨by first | rfl | (simp; done) | (simp [*]; done), by repeat (first | exact Drawn0.refl _ | apply Drawn0.step)⟩
      replace c6 := Bool.eq_false_iff.mpr c6
      subst c6
      have H1 : (impl_GridValid.l0 kj2 a1 l0 (l0.length : Int) 0) = some r := by rw [if_neg (show ¬ (false = true) by decide)] at H; exact H
      clear H
      have H := H1
      clear H1
      have H' := yam H
      clear H
      go_wp2
      go_loopg [20] kj2 (fun kq v20 w' => ∃ (x20_2 : Int), v20 = .int .i64 x20_2 ∧ Aside0 (impl_GridValid.l0 kq a1 l0 (l0.length : Int) x20_2 = some r) ∧ Aside0 (kq ≤ kj2) ∧ Drawn0 w w')
      case atStart => exact ⟨(0), (by first | rfl | (simp; done) | (simp [*]; done)), H', ⟨Nat.le_refl _⟩, by repeat (first | exact Drawn0.refl _ | apply Drawn0.step)⟩
      case round =>
        clear H'
        try clear c2
        try clear p2
        try clear c5
        try clear c6
        try clear p6
        try clear p2
        obtain ⟨x20_2, rfl, HA, HK2, ⟨m2, rfl⟩⟩ := hrel
        cases gk with
        | zero => exact absurd HA.out (by simp [impl_GridValid.l0])
        | succ k2 =>
          have H := HA.out
          clear HA
          simp only [impl_GridValid.l0] at H
          by_cases c7 : x20_2 < (l0.length : Int)
          rotate_left
          · rw [if_neg c7] at H
            have c7b0 : decide (x20_2 < (l0.length : Int)) = false := decide_eq_false c7
            clear c7
            obtain rfl := Option.some.inj H
            go_wp2
            go_ret
            exact ⟨by first | rfl | (simp; done) | (simp [*]; done), by repeat (first | exact Drawn0.refl _ | apply Drawn0.step)⟩

          rw [if_pos c7] at H
          have c7b0 : decide (x20_2 < (l0.length : Int)) = true := decide_eq_true c7
          clear c7
          by_cases c8 : 0 ≤ x20_2
          rotate_left
          · rw [if_neg c8] at H
            exact absurd H (by simp)
          rw [if_pos c8] at H
          have c8b0 : decide (0 ≤ x20_2) = true := decide_eq_true c8
          clear c8
          by_cases c9 : x20_2 < (l0.length : Int)
          rotate_left
          · rw [if_neg c9] at H
            exact absurd H (by simp)
          rw [if_pos c9] at H
          have c9b0 : decide (x20_2 < (l0.length : Int)) = true := decide_eq_true c9
          clear c9
          by_cases c10 : (rd l0 x20_2) < 0
          · rw [if_pos c10] at H
            have c10b0 : decide ((rd l0 x20_2) < 0) = true := decide_eq_true c10
            clear c10
            obtain rfl := Option.some.inj H
            have p207 : 0 ≤ (x20_2 : Int) := of_decide_eq_true (by first | (with_reducible assumption) | assumption)
            have q207 : x20_2 < (l0.length : Int) := of_decide_eq_true (by first | (with_reducible assumption) | assumption)
            obtain ⟨ad207, e207, hx207_0⟩ := Kd.at_int HR0.out x20_2 p207 q207
            cases e207
            replace p207 := eq_true p207
            replace q207 := eq_true q207
            go_wp2
            go_ret
            exact ⟨by first | rfl | (simp; done) | (simp [*]; done), by repeat (first | exact Drawn0.refl _ | apply Drawn0.step)⟩
          rw [if_neg c10] at H
          have c10b0 : decide ((rd l0 x20_2) < 0) = false := decide_eq_false c10
          clear c10
          by_cases c11 : (rd l0 x20_2) > a1
          · rw [if_pos c11] at H
            have c11b0 : decide (a1 < (rd l0 x20_2)) = true := decide_eq_true c11
            clear c11
            obtain rfl := Option.some.inj H
            have p207 : 0 ≤ (x20_2 : Int) := of_decide_eq_true (by first | (with_reducible assumption) | assumption)
            have q207 : x20_2 < (l0.length : Int) := of_decide_eq_true (by first | (with_reducible assumption) | assumption)
            obtain ⟨ad207, e207, hx207_0⟩ := Kd.at_int HR0.out x20_2 p207 q207
            cases e207
            replace p207 := eq_true p207
            replace q207 := eq_true q207
            go_wp2
            go_ret
            exact ⟨by first | rfl | (simp; done) | (simp [*]; done), by repeat (first | exact Drawn0.refl _ | apply Drawn0.step)⟩
          rw [if_neg c11] at H
          have c11b0 : decide (a1 < (rd l0 x20_2)) = false := decide_eq_false c11
          clear c11
          have H' := yam H
          clear H
          have p207 : 0 ≤ (x20_2 : Int) := of_decide_eq_true (by first | (with_reducible assumption) | assumption)
          have q207 : x20_2 < (l0.length : Int) := of_decide_eq_true (by first | (with_reducible assumption) | assumption)
          obtain ⟨ad207, e207, hx207_0⟩ := Kd.at_int HR0.out x20_2 p207 q207
          cases e207
          replace p207 := eq_true p207
          replace q207 := eq_true q207
          go_wp2
          go_roundg k2
          case measure => have := HJ2.out; have := HK2.out; omega
          case rel => exact ⟨(wrap64 (x20_2 + 1)), (by first | rfl | (simp; done) | (simp [*]; done)), H', ⟨by have := HJ2.out; have := HK2.out; omega⟩, by repeat (first | exact Drawn0.refl _ | apply Drawn0.step)⟩
end Go.Proofs.Ythfbjkniinfgcaa.P
namespace Go.Proofs.Ythfbjkniinfgcaa.P
open Go.RowKit Go.Proofs.YthfbjkniinfgcaaW.PrintWords Go.Proofs.YthfbjkniinfgcaaW.PrintLast Go.Proofs.YthfbjkniinfgcaaW.PrintMore
attribute [local go_sem] max2_int min2_int max_two min_two max_three min_three max_four min_four   -- for this text's walks alone
set_option linter.unusedVariables false
set_option linter.unusedSimpArgs false

/-! ### slices_Index_int_int: function 89 -/
def slices_Index_int_int.l0 : Nat → List Int → Int → Int → Int → Option (Int)
  | 0, _, _, _, _ => none
  | k + 1, x0, x1, x7, x8 => if x8 < x7 then (if 0 ≤ x8 then (if x8 < (x0.length : Int) then (if x1 = (rd x0 x8) then (some x8) else (slices_Index_int_int.l0 k x0 x1 x7 (wrap64 (x8 + 1)))) else (none)) else (none)) else (some (-1))
def slices_Index_int_int.f (k : Nat) (l0 : List Int) (a1 : Int) : Option (Int) := slices_Index_int_int.l0 k l0 a1 (l0.length : Int) 0
theorem slices_Index_int_int.mono_l : ∀ k, (∀ y0 y1 y2 y3, LeO (slices_Index_int_int.l0 k y0 y1 y2 y3) (slices_Index_int_int.l0 (k + 1) y0 y1 y2 y3))
  | 0 => fun _ _ _ _ r h => by simp [slices_Index_int_int.l0] at h
  | k + 1 => by
    have ih0 := slices_Index_int_int.mono_l k
    · intro y0 y1 y2 y3
      unfold slices_Index_int_int.l0
      repeat' first
      | (with_reducible exact ih0 _ _ _ _)
      | (with_reducible exact LeO.refl _)
      | (with_reducible exact LeO.none _)
      | (with_reducible refine LeO.ite ?_ ?_)
      | (with_reducible refine LeO.bind ?_ (fun _ => ?_))
      | exact ih0 _ _ _ _
      | exact LeO.none _
      | refine LeO.ite ?_ ?_
      | refine LeO.bind ?_ (fun _ => ?_)
theorem slices_Index_int_int.mono : ∀ a0 a1 k, LeO (slices_Index_int_int.f k a0 a1) (slices_Index_int_int.f (k + 1) a0 a1) := by
  intro a0 a1 k
  have ih0 := slices_Index_int_int.mono_l k
  unfold slices_Index_int_int.f
  repeat' first
      | (with_reducible exact ih0 _ _ _ _)
      | (with_reducible exact LeO.refl _)
      | (with_reducible exact LeO.none _)
      | (with_reducible refine LeO.ite ?_ ?_)
      | (with_reducible refine LeO.bind ?_ (fun _ => ?_))
      | exact ih0 _ _ _ _
      | exact LeO.none _
      | refine LeO.ite ?_ ?_
      | refine LeO.bind ?_ (fun _ => ?_)
set_option maxHeartbeats 8000000 in
set_option maxRecDepth 100000 in
theorem slices_Index_int_int.calls (k : Nat) (A0 : Option Addr) (c0 : Nat) (l0 : List Int) (a1 : Int) (r : Int) (w : World) (hr0 : Kd.C (Kd.int .i64) w A0 l0.length l0) (hc0 : l0.length ≤ c0) (h : slices_Index_int_int.f k l0 a1 = some r) :
    Calls Try.prog 89 #[.slice A0 l0.length c0, .int .i64 a1] w fun e w' => e = .returned (.int .i64 r) ∧ Drawn0 w w' := by
  have HR0 := yam hr0
  have HC0 := yam hc0
  clear hr0 hc0
  have H : (slices_Index_int_int.l0 k l0 a1 (l0.length : Int) 0) = some r := h
  clear h
  have H' := yam H
  clear H
  go_enter Try.func89, Try.ntmps89
  go_wp2
  go_loopg [8] k (fun kq v8 w' => ∃ (x8_1 : Int), v8 = .int .i64 x8_1 ∧ Aside0 (slices_Index_int_int.l0 kq l0 a1 (l0.length : Int) x8_1 = some r) ∧ Aside0 (kq ≤ k) ∧ Drawn0 w w')
  case atStart => exact ⟨(0), (by first | rfl | (simp; done) | (simp [*]; done)), H', ⟨Nat.le_refl _⟩, by repeat (first | exact Drawn0.refl _ | apply Drawn0.step)⟩
  case round =>
    clear H'
    try clear p2
    obtain ⟨x8_1, rfl, HA, HK1, ⟨m1, rfl⟩⟩ := hrel
    cases gk with
    | zero => exact absurd HA.out (by simp [slices_Index_int_int.l0])
    | succ k1 =>
      have H := HA.out
      clear HA
      simp only [slices_Index_int_int.l0] at H
      by_cases c3 : x8_1 < (l0.length : Int)
      rotate_left
      · rw [if_neg c3] at H
        have c3b0 : decide (x8_1 < (l0.length : Int)) = false := decide_eq_false c3
        clear c3
        obtain rfl := Option.some.inj H
        go_wp2
        go_ret
        exact ⟨by first | rfl | (simp; done) | (simp [*]; done), by repeat (first | exact Drawn0.refl _ | apply Drawn0.step)⟩

      rw [if_pos c3] at H
      have c3b0 : decide (x8_1 < (l0.length : Int)) = true := decide_eq_true c3
      clear c3
      by_cases c4 : 0 ≤ x8_1
      rotate_left
      · rw [if_neg c4] at H
        exact absurd H (by simp)
      rw [if_pos c4] at H
      have c4b0 : decide (0 ≤ x8_1) = true := decide_eq_true c4
      clear c4
      by_cases c5 : x8_1 < (l0.length : Int)
      rotate_left
      · rw [if_neg c5] at H
        exact absurd H (by simp)
      rw [if_pos c5] at H
      have c5b0 : decide (x8_1 < (l0.length : Int)) = true := decide_eq_true c5
      clear c5
      by_cases c6 : a1 = (rd l0 x8_1)
      · rw [if_pos c6] at H
        have c6b0 : (a1 == (rd l0 x8_1)) = true := beq_iff_eq.mpr c6
        have c6b1 : (a1 != (rd l0 x8_1)) = false := bne_eq_false_iff_eq.mpr c6
        clear c6
        obtain rfl := Option.some.inj H
        have p355 : 0 ≤ (x8_1 : Int) := of_decide_eq_true (by first | (with_reducible assumption) | assumption)
        have q355 : x8_1 < (l0.length : Int) := of_decide_eq_true (by first | (with_reducible assumption) | assumption)
        obtain ⟨ad355, e355, hx355_0⟩ := Kd.at_int HR0.out x8_1 p355 q355
        cases e355
        replace p355 := eq_true p355
        replace q355 := eq_true q355
        go_wp2
        go_ret
        exact ⟨by first | rfl | (simp; done) | (simp [*]; done), by repeat (first | exact Drawn0.refl _ | apply Drawn0.step)⟩
      rw [if_neg c6] at H
      have c6b0 : (a1 == (rd l0 x8_1)) = false := beq_eq_false_iff_ne.mpr c6
      have c6b1 : (a1 != (rd l0 x8_1)) = true := bne_iff_ne.mpr c6
      have H' := yam H
      clear H
      have p355 : 0 ≤ (x8_1 : Int) := of_decide_eq_true (by first | (with_reducible assumption) | assumption)
      have q355 : x8_1 < (l0.length : Int) := of_decide_eq_true (by first | (with_reducible assumption) | assumption)
      obtain ⟨ad355, e355, hx355_0⟩ := Kd.at_int HR0.out x8_1 p355 q355
      cases e355
      replace p355 := eq_true p355
      replace q355 := eq_true q355
      go_wp2
      go_roundg k1
      case measure => have := HK1.out; omega
      case rel => exact ⟨(wrap64 (x8_1 + 1)), (by first | rfl | (simp; done) | (simp [*]; done)), H', ⟨by have := HK1.out; omega⟩, by repeat (first | exact Drawn0.refl _ | apply Drawn0.step)⟩
end Go.Proofs.Ythfbjkniinfgcaa.P
namespace Go.Proofs.Ythfbjkniinfgcaa.P
open Go.RowKit Go.Proofs.YthfbjkniinfgcaaW.PrintWords Go.Proofs.YthfbjkniinfgcaaW.PrintLast Go.Proofs.YthfbjkniinfgcaaW.PrintMore
attribute [local go_sem] max2_int min2_int max_two min_two max_three min_three max_four min_four   -- for this text's walks alone
set_option linter.unusedVariables false
set_option linter.unusedSimpArgs false

/-! ### slices_Contains_int_int: function 69 -/
def slices_Contains_int_int.f (k : Nat) (l0 : List Int) (a1 : Int) : Option (Bool) := (slices_Index_int_int.f k l0 a1).bind fun t356 => (some (decide (t356 ≥ 0)))
theorem slices_Contains_int_int.mono : ∀ a0 a1 k, LeO (slices_Contains_int_int.f k a0 a1) (slices_Contains_int_int.f (k + 1) a0 a1) := by
  intro a0 a1 k
  unfold slices_Contains_int_int.f
  repeat' first
      | (with_reducible exact slices_Index_int_int.mono _ _ _)
      | (with_reducible exact LeO.refl _)
      | (with_reducible exact LeO.none _)
      | (with_reducible refine LeO.ite ?_ ?_)
      | (with_reducible refine LeO.bind ?_ (fun _ => ?_))
      | exact slices_Index_int_int.mono _ _ _
      | exact LeO.none _
      | refine LeO.ite ?_ ?_
      | refine LeO.bind ?_ (fun _ => ?_)
set_option maxHeartbeats 8000000 in
set_option maxRecDepth 100000 in
theorem slices_Contains_int_int.calls (k : Nat) (A0 : Option Addr) (c0 : Nat) (l0 : List Int) (a1 : Int) (r : Bool) (w : World) (hr0 : Kd.C (Kd.int .i64) w A0 l0.length l0) (hc0 : l0.length ≤ c0) (h : slices_Contains_int_int.f k l0 a1 = some r) :
    Calls Try.prog 69 #[.slice A0 l0.length c0, .int .i64 a1] w fun e w' => e = .returned (.bool r) ∧ Drawn0 w w' := by
  have HR0 := yam hr0
  have HC0 := yam hc0
  clear hr0 hc0
  have H : ((slices_Index_int_int.f k l0 a1).bind fun t356 => (some (decide (t356 ≥ 0)))) = some r := h
  clear h
  replace H := Option.bind_eq_some_iff.mp H
  obtain ⟨t356, A30, H⟩ := H
  try dsimp only at H
  have A3 := yam A30
  clear A30
  obtain rfl := Option.some.inj H
  go_enter Try.func69, Try.ntmps69
  go_wp2_with (first | ((with_reducible refine gate_callee (f := 89) rfl ?_); refine goesL_ (some 7) rfl rfl Try.func89 (by kernel_rfl) rfl #[.slice A0 l0.length c0, .int .i64 a1] rfl (by (try simp only [List.map_toArray, List.map_cons, List.map_nil]); first | done | rfl | (simp only [List.length_drop, List.length_take]; rfl)) ?_; (with_reducible refine (slices_Index_int_int.calls k _ _ l0 a1 t356 _ ?side1 ?side2 A3.out).mono ?_); (case side1 => exact Kd.Cz (HR0.out)); (case side2 => exact HC0.out); rintro e w' ⟨rfl, ⟨nd, rfl⟩⟩; refine ⟨_, rfl, ?_⟩))
  go_ret
  exact ⟨by first | rfl | (simp; done) | (simp [*]; done), by repeat (first | exact Drawn0.refl _ | apply Drawn0.step)⟩

end Go.Proofs.Ythfbjkniinfgcaa.P
namespace Go.Proofs.Ythfbjkniinfgcaa.P
open Go.RowKit Go.Proofs.YthfbjkniinfgcaaW.PrintWords Go.Proofs.YthfbjkniinfgcaaW.PrintLast Go.Proofs.YthfbjkniinfgcaaW.PrintMore
attribute [local go_sem] max2_int min2_int max_two min_two max_three min_three max_four min_four   -- for this text's walks alone
set_option linter.unusedVariables false
set_option linter.unusedSimpArgs false

/-! ### impl_RuleValid: function 23 -/
mutual
def impl_RuleValid.l0 : Nat → Int → List Int → Int → Int → Int → List Int → Int → Option (Bool)
  | 0, _, _, _, _, _, _, _ => none
  | k + 1, x1, x12, x13, x14, x358000, x358001, x358002 => if x14 < x13 then (if 0 ≤ x14 then (if x14 < (x12.length : Int) then (if (rd x12 x14) < 0 then (some false) else (if (rd x12 x14) ≥ (wrap64 (x1 * x1)) then (some false) else (if x14 ≤ (x358001.length : Int) then ((slices_Contains_int_int.f k (x358001.take (x14 : Int).toNat) (rd x12 x14)).bind fun t361 => (if t361 = true then (some false) else (impl_RuleValid.l0 k x1 x12 x13 (wrap64 (x14 + 1)) x358000 x358001 x358002))) else (none)))) else (none)) else (none)) else (if x358000 = 1 then (if (x358001.length : Int) ≥ 2 then (if (x358001.length : Int) ≤ 4 then (some (x358002 == 0)) else (some false)) else (some false)) else (if x358000 = 2 then (impl_RuleValid.j1 k x1 (x358001.length : Int) x358000 (x358000 == 2) x358000 x358001 x358002) else (impl_RuleValid.j1 k x1 (x358001.length : Int) x358000 (x358000 == 3) x358000 x358001 x358002)))
def impl_RuleValid.j1 : Nat → Int → Int → Int → Bool → Int → List Int → Int → Option (Bool)
  | 0, _, _, _, _, _, _, _ => none
  | k + 1, x1, x7, x41, x55, x358000, x358001, x358002 => if x55 = true then (if x7 ≥ 1 then (if x7 ≤ 4 then (if x358002 ≥ 1 then (some (decide (x358002 ≤ (wrap64 ((wrap64 ((wrap64 (x1 * x1)) * x1)) * x1))))) else (some false)) else (some false)) else (some false)) else (if x41 = 4 then (if x7 = 2 then (some (x358002 == 0)) else (some false)) else (if x41 = 5 then (if x7 = 2 then (if x358002 ≥ 0 then (some (decide (x358002 < x1))) else (some false)) else (some false)) else (some false)))
end
def impl_RuleValid.f (k : Nat) (a0_0 : Int) (l0_1 : List Int) (a0_2 : Int) (a1 : Int) : Option (Bool) := (impl_sizeOk.f a1).bind fun t358 => (if t358 = true then (impl_RuleValid.l0 k a1 l0_1 (l0_1.length : Int) 0 a0_0 l0_1 a0_2) else (some false))
theorem impl_RuleValid.mono_l : ∀ k, (∀ y0 y1 y2 y3 y4 y5 y6, LeO (impl_RuleValid.l0 k y0 y1 y2 y3 y4 y5 y6) (impl_RuleValid.l0 (k + 1) y0 y1 y2 y3 y4 y5 y6)) ∧ (∀ y0 y1 y2 y3 y4 y5 y6, LeO (impl_RuleValid.j1 k y0 y1 y2 y3 y4 y5 y6) (impl_RuleValid.j1 (k + 1) y0 y1 y2 y3 y4 y5 y6))
  | 0 => ⟨fun _ _ _ _ _ _ _ r h => by simp [impl_RuleValid.l0] at h, fun _ _ _ _ _ _ _ r h => by simp [impl_RuleValid.j1] at h⟩
  | k + 1 => by
    obtain ⟨ih0, ih1⟩ := impl_RuleValid.mono_l k
    refine ⟨?_, ?_⟩
    · intro y0 y1 y2 y3 y4 y5 y6
      unfold impl_RuleValid.l0
      repeat' first
      | (with_reducible exact ih0 _ _ _ _ _ _ _)
      | (with_reducible exact ih1 _ _ _ _ _ _ _)
      | (with_reducible exact slices_Contains_int_int.mono _ _ _)
      | (with_reducible exact LeO.refl _)
      | (with_reducible exact LeO.none _)
      | (with_reducible refine LeO.ite ?_ ?_)
      | (with_reducible refine LeO.bind ?_ (fun _ => ?_))
      | exact ih0 _ _ _ _ _ _ _
      | exact ih1 _ _ _ _ _ _ _
      | exact slices_Contains_int_int.mono _ _ _
      | exact LeO.none _
      | refine LeO.ite ?_ ?_
      | refine LeO.bind ?_ (fun _ => ?_)
    · intro y0 y1 y2 y3 y4 y5 y6
      unfold impl_RuleValid.j1
      repeat' first
      | (with_reducible exact ih0 _ _ _ _ _ _ _)
      | (with_reducible exact ih1 _ _ _ _ _ _ _)
      | (with_reducible exact slices_Contains_int_int.mono _ _ _)
      | (with_reducible exact LeO.refl _)
      | (with_reducible exact LeO.none _)
      | (with_reducible refine LeO.ite ?_ ?_)
      | (with_reducible refine LeO.bind ?_ (fun _ => ?_))
      | exact ih0 _ _ _ _ _ _ _
      | exact ih1 _ _ _ _ _ _ _
      | exact slices_Contains_int_int.mono _ _ _
      | exact LeO.none _
      | refine LeO.ite ?_ ?_
      | refine LeO.bind ?_ (fun _ => ?_)
theorem impl_RuleValid.mono : ∀ a0 a1 a2 a3 k, LeO (impl_RuleValid.f k a0 a1 a2 a3) (impl_RuleValid.f (k + 1) a0 a1 a2 a3) := by
  intro a0 a1 a2 a3 k
  obtain ⟨ih0, ih1⟩ := impl_RuleValid.mono_l k
  unfold impl_RuleValid.f
  repeat' first
      | (with_reducible exact ih0 _ _ _ _ _ _ _)
      | (with_reducible exact ih1 _ _ _ _ _ _ _)
      | (with_reducible exact slices_Contains_int_int.mono _ _ _)
      | (with_reducible exact LeO.refl _)
      | (with_reducible exact LeO.none _)
      | (with_reducible refine LeO.ite ?_ ?_)
      | (with_reducible refine LeO.bind ?_ (fun _ => ?_))
      | exact ih0 _ _ _ _ _ _ _
      | exact ih1 _ _ _ _ _ _ _
      | exact slices_Contains_int_int.mono _ _ _
      | exact LeO.none _
      | refine LeO.ite ?_ ?_
      | refine LeO.bind ?_ (fun _ => ?_)
set_option maxHeartbeats 8000000 in
set_option maxRecDepth 100000 in
theorem impl_RuleValid.calls (k : Nat) (a0_0 : Int) (A0_1 : Option Addr) (c0_1 : Nat) (l0_1 : List Int) (a0_2 : Int) (a1 : Int) (r : Bool) (w : World) (hr0_1 : Kd.C (Kd.int .i64) w A0_1 l0_1.length l0_1) (hc0_1 : l0_1.length ≤ c0_1) (h : impl_RuleValid.f k a0_0 l0_1 a0_2 a1 = some r) :
    Calls Try.prog 23 #[.agg #[.int .i64 a0_0, .slice A0_1 l0_1.length c0_1, .int .i64 a0_2], .int .i64 a1] w fun e w' => e = .returned (.bool r) ∧ Below w.heap.size w w' := by
  have hu32 := Try.underlying32
  have HR0_1 := yam hr0_1
  have HC0_1 := yam hc0_1
  clear hr0_1 hc0_1
  have HB := yam (Below.refl w.heap.size w)
  have H : ((impl_sizeOk.f a1).bind fun t358 => (if t358 = true then (impl_RuleValid.l0 k a1 l0_1 (l0_1.length : Int) 0 a0_0 l0_1 a0_2) else (some false))) = some r := h
  clear h
  replace H := Option.bind_eq_some_iff.mp H
  obtain ⟨t358, A30, H⟩ := H
  try dsimp only at H
  have A3 := yam A30
  clear A30
  by_cases c4 : t358 = true
  rotate_left
  · replace c4 := Bool.eq_false_iff.mpr c4
    subst c4
    have H1 : (some false) = some r := by rw [if_neg (show ¬ (false = true) by decide)] at H; exact H
    clear H
    have H := H1
    clear H1
    obtain rfl := Option.some.inj H
    go_enter Try.func23, Try.ntmps23
    go_wp2_with (first | ((with_reducible refine gate_dst (N := 2) rfl ?_); refine box_event ?hg (N := 2) ?hd (cs := #[.int .i64 a0_0, .slice A0_1 l0_1.length c0_1, .int .i64 a0_2]) (t := 32) ?hr ?_; (case hd => rfl); (case hg => rfl); (case hr => first | (go_simp; done) | (go_simp; rfl)); intro gb357 hg w43 hbox hb; have n0_ := yam (below_step (yez HB.out) hb); have n1_ := yam (hbox); have n2_ := yam ((by rw [hg]; exact (below_size (yez HB.out)) : w.heap.size ≤ gb357)); have n3_ := yam ((by rw [hg]; exact (below_size (yez HB.out)) : w.heap.size ≤ gb357)); clear HB; have HB := n0_; have BK357 := n1_; have GW357 := n2_; have GE357 := n3_; clear n0_ n1_ n2_ n3_; clear hb hbox hg) | ((with_reducible refine gate_callee (f := 64) rfl ?_); refine goesL_ (some 9) rfl rfl Try.func64 (by kernel_rfl) rfl #[.int .i64 a1] rfl (by (try simp only [List.map_toArray, List.map_cons, List.map_nil]); first | done | rfl | (simp only [List.length_drop, List.length_take]; rfl)) ?_; (with_reducible refine (impl_sizeOk.calls a1 false _ A3.out).mono ?_); rintro e w' ⟨rfl, ⟨nd, rfl⟩⟩; refine ⟨_, rfl, ?_⟩))
    go_ret
    exact ⟨by first | rfl | (simp [errW_none, errW_some] <;> rfl) | (simp [*, errW_none, errW_some] <;> rfl), by repeat (first | (with_reducible first | exact HB.out | apply yea | apply yen | apply yed | refine below_set ?_ GE357.out) | exact HB.out)⟩

  subst c4
  have H1 : (impl_RuleValid.l0 k a1 l0_1 (l0_1.length : Int) 0 a0_0 l0_1 a0_2) = some r := by rw [if_pos rfl] at H; exact H
  clear H
  have H := H1
  clear H1
  have H' := yam H
  clear H
  go_enter Try.func23, Try.ntmps23
  go_wp2_with (first | ((with_reducible refine gate_dst (N := 2) rfl ?_); refine box_event ?hg (N := 2) ?hd (cs := #[.int .i64 a0_0, .slice A0_1 l0_1.length c0_1, .int .i64 a0_2]) (t := 32) ?hr ?_; (case hd => rfl); (case hg => rfl); (case hr => first | (go_simp; done) | (go_simp; rfl)); intro gb357 hg w5 hbox hb; have n0_ := yam (below_step (yez HB.out) hb); have n1_ := yam (hbox); have n2_ := yam ((by rw [hg]; exact (below_size (yez HB.out)) : w.heap.size ≤ gb357)); have n3_ := yam ((by rw [hg]; exact (below_size (yez HB.out)) : w.heap.size ≤ gb357)); clear HB; have HB := n0_; have BK357 := n1_; have GW357 := n2_; have GE357 := n3_; clear n0_ n1_ n2_ n3_; clear hb hbox hg) | ((with_reducible refine gate_callee (f := 64) rfl ?_); refine goesL_ (some 9) rfl rfl Try.func64 (by kernel_rfl) rfl #[.int .i64 a1] rfl (by (try simp only [List.map_toArray, List.map_cons, List.map_nil]); first | done | rfl | (simp only [List.length_drop, List.length_take]; rfl)) ?_; (with_reducible refine (impl_sizeOk.calls a1 true _ A3.out).mono ?_); rintro e w' ⟨rfl, ⟨nd, rfl⟩⟩; refine ⟨_, rfl, ?_⟩; have hcz6_0 : w5.cell? ⟨gb357, 0, none⟩ = some (.int .i64 a0_0) := (blk_cell BK357.out 0).trans rfl; have hcz6_1 : w5.cell? ⟨gb357, 1, none⟩ = some (.slice A0_1 l0_1.length c0_1) := (blk_cell BK357.out 1).trans rfl; have hcz6_2 : w5.cell? ⟨gb357, 2, none⟩ = some (.int .i64 a0_2) := (blk_cell BK357.out 2).trans rfl; have hfz6_0 := blk_frozen BK357.out 0; have hfz6_1 := blk_frozen BK357.out 1; have hfz6_2 := blk_frozen BK357.out 2))
  go_loopg [14] k (fun kq v14 w' => ∃ (x14_1 : Int), v14 = .int .i64 x14_1 ∧ Aside0 (impl_RuleValid.l0 kq a1 l0_1 (l0_1.length : Int) x14_1 a0_0 l0_1 a0_2 = some r) ∧ Aside0 (kq ≤ k) ∧ Aside0 (w'.heap[gb357]? = some (.cells #[.int .i64 a0_0, (.slice A0_1 l0_1.length c0_1), .int .i64 a0_2] 32 (0, 0))) ∧ Aside0 (Below w.heap.size w w'))
  case atStart => exact ⟨(0), (by first | rfl | (simp; done) | (simp [*]; done)), H', ⟨Nat.le_refl _⟩, ⟨by (with_reducible repeat (first | refine ybn ?_ _ | refine ybd ?_ | refine yba ?_ _)); exact BK357.out⟩, ⟨by repeat (first | (with_reducible first | exact HB.out | apply yea | apply yen | apply yed | refine below_set ?_ GE357.out) | exact HB.out)⟩⟩
  case round =>
    clear H'
    try clear c2
    try clear p2
    try clear c4
    try clear c6
    try clear hcz6_0
    try clear hcz6_1
    try clear hcz6_2
    try clear hfz6_0
    try clear hfz6_1
    try clear hfz6_2
    obtain ⟨x14_1, rfl, HA, HK1, BK357, HB⟩ := hrel
    cases gk with
    | zero => exact absurd HA.out (by simp [impl_RuleValid.l0])
    | succ k1 =>
      have H := HA.out
      clear HA
      simp only [impl_RuleValid.l0] at H
      by_cases c7 : x14_1 < (l0_1.length : Int)
      · rw [if_pos c7] at H
        have c7b0 : decide (x14_1 < (l0_1.length : Int)) = true := decide_eq_true c7
        clear c7
        by_cases c8 : 0 ≤ x14_1
        rotate_left
        · rw [if_neg c8] at H
          exact absurd H (by simp)
        rw [if_pos c8] at H
        have c8b0 : decide (0 ≤ x14_1) = true := decide_eq_true c8
        clear c8
        by_cases c9 : x14_1 < (l0_1.length : Int)
        rotate_left
        · rw [if_neg c9] at H
          exact absurd H (by simp)
        rw [if_pos c9] at H
        have c9b0 : decide (x14_1 < (l0_1.length : Int)) = true := decide_eq_true c9
        clear c9
        by_cases c10 : (rd l0_1 x14_1) < 0
        · rw [if_pos c10] at H
          have c10b0 : decide ((rd l0_1 x14_1) < 0) = true := decide_eq_true c10
          clear c10
          obtain rfl := Option.some.inj H
          have p359 : 0 ≤ (x14_1 : Int) := of_decide_eq_true (by first | (with_reducible assumption) | assumption)
          have q359 : x14_1 < (l0_1.length : Int) := of_decide_eq_true (by first | (with_reducible assumption) | assumption)
          obtain ⟨ad359, e359, hx359_0⟩ := Kd.at_int HR0_1.out x14_1 p359 q359
          cases e359
          replace hx359_0 := (HB.out.cell (World.block_lt_of_cell? w _ hx359_0)).trans hx359_0
          replace p359 := eq_true p359
          replace q359 := eq_true q359
          go_wp2
          go_ret
          exact ⟨by first | rfl | (simp [errW_none, errW_some] <;> rfl) | (simp [*, errW_none, errW_some] <;> rfl), by repeat (first | (with_reducible first | exact HB.out | apply yea | apply yen | apply yed | refine below_set ?_ GE357.out) | exact HB.out)⟩
        rw [if_neg c10] at H
        have c10b0 : decide ((rd l0_1 x14_1) < 0) = false := decide_eq_false c10
        clear c10
        by_cases c11 : (rd l0_1 x14_1) ≥ (wrap64 (a1 * a1))
        · rw [if_pos c11] at H
          have c11b0 : decide ((wrap64 (a1 * a1)) ≤ (rd l0_1 x14_1)) = true := decide_eq_true c11
          clear c11
          obtain rfl := Option.some.inj H
          have p359 : 0 ≤ (x14_1 : Int) := of_decide_eq_true (by first | (with_reducible assumption) | assumption)
          have q359 : x14_1 < (l0_1.length : Int) := of_decide_eq_true (by first | (with_reducible assumption) | assumption)
          obtain ⟨ad359, e359, hx359_0⟩ := Kd.at_int HR0_1.out x14_1 p359 q359
          cases e359
          replace hx359_0 := (HB.out.cell (World.block_lt_of_cell? w _ hx359_0)).trans hx359_0
          replace p359 := eq_true p359
          replace q359 := eq_true q359
          go_wp2
          go_ret
          exact ⟨by first | rfl | (simp [errW_none, errW_some] <;> rfl) | (simp [*, errW_none, errW_some] <;> rfl), by repeat (first | (with_reducible first | exact HB.out | apply yea | apply yen | apply yed | refine below_set ?_ GE357.out) | exact HB.out)⟩
        rw [if_neg c11] at H
        have c11b0 : decide ((wrap64 (a1 * a1)) ≤ (rd l0_1 x14_1)) = false := decide_eq_false c11
        clear c11
        have c12b0 := eq_true (of_decide_eq_true (by first | (with_reducible assumption) | assumption) : 0 ≤ x14_1)
        by_cases c13 : x14_1 ≤ (l0_1.length : Int)
        rotate_left
        · rw [if_neg c13] at H
          exact absurd H (by simp)
        rw [if_pos c13] at H
        have c13b0 := eq_true c13
        have c13b1 : decide (x14_1 ≤ (l0_1.length : Int)) = true := decide_eq_true c13
        clear c13
        replace H := Option.bind_eq_some_iff.mp H
        obtain ⟨t361, A140, H⟩ := H
        try dsimp only at H
        have A14 := yam A140
        clear A140
        by_cases c15 : t361 = true
        · subst c15
          have H1 : (some false) = some r := by rw [if_pos rfl] at H; exact H
          clear H
          have H := H1
          clear H1
          obtain rfl := Option.some.inj H
          have p359 : 0 ≤ (x14_1 : Int) := of_decide_eq_true (by first | (with_reducible assumption) | assumption)
          have q359 : x14_1 < (l0_1.length : Int) := of_decide_eq_true (by first | (with_reducible assumption) | assumption)
          obtain ⟨ad359, e359, hx359_0⟩ := Kd.at_int HR0_1.out x14_1 p359 q359
          cases e359
          replace hx359_0 := (HB.out.cell (World.block_lt_of_cell? w _ hx359_0)).trans hx359_0
          replace p359 := eq_true p359
          replace q359 := eq_true q359
          have hcz16_0 : wr.cell? ⟨gb357, 0, none⟩ = some (.int .i64 a0_0) := (blk_cell BK357.out 0).trans rfl
          have hcz16_1 : wr.cell? ⟨gb357, 1, none⟩ = some (.slice (some ad359) l0_1.length c0_1) := (blk_cell BK357.out 1).trans rfl
          have hcz16_2 : wr.cell? ⟨gb357, 2, none⟩ = some (.int .i64 a0_2) := (blk_cell BK357.out 2).trans rfl
          have hfz16_0 := blk_frozen BK357.out 0
          have hfz16_1 := blk_frozen BK357.out 1
          have hfz16_2 := blk_frozen BK357.out 2
          obtain ⟨i017, hi017, _, hsz17, _⟩ := info_parts info3
          obtain ⟨hcut17, hA17, hC17⟩ := print_take_of (P := Try.prog) (Value.int .i64) 0 23 3 .i64 Try.underlying23 hi017 hsz17 (some ad359) c0_1 l0_1 x14_1 (of_decide_eq_true (by first | (with_reducible assumption) | assumption)) (of_decide_eq_true (by first | (with_reducible assumption) | assumption)) HC0_1.out
          have hl17_ : (l0_1.take (x14_1 : Int).toNat).length = (x14_1 : Int).toNat := by
            have e0_ : 0 ≤ (x14_1 : Int) := of_decide_eq_true (by first | (with_reducible assumption) | assumption)
            have e1_ : (x14_1 : Int) ≤ (l0_1.length : Int) := of_decide_eq_true (by first | (with_reducible assumption) | assumption)
            rw [List.length_take]; omega
          have HR360 := yam (Kd.C_of_reads (h1 := fun _ => rfl) (hA17 _ (Kd.reads_of_C HR0_1.out)))
          have HC360 := yam hC17
          clear hA17 hC17 hi017 hsz17
          go_wp2_with (first | (go_at_call 69; (first | (with_reducible refine (slices_Contains_int_int.calls k1 _ _ (l0_1.take (x14_1 : Int).toNat) (rd l0_1 x14_1) true _ ?side1 ?side2 A14.out).mono ?_) | (rw [← hl17_]; (with_reducible refine (slices_Contains_int_int.calls k1 _ _ (l0_1.take (x14_1 : Int).toNat) (rd l0_1 x14_1) true _ ?side1 ?side2 A14.out).mono ?_))); (case side1 => exact Kd.Cz ((Kd.C_below HR360.out HB.out))); (case side2 => exact HC360.out); rintro e w' ⟨rfl, ⟨nd, rfl⟩⟩))
          go_ret
          exact ⟨by first | rfl | (simp [errW_none, errW_some] <;> rfl) | (simp [*, errW_none, errW_some] <;> rfl), by repeat (first | (with_reducible first | exact HB.out | apply yea | apply yen | apply yed | refine below_set ?_ GE357.out) | exact HB.out)⟩
        replace c15 := Bool.eq_false_iff.mpr c15
        subst c15
        have H1 : (impl_RuleValid.l0 k1 a1 l0_1 (l0_1.length : Int) (wrap64 (x14_1 + 1)) a0_0 l0_1 a0_2) = some r := by rw [if_neg (show ¬ (false = true) by decide)] at H; exact H
        clear H
        have H := H1
        clear H1
        have H' := yam H
        clear H
        have p359 : 0 ≤ (x14_1 : Int) := of_decide_eq_true (by first | (with_reducible assumption) | assumption)
        have q359 : x14_1 < (l0_1.length : Int) := of_decide_eq_true (by first | (with_reducible assumption) | assumption)
        obtain ⟨ad359, e359, hx359_0⟩ := Kd.at_int HR0_1.out x14_1 p359 q359
        cases e359
        replace hx359_0 := (HB.out.cell (World.block_lt_of_cell? w _ hx359_0)).trans hx359_0
        replace p359 := eq_true p359
        replace q359 := eq_true q359
        have hcz18_0 : wr.cell? ⟨gb357, 0, none⟩ = some (.int .i64 a0_0) := (blk_cell BK357.out 0).trans rfl
        have hcz18_1 : wr.cell? ⟨gb357, 1, none⟩ = some (.slice (some ad359) l0_1.length c0_1) := (blk_cell BK357.out 1).trans rfl
        have hcz18_2 : wr.cell? ⟨gb357, 2, none⟩ = some (.int .i64 a0_2) := (blk_cell BK357.out 2).trans rfl
        have hfz18_0 := blk_frozen BK357.out 0
        have hfz18_1 := blk_frozen BK357.out 1
        have hfz18_2 := blk_frozen BK357.out 2
        obtain ⟨i019, hi019, _, hsz19, _⟩ := info_parts info3
        obtain ⟨hcut19, hA19, hC19⟩ := print_take_of (P := Try.prog) (Value.int .i64) 0 23 3 .i64 Try.underlying23 hi019 hsz19 (some ad359) c0_1 l0_1 x14_1 (of_decide_eq_true (by first | (with_reducible assumption) | assumption)) (of_decide_eq_true (by first | (with_reducible assumption) | assumption)) HC0_1.out
        have hl19_ : (l0_1.take (x14_1 : Int).toNat).length = (x14_1 : Int).toNat := by
          have e0_ : 0 ≤ (x14_1 : Int) := of_decide_eq_true (by first | (with_reducible assumption) | assumption)
          have e1_ : (x14_1 : Int) ≤ (l0_1.length : Int) := of_decide_eq_true (by first | (with_reducible assumption) | assumption)
          rw [List.length_take]; omega
        have HR360 := yam (Kd.C_of_reads (h1 := fun _ => rfl) (hA19 _ (Kd.reads_of_C HR0_1.out)))
        have HC360 := yam hC19
        clear hA19 hC19 hi019 hsz19
        go_wp2_with (first | (go_at_call 69; (first | (with_reducible refine (slices_Contains_int_int.calls k1 _ _ (l0_1.take (x14_1 : Int).toNat) (rd l0_1 x14_1) false _ ?side1 ?side2 A14.out).mono ?_) | (rw [← hl19_]; (with_reducible refine (slices_Contains_int_int.calls k1 _ _ (l0_1.take (x14_1 : Int).toNat) (rd l0_1 x14_1) false _ ?side1 ?side2 A14.out).mono ?_))); (case side1 => exact Kd.Cz ((Kd.C_below HR360.out HB.out))); (case side2 => exact HC360.out); rintro e w' ⟨rfl, ⟨nd, rfl⟩⟩))
        go_roundg k1
        case measure => have := HK1.out; omega
        case rel => exact ⟨(wrap64 (x14_1 + 1)), (by first | rfl | (simp; done) | (simp [*]; done)), H', ⟨by have := HK1.out; omega⟩, ⟨by (with_reducible repeat (first | refine ybn ?_ _ | refine ybd ?_ | refine yba ?_ _)); exact BK357.out⟩, ⟨by repeat (first | (with_reducible first | exact HB.out | apply yea | apply yen | apply yed | refine below_set ?_ GE357.out) | exact HB.out)⟩⟩
      rw [if_neg c7] at H
      have c7b0 : decide (x14_1 < (l0_1.length : Int)) = false := decide_eq_false c7
      clear c7
      by_cases c20 : a0_0 = 1
      · rw [if_pos c20] at H
        have c20b0 : (a0_0 == 1) = true := beq_iff_eq.mpr c20
        have c20b1 : (a0_0 != 1) = false := bne_eq_false_iff_eq.mpr c20
        clear c20
        by_cases c21 : (l0_1.length : Int) ≥ 2
        rotate_left
        · rw [if_neg c21] at H
          have c21b0 : decide (2 ≤ (l0_1.length : Int)) = false := decide_eq_false c21
          have c21b1 : decide (2 ≤ l0_1.length) = false := decide_eq_false (by omega)
          clear c21
          obtain rfl := Option.some.inj H
          have hcz25_0 : wr.cell? ⟨gb357, 0, none⟩ = some (.int .i64 a0_0) := (blk_cell BK357.out 0).trans rfl
          have hcz25_1 : wr.cell? ⟨gb357, 1, none⟩ = some (.slice A0_1 l0_1.length c0_1) := (blk_cell BK357.out 1).trans rfl
          have hcz25_2 : wr.cell? ⟨gb357, 2, none⟩ = some (.int .i64 a0_2) := (blk_cell BK357.out 2).trans rfl
          have hfz25_0 := blk_frozen BK357.out 0
          have hfz25_1 := blk_frozen BK357.out 1
          have hfz25_2 := blk_frozen BK357.out 2
          go_wp2
          go_ret
          exact ⟨by first | rfl | (simp [errW_none, errW_some] <;> rfl) | (simp [*, errW_none, errW_some] <;> rfl), by repeat (first | (with_reducible first | exact HB.out | apply yea | apply yen | apply yed | refine below_set ?_ GE357.out) | exact HB.out)⟩
        rw [if_pos c21] at H
        have c21b0 : decide (2 ≤ (l0_1.length : Int)) = true := decide_eq_true c21
        have c21b1 : decide (2 ≤ l0_1.length) = true := decide_eq_true (by omega)
        clear c21
        by_cases c22 : (l0_1.length : Int) ≤ 4
        · rw [if_pos c22] at H
          have c22b0 : decide ((l0_1.length : Int) ≤ 4) = true := decide_eq_true c22
          have c22b1 : decide (l0_1.length ≤ 4) = true := decide_eq_true (by omega)
          clear c22
          obtain rfl := Option.some.inj H
          have hcz23_0 : wr.cell? ⟨gb357, 0, none⟩ = some (.int .i64 a0_0) := (blk_cell BK357.out 0).trans rfl
          have hcz23_1 : wr.cell? ⟨gb357, 1, none⟩ = some (.slice A0_1 l0_1.length c0_1) := (blk_cell BK357.out 1).trans rfl
          have hcz23_2 : wr.cell? ⟨gb357, 2, none⟩ = some (.int .i64 a0_2) := (blk_cell BK357.out 2).trans rfl
          have hfz23_0 := blk_frozen BK357.out 0
          have hfz23_1 := blk_frozen BK357.out 1
          have hfz23_2 := blk_frozen BK357.out 2
          go_wp2
          go_ret
          exact ⟨by first | rfl | (simp [errW_none, errW_some] <;> rfl) | (simp [*, errW_none, errW_some] <;> rfl), by repeat (first | (with_reducible first | exact HB.out | apply yea | apply yen | apply yed | refine below_set ?_ GE357.out) | exact HB.out)⟩
        rw [if_neg c22] at H
        have c22b0 : decide ((l0_1.length : Int) ≤ 4) = false := decide_eq_false c22
        have c22b1 : decide (l0_1.length ≤ 4) = false := decide_eq_false (by omega)
        clear c22
        obtain rfl := Option.some.inj H
        have hcz24_0 : wr.cell? ⟨gb357, 0, none⟩ = some (.int .i64 a0_0) := (blk_cell BK357.out 0).trans rfl
        have hcz24_1 : wr.cell? ⟨gb357, 1, none⟩ = some (.slice A0_1 l0_1.length c0_1) := (blk_cell BK357.out 1).trans rfl
        have hcz24_2 : wr.cell? ⟨gb357, 2, none⟩ = some (.int .i64 a0_2) := (blk_cell BK357.out 2).trans rfl
        have hfz24_0 := blk_frozen BK357.out 0
        have hfz24_1 := blk_frozen BK357.out 1
        have hfz24_2 := blk_frozen BK357.out 2
        go_wp2
        go_ret
        exact ⟨by first | rfl | (simp [errW_none, errW_some] <;> rfl) | (simp [*, errW_none, errW_some] <;> rfl), by repeat (first | (with_reducible first | exact HB.out | apply yea | apply yen | apply yed | refine below_set ?_ GE357.out) | exact HB.out)⟩
      rw [if_neg c20] at H
      have c20b0 : (a0_0 == 1) = false := beq_eq_false_iff_ne.mpr c20
      have c20b1 : (a0_0 != 1) = true := bne_iff_ne.mpr c20
      have HC26 := yam H
      clear H
      have hcz27_0 : wr.cell? ⟨gb357, 0, none⟩ = some (.int .i64 a0_0) := (blk_cell BK357.out 0).trans rfl
      have hcz27_1 : wr.cell? ⟨gb357, 1, none⟩ = some (.slice A0_1 l0_1.length c0_1) := (blk_cell BK357.out 1).trans rfl
      have hcz27_2 : wr.cell? ⟨gb357, 2, none⟩ = some (.int .i64 a0_2) := (blk_cell BK357.out 2).trans rfl
      have hfz27_0 := blk_frozen BK357.out 0
      have hfz27_1 := blk_frozen BK357.out 1
      have hfz27_2 := blk_frozen BK357.out 2
      go_upto_if 55 with (fail)
      go_cut [55] (fun v55 wc => ∃ (kq : Nat) (x55_25 : Bool), v55 = .bool x55_25 ∧ Aside0 (impl_RuleValid.j1 kq a1 (l0_1.length : Int) a0_0 x55_25 a0_0 l0_1 a0_2 = some r) ∧ Aside0 (kq ≤ k1) ∧ Aside0 (wc.heap[gb357]? = some (.cells #[.int .i64 a0_0, (.slice A0_1 l0_1.length c0_1), .int .i64 a0_2] 32 (0, 0))) ∧ Aside0 (Below w.heap.size w wc))
      case first =>
        have H := HC26.out
        clear HC26
        by_cases c28 : a0_0 = 2
        rotate_left
        · rw [if_neg c28] at H
          have c28b0 : (a0_0 == 2) = false := beq_eq_false_iff_ne.mpr c28
          have c28b1 : (a0_0 != 2) = true := bne_iff_ne.mpr c28
          (first | rw [c28b0] | (simp only [i64_w, i32_w]; rw [c28b0]) | skip)
          have H' := yam H
          clear H
          go_wp2
          go_meet
          case rel => exact ⟨_, ((a0_0 == 3)), (by first | rfl | (simp; done) | (simp [*]; done)), H', ⟨by have := HK1.out; first | omega | exact Nat.le_refl _⟩, ⟨by (with_reducible repeat (first | refine ybn ?_ _ | refine ybd ?_ | refine yba ?_ _)); exact BK357.out⟩, ⟨by repeat (first | (with_reducible first | exact HB.out | apply yea | apply yen | apply yed | refine below_set ?_ GE357.out) | exact HB.out)⟩⟩
        rw [if_pos c28] at H
        have c28b0 : (a0_0 == 2) = true := beq_iff_eq.mpr c28
        have c28b1 : (a0_0 != 2) = false := bne_eq_false_iff_eq.mpr c28
        clear c28
        (first | rw [c28b0] | (simp only [i64_w, i32_w]; rw [c28b0]) | skip)
        have H' := yam H
        clear H
        go_wp2
        go_meet
        case rel => exact ⟨_, ((a0_0 == 2)), (by first | rfl | (simp; done) | (simp [*]; done)), H', ⟨by have := HK1.out; first | omega | exact Nat.le_refl _⟩, ⟨by (with_reducible repeat (first | refine ybn ?_ _ | refine ybd ?_ | refine yba ?_ _)); exact BK357.out⟩, ⟨by repeat (first | (with_reducible first | exact HB.out | apply yea | apply yen | apply yed | refine below_set ?_ GE357.out) | exact HB.out)⟩⟩
      case rest =>
        clear HC26
        try clear c1
        try clear c2
        try clear p2
        try clear p3
        try clear q3
        try clear hx3
        try clear c4
        try clear c6
        try clear p6
        try clear c7
        try clear c7b0
        try clear c8
        try clear c8b0
        try clear c9
        try clear c9b0
        try clear c10
        try clear c10b0
        try clear c11
        try clear c11b0
        try clear c12
        try clear c12b0
        try clear c13
        try clear c13b0
        try clear c13b1
        try clear c15
        try clear c20
        try clear c20b0
        try clear c20b1
        try clear c21
        try clear c21b0
        try clear c21b1
        try clear c22
        try clear c22b0
        try clear c22b1
        try clear c23
        try clear c28
        try clear c28b0
        try clear c28b1
        try clear hcz16_0
        try clear hcz16_1
        try clear hcz16_2
        try clear hcz18_0
        try clear hcz18_1
        try clear hcz18_2
        try clear hcz23_0
        try clear hcz23_1
        try clear hcz23_2
        try clear hcz24_0
        try clear hcz24_1
        try clear hcz24_2
        try clear hcz25_0
        try clear hcz25_1
        try clear hcz25_2
        try clear hcz27_0
        try clear hcz27_1
        try clear hcz27_2
        try clear hcz6_0
        try clear hcz6_1
        try clear hcz6_2
        try clear hfz16_0
        try clear hfz16_1
        try clear hfz16_2
        try clear hfz18_0
        try clear hfz18_1
        try clear hfz18_2
        try clear hfz23_0
        try clear hfz23_1
        try clear hfz23_2
        try clear hfz24_0
        try clear hfz24_1
        try clear hfz24_2
        try clear hfz25_0
        try clear hfz25_1
        try clear hfz25_2
        try clear hfz27_0
        try clear hfz27_1
        try clear hfz27_2
        try clear hfz6_0
        try clear hfz6_1
        try clear hfz6_2
        try clear hx359_0
        try clear p2
        try clear p359
        try clear q359
        obtain ⟨kq, x55_25, rfl, HA, HJ25, BK357, HB⟩ := hcut
        cases kq with
        | zero => exact absurd HA.out (by simp [impl_RuleValid.j1])
        | succ kj25 =>
          have H := HA.out
          clear HA
          simp only [impl_RuleValid.j1] at H
          by_cases c29 : x55_25 = true
          · subst c29
            have H1 : (if (l0_1.length : Int) ≥ 1 then (if (l0_1.length : Int) ≤ 4 then (if a0_2 ≥ 1 then (some (decide (a0_2 ≤ (wrap64 ((wrap64 ((wrap64 (a1 * a1)) * a1)) * a1))))) else (some false)) else (some false)) else (some false)) = some r := by rw [if_pos rfl] at H; exact H
            clear H
            have H := H1
            clear H1
            by_cases c30 : (l0_1.length : Int) ≥ 1
            rotate_left
            · rw [if_neg c30] at H
              have c30b0 : decide (1 ≤ (l0_1.length : Int)) = false := decide_eq_false c30
              have c30b1 : decide (1 ≤ l0_1.length) = false := decide_eq_false (by omega)
              clear c30
              obtain rfl := Option.some.inj H
              go_wp2
              go_ret
              exact ⟨by first | rfl | (simp [errW_none, errW_some] <;> rfl) | (simp [*, errW_none, errW_some] <;> rfl), by repeat (first | (with_reducible first | exact HB.out | apply yea | apply yen | apply yed | refine below_set ?_ GE357.out) | exact HB.out)⟩
            rw [if_pos c30] at H
            have c30b0 : decide (1 ≤ (l0_1.length : Int)) = true := decide_eq_true c30
            have c30b1 : decide (1 ≤ l0_1.length) = true := decide_eq_true (by omega)
            clear c30
            by_cases c31 : (l0_1.length : Int) ≤ 4
            rotate_left
            · rw [if_neg c31] at H
              have c31b0 : decide ((l0_1.length : Int) ≤ 4) = false := decide_eq_false c31
              have c31b1 : decide (l0_1.length ≤ 4) = false := decide_eq_false (by omega)
              clear c31
              obtain rfl := Option.some.inj H
              go_wp2
              go_ret
              exact ⟨by first | rfl | (simp [errW_none, errW_some] <;> rfl) | (simp [*, errW_none, errW_some] <;> rfl), by repeat (first | (with_reducible first | exact HB.out | apply yea | apply yen | apply yed | refine below_set ?_ GE357.out) | exact HB.out)⟩
            rw [if_pos c31] at H
            have c31b0 : decide ((l0_1.length : Int) ≤ 4) = true := decide_eq_true c31
            have c31b1 : decide (l0_1.length ≤ 4) = true := decide_eq_true (by omega)
            clear c31
            by_cases c32 : a0_2 ≥ 1
            · rw [if_pos c32] at H
              have c32b0 : decide (1 ≤ a0_2) = true := decide_eq_true c32
              clear c32
              obtain rfl := Option.some.inj H
              have hcz33_0 : wc.cell? ⟨gb357, 0, none⟩ = some (.int .i64 a0_0) := (blk_cell BK357.out 0).trans rfl
              have hcz33_1 : wc.cell? ⟨gb357, 1, none⟩ = some (.slice A0_1 l0_1.length c0_1) := (blk_cell BK357.out 1).trans rfl
              have hcz33_2 : wc.cell? ⟨gb357, 2, none⟩ = some (.int .i64 a0_2) := (blk_cell BK357.out 2).trans rfl
              have hfz33_0 := blk_frozen BK357.out 0
              have hfz33_1 := blk_frozen BK357.out 1
              have hfz33_2 := blk_frozen BK357.out 2
              go_wp2
              go_ret
              exact ⟨by first | rfl | (simp [errW_none, errW_some] <;> rfl) | (simp [*, errW_none, errW_some] <;> rfl), by repeat (first | (with_reducible first | exact HB.out | apply yea | apply yen | apply yed | refine below_set ?_ GE357.out) | exact HB.out)⟩
            rw [if_neg c32] at H
            have c32b0 : decide (1 ≤ a0_2) = false := decide_eq_false c32
            clear c32
            obtain rfl := Option.some.inj H
            have hcz34_0 : wc.cell? ⟨gb357, 0, none⟩ = some (.int .i64 a0_0) := (blk_cell BK357.out 0).trans rfl
            have hcz34_1 : wc.cell? ⟨gb357, 1, none⟩ = some (.slice A0_1 l0_1.length c0_1) := (blk_cell BK357.out 1).trans rfl
            have hcz34_2 : wc.cell? ⟨gb357, 2, none⟩ = some (.int .i64 a0_2) := (blk_cell BK357.out 2).trans rfl
            have hfz34_0 := blk_frozen BK357.out 0
            have hfz34_1 := blk_frozen BK357.out 1
            have hfz34_2 := blk_frozen BK357.out 2
            go_wp2
            go_ret
            exact ⟨by first | rfl | (simp [errW_none, errW_some] <;> rfl) | (simp [*, errW_none, errW_some] <;> rfl), by repeat (first | (with_reducible first | exact HB.out | apply yea | apply yen | apply yed | refine below_set ?_ GE357.out) | exact HB.out)⟩
          replace c29 := Bool.eq_false_iff.mpr c29
          subst c29
          have H1 : (if a0_0 = 4 then (if (l0_1.length : Int) = 2 then (some (a0_2 == 0)) else (some false)) else (if a0_0 = 5 then (if (l0_1.length : Int) = 2 then (if a0_2 ≥ 0 then (some (decide (a0_2 < a1))) else (some false)) else (some false)) else (some false))) = some r := by rw [if_neg (show ¬ (false = true) by decide)] at H; exact H
          clear H
          have H := H1
          clear H1
          by_cases c35 : a0_0 = 4
          · rw [if_pos c35] at H
            have c35b0 : (a0_0 == 4) = true := beq_iff_eq.mpr c35
            have c35b1 : (a0_0 != 4) = false := bne_eq_false_iff_eq.mpr c35
            clear c35
            by_cases c36 : (l0_1.length : Int) = 2
            rotate_left
            · rw [if_neg c36] at H
              have c36b0 : ((l0_1.length : Int) == 2) = false := beq_eq_false_iff_ne.mpr c36
              have c36b1 : ((l0_1.length : Int) != 2) = true := bne_iff_ne.mpr c36
              obtain rfl := Option.some.inj H
              go_wp2
              go_ret
              exact ⟨by first | rfl | (simp [errW_none, errW_some] <;> rfl) | (simp [*, errW_none, errW_some] <;> rfl), by repeat (first | (with_reducible first | exact HB.out | apply yea | apply yen | apply yed | refine below_set ?_ GE357.out) | exact HB.out)⟩
            rw [if_pos c36] at H
            have c36b0 : ((l0_1.length : Int) == 2) = true := beq_iff_eq.mpr c36
            have c36b1 : ((l0_1.length : Int) != 2) = false := bne_eq_false_iff_eq.mpr c36
            clear c36
            obtain rfl := Option.some.inj H
            have hcz37_0 : wc.cell? ⟨gb357, 0, none⟩ = some (.int .i64 a0_0) := (blk_cell BK357.out 0).trans rfl
            have hcz37_1 : wc.cell? ⟨gb357, 1, none⟩ = some (.slice A0_1 l0_1.length c0_1) := (blk_cell BK357.out 1).trans rfl
            have hcz37_2 : wc.cell? ⟨gb357, 2, none⟩ = some (.int .i64 a0_2) := (blk_cell BK357.out 2).trans rfl
            have hfz37_0 := blk_frozen BK357.out 0
            have hfz37_1 := blk_frozen BK357.out 1
            have hfz37_2 := blk_frozen BK357.out 2
            go_wp2
            go_ret
            exact ⟨by first | rfl | (simp [errW_none, errW_some] <;> rfl) | (simp [*, errW_none, errW_some] <;> rfl), by repeat (first | (with_reducible first | exact HB.out | apply yea | apply yen | apply yed | refine below_set ?_ GE357.out) | exact HB.out)⟩
          rw [if_neg c35] at H
          have c35b0 : (a0_0 == 4) = false := beq_eq_false_iff_ne.mpr c35
          have c35b1 : (a0_0 != 4) = true := bne_iff_ne.mpr c35
          by_cases c38 : a0_0 = 5
          rotate_left
          · rw [if_neg c38] at H
            have c38b0 : (a0_0 == 5) = false := beq_eq_false_iff_ne.mpr c38
            have c38b1 : (a0_0 != 5) = true := bne_iff_ne.mpr c38
            obtain rfl := Option.some.inj H
            go_wp2
            go_ret
            exact ⟨by first | rfl | (simp [errW_none, errW_some] <;> rfl) | (simp [*, errW_none, errW_some] <;> rfl), by repeat (first | (with_reducible first | exact HB.out | apply yea | apply yen | apply yed | refine below_set ?_ GE357.out) | exact HB.out)⟩
          rw [if_pos c38] at H
          have c38b0 : (a0_0 == 5) = true := beq_iff_eq.mpr c38
          have c38b1 : (a0_0 != 5) = false := bne_eq_false_iff_eq.mpr c38
          clear c38
          by_cases c39 : (l0_1.length : Int) = 2
          rotate_left
          · rw [if_neg c39] at H
            have c39b0 : ((l0_1.length : Int) == 2) = false := beq_eq_false_iff_ne.mpr c39
            have c39b1 : ((l0_1.length : Int) != 2) = true := bne_iff_ne.mpr c39
            obtain rfl := Option.some.inj H
            go_wp2
            go_ret
            exact ⟨by first | rfl | (simp [errW_none, errW_some] <;> rfl) | (simp [*, errW_none, errW_some] <;> rfl), by repeat (first | (with_reducible first | exact HB.out | apply yea | apply yen | apply yed | refine below_set ?_ GE357.out) | exact HB.out)⟩
          rw [if_pos c39] at H
          have c39b0 : ((l0_1.length : Int) == 2) = true := beq_iff_eq.mpr c39
          have c39b1 : ((l0_1.length : Int) != 2) = false := bne_eq_false_iff_eq.mpr c39
          clear c39
          by_cases c40 : a0_2 ≥ 0
          · rw [if_pos c40] at H
            have c40b0 : decide (0 ≤ a0_2) = true := decide_eq_true c40
            clear c40
            obtain rfl := Option.some.inj H
            have hcz41_0 : wc.cell? ⟨gb357, 0, none⟩ = some (.int .i64 a0_0) := (blk_cell BK357.out 0).trans rfl
            have hcz41_1 : wc.cell? ⟨gb357, 1, none⟩ = some (.slice A0_1 l0_1.length c0_1) := (blk_cell BK357.out 1).trans rfl
            have hcz41_2 : wc.cell? ⟨gb357, 2, none⟩ = some (.int .i64 a0_2) := (blk_cell BK357.out 2).trans rfl
            have hfz41_0 := blk_frozen BK357.out 0
            have hfz41_1 := blk_frozen BK357.out 1
            have hfz41_2 := blk_frozen BK357.out 2
            go_wp2
            go_ret
            exact ⟨by first | rfl | (simp [errW_none, errW_some] <;> rfl) | (simp [*, errW_none, errW_some] <;> rfl), by repeat (first | (with_reducible first | exact HB.out | apply yea | apply yen | apply yed | refine below_set ?_ GE357.out) | exact HB.out)⟩
          rw [if_neg c40] at H
          have c40b0 : decide (0 ≤ a0_2) = false := decide_eq_false c40
          clear c40
          obtain rfl := Option.some.inj H
          have hcz42_0 : wc.cell? ⟨gb357, 0, none⟩ = some (.int .i64 a0_0) := (blk_cell BK357.out 0).trans rfl
          have hcz42_1 : wc.cell? ⟨gb357, 1, none⟩ = some (.slice A0_1 l0_1.length c0_1) := (blk_cell BK357.out 1).trans rfl
          have hcz42_2 : wc.cell? ⟨gb357, 2, none⟩ = some (.int .i64 a0_2) := (blk_cell BK357.out 2).trans rfl
          have hfz42_0 := blk_frozen BK357.out 0
          have hfz42_1 := blk_frozen BK357.out 1
          have hfz42_2 := blk_frozen BK357.out 2
          go_wp2
          go_ret
          exact ⟨by first | rfl | (simp [errW_none, errW_some] <;> rfl) | (simp [*, errW_none, errW_some] <;> rfl), by repeat (first | (with_reducible first | exact HB.out | apply yea | apply yen | apply yed | refine below_set ?_ GE357.out) | exact HB.out)⟩
end Go.Proofs.Ythfbjkniinfgcaa.P
