/- The machine's side: each Go function as a plain Lean function and the proof that the machine's call does what that function says; written by this session's own program over the kit's print. -/
import Derived.Test.YthfbjkniinfgcaaZP1
import Derived.Test.YthfbjkniinfgcaaZP6
import Derived.Test.YthfbjkniinfgcaaZP7
namespace Go.Proofs.Ythfbjkniinfgcaa.P
open Go.RowKit Go.Proofs.YthfbjkniinfgcaaW.PrintWords Go.Proofs.YthfbjkniinfgcaaW.PrintLast Go.Proofs.YthfbjkniinfgcaaW.PrintMore
attribute [local go_sem] max2_int min2_int max_two min_two max_three min_three max_four min_four   -- for this text's walks alone
set_option linter.unusedVariables false
set_option linter.unusedSimpArgs false

/-! ### impl_PuzzleFits: function 55 -/
mutual
def impl_PuzzleFits.j0 : Nat → List Int → Bool → Int → List Int → List (S32) → Option (Bool)
  | 0, _, _, _, _, _ => none
  | k + 1, x1, x18, x872000, x872001, x872002 => if x18 = true then (some false) else (impl_PuzzleFits.l0 k x1 x1 (x1.length : Int) 0 x872000 x872001 x872002)
def impl_PuzzleFits.l0 : Nat → List Int → List Int → Int → Int → Int → List Int → List (S32) → Option (Bool)
  | 0, _, _, _, _, _, _, _ => none
  | k + 1, x1, x19, x20, x21, x872000, x872001, x872002 => if x21 < x20 then (if 0 ≤ x21 then (if x21 < (x19.length : Int) then (if (rd x19 x21) > 0 then (if x21 < (x872001.length : Int) then (if (rd x872001 x21) > 0 then (if (rd x19 x21) = (rd x872001 x21) then (impl_PuzzleFits.l0 k x1 x19 x20 (wrap64 (x21 + 1)) x872000 x872001 x872002) else (some false)) else (impl_PuzzleFits.l0 k x1 x19 x20 (wrap64 (x21 + 1)) x872000 x872001 x872002)) else (none)) else (impl_PuzzleFits.l0 k x1 x19 x20 (wrap64 (x21 + 1)) x872000 x872001 x872002)) else (none)) else (none)) else (impl_PuzzleFits.l1 k x1 x872002 (x872002.length : Int) 0 x872000 x872001 x872002)
def impl_PuzzleFits.l1 : Nat → List Int → List (S32) → Int → Int → Int → List Int → List (S32) → Option (Bool)
  | 0, _, _, _, _, _, _, _ => none
  | k + 1, x1, x47, x48, x49, x872000, x872001, x872002 => if x49 < x48 then (if 0 ≤ x49 then (if x49 < (x47.length : Int) then ((impl_canHold.f k ((rd_T32 x47 x49).f0) ((rd_T32 x47 x49).f1) ((rd_T32 x47 x49).f2) x1 x872000).bind fun t879 => (if t879 = true then (impl_PuzzleFits.l1 k x1 x47 x48 (wrap64 (x49 + 1)) x872000 x872001 x872002) else (some false))) else (none)) else (none)) else (some true)
end
def impl_PuzzleFits.f (k : Nat) (a0_0 : Int) (l0_1 : List Int) (l0_2 : List (S32)) (l1 : List Int) : Option (Bool) := (impl_PuzzleValid.f k a0_0 l0_1 l0_2).bind fun t872 => (if t872 = true then ((impl_SquareFits.f k l1 a0_0).bind fun t873 => (impl_PuzzleFits.j0 k l1 (!t873) a0_0 l0_1 l0_2)) else (impl_PuzzleFits.j0 k l1 true a0_0 l0_1 l0_2))
theorem impl_PuzzleFits.mono_l : ∀ k, (∀ y0 y1 y2 y3 y4, LeO (impl_PuzzleFits.j0 k y0 y1 y2 y3 y4) (impl_PuzzleFits.j0 (k + 1) y0 y1 y2 y3 y4)) ∧ (∀ y0 y1 y2 y3 y4 y5 y6, LeO (impl_PuzzleFits.l0 k y0 y1 y2 y3 y4 y5 y6) (impl_PuzzleFits.l0 (k + 1) y0 y1 y2 y3 y4 y5 y6)) ∧ (∀ y0 y1 y2 y3 y4 y5 y6, LeO (impl_PuzzleFits.l1 k y0 y1 y2 y3 y4 y5 y6) (impl_PuzzleFits.l1 (k + 1) y0 y1 y2 y3 y4 y5 y6))
  | 0 => ⟨fun _ _ _ _ _ r h => by simp [impl_PuzzleFits.j0] at h, fun _ _ _ _ _ _ _ r h => by simp [impl_PuzzleFits.l0] at h, fun _ _ _ _ _ _ _ r h => by simp [impl_PuzzleFits.l1] at h⟩
  | k + 1 => by
    obtain ⟨ih0, ih1, ih2⟩ := impl_PuzzleFits.mono_l k
    refine ⟨?_, ?_, ?_⟩
    · intro y0 y1 y2 y3 y4
      unfold impl_PuzzleFits.j0
      repeat' first
      | (with_reducible exact ih0 _ _ _ _ _)
      | (with_reducible exact ih1 _ _ _ _ _ _ _)
      | (with_reducible exact ih2 _ _ _ _ _ _ _)
      | (with_reducible exact impl_PuzzleValid.mono _ _ _ _)
      | (with_reducible exact impl_SquareFits.mono _ _ _)
      | (with_reducible exact impl_canHold.mono _ _ _ _ _ _)
      | (with_reducible exact LeO.refl _)
      | (with_reducible exact LeO.none _)
      | (with_reducible refine LeO.ite ?_ ?_)
      | (with_reducible refine LeO.bind ?_ (fun _ => ?_))
      | exact ih0 _ _ _ _ _
      | exact ih1 _ _ _ _ _ _ _
      | exact ih2 _ _ _ _ _ _ _
      | exact impl_PuzzleValid.mono _ _ _ _
      | exact impl_SquareFits.mono _ _ _
      | exact impl_canHold.mono _ _ _ _ _ _
      | exact LeO.none _
      | refine LeO.ite ?_ ?_
      | refine LeO.bind ?_ (fun _ => ?_)
    · intro y0 y1 y2 y3 y4 y5 y6
      unfold impl_PuzzleFits.l0
      repeat' first
      | (with_reducible exact ih0 _ _ _ _ _)
      | (with_reducible exact ih1 _ _ _ _ _ _ _)
      | (with_reducible exact ih2 _ _ _ _ _ _ _)
      | (with_reducible exact impl_PuzzleValid.mono _ _ _ _)
      | (with_reducible exact impl_SquareFits.mono _ _ _)
      | (with_reducible exact impl_canHold.mono _ _ _ _ _ _)
      | (with_reducible exact LeO.refl _)
      | (with_reducible exact LeO.none _)
      | (with_reducible refine LeO.ite ?_ ?_)
      | (with_reducible refine LeO.bind ?_ (fun _ => ?_))
      | exact ih0 _ _ _ _ _
      | exact ih1 _ _ _ _ _ _ _
      | exact ih2 _ _ _ _ _ _ _
      | exact impl_PuzzleValid.mono _ _ _ _
      | exact impl_SquareFits.mono _ _ _
      | exact impl_canHold.mono _ _ _ _ _ _
      | exact LeO.none _
      | refine LeO.ite ?_ ?_
      | refine LeO.bind ?_ (fun _ => ?_)
    · intro y0 y1 y2 y3 y4 y5 y6
      unfold impl_PuzzleFits.l1
      repeat' first
      | (with_reducible exact ih0 _ _ _ _ _)
      | (with_reducible exact ih1 _ _ _ _ _ _ _)
      | (with_reducible exact ih2 _ _ _ _ _ _ _)
      | (with_reducible exact impl_PuzzleValid.mono _ _ _ _)
      | (with_reducible exact impl_SquareFits.mono _ _ _)
      | (with_reducible exact impl_canHold.mono _ _ _ _ _ _)
      | (with_reducible exact LeO.refl _)
      | (with_reducible exact LeO.none _)
      | (with_reducible refine LeO.ite ?_ ?_)
      | (with_reducible refine LeO.bind ?_ (fun _ => ?_))
      | exact ih0 _ _ _ _ _
      | exact ih1 _ _ _ _ _ _ _
      | exact ih2 _ _ _ _ _ _ _
      | exact impl_PuzzleValid.mono _ _ _ _
      | exact impl_SquareFits.mono _ _ _
      | exact impl_canHold.mono _ _ _ _ _ _
      | exact LeO.none _
      | refine LeO.ite ?_ ?_
      | refine LeO.bind ?_ (fun _ => ?_)
theorem impl_PuzzleFits.mono : ∀ a0 a1 a2 a3 k, LeO (impl_PuzzleFits.f k a0 a1 a2 a3) (impl_PuzzleFits.f (k + 1) a0 a1 a2 a3) := by
  intro a0 a1 a2 a3 k
  obtain ⟨ih0, ih1, ih2⟩ := impl_PuzzleFits.mono_l k
  unfold impl_PuzzleFits.f
  repeat' first
      | (with_reducible exact ih0 _ _ _ _ _)
      | (with_reducible exact ih1 _ _ _ _ _ _ _)
      | (with_reducible exact ih2 _ _ _ _ _ _ _)
      | (with_reducible exact impl_PuzzleValid.mono _ _ _ _)
      | (with_reducible exact impl_SquareFits.mono _ _ _)
      | (with_reducible exact impl_canHold.mono _ _ _ _ _ _)
      | (with_reducible exact LeO.refl _)
      | (with_reducible exact LeO.none _)
      | (with_reducible refine LeO.ite ?_ ?_)
      | (with_reducible refine LeO.bind ?_ (fun _ => ?_))
      | exact ih0 _ _ _ _ _
      | exact ih1 _ _ _ _ _ _ _
      | exact ih2 _ _ _ _ _ _ _
      | exact impl_PuzzleValid.mono _ _ _ _
      | exact impl_SquareFits.mono _ _ _
      | exact impl_canHold.mono _ _ _ _ _ _
      | exact LeO.none _
      | refine LeO.ite ?_ ?_
      | refine LeO.bind ?_ (fun _ => ?_)
set_option maxHeartbeats 8000000 in
set_option maxRecDepth 100000 in
theorem impl_PuzzleFits.calls (k : Nat) (a0_0 : Int) (A0_1 : Option Addr) (c0_1 : Nat) (l0_1 : List Int) (A0_2 : Option Addr) (c0_2 : Nat) (l0_2 : List (S32)) (A1 : Option Addr) (c1 : Nat) (l1 : List Int) (r : Bool) (w : World) (hr0_1 : Kd.C (Kd.int .i64) w A0_1 l0_1.length l0_1) (hc0_1 : l0_1.length ≤ c0_1) (hr0_2 : Kd.C k32 w A0_2 l0_2.length l0_2) (hc0_2 : l0_2.length ≤ c0_2) (hr1 : Kd.C (Kd.int .i64) w A1 l1.length l1) (hc1 : l1.length ≤ c1) (h : impl_PuzzleFits.f k a0_0 l0_1 l0_2 l1 = some r) :
    Calls Try.prog 55 #[.agg #[.int .i64 a0_0, .slice A0_1 l0_1.length c0_1, .slice A0_2 l0_2.length c0_2], .slice A1 l1.length c1] w fun e w' => e = .returned (.bool r) ∧ Below w.heap.size w w' := by
  have hu43 := Try.underlying43
  have hu32 := Try.underlying32
  have HR0_1 := yam hr0_1
  have HC0_1 := yam hc0_1
  clear hr0_1 hc0_1
  have HR0_2 := yam hr0_2
  have HC0_2 := yam hc0_2
  clear hr0_2 hc0_2
  have HR1 := yam hr1
  have HC1 := yam hc1
  clear hr1 hc1
  have HB := yam (Below.refl w.heap.size w)
  have H : ((impl_PuzzleValid.f k a0_0 l0_1 l0_2).bind fun t872 => (if t872 = true then ((impl_SquareFits.f k l1 a0_0).bind fun t873 => (impl_PuzzleFits.j0 k l1 (!t873) a0_0 l0_1 l0_2)) else (impl_PuzzleFits.j0 k l1 true a0_0 l0_1 l0_2))) = some r := h
  clear h
  have HC3 := yam H
  clear H
  go_enter Try.func55, Try.ntmps55
  go_upto_region 1 with (first | ((with_reducible refine gate_dst (N := 2) rfl ?_); refine box_event ?hg (N := 2) ?hd (cs := #[.int .i64 a0_0, .slice A0_1 l0_1.length c0_1, .slice A0_2 l0_2.length c0_2]) (t := 43) ?hr ?_; (case hd => rfl); (case hg => rfl); (case hr => first | (go_simp; done) | (go_simp; rfl)); intro gb871 hg w4 hbox hb; have n0_ := yam (below_step (yez HB.out) hb); have n1_ := yam (hbox); have n2_ := yam ((by rw [hg]; exact (below_size (yez HB.out)) : w.heap.size ≤ gb871)); have n3_ := yam ((by rw [hg]; exact (below_size (yez HB.out)) : w.heap.size ≤ gb871)); clear HB; have HB := n0_; have BK871 := n1_; have GW871 := n2_; have GE871 := n3_; clear n0_ n1_ n2_ n3_; clear hb hbox hg))
  (try simp only [Act.put, yps])
  go_cut [18] (fun v18 wc => ∃ (kq : Nat) (x18_2 : Bool), v18 = .bool x18_2 ∧ Aside0 (impl_PuzzleFits.j0 kq l1 x18_2 a0_0 l0_1 l0_2 = some r) ∧ Aside0 (kq ≤ k) ∧ Aside0 (wc.heap[gb871]? = some (.cells #[.int .i64 a0_0, (.slice A0_1 l0_1.length c0_1), (.slice A0_2 l0_2.length c0_2)] 43 (0, 0))) ∧ Aside0 (Below w.heap.size w wc))
  case first =>
    have H := HC3.out
    clear HC3
    replace H := Option.bind_eq_some_iff.mp H
    obtain ⟨t872, A50, H⟩ := H
    try dsimp only at H
    have A5 := yam A50
    clear A50
    by_cases c6 : t872 = true
    rotate_left
    · replace c6 := Bool.eq_false_iff.mpr c6
      subst c6
      have H1 : (impl_PuzzleFits.j0 k l1 true a0_0 l0_1 l0_2) = some r := by rw [if_neg (show ¬ (false = true) by decide)] at H; exact H
      clear H
      have H := H1
      clear H1
      have H' := yam H
      clear H
      have hcz12_0 : w4.cell? ⟨gb871, 0, none⟩ = some (.int .i64 a0_0) := (blk_cell BK871.out 0).trans rfl
      have hcz12_1 : w4.cell? ⟨gb871, 1, none⟩ = some (.slice A0_1 l0_1.length c0_1) := (blk_cell BK871.out 1).trans rfl
      have hcz12_2 : w4.cell? ⟨gb871, 2, none⟩ = some (.slice A0_2 l0_2.length c0_2) := (blk_cell BK871.out 2).trans rfl
      have hfz12_0 := blk_frozen BK871.out 0
      have hfz12_1 := blk_frozen BK871.out 1
      have hfz12_2 := blk_frozen BK871.out 2
      go_wp2_with (first | ((with_reducible refine gate_callee (f := 28) rfl ?_); refine goesL_ (some 10) rfl rfl Try.func28 (by kernel_rfl) rfl #[.agg #[.int .i64 a0_0, .slice A0_1 l0_1.length c0_1, .slice A0_2 l0_2.length c0_2]] rfl (by (try simp only [List.map_toArray, List.map_cons, List.map_nil]); first | done | rfl | (simp only [List.length_drop, List.length_take]; rfl)) ?_; (with_reducible refine (impl_PuzzleValid.calls k a0_0 _ _ l0_1 _ _ l0_2 false _ ?side1 ?side2 ?side3 ?side4 A5.out).mono ?_); (case side1 => exact Kd.Cz ((Kd.C_below HR0_1.out HB.out))); (case side2 => exact HC0_1.out); (case side3 => exact Kd.Cz ((Kd.C_below HR0_2.out HB.out))); (case side4 => exact HC0_2.out); rintro e w13 ⟨rfl, hb⟩; refine ⟨_, rfl, ?_⟩; have n0_ := yam (blk_below (g := gb871) (o := .cells #[.int .i64 a0_0, .slice A0_1 l0_1.length c0_1, .slice A0_2 l0_2.length c0_2] 43 (0, 0)) (ybz BK871.out) hb); have n1_ := yam (below_step (by repeat (first | (with_reducible first | exact HB.out | apply yea | apply yen | apply yed | refine below_set ?_ GE871.out) | exact HB.out)) hb); clear BK871; clear HB; have BK871 := n0_; have HB := n1_; clear n0_ n1_; (try clear hb); (try clear hb2); (try clear hk); (try clear hi)))
      go_meet
      case rel => exact ⟨_, (true), (by first | rfl | (simp; done) | (simp [*]; done)), H', ⟨by first | omega | exact Nat.le_refl _⟩, ⟨by (with_reducible repeat (first | refine ybn ?_ _ | refine ybd ?_ | refine yba ?_ _)); exact BK871.out⟩, ⟨by repeat (first | (with_reducible first | exact HB.out | apply yea | apply yen | apply yed | refine below_set ?_ GE871.out) | exact HB.out)⟩⟩
    subst c6
    have H1 : ((impl_SquareFits.f k l1 a0_0).bind fun t873 => (impl_PuzzleFits.j0 k l1 (!t873) a0_0 l0_1 l0_2)) = some r := by rw [if_pos rfl] at H; exact H
    clear H
    have H := H1
    clear H1
    replace H := Option.bind_eq_some_iff.mp H
    obtain ⟨t873, A70, H⟩ := H
    try dsimp only at H
    have A7 := yam A70
    clear A70
    have H' := yam H
    clear H
    have hcz8_0 : w4.cell? ⟨gb871, 0, none⟩ = some (.int .i64 a0_0) := (blk_cell BK871.out 0).trans rfl
    have hcz8_1 : w4.cell? ⟨gb871, 1, none⟩ = some (.slice A0_1 l0_1.length c0_1) := (blk_cell BK871.out 1).trans rfl
    have hcz8_2 : w4.cell? ⟨gb871, 2, none⟩ = some (.slice A0_2 l0_2.length c0_2) := (blk_cell BK871.out 2).trans rfl
    have hfz8_0 := blk_frozen BK871.out 0
    have hfz8_1 := blk_frozen BK871.out 1
    have hfz8_2 := blk_frozen BK871.out 2
    go_wp2_with (first | ((with_reducible refine gate_callee (f := 28) rfl ?_); refine goesL_ (some 10) rfl rfl Try.func28 (by kernel_rfl) rfl #[.agg #[.int .i64 a0_0, .slice A0_1 l0_1.length c0_1, .slice A0_2 l0_2.length c0_2]] rfl (by (try simp only [List.map_toArray, List.map_cons, List.map_nil]); first | done | rfl | (simp only [List.length_drop, List.length_take]; rfl)) ?_; (with_reducible refine (impl_PuzzleValid.calls k a0_0 _ _ l0_1 _ _ l0_2 true _ ?side1 ?side2 ?side3 ?side4 A5.out).mono ?_); (case side1 => exact Kd.Cz ((Kd.C_below HR0_1.out HB.out))); (case side2 => exact HC0_1.out); (case side3 => exact Kd.Cz ((Kd.C_below HR0_2.out HB.out))); (case side4 => exact HC0_2.out); rintro e w9 ⟨rfl, hb⟩; refine ⟨_, rfl, ?_⟩; have n0_ := yam (blk_below (g := gb871) (o := .cells #[.int .i64 a0_0, .slice A0_1 l0_1.length c0_1, .slice A0_2 l0_2.length c0_2] 43 (0, 0)) (ybz BK871.out) hb); have n1_ := yam (below_step (by repeat (first | (with_reducible first | exact HB.out | apply yea | apply yen | apply yed | refine below_set ?_ GE871.out) | exact HB.out)) hb); clear BK871; clear HB; have BK871 := n0_; have HB := n1_; clear n0_ n1_; (try clear hb); (try clear hb2); (try clear hk); (try clear hi); have hcz10_0 : w9.cell? ⟨gb871, 0, none⟩ = some (.int .i64 a0_0) := (blk_cell BK871.out 0).trans rfl; have hcz10_1 : w9.cell? ⟨gb871, 1, none⟩ = some (.slice A0_1 l0_1.length c0_1) := (blk_cell BK871.out 1).trans rfl; have hcz10_2 : w9.cell? ⟨gb871, 2, none⟩ = some (.slice A0_2 l0_2.length c0_2) := (blk_cell BK871.out 2).trans rfl; have hfz10_0 := blk_frozen BK871.out 0; have hfz10_1 := blk_frozen BK871.out 1; have hfz10_2 := blk_frozen BK871.out 2) | (go_at_call 20; (with_reducible refine (impl_SquareFits.calls k _ _ l1 a0_0 t873 _ ?side1 ?side2 A7.out).mono ?_); (case side1 => exact Kd.Cz ((Kd.C_below HR1.out HB.out))); (case side2 => exact HC1.out); rintro e w11 ⟨rfl, hb⟩; have n0_ := yam (blk_below (g := gb871) (o := .cells #[.int .i64 a0_0, .slice A0_1 l0_1.length c0_1, .slice A0_2 l0_2.length c0_2] 43 (0, 0)) (ybz BK871.out) hb); have n1_ := yam (below_step (by repeat (first | (with_reducible first | exact HB.out | apply yea | apply yen | apply yed | refine below_set ?_ GE871.out) | exact HB.out)) hb); clear BK871; clear HB; have BK871 := n0_; have HB := n1_; clear n0_ n1_; (try clear hb); (try clear hb2); (try clear hk); (try clear hi)))
    go_meet
    case rel => exact ⟨_, (!t873), (by first | rfl | (simp; done) | (simp [*]; done)), H', ⟨by first | omega | exact Nat.le_refl _⟩, ⟨by (with_reducible repeat (first | refine ybn ?_ _ | refine ybd ?_ | refine yba ?_ _)); exact BK871.out⟩, ⟨by repeat (first | (with_reducible first | exact HB.out | apply yea | apply yen | apply yed | refine below_set ?_ GE871.out) | exact HB.out)⟩⟩
  case rest =>
    clear HC3
    try clear c1
    try clear c2
    try clear p2
    try clear c5
    try clear c6
    try clear hcz10_0
    try clear hcz10_1
    try clear hcz10_2
    try clear hcz12_0
    try clear hcz12_1
    try clear hcz12_2
    try clear hcz8_0
    try clear hcz8_1
    try clear hcz8_2
    try clear hfz10_0
    try clear hfz10_1
    try clear hfz10_2
    try clear hfz12_0
    try clear hfz12_1
    try clear hfz12_2
    try clear hfz8_0
    try clear hfz8_1
    try clear hfz8_2
    obtain ⟨kq, x18_2, rfl, HA, HJ2, BK871, HB⟩ := hcut
    cases kq with
    | zero => exact absurd HA.out (by simp [impl_PuzzleFits.j0])
    | succ kj2 =>
      have H := HA.out
      clear HA
      simp only [impl_PuzzleFits.j0] at H
      by_cases c14 : x18_2 = true
      · subst c14
        have H1 : (some false) = some r := by rw [if_pos rfl] at H; exact H
        clear H
        have H := H1
        clear H1
        obtain rfl := Option.some.inj H
        go_wp2
        go_ret
        exact ⟨by first | rfl | (simp [errW_none, errW_some] <;> rfl) | (simp [*, errW_none, errW_some] <;> rfl), by repeat (first | (with_reducible first | exact HB.out | apply yea | apply yen | apply yed | refine below_set ?_ GE871.out) | exact HB.out)⟩
      replace c14 := Bool.eq_false_iff.mpr c14
      subst c14
      have H1 : (impl_PuzzleFits.l0 kj2 l1 l1 (l1.length : Int) 0 a0_0 l0_1 l0_2) = some r := by rw [if_neg (show ¬ (false = true) by decide)] at H; exact H
      clear H
      have H := H1
      clear H1
      have H' := yam H
      clear H
      go_wp2
      go_loopg [21] kj2 (fun kq v21 w' => ∃ (x21_2 : Int), v21 = .int .i64 x21_2 ∧ Aside0 (impl_PuzzleFits.l0 kq l1 l1 (l1.length : Int) x21_2 a0_0 l0_1 l0_2 = some r) ∧ Aside0 (kq ≤ kj2) ∧ Aside0 (w'.heap[gb871]? = some (.cells #[.int .i64 a0_0, (.slice A0_1 l0_1.length c0_1), (.slice A0_2 l0_2.length c0_2)] 43 (0, 0))) ∧ Aside0 (Below w.heap.size w w'))
      case atStart => exact ⟨(0), (by first | rfl | (simp; done) | (simp [*]; done)), H', ⟨Nat.le_refl _⟩, ⟨by (with_reducible repeat (first | refine ybn ?_ _ | refine ybd ?_ | refine yba ?_ _)); exact BK871.out⟩, ⟨by repeat (first | (with_reducible first | exact HB.out | apply yea | apply yen | apply yed | refine below_set ?_ GE871.out) | exact HB.out)⟩⟩
      case round =>
        clear H'
        try clear c1
        try clear c2
        try clear p2
        try clear c5
        try clear c6
        try clear c14
        try clear hcz10_0
        try clear hcz10_1
        try clear hcz10_2
        try clear hcz12_0
        try clear hcz12_1
        try clear hcz12_2
        try clear hcz8_0
        try clear hcz8_1
        try clear hcz8_2
        try clear hfz10_0
        try clear hfz10_1
        try clear hfz10_2
        try clear hfz12_0
        try clear hfz12_1
        try clear hfz12_2
        try clear hfz8_0
        try clear hfz8_1
        try clear hfz8_2
        try clear p2
        obtain ⟨x21_2, rfl, HA, HK2, BK871, HB⟩ := hrel
        cases gk with
        | zero => exact absurd HA.out (by simp [impl_PuzzleFits.l0])
        | succ k2 =>
          have H := HA.out
          clear HA
          simp only [impl_PuzzleFits.l0] at H
          by_cases c15 : x21_2 < (l1.length : Int)
          · rw [if_pos c15] at H
            have c15b0 : decide (x21_2 < (l1.length : Int)) = true := decide_eq_true c15
            clear c15
            by_cases c16 : 0 ≤ x21_2
            rotate_left
            · rw [if_neg c16] at H
              exact absurd H (by simp)
            rw [if_pos c16] at H
            have c16b0 : decide (0 ≤ x21_2) = true := decide_eq_true c16
            clear c16
            by_cases c17 : x21_2 < (l1.length : Int)
            rotate_left
            · rw [if_neg c17] at H
              exact absurd H (by simp)
            rw [if_pos c17] at H
            have c17b0 : decide (x21_2 < (l1.length : Int)) = true := decide_eq_true c17
            clear c17
            by_cases c18 : (rd l1 x21_2) > 0
            rotate_left
            · rw [if_neg c18] at H
              have c18b0 : decide (0 < (rd l1 x21_2)) = false := decide_eq_false c18
              clear c18
              have H' := yam H
              clear H
              have p874 : 0 ≤ (x21_2 : Int) := of_decide_eq_true (by first | (with_reducible assumption) | assumption)
              have q874 : x21_2 < (l1.length : Int) := of_decide_eq_true (by first | (with_reducible assumption) | assumption)
              obtain ⟨ad874, e874, hx874_0⟩ := Kd.at_int HR1.out x21_2 p874 q874
              cases e874
              replace hx874_0 := (HB.out.cell (World.block_lt_of_cell? w _ hx874_0)).trans hx874_0
              replace p874 := eq_true p874
              replace q874 := eq_true q874
              go_wp2
              go_roundg k2
              case measure => have := HJ2.out; have := HK2.out; omega
              case rel => exact ⟨(wrap64 (x21_2 + 1)), (by first | rfl | (simp; done) | (simp [*]; done)), H', ⟨by have := HJ2.out; have := HK2.out; omega⟩, ⟨by (with_reducible repeat (first | refine ybn ?_ _ | refine ybd ?_ | refine yba ?_ _)); exact BK871.out⟩, ⟨by repeat (first | (with_reducible first | exact HB.out | apply yea | apply yen | apply yed | refine below_set ?_ GE871.out) | exact HB.out)⟩⟩
            rw [if_pos c18] at H
            have c18b0 : decide (0 < (rd l1 x21_2)) = true := decide_eq_true c18
            clear c18
            by_cases c19 : x21_2 < (l0_1.length : Int)
            rotate_left
            · rw [if_neg c19] at H
              exact absurd H (by simp)
            rw [if_pos c19] at H
            have c19b0 : decide (x21_2 < (l0_1.length : Int)) = true := decide_eq_true c19
            clear c19
            by_cases c20 : (rd l0_1 x21_2) > 0
            rotate_left
            · rw [if_neg c20] at H
              have c20b0 : decide (0 < (rd l0_1 x21_2)) = false := decide_eq_false c20
              clear c20
              have H' := yam H
              clear H
              have p874 : 0 ≤ (x21_2 : Int) := of_decide_eq_true (by first | (with_reducible assumption) | assumption)
              have q874 : x21_2 < (l1.length : Int) := of_decide_eq_true (by first | (with_reducible assumption) | assumption)
              obtain ⟨ad874, e874, hx874_0⟩ := Kd.at_int HR1.out x21_2 p874 q874
              cases e874
              replace hx874_0 := (HB.out.cell (World.block_lt_of_cell? w _ hx874_0)).trans hx874_0
              replace p874 := eq_true p874
              replace q874 := eq_true q874
              have hcz24_0 : wr.cell? ⟨gb871, 0, none⟩ = some (.int .i64 a0_0) := (blk_cell BK871.out 0).trans rfl
              have hcz24_1 : wr.cell? ⟨gb871, 1, none⟩ = some (.slice A0_1 l0_1.length c0_1) := (blk_cell BK871.out 1).trans rfl
              have hcz24_2 : wr.cell? ⟨gb871, 2, none⟩ = some (.slice A0_2 l0_2.length c0_2) := (blk_cell BK871.out 2).trans rfl
              have hfz24_0 := blk_frozen BK871.out 0
              have hfz24_1 := blk_frozen BK871.out 1
              have hfz24_2 := blk_frozen BK871.out 2
              have p875 : 0 ≤ (x21_2 : Int) := of_decide_eq_true (by first | (with_reducible assumption) | assumption)
              have q875 : x21_2 < (l0_1.length : Int) := of_decide_eq_true (by first | (with_reducible assumption) | assumption)
              obtain ⟨ad875, e875, hx875_0⟩ := Kd.at_int HR0_1.out x21_2 p875 q875
              cases e875
              replace hx875_0 := (HB.out.cell (World.block_lt_of_cell? w _ hx875_0)).trans hx875_0
              replace p875 := eq_true p875
              replace q875 := eq_true q875
              go_wp2
              go_roundg k2
              case measure => have := HJ2.out; have := HK2.out; omega
              case rel => exact ⟨(wrap64 (x21_2 + 1)), (by first | rfl | (simp; done) | (simp [*]; done)), H', ⟨by have := HJ2.out; have := HK2.out; omega⟩, ⟨by (with_reducible repeat (first | refine ybn ?_ _ | refine ybd ?_ | refine yba ?_ _)); exact BK871.out⟩, ⟨by repeat (first | (with_reducible first | exact HB.out | apply yea | apply yen | apply yed | refine below_set ?_ GE871.out) | exact HB.out)⟩⟩
            rw [if_pos c20] at H
            have c20b0 : decide (0 < (rd l0_1 x21_2)) = true := decide_eq_true c20
            clear c20
            by_cases c21 : (rd l1 x21_2) = (rd l0_1 x21_2)
            rotate_left
            · rw [if_neg c21] at H
              have c21b0 : ((rd l1 x21_2) == (rd l0_1 x21_2)) = false := beq_eq_false_iff_ne.mpr c21
              have c21b1 : ((rd l1 x21_2) != (rd l0_1 x21_2)) = true := bne_iff_ne.mpr c21
              obtain rfl := Option.some.inj H
              have p874 : 0 ≤ (x21_2 : Int) := of_decide_eq_true (by first | (with_reducible assumption) | assumption)
              have q874 : x21_2 < (l1.length : Int) := of_decide_eq_true (by first | (with_reducible assumption) | assumption)
              obtain ⟨ad874, e874, hx874_0⟩ := Kd.at_int HR1.out x21_2 p874 q874
              cases e874
              replace hx874_0 := (HB.out.cell (World.block_lt_of_cell? w _ hx874_0)).trans hx874_0
              replace p874 := eq_true p874
              replace q874 := eq_true q874
              have hcz23_0 : wr.cell? ⟨gb871, 0, none⟩ = some (.int .i64 a0_0) := (blk_cell BK871.out 0).trans rfl
              have hcz23_1 : wr.cell? ⟨gb871, 1, none⟩ = some (.slice A0_1 l0_1.length c0_1) := (blk_cell BK871.out 1).trans rfl
              have hcz23_2 : wr.cell? ⟨gb871, 2, none⟩ = some (.slice A0_2 l0_2.length c0_2) := (blk_cell BK871.out 2).trans rfl
              have hfz23_0 := blk_frozen BK871.out 0
              have hfz23_1 := blk_frozen BK871.out 1
              have hfz23_2 := blk_frozen BK871.out 2
              have p875 : 0 ≤ (x21_2 : Int) := of_decide_eq_true (by first | (with_reducible assumption) | assumption)
              have q875 : x21_2 < (l0_1.length : Int) := of_decide_eq_true (by first | (with_reducible assumption) | assumption)
              obtain ⟨ad875, e875, hx875_0⟩ := Kd.at_int HR0_1.out x21_2 p875 q875
              cases e875
              replace hx875_0 := (HB.out.cell (World.block_lt_of_cell? w _ hx875_0)).trans hx875_0
              replace p875 := eq_true p875
              replace q875 := eq_true q875
              have p876 : 0 ≤ (x21_2 : Int) := of_decide_eq_true (by first | (with_reducible assumption) | assumption)
              have q876 : x21_2 < (l0_1.length : Int) := of_decide_eq_true (by first | (with_reducible assumption) | assumption)
              obtain ⟨ad876, e876, hx876_0⟩ := Kd.at_int HR0_1.out x21_2 p876 q876
              obtain rfl : ad875 = ad876 := (by injection e876)
              replace hx876_0 := (HB.out.cell (World.block_lt_of_cell? w _ hx876_0)).trans hx876_0
              replace p876 := eq_true p876
              replace q876 := eq_true q876
              go_wp2
              go_ret
              exact ⟨by first | rfl | (simp [errW_none, errW_some] <;> rfl) | (simp [*, errW_none, errW_some] <;> rfl), by repeat (first | (with_reducible first | exact HB.out | apply yea | apply yen | apply yed | refine below_set ?_ GE871.out) | exact HB.out)⟩
            rw [if_pos c21] at H
            have c21b0 : ((rd l1 x21_2) == (rd l0_1 x21_2)) = true := beq_iff_eq.mpr c21
            have c21b1 : ((rd l1 x21_2) != (rd l0_1 x21_2)) = false := bne_eq_false_iff_eq.mpr c21
            clear c21
            have H' := yam H
            clear H
            have p874 : 0 ≤ (x21_2 : Int) := of_decide_eq_true (by first | (with_reducible assumption) | assumption)
            have q874 : x21_2 < (l1.length : Int) := of_decide_eq_true (by first | (with_reducible assumption) | assumption)
            obtain ⟨ad874, e874, hx874_0⟩ := Kd.at_int HR1.out x21_2 p874 q874
            cases e874
            replace hx874_0 := (HB.out.cell (World.block_lt_of_cell? w _ hx874_0)).trans hx874_0
            replace p874 := eq_true p874
            replace q874 := eq_true q874
            have hcz22_0 : wr.cell? ⟨gb871, 0, none⟩ = some (.int .i64 a0_0) := (blk_cell BK871.out 0).trans rfl
            have hcz22_1 : wr.cell? ⟨gb871, 1, none⟩ = some (.slice A0_1 l0_1.length c0_1) := (blk_cell BK871.out 1).trans rfl
            have hcz22_2 : wr.cell? ⟨gb871, 2, none⟩ = some (.slice A0_2 l0_2.length c0_2) := (blk_cell BK871.out 2).trans rfl
            have hfz22_0 := blk_frozen BK871.out 0
            have hfz22_1 := blk_frozen BK871.out 1
            have hfz22_2 := blk_frozen BK871.out 2
            have p875 : 0 ≤ (x21_2 : Int) := of_decide_eq_true (by first | (with_reducible assumption) | assumption)
            have q875 : x21_2 < (l0_1.length : Int) := of_decide_eq_true (by first | (with_reducible assumption) | assumption)
            obtain ⟨ad875, e875, hx875_0⟩ := Kd.at_int HR0_1.out x21_2 p875 q875
            cases e875
            replace hx875_0 := (HB.out.cell (World.block_lt_of_cell? w _ hx875_0)).trans hx875_0
            replace p875 := eq_true p875
            replace q875 := eq_true q875
            have p876 : 0 ≤ (x21_2 : Int) := of_decide_eq_true (by first | (with_reducible assumption) | assumption)
            have q876 : x21_2 < (l0_1.length : Int) := of_decide_eq_true (by first | (with_reducible assumption) | assumption)
            obtain ⟨ad876, e876, hx876_0⟩ := Kd.at_int HR0_1.out x21_2 p876 q876
            obtain rfl : ad875 = ad876 := (by injection e876)
            replace hx876_0 := (HB.out.cell (World.block_lt_of_cell? w _ hx876_0)).trans hx876_0
            replace p876 := eq_true p876
            replace q876 := eq_true q876
            go_wp2
            go_roundg k2
            case measure => have := HJ2.out; have := HK2.out; omega
            case rel => exact ⟨(wrap64 (x21_2 + 1)), (by first | rfl | (simp; done) | (simp [*]; done)), H', ⟨by have := HJ2.out; have := HK2.out; omega⟩, ⟨by (with_reducible repeat (first | refine ybn ?_ _ | refine ybd ?_ | refine yba ?_ _)); exact BK871.out⟩, ⟨by repeat (first | (with_reducible first | exact HB.out | apply yea | apply yen | apply yed | refine below_set ?_ GE871.out) | exact HB.out)⟩⟩
          rw [if_neg c15] at H
          have c15b0 : decide (x21_2 < (l1.length : Int)) = false := decide_eq_false c15
          clear c15
          have H' := yam H
          clear H
          have hcz25_0 : wr.cell? ⟨gb871, 0, none⟩ = some (.int .i64 a0_0) := (blk_cell BK871.out 0).trans rfl
          have hcz25_1 : wr.cell? ⟨gb871, 1, none⟩ = some (.slice A0_1 l0_1.length c0_1) := (blk_cell BK871.out 1).trans rfl
          have hcz25_2 : wr.cell? ⟨gb871, 2, none⟩ = some (.slice A0_2 l0_2.length c0_2) := (blk_cell BK871.out 2).trans rfl
          have hfz25_0 := blk_frozen BK871.out 0
          have hfz25_1 := blk_frozen BK871.out 1
          have hfz25_2 := blk_frozen BK871.out 2
          go_wp2
          go_loopg [49] k2 (fun kq v49 w' => ∃ (x49_3 : Int), v49 = .int .i64 x49_3 ∧ Aside0 (impl_PuzzleFits.l1 kq l1 l0_2 (l0_2.length : Int) x49_3 a0_0 l0_1 l0_2 = some r) ∧ Aside0 (kq ≤ k2) ∧ Aside0 (w'.heap[gb871]? = some (.cells #[.int .i64 a0_0, (.slice A0_1 l0_1.length c0_1), (.slice A0_2 l0_2.length c0_2)] 43 (0, 0))) ∧ Aside0 (Below w.heap.size w w'))
          case atStart => exact ⟨(0), (by first | rfl | (simp; done) | (simp [*]; done)), H', ⟨Nat.le_refl _⟩, ⟨by (with_reducible repeat (first | refine ybn ?_ _ | refine ybd ?_ | refine yba ?_ _)); exact BK871.out⟩, ⟨by repeat (first | (with_reducible first | exact HB.out | apply yea | apply yen | apply yed | refine below_set ?_ GE871.out) | exact HB.out)⟩⟩
          case round =>
            clear H'
            try clear c1
            try clear c2
            try clear p2
            try clear c5
            try clear c6
            try clear p6
            try clear p8
            try clear q8
            try clear hx8
            try clear c14
            try clear c15
            try clear c15b0
            try clear c16
            try clear c16b0
            try clear c17
            try clear c17b0
            try clear c18
            try clear c18b0
            try clear c19
            try clear c19b0
            try clear c20
            try clear c20b0
            try clear c21
            try clear c21b0
            try clear c21b1
            try clear hcz10_0
            try clear hcz10_1
            try clear hcz10_2
            try clear hcz12_0
            try clear hcz12_1
            try clear hcz12_2
            try clear hcz22_0
            try clear hcz22_1
            try clear hcz22_2
            try clear hcz23_0
            try clear hcz23_1
            try clear hcz23_2
            try clear hcz24_0
            try clear hcz24_1
            try clear hcz24_2
            try clear hcz25_0
            try clear hcz25_1
            try clear hcz25_2
            try clear hcz8_0
            try clear hcz8_1
            try clear hcz8_2
            try clear hfz10_0
            try clear hfz10_1
            try clear hfz10_2
            try clear hfz12_0
            try clear hfz12_1
            try clear hfz12_2
            try clear hfz22_0
            try clear hfz22_1
            try clear hfz22_2
            try clear hfz23_0
            try clear hfz23_1
            try clear hfz23_2
            try clear hfz24_0
            try clear hfz24_1
            try clear hfz24_2
            try clear hfz25_0
            try clear hfz25_1
            try clear hfz25_2
            try clear hfz8_0
            try clear hfz8_1
            try clear hfz8_2
            try clear hx874_0
            try clear hx875_0
            try clear hx876_0
            try clear p2
            try clear p874
            try clear p875
            try clear p876
            try clear q874
            try clear q875
            try clear q876
            obtain ⟨x49_3, rfl, HA, HK3, BK871, HB⟩ := hrel
            cases gk with
            | zero => exact absurd HA.out (by simp [impl_PuzzleFits.l1])
            | succ k3 =>
              have H := HA.out
              clear HA
              simp only [impl_PuzzleFits.l1] at H
              by_cases c26 : x49_3 < (l0_2.length : Int)
              rotate_left
              · rw [if_neg c26] at H
                have c26b0 : decide (x49_3 < (l0_2.length : Int)) = false := decide_eq_false c26
                clear c26
                obtain rfl := Option.some.inj H
                go_wp2
                go_ret
                exact ⟨by first | rfl | (simp [errW_none, errW_some] <;> rfl) | (simp [*, errW_none, errW_some] <;> rfl), by repeat (first | (with_reducible first | exact HB.out | apply yea | apply yen | apply yed | refine below_set ?_ GE871.out) | exact HB.out)⟩

              rw [if_pos c26] at H
              have c26b0 : decide (x49_3 < (l0_2.length : Int)) = true := decide_eq_true c26
              clear c26
              by_cases c27 : 0 ≤ x49_3
              rotate_left
              · rw [if_neg c27] at H
                exact absurd H (by simp)
              rw [if_pos c27] at H
              have c27b0 : decide (0 ≤ x49_3) = true := decide_eq_true c27
              clear c27
              by_cases c28 : x49_3 < (l0_2.length : Int)
              rotate_left
              · rw [if_neg c28] at H
                exact absurd H (by simp)
              rw [if_pos c28] at H
              have c28b0 : decide (x49_3 < (l0_2.length : Int)) = true := decide_eq_true c28
              clear c28
              replace H := Option.bind_eq_some_iff.mp H
              obtain ⟨t879, A290, H⟩ := H
              try dsimp only at H
              have A29 := yam A290
              clear A290
              by_cases c30 : t879 = true
              rotate_left
              · replace c30 := Bool.eq_false_iff.mpr c30
                subst c30
                have H1 : (some false) = some r := by rw [if_neg (show ¬ (false = true) by decide)] at H; exact H
                clear H
                have H := H1
                clear H1
                obtain rfl := Option.some.inj H
                have p877 : 0 ≤ (x49_3 : Int) := of_decide_eq_true (by first | (with_reducible assumption) | assumption)
                have q877 : x49_3 < (l0_2.length : Int) := of_decide_eq_true (by first | (with_reducible assumption) | assumption)
                obtain ⟨ad877, A877_1, c877_1, e877, hx877_0, hx877_1, hx877_2, hl877_1, hi877_1⟩ := at_T32 HR0_2.out x49_3 p877 q877
                cases e877
                replace hx877_0 := (HB.out.cell (World.block_lt_of_cell? w _ hx877_0)).trans hx877_0
                replace hx877_1 := (HB.out.cell (World.block_lt_of_cell? w _ hx877_1)).trans hx877_1
                replace hx877_2 := (HB.out.cell (World.block_lt_of_cell? w _ hx877_2)).trans hx877_2
                have HR877_1 := yam hi877_1
                have HC877_1 := yam hl877_1
                clear hi877_1 hl877_1
                replace p877 := eq_true p877
                replace q877 := eq_true q877
                go_wp2_with (first | ((with_reducible refine gate_dst (N := 8) rfl ?_); refine box_event ?hg (N := 8) ?hd (cs := #[.int .i64 0, .slice none 0 0, .int .i64 0]) (t := 32) ?hr ?_; (case hd => rfl); (case hg => rfl); (case hr => first | (go_simp; done) | (go_simp; rfl)); intro gb878 hg w36 hbox hb; have n0_ := yam (blk_below (g := gb871) (o := .cells #[.int .i64 a0_0, .slice A0_1 l0_1.length c0_1, .slice (some ad877) l0_2.length c0_2] 43 (0, 0)) (ybz BK871.out) hb); have n1_ := yam (below_step (by repeat (first | (with_reducible first | exact HB.out | apply yea | apply yen | apply yed | refine below_set ?_ GE871.out) | exact HB.out)) hb); have n2_ := yam (hbox); have n3_ := yam ((by rw [hg]; exact (below_size (by repeat (first | (with_reducible first | exact HB.out | apply yea | apply yen | apply yed | refine below_set ?_ GE871.out) | exact HB.out))) : w.heap.size ≤ gb878)); have n4_ := yam ((by rw [hg]; exact (below_size (by repeat (first | (with_reducible first | exact HB.out | apply yea | apply yen | apply yed | refine below_set ?_ GE871.out) | exact HB.out))) : w.heap.size ≤ gb878)); have n5_ := yam ((by rw [hg]; exact Nat.ne_of_lt (blk_lt (g := gb871) (o := .cells #[.int .i64 a0_0, .slice A0_1 l0_1.length c0_1, .slice (some ad877) l0_2.length c0_2] 43 (0, 0)) (ybz BK871.out)) : gb871 ≠ gb878)); have n6_ := yam ((by rw [hg]; exact Nat.ne_of_gt (blk_lt (g := gb871) (o := .cells #[.int .i64 a0_0, .slice A0_1 l0_1.length c0_1, .slice (some ad877) l0_2.length c0_2] 43 (0, 0)) (ybz BK871.out)) : gb878 ≠ gb871)); clear BK871; clear HB; have BK871 := n0_; have HB := n1_; have BK878 := n2_; have GW878 := n3_; have GE878 := n4_; have NB871_878 := n5_; have NB878_871 := n6_; clear n0_ n1_ n2_ n3_ n4_ n5_ n6_; clear hb hbox hg; have hnb37 := NB878_871.out; have hnc37 := NB871_878.out; have hcz38_0 : w36.cell? ⟨gb878, 0, none⟩ = some (.int .i64 0) := (blk_cell BK878.out 0).trans rfl; have hcz38_1 : w36.cell? ⟨gb878, 1, none⟩ = some (.slice none 0 0) := (blk_cell BK878.out 1).trans rfl; have hcz38_2 : w36.cell? ⟨gb878, 2, none⟩ = some (.int .i64 0) := (blk_cell BK878.out 2).trans rfl; have hfz38_0 := blk_frozen BK878.out 0; have hfz38_1 := blk_frozen BK878.out 1; have hfz38_2 := blk_frozen BK878.out 2; have hcz39_0 : w36.cell? ⟨gb871, 0, none⟩ = some (.int .i64 a0_0) := (blk_cell BK871.out 0).trans rfl; have hcz39_1 : w36.cell? ⟨gb871, 1, none⟩ = some (.slice A0_1 l0_1.length c0_1) := (blk_cell BK871.out 1).trans rfl; have hcz39_2 : w36.cell? ⟨gb871, 2, none⟩ = some (.slice (some ad877) l0_2.length c0_2) := (blk_cell BK871.out 2).trans rfl; have hfz39_0 := blk_frozen BK871.out 0; have hfz39_1 := blk_frozen BK871.out 1; have hfz39_2 := blk_frozen BK871.out 2) | ((with_reducible refine gate_callee (f := 79) rfl ?_); refine goesL_ (some 57) rfl rfl Try.func79 (by kernel_rfl) rfl #[.agg #[.int .i64 ((rd_T32 l0_2 x49_3).f0), .slice A877_1 ((rd_T32 l0_2 x49_3).f1).length c877_1, .int .i64 ((rd_T32 l0_2 x49_3).f2)], .slice A1 l1.length c1, .int .i64 a0_0] rfl (by (try simp only [List.map_toArray, List.map_cons, List.map_nil]); first | done | rfl | (simp only [List.length_drop, List.length_take]; rfl)) ?_; (with_reducible refine (impl_canHold.calls k3 ((rd_T32 l0_2 x49_3).f0) _ _ ((rd_T32 l0_2 x49_3).f1) ((rd_T32 l0_2 x49_3).f2) _ _ l1 a0_0 false _ ?side1 ?side2 ?side3 ?side4 A29.out).mono ?_); (case side1 => exact Kd.C_below HR877_1.out (by repeat (first | (with_reducible first | exact HB.out | apply yea | apply yen | apply yed | refine below_set ?_ GE871.out | refine below_set ?_ GE878.out) | exact HB.out))); (case side2 => exact HC877_1.out); (case side3 => exact Kd.C_below HR1.out (by repeat (first | (with_reducible first | exact HB.out | apply yea | apply yen | apply yed | refine below_set ?_ GE871.out | refine below_set ?_ GE878.out) | exact HB.out))); (case side4 => exact HC1.out); rintro e w40 ⟨rfl, hb⟩; refine ⟨_, rfl, ?_⟩; have n0_ := yam (blk_below (g := gb871) (o := .cells #[.int .i64 a0_0, .slice A0_1 l0_1.length c0_1, .slice (some ad877) l0_2.length c0_2] 43 (0, 0)) (by (with_reducible repeat (first | refine ybn ?_ _ | refine ybd ?_ | refine yba ?_ _)); refine blk_far ?_ NB871_878.out _; (with_reducible repeat (first | refine ybn ?_ _ | refine ybd ?_ | refine yba ?_ _)); refine blk_far ?_ NB871_878.out _; (with_reducible repeat (first | refine ybn ?_ _ | refine ybd ?_ | refine yba ?_ _)); refine blk_far ?_ NB871_878.out _; (with_reducible repeat (first | refine ybn ?_ _ | refine ybd ?_ | refine yba ?_ _)); exact BK871.out) hb); have n1_ := yam (blk_below (g := gb878) (o := .cells #[.int .i64 ((rd_T32 l0_2 x49_3).f0), .slice A877_1 ((rd_T32 l0_2 x49_3).f1).length c877_1, .int .i64 ((rd_T32 l0_2 x49_3).f2)] 32 (0, 0)) (by (with_reducible repeat (first | refine ybn ?_ _ | refine ybd ?_ | refine yba ?_ _)); refine blk_put (cs := #[.int .i64 ((rd_T32 l0_2 x49_3).f0), .slice A877_1 ((rd_T32 l0_2 x49_3).f1).length c877_1, .int .i64 0]) ?_ 2 _ rfl; (with_reducible repeat (first | refine ybn ?_ _ | refine ybd ?_ | refine yba ?_ _)); refine blk_put (cs := #[.int .i64 ((rd_T32 l0_2 x49_3).f0), .slice none 0 0, .int .i64 0]) ?_ 1 _ rfl; (with_reducible repeat (first | refine ybn ?_ _ | refine ybd ?_ | refine yba ?_ _)); refine blk_put (cs := #[.int .i64 0, .slice none 0 0, .int .i64 0]) ?_ 0 _ rfl; (with_reducible repeat (first | refine ybn ?_ _ | refine ybd ?_ | refine yba ?_ _)); exact BK878.out) hb); have n2_ := yam (below_step (by repeat (first | (with_reducible first | exact HB.out | apply yea | apply yen | apply yed | refine below_set ?_ GE871.out | refine below_set ?_ GE878.out) | exact HB.out)) hb); clear BK871; clear BK878; clear HB; have BK871 := n0_; have BK878 := n1_; have HB := n2_; clear n0_ n1_ n2_; (try clear hb); (try clear hb2); (try clear hk); (try clear hi)))
                go_ret
                exact ⟨by first | rfl | (simp [errW_none, errW_some] <;> rfl) | (simp [*, errW_none, errW_some] <;> rfl), by repeat (first | (with_reducible first | exact HB.out | apply yea | apply yen | apply yed | refine below_set ?_ GE871.out | refine below_set ?_ GE878.out) | exact HB.out)⟩
              subst c30
              have H1 : (impl_PuzzleFits.l1 k3 l1 l0_2 (l0_2.length : Int) (wrap64 (x49_3 + 1)) a0_0 l0_1 l0_2) = some r := by rw [if_pos rfl] at H; exact H
              clear H
              have H := H1
              clear H1
              have H' := yam H
              clear H
              have p877 : 0 ≤ (x49_3 : Int) := of_decide_eq_true (by first | (with_reducible assumption) | assumption)
              have q877 : x49_3 < (l0_2.length : Int) := of_decide_eq_true (by first | (with_reducible assumption) | assumption)
              obtain ⟨ad877, A877_1, c877_1, e877, hx877_0, hx877_1, hx877_2, hl877_1, hi877_1⟩ := at_T32 HR0_2.out x49_3 p877 q877
              cases e877
              replace hx877_0 := (HB.out.cell (World.block_lt_of_cell? w _ hx877_0)).trans hx877_0
              replace hx877_1 := (HB.out.cell (World.block_lt_of_cell? w _ hx877_1)).trans hx877_1
              replace hx877_2 := (HB.out.cell (World.block_lt_of_cell? w _ hx877_2)).trans hx877_2
              have HR877_1 := yam hi877_1
              have HC877_1 := yam hl877_1
              clear hi877_1 hl877_1
              replace p877 := eq_true p877
              replace q877 := eq_true q877
              go_wp2_with (first | ((with_reducible refine gate_dst (N := 8) rfl ?_); refine box_event ?hg (N := 8) ?hd (cs := #[.int .i64 0, .slice none 0 0, .int .i64 0]) (t := 32) ?hr ?_; (case hd => rfl); (case hg => rfl); (case hr => first | (go_simp; done) | (go_simp; rfl)); intro gb878 hg w31 hbox hb; have n0_ := yam (blk_below (g := gb871) (o := .cells #[.int .i64 a0_0, .slice A0_1 l0_1.length c0_1, .slice (some ad877) l0_2.length c0_2] 43 (0, 0)) (ybz BK871.out) hb); have n1_ := yam (below_step (by repeat (first | (with_reducible first | exact HB.out | apply yea | apply yen | apply yed | refine below_set ?_ GE871.out) | exact HB.out)) hb); have n2_ := yam (hbox); have n3_ := yam ((by rw [hg]; exact (below_size (by repeat (first | (with_reducible first | exact HB.out | apply yea | apply yen | apply yed | refine below_set ?_ GE871.out) | exact HB.out))) : w.heap.size ≤ gb878)); have n4_ := yam ((by rw [hg]; exact (below_size (by repeat (first | (with_reducible first | exact HB.out | apply yea | apply yen | apply yed | refine below_set ?_ GE871.out) | exact HB.out))) : w.heap.size ≤ gb878)); have n5_ := yam ((by rw [hg]; exact Nat.ne_of_lt (blk_lt (g := gb871) (o := .cells #[.int .i64 a0_0, .slice A0_1 l0_1.length c0_1, .slice (some ad877) l0_2.length c0_2] 43 (0, 0)) (ybz BK871.out)) : gb871 ≠ gb878)); have n6_ := yam ((by rw [hg]; exact Nat.ne_of_gt (blk_lt (g := gb871) (o := .cells #[.int .i64 a0_0, .slice A0_1 l0_1.length c0_1, .slice (some ad877) l0_2.length c0_2] 43 (0, 0)) (ybz BK871.out)) : gb878 ≠ gb871)); clear BK871; clear HB; have BK871 := n0_; have HB := n1_; have BK878 := n2_; have GW878 := n3_; have GE878 := n4_; have NB871_878 := n5_; have NB878_871 := n6_; clear n0_ n1_ n2_ n3_ n4_ n5_ n6_; clear hb hbox hg; have hnb32 := NB878_871.out; have hnc32 := NB871_878.out; have hcz33_0 : w31.cell? ⟨gb878, 0, none⟩ = some (.int .i64 0) := (blk_cell BK878.out 0).trans rfl; have hcz33_1 : w31.cell? ⟨gb878, 1, none⟩ = some (.slice none 0 0) := (blk_cell BK878.out 1).trans rfl; have hcz33_2 : w31.cell? ⟨gb878, 2, none⟩ = some (.int .i64 0) := (blk_cell BK878.out 2).trans rfl; have hfz33_0 := blk_frozen BK878.out 0; have hfz33_1 := blk_frozen BK878.out 1; have hfz33_2 := blk_frozen BK878.out 2; have hcz34_0 : w31.cell? ⟨gb871, 0, none⟩ = some (.int .i64 a0_0) := (blk_cell BK871.out 0).trans rfl; have hcz34_1 : w31.cell? ⟨gb871, 1, none⟩ = some (.slice A0_1 l0_1.length c0_1) := (blk_cell BK871.out 1).trans rfl; have hcz34_2 : w31.cell? ⟨gb871, 2, none⟩ = some (.slice (some ad877) l0_2.length c0_2) := (blk_cell BK871.out 2).trans rfl; have hfz34_0 := blk_frozen BK871.out 0; have hfz34_1 := blk_frozen BK871.out 1; have hfz34_2 := blk_frozen BK871.out 2) | ((with_reducible refine gate_callee (f := 79) rfl ?_); refine goesL_ (some 57) rfl rfl Try.func79 (by kernel_rfl) rfl #[.agg #[.int .i64 ((rd_T32 l0_2 x49_3).f0), .slice A877_1 ((rd_T32 l0_2 x49_3).f1).length c877_1, .int .i64 ((rd_T32 l0_2 x49_3).f2)], .slice A1 l1.length c1, .int .i64 a0_0] rfl (by (try simp only [List.map_toArray, List.map_cons, List.map_nil]); first | done | rfl | (simp only [List.length_drop, List.length_take]; rfl)) ?_; (with_reducible refine (impl_canHold.calls k3 ((rd_T32 l0_2 x49_3).f0) _ _ ((rd_T32 l0_2 x49_3).f1) ((rd_T32 l0_2 x49_3).f2) _ _ l1 a0_0 true _ ?side1 ?side2 ?side3 ?side4 A29.out).mono ?_); (case side1 => exact Kd.C_below HR877_1.out (by repeat (first | (with_reducible first | exact HB.out | apply yea | apply yen | apply yed | refine below_set ?_ GE871.out | refine below_set ?_ GE878.out) | exact HB.out))); (case side2 => exact HC877_1.out); (case side3 => exact Kd.C_below HR1.out (by repeat (first | (with_reducible first | exact HB.out | apply yea | apply yen | apply yed | refine below_set ?_ GE871.out | refine below_set ?_ GE878.out) | exact HB.out))); (case side4 => exact HC1.out); rintro e w35 ⟨rfl, hb⟩; refine ⟨_, rfl, ?_⟩; have n0_ := yam (blk_below (g := gb871) (o := .cells #[.int .i64 a0_0, .slice A0_1 l0_1.length c0_1, .slice (some ad877) l0_2.length c0_2] 43 (0, 0)) (by (with_reducible repeat (first | refine ybn ?_ _ | refine ybd ?_ | refine yba ?_ _)); refine blk_far ?_ NB871_878.out _; (with_reducible repeat (first | refine ybn ?_ _ | refine ybd ?_ | refine yba ?_ _)); refine blk_far ?_ NB871_878.out _; (with_reducible repeat (first | refine ybn ?_ _ | refine ybd ?_ | refine yba ?_ _)); refine blk_far ?_ NB871_878.out _; (with_reducible repeat (first | refine ybn ?_ _ | refine ybd ?_ | refine yba ?_ _)); exact BK871.out) hb); have n1_ := yam (blk_below (g := gb878) (o := .cells #[.int .i64 ((rd_T32 l0_2 x49_3).f0), .slice A877_1 ((rd_T32 l0_2 x49_3).f1).length c877_1, .int .i64 ((rd_T32 l0_2 x49_3).f2)] 32 (0, 0)) (by (with_reducible repeat (first | refine ybn ?_ _ | refine ybd ?_ | refine yba ?_ _)); refine blk_put (cs := #[.int .i64 ((rd_T32 l0_2 x49_3).f0), .slice A877_1 ((rd_T32 l0_2 x49_3).f1).length c877_1, .int .i64 0]) ?_ 2 _ rfl; (with_reducible repeat (first | refine ybn ?_ _ | refine ybd ?_ | refine yba ?_ _)); refine blk_put (cs := #[.int .i64 ((rd_T32 l0_2 x49_3).f0), .slice none 0 0, .int .i64 0]) ?_ 1 _ rfl; (with_reducible repeat (first | refine ybn ?_ _ | refine ybd ?_ | refine yba ?_ _)); refine blk_put (cs := #[.int .i64 0, .slice none 0 0, .int .i64 0]) ?_ 0 _ rfl; (with_reducible repeat (first | refine ybn ?_ _ | refine ybd ?_ | refine yba ?_ _)); exact BK878.out) hb); have n2_ := yam (below_step (by repeat (first | (with_reducible first | exact HB.out | apply yea | apply yen | apply yed | refine below_set ?_ GE871.out | refine below_set ?_ GE878.out) | exact HB.out)) hb); clear BK871; clear BK878; clear HB; have BK871 := n0_; have BK878 := n1_; have HB := n2_; clear n0_ n1_ n2_; (try clear hb); (try clear hb2); (try clear hk); (try clear hi)))
              go_roundg k3
              case measure => have := HJ2.out; have := HK2.out; have := HK3.out; omega
              case rel => exact ⟨(wrap64 (x49_3 + 1)), (by first | rfl | (simp; done) | (simp [*]; done)), H', ⟨by have := HJ2.out; have := HK2.out; have := HK3.out; omega⟩, ⟨by (with_reducible repeat (first | refine ybn ?_ _ | refine ybd ?_ | refine yba ?_ _)); exact BK871.out⟩, ⟨by repeat (first | (with_reducible first | exact HB.out | apply yea | apply yen | apply yed | refine below_set ?_ GE871.out | refine below_set ?_ GE878.out) | exact HB.out)⟩⟩
end Go.Proofs.Ythfbjkniinfgcaa.P
namespace Go.Proofs.Ythfbjkniinfgcaa.P
open Go.RowKit Go.Proofs.YthfbjkniinfgcaaW.PrintWords Go.Proofs.YthfbjkniinfgcaaW.PrintLast Go.Proofs.YthfbjkniinfgcaaW.PrintMore
attribute [local go_sem] max2_int min2_int max_two min_two max_three min_three max_four min_four   -- for this text's walks alone
set_option linter.unusedVariables false
set_option linter.unusedSimpArgs false

/-! ### impl_PuzzleSolved: function 57 -/
def impl_PuzzleSolved.f (k : Nat) (a0_0 : Int) (l0_1 : List Int) (l0_2 : List (S32)) (l1 : List Int) : Option (Bool) := (impl_PuzzleFits.f k a0_0 l0_1 l0_2 l1).bind fun t923 => (if t923 = true then ((impl_GridFilled.f k l1 a0_0).bind fun t924 => (some (t924 == (l1.length : Int)))) else (some false))
theorem impl_PuzzleSolved.mono : ∀ a0 a1 a2 a3 k, LeO (impl_PuzzleSolved.f k a0 a1 a2 a3) (impl_PuzzleSolved.f (k + 1) a0 a1 a2 a3) := by
  intro a0 a1 a2 a3 k
  unfold impl_PuzzleSolved.f
  repeat' first
      | (with_reducible exact impl_GridFilled.mono _ _ _)
      | (with_reducible exact impl_PuzzleFits.mono _ _ _ _ _)
      | (with_reducible exact LeO.refl _)
      | (with_reducible exact LeO.none _)
      | (with_reducible refine LeO.ite ?_ ?_)
      | (with_reducible refine LeO.bind ?_ (fun _ => ?_))
      | exact impl_GridFilled.mono _ _ _
      | exact impl_PuzzleFits.mono _ _ _ _ _
      | exact LeO.none _
      | refine LeO.ite ?_ ?_
      | refine LeO.bind ?_ (fun _ => ?_)
set_option maxHeartbeats 8000000 in
set_option maxRecDepth 100000 in
theorem impl_PuzzleSolved.calls (k : Nat) (a0_0 : Int) (A0_1 : Option Addr) (c0_1 : Nat) (l0_1 : List Int) (A0_2 : Option Addr) (c0_2 : Nat) (l0_2 : List (S32)) (A1 : Option Addr) (c1 : Nat) (l1 : List Int) (r : Bool) (w : World) (hr0_1 : Kd.C (Kd.int .i64) w A0_1 l0_1.length l0_1) (hc0_1 : l0_1.length ≤ c0_1) (hr0_2 : Kd.C k32 w A0_2 l0_2.length l0_2) (hc0_2 : l0_2.length ≤ c0_2) (hr1 : Kd.C (Kd.int .i64) w A1 l1.length l1) (hc1 : l1.length ≤ c1) (h : impl_PuzzleSolved.f k a0_0 l0_1 l0_2 l1 = some r) :
    Calls Try.prog 57 #[.agg #[.int .i64 a0_0, .slice A0_1 l0_1.length c0_1, .slice A0_2 l0_2.length c0_2], .slice A1 l1.length c1] w fun e w' => e = .returned (.bool r) ∧ Below w.heap.size w w' := by
  have hu43 := Try.underlying43
  have HR0_1 := yam hr0_1
  have HC0_1 := yam hc0_1
  clear hr0_1 hc0_1
  have HR0_2 := yam hr0_2
  have HC0_2 := yam hc0_2
  clear hr0_2 hc0_2
  have HR1 := yam hr1
  have HC1 := yam hc1
  clear hr1 hc1
  have HB := yam (Below.refl w.heap.size w)
  have H : ((impl_PuzzleFits.f k a0_0 l0_1 l0_2 l1).bind fun t923 => (if t923 = true then ((impl_GridFilled.f k l1 a0_0).bind fun t924 => (some (t924 == (l1.length : Int)))) else (some false))) = some r := h
  clear h
  replace H := Option.bind_eq_some_iff.mp H
  obtain ⟨t923, A30, H⟩ := H
  try dsimp only at H
  have A3 := yam A30
  clear A30
  by_cases c4 : t923 = true
  rotate_left
  · replace c4 := Bool.eq_false_iff.mpr c4
    subst c4
    have H1 : (some false) = some r := by rw [if_neg (show ¬ (false = true) by decide)] at H; exact H
    clear H
    have H := H1
    clear H1
    obtain rfl := Option.some.inj H
    go_enter Try.func57, Try.ntmps57
    go_wp2_with (first | ((with_reducible refine gate_dst (N := 2) rfl ?_); (try (refine gate_guard (by rfl) ?_; dsimp only)); refine box_event ?hg (N := 2) ?hd (cs := #[.int .i64 a0_0, .slice A0_1 l0_1.length c0_1, .slice A0_2 l0_2.length c0_2]) (t := 43) ?hr ?_; (case hd => rfl); (case hg => rfl); (case hr => first | (go_simp; done) | (go_simp; rfl)); intro gb922 hg w10 hbox hb; have n0_ := yam (below_step (yez HB.out) hb); have n1_ := yam (hbox); have n2_ := yam ((by rw [hg]; exact (below_size (yez HB.out)) : w.heap.size ≤ gb922)); have n3_ := yam ((by rw [hg]; exact (below_size (yez HB.out)) : w.heap.size ≤ gb922)); clear HB; have HB := n0_; have BK922 := n1_; have GW922 := n2_; have GE922 := n3_; clear n0_ n1_ n2_ n3_; clear hb hbox hg; have hcz11_0 : w10.cell? ⟨gb922, 0, none⟩ = some (.int .i64 a0_0) := (blk_cell BK922.out 0).trans rfl; have hcz11_1 : w10.cell? ⟨gb922, 1, none⟩ = some (.slice A0_1 l0_1.length c0_1) := (blk_cell BK922.out 1).trans rfl; have hcz11_2 : w10.cell? ⟨gb922, 2, none⟩ = some (.slice A0_2 l0_2.length c0_2) := (blk_cell BK922.out 2).trans rfl; have hfz11_0 := blk_frozen BK922.out 0; have hfz11_1 := blk_frozen BK922.out 1; have hfz11_2 := blk_frozen BK922.out 2) | ((with_reducible refine gate_callee (f := 55) rfl ?_); refine goesL_ (some 7) rfl rfl Try.func55 (by kernel_rfl) rfl #[.agg #[.int .i64 a0_0, .slice A0_1 l0_1.length c0_1, .slice A0_2 l0_2.length c0_2], .slice A1 l1.length c1] rfl (by (try simp only [List.map_toArray, List.map_cons, List.map_nil]); first | done | rfl | (simp only [List.length_drop, List.length_take]; rfl)) ?_; (with_reducible refine (impl_PuzzleFits.calls k a0_0 _ _ l0_1 _ _ l0_2 _ _ l1 false _ ?side1 ?side2 ?side3 ?side4 ?side5 ?side6 A3.out).mono ?_); (case side1 => exact Kd.Cz ((Kd.C_below HR0_1.out HB.out))); (case side2 => exact HC0_1.out); (case side3 => exact Kd.Cz ((Kd.C_below HR0_2.out HB.out))); (case side4 => exact HC0_2.out); (case side5 => exact Kd.Cz ((Kd.C_below HR1.out HB.out))); (case side6 => exact HC1.out); rintro e w12 ⟨rfl, hb⟩; refine ⟨_, rfl, ?_⟩; have n0_ := yam (blk_below (g := gb922) (o := .cells #[.int .i64 a0_0, .slice A0_1 l0_1.length c0_1, .slice A0_2 l0_2.length c0_2] 43 (0, 0)) (ybz BK922.out) hb); have n1_ := yam (below_step (by repeat (first | (with_reducible first | exact HB.out | apply yea | apply yen | apply yed | refine below_set ?_ GE922.out) | exact HB.out)) hb); clear BK922; clear HB; have BK922 := n0_; have HB := n1_; clear n0_ n1_; (try clear hb); (try clear hb2); (try clear hk); (try clear hi)))
    go_ret
    exact ⟨by first | rfl | (simp [errW_none, errW_some] <;> rfl) | (simp [*, errW_none, errW_some] <;> rfl), by repeat (first | (with_reducible first | exact HB.out | apply yea | apply yen | apply yed | refine below_set ?_ GE922.out) | exact HB.out)⟩

  subst c4
  have H1 : ((impl_GridFilled.f k l1 a0_0).bind fun t924 => (some (t924 == (l1.length : Int)))) = some r := by rw [if_pos rfl] at H; exact H
  clear H
  have H := H1
  clear H1
  replace H := Option.bind_eq_some_iff.mp H
  obtain ⟨t924, A50, H⟩ := H
  try dsimp only at H
  have A5 := yam A50
  clear A50
  obtain rfl := Option.some.inj H
  go_enter Try.func57, Try.ntmps57
  go_wp2_with (first | ((with_reducible refine gate_dst (N := 2) rfl ?_); (try (refine gate_guard (by rfl) ?_; dsimp only)); refine box_event ?hg (N := 2) ?hd (cs := #[.int .i64 a0_0, .slice A0_1 l0_1.length c0_1, .slice A0_2 l0_2.length c0_2]) (t := 43) ?hr ?_; (case hd => rfl); (case hg => rfl); (case hr => first | (go_simp; done) | (go_simp; rfl)); intro gb922 hg w6 hbox hb; have n0_ := yam (below_step (yez HB.out) hb); have n1_ := yam (hbox); have n2_ := yam ((by rw [hg]; exact (below_size (yez HB.out)) : w.heap.size ≤ gb922)); have n3_ := yam ((by rw [hg]; exact (below_size (yez HB.out)) : w.heap.size ≤ gb922)); clear HB; have HB := n0_; have BK922 := n1_; have GW922 := n2_; have GE922 := n3_; clear n0_ n1_ n2_ n3_; clear hb hbox hg; have hcz7_0 : w6.cell? ⟨gb922, 0, none⟩ = some (.int .i64 a0_0) := (blk_cell BK922.out 0).trans rfl; have hcz7_1 : w6.cell? ⟨gb922, 1, none⟩ = some (.slice A0_1 l0_1.length c0_1) := (blk_cell BK922.out 1).trans rfl; have hcz7_2 : w6.cell? ⟨gb922, 2, none⟩ = some (.slice A0_2 l0_2.length c0_2) := (blk_cell BK922.out 2).trans rfl; have hfz7_0 := blk_frozen BK922.out 0; have hfz7_1 := blk_frozen BK922.out 1; have hfz7_2 := blk_frozen BK922.out 2) | ((with_reducible refine gate_callee (f := 55) rfl ?_); refine goesL_ (some 7) rfl rfl Try.func55 (by kernel_rfl) rfl #[.agg #[.int .i64 a0_0, .slice A0_1 l0_1.length c0_1, .slice A0_2 l0_2.length c0_2], .slice A1 l1.length c1] rfl (by (try simp only [List.map_toArray, List.map_cons, List.map_nil]); first | done | rfl | (simp only [List.length_drop, List.length_take]; rfl)) ?_; (with_reducible refine (impl_PuzzleFits.calls k a0_0 _ _ l0_1 _ _ l0_2 _ _ l1 true _ ?side1 ?side2 ?side3 ?side4 ?side5 ?side6 A3.out).mono ?_); (case side1 => exact Kd.Cz ((Kd.C_below HR0_1.out HB.out))); (case side2 => exact HC0_1.out); (case side3 => exact Kd.Cz ((Kd.C_below HR0_2.out HB.out))); (case side4 => exact HC0_2.out); (case side5 => exact Kd.Cz ((Kd.C_below HR1.out HB.out))); (case side6 => exact HC1.out); rintro e w8 ⟨rfl, hb⟩; refine ⟨_, rfl, ?_⟩; have n0_ := yam (blk_below (g := gb922) (o := .cells #[.int .i64 a0_0, .slice A0_1 l0_1.length c0_1, .slice A0_2 l0_2.length c0_2] 43 (0, 0)) (ybz BK922.out) hb); have n1_ := yam (below_step (by repeat (first | (with_reducible first | exact HB.out | apply yea | apply yen | apply yed | refine below_set ?_ GE922.out) | exact HB.out)) hb); clear BK922; clear HB; have BK922 := n0_; have HB := n1_; clear n0_ n1_; (try clear hb); (try clear hb2); (try clear hk); (try clear hi); have hcz9_0 : w8.cell? ⟨gb922, 0, none⟩ = some (.int .i64 a0_0) := (blk_cell BK922.out 0).trans rfl; have hcz9_1 : w8.cell? ⟨gb922, 1, none⟩ = some (.slice A0_1 l0_1.length c0_1) := (blk_cell BK922.out 1).trans rfl; have hcz9_2 : w8.cell? ⟨gb922, 2, none⟩ = some (.slice A0_2 l0_2.length c0_2) := (blk_cell BK922.out 2).trans rfl; have hfz9_0 := blk_frozen BK922.out 0; have hfz9_1 := blk_frozen BK922.out 1; have hfz9_2 := blk_frozen BK922.out 2) | (go_at_call 50; (with_reducible refine (impl_GridFilled.calls k _ _ l1 a0_0 t924 _ ?side1 ?side2 A5.out).mono ?_); (case side1 => exact Kd.Cz ((Kd.C_below HR1.out HB.out))); (case side2 => exact HC1.out); rintro e w' ⟨rfl, ⟨nd, rfl⟩⟩))
  go_ret
  exact ⟨by first | rfl | (simp [errW_none, errW_some] <;> rfl) | (simp [*, errW_none, errW_some] <;> rfl), by repeat (first | (with_reducible first | exact HB.out | apply yea | apply yen | apply yed | refine below_set ?_ GE922.out) | exact HB.out)⟩
end Go.Proofs.Ythfbjkniinfgcaa.P
