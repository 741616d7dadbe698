/- The machine's side: each Go function as a plain Lean function and the proof that the machine's call does what that function says; written by this session's own program over the kit's print. -/
import Derived.Test.YthfbjkniinfgcaaZP1
import Derived.Test.YthfbjkniinfgcaaZP2
import Derived.Test.YthfbjkniinfgcaaZP5
namespace Go.Proofs.Ythfbjkniinfgcaa.P
open Go.RowKit Go.Proofs.YthfbjkniinfgcaaW.PrintWords Go.Proofs.YthfbjkniinfgcaaW.PrintLast Go.Proofs.YthfbjkniinfgcaaW.PrintMore
attribute [local go_sem] max2_int min2_int max_two min_two max_three min_three max_four min_four   -- for this text's walks alone
set_option linter.unusedVariables false
set_option linter.unusedSimpArgs false

/-! ### spec_GridFilled: function 87 -/
def spec_GridFilled.l0 : Nat → List Int → Int → Int → Option (Int)
  | 0, _, _, _ => none
  | k + 1, x0, x5, x6 => if x6 < (x0.length : Int) then (if 0 ≤ x6 then (if (rd x0 x6) > 0 then (spec_GridFilled.l0 k x0 (wrap64 (x5 + 1)) (wrap64 (x6 + 1))) else (spec_GridFilled.l0 k x0 x5 (wrap64 (x6 + 1)))) else (none)) else (some x5)
def spec_GridFilled.f (k : Nat) (l0 : List Int) (a1 : Int) : Option (Int) := (spec_GridValid.f k l0 a1).bind fun t917 => (if t917 = true then (spec_GridFilled.l0 k l0 0 0) else (some (-1)))
theorem spec_GridFilled.mono_l : ∀ k, (∀ y0 y1 y2, LeO (spec_GridFilled.l0 k y0 y1 y2) (spec_GridFilled.l0 (k + 1) y0 y1 y2))
  | 0 => fun _ _ _ r h => by simp [spec_GridFilled.l0] at h
  | k + 1 => by
    have ih0 := spec_GridFilled.mono_l k
    · intro y0 y1 y2
      unfold spec_GridFilled.l0
      repeat' first
      | (with_reducible exact ih0 _ _ _)
      | (with_reducible exact spec_GridValid.mono _ _ _)
      | (with_reducible exact LeO.refl _)
      | (with_reducible exact LeO.none _)
      | (with_reducible refine LeO.ite ?_ ?_)
      | (with_reducible refine LeO.bind ?_ (fun _ => ?_))
      | exact ih0 _ _ _
      | exact spec_GridValid.mono _ _ _
      | exact LeO.none _
      | refine LeO.ite ?_ ?_
      | refine LeO.bind ?_ (fun _ => ?_)
theorem spec_GridFilled.mono : ∀ a0 a1 k, LeO (spec_GridFilled.f k a0 a1) (spec_GridFilled.f (k + 1) a0 a1) := by
  intro a0 a1 k
  have ih0 := spec_GridFilled.mono_l k
  unfold spec_GridFilled.f
  repeat' first
      | (with_reducible exact ih0 _ _ _)
      | (with_reducible exact spec_GridValid.mono _ _ _)
      | (with_reducible exact LeO.refl _)
      | (with_reducible exact LeO.none _)
      | (with_reducible refine LeO.ite ?_ ?_)
      | (with_reducible refine LeO.bind ?_ (fun _ => ?_))
      | exact ih0 _ _ _
      | exact spec_GridValid.mono _ _ _
      | exact LeO.none _
      | refine LeO.ite ?_ ?_
      | refine LeO.bind ?_ (fun _ => ?_)
set_option maxHeartbeats 8000000 in
set_option maxRecDepth 100000 in
theorem spec_GridFilled.calls (k : Nat) (A0 : Option Addr) (c0 : Nat) (l0 : List Int) (a1 : Int) (r : Int) (w : World) (hr0 : Kd.C (Kd.int .i64) w A0 l0.length l0) (hc0 : l0.length ≤ c0) (h : spec_GridFilled.f k l0 a1 = some r) :
    Calls Try.prog 87 #[.slice A0 l0.length c0, .int .i64 a1] w fun e w' => e = .returned (.int .i64 r) ∧ Drawn0 w w' := by
  have HR0 := yam hr0
  have HC0 := yam hc0
  clear hr0 hc0
  have H : ((spec_GridValid.f k l0 a1).bind fun t917 => (if t917 = true then (spec_GridFilled.l0 k l0 0 0) else (some (-1)))) = some r := h
  clear h
  replace H := Option.bind_eq_some_iff.mp H
  obtain ⟨t917, A30, H⟩ := H
  try dsimp only at H
  have A3 := yam A30
  clear A30
  by_cases c4 : t917 = true
  rotate_left
  · replace c4 := Bool.eq_false_iff.mpr c4
    subst c4
    have H1 : (some (-1)) = some r := by rw [if_neg (show ¬ (false = true) by decide)] at H; exact H
    clear H
    have H := H1
    clear H1
    obtain rfl := Option.some.inj H
    go_enter Try.func87, Try.ntmps87
    go_wp2_with (first | ((with_reducible refine gate_callee (f := 49) rfl ?_); refine goesL_ (some 9) rfl rfl Try.func49 (by kernel_rfl) rfl #[.slice A0 l0.length c0, .int .i64 a1] rfl (by (try simp only [List.map_toArray, List.map_cons, List.map_nil]); first | done | rfl | (simp only [List.length_drop, List.length_take]; rfl)) ?_; (with_reducible refine (spec_GridValid.calls k _ _ l0 a1 false _ ?side1 ?side2 A3.out).mono ?_); (case side1 => exact Kd.Cz (HR0.out)); (case side2 => exact HC0.out); rintro e w' ⟨rfl, ⟨nd, rfl⟩⟩; refine ⟨_, rfl, ?_⟩))
    go_ret
    exact ⟨by first | rfl | (simp; done) | (simp [*]; done), by repeat (first | exact Drawn0.refl _ | apply Drawn0.step)⟩

  subst c4
  have H1 : (spec_GridFilled.l0 k l0 0 0) = some r := by rw [if_pos rfl] at H; exact H
  clear H
  have H := H1
  clear H1
  have H' := yam H
  clear H
  go_enter Try.func87, Try.ntmps87
  go_wp2_with (first | ((with_reducible refine gate_callee (f := 49) rfl ?_); refine goesL_ (some 9) rfl rfl Try.func49 (by kernel_rfl) rfl #[.slice A0 l0.length c0, .int .i64 a1] rfl (by (try simp only [List.map_toArray, List.map_cons, List.map_nil]); first | done | rfl | (simp only [List.length_drop, List.length_take]; rfl)) ?_; (with_reducible refine (spec_GridValid.calls k _ _ l0 a1 true _ ?side1 ?side2 A3.out).mono ?_); (case side1 => exact Kd.Cz (HR0.out)); (case side2 => exact HC0.out); rintro e w' ⟨rfl, ⟨nd, rfl⟩⟩; refine ⟨_, rfl, ?_⟩))
  go_loopg [5, 6] k (fun kq v5 v6 w' => ∃ (x5_1 : Int) (x6_1 : Int), v5 = .int .i64 x5_1 ∧ v6 = .int .i64 x6_1 ∧ Aside0 (spec_GridFilled.l0 kq l0 x5_1 x6_1 = some r) ∧ Aside0 (kq ≤ k) ∧ Drawn0 w w')
  case atStart => exact ⟨(0), (0), (by first | rfl | (simp; done) | (simp [*]; done)), (by first | rfl | (simp; done) | (simp [*]; done)), H', ⟨Nat.le_refl _⟩, by repeat (first | exact Drawn0.refl _ | apply Drawn0.step)⟩
  case round =>
    clear H'
    try clear p2
    try clear c4
    obtain ⟨x5_1, x6_1, rfl, rfl, HA, HK1, ⟨m1, rfl⟩⟩ := hrel
    cases gk with
    | zero => exact absurd HA.out (by simp [spec_GridFilled.l0])
    | succ k1 =>
      have H := HA.out
      clear HA
      simp only [spec_GridFilled.l0] at H
      by_cases c5 : x6_1 < (l0.length : Int)
      rotate_left
      · rw [if_neg c5] at H
        have c5b0 : decide (x6_1 < (l0.length : Int)) = false := decide_eq_false c5
        clear c5
        obtain rfl := Option.some.inj H
        go_wp2
        go_ret
        exact ⟨by first | rfl | (simp; done) | (simp [*]; done), by repeat (first | exact Drawn0.refl _ | apply Drawn0.step)⟩
      rw [if_pos c5] at H
      have c5b0 : decide (x6_1 < (l0.length : Int)) = true := decide_eq_true c5
      clear c5
      by_cases c6 : 0 ≤ x6_1
      rotate_left
      · rw [if_neg c6] at H
        exact absurd H (by simp)
      rw [if_pos c6] at H
      have c6b0 : decide (0 ≤ x6_1) = true := decide_eq_true c6
      clear c6
      by_cases c7 : (rd l0 x6_1) > 0
      rotate_left
      · rw [if_neg c7] at H
        have c7b0 : decide (0 < (rd l0 x6_1)) = false := decide_eq_false c7
        clear c7
        have H' := yam H
        clear H
        have p918 : 0 ≤ (x6_1 : Int) := of_decide_eq_true (by first | (with_reducible assumption) | assumption)
        have q918 : x6_1 < (l0.length : Int) := of_decide_eq_true (by first | (with_reducible assumption) | assumption)
        obtain ⟨ad918, e918, hx918_0⟩ := Kd.at_int HR0.out x6_1 p918 q918
        cases e918
        replace p918 := eq_true p918
        replace q918 := eq_true q918
        go_wp2
        go_roundg k1
        case measure => have := HK1.out; omega
        case rel => exact ⟨(x5_1), (wrap64 (x6_1 + 1)), (by first | rfl | (simp; done) | (simp [*]; done)), (by first | rfl | (simp; done) | (simp [*]; done)), H', ⟨by have := HK1.out; omega⟩, by repeat (first | exact Drawn0.refl _ | apply Drawn0.step)⟩
      rw [if_pos c7] at H
      have c7b0 : decide (0 < (rd l0 x6_1)) = true := decide_eq_true c7
      clear c7
      have H' := yam H
      clear H
      have p918 : 0 ≤ (x6_1 : Int) := of_decide_eq_true (by first | (with_reducible assumption) | assumption)
      have q918 : x6_1 < (l0.length : Int) := of_decide_eq_true (by first | (with_reducible assumption) | assumption)
      obtain ⟨ad918, e918, hx918_0⟩ := Kd.at_int HR0.out x6_1 p918 q918
      cases e918
      replace p918 := eq_true p918
      replace q918 := eq_true q918
      go_wp2
      go_roundg k1
      case measure => have := HK1.out; omega
      case rel => exact ⟨(wrap64 (x5_1 + 1)), (wrap64 (x6_1 + 1)), (by first | rfl | (simp; done) | (simp [*]; done)), (by first | rfl | (simp; done) | (simp [*]; done)), H', ⟨by have := HK1.out; omega⟩, by repeat (first | exact Drawn0.refl _ | apply Drawn0.step)⟩
end Go.Proofs.Ythfbjkniinfgcaa.P
namespace Go.Proofs.Ythfbjkniinfgcaa.P
open Go.RowKit Go.Proofs.YthfbjkniinfgcaaW.PrintWords Go.Proofs.YthfbjkniinfgcaaW.PrintLast Go.Proofs.YthfbjkniinfgcaaW.PrintMore
attribute [local go_sem] max2_int min2_int max_two min_two max_three min_three max_four min_four   -- for this text's walks alone
set_option linter.unusedVariables false
set_option linter.unusedSimpArgs false

/-! ### spec_PuzzleSolved: function 56 -/
def spec_PuzzleSolved.f (k : Nat) (a0_0 : Int) (l0_1 : List Int) (l0_2 : List (S32)) (l1 : List Int) : Option (Bool) := (spec_PuzzleFits.f k a0_0 l0_1 l0_2 l1).bind fun t920 => (if t920 = true then ((spec_GridFilled.f k l1 a0_0).bind fun t921 => (some (t921 == (l1.length : Int)))) else (some false))
theorem spec_PuzzleSolved.mono : ∀ a0 a1 a2 a3 k, LeO (spec_PuzzleSolved.f k a0 a1 a2 a3) (spec_PuzzleSolved.f (k + 1) a0 a1 a2 a3) := by
  intro a0 a1 a2 a3 k
  unfold spec_PuzzleSolved.f
  repeat' first
      | (with_reducible exact spec_GridFilled.mono _ _ _)
      | (with_reducible exact spec_PuzzleFits.mono _ _ _ _ _)
      | (with_reducible exact LeO.refl _)
      | (with_reducible exact LeO.none _)
      | (with_reducible refine LeO.ite ?_ ?_)
      | (with_reducible refine LeO.bind ?_ (fun _ => ?_))
      | exact spec_GridFilled.mono _ _ _
      | exact spec_PuzzleFits.mono _ _ _ _ _
      | exact LeO.none _
      | refine LeO.ite ?_ ?_
      | refine LeO.bind ?_ (fun _ => ?_)
set_option maxHeartbeats 8000000 in
set_option maxRecDepth 100000 in
theorem spec_PuzzleSolved.calls (k : Nat) (a0_0 : Int) (A0_1 : Option Addr) (c0_1 : Nat) (l0_1 : List Int) (A0_2 : Option Addr) (c0_2 : Nat) (l0_2 : List (S32)) (A1 : Option Addr) (c1 : Nat) (l1 : List Int) (r : Bool) (w : World) (hr0_1 : Kd.C (Kd.int .i64) w A0_1 l0_1.length l0_1) (hc0_1 : l0_1.length ≤ c0_1) (hr0_2 : Kd.C k32 w A0_2 l0_2.length l0_2) (hc0_2 : l0_2.length ≤ c0_2) (hr1 : Kd.C (Kd.int .i64) w A1 l1.length l1) (hc1 : l1.length ≤ c1) (h : spec_PuzzleSolved.f k a0_0 l0_1 l0_2 l1 = some r) :
    Calls Try.prog 56 #[.agg #[.int .i64 a0_0, .slice A0_1 l0_1.length c0_1, .slice A0_2 l0_2.length c0_2], .slice A1 l1.length c1] w fun e w' => e = .returned (.bool r) ∧ Below w.heap.size w w' := by
  have hu43 := Try.underlying43
  have HR0_1 := yam hr0_1
  have HC0_1 := yam hc0_1
  clear hr0_1 hc0_1
  have HR0_2 := yam hr0_2
  have HC0_2 := yam hc0_2
  clear hr0_2 hc0_2
  have HR1 := yam hr1
  have HC1 := yam hc1
  clear hr1 hc1
  have HB := yam (Below.refl w.heap.size w)
  have H : ((spec_PuzzleFits.f k a0_0 l0_1 l0_2 l1).bind fun t920 => (if t920 = true then ((spec_GridFilled.f k l1 a0_0).bind fun t921 => (some (t921 == (l1.length : Int)))) else (some false))) = some r := h
  clear h
  replace H := Option.bind_eq_some_iff.mp H
  obtain ⟨t920, A30, H⟩ := H
  try dsimp only at H
  have A3 := yam A30
  clear A30
  by_cases c4 : t920 = true
  rotate_left
  · replace c4 := Bool.eq_false_iff.mpr c4
    subst c4
    have H1 : (some false) = some r := by rw [if_neg (show ¬ (false = true) by decide)] at H; exact H
    clear H
    have H := H1
    clear H1
    obtain rfl := Option.some.inj H
    go_enter Try.func56, Try.ntmps56
    go_wp2_with (first | ((with_reducible refine gate_dst (N := 2) rfl ?_); (try (refine gate_guard (by rfl) ?_; dsimp only)); refine box_event ?hg (N := 2) ?hd (cs := #[.int .i64 a0_0, .slice A0_1 l0_1.length c0_1, .slice A0_2 l0_2.length c0_2]) (t := 43) ?hr ?_; (case hd => rfl); (case hg => rfl); (case hr => first | (go_simp; done) | (go_simp; rfl)); intro gb919 hg w10 hbox hb; have n0_ := yam (below_step (yez HB.out) hb); have n1_ := yam (hbox); have n2_ := yam ((by rw [hg]; exact (below_size (yez HB.out)) : w.heap.size ≤ gb919)); have n3_ := yam ((by rw [hg]; exact (below_size (yez HB.out)) : w.heap.size ≤ gb919)); clear HB; have HB := n0_; have BK919 := n1_; have GW919 := n2_; have GE919 := n3_; clear n0_ n1_ n2_ n3_; clear hb hbox hg; have hcz11_0 : w10.cell? ⟨gb919, 0, none⟩ = some (.int .i64 a0_0) := (blk_cell BK919.out 0).trans rfl; have hcz11_1 : w10.cell? ⟨gb919, 1, none⟩ = some (.slice A0_1 l0_1.length c0_1) := (blk_cell BK919.out 1).trans rfl; have hcz11_2 : w10.cell? ⟨gb919, 2, none⟩ = some (.slice A0_2 l0_2.length c0_2) := (blk_cell BK919.out 2).trans rfl; have hfz11_0 := blk_frozen BK919.out 0; have hfz11_1 := blk_frozen BK919.out 1; have hfz11_2 := blk_frozen BK919.out 2) | ((with_reducible refine gate_callee (f := 54) rfl ?_); refine goesL_ (some 7) rfl rfl Try.func54 (by kernel_rfl) rfl #[.agg #[.int .i64 a0_0, .slice A0_1 l0_1.length c0_1, .slice A0_2 l0_2.length c0_2], .slice A1 l1.length c1] rfl (by (try simp only [List.map_toArray, List.map_cons, List.map_nil]); first | done | rfl | (simp only [List.length_drop, List.length_take]; rfl)) ?_; (with_reducible refine (spec_PuzzleFits.calls k a0_0 _ _ l0_1 _ _ l0_2 _ _ l1 false _ ?side1 ?side2 ?side3 ?side4 ?side5 ?side6 A3.out).mono ?_); (case side1 => exact Kd.Cz ((Kd.C_below HR0_1.out HB.out))); (case side2 => exact HC0_1.out); (case side3 => exact Kd.Cz ((Kd.C_below HR0_2.out HB.out))); (case side4 => exact HC0_2.out); (case side5 => exact Kd.Cz ((Kd.C_below HR1.out HB.out))); (case side6 => exact HC1.out); rintro e w12 ⟨rfl, hb⟩; refine ⟨_, rfl, ?_⟩; have n0_ := yam (blk_below (g := gb919) (o := .cells #[.int .i64 a0_0, .slice A0_1 l0_1.length c0_1, .slice A0_2 l0_2.length c0_2] 43 (0, 0)) (ybz BK919.out) hb); have n1_ := yam (below_step (by repeat (first | (with_reducible first | exact HB.out | apply yea | apply yen | apply yed | refine below_set ?_ GE919.out) | exact HB.out)) hb); clear BK919; clear HB; have BK919 := n0_; have HB := n1_; clear n0_ n1_; (try clear hb); (try clear hb2); (try clear hk); (try clear hi)))
    go_ret
    exact ⟨by first | rfl | (simp [errW_none, errW_some] <;> rfl) | (simp [*, errW_none, errW_some] <;> rfl), by repeat (first | (with_reducible first | exact HB.out | apply yea | apply yen | apply yed | refine below_set ?_ GE919.out) | exact HB.out)⟩

  subst c4
  have H1 : ((spec_GridFilled.f k l1 a0_0).bind fun t921 => (some (t921 == (l1.length : Int)))) = some r := by rw [if_pos rfl] at H; exact H
  clear H
  have H := H1
  clear H1
  replace H := Option.bind_eq_some_iff.mp H
  obtain ⟨t921, A50, H⟩ := H
  try dsimp only at H
  have A5 := yam A50
  clear A50
  obtain rfl := Option.some.inj H
  go_enter Try.func56, Try.ntmps56
  go_wp2_with (first | ((with_reducible refine gate_dst (N := 2) rfl ?_); (try (refine gate_guard (by rfl) ?_; dsimp only)); refine box_event ?hg (N := 2) ?hd (cs := #[.int .i64 a0_0, .slice A0_1 l0_1.length c0_1, .slice A0_2 l0_2.length c0_2]) (t := 43) ?hr ?_; (case hd => rfl); (case hg => rfl); (case hr => first | (go_simp; done) | (go_simp; rfl)); intro gb919 hg w6 hbox hb; have n0_ := yam (below_step (yez HB.out) hb); have n1_ := yam (hbox); have n2_ := yam ((by rw [hg]; exact (below_size (yez HB.out)) : w.heap.size ≤ gb919)); have n3_ := yam ((by rw [hg]; exact (below_size (yez HB.out)) : w.heap.size ≤ gb919)); clear HB; have HB := n0_; have BK919 := n1_; have GW919 := n2_; have GE919 := n3_; clear n0_ n1_ n2_ n3_; clear hb hbox hg; have hcz7_0 : w6.cell? ⟨gb919, 0, none⟩ = some (.int .i64 a0_0) := (blk_cell BK919.out 0).trans rfl; have hcz7_1 : w6.cell? ⟨gb919, 1, none⟩ = some (.slice A0_1 l0_1.length c0_1) := (blk_cell BK919.out 1).trans rfl; have hcz7_2 : w6.cell? ⟨gb919, 2, none⟩ = some (.slice A0_2 l0_2.length c0_2) := (blk_cell BK919.out 2).trans rfl; have hfz7_0 := blk_frozen BK919.out 0; have hfz7_1 := blk_frozen BK919.out 1; have hfz7_2 := blk_frozen BK919.out 2) | ((with_reducible refine gate_callee (f := 54) rfl ?_); refine goesL_ (some 7) rfl rfl Try.func54 (by kernel_rfl) rfl #[.agg #[.int .i64 a0_0, .slice A0_1 l0_1.length c0_1, .slice A0_2 l0_2.length c0_2], .slice A1 l1.length c1] rfl (by (try simp only [List.map_toArray, List.map_cons, List.map_nil]); first | done | rfl | (simp only [List.length_drop, List.length_take]; rfl)) ?_; (with_reducible refine (spec_PuzzleFits.calls k a0_0 _ _ l0_1 _ _ l0_2 _ _ l1 true _ ?side1 ?side2 ?side3 ?side4 ?side5 ?side6 A3.out).mono ?_); (case side1 => exact Kd.Cz ((Kd.C_below HR0_1.out HB.out))); (case side2 => exact HC0_1.out); (case side3 => exact Kd.Cz ((Kd.C_below HR0_2.out HB.out))); (case side4 => exact HC0_2.out); (case side5 => exact Kd.Cz ((Kd.C_below HR1.out HB.out))); (case side6 => exact HC1.out); rintro e w8 ⟨rfl, hb⟩; refine ⟨_, rfl, ?_⟩; have n0_ := yam (blk_below (g := gb919) (o := .cells #[.int .i64 a0_0, .slice A0_1 l0_1.length c0_1, .slice A0_2 l0_2.length c0_2] 43 (0, 0)) (ybz BK919.out) hb); have n1_ := yam (below_step (by repeat (first | (with_reducible first | exact HB.out | apply yea | apply yen | apply yed | refine below_set ?_ GE919.out) | exact HB.out)) hb); clear BK919; clear HB; have BK919 := n0_; have HB := n1_; clear n0_ n1_; (try clear hb); (try clear hb2); (try clear hk); (try clear hi); have hcz9_0 : w8.cell? ⟨gb919, 0, none⟩ = some (.int .i64 a0_0) := (blk_cell BK919.out 0).trans rfl; have hcz9_1 : w8.cell? ⟨gb919, 1, none⟩ = some (.slice A0_1 l0_1.length c0_1) := (blk_cell BK919.out 1).trans rfl; have hcz9_2 : w8.cell? ⟨gb919, 2, none⟩ = some (.slice A0_2 l0_2.length c0_2) := (blk_cell BK919.out 2).trans rfl; have hfz9_0 := blk_frozen BK919.out 0; have hfz9_1 := blk_frozen BK919.out 1; have hfz9_2 := blk_frozen BK919.out 2) | (go_at_call 87; (with_reducible refine (spec_GridFilled.calls k _ _ l1 a0_0 t921 _ ?side1 ?side2 A5.out).mono ?_); (case side1 => exact Kd.Cz ((Kd.C_below HR1.out HB.out))); (case side2 => exact HC1.out); rintro e w' ⟨rfl, ⟨nd, rfl⟩⟩))
  go_ret
  exact ⟨by first | rfl | (simp [errW_none, errW_some] <;> rfl) | (simp [*, errW_none, errW_some] <;> rfl), by repeat (first | (with_reducible first | exact HB.out | apply yea | apply yen | apply yed | refine below_set ?_ GE919.out) | exact HB.out)⟩
end Go.Proofs.Ythfbjkniinfgcaa.P
namespace Go.Proofs.Ythfbjkniinfgcaa.P
open Go.RowKit Go.Proofs.YthfbjkniinfgcaaW.PrintWords Go.Proofs.YthfbjkniinfgcaaW.PrintLast Go.Proofs.YthfbjkniinfgcaaW.PrintMore
attribute [local go_sem] max2_int min2_int max_two min_two max_three min_three max_four min_four   -- for this text's walks alone
set_option linter.unusedVariables false
set_option linter.unusedSimpArgs false

/-! ### impl_sizeOk: function 64 -/
def impl_sizeOk.f (a0 : Int) : Option (Bool) := if a0 ≥ 2 then (some (decide (a0 ≤ 4))) else (some false)
set_option maxHeartbeats 8000000 in
set_option maxRecDepth 100000 in
theorem impl_sizeOk.calls (a0 : Int) (r : Bool) (w : World) (h : impl_sizeOk.f a0 = some r) :
    Calls Try.prog 64 #[.int .i64 a0] w fun e w' => e = .returned (.bool r) ∧ Drawn0 w w' := by
  have H : (if a0 ≥ 2 then (some (decide (a0 ≤ 4))) else (some false)) = some r := h
  clear h
  by_cases c2 : a0 ≥ 2
  · rw [if_pos c2] at H
    have c2b0 : decide (2 ≤ a0) = true := decide_eq_true c2
    clear c2
    obtain rfl := Option.some.inj H
    go_enter Try.func64, Try.ntmps64
    go_wp2
    go_ret
    exact ⟨by first | rfl | (simp; done) | (simp [*]; done), by repeat (first | exact Drawn0.refl _ | apply Drawn0.step)⟩
  rw [if_neg c2] at H
  have c2b0 : decide (2 ≤ a0) = false := decide_eq_false c2
  clear c2
  obtain rfl := Option.some.inj H
  go_enter Try.func64, Try.ntmps64
  go_wp2
  go_ret
  exact ⟨by first | rfl | (simp; done) | (simp [*]; done), by repeat (first | exact Drawn0.refl _ | apply Drawn0.step)⟩

end Go.Proofs.Ythfbjkniinfgcaa.P
namespace Go.Proofs.Ythfbjkniinfgcaa.P
open Go.RowKit Go.Proofs.YthfbjkniinfgcaaW.PrintWords Go.Proofs.YthfbjkniinfgcaaW.PrintLast Go.Proofs.YthfbjkniinfgcaaW.PrintMore
attribute [local go_sem] max2_int min2_int max_two min_two max_three min_three max_four min_four   -- for this text's walks alone
set_option linter.unusedVariables false
set_option linter.unusedSimpArgs false

/-! ### impl_GridValid: function 60 -/
mutual
def impl_GridValid.j0 : Nat → List Int → Int → Bool → Option (Bool)
  | 0, _, _, _ => none
  | k + 1, x0, x1, x17 => if x17 = true then (some false) else (impl_GridValid.l0 k x1 x0 (x0.length : Int) 0)
def impl_GridValid.l0 : Nat → Int → List Int → Int → Int → Option (Bool)
  | 0, _, _, _, _ => none
  | k + 1, x1, x18, x19, x20 => if x20 < x19 then (if 0 ≤ x20 then (if x20 < (x18.length : Int) then (if (rd x18 x20) < 0 then (some false) else (if (rd x18 x20) > x1 then (some false) else (impl_GridValid.l0 k x1 x18 x19 (wrap64 (x20 + 1))))) else (none)) else (none)) else (some true)
end
def impl_GridValid.f (k : Nat) (l0 : List Int) (a1 : Int) : Option (Bool) := (impl_sizeOk.f a1).bind fun t206 => (if t206 = true then (impl_GridValid.j0 k l0 a1 ((l0.length : Int) != (wrap64 (a1 * a1)))) else (impl_GridValid.j0 k l0 a1 true))
theorem impl_GridValid.mono_l : ∀ k, (∀ y0 y1 y2, LeO (impl_GridValid.j0 k y0 y1 y2) (impl_GridValid.j0 (k + 1) y0 y1 y2)) ∧ (∀ y0 y1 y2 y3, LeO (impl_GridValid.l0 k y0 y1 y2 y3) (impl_GridValid.l0 (k + 1) y0 y1 y2 y3))
  | 0 => ⟨fun _ _ _ r h => by simp [impl_GridValid.j0] at h, fun _ _ _ _ r h => by simp [impl_GridValid.l0] at h⟩
  | k + 1 => by
    obtain ⟨ih0, ih1⟩ := impl_GridValid.mono_l k
    refine ⟨?_, ?_⟩
    · intro y0 y1 y2
      unfold impl_GridValid.j0
      repeat' first
      | (with_reducible exact ih0 _ _ _)
      | (with_reducible exact ih1 _ _ _ _)
      | (with_reducible exact LeO.refl _)
      | (with_reducible exact LeO.none _)
      | (with_reducible refine LeO.ite ?_ ?_)
      | (with_reducible refine LeO.bind ?_ (fun _ => ?_))
      | exact ih0 _ _ _
      | exact ih1 _ _ _ _
      | exact LeO.none _
      | refine LeO.ite ?_ ?_
      | refine LeO.bind ?_ (fun _ => ?_)
    · intro y0 y1 y2 y3
      unfold impl_GridValid.l0
      repeat' first
      | (with_reducible exact ih0 _ _ _)
      | (with_reducible exact ih1 _ _ _ _)
      | (with_reducible exact LeO.refl _)
      | (with_reducible exact LeO.none _)
      | (with_reducible refine LeO.ite ?_ ?_)
      | (with_reducible refine LeO.bind ?_ (fun _ => ?_))
      | exact ih0 _ _ _
      | exact ih1 _ _ _ _
      | exact LeO.none _
      | refine LeO.ite ?_ ?_
      | refine LeO.bind ?_ (fun _ => ?_)
theorem impl_GridValid.mono : ∀ a0 a1 k, LeO (impl_GridValid.f k a0 a1) (impl_GridValid.f (k + 1) a0 a1) := by
  intro a0 a1 k
  obtain ⟨ih0, ih1⟩ := impl_GridValid.mono_l k
  unfold impl_GridValid.f
  repeat' first
      | (with_reducible exact ih0 _ _ _)
      | (with_reducible exact ih1 _ _ _ _)
      | (with_reducible exact LeO.refl _)
      | (with_reducible exact LeO.none _)
      | (with_reducible refine LeO.ite ?_ ?_)
      | (with_reducible refine LeO.bind ?_ (fun _ => ?_))
      | exact ih0 _ _ _
      | exact ih1 _ _ _ _
      | exact LeO.none _
      | refine LeO.ite ?_ ?_
      | refine LeO.bind ?_ (fun _ => ?_)
set_option maxHeartbeats 8000000 in
set_option maxRecDepth 100000 in
theorem impl_GridValid.calls (k : Nat) (A0 : Option Addr) (c0 : Nat) (l0 : List Int) (a1 : Int) (r : Bool) (w : World) (hr0 : Kd.C (Kd.int .i64) w A0 l0.length l0) (hc0 : l0.length ≤ c0) (h : impl_GridValid.f k l0 a1 = some r) :
    Calls Try.prog 60 #[.slice A0 l0.length c0, .int .i64 a1] w fun e w' => e = .returned (.bool r) ∧ Drawn0 w w' := by
  have HR0 := yam hr0
  have HC0 := yam hc0
  clear hr0 hc0
  have H : ((impl_sizeOk.f a1).bind fun t206 => (if t206 = true then (impl_GridValid.j0 k l0 a1 ((l0.length : Int) != (wrap64 (a1 * a1)))) else (impl_GridValid.j0 k l0 a1 true))) = some r := h
  clear h
  have HC3 := yam H
  clear H
  go_enter Try.func60, Try.ntmps60
  go_upto_region 1 with (fail)
  go_cut [17] (fun v17 wc => ∃ (kq : Nat) (x17_2 : Bool), v17 = .bool x17_2 ∧ Aside0 (impl_GridValid.j0 kq l0 a1 x17_2 = some r) ∧ Aside0 (kq ≤ k) ∧ Drawn0 w wc)
  case first =>
    have H := HC3.out
    clear HC3
    replace H := Option.bind_eq_some_iff.mp H
    obtain ⟨t206, A40, H⟩ := H
    try dsimp only at H
    have A4 := yam A40
    clear A40
    by_cases c5 : t206 = true
    · subst c5
      have H1 : (impl_GridValid.j0 k l0 a1 ((l0.length : Int) != (wrap64 (a1 * a1)))) = some r := by rw [if_pos rfl] at H; exact H
      clear H
      have H := H1
      clear H1
      have H' := yam H
      clear H
      go_wp2_with (first | ((with_reducible refine gate_callee (f := 64) rfl ?_); refine goesL_ (some 8) rfl rfl Try.func64 (by kernel_rfl) rfl #[.int .i64 a1] rfl (by (try simp only [List.map_toArray, List.map_cons, List.map_nil]); first | done | rfl | (simp only [List.length_drop, List.length_take]; rfl)) ?_; (with_reducible refine (impl_sizeOk.calls a1 true _ A4.out).mono ?_); rintro e w' ⟨rfl, ⟨nd, rfl⟩⟩; refine ⟨_, rfl, ?_⟩))
      go_meet
      case rel => exact ⟨_, (((l0.length : Int) != (wrap64 (a1 * a1)))), (by first | rfl | (simp; done) | (simp [*]; done)), H', ⟨by first | omega | exact Nat.le_refl _⟩, by repeat (first | exact Drawn0.refl _ | apply Drawn0.step)⟩
    replace c5 := Bool.eq_false_iff.mpr c5
    subst c5
    have H1 : (impl_GridValid.j0 k l0 a1 true) = some r := by rw [if_neg (show ¬ (false = true) by decide)] at H; exact H
    clear H
    have H := H1
    clear H1
    have H' := yam H
    clear H
    go_wp2_with (first | ((with_reducible refine gate_callee (f := 64) rfl ?_); refine goesL_ (some 8) rfl rfl Try.func64 (by kernel_rfl) rfl #[.int .i64 a1] rfl (by (try simp only [List.map_toArray, List.map_cons, List.map_nil]); first | done | rfl | (simp only [List.length_drop, List.length_take]; rfl)) ?_; (with_reducible refine (impl_sizeOk.calls a1 false _ A4.out).mono ?_); rintro e w' ⟨rfl, ⟨nd, rfl⟩⟩; refine ⟨_, rfl, ?_⟩))
    go_meet
    case rel => exact ⟨_, (true), (by first | rfl | (simp; done) | (simp [*]; done)), H', ⟨by first | omega | exact Nat.le_refl _⟩, by repeat (first | exact Drawn0.refl _ | apply Drawn0.step)⟩
  case rest =>
    clear HC3
    try clear p2
    try clear c5
    obtain ⟨kq, x17_2, rfl, HA, HJ2, ⟨mc2, rfl⟩⟩ := hcut
    cases kq with
    | zero => exact absurd HA.out (by simp [impl_GridValid.j0])
    | succ kj2 =>
      have H := HA.out
      clear HA
      simp only [impl_GridValid.j0] at H
      by_cases c6 : x17_2 = true
      · subst c6
        have H1 : (some false) = some r := by rw [if_pos rfl] at H; exact H
        clear H
        have H := H1
        clear H1
        obtain rfl := Option.some.inj H
        go_wp2
        go_ret
        exact ⟨by first | rfl | (simp; done) | (simp [*]; done), by repeat (first | exact Drawn0.refl _ | apply Drawn0.step)⟩
      replace c6 := Bool.eq_false_iff.mpr c6
      subst c6
      have H1 : (impl_GridValid.l0 kj2 a1 l0 (l0.length : Int) 0) = some r := by rw [if_neg (show ¬ (false = true) by decide)] at H; exact H
      clear H
      have H := H1
      clear H1
      have H' := yam H
      clear H
      go_wp2
      go_loopg [20] kj2 (fun kq v20 w' => ∃ (x20_2 : Int), v20 = .int .i64 x20_2 ∧ Aside0 (impl_GridValid.l0 kq a1 l0 (l0.length : Int) x20_2 = some r) ∧ Aside0 (kq ≤ kj2) ∧ Drawn0 w w')
      case atStart => exact ⟨(0), (by first | rfl | (simp; done) | (simp [*]; done)), H', ⟨Nat.le_refl _⟩, by repeat (first | exact Drawn0.refl _ | apply Drawn0.step)⟩
      case round =>
        clear H'
        try clear c2
        try clear p2
        try clear c5
        try clear c6
        try clear p6
        try clear p2
        obtain ⟨x20_2, rfl, HA, HK2, ⟨m2, rfl⟩⟩ := hrel
        cases gk with
        | zero => exact absurd HA.out (by simp [impl_GridValid.l0])
        | succ k2 =>
          have H := HA.out
          clear HA
          simp only [impl_GridValid.l0] at H
          by_cases c7 : x20_2 < (l0.length : Int)
          rotate_left
          · rw [if_neg c7] at H
            have c7b0 : decide (x20_2 < (l0.length : Int)) = false := decide_eq_false c7
            clear c7
            obtain rfl := Option.some.inj H
            go_wp2
            go_ret
            exact ⟨by first | rfl | (simp; done) | (simp [*]; done), by repeat (first | exact Drawn0.refl _ | apply Drawn0.step)⟩

          rw [if_pos c7] at H
          have c7b0 : decide (x20_2 < (l0.length : Int)) = true := decide_eq_true c7
          clear c7
          by_cases c8 : 0 ≤ x20_2
          rotate_left
          · rw [if_neg c8] at H
            exact absurd H (by simp)
          rw [if_pos c8] at H
          have c8b0 : decide (0 ≤ x20_2) = true := decide_eq_true c8
          clear c8
          by_cases c9 : x20_2 < (l0.length : Int)
          rotate_left
          · rw [if_neg c9] at H
            exact absurd H (by simp)
          rw [if_pos c9] at H
          have c9b0 : decide (x20_2 < (l0.length : Int)) = true := decide_eq_true c9
          clear c9
          by_cases c10 : (rd l0 x20_2) < 0
          · rw [if_pos c10] at H
            have c10b0 : decide ((rd l0 x20_2) < 0) = true := decide_eq_true c10
            clear c10
            obtain rfl := Option.some.inj H
            have p207 : 0 ≤ (x20_2 : Int) := of_decide_eq_true (by first | (with_reducible assumption) | assumption)
            have q207 : x20_2 < (l0.length : Int) := of_decide_eq_true (by first | (with_reducible assumption) | assumption)
            obtain ⟨ad207, e207, hx207_0⟩ := Kd.at_int HR0.out x20_2 p207 q207
            cases e207
            replace p207 := eq_true p207
            replace q207 := eq_true q207
            go_wp2
            go_ret
            exact ⟨by first | rfl | (simp; done) | (simp [*]; done), by repeat (first | exact Drawn0.refl _ | apply Drawn0.step)⟩
          rw [if_neg c10] at H
          have c10b0 : decide ((rd l0 x20_2) < 0) = false := decide_eq_false c10
          clear c10
          by_cases c11 : (rd l0 x20_2) > a1
          · rw [if_pos c11] at H
            have c11b0 : decide (a1 < (rd l0 x20_2)) = true := decide_eq_true c11
            clear c11
            obtain rfl := Option.some.inj H
            have p207 : 0 ≤ (x20_2 : Int) := of_decide_eq_true (by first | (with_reducible assumption) | assumption)
            have q207 : x20_2 < (l0.length : Int) := of_decide_eq_true (by first | (with_reducible assumption) | assumption)
            obtain ⟨ad207, e207, hx207_0⟩ := Kd.at_int HR0.out x20_2 p207 q207
            cases e207
            replace p207 := eq_true p207
            replace q207 := eq_true q207
            go_wp2
            go_ret
            exact ⟨by first | rfl | (simp; done) | (simp [*]; done), by repeat (first | exact Drawn0.refl _ | apply Drawn0.step)⟩
          rw [if_neg c11] at H
          have c11b0 : decide (a1 < (rd l0 x20_2)) = false := decide_eq_false c11
          clear c11
          have H' := yam H
          clear H
          have p207 : 0 ≤ (x20_2 : Int) := of_decide_eq_true (by first | (with_reducible assumption) | assumption)
          have q207 : x20_2 < (l0.length : Int) := of_decide_eq_true (by first | (with_reducible assumption) | assumption)
          obtain ⟨ad207, e207, hx207_0⟩ := Kd.at_int HR0.out x20_2 p207 q207
          cases e207
          replace p207 := eq_true p207
          replace q207 := eq_true q207
          go_wp2
          go_roundg k2
          case measure => have := HJ2.out; have := HK2.out; omega
          case rel => exact ⟨(wrap64 (x20_2 + 1)), (by first | rfl | (simp; done) | (simp [*]; done)), H', ⟨by have := HJ2.out; have := HK2.out; omega⟩, by repeat (first | exact Drawn0.refl _ | apply Drawn0.step)⟩
end Go.Proofs.Ythfbjkniinfgcaa.P
namespace Go.Proofs.Ythfbjkniinfgcaa.P
open Go.RowKit Go.Proofs.YthfbjkniinfgcaaW.PrintWords Go.Proofs.YthfbjkniinfgcaaW.PrintLast Go.Proofs.YthfbjkniinfgcaaW.PrintMore
attribute [local go_sem] max2_int min2_int max_two min_two max_three min_three max_four min_four   -- for this text's walks alone
set_option linter.unusedVariables false
set_option linter.unusedSimpArgs false

/-! ### impl_GridFilled: function 50 -/
def impl_GridFilled.l0 : Nat → Int → List Int → Int → Int → Option (Int)
  | 0, _, _, _, _ => none
  | k + 1, x5, x12, x13, x14 => if x14 < x13 then (if 0 ≤ x14 then (if x14 < (x12.length : Int) then (if (rd x12 x14) > 0 then (impl_GridFilled.l0 k (wrap64 (x5 + 1)) x12 x13 (wrap64 (x14 + 1))) else (impl_GridFilled.l0 k x5 x12 x13 (wrap64 (x14 + 1)))) else (none)) else (none)) else (some x5)
def impl_GridFilled.f (k : Nat) (l0 : List Int) (a1 : Int) : Option (Int) := (impl_GridValid.f k l0 a1).bind fun t236 => (if t236 = true then (impl_GridFilled.l0 k 0 l0 (l0.length : Int) 0) else (some (-1)))
theorem impl_GridFilled.mono_l : ∀ k, (∀ y0 y1 y2 y3, LeO (impl_GridFilled.l0 k y0 y1 y2 y3) (impl_GridFilled.l0 (k + 1) y0 y1 y2 y3))
  | 0 => fun _ _ _ _ r h => by simp [impl_GridFilled.l0] at h
  | k + 1 => by
    have ih0 := impl_GridFilled.mono_l k
    · intro y0 y1 y2 y3
      unfold impl_GridFilled.l0
      repeat' first
      | (with_reducible exact ih0 _ _ _ _)
      | (with_reducible exact impl_GridValid.mono _ _ _)
      | (with_reducible exact LeO.refl _)
      | (with_reducible exact LeO.none _)
      | (with_reducible refine LeO.ite ?_ ?_)
      | (with_reducible refine LeO.bind ?_ (fun _ => ?_))
      | exact ih0 _ _ _ _
      | exact impl_GridValid.mono _ _ _
      | exact LeO.none _
      | refine LeO.ite ?_ ?_
      | refine LeO.bind ?_ (fun _ => ?_)
theorem impl_GridFilled.mono : ∀ a0 a1 k, LeO (impl_GridFilled.f k a0 a1) (impl_GridFilled.f (k + 1) a0 a1) := by
  intro a0 a1 k
  have ih0 := impl_GridFilled.mono_l k
  unfold impl_GridFilled.f
  repeat' first
      | (with_reducible exact ih0 _ _ _ _)
      | (with_reducible exact impl_GridValid.mono _ _ _)
      | (with_reducible exact LeO.refl _)
      | (with_reducible exact LeO.none _)
      | (with_reducible refine LeO.ite ?_ ?_)
      | (with_reducible refine LeO.bind ?_ (fun _ => ?_))
      | exact ih0 _ _ _ _
      | exact impl_GridValid.mono _ _ _
      | exact LeO.none _
      | refine LeO.ite ?_ ?_
      | refine LeO.bind ?_ (fun _ => ?_)
set_option maxHeartbeats 8000000 in
set_option maxRecDepth 100000 in
theorem impl_GridFilled.calls (k : Nat) (A0 : Option Addr) (c0 : Nat) (l0 : List Int) (a1 : Int) (r : Int) (w : World) (hr0 : Kd.C (Kd.int .i64) w A0 l0.length l0) (hc0 : l0.length ≤ c0) (h : impl_GridFilled.f k l0 a1 = some r) :
    Calls Try.prog 50 #[.slice A0 l0.length c0, .int .i64 a1] w fun e w' => e = .returned (.int .i64 r) ∧ Drawn0 w w' := by
  have HR0 := yam hr0
  have HC0 := yam hc0
  clear hr0 hc0
  have H : ((impl_GridValid.f k l0 a1).bind fun t236 => (if t236 = true then (impl_GridFilled.l0 k 0 l0 (l0.length : Int) 0) else (some (-1)))) = some r := h
  clear h
  replace H := Option.bind_eq_some_iff.mp H
  obtain ⟨t236, A30, H⟩ := H
  try dsimp only at H
  have A3 := yam A30
  clear A30
  by_cases c4 : t236 = true
  rotate_left
  · replace c4 := Bool.eq_false_iff.mpr c4
    subst c4
    have H1 : (some (-1)) = some r := by rw [if_neg (show ¬ (false = true) by decide)] at H; exact H
    clear H
    have H := H1
    clear H1
    obtain rfl := Option.some.inj H
    go_enter Try.func50, Try.ntmps50
    go_wp2_with (first | ((with_reducible refine gate_callee (f := 60) rfl ?_); refine goesL_ (some 10) rfl rfl Try.func60 (by kernel_rfl) rfl #[.slice A0 l0.length c0, .int .i64 a1] rfl (by (try simp only [List.map_toArray, List.map_cons, List.map_nil]); first | done | rfl | (simp only [List.length_drop, List.length_take]; rfl)) ?_; (with_reducible refine (impl_GridValid.calls k _ _ l0 a1 false _ ?side1 ?side2 A3.out).mono ?_); (case side1 => exact Kd.Cz (HR0.out)); (case side2 => exact HC0.out); rintro e w' ⟨rfl, ⟨nd, rfl⟩⟩; refine ⟨_, rfl, ?_⟩))
    go_ret
    exact ⟨by first | rfl | (simp; done) | (simp [*]; done), by repeat (first | exact Drawn0.refl _ | apply Drawn0.step)⟩

  subst c4
  have H1 : (impl_GridFilled.l0 k 0 l0 (l0.length : Int) 0) = some r := by rw [if_pos rfl] at H; exact H
  clear H
  have H := H1
  clear H1
  have H' := yam H
  clear H
  go_enter Try.func50, Try.ntmps50
  go_wp2_with (first | ((with_reducible refine gate_callee (f := 60) rfl ?_); refine goesL_ (some 10) rfl rfl Try.func60 (by kernel_rfl) rfl #[.slice A0 l0.length c0, .int .i64 a1] rfl (by (try simp only [List.map_toArray, List.map_cons, List.map_nil]); first | done | rfl | (simp only [List.length_drop, List.length_take]; rfl)) ?_; (with_reducible refine (impl_GridValid.calls k _ _ l0 a1 true _ ?side1 ?side2 A3.out).mono ?_); (case side1 => exact Kd.Cz (HR0.out)); (case side2 => exact HC0.out); rintro e w' ⟨rfl, ⟨nd, rfl⟩⟩; refine ⟨_, rfl, ?_⟩))
  go_loopg [5, 14] k (fun kq v5 v14 w' => ∃ (x5_1 : Int) (x14_1 : Int), v5 = .int .i64 x5_1 ∧ v14 = .int .i64 x14_1 ∧ Aside0 (impl_GridFilled.l0 kq x5_1 l0 (l0.length : Int) x14_1 = some r) ∧ Aside0 (kq ≤ k) ∧ Drawn0 w w')
  case atStart => exact ⟨(0), (0), (by first | rfl | (simp; done) | (simp [*]; done)), (by first | rfl | (simp; done) | (simp [*]; done)), H', ⟨Nat.le_refl _⟩, by repeat (first | exact Drawn0.refl _ | apply Drawn0.step)⟩
  case round =>
    clear H'
    try clear p2
    try clear c4
    obtain ⟨x5_1, x14_1, rfl, rfl, HA, HK1, ⟨m1, rfl⟩⟩ := hrel
    cases gk with
    | zero => exact absurd HA.out (by simp [impl_GridFilled.l0])
    | succ k1 =>
      have H := HA.out
      clear HA
      simp only [impl_GridFilled.l0] at H
      by_cases c5 : x14_1 < (l0.length : Int)
      rotate_left
      · rw [if_neg c5] at H
        have c5b0 : decide (x14_1 < (l0.length : Int)) = false := decide_eq_false c5
        clear c5
        obtain rfl := Option.some.inj H
        go_wp2
        go_ret
        exact ⟨by first | rfl | (simp; done) | (simp [*]; done), by repeat (first | exact Drawn0.refl _ | apply Drawn0.step)⟩
      rw [if_pos c5] at H
      have c5b0 : decide (x14_1 < (l0.length : Int)) = true := decide_eq_true c5
      clear c5
      by_cases c6 : 0 ≤ x14_1
      rotate_left
      · rw [if_neg c6] at H
        exact absurd H (by simp)
      rw [if_pos c6] at H
      have c6b0 : decide (0 ≤ x14_1) = true := decide_eq_true c6
      clear c6
      by_cases c7 : x14_1 < (l0.length : Int)
      rotate_left
      · rw [if_neg c7] at H
        exact absurd H (by simp)
      rw [if_pos c7] at H
      have c7b0 : decide (x14_1 < (l0.length : Int)) = true := decide_eq_true c7
      clear c7
      by_cases c8 : (rd l0 x14_1) > 0
      rotate_left
      · rw [if_neg c8] at H
        have c8b0 : decide (0 < (rd l0 x14_1)) = false := decide_eq_false c8
        clear c8
        have H' := yam H
        clear H
        have p237 : 0 ≤ (x14_1 : Int) := of_decide_eq_true (by first | (with_reducible assumption) | assumption)
        have q237 : x14_1 < (l0.length : Int) := of_decide_eq_true (by first | (with_reducible assumption) | assumption)
        obtain ⟨ad237, e237, hx237_0⟩ := Kd.at_int HR0.out x14_1 p237 q237
        cases e237
        replace p237 := eq_true p237
        replace q237 := eq_true q237
        go_wp2
        go_roundg k1
        case measure => have := HK1.out; omega
        case rel => exact ⟨(x5_1), (wrap64 (x14_1 + 1)), (by first | rfl | (simp; done) | (simp [*]; done)), (by first | rfl | (simp; done) | (simp [*]; done)), H', ⟨by have := HK1.out; omega⟩, by repeat (first | exact Drawn0.refl _ | apply Drawn0.step)⟩
      rw [if_pos c8] at H
      have c8b0 : decide (0 < (rd l0 x14_1)) = true := decide_eq_true c8
      clear c8
      have H' := yam H
      clear H
      have p237 : 0 ≤ (x14_1 : Int) := of_decide_eq_true (by first | (with_reducible assumption) | assumption)
      have q237 : x14_1 < (l0.length : Int) := of_decide_eq_true (by first | (with_reducible assumption) | assumption)
      obtain ⟨ad237, e237, hx237_0⟩ := Kd.at_int HR0.out x14_1 p237 q237
      cases e237
      replace p237 := eq_true p237
      replace q237 := eq_true q237
      go_wp2
      go_roundg k1
      case measure => have := HK1.out; omega
      case rel => exact ⟨(wrap64 (x5_1 + 1)), (wrap64 (x14_1 + 1)), (by first | rfl | (simp; done) | (simp [*]; done)), (by first | rfl | (simp; done) | (simp [*]; done)), H', ⟨by have := HK1.out; omega⟩, by repeat (first | exact Drawn0.refl _ | apply Drawn0.step)⟩
end Go.Proofs.Ythfbjkniinfgcaa.P
namespace Go.Proofs.Ythfbjkniinfgcaa.P
open Go.RowKit Go.Proofs.YthfbjkniinfgcaaW.PrintWords Go.Proofs.YthfbjkniinfgcaaW.PrintLast Go.Proofs.YthfbjkniinfgcaaW.PrintMore
attribute [local go_sem] max2_int min2_int max_two min_two max_three min_three max_four min_four   -- for this text's walks alone
set_option linter.unusedVariables false
set_option linter.unusedSimpArgs false

/-! ### impl_LineCells: function 63 -/
mutual
def impl_LineCells.j0 : Nat → Int → Int → Bool → Option (List Int)
  | 0, _, _, _ => none
  | k + 1, x0, x1, x19 => if x19 = true then (some ([] : List Int)) else (if 0 ≤ x0 then (if (x0 : Int).toNat ≤ 35184372088832 then (impl_LineCells.l0 k x0 x1 (([] : List Int)) x0 0) else (none)) else (none))
def impl_LineCells.l0 : Nat → Int → Int → List Int → Int → Int → Option (List Int)
  | 0, _, _, _, _, _ => none
  | k + 1, x0, x1, x5, x22, x23 => if x23 < x22 then (if x1 < x0 then (if x5.length < 17592186044416 then (impl_LineCells.l0 k x0 x1 (x5 ++ [wrap64 ((wrap64 (x1 * x0)) + x23)]) x22 (wrap64 (x23 + 1))) else (none)) else (if x5.length < 17592186044416 then (impl_LineCells.l0 k x0 x1 (x5 ++ [wrap64 ((wrap64 ((wrap64 (x23 * x0)) + x1)) - x0)]) x22 (wrap64 (x23 + 1))) else (none))) else (some x5)
end
def impl_LineCells.f (k : Nat) (a0 : Int) (a1 : Int) : Option (List Int) := (impl_sizeOk.f a0).bind fun t242 => (if t242 = true then (if a1 < 0 then (impl_LineCells.j0 k a0 a1 true) else (impl_LineCells.j0 k a0 a1 (decide (a1 ≥ (wrap64 (2 * a0)))))) else (impl_LineCells.j0 k a0 a1 true))
theorem impl_LineCells.mono_l : ∀ k, (∀ y0 y1 y2, LeO (impl_LineCells.j0 k y0 y1 y2) (impl_LineCells.j0 (k + 1) y0 y1 y2)) ∧ (∀ y0 y1 y2 y3 y4, LeO (impl_LineCells.l0 k y0 y1 y2 y3 y4) (impl_LineCells.l0 (k + 1) y0 y1 y2 y3 y4))
  | 0 => ⟨fun _ _ _ r h => by simp [impl_LineCells.j0] at h, fun _ _ _ _ _ r h => by simp [impl_LineCells.l0] at h⟩
  | k + 1 => by
    obtain ⟨ih0, ih1⟩ := impl_LineCells.mono_l k
    refine ⟨?_, ?_⟩
    · intro y0 y1 y2
      unfold impl_LineCells.j0
      repeat' first
      | (with_reducible exact ih0 _ _ _)
      | (with_reducible exact ih1 _ _ _ _ _)
      | (with_reducible exact LeO.refl _)
      | (with_reducible exact LeO.none _)
      | (with_reducible refine LeO.ite ?_ ?_)
      | (with_reducible refine LeO.bind ?_ (fun _ => ?_))
      | exact ih0 _ _ _
      | exact ih1 _ _ _ _ _
      | exact LeO.none _
      | refine LeO.ite ?_ ?_
      | refine LeO.bind ?_ (fun _ => ?_)
    · intro y0 y1 y2 y3 y4
      unfold impl_LineCells.l0
      repeat' first
      | (with_reducible exact ih0 _ _ _)
      | (with_reducible exact ih1 _ _ _ _ _)
      | (with_reducible exact LeO.refl _)
      | (with_reducible exact LeO.none _)
      | (with_reducible refine LeO.ite ?_ ?_)
      | (with_reducible refine LeO.bind ?_ (fun _ => ?_))
      | exact ih0 _ _ _
      | exact ih1 _ _ _ _ _
      | exact LeO.none _
      | refine LeO.ite ?_ ?_
      | refine LeO.bind ?_ (fun _ => ?_)
theorem impl_LineCells.mono : ∀ a0 a1 k, LeO (impl_LineCells.f k a0 a1) (impl_LineCells.f (k + 1) a0 a1) := by
  intro a0 a1 k
  obtain ⟨ih0, ih1⟩ := impl_LineCells.mono_l k
  unfold impl_LineCells.f
  repeat' first
      | (with_reducible exact ih0 _ _ _)
      | (with_reducible exact ih1 _ _ _ _ _)
      | (with_reducible exact LeO.refl _)
      | (with_reducible exact LeO.none _)
      | (with_reducible refine LeO.ite ?_ ?_)
      | (with_reducible refine LeO.bind ?_ (fun _ => ?_))
      | exact ih0 _ _ _
      | exact ih1 _ _ _ _ _
      | exact LeO.none _
      | refine LeO.ite ?_ ?_
      | refine LeO.bind ?_ (fun _ => ?_)
set_option maxHeartbeats 8000000 in
set_option maxRecDepth 100000 in
theorem impl_LineCells.calls (k : Nat) (a0 : Int) (a1 : Int) (r : List Int) (w : World) (h : impl_LineCells.f k a0 a1 = some r) :
    Calls Try.prog 63 #[.int .i64 a0, .int .i64 a1] w fun e w' => ∃ v0_ : Value, e = .returned (v0_) ∧ Kd.R (Kd.int .i64) 3 w' w.heap.size (fun _ => True) v0_ r ∧ Below w.heap.size w w' := by
  have HB := yam (Below.refl w.heap.size w)
  have H : ((impl_sizeOk.f a0).bind fun t242 => (if t242 = true then (if a1 < 0 then (impl_LineCells.j0 k a0 a1 true) else (impl_LineCells.j0 k a0 a1 (decide (a1 ≥ (wrap64 (2 * a0)))))) else (impl_LineCells.j0 k a0 a1 true))) = some r := h
  clear h
  have HC3 := yam H
  clear H
  go_enter Try.func63, Try.ntmps63
  go_upto_region 1 with (fail)
  go_cut [19] (fun v19 wc => ∃ (kq : Nat) (x19_2 : Bool), v19 = .bool x19_2 ∧ Aside0 (impl_LineCells.j0 kq a0 a1 x19_2 = some r) ∧ Aside0 (kq ≤ k) ∧ Aside0 (Below w.heap.size w wc))
  case first =>
    have H := HC3.out
    clear HC3
    replace H := Option.bind_eq_some_iff.mp H
    obtain ⟨t242, A40, H⟩ := H
    try dsimp only at H
    have A4 := yam A40
    clear A40
    by_cases c5 : t242 = true
    rotate_left
    · replace c5 := Bool.eq_false_iff.mpr c5
      subst c5
      have H1 : (impl_LineCells.j0 k a0 a1 true) = some r := by rw [if_neg (show ¬ (false = true) by decide)] at H; exact H
      clear H
      have H := H1
      clear H1
      have H' := yam H
      clear H
      go_wp2_with (first | ((with_reducible refine gate_callee (f := 64) rfl ?_); refine goesL_ (some 8) rfl rfl Try.func64 (by kernel_rfl) rfl #[.int .i64 a0] rfl (by (try simp only [List.map_toArray, List.map_cons, List.map_nil]); first | done | rfl | (simp only [List.length_drop, List.length_take]; rfl)) ?_; (with_reducible refine (impl_sizeOk.calls a0 false _ A4.out).mono ?_); rintro e w' ⟨rfl, ⟨nd, rfl⟩⟩; refine ⟨_, rfl, ?_⟩))
      go_meet
      case rel => exact ⟨_, (true), (by first | rfl | (simp; done) | (simp [*]; done)), H', ⟨by first | omega | exact Nat.le_refl _⟩, ⟨by repeat (first | (with_reducible first | exact HB.out | apply yea | apply yen | apply yed) | exact HB.out)⟩⟩
    subst c5
    have H1 : (if a1 < 0 then (impl_LineCells.j0 k a0 a1 true) else (impl_LineCells.j0 k a0 a1 (decide (a1 ≥ (wrap64 (2 * a0)))))) = some r := by rw [if_pos rfl] at H; exact H
    clear H
    have H := H1
    clear H1
    by_cases c6 : a1 < 0
    · rw [if_pos c6] at H
      have c6b0 : decide (a1 < 0) = true := decide_eq_true c6
      clear c6
      (first | rw [c6b0] | (simp only [i64_w, i32_w]; rw [c6b0]) | skip)
      have H' := yam H
      clear H
      go_wp2_with (first | ((with_reducible refine gate_callee (f := 64) rfl ?_); refine goesL_ (some 8) rfl rfl Try.func64 (by kernel_rfl) rfl #[.int .i64 a0] rfl (by (try simp only [List.map_toArray, List.map_cons, List.map_nil]); first | done | rfl | (simp only [List.length_drop, List.length_take]; rfl)) ?_; (with_reducible refine (impl_sizeOk.calls a0 true _ A4.out).mono ?_); rintro e w' ⟨rfl, ⟨nd, rfl⟩⟩; refine ⟨_, rfl, ?_⟩))
      go_meet
      case rel => exact ⟨_, (true), (by first | rfl | (simp; done) | (simp [*]; done)), H', ⟨by first | omega | exact Nat.le_refl _⟩, ⟨by repeat (first | (with_reducible first | exact HB.out | apply yea | apply yen | apply yed) | exact HB.out)⟩⟩
    rw [if_neg c6] at H
    have c6b0 : decide (a1 < 0) = false := decide_eq_false c6
    clear c6
    (first | rw [c6b0] | (simp only [i64_w, i32_w]; rw [c6b0]) | skip)
    have H' := yam H
    clear H
    go_wp2_with (first | ((with_reducible refine gate_callee (f := 64) rfl ?_); refine goesL_ (some 8) rfl rfl Try.func64 (by kernel_rfl) rfl #[.int .i64 a0] rfl (by (try simp only [List.map_toArray, List.map_cons, List.map_nil]); first | done | rfl | (simp only [List.length_drop, List.length_take]; rfl)) ?_; (with_reducible refine (impl_sizeOk.calls a0 true _ A4.out).mono ?_); rintro e w' ⟨rfl, ⟨nd, rfl⟩⟩; refine ⟨_, rfl, ?_⟩))
    go_meet
    case rel => exact ⟨_, (decide (a1 ≥ (wrap64 (2 * a0)))), (by first | rfl | (simp; done) | (simp [*]; done)), H', ⟨by first | omega | exact Nat.le_refl _⟩, ⟨by repeat (first | (with_reducible first | exact HB.out | apply yea | apply yen | apply yed) | exact HB.out)⟩⟩
  case rest =>
    clear HC3
    try clear p2
    try clear c5
    try clear c6
    try clear c6b0
    try clear p6
    obtain ⟨kq, x19_2, rfl, HA, HJ2, HB⟩ := hcut
    cases kq with
    | zero => exact absurd HA.out (by simp [impl_LineCells.j0])
    | succ kj2 =>
      have H := HA.out
      clear HA
      simp only [impl_LineCells.j0] at H
      by_cases c7 : x19_2 = true
      · subst c7
        have H1 : (some ([] : List Int)) = some r := by rw [if_pos rfl] at H; exact H
        clear H
        have H := H1
        clear H1
        obtain rfl := Option.some.inj H
        go_wp2
        go_ret
        exact ⟨_, by first | rfl | (simp [errW_none, errW_some] <;> rfl) | (simp [*, errW_none, errW_some] <;> rfl), by first | exact Kd.R_nil _ _ _ _ _ | exact Kd.N_nil _ _ _ _ _ | exact Kd.V_nil _ _ _ _ _ | exact Kd.Q_nil _ _ _ _ _ | exact Kd.S_nil _ _ _ _ _, by repeat (first | (with_reducible first | exact HB.out | apply yea | apply yen | apply yed) | exact HB.out)⟩
      replace c7 := Bool.eq_false_iff.mpr c7
      subst c7
      have H1 : (if 0 ≤ a0 then (if (a0 : Int).toNat ≤ 35184372088832 then (impl_LineCells.l0 kj2 a0 a1 (([] : List Int)) a0 0) else (none)) else (none)) = some r := by rw [if_neg (show ¬ (false = true) by decide)] at H; exact H
      clear H
      have H := H1
      clear H1
      by_cases c8 : 0 ≤ a0
      rotate_left
      · rw [if_neg c8] at H
        exact absurd H (by simp)

      rw [if_pos c8] at H
      have c8b0 := eq_true c8
      have c8b1 : decide (0 ≤ a0) = true := decide_eq_true c8
      clear c8
      by_cases c9 : (a0 : Int).toNat ≤ 35184372088832
      rotate_left
      · rw [if_neg c9] at H
        exact absurd H (by simp)
      rw [if_pos c9] at H
      have c9b0 := eq_true c9
      have c9b1 : decide ((a0 : Int).toNat ≤ 35184372088832) = true := decide_eq_true c9
      clear c9
      obtain ⟨y243, hy243⟩ : ∃ y_ : List Int, y_ = (([] : List Int)) := ⟨_, rfl⟩
      replace H : (impl_LineCells.l0 kj2 a0 a1 y243 a0 0) = some r := by first | (rw [hy243]; with_reducible exact H) | (have H2_ := (Option.bind_some _ _).symm.trans H; rw [hy243]; with_reducible exact H2_) | (have H2_ := (Option.bind_some _ _).symm.trans H; with_reducible exact H2_) | with_reducible exact H | (rw [hy243]; exact H) | exact H
      have Ny243 := yam hy243
      clear hy243
      have H' := yam H
      clear H
      go_wp2_with (first | ((with_reducible refine gate_dst (N := 21) rfl ?_); refine Kd.R_make_cap (Kd.int .i64) _ 3 rfl (N := 21) rfl 23 _ _ rfl a0 rfl rfl Try.underlying23 (.int .i64 0) 8 info3 rfl (by decide) (by omega) (ok := fun _ => True) trivial (of_decide_eq_true (by first | (with_reducible assumption) | assumption)) (Nat.le_trans (Nat.mul_le_mul_right _ (of_decide_eq_true (by first | (with_reducible assumption) | assumption) : a0.toNat ≤ 35184372088832)) (by omega)) (Below.refl _ _) (Nat.le_refl _) ?_; intro v244 w10 ho11 hb hg_ hnew_; clear hg_ hnew_; (first | rw [← Ny243.out] at ho11 | (simp only [Int.reduceToNat] at ho11; rw [← Ny243.out] at ho11)); have n0_ := yam (Kd.R_lower ho11 (below_size (yez HB.out))); have n1_ := yam (below_step (yez HB.out) hb); clear HB; have HO245 := n0_; have HB := n1_; clear n0_ n1_; clear hb ho11))
      go_loopg [5, 23] kj2 (fun kq v5 v23 w' => ∃ (x5_2 : List Int) (x23_2 : Int), v23 = .int .i64 x23_2 ∧ Aside0 (impl_LineCells.l0 kq a0 a1 x5_2 a0 x23_2 = some r) ∧ Aside0 (kq ≤ kj2) ∧ Aside0 (Kd.R (Kd.int .i64) 3 w' w.heap.size (fun _ => True) v5 x5_2) ∧ Aside0 (Below w.heap.size w w'))
      case atStart => exact ⟨(y243), (0), (by first | rfl | (simp; done) | (simp [*]; done)), H', ⟨Nat.le_refl _⟩, ⟨by (with_reducible repeat (first | apply Kd.Ya | apply Kd.Yn | apply Kd.Yd)); exact HO245.out⟩, ⟨by repeat (first | (with_reducible first | exact HB.out | apply yea | apply yen | apply yed) | exact HB.out)⟩⟩
      case round =>
        clear H'
        try clear p2
        try clear c5
        try clear c6
        try clear c6b0
        try clear p6
        try clear c7
        try clear c8
        try clear c8b0
        try clear c8b1
        try clear c9
        try clear c9b0
        try clear c9b1
        try clear p2
        try clear p6
        obtain ⟨x5_2, x23_2, rfl, HA, HK2, HO_5, HB⟩ := hrel
        cases gk with
        | zero => exact absurd HA.out (by simp [impl_LineCells.l0])
        | succ k2 =>
          have H := HA.out
          clear HA
          simp only [impl_LineCells.l0] at H
          by_cases c12 : x23_2 < a0
          rotate_left
          · rw [if_neg c12] at H
            have c12b0 : decide (x23_2 < a0) = false := decide_eq_false c12
            clear c12
            obtain rfl := Option.some.inj H
            go_wp2
            go_ret
            exact ⟨_, by first | rfl | (simp [errW_none, errW_some] <;> rfl) | (simp [*, errW_none, errW_some] <;> rfl), by (with_reducible repeat (first | apply Kd.Ya | apply Kd.Yn | apply Kd.Yd)); exact HO_5.out, by repeat (first | (with_reducible first | exact HB.out | apply yea | apply yen | apply yed) | exact HB.out)⟩
          rw [if_pos c12] at H
          have c12b0 : decide (x23_2 < a0) = true := decide_eq_true c12
          clear c12
          by_cases c13 : a1 < a0
          · rw [if_pos c13] at H
            have c13b0 : decide (a1 < a0) = true := decide_eq_true c13
            clear c13
            by_cases c14 : x5_2.length < 17592186044416
            rotate_left
            · rw [if_neg c14] at H
              exact absurd H (by simp)
            rw [if_pos c14] at H
            have LMc14 := yam c14
            clear c14
            obtain ⟨y246, hy246⟩ : ∃ y_ : List Int, y_ = (x5_2 ++ [wrap64 ((wrap64 (a1 * a0)) + x23_2)]) := ⟨_, rfl⟩
            replace H : (impl_LineCells.l0 k2 a0 a1 y246 a0 (wrap64 (x23_2 + 1))) = some r := by first | (rw [hy246]; with_reducible exact H) | (have H2_ := (Option.bind_some _ _).symm.trans H; rw [hy246]; with_reducible exact H2_) | (have H2_ := (Option.bind_some _ _).symm.trans H; with_reducible exact H2_) | with_reducible exact H | (rw [hy246]; exact H) | exact H
            have Ny246 := yam hy246
            clear hy246
            have H' := yam H
            clear H
            go_wp2_with (first | ((with_reducible refine gate_builtin (b := .append) (xs := #[.tmp 29, .tmp 35]) rfl ?_); at_builtin; refine Kd.R_append (Kd.int .i64) (w0 := w) w.heap.size rfl (.tmp 29) (.tmp 35) 23 3 (.int .i64 0) 8 rfl Try.underlying23 info3 rfl (by decide) (by omega) u5 x5_2 (wrap64 ((wrap64 (a1 * a0)) + x23_2)) [.int .i64 (wrap64 ((wrap64 (a1 * a0)) + x23_2))] (fun _ => True) (fun _ => False) rfl rfl ?aP (fun _ hk => hk.elim) ?aF ?aO ?aB ?aS ?aL ?_; (case aP => exact rfl); (case aB => exact (yez HB.out)); (case aF => exact (fun _ _ => trivial)); (case aO => exact (Kd.Yz HO_5.out)); (case aS => exact (below_size (yez HB.out))); (case aL => have := LMc14.out; omega); intro v247 w15 ho hb hg hat; rw [← Ny246.out] at ho; have n0_ := yam (hb); have n1_ := yam (ho); clear HB; clear HO_5; have HB := n0_; have HO248 := n1_; clear n0_ n1_; clear ho hb hg hat))
            go_roundg k2
            case measure => have := HJ2.out; have := HK2.out; omega
            case rel => exact ⟨(y246), (wrap64 (x23_2 + 1)), (by first | rfl | (simp; done) | (simp [*]; done)), H', ⟨by have := HJ2.out; have := HK2.out; omega⟩, ⟨by (with_reducible repeat (first | apply Kd.Ya | apply Kd.Yn | apply Kd.Yd)); exact HO248.out⟩, ⟨by repeat (first | (with_reducible first | exact HB.out | apply yea | apply yen | apply yed) | exact HB.out)⟩⟩
          rw [if_neg c13] at H
          have c13b0 : decide (a1 < a0) = false := decide_eq_false c13
          clear c13
          by_cases c16 : x5_2.length < 17592186044416
          rotate_left
          · rw [if_neg c16] at H
            exact absurd H (by simp)
          rw [if_pos c16] at H
          have LMc16 := yam c16
          clear c16
          obtain ⟨y249, hy249⟩ : ∃ y_ : List Int, y_ = (x5_2 ++ [wrap64 ((wrap64 ((wrap64 (x23_2 * a0)) + a1)) - a0)]) := ⟨_, rfl⟩
          replace H : (impl_LineCells.l0 k2 a0 a1 y249 a0 (wrap64 (x23_2 + 1))) = some r := by first | (rw [hy249]; with_reducible exact H) | (have H2_ := (Option.bind_some _ _).symm.trans H; rw [hy249]; with_reducible exact H2_) | (have H2_ := (Option.bind_some _ _).symm.trans H; with_reducible exact H2_) | with_reducible exact H | (rw [hy249]; exact H) | exact H
          have Ny249 := yam hy249
          clear hy249
          have H' := yam H
          clear H
          go_wp2_with (first | ((with_reducible refine gate_builtin (b := .append) (xs := #[.tmp 37, .tmp 45]) rfl ?_); at_builtin; refine Kd.R_append (Kd.int .i64) (w0 := w) w.heap.size rfl (.tmp 37) (.tmp 45) 23 3 (.int .i64 0) 8 rfl Try.underlying23 info3 rfl (by decide) (by omega) u5 x5_2 (wrap64 ((wrap64 ((wrap64 (x23_2 * a0)) + a1)) - a0)) [.int .i64 (wrap64 ((wrap64 ((wrap64 (x23_2 * a0)) + a1)) - a0))] (fun _ => True) (fun _ => False) rfl rfl ?aP (fun _ hk => hk.elim) ?aF ?aO ?aB ?aS ?aL ?_; (case aP => exact rfl); (case aB => exact (yez HB.out)); (case aF => exact (fun _ _ => trivial)); (case aO => exact (Kd.Yz HO_5.out)); (case aS => exact (below_size (yez HB.out))); (case aL => have := LMc16.out; omega); intro v250 w17 ho hb hg hat; rw [← Ny249.out] at ho; have n0_ := yam (hb); have n1_ := yam (ho); clear HB; clear HO_5; have HB := n0_; have HO251 := n1_; clear n0_ n1_; clear ho hb hg hat))
          go_roundg k2
          case measure => have := HJ2.out; have := HK2.out; omega
          case rel => exact ⟨(y249), (wrap64 (x23_2 + 1)), (by first | rfl | (simp; done) | (simp [*]; done)), H', ⟨by have := HJ2.out; have := HK2.out; omega⟩, ⟨by (with_reducible repeat (first | apply Kd.Ya | apply Kd.Yn | apply Kd.Yd)); exact HO251.out⟩, ⟨by repeat (first | (with_reducible first | exact HB.out | apply yea | apply yen | apply yed) | exact HB.out)⟩⟩
/-- Where there is no such line, what comes back is nil. -/
theorem impl_LineCells.nil (a0 a1 : Int) (w : World) (hb : ¬ (2 ≤ a0 ∧ a0 ≤ 4 ∧ 0 ≤ a1 ∧ a1 < 2 * a0)) :
    Calls Try.prog 63 #[.int .i64 a0, .int .i64 a1] w fun e w' => e = .returned (.slice none 0 0) ∧ Drawn0 w w' := by
  by_cases hs : 2 ≤ a0 ∧ a0 ≤ 4
  · have hf : impl_sizeOk.f a0 = some true := by
      unfold impl_sizeOk.f; rw [if_pos (show a0 ≥ 2 from hs.1), decide_eq_true hs.2]
    have h2 := hs.1
    have h4 := hs.2
    by_cases h0 : a1 < 0
    · have h0b : decide (a1 < 0) = true := decide_eq_true h0
      clear hb hs
      go_enter Try.func63, Try.ntmps63
      go_wp2_with (first | (go_at_call 64; (with_reducible refine (impl_sizeOk.calls a0 true _ hf).mono ?_); rintro e w' ⟨rfl, ⟨nd, rfl⟩⟩))
      go_ret
      exact ⟨rfl, by repeat (first | exact Drawn0.refl _ | apply Drawn0.step)⟩
    · have h0b : decide (a1 < 0) = false := decide_eq_false h0
      have h1 : 2 * a0 ≤ a1 := by omega
      have h1b : decide (2 * a0 ≤ a1) = true := decide_eq_true h1
      clear hb hs
      go_enter Try.func63, Try.ntmps63
      go_wp2_with (first | (go_at_call 64; (with_reducible refine (impl_sizeOk.calls a0 true _ hf).mono ?_); rintro e w' ⟨rfl, ⟨nd, rfl⟩⟩))
      go_ret
      exact ⟨rfl, by repeat (first | exact Drawn0.refl _ | apply Drawn0.step)⟩
  · have hf : impl_sizeOk.f a0 = some false := by
      unfold impl_sizeOk.f
      by_cases h2 : a0 ≥ 2
      · rw [if_pos h2, decide_eq_false (by omega)]
      · rw [if_neg h2]
    clear hb hs
    go_enter Try.func63, Try.ntmps63
    go_wp2_with (first | (go_at_call 64; (with_reducible refine (impl_sizeOk.calls a0 false _ hf).mono ?_); rintro e w' ⟨rfl, ⟨nd, rfl⟩⟩))
    go_ret
    exact ⟨rfl, by repeat (first | exact Drawn0.refl _ | apply Drawn0.step)⟩

end Go.Proofs.Ythfbjkniinfgcaa.P
namespace Go.Proofs.Ythfbjkniinfgcaa.P
open Go.RowKit Go.Proofs.YthfbjkniinfgcaaW.PrintWords Go.Proofs.YthfbjkniinfgcaaW.PrintLast Go.Proofs.YthfbjkniinfgcaaW.PrintMore
attribute [local go_sem] max2_int min2_int max_two min_two max_three min_three max_four min_four   -- for this text's walks alone
set_option linter.unusedVariables false
set_option linter.unusedSimpArgs false

/-! ### impl_SquareFits: function 20 -/
mutual
def impl_SquareFits.l0 : Nat → List Int → Int → Int → Option (Bool)
  | 0, _, _, _ => none
  | k + 1, x0, x1, x15 => if x15 < (wrap64 (2 * x1)) then ((impl_LineCells.f k x1 x15).bind fun t => (impl_SquareFits.l1 k x0 x1 x15 t [false, false, false, false, false] 0)) else (some true)
def impl_SquareFits.l1 : Nat → List Int → Int → Int → List Int → List Bool → Int → Option (Bool)
  | 0, _, _, _, _, _, _ => none
  | k + 1, x0, x1, x15, x21, x6, x23 => if x23 < (x21.length : Int) then (if 0 ≤ x23 then (if 0 ≤ (rd x21 x23) then (if (rd x21 x23) < (x0.length : Int) then (if 0 ≤ (rd x0 (rd x21 x23)) then (if (rd x0 (rd x21 x23)) < (x6.length : Int) then (if (rd x0 (rd x21 x23)) > 0 then (if (rdOf false x6 (rd x0 (rd x21 x23))) = true then (some false) else (impl_SquareFits.l1 k x0 x1 x15 x21 (x6.set (rd x0 (rd x21 x23)).toNat true) (wrap64 (x23 + 1)))) else (impl_SquareFits.l1 k x0 x1 x15 x21 (x6.set (rd x0 (rd x21 x23)).toNat true) (wrap64 (x23 + 1)))) else (none)) else (none)) else (none)) else (none)) else (none)) else (impl_SquareFits.l0 k x0 x1 (wrap64 (x15 + 1)))
end
def impl_SquareFits.f (k : Nat) (l0 : List Int) (a1 : Int) : Option (Bool) := (impl_GridValid.f k l0 a1).bind fun t => (if t = true then (impl_SquareFits.l0 k l0 a1 0) else (some false))
theorem impl_SquareFits.mono_l : ∀ k, (∀ y0 y1 y2, LeO (impl_SquareFits.l0 k y0 y1 y2) (impl_SquareFits.l0 (k + 1) y0 y1 y2)) ∧ (∀ y0 y1 y2 y3 y4 y5, LeO (impl_SquareFits.l1 k y0 y1 y2 y3 y4 y5) (impl_SquareFits.l1 (k + 1) y0 y1 y2 y3 y4 y5))
  | 0 => ⟨fun _ _ _ r h => by simp [impl_SquareFits.l0] at h, fun _ _ _ _ _ _ r h => by simp [impl_SquareFits.l1] at h⟩
  | k + 1 => by
    obtain ⟨ih0, ih1⟩ := impl_SquareFits.mono_l k
    refine ⟨?_, ?_⟩
    · intro y0 y1 y2
      unfold impl_SquareFits.l0
      repeat' first
      | (with_reducible exact ih0 _ _ _)
      | (with_reducible exact ih1 _ _ _ _ _ _)
      | (with_reducible exact impl_LineCells.mono _ _ _)
      | (with_reducible exact LeO.refl _)
      | (with_reducible exact LeO.none _)
      | (with_reducible refine LeO.ite ?_ ?_)
      | (with_reducible refine LeO.bind ?_ (fun _ => ?_))
      | exact ih0 _ _ _
      | exact ih1 _ _ _ _ _ _
    · intro y0 y1 y2 y3 y4 y5
      unfold impl_SquareFits.l1
      repeat' first
      | (with_reducible exact ih0 _ _ _)
      | (with_reducible exact ih1 _ _ _ _ _ _)
      | (with_reducible exact LeO.refl _)
      | (with_reducible exact LeO.none _)
      | (with_reducible refine LeO.ite ?_ ?_)
      | exact ih0 _ _ _
      | exact ih1 _ _ _ _ _ _
theorem impl_SquareFits.mono : ∀ a0 a1 k, LeO (impl_SquareFits.f k a0 a1) (impl_SquareFits.f (k + 1) a0 a1) := by
  intro a0 a1 k
  unfold impl_SquareFits.f
  repeat' first
      | (with_reducible exact (impl_SquareFits.mono_l k).1 _ _ _)
      | (with_reducible exact impl_GridValid.mono _ _ _)
      | (with_reducible exact LeO.refl _)
      | (with_reducible refine LeO.ite ?_ ?_)
      | (with_reducible refine LeO.bind ?_ (fun _ => ?_))
set_option maxHeartbeats 8000000 in
set_option maxRecDepth 100000 in
theorem impl_SquareFits.calls (k : Nat) (A0 : Option Addr) (c0 : Nat) (l0 : List Int) (a1 : Int) (r : Bool) (w : World) (hr0 : Kd.C (Kd.int .i64) w A0 l0.length l0) (hc0 : l0.length ≤ c0) (h : impl_SquareFits.f k l0 a1 = some r) :
    Calls Try.prog 20 #[.slice A0 l0.length c0, .int .i64 a1] w fun e w' => e = .returned (.bool r) ∧ Below w.heap.size w w' := by
  have HR0 := Aside0.mk hr0
  have HC0 := Aside0.mk hc0
  clear hr0 hc0
  have HB := Aside0.mk (Below.refl w.heap.size w)
  have H : ((impl_GridValid.f k l0 a1).bind fun t => (if t = true then (impl_SquareFits.l0 k l0 a1 0) else (some false))) = some r := h
  clear h
  replace H := Option.bind_eq_some_iff.mp H
  obtain ⟨t1, A10, H⟩ := H
  replace H : (if t1 = true then (impl_SquareFits.l0 k l0 a1 0) else (some false)) = some r := H
  have A1 := Aside0.mk A10
  clear A10
  by_cases c1 : t1 = true
  · subst c1
    rw [if_pos rfl] at H
    have H' := Aside0.mk H
    clear H
    go_enter Try.func20, Try.ntmps20
    go_wp2_with (first | (go_at_call 60; (with_reducible refine (impl_GridValid.calls k _ _ l0 a1 true _ HR0.out HC0.out A1.out).mono ?_); rintro e w' ⟨rfl, ⟨nd, rfl⟩⟩))
    go_loopg [5, 15] k (fun kq v5 v15 w' => ∃ (x15 : Int), v15 = .int .i64 x15 ∧ Aside0 (impl_SquareFits.l0 kq l0 a1 x15 = some r) ∧ Aside0 (kq ≤ k) ∧ Aside0 (Below w.heap.size w w'))
    case atStart => exact ⟨0, rfl, H', ⟨Nat.le_refl _⟩, ⟨by repeat (first | (with_reducible first | exact HB.out | apply below_alloc | apply pw_below_drewN | apply below_drew1) | exact HB.out)⟩⟩
    case round =>
      clear H' HB
      obtain ⟨x15, rfl, HA, HK1, HB⟩ := hrel
      cases gk with
      | zero => exact absurd HA.out (by simp [impl_SquareFits.l0])
      | succ k1 =>
        have H := HA.out
        clear HA
        simp only [impl_SquareFits.l0] at H
        by_cases c3 : x15 < (wrap64 (2 * a1))
        · rw [if_pos c3] at H
          have c3b0 : decide (x15 < (wrap64 (2 * a1))) = true := decide_eq_true c3
          clear c3
          replace H := Option.bind_eq_some_iff.mp H
          obtain ⟨t4, A40, H⟩ := H
          replace H : (impl_SquareFits.l1 k1 l0 a1 x15 t4 [false, false, false, false, false] 0) = some r := H
          have A4 := Aside0.mk A40
          clear A40
          have H' := Aside0.mk H
          clear H
          have hsz := HB.out.size
          have HG := Aside0.mk hsz
          clear hsz
          obtain ⟨wo, rfl⟩ : ∃ wo : World, wo = wr := ⟨_, rfl⟩
          have HO6 := Aside0.mk (arr5_new wo w.heap.size HG.out 70)
          have HB2 := Aside0.mk (below_alloc HB.out (.cells #[.bool false, .bool false, .bool false, .bool false, .bool false] 70))
          go_wp2_with (first | ((with_reducible refine gate_callee (f := 63) rfl ?_); refine goesL_ (some 21) rfl rfl Try.func63 (by kernel_rfl) rfl #[.int .i64 a1, .int .i64 x15] rfl (by (try simp only [List.map_toArray, List.map_cons, List.map_nil]); first | done | rfl) ?_; (with_reducible refine (impl_LineCells.calls k1 a1 x15 t4 _ A4.out).mono ?_); rintro e w5 ⟨v116, rfl, ho0, hb⟩; refine ⟨_, rfl, ?_⟩; obtain ⟨Ao14, co14, eo14⟩ := Kd.R_slice ho0; subst eo14; have HO21 := Aside0.mk (show Kd.R (Kd.int .i64) 3 w5 w.heap.size (fun k_ => k_ ≠ wo.heap.size) (.slice Ao14 t4.length co14) t4 from Kd.R_lower (Kd.R_mono (Kd.R_bound ho0) (fun k_ hk_ => Nat.ne_of_gt (Nat.lt_of_lt_of_le (below_alloc_size wo _) hk_.2.1))) (below_size HB2.out)); have n2_ := Aside0.mk (Kd.R_below HO6.out hb); clear HO6; have HO6 := n2_; have n1_ := Aside0.mk (below_step HB2.out hb); clear HB HB2 n2_; have HB := n1_; clear n1_ hb ho0))
          go_loopg [8, 23] k1 (fun kq v8 v23 w' => ∃ (x6 : List Bool) (x23 : Int), v23 = .int .i64 x23 ∧ Aside0 (impl_SquareFits.l1 kq l0 a1 x15 t4 x6 x23 = some r) ∧ Aside0 (kq ≤ k1) ∧ Aside0 (Kd.R Kd.bool 70 w' w.heap.size (fun _ => True) (.slice (some ⟨wo.heap.size, 0, none⟩) x6.length 5) x6) ∧ Aside0 (x6.length = 5) ∧ Aside0 (Kd.R (Kd.int .i64) 3 w' w.heap.size (fun k_ => k_ ≠ wo.heap.size) (.slice Ao14 t4.length co14) t4) ∧ Aside0 (Below w.heap.size w w'))
          case atStart => exact ⟨_, 0, rfl, H', ⟨Nat.le_refl _⟩, HO6, ⟨rfl⟩, HO21, HB⟩
          case round =>
            clear H' HO6 HO21 HB
            obtain ⟨x6, x23, rfl, HA, HK2, HO6, HL6, HO21, HB⟩ := hrel
            cases gk with
            | zero => exact absurd HA.out (by simp [impl_SquareFits.l1])
            | succ k2 =>
              have H := HA.out
              clear HA
              simp only [impl_SquareFits.l1] at H
              by_cases c6 : x23 < (t4.length : Int)
              · rw [if_pos c6] at H
                have c6b0 : decide (x23 < (t4.length : Int)) = true := decide_eq_true c6
                clear c6
                by_cases c7 : 0 ≤ x23
                · rw [if_pos c7] at H
                  have c7b0 : decide (0 ≤ x23) = true := decide_eq_true c7
                  clear c7
                  by_cases c8 : 0 ≤ (rd t4 x23)
                  · rw [if_pos c8] at H
                    have c8b0 : decide (0 ≤ (rd t4 x23)) = true := decide_eq_true c8
                    clear c8
                    by_cases c9 : (rd t4 x23) < (l0.length : Int)
                    · rw [if_pos c9] at H
                      have c9b0 : decide ((rd t4 x23) < (l0.length : Int)) = true := decide_eq_true c9
                      clear c9
                      by_cases c10 : 0 ≤ (rd l0 (rd t4 x23))
                      · rw [if_pos c10] at H
                        have c10b0 : decide (0 ≤ (rd l0 (rd t4 x23))) = true := decide_eq_true c10
                        clear c10
                        by_cases c11 : (rd l0 (rd t4 x23)) < (x6.length : Int)
                        · rw [if_pos c11] at H
                          have p118 : 0 ≤ (x23 : Int) := of_decide_eq_true (by first | (with_reducible assumption) | assumption)
                          have q118 : x23 < (t4.length : Int) := of_decide_eq_true (by first | (with_reducible assumption) | assumption)
                          obtain ⟨ad118, e118, hx118_0⟩ := Kd.at_int (Kd.R_reads' HO21.out).2.2 x23 p118 q118
                          cases e118
                          replace p118 := eq_true p118
                          replace q118 := eq_true q118
                          have p119 : 0 ≤ ((rd t4 x23) : Int) := of_decide_eq_true (by first | (with_reducible assumption) | assumption)
                          have q119 : (rd t4 x23) < (l0.length : Int) := of_decide_eq_true (by first | (with_reducible assumption) | assumption)
                          obtain ⟨ad119, e119, hx119_0⟩ := Kd.at_int HR0.out (rd t4 x23) p119 q119
                          cases e119
                          replace hx119_0 := (HB.out.cell (World.block_lt_of_cell? w _ hx119_0)).trans hx119_0
                          replace p119 := eq_true p119
                          replace q119 := eq_true q119
                          have p120 : 0 ≤ (rd l0 (rd t4 x23)) := of_decide_eq_true (by first | (with_reducible assumption) | assumption)
                          have q120 : (rd l0 (rd t4 x23)) < 5 := by have := HL6.out; omega
                          obtain ⟨hc120, hf120⟩ := Kd.R_cell false HO6.out (rd l0 (rd t4 x23)) p120 c11
                          clear c11
                          have p121 := eq_true p120
                          have q121 := eq_true q120
                          have q122 : decide ((rd l0 (rd t4 x23)) < 5) = true := decide_eq_true q120
                          by_cases c12 : (rd l0 (rd t4 x23)) > 0
                          · rw [if_pos c12] at H
                            have c12b0 : decide (0 < (rd l0 (rd t4 x23))) = true := decide_eq_true c12
                            clear c12
                            by_cases c13 : rdOf false x6 (rd l0 (rd t4 x23)) = true
                            · rw [if_pos c13] at H
                              obtain rfl := Option.some.inj H
                              go_wp2
                              go_ret
                              exact ⟨rfl, HB.out⟩
                            · rw [if_neg c13] at H
                              have c13b0 : rdOf false x6 (rd l0 (rd t4 x23)) = false := eq_false_of_ne_true c13
                              clear c13
                              have H' := Aside0.mk H
                              clear H
                              go_wp2
                              go_roundg k2
                              case measure => have := HK1.out; have := HK2.out; omega
                              case rel =>
                                have hput := Kd.R_put HO6.out (rd l0 (rd t4 x23)) true
                                refine ⟨_, _, rfl, H', ⟨by have := HK1.out; have := HK2.out; omega⟩, ⟨?_⟩, ⟨by rw [List.length_set]; exact HL6.out⟩, ⟨Kd.R_grown HO21.out hput.2 (fun k_ hk_ e_ => hk_ (Option.some.inj e_))⟩, ⟨below_set HB.out HG.out⟩⟩
                                rw [List.length_set]
                                exact hput.1
                          · rw [if_neg c12] at H
                            have c12b0 : decide (0 < (rd l0 (rd t4 x23))) = false := decide_eq_false c12
                            clear c12
                            have H' := Aside0.mk H
                            clear H
                            go_wp2
                            go_roundg k2
                            case measure => have := HK1.out; have := HK2.out; omega
                            case rel =>
                              have hput := Kd.R_put HO6.out (rd l0 (rd t4 x23)) true
                              refine ⟨_, _, rfl, H', ⟨by have := HK1.out; have := HK2.out; omega⟩, ⟨?_⟩, ⟨by rw [List.length_set]; exact HL6.out⟩, ⟨Kd.R_grown HO21.out hput.2 (fun k_ hk_ e_ => hk_ (Option.some.inj e_))⟩, ⟨below_set HB.out HG.out⟩⟩
                              rw [List.length_set]
                              exact hput.1
                        · rw [if_neg c11] at H
                          exact absurd H (by simp)
                      · rw [if_neg c10] at H
                        exact absurd H (by simp)
                    · rw [if_neg c9] at H
                      exact absurd H (by simp)
                  · rw [if_neg c8] at H
                    exact absurd H (by simp)
                · rw [if_neg c7] at H
                  exact absurd H (by simp)
              · rw [if_neg c6] at H
                have c6b0 : decide (x23 < (t4.length : Int)) = false := decide_eq_false c6
                clear c6
                have H' := Aside0.mk H
                clear H
                go_wp2
                go_roundg k2
                case measure => have := HK1.out; have := HK2.out; omega
                case rel => exact ⟨(wrap64 (x15 + 1)), rfl, H', ⟨by have := HK1.out; have := HK2.out; omega⟩, HB⟩
        · rw [if_neg c3] at H
          have c3b0 : decide (x15 < (wrap64 (2 * a1))) = false := decide_eq_false c3
          clear c3
          obtain rfl := Option.some.inj H
          go_wp2
          go_ret
          exact ⟨rfl, HB.out⟩
  · rw [if_neg c1] at H
    obtain rfl := Option.some.inj H
    obtain rfl : t1 = false := eq_false_of_ne_true c1
    clear c1
    go_enter Try.func20, Try.ntmps20
    go_wp2_with (first | (go_at_call 60; (with_reducible refine (impl_GridValid.calls k _ _ l0 a1 false _ HR0.out HC0.out A1.out).mono ?_); rintro e w' ⟨rfl, ⟨nd, rfl⟩⟩))
    go_ret
    exact ⟨rfl, by repeat (first | (with_reducible first | exact HB.out | apply below_alloc | apply pw_below_drewN | apply below_drew1) | exact HB.out)⟩

end Go.Proofs.Ythfbjkniinfgcaa.P
namespace Go.Proofs.Ythfbjkniinfgcaa.P
open Go.RowKit Go.Proofs.YthfbjkniinfgcaaW.PrintWords Go.Proofs.YthfbjkniinfgcaaW.PrintLast Go.Proofs.YthfbjkniinfgcaaW.PrintMore
attribute [local go_sem] max2_int min2_int max_two min_two max_three min_three max_four min_four   -- for this text's walks alone
set_option linter.unusedVariables false
set_option linter.unusedSimpArgs false

/-! ### slices_Index_int_int: function 89 -/
def slices_Index_int_int.l0 : Nat → List Int → Int → Int → Int → Option (Int)
  | 0, _, _, _, _ => none
  | k + 1, x0, x1, x7, x8 => if x8 < x7 then (if 0 ≤ x8 then (if x8 < (x0.length : Int) then (if x1 = (rd x0 x8) then (some x8) else (slices_Index_int_int.l0 k x0 x1 x7 (wrap64 (x8 + 1)))) else (none)) else (none)) else (some (-1))
def slices_Index_int_int.f (k : Nat) (l0 : List Int) (a1 : Int) : Option (Int) := slices_Index_int_int.l0 k l0 a1 (l0.length : Int) 0
theorem slices_Index_int_int.mono_l : ∀ k, (∀ y0 y1 y2 y3, LeO (slices_Index_int_int.l0 k y0 y1 y2 y3) (slices_Index_int_int.l0 (k + 1) y0 y1 y2 y3))
  | 0 => fun _ _ _ _ r h => by simp [slices_Index_int_int.l0] at h
  | k + 1 => by
    have ih0 := slices_Index_int_int.mono_l k
    · intro y0 y1 y2 y3
      unfold slices_Index_int_int.l0
      repeat' first
      | (with_reducible exact ih0 _ _ _ _)
      | (with_reducible exact LeO.refl _)
      | (with_reducible exact LeO.none _)
      | (with_reducible refine LeO.ite ?_ ?_)
      | (with_reducible refine LeO.bind ?_ (fun _ => ?_))
      | exact ih0 _ _ _ _
      | exact LeO.none _
      | refine LeO.ite ?_ ?_
      | refine LeO.bind ?_ (fun _ => ?_)
theorem slices_Index_int_int.mono : ∀ a0 a1 k, LeO (slices_Index_int_int.f k a0 a1) (slices_Index_int_int.f (k + 1) a0 a1) := by
  intro a0 a1 k
  have ih0 := slices_Index_int_int.mono_l k
  unfold slices_Index_int_int.f
  repeat' first
      | (with_reducible exact ih0 _ _ _ _)
      | (with_reducible exact LeO.refl _)
      | (with_reducible exact LeO.none _)
      | (with_reducible refine LeO.ite ?_ ?_)
      | (with_reducible refine LeO.bind ?_ (fun _ => ?_))
      | exact ih0 _ _ _ _
      | exact LeO.none _
      | refine LeO.ite ?_ ?_
      | refine LeO.bind ?_ (fun _ => ?_)
set_option maxHeartbeats 8000000 in
set_option maxRecDepth 100000 in
theorem slices_Index_int_int.calls (k : Nat) (A0 : Option Addr) (c0 : Nat) (l0 : List Int) (a1 : Int) (r : Int) (w : World) (hr0 : Kd.C (Kd.int .i64) w A0 l0.length l0) (hc0 : l0.length ≤ c0) (h : slices_Index_int_int.f k l0 a1 = some r) :
    Calls Try.prog 89 #[.slice A0 l0.length c0, .int .i64 a1] w fun e w' => e = .returned (.int .i64 r) ∧ Drawn0 w w' := by
  have HR0 := yam hr0
  have HC0 := yam hc0
  clear hr0 hc0
  have H : (slices_Index_int_int.l0 k l0 a1 (l0.length : Int) 0) = some r := h
  clear h
  have H' := yam H
  clear H
  go_enter Try.func89, Try.ntmps89
  go_wp2
  go_loopg [8] k (fun kq v8 w' => ∃ (x8_1 : Int), v8 = .int .i64 x8_1 ∧ Aside0 (slices_Index_int_int.l0 kq l0 a1 (l0.length : Int) x8_1 = some r) ∧ Aside0 (kq ≤ k) ∧ Drawn0 w w')
  case atStart => exact ⟨(0), (by first | rfl | (simp; done) | (simp [*]; done)), H', ⟨Nat.le_refl _⟩, by repeat (first | exact Drawn0.refl _ | apply Drawn0.step)⟩
  case round =>
    clear H'
    try clear p2
    obtain ⟨x8_1, rfl, HA, HK1, ⟨m1, rfl⟩⟩ := hrel
    cases gk with
    | zero => exact absurd HA.out (by simp [slices_Index_int_int.l0])
    | succ k1 =>
      have H := HA.out
      clear HA
      simp only [slices_Index_int_int.l0] at H
      by_cases c3 : x8_1 < (l0.length : Int)
      rotate_left
      · rw [if_neg c3] at H
        have c3b0 : decide (x8_1 < (l0.length : Int)) = false := decide_eq_false c3
        clear c3
        obtain rfl := Option.some.inj H
        go_wp2
        go_ret
        exact ⟨by first | rfl | (simp; done) | (simp [*]; done), by repeat (first | exact Drawn0.refl _ | apply Drawn0.step)⟩

      rw [if_pos c3] at H
      have c3b0 : decide (x8_1 < (l0.length : Int)) = true := decide_eq_true c3
      clear c3
      by_cases c4 : 0 ≤ x8_1
      rotate_left
      · rw [if_neg c4] at H
        exact absurd H (by simp)
      rw [if_pos c4] at H
      have c4b0 : decide (0 ≤ x8_1) = true := decide_eq_true c4
      clear c4
      by_cases c5 : x8_1 < (l0.length : Int)
      rotate_left
      · rw [if_neg c5] at H
        exact absurd H (by simp)
      rw [if_pos c5] at H
      have c5b0 : decide (x8_1 < (l0.length : Int)) = true := decide_eq_true c5
      clear c5
      by_cases c6 : a1 = (rd l0 x8_1)
      · rw [if_pos c6] at H
        have c6b0 : (a1 == (rd l0 x8_1)) = true := beq_iff_eq.mpr c6
        have c6b1 : (a1 != (rd l0 x8_1)) = false := bne_eq_false_iff_eq.mpr c6
        clear c6
        obtain rfl := Option.some.inj H
        have p355 : 0 ≤ (x8_1 : Int) := of_decide_eq_true (by first | (with_reducible assumption) | assumption)
        have q355 : x8_1 < (l0.length : Int) := of_decide_eq_true (by first | (with_reducible assumption) | assumption)
        obtain ⟨ad355, e355, hx355_0⟩ := Kd.at_int HR0.out x8_1 p355 q355
        cases e355
        replace p355 := eq_true p355
        replace q355 := eq_true q355
        go_wp2
        go_ret
        exact ⟨by first | rfl | (simp; done) | (simp [*]; done), by repeat (first | exact Drawn0.refl _ | apply Drawn0.step)⟩
      rw [if_neg c6] at H
      have c6b0 : (a1 == (rd l0 x8_1)) = false := beq_eq_false_iff_ne.mpr c6
      have c6b1 : (a1 != (rd l0 x8_1)) = true := bne_iff_ne.mpr c6
      have H' := yam H
      clear H
      have p355 : 0 ≤ (x8_1 : Int) := of_decide_eq_true (by first | (with_reducible assumption) | assumption)
      have q355 : x8_1 < (l0.length : Int) := of_decide_eq_true (by first | (with_reducible assumption) | assumption)
      obtain ⟨ad355, e355, hx355_0⟩ := Kd.at_int HR0.out x8_1 p355 q355
      cases e355
      replace p355 := eq_true p355
      replace q355 := eq_true q355
      go_wp2
      go_roundg k1
      case measure => have := HK1.out; omega
      case rel => exact ⟨(wrap64 (x8_1 + 1)), (by first | rfl | (simp; done) | (simp [*]; done)), H', ⟨by have := HK1.out; omega⟩, by repeat (first | exact Drawn0.refl _ | apply Drawn0.step)⟩
end Go.Proofs.Ythfbjkniinfgcaa.P
namespace Go.Proofs.Ythfbjkniinfgcaa.P
open Go.RowKit Go.Proofs.YthfbjkniinfgcaaW.PrintWords Go.Proofs.YthfbjkniinfgcaaW.PrintLast Go.Proofs.YthfbjkniinfgcaaW.PrintMore
attribute [local go_sem] max2_int min2_int max_two min_two max_three min_three max_four min_four   -- for this text's walks alone
set_option linter.unusedVariables false
set_option linter.unusedSimpArgs false

/-! ### slices_Contains_int_int: function 69 -/
def slices_Contains_int_int.f (k : Nat) (l0 : List Int) (a1 : Int) : Option (Bool) := (slices_Index_int_int.f k l0 a1).bind fun t356 => (some (decide (t356 ≥ 0)))
theorem slices_Contains_int_int.mono : ∀ a0 a1 k, LeO (slices_Contains_int_int.f k a0 a1) (slices_Contains_int_int.f (k + 1) a0 a1) := by
  intro a0 a1 k
  unfold slices_Contains_int_int.f
  repeat' first
      | (with_reducible exact slices_Index_int_int.mono _ _ _)
      | (with_reducible exact LeO.refl _)
      | (with_reducible exact LeO.none _)
      | (with_reducible refine LeO.ite ?_ ?_)
      | (with_reducible refine LeO.bind ?_ (fun _ => ?_))
      | exact slices_Index_int_int.mono _ _ _
      | exact LeO.none _
      | refine LeO.ite ?_ ?_
      | refine LeO.bind ?_ (fun _ => ?_)
set_option maxHeartbeats 8000000 in
set_option maxRecDepth 100000 in
theorem slices_Contains_int_int.calls (k : Nat) (A0 : Option Addr) (c0 : Nat) (l0 : List Int) (a1 : Int) (r : Bool) (w : World) (hr0 : Kd.C (Kd.int .i64) w A0 l0.length l0) (hc0 : l0.length ≤ c0) (h : slices_Contains_int_int.f k l0 a1 = some r) :
    Calls Try.prog 69 #[.slice A0 l0.length c0, .int .i64 a1] w fun e w' => e = .returned (.bool r) ∧ Drawn0 w w' := by
  have HR0 := yam hr0
  have HC0 := yam hc0
  clear hr0 hc0
  have H : ((slices_Index_int_int.f k l0 a1).bind fun t356 => (some (decide (t356 ≥ 0)))) = some r := h
  clear h
  replace H := Option.bind_eq_some_iff.mp H
  obtain ⟨t356, A30, H⟩ := H
  try dsimp only at H
  have A3 := yam A30
  clear A30
  obtain rfl := Option.some.inj H
  go_enter Try.func69, Try.ntmps69
  go_wp2_with (first | ((with_reducible refine gate_callee (f := 89) rfl ?_); refine goesL_ (some 7) rfl rfl Try.func89 (by kernel_rfl) rfl #[.slice A0 l0.length c0, .int .i64 a1] rfl (by (try simp only [List.map_toArray, List.map_cons, List.map_nil]); first | done | rfl | (simp only [List.length_drop, List.length_take]; rfl)) ?_; (with_reducible refine (slices_Index_int_int.calls k _ _ l0 a1 t356 _ ?side1 ?side2 A3.out).mono ?_); (case side1 => exact Kd.Cz (HR0.out)); (case side2 => exact HC0.out); rintro e w' ⟨rfl, ⟨nd, rfl⟩⟩; refine ⟨_, rfl, ?_⟩))
  go_ret
  exact ⟨by first | rfl | (simp; done) | (simp [*]; done), by repeat (first | exact Drawn0.refl _ | apply Drawn0.step)⟩

end Go.Proofs.Ythfbjkniinfgcaa.P
namespace Go.Proofs.Ythfbjkniinfgcaa.P
open Go.RowKit Go.Proofs.YthfbjkniinfgcaaW.PrintWords Go.Proofs.YthfbjkniinfgcaaW.PrintLast Go.Proofs.YthfbjkniinfgcaaW.PrintMore
attribute [local go_sem] max2_int min2_int max_two min_two max_three min_three max_four min_four   -- for this text's walks alone
set_option linter.unusedVariables false
set_option linter.unusedSimpArgs false

/-! ### impl_RuleValid: function 23 -/
mutual
def impl_RuleValid.l0 : Nat → Int → List Int → Int → Int → Int → List Int → Int → Option (Bool)
  | 0, _, _, _, _, _, _, _ => none
  | k + 1, x1, x12, x13, x14, x358000, x358001, x358002 => if x14 < x13 then (if 0 ≤ x14 then (if x14 < (x12.length : Int) then (if (rd x12 x14) < 0 then (some false) else (if (rd x12 x14) ≥ (wrap64 (x1 * x1)) then (some false) else (if x14 ≤ (x358001.length : Int) then ((slices_Contains_int_int.f k (x358001.take (x14 : Int).toNat) (rd x12 x14)).bind fun t361 => (if t361 = true then (some false) else (impl_RuleValid.l0 k x1 x12 x13 (wrap64 (x14 + 1)) x358000 x358001 x358002))) else (none)))) else (none)) else (none)) else (if x358000 = 1 then (if (x358001.length : Int) ≥ 2 then (if (x358001.length : Int) ≤ 4 then (some (x358002 == 0)) else (some false)) else (some false)) else (if x358000 = 2 then (impl_RuleValid.j1 k x1 (x358001.length : Int) x358000 (x358000 == 2) x358000 x358001 x358002) else (impl_RuleValid.j1 k x1 (x358001.length : Int) x358000 (x358000 == 3) x358000 x358001 x358002)))
def impl_RuleValid.j1 : Nat → Int → Int → Int → Bool → Int → List Int → Int → Option (Bool)
  | 0, _, _, _, _, _, _, _ => none
  | k + 1, x1, x7, x41, x55, x358000, x358001, x358002 => if x55 = true then (if x7 ≥ 1 then (if x7 ≤ 4 then (if x358002 ≥ 1 then (some (decide (x358002 ≤ (wrap64 ((wrap64 ((wrap64 (x1 * x1)) * x1)) * x1))))) else (some false)) else (some false)) else (some false)) else (if x41 = 4 then (if x7 = 2 then (some (x358002 == 0)) else (some false)) else (if x41 = 5 then (if x7 = 2 then (if x358002 ≥ 0 then (some (decide (x358002 < x1))) else (some false)) else (some false)) else (some false)))
end
def impl_RuleValid.f (k : Nat) (a0_0 : Int) (l0_1 : List Int) (a0_2 : Int) (a1 : Int) : Option (Bool) := (impl_sizeOk.f a1).bind fun t358 => (if t358 = true then (impl_RuleValid.l0 k a1 l0_1 (l0_1.length : Int) 0 a0_0 l0_1 a0_2) else (some false))
theorem impl_RuleValid.mono_l : ∀ k, (∀ y0 y1 y2 y3 y4 y5 y6, LeO (impl_RuleValid.l0 k y0 y1 y2 y3 y4 y5 y6) (impl_RuleValid.l0 (k + 1) y0 y1 y2 y3 y4 y5 y6)) ∧ (∀ y0 y1 y2 y3 y4 y5 y6, LeO (impl_RuleValid.j1 k y0 y1 y2 y3 y4 y5 y6) (impl_RuleValid.j1 (k + 1) y0 y1 y2 y3 y4 y5 y6))
  | 0 => ⟨fun _ _ _ _ _ _ _ r h => by simp [impl_RuleValid.l0] at h, fun _ _ _ _ _ _ _ r h => by simp [impl_RuleValid.j1] at h⟩
  | k + 1 => by
    obtain ⟨ih0, ih1⟩ := impl_RuleValid.mono_l k
    refine ⟨?_, ?_⟩
    · intro y0 y1 y2 y3 y4 y5 y6
      unfold impl_RuleValid.l0
      repeat' first
      | (with_reducible exact ih0 _ _ _ _ _ _ _)
      | (with_reducible exact ih1 _ _ _ _ _ _ _)
      | (with_reducible exact slices_Contains_int_int.mono _ _ _)
      | (with_reducible exact LeO.refl _)
      | (with_reducible exact LeO.none _)
      | (with_reducible refine LeO.ite ?_ ?_)
      | (with_reducible refine LeO.bind ?_ (fun _ => ?_))
      | exact ih0 _ _ _ _ _ _ _
      | exact ih1 _ _ _ _ _ _ _
      | exact slices_Contains_int_int.mono _ _ _
      | exact LeO.none _
      | refine LeO.ite ?_ ?_
      | refine LeO.bind ?_ (fun _ => ?_)
    · intro y0 y1 y2 y3 y4 y5 y6
      unfold impl_RuleValid.j1
      repeat' first
      | (with_reducible exact ih0 _ _ _ _ _ _ _)
      | (with_reducible exact ih1 _ _ _ _ _ _ _)
      | (with_reducible exact slices_Contains_int_int.mono _ _ _)
      | (with_reducible exact LeO.refl _)
      | (with_reducible exact LeO.none _)
      | (with_reducible refine LeO.ite ?_ ?_)
      | (with_reducible refine LeO.bind ?_ (fun _ => ?_))
      | exact ih0 _ _ _ _ _ _ _
      | exact ih1 _ _ _ _ _ _ _
      | exact slices_Contains_int_int.mono _ _ _
      | exact LeO.none _
      | refine LeO.ite ?_ ?_
      | refine LeO.bind ?_ (fun _ => ?_)
theorem impl_RuleValid.mono : ∀ a0 a1 a2 a3 k, LeO (impl_RuleValid.f k a0 a1 a2 a3) (impl_RuleValid.f (k + 1) a0 a1 a2 a3) := by
  intro a0 a1 a2 a3 k
  obtain ⟨ih0, ih1⟩ := impl_RuleValid.mono_l k
  unfold impl_RuleValid.f
  repeat' first
      | (with_reducible exact ih0 _ _ _ _ _ _ _)
      | (with_reducible exact ih1 _ _ _ _ _ _ _)
      | (with_reducible exact slices_Contains_int_int.mono _ _ _)
      | (with_reducible exact LeO.refl _)
      | (with_reducible exact LeO.none _)
      | (with_reducible refine LeO.ite ?_ ?_)
      | (with_reducible refine LeO.bind ?_ (fun _ => ?_))
      | exact ih0 _ _ _ _ _ _ _
      | exact ih1 _ _ _ _ _ _ _
      | exact slices_Contains_int_int.mono _ _ _
      | exact LeO.none _
      | refine LeO.ite ?_ ?_
      | refine LeO.bind ?_ (fun _ => ?_)
set_option maxHeartbeats 8000000 in
set_option maxRecDepth 100000 in
theorem impl_RuleValid.calls (k : Nat) (a0_0 : Int) (A0_1 : Option Addr) (c0_1 : Nat) (l0_1 : List Int) (a0_2 : Int) (a1 : Int) (r : Bool) (w : World) (hr0_1 : Kd.C (Kd.int .i64) w A0_1 l0_1.length l0_1) (hc0_1 : l0_1.length ≤ c0_1) (h : impl_RuleValid.f k a0_0 l0_1 a0_2 a1 = some r) :
    Calls Try.prog 23 #[.agg #[.int .i64 a0_0, .slice A0_1 l0_1.length c0_1, .int .i64 a0_2], .int .i64 a1] w fun e w' => e = .returned (.bool r) ∧ Below w.heap.size w w' := by
  have hu32 := Try.underlying32
  have HR0_1 := yam hr0_1
  have HC0_1 := yam hc0_1
  clear hr0_1 hc0_1
  have HB := yam (Below.refl w.heap.size w)
  have H : ((impl_sizeOk.f a1).bind fun t358 => (if t358 = true then (impl_RuleValid.l0 k a1 l0_1 (l0_1.length : Int) 0 a0_0 l0_1 a0_2) else (some false))) = some r := h
  clear h
  replace H := Option.bind_eq_some_iff.mp H
  obtain ⟨t358, A30, H⟩ := H
  try dsimp only at H
  have A3 := yam A30
  clear A30
  by_cases c4 : t358 = true
  rotate_left
  · replace c4 := Bool.eq_false_iff.mpr c4
    subst c4
    have H1 : (some false) = some r := by rw [if_neg (show ¬ (false = true) by decide)] at H; exact H
    clear H
    have H := H1
    clear H1
    obtain rfl := Option.some.inj H
    go_enter Try.func23, Try.ntmps23
    go_wp2_with (first | ((with_reducible refine gate_dst (N := 2) rfl ?_); refine box_event ?hg (N := 2) ?hd (cs := #[.int .i64 a0_0, .slice A0_1 l0_1.length c0_1, .int .i64 a0_2]) (t := 32) ?hr ?_; (case hd => rfl); (case hg => rfl); (case hr => first | (go_simp; done) | (go_simp; rfl)); intro gb357 hg w43 hbox hb; have n0_ := yam (below_step (yez HB.out) hb); have n1_ := yam (hbox); have n2_ := yam ((by rw [hg]; exact (below_size (yez HB.out)) : w.heap.size ≤ gb357)); have n3_ := yam ((by rw [hg]; exact (below_size (yez HB.out)) : w.heap.size ≤ gb357)); clear HB; have HB := n0_; have BK357 := n1_; have GW357 := n2_; have GE357 := n3_; clear n0_ n1_ n2_ n3_; clear hb hbox hg) | ((with_reducible refine gate_callee (f := 64) rfl ?_); refine goesL_ (some 9) rfl rfl Try.func64 (by kernel_rfl) rfl #[.int .i64 a1] rfl (by (try simp only [List.map_toArray, List.map_cons, List.map_nil]); first | done | rfl | (simp only [List.length_drop, List.length_take]; rfl)) ?_; (with_reducible refine (impl_sizeOk.calls a1 false _ A3.out).mono ?_); rintro e w' ⟨rfl, ⟨nd, rfl⟩⟩; refine ⟨_, rfl, ?_⟩))
    go_ret
    exact ⟨by first | rfl | (simp [errW_none, errW_some] <;> rfl) | (simp [*, errW_none, errW_some] <;> rfl), by repeat (first | (with_reducible first | exact HB.out | apply yea | apply yen | apply yed | refine below_set ?_ GE357.out) | exact HB.out)⟩

  subst c4
  have H1 : (impl_RuleValid.l0 k a1 l0_1 (l0_1.length : Int) 0 a0_0 l0_1 a0_2) = some r := by rw [if_pos rfl] at H; exact H
  clear H
  have H := H1
  clear H1
  have H' := yam H
  clear H
  go_enter Try.func23, Try.ntmps23
  go_wp2_with (first | ((with_reducible refine gate_dst (N := 2) rfl ?_); refine box_event ?hg (N := 2) ?hd (cs := #[.int .i64 a0_0, .slice A0_1 l0_1.length c0_1, .int .i64 a0_2]) (t := 32) ?hr ?_; (case hd => rfl); (case hg => rfl); (case hr => first | (go_simp; done) | (go_simp; rfl)); intro gb357 hg w5 hbox hb; have n0_ := yam (below_step (yez HB.out) hb); have n1_ := yam (hbox); have n2_ := yam ((by rw [hg]; exact (below_size (yez HB.out)) : w.heap.size ≤ gb357)); have n3_ := yam ((by rw [hg]; exact (below_size (yez HB.out)) : w.heap.size ≤ gb357)); clear HB; have HB := n0_; have BK357 := n1_; have GW357 := n2_; have GE357 := n3_; clear n0_ n1_ n2_ n3_; clear hb hbox hg) | ((with_reducible refine gate_callee (f := 64) rfl ?_); refine goesL_ (some 9) rfl rfl Try.func64 (by kernel_rfl) rfl #[.int .i64 a1] rfl (by (try simp only [List.map_toArray, List.map_cons, List.map_nil]); first | done | rfl | (simp only [List.length_drop, List.length_take]; rfl)) ?_; (with_reducible refine (impl_sizeOk.calls a1 true _ A3.out).mono ?_); rintro e w' ⟨rfl, ⟨nd, rfl⟩⟩; refine ⟨_, rfl, ?_⟩; have hcz6_0 : w5.cell? ⟨gb357, 0, none⟩ = some (.int .i64 a0_0) := (blk_cell BK357.out 0).trans rfl; have hcz6_1 : w5.cell? ⟨gb357, 1, none⟩ = some (.slice A0_1 l0_1.length c0_1) := (blk_cell BK357.out 1).trans rfl; have hcz6_2 : w5.cell? ⟨gb357, 2, none⟩ = some (.int .i64 a0_2) := (blk_cell BK357.out 2).trans rfl; have hfz6_0 := blk_frozen BK357.out 0; have hfz6_1 := blk_frozen BK357.out 1; have hfz6_2 := blk_frozen BK357.out 2))
  go_loopg [14] k (fun kq v14 w' => ∃ (x14_1 : Int), v14 = .int .i64 x14_1 ∧ Aside0 (impl_RuleValid.l0 kq a1 l0_1 (l0_1.length : Int) x14_1 a0_0 l0_1 a0_2 = some r) ∧ Aside0 (kq ≤ k) ∧ Aside0 (w'.heap[gb357]? = some (.cells #[.int .i64 a0_0, (.slice A0_1 l0_1.length c0_1), .int .i64 a0_2] 32 (0, 0))) ∧ Aside0 (Below w.heap.size w w'))
  case atStart => exact ⟨(0), (by first | rfl | (simp; done) | (simp [*]; done)), H', ⟨Nat.le_refl _⟩, ⟨by (with_reducible repeat (first | refine ybn ?_ _ | refine ybd ?_ | refine yba ?_ _)); exact BK357.out⟩, ⟨by repeat (first | (with_reducible first | exact HB.out | apply yea | apply yen | apply yed | refine below_set ?_ GE357.out) | exact HB.out)⟩⟩
  case round =>
    clear H'
    try clear c2
    try clear p2
    try clear c4
    try clear c6
    try clear hcz6_0
    try clear hcz6_1
    try clear hcz6_2
    try clear hfz6_0
    try clear hfz6_1
    try clear hfz6_2
    obtain ⟨x14_1, rfl, HA, HK1, BK357, HB⟩ := hrel
    cases gk with
    | zero => exact absurd HA.out (by simp [impl_RuleValid.l0])
    | succ k1 =>
      have H := HA.out
      clear HA
      simp only [impl_RuleValid.l0] at H
      by_cases c7 : x14_1 < (l0_1.length : Int)
      · rw [if_pos c7] at H
        have c7b0 : decide (x14_1 < (l0_1.length : Int)) = true := decide_eq_true c7
        clear c7
        by_cases c8 : 0 ≤ x14_1
        rotate_left
        · rw [if_neg c8] at H
          exact absurd H (by simp)
        rw [if_pos c8] at H
        have c8b0 : decide (0 ≤ x14_1) = true := decide_eq_true c8
        clear c8
        by_cases c9 : x14_1 < (l0_1.length : Int)
        rotate_left
        · rw [if_neg c9] at H
          exact absurd H (by simp)
        rw [if_pos c9] at H
        have c9b0 : decide (x14_1 < (l0_1.length : Int)) = true := decide_eq_true c9
        clear c9
        by_cases c10 : (rd l0_1 x14_1) < 0
        · rw [if_pos c10] at H
          have c10b0 : decide ((rd l0_1 x14_1) < 0) = true := decide_eq_true c10
          clear c10
          obtain rfl := Option.some.inj H
          have p359 : 0 ≤ (x14_1 : Int) := of_decide_eq_true (by first | (with_reducible assumption) | assumption)
          have q359 : x14_1 < (l0_1.length : Int) := of_decide_eq_true (by first | (with_reducible assumption) | assumption)
          obtain ⟨ad359, e359, hx359_0⟩ := Kd.at_int HR0_1.out x14_1 p359 q359
          cases e359
          replace hx359_0 := (HB.out.cell (World.block_lt_of_cell? w _ hx359_0)).trans hx359_0
          replace p359 := eq_true p359
          replace q359 := eq_true q359
          go_wp2
          go_ret
          exact ⟨by first | rfl | (simp [errW_none, errW_some] <;> rfl) | (simp [*, errW_none, errW_some] <;> rfl), by repeat (first | (with_reducible first | exact HB.out | apply yea | apply yen | apply yed | refine below_set ?_ GE357.out) | exact HB.out)⟩
        rw [if_neg c10] at H
        have c10b0 : decide ((rd l0_1 x14_1) < 0) = false := decide_eq_false c10
        clear c10
        by_cases c11 : (rd l0_1 x14_1) ≥ (wrap64 (a1 * a1))
        · rw [if_pos c11] at H
          have c11b0 : decide ((wrap64 (a1 * a1)) ≤ (rd l0_1 x14_1)) = true := decide_eq_true c11
          clear c11
          obtain rfl := Option.some.inj H
          have p359 : 0 ≤ (x14_1 : Int) := of_decide_eq_true (by first | (with_reducible assumption) | assumption)
          have q359 : x14_1 < (l0_1.length : Int) := of_decide_eq_true (by first | (with_reducible assumption) | assumption)
          obtain ⟨ad359, e359, hx359_0⟩ := Kd.at_int HR0_1.out x14_1 p359 q359
          cases e359
          replace hx359_0 := (HB.out.cell (World.block_lt_of_cell? w _ hx359_0)).trans hx359_0
          replace p359 := eq_true p359
          replace q359 := eq_true q359
          go_wp2
          go_ret
          exact ⟨by first | rfl | (simp [errW_none, errW_some] <;> rfl) | (simp [*, errW_none, errW_some] <;> rfl), by repeat (first | (with_reducible first | exact HB.out | apply yea | apply yen | apply yed | refine below_set ?_ GE357.out) | exact HB.out)⟩
        rw [if_neg c11] at H
        have c11b0 : decide ((wrap64 (a1 * a1)) ≤ (rd l0_1 x14_1)) = false := decide_eq_false c11
        clear c11
        have c12b0 := eq_true (of_decide_eq_true (by first | (with_reducible assumption) | assumption) : 0 ≤ x14_1)
        by_cases c13 : x14_1 ≤ (l0_1.length : Int)
        rotate_left
        · rw [if_neg c13] at H
          exact absurd H (by simp)
        rw [if_pos c13] at H
        have c13b0 := eq_true c13
        have c13b1 : decide (x14_1 ≤ (l0_1.length : Int)) = true := decide_eq_true c13
        clear c13
        replace H := Option.bind_eq_some_iff.mp H
        obtain ⟨t361, A140, H⟩ := H
        try dsimp only at H
        have A14 := yam A140
        clear A140
        by_cases c15 : t361 = true
        · subst c15
          have H1 : (some false) = some r := by rw [if_pos rfl] at H; exact H
          clear H
          have H := H1
          clear H1
          obtain rfl := Option.some.inj H
          have p359 : 0 ≤ (x14_1 : Int) := of_decide_eq_true (by first | (with_reducible assumption) | assumption)
          have q359 : x14_1 < (l0_1.length : Int) := of_decide_eq_true (by first | (with_reducible assumption) | assumption)
          obtain ⟨ad359, e359, hx359_0⟩ := Kd.at_int HR0_1.out x14_1 p359 q359
          cases e359
          replace hx359_0 := (HB.out.cell (World.block_lt_of_cell? w _ hx359_0)).trans hx359_0
          replace p359 := eq_true p359
          replace q359 := eq_true q359
          have hcz16_0 : wr.cell? ⟨gb357, 0, none⟩ = some (.int .i64 a0_0) := (blk_cell BK357.out 0).trans rfl
          have hcz16_1 : wr.cell? ⟨gb357, 1, none⟩ = some (.slice (some ad359) l0_1.length c0_1) := (blk_cell BK357.out 1).trans rfl
          have hcz16_2 : wr.cell? ⟨gb357, 2, none⟩ = some (.int .i64 a0_2) := (blk_cell BK357.out 2).trans rfl
          have hfz16_0 := blk_frozen BK357.out 0
          have hfz16_1 := blk_frozen BK357.out 1
          have hfz16_2 := blk_frozen BK357.out 2
          obtain ⟨i017, hi017, _, hsz17, _⟩ := info_parts info3
          obtain ⟨hcut17, hA17, hC17⟩ := print_take_of (P := Try.prog) (Value.int .i64) 0 23 3 .i64 Try.underlying23 hi017 hsz17 (some ad359) c0_1 l0_1 x14_1 (of_decide_eq_true (by first | (with_reducible assumption) | assumption)) (of_decide_eq_true (by first | (with_reducible assumption) | assumption)) HC0_1.out
          have hl17_ : (l0_1.take (x14_1 : Int).toNat).length = (x14_1 : Int).toNat := by
            have e0_ : 0 ≤ (x14_1 : Int) := of_decide_eq_true (by first | (with_reducible assumption) | assumption)
            have e1_ : (x14_1 : Int) ≤ (l0_1.length : Int) := of_decide_eq_true (by first | (with_reducible assumption) | assumption)
            rw [List.length_take]; omega
          have HR360 := yam (Kd.C_of_reads (h1 := fun _ => rfl) (hA17 _ (Kd.reads_of_C HR0_1.out)))
          have HC360 := yam hC17
          clear hA17 hC17 hi017 hsz17
          go_wp2_with (first | (go_at_call 69; (first | (with_reducible refine (slices_Contains_int_int.calls k1 _ _ (l0_1.take (x14_1 : Int).toNat) (rd l0_1 x14_1) true _ ?side1 ?side2 A14.out).mono ?_) | (rw [← hl17_]; (with_reducible refine (slices_Contains_int_int.calls k1 _ _ (l0_1.take (x14_1 : Int).toNat) (rd l0_1 x14_1) true _ ?side1 ?side2 A14.out).mono ?_))); (case side1 => exact Kd.Cz ((Kd.C_below HR360.out HB.out))); (case side2 => exact HC360.out); rintro e w' ⟨rfl, ⟨nd, rfl⟩⟩))
          go_ret
          exact ⟨by first | rfl | (simp [errW_none, errW_some] <;> rfl) | (simp [*, errW_none, errW_some] <;> rfl), by repeat (first | (with_reducible first | exact HB.out | apply yea | apply yen | apply yed | refine below_set ?_ GE357.out) | exact HB.out)⟩
        replace c15 := Bool.eq_false_iff.mpr c15
        subst c15
        have H1 : (impl_RuleValid.l0 k1 a1 l0_1 (l0_1.length : Int) (wrap64 (x14_1 + 1)) a0_0 l0_1 a0_2) = some r := by rw [if_neg (show ¬ (false = true) by decide)] at H; exact H
        clear H
        have H := H1
        clear H1
        have H' := yam H
        clear H
        have p359 : 0 ≤ (x14_1 : Int) := of_decide_eq_true (by first | (with_reducible assumption) | assumption)
        have q359 : x14_1 < (l0_1.length : Int) := of_decide_eq_true (by first | (with_reducible assumption) | assumption)
        obtain ⟨ad359, e359, hx359_0⟩ := Kd.at_int HR0_1.out x14_1 p359 q359
        cases e359
        replace hx359_0 := (HB.out.cell (World.block_lt_of_cell? w _ hx359_0)).trans hx359_0
        replace p359 := eq_true p359
        replace q359 := eq_true q359
        have hcz18_0 : wr.cell? ⟨gb357, 0, none⟩ = some (.int .i64 a0_0) := (blk_cell BK357.out 0).trans rfl
        have hcz18_1 : wr.cell? ⟨gb357, 1, none⟩ = some (.slice (some ad359) l0_1.length c0_1) := (blk_cell BK357.out 1).trans rfl
        have hcz18_2 : wr.cell? ⟨gb357, 2, none⟩ = some (.int .i64 a0_2) := (blk_cell BK357.out 2).trans rfl
        have hfz18_0 := blk_frozen BK357.out 0
        have hfz18_1 := blk_frozen BK357.out 1
        have hfz18_2 := blk_frozen BK357.out 2
        obtain ⟨i019, hi019, _, hsz19, _⟩ := info_parts info3
        obtain ⟨hcut19, hA19, hC19⟩ := print_take_of (P := Try.prog) (Value.int .i64) 0 23 3 .i64 Try.underlying23 hi019 hsz19 (some ad359) c0_1 l0_1 x14_1 (of_decide_eq_true (by first | (with_reducible assumption) | assumption)) (of_decide_eq_true (by first | (with_reducible assumption) | assumption)) HC0_1.out
        have hl19_ : (l0_1.take (x14_1 : Int).toNat).length = (x14_1 : Int).toNat := by
          have e0_ : 0 ≤ (x14_1 : Int) := of_decide_eq_true (by first | (with_reducible assumption) | assumption)
          have e1_ : (x14_1 : Int) ≤ (l0_1.length : Int) := of_decide_eq_true (by first | (with_reducible assumption) | assumption)
          rw [List.length_take]; omega
        have HR360 := yam (Kd.C_of_reads (h1 := fun _ => rfl) (hA19 _ (Kd.reads_of_C HR0_1.out)))
        have HC360 := yam hC19
        clear hA19 hC19 hi019 hsz19
        go_wp2_with (first | (go_at_call 69; (first | (with_reducible refine (slices_Contains_int_int.calls k1 _ _ (l0_1.take (x14_1 : Int).toNat) (rd l0_1 x14_1) false _ ?side1 ?side2 A14.out).mono ?_) | (rw [← hl19_]; (with_reducible refine (slices_Contains_int_int.calls k1 _ _ (l0_1.take (x14_1 : Int).toNat) (rd l0_1 x14_1) false _ ?side1 ?side2 A14.out).mono ?_))); (case side1 => exact Kd.Cz ((Kd.C_below HR360.out HB.out))); (case side2 => exact HC360.out); rintro e w' ⟨rfl, ⟨nd, rfl⟩⟩))
        go_roundg k1
        case measure => have := HK1.out; omega
        case rel => exact ⟨(wrap64 (x14_1 + 1)), (by first | rfl | (simp; done) | (simp [*]; done)), H', ⟨by have := HK1.out; omega⟩, ⟨by (with_reducible repeat (first | refine ybn ?_ _ | refine ybd ?_ | refine yba ?_ _)); exact BK357.out⟩, ⟨by repeat (first | (with_reducible first | exact HB.out | apply yea | apply yen | apply yed | refine below_set ?_ GE357.out) | exact HB.out)⟩⟩
      rw [if_neg c7] at H
      have c7b0 : decide (x14_1 < (l0_1.length : Int)) = false := decide_eq_false c7
      clear c7
      by_cases c20 : a0_0 = 1
      · rw [if_pos c20] at H
        have c20b0 : (a0_0 == 1) = true := beq_iff_eq.mpr c20
        have c20b1 : (a0_0 != 1) = false := bne_eq_false_iff_eq.mpr c20
        clear c20
        by_cases c21 : (l0_1.length : Int) ≥ 2
        rotate_left
        · rw [if_neg c21] at H
          have c21b0 : decide (2 ≤ (l0_1.length : Int)) = false := decide_eq_false c21
          have c21b1 : decide (2 ≤ l0_1.length) = false := decide_eq_false (by omega)
          clear c21
          obtain rfl := Option.some.inj H
          have hcz25_0 : wr.cell? ⟨gb357, 0, none⟩ = some (.int .i64 a0_0) := (blk_cell BK357.out 0).trans rfl
          have hcz25_1 : wr.cell? ⟨gb357, 1, none⟩ = some (.slice A0_1 l0_1.length c0_1) := (blk_cell BK357.out 1).trans rfl
          have hcz25_2 : wr.cell? ⟨gb357, 2, none⟩ = some (.int .i64 a0_2) := (blk_cell BK357.out 2).trans rfl
          have hfz25_0 := blk_frozen BK357.out 0
          have hfz25_1 := blk_frozen BK357.out 1
          have hfz25_2 := blk_frozen BK357.out 2
          go_wp2
          go_ret
          exact ⟨by first | rfl | (simp [errW_none, errW_some] <;> rfl) | (simp [*, errW_none, errW_some] <;> rfl), by repeat (first | (with_reducible first | exact HB.out | apply yea | apply yen | apply yed | refine below_set ?_ GE357.out) | exact HB.out)⟩
        rw [if_pos c21] at H
        have c21b0 : decide (2 ≤ (l0_1.length : Int)) = true := decide_eq_true c21
        have c21b1 : decide (2 ≤ l0_1.length) = true := decide_eq_true (by omega)
        clear c21
        by_cases c22 : (l0_1.length : Int) ≤ 4
        · rw [if_pos c22] at H
          have c22b0 : decide ((l0_1.length : Int) ≤ 4) = true := decide_eq_true c22
          have c22b1 : decide (l0_1.length ≤ 4) = true := decide_eq_true (by omega)
          clear c22
          obtain rfl := Option.some.inj H
          have hcz23_0 : wr.cell? ⟨gb357, 0, none⟩ = some (.int .i64 a0_0) := (blk_cell BK357.out 0).trans rfl
          have hcz23_1 : wr.cell? ⟨gb357, 1, none⟩ = some (.slice A0_1 l0_1.length c0_1) := (blk_cell BK357.out 1).trans rfl
          have hcz23_2 : wr.cell? ⟨gb357, 2, none⟩ = some (.int .i64 a0_2) := (blk_cell BK357.out 2).trans rfl
          have hfz23_0 := blk_frozen BK357.out 0
          have hfz23_1 := blk_frozen BK357.out 1
          have hfz23_2 := blk_frozen BK357.out 2
          go_wp2
          go_ret
          exact ⟨by first | rfl | (simp [errW_none, errW_some] <;> rfl) | (simp [*, errW_none, errW_some] <;> rfl), by repeat (first | (with_reducible first | exact HB.out | apply yea | apply yen | apply yed | refine below_set ?_ GE357.out) | exact HB.out)⟩
        rw [if_neg c22] at H
        have c22b0 : decide ((l0_1.length : Int) ≤ 4) = false := decide_eq_false c22
        have c22b1 : decide (l0_1.length ≤ 4) = false := decide_eq_false (by omega)
        clear c22
        obtain rfl := Option.some.inj H
        have hcz24_0 : wr.cell? ⟨gb357, 0, none⟩ = some (.int .i64 a0_0) := (blk_cell BK357.out 0).trans rfl
        have hcz24_1 : wr.cell? ⟨gb357, 1, none⟩ = some (.slice A0_1 l0_1.length c0_1) := (blk_cell BK357.out 1).trans rfl
        have hcz24_2 : wr.cell? ⟨gb357, 2, none⟩ = some (.int .i64 a0_2) := (blk_cell BK357.out 2).trans rfl
        have hfz24_0 := blk_frozen BK357.out 0
        have hfz24_1 := blk_frozen BK357.out 1
        have hfz24_2 := blk_frozen BK357.out 2
        go_wp2
        go_ret
        exact ⟨by first | rfl | (simp [errW_none, errW_some] <;> rfl) | (simp [*, errW_none, errW_some] <;> rfl), by repeat (first | (with_reducible first | exact HB.out | apply yea | apply yen | apply yed | refine below_set ?_ GE357.out) | exact HB.out)⟩
      rw [if_neg c20] at H
      have c20b0 : (a0_0 == 1) = false := beq_eq_false_iff_ne.mpr c20
      have c20b1 : (a0_0 != 1) = true := bne_iff_ne.mpr c20
      have HC26 := yam H
      clear H
      have hcz27_0 : wr.cell? ⟨gb357, 0, none⟩ = some (.int .i64 a0_0) := (blk_cell BK357.out 0).trans rfl
      have hcz27_1 : wr.cell? ⟨gb357, 1, none⟩ = some (.slice A0_1 l0_1.length c0_1) := (blk_cell BK357.out 1).trans rfl
      have hcz27_2 : wr.cell? ⟨gb357, 2, none⟩ = some (.int .i64 a0_2) := (blk_cell BK357.out 2).trans rfl
      have hfz27_0 := blk_frozen BK357.out 0
      have hfz27_1 := blk_frozen BK357.out 1
      have hfz27_2 := blk_frozen BK357.out 2
      go_upto_if 55 with (fail)
      go_cut [55] (fun v55 wc => ∃ (kq : Nat) (x55_25 : Bool), v55 = .bool x55_25 ∧ Aside0 (impl_RuleValid.j1 kq a1 (l0_1.length : Int) a0_0 x55_25 a0_0 l0_1 a0_2 = some r) ∧ Aside0 (kq ≤ k1) ∧ Aside0 (wc.heap[gb357]? = some (.cells #[.int .i64 a0_0, (.slice A0_1 l0_1.length c0_1), .int .i64 a0_2] 32 (0, 0))) ∧ Aside0 (Below w.heap.size w wc))
      case first =>
        have H := HC26.out
        clear HC26
        by_cases c28 : a0_0 = 2
        rotate_left
        · rw [if_neg c28] at H
          have c28b0 : (a0_0 == 2) = false := beq_eq_false_iff_ne.mpr c28
          have c28b1 : (a0_0 != 2) = true := bne_iff_ne.mpr c28
          (first | rw [c28b0] | (simp only [i64_w, i32_w]; rw [c28b0]) | skip)
          have H' := yam H
          clear H
          go_wp2
          go_meet
          case rel => exact ⟨_, ((a0_0 == 3)), (by first | rfl | (simp; done) | (simp [*]; done)), H', ⟨by have := HK1.out; first | omega | exact Nat.le_refl _⟩, ⟨by (with_reducible repeat (first | refine ybn ?_ _ | refine ybd ?_ | refine yba ?_ _)); exact BK357.out⟩, ⟨by repeat (first | (with_reducible first | exact HB.out | apply yea | apply yen | apply yed | refine below_set ?_ GE357.out) | exact HB.out)⟩⟩
        rw [if_pos c28] at H
        have c28b0 : (a0_0 == 2) = true := beq_iff_eq.mpr c28
        have c28b1 : (a0_0 != 2) = false := bne_eq_false_iff_eq.mpr c28
        clear c28
        (first | rw [c28b0] | (simp only [i64_w, i32_w]; rw [c28b0]) | skip)
        have H' := yam H
        clear H
        go_wp2
        go_meet
        case rel => exact ⟨_, ((a0_0 == 2)), (by first | rfl | (simp; done) | (simp [*]; done)), H', ⟨by have := HK1.out; first | omega | exact Nat.le_refl _⟩, ⟨by (with_reducible repeat (first | refine ybn ?_ _ | refine ybd ?_ | refine yba ?_ _)); exact BK357.out⟩, ⟨by repeat (first | (with_reducible first | exact HB.out | apply yea | apply yen | apply yed | refine below_set ?_ GE357.out) | exact HB.out)⟩⟩
      case rest =>
        clear HC26
        try clear c1
        try clear c2
        try clear p2
        try clear p3
        try clear q3
        try clear hx3
        try clear c4
        try clear c6
        try clear p6
        try clear c7
        try clear c7b0
        try clear c8
        try clear c8b0
        try clear c9
        try clear c9b0
        try clear c10
        try clear c10b0
        try clear c11
        try clear c11b0
        try clear c12
        try clear c12b0
        try clear c13
        try clear c13b0
        try clear c13b1
        try clear c15
        try clear c20
        try clear c20b0
        try clear c20b1
        try clear c21
        try clear c21b0
        try clear c21b1
        try clear c22
        try clear c22b0
        try clear c22b1
        try clear c23
        try clear c28
        try clear c28b0
        try clear c28b1
        try clear hcz16_0
        try clear hcz16_1
        try clear hcz16_2
        try clear hcz18_0
        try clear hcz18_1
        try clear hcz18_2
        try clear hcz23_0
        try clear hcz23_1
        try clear hcz23_2
        try clear hcz24_0
        try clear hcz24_1
        try clear hcz24_2
        try clear hcz25_0
        try clear hcz25_1
        try clear hcz25_2
        try clear hcz27_0
        try clear hcz27_1
        try clear hcz27_2
        try clear hcz6_0
        try clear hcz6_1
        try clear hcz6_2
        try clear hfz16_0
        try clear hfz16_1
        try clear hfz16_2
        try clear hfz18_0
        try clear hfz18_1
        try clear hfz18_2
        try clear hfz23_0
        try clear hfz23_1
        try clear hfz23_2
        try clear hfz24_0
        try clear hfz24_1
        try clear hfz24_2
        try clear hfz25_0
        try clear hfz25_1
        try clear hfz25_2
        try clear hfz27_0
        try clear hfz27_1
        try clear hfz27_2
        try clear hfz6_0
        try clear hfz6_1
        try clear hfz6_2
        try clear hx359_0
        try clear p2
        try clear p359
        try clear q359
        obtain ⟨kq, x55_25, rfl, HA, HJ25, BK357, HB⟩ := hcut
        cases kq with
        | zero => exact absurd HA.out (by simp [impl_RuleValid.j1])
        | succ kj25 =>
          have H := HA.out
          clear HA
          simp only [impl_RuleValid.j1] at H
          by_cases c29 : x55_25 = true
          · subst c29
            have H1 : (if (l0_1.length : Int) ≥ 1 then (if (l0_1.length : Int) ≤ 4 then (if a0_2 ≥ 1 then (some (decide (a0_2 ≤ (wrap64 ((wrap64 ((wrap64 (a1 * a1)) * a1)) * a1))))) else (some false)) else (some false)) else (some false)) = some r := by rw [if_pos rfl] at H; exact H
            clear H
            have H := H1
            clear H1
            by_cases c30 : (l0_1.length : Int) ≥ 1
            rotate_left
            · rw [if_neg c30] at H
              have c30b0 : decide (1 ≤ (l0_1.length : Int)) = false := decide_eq_false c30
              have c30b1 : decide (1 ≤ l0_1.length) = false := decide_eq_false (by omega)
              clear c30
              obtain rfl := Option.some.inj H
              go_wp2
              go_ret
              exact ⟨by first | rfl | (simp [errW_none, errW_some] <;> rfl) | (simp [*, errW_none, errW_some] <;> rfl), by repeat (first | (with_reducible first | exact HB.out | apply yea | apply yen | apply yed | refine below_set ?_ GE357.out) | exact HB.out)⟩
            rw [if_pos c30] at H
            have c30b0 : decide (1 ≤ (l0_1.length : Int)) = true := decide_eq_true c30
            have c30b1 : decide (1 ≤ l0_1.length) = true := decide_eq_true (by omega)
            clear c30
            by_cases c31 : (l0_1.length : Int) ≤ 4
            rotate_left
            · rw [if_neg c31] at H
              have c31b0 : decide ((l0_1.length : Int) ≤ 4) = false := decide_eq_false c31
              have c31b1 : decide (l0_1.length ≤ 4) = false := decide_eq_false (by omega)
              clear c31
              obtain rfl := Option.some.inj H
              go_wp2
              go_ret
              exact ⟨by first | rfl | (simp [errW_none, errW_some] <;> rfl) | (simp [*, errW_none, errW_some] <;> rfl), by repeat (first | (with_reducible first | exact HB.out | apply yea | apply yen | apply yed | refine below_set ?_ GE357.out) | exact HB.out)⟩
            rw [if_pos c31] at H
            have c31b0 : decide ((l0_1.length : Int) ≤ 4) = true := decide_eq_true c31
            have c31b1 : decide (l0_1.length ≤ 4) = true := decide_eq_true (by omega)
            clear c31
            by_cases c32 : a0_2 ≥ 1
            · rw [if_pos c32] at H
              have c32b0 : decide (1 ≤ a0_2) = true := decide_eq_true c32
              clear c32
              obtain rfl := Option.some.inj H
              have hcz33_0 : wc.cell? ⟨gb357, 0, none⟩ = some (.int .i64 a0_0) := (blk_cell BK357.out 0).trans rfl
              have hcz33_1 : wc.cell? ⟨gb357, 1, none⟩ = some (.slice A0_1 l0_1.length c0_1) := (blk_cell BK357.out 1).trans rfl
              have hcz33_2 : wc.cell? ⟨gb357, 2, none⟩ = some (.int .i64 a0_2) := (blk_cell BK357.out 2).trans rfl
              have hfz33_0 := blk_frozen BK357.out 0
              have hfz33_1 := blk_frozen BK357.out 1
              have hfz33_2 := blk_frozen BK357.out 2
              go_wp2
              go_ret
              exact ⟨by first | rfl | (simp [errW_none, errW_some] <;> rfl) | (simp [*, errW_none, errW_some] <;> rfl), by repeat (first | (with_reducible first | exact HB.out | apply yea | apply yen | apply yed | refine below_set ?_ GE357.out) | exact HB.out)⟩
            rw [if_neg c32] at H
            have c32b0 : decide (1 ≤ a0_2) = false := decide_eq_false c32
            clear c32
            obtain rfl := Option.some.inj H
            have hcz34_0 : wc.cell? ⟨gb357, 0, none⟩ = some (.int .i64 a0_0) := (blk_cell BK357.out 0).trans rfl
            have hcz34_1 : wc.cell? ⟨gb357, 1, none⟩ = some (.slice A0_1 l0_1.length c0_1) := (blk_cell BK357.out 1).trans rfl
            have hcz34_2 : wc.cell? ⟨gb357, 2, none⟩ = some (.int .i64 a0_2) := (blk_cell BK357.out 2).trans rfl
            have hfz34_0 := blk_frozen BK357.out 0
            have hfz34_1 := blk_frozen BK357.out 1
            have hfz34_2 := blk_frozen BK357.out 2
            go_wp2
            go_ret
            exact ⟨by first | rfl | (simp [errW_none, errW_some] <;> rfl) | (simp [*, errW_none, errW_some] <;> rfl), by repeat (first | (with_reducible first | exact HB.out | apply yea | apply yen | apply yed | refine below_set ?_ GE357.out) | exact HB.out)⟩
          replace c29 := Bool.eq_false_iff.mpr c29
          subst c29
          have H1 : (if a0_0 = 4 then (if (l0_1.length : Int) = 2 then (some (a0_2 == 0)) else (some false)) else (if a0_0 = 5 then (if (l0_1.length : Int) = 2 then (if a0_2 ≥ 0 then (some (decide (a0_2 < a1))) else (some false)) else (some false)) else (some false))) = some r := by rw [if_neg (show ¬ (false = true) by decide)] at H; exact H
          clear H
          have H := H1
          clear H1
          by_cases c35 : a0_0 = 4
          · rw [if_pos c35] at H
            have c35b0 : (a0_0 == 4) = true := beq_iff_eq.mpr c35
            have c35b1 : (a0_0 != 4) = false := bne_eq_false_iff_eq.mpr c35
            clear c35
            by_cases c36 : (l0_1.length : Int) = 2
            rotate_left
            · rw [if_neg c36] at H
              have c36b0 : ((l0_1.length : Int) == 2) = false := beq_eq_false_iff_ne.mpr c36
              have c36b1 : ((l0_1.length : Int) != 2) = true := bne_iff_ne.mpr c36
              obtain rfl := Option.some.inj H
              go_wp2
              go_ret
              exact ⟨by first | rfl | (simp [errW_none, errW_some] <;> rfl) | (simp [*, errW_none, errW_some] <;> rfl), by repeat (first | (with_reducible first | exact HB.out | apply yea | apply yen | apply yed | refine below_set ?_ GE357.out) | exact HB.out)⟩
            rw [if_pos c36] at H
            have c36b0 : ((l0_1.length : Int) == 2) = true := beq_iff_eq.mpr c36
            have c36b1 : ((l0_1.length : Int) != 2) = false := bne_eq_false_iff_eq.mpr c36
            clear c36
            obtain rfl := Option.some.inj H
            have hcz37_0 : wc.cell? ⟨gb357, 0, none⟩ = some (.int .i64 a0_0) := (blk_cell BK357.out 0).trans rfl
            have hcz37_1 : wc.cell? ⟨gb357, 1, none⟩ = some (.slice A0_1 l0_1.length c0_1) := (blk_cell BK357.out 1).trans rfl
            have hcz37_2 : wc.cell? ⟨gb357, 2, none⟩ = some (.int .i64 a0_2) := (blk_cell BK357.out 2).trans rfl
            have hfz37_0 := blk_frozen BK357.out 0
            have hfz37_1 := blk_frozen BK357.out 1
            have hfz37_2 := blk_frozen BK357.out 2
            go_wp2
            go_ret
            exact ⟨by first | rfl | (simp [errW_none, errW_some] <;> rfl) | (simp [*, errW_none, errW_some] <;> rfl), by repeat (first | (with_reducible first | exact HB.out | apply yea | apply yen | apply yed | refine below_set ?_ GE357.out) | exact HB.out)⟩
          rw [if_neg c35] at H
          have c35b0 : (a0_0 == 4) = false := beq_eq_false_iff_ne.mpr c35
          have c35b1 : (a0_0 != 4) = true := bne_iff_ne.mpr c35
          by_cases c38 : a0_0 = 5
          rotate_left
          · rw [if_neg c38] at H
            have c38b0 : (a0_0 == 5) = false := beq_eq_false_iff_ne.mpr c38
            have c38b1 : (a0_0 != 5) = true := bne_iff_ne.mpr c38
            obtain rfl := Option.some.inj H
            go_wp2
            go_ret
            exact ⟨by first | rfl | (simp [errW_none, errW_some] <;> rfl) | (simp [*, errW_none, errW_some] <;> rfl), by repeat (first | (with_reducible first | exact HB.out | apply yea | apply yen | apply yed | refine below_set ?_ GE357.out) | exact HB.out)⟩
          rw [if_pos c38] at H
          have c38b0 : (a0_0 == 5) = true := beq_iff_eq.mpr c38
          have c38b1 : (a0_0 != 5) = false := bne_eq_false_iff_eq.mpr c38
          clear c38
          by_cases c39 : (l0_1.length : Int) = 2
          rotate_left
          · rw [if_neg c39] at H
            have c39b0 : ((l0_1.length : Int) == 2) = false := beq_eq_false_iff_ne.mpr c39
            have c39b1 : ((l0_1.length : Int) != 2) = true := bne_iff_ne.mpr c39
            obtain rfl := Option.some.inj H
            go_wp2
            go_ret
            exact ⟨by first | rfl | (simp [errW_none, errW_some] <;> rfl) | (simp [*, errW_none, errW_some] <;> rfl), by repeat (first | (with_reducible first | exact HB.out | apply yea | apply yen | apply yed | refine below_set ?_ GE357.out) | exact HB.out)⟩
          rw [if_pos c39] at H
          have c39b0 : ((l0_1.length : Int) == 2) = true := beq_iff_eq.mpr c39
          have c39b1 : ((l0_1.length : Int) != 2) = false := bne_eq_false_iff_eq.mpr c39
          clear c39
          by_cases c40 : a0_2 ≥ 0
          · rw [if_pos c40] at H
            have c40b0 : decide (0 ≤ a0_2) = true := decide_eq_true c40
            clear c40
            obtain rfl := Option.some.inj H
            have hcz41_0 : wc.cell? ⟨gb357, 0, none⟩ = some (.int .i64 a0_0) := (blk_cell BK357.out 0).trans rfl
            have hcz41_1 : wc.cell? ⟨gb357, 1, none⟩ = some (.slice A0_1 l0_1.length c0_1) := (blk_cell BK357.out 1).trans rfl
            have hcz41_2 : wc.cell? ⟨gb357, 2, none⟩ = some (.int .i64 a0_2) := (blk_cell BK357.out 2).trans rfl
            have hfz41_0 := blk_frozen BK357.out 0
            have hfz41_1 := blk_frozen BK357.out 1
            have hfz41_2 := blk_frozen BK357.out 2
            go_wp2
            go_ret
            exact ⟨by first | rfl | (simp [errW_none, errW_some] <;> rfl) | (simp [*, errW_none, errW_some] <;> rfl), by repeat (first | (with_reducible first | exact HB.out | apply yea | apply yen | apply yed | refine below_set ?_ GE357.out) | exact HB.out)⟩
          rw [if_neg c40] at H
          have c40b0 : decide (0 ≤ a0_2) = false := decide_eq_false c40
          clear c40
          obtain rfl := Option.some.inj H
          have hcz42_0 : wc.cell? ⟨gb357, 0, none⟩ = some (.int .i64 a0_0) := (blk_cell BK357.out 0).trans rfl
          have hcz42_1 : wc.cell? ⟨gb357, 1, none⟩ = some (.slice A0_1 l0_1.length c0_1) := (blk_cell BK357.out 1).trans rfl
          have hcz42_2 : wc.cell? ⟨gb357, 2, none⟩ = some (.int .i64 a0_2) := (blk_cell BK357.out 2).trans rfl
          have hfz42_0 := blk_frozen BK357.out 0
          have hfz42_1 := blk_frozen BK357.out 1
          have hfz42_2 := blk_frozen BK357.out 2
          go_wp2
          go_ret
          exact ⟨by first | rfl | (simp [errW_none, errW_some] <;> rfl) | (simp [*, errW_none, errW_some] <;> rfl), by repeat (first | (with_reducible first | exact HB.out | apply yea | apply yen | apply yed | refine below_set ?_ GE357.out) | exact HB.out)⟩
end Go.Proofs.Ythfbjkniinfgcaa.P
