/- The machine's side: each Go function as a plain Lean function and the proof that the machine's call does what that function says; written by this session's own program over the kit's print. -/
import Derived.Test.YtaglakdahmepeaaZP1
namespace Go.Proofs.Ytaglakdahmepeaa.P
open Go.RowKit Go.Proofs.YtaglakdahmepeaaW.PrintWords Go.Proofs.YtaglakdahmepeaaW.PrintLast Go.Proofs.YtaglakdahmepeaaW.PrintMore
attribute [local go_sem] max2_int min2_int max_two min_two max_three min_three max_four min_four   -- for this text's walks alone
set_option linter.unusedVariables false
set_option linter.unusedSimpArgs false

/-! ### spec_NarrowPairs: function 42 -/
mutual
def spec_NarrowPairs.l0 : Nat → List Int → Int → List Int → Int → Option (List Int)
  | 0, _, _, _, _ => none
  | k + 1, x0, x1, x5, x6 => if x6 < (wrap64 (2 * x1)) then ((spec_LineCells.f k x1 x6).bind fun t576 => (spec_NarrowPairs.l1 k x0 x1 x5 x6 t576 0)) else (some x5)
def spec_NarrowPairs.l1 : Nat → List Int → Int → List Int → Int → List Int → Int → Option (List Int)
  | 0, _, _, _, _, _, _ => none
  | k + 1, x0, x1, x5, x6, x7, x8 => if x8 < x1 then (spec_NarrowPairs.l2 k x0 x1 x5 x6 x7 x8 0) else (spec_NarrowPairs.l0 k x0 x1 x5 (wrap64 (x6 + 1)))
def spec_NarrowPairs.l2 : Nat → List Int → Int → List Int → Int → List Int → Int → Int → Option (List Int)
  | 0, _, _, _, _, _, _, _ => none
  | k + 1, x0, x1, x5, x6, x7, x8, x9 => if x9 < x8 then (if 0 ≤ x8 then (if x8 < (x7.length : Int) then (if 0 ≤ (rd x7 x8) then (if (rd x7 x8) < (x0.length : Int) then (if 0 ≤ x9 then (if x9 < (x7.length : Int) then (if 0 ≤ (rd x7 x9) then (if (rd x7 x9) < (x0.length : Int) then (if (rd x0 (rd x7 x8)) = (rd x0 (rd x7 x9)) then ((spec_MaskValues.f k (rd x0 (rd x7 x8))).bind fun t583 => (spec_NarrowPairs.j3 k x0 x1 x5 x6 x7 x8 x9 (rd x0 (rd x7 x8)) ((t583.length : Int) != 2))) else (spec_NarrowPairs.j3 k x0 x1 x5 x6 x7 x8 x9 (rd x0 (rd x7 x8)) true)) else (none)) else (none)) else (none)) else (none)) else (none)) else (none)) else (none)) else (none)) else (spec_NarrowPairs.l1 k x0 x1 x5 x6 x7 (wrap64 (x8 + 1)))
def spec_NarrowPairs.j3 : Nat → List Int → Int → List Int → Int → List Int → Int → Int → Int → Bool → Option (List Int)
  | 0, _, _, _, _, _, _, _, _, _ => none
  | k + 1, x0, x1, x5, x6, x7, x8, x9, x10, x59 => if x59 = true then (spec_NarrowPairs.l2 k x0 x1 x5 x6 x7 x8 (wrap64 (x9 + 1))) else (spec_NarrowPairs.l3 k x0 x1 x5 x6 x7 x8 x9 x10 0)
def spec_NarrowPairs.l3 : Nat → List Int → Int → List Int → Int → List Int → Int → Int → Int → Int → Option (List Int)
  | 0, _, _, _, _, _, _, _, _, _ => none
  | k + 1, x0, x1, x5, x6, x7, x8, x9, x10, x11 => if x11 < x1 then (if x11 = x8 then (spec_NarrowPairs.l3 k x0 x1 x5 x6 x7 x8 x9 x10 (wrap64 (x11 + 1))) else (if x11 = x9 then (spec_NarrowPairs.l3 k x0 x1 x5 x6 x7 x8 x9 x10 (wrap64 (x11 + 1))) else (if 0 ≤ x11 then (if x11 < (x7.length : Int) then (if 0 ≤ (rd x7 x11) then (if (rd x7 x11) < (x5.length : Int) then (spec_NarrowPairs.l3 k x0 x1 (x5.set ((rd x7 x11) : Int).toNat (Go.bits .andNot .i64 (rd x5 (rd x7 x11)) x10)) x6 x7 x8 x9 x10 (wrap64 (x11 + 1))) else (none)) else (none)) else (none)) else (none)))) else (spec_NarrowPairs.l2 k x0 x1 x5 x6 x7 x8 (wrap64 (x9 + 1)))
end
def spec_NarrowPairs.f (k : Nat) (l0 : List Int) (a1 : Int) : Option (List Int) := (spec_MasksValid.f k l0 a1).bind fun t569 => (if t569 = true then ((spec_l6Copy.f l0).bind fun t573 => (spec_NarrowPairs.l0 k l0 a1 t573 0)) else (some (([] : List Int))))
theorem spec_NarrowPairs.mono_l : ∀ k, (∀ y0 y1 y2 y3, LeO (spec_NarrowPairs.l0 k y0 y1 y2 y3) (spec_NarrowPairs.l0 (k + 1) y0 y1 y2 y3)) ∧ (∀ y0 y1 y2 y3 y4 y5, LeO (spec_NarrowPairs.l1 k y0 y1 y2 y3 y4 y5) (spec_NarrowPairs.l1 (k + 1) y0 y1 y2 y3 y4 y5)) ∧ (∀ y0 y1 y2 y3 y4 y5 y6, LeO (spec_NarrowPairs.l2 k y0 y1 y2 y3 y4 y5 y6) (spec_NarrowPairs.l2 (k + 1) y0 y1 y2 y3 y4 y5 y6)) ∧ (∀ y0 y1 y2 y3 y4 y5 y6 y7 y8, LeO (spec_NarrowPairs.j3 k y0 y1 y2 y3 y4 y5 y6 y7 y8) (spec_NarrowPairs.j3 (k + 1) y0 y1 y2 y3 y4 y5 y6 y7 y8)) ∧ (∀ y0 y1 y2 y3 y4 y5 y6 y7 y8, LeO (spec_NarrowPairs.l3 k y0 y1 y2 y3 y4 y5 y6 y7 y8) (spec_NarrowPairs.l3 (k + 1) y0 y1 y2 y3 y4 y5 y6 y7 y8))
  | 0 => ⟨fun _ _ _ _ r h => by simp [spec_NarrowPairs.l0] at h, fun _ _ _ _ _ _ r h => by simp [spec_NarrowPairs.l1] at h, fun _ _ _ _ _ _ _ r h => by simp [spec_NarrowPairs.l2] at h, fun _ _ _ _ _ _ _ _ _ r h => by simp [spec_NarrowPairs.j3] at h, fun _ _ _ _ _ _ _ _ _ r h => by simp [spec_NarrowPairs.l3] at h⟩
  | k + 1 => by
    obtain ⟨ih0, ih1, ih2, ih3, ih4⟩ := spec_NarrowPairs.mono_l k
    refine ⟨?_, ?_, ?_, ?_, ?_⟩
    · intro y0 y1 y2 y3
      unfold spec_NarrowPairs.l0
      repeat' first
      | (with_reducible exact ih0 _ _ _ _)
      | (with_reducible exact ih1 _ _ _ _ _ _)
      | (with_reducible exact ih2 _ _ _ _ _ _ _)
      | (with_reducible exact ih3 _ _ _ _ _ _ _ _ _)
      | (with_reducible exact ih4 _ _ _ _ _ _ _ _ _)
      | (with_reducible exact spec_LineCells.mono _ _ _)
      | (with_reducible exact spec_MaskValues.mono _ _)
      | (with_reducible exact spec_MasksValid.mono _ _ _)
      | (with_reducible exact LeO.refl _)
      | (with_reducible exact LeO.none _)
      | (with_reducible refine LeO.ite ?_ ?_)
      | (with_reducible refine LeO.bind ?_ (fun _ => ?_))
      | exact ih0 _ _ _ _
      | exact ih1 _ _ _ _ _ _
      | exact ih2 _ _ _ _ _ _ _
      | exact ih3 _ _ _ _ _ _ _ _ _
      | exact ih4 _ _ _ _ _ _ _ _ _
      | exact spec_LineCells.mono _ _ _
      | exact spec_MaskValues.mono _ _
      | exact spec_MasksValid.mono _ _ _
      | exact LeO.none _
      | refine LeO.ite ?_ ?_
      | refine LeO.bind ?_ (fun _ => ?_)
    · intro y0 y1 y2 y3 y4 y5
      unfold spec_NarrowPairs.l1
      repeat' first
      | (with_reducible exact ih0 _ _ _ _)
      | (with_reducible exact ih1 _ _ _ _ _ _)
      | (with_reducible exact ih2 _ _ _ _ _ _ _)
      | (with_reducible exact ih3 _ _ _ _ _ _ _ _ _)
      | (with_reducible exact ih4 _ _ _ _ _ _ _ _ _)
      | (with_reducible exact spec_LineCells.mono _ _ _)
      | (with_reducible exact spec_MaskValues.mono _ _)
      | (with_reducible exact spec_MasksValid.mono _ _ _)
      | (with_reducible exact LeO.refl _)
      | (with_reducible exact LeO.none _)
      | (with_reducible refine LeO.ite ?_ ?_)
      | (with_reducible refine LeO.bind ?_ (fun _ => ?_))
      | exact ih0 _ _ _ _
      | exact ih1 _ _ _ _ _ _
      | exact ih2 _ _ _ _ _ _ _
      | exact ih3 _ _ _ _ _ _ _ _ _
      | exact ih4 _ _ _ _ _ _ _ _ _
      | exact spec_LineCells.mono _ _ _
      | exact spec_MaskValues.mono _ _
      | exact spec_MasksValid.mono _ _ _
      | exact LeO.none _
      | refine LeO.ite ?_ ?_
      | refine LeO.bind ?_ (fun _ => ?_)
    · intro y0 y1 y2 y3 y4 y5 y6
      unfold spec_NarrowPairs.l2
      repeat' first
      | (with_reducible exact ih0 _ _ _ _)
      | (with_reducible exact ih1 _ _ _ _ _ _)
      | (with_reducible exact ih2 _ _ _ _ _ _ _)
      | (with_reducible exact ih3 _ _ _ _ _ _ _ _ _)
      | (with_reducible exact ih4 _ _ _ _ _ _ _ _ _)
      | (with_reducible exact spec_LineCells.mono _ _ _)
      | (with_reducible exact spec_MaskValues.mono _ _)
      | (with_reducible exact spec_MasksValid.mono _ _ _)
      | (with_reducible exact LeO.refl _)
      | (with_reducible exact LeO.none _)
      | (with_reducible refine LeO.ite ?_ ?_)
      | (with_reducible refine LeO.bind ?_ (fun _ => ?_))
      | exact ih0 _ _ _ _
      | exact ih1 _ _ _ _ _ _
      | exact ih2 _ _ _ _ _ _ _
      | exact ih3 _ _ _ _ _ _ _ _ _
      | exact ih4 _ _ _ _ _ _ _ _ _
      | exact spec_LineCells.mono _ _ _
      | exact spec_MaskValues.mono _ _
      | exact spec_MasksValid.mono _ _ _
      | exact LeO.none _
      | refine LeO.ite ?_ ?_
      | refine LeO.bind ?_ (fun _ => ?_)
    · intro y0 y1 y2 y3 y4 y5 y6 y7 y8
      unfold spec_NarrowPairs.j3
      repeat' first
      | (with_reducible exact ih0 _ _ _ _)
      | (with_reducible exact ih1 _ _ _ _ _ _)
      | (with_reducible exact ih2 _ _ _ _ _ _ _)
      | (with_reducible exact ih3 _ _ _ _ _ _ _ _ _)
      | (with_reducible exact ih4 _ _ _ _ _ _ _ _ _)
      | (with_reducible exact spec_LineCells.mono _ _ _)
      | (with_reducible exact spec_MaskValues.mono _ _)
      | (with_reducible exact spec_MasksValid.mono _ _ _)
      | (with_reducible exact LeO.refl _)
      | (with_reducible exact LeO.none _)
      | (with_reducible refine LeO.ite ?_ ?_)
      | (with_reducible refine LeO.bind ?_ (fun _ => ?_))
      | exact ih0 _ _ _ _
      | exact ih1 _ _ _ _ _ _
      | exact ih2 _ _ _ _ _ _ _
      | exact ih3 _ _ _ _ _ _ _ _ _
      | exact ih4 _ _ _ _ _ _ _ _ _
      | exact spec_LineCells.mono _ _ _
      | exact spec_MaskValues.mono _ _
      | exact spec_MasksValid.mono _ _ _
      | exact LeO.none _
      | refine LeO.ite ?_ ?_
      | refine LeO.bind ?_ (fun _ => ?_)
    · intro y0 y1 y2 y3 y4 y5 y6 y7 y8
      unfold spec_NarrowPairs.l3
      repeat' first
      | (with_reducible exact ih0 _ _ _ _)
      | (with_reducible exact ih1 _ _ _ _ _ _)
      | (with_reducible exact ih2 _ _ _ _ _ _ _)
      | (with_reducible exact ih3 _ _ _ _ _ _ _ _ _)
      | (with_reducible exact ih4 _ _ _ _ _ _ _ _ _)
      | (with_reducible exact spec_LineCells.mono _ _ _)
      | (with_reducible exact spec_MaskValues.mono _ _)
      | (with_reducible exact spec_MasksValid.mono _ _ _)
      | (with_reducible exact LeO.refl _)
      | (with_reducible exact LeO.none _)
      | (with_reducible refine LeO.ite ?_ ?_)
      | (with_reducible refine LeO.bind ?_ (fun _ => ?_))
      | exact ih0 _ _ _ _
      | exact ih1 _ _ _ _ _ _
      | exact ih2 _ _ _ _ _ _ _
      | exact ih3 _ _ _ _ _ _ _ _ _
      | exact ih4 _ _ _ _ _ _ _ _ _
      | exact spec_LineCells.mono _ _ _
      | exact spec_MaskValues.mono _ _
      | exact spec_MasksValid.mono _ _ _
      | exact LeO.none _
      | refine LeO.ite ?_ ?_
      | refine LeO.bind ?_ (fun _ => ?_)
theorem spec_NarrowPairs.mono : ∀ a0 a1 k, LeO (spec_NarrowPairs.f k a0 a1) (spec_NarrowPairs.f (k + 1) a0 a1) := by
  intro a0 a1 k
  obtain ⟨ih0, ih1, ih2, ih3, ih4⟩ := spec_NarrowPairs.mono_l k
  unfold spec_NarrowPairs.f
  repeat' first
      | (with_reducible exact ih0 _ _ _ _)
      | (with_reducible exact ih1 _ _ _ _ _ _)
      | (with_reducible exact ih2 _ _ _ _ _ _ _)
      | (with_reducible exact ih3 _ _ _ _ _ _ _ _ _)
      | (with_reducible exact ih4 _ _ _ _ _ _ _ _ _)
      | (with_reducible exact spec_LineCells.mono _ _ _)
      | (with_reducible exact spec_MaskValues.mono _ _)
      | (with_reducible exact spec_MasksValid.mono _ _ _)
      | (with_reducible exact LeO.refl _)
      | (with_reducible exact LeO.none _)
      | (with_reducible refine LeO.ite ?_ ?_)
      | (with_reducible refine LeO.bind ?_ (fun _ => ?_))
      | exact ih0 _ _ _ _
      | exact ih1 _ _ _ _ _ _
      | exact ih2 _ _ _ _ _ _ _
      | exact ih3 _ _ _ _ _ _ _ _ _
      | exact ih4 _ _ _ _ _ _ _ _ _
      | exact spec_LineCells.mono _ _ _
      | exact spec_MaskValues.mono _ _
      | exact spec_MasksValid.mono _ _ _
      | exact LeO.none _
      | refine LeO.ite ?_ ?_
      | refine LeO.bind ?_ (fun _ => ?_)
def spec_NarrowPairs.T20 : Bool × List (List Nat × List Nat) := (true, [([], []), ([], []), ([], []), ([1, 2], [1, 2]), ([3], [3]), ([], []), ([], []), ([], []), ([6, 7], [6, 7]), ([8], [8]), ([5, 9], [5, 9]), ([10], [10]), ([], []), ([11, 12], [11, 12]), ([0, 4, 0, 1, 2, 3, 4, 5, 6, 7, 8, 9, 10, 11, 12, 13], [0, 4]), ([14, 13, 0, 1, 2, 3, 4, 5, 6, 7, 8, 9, 10, 11, 12, 13], [13, 14])])
def spec_NarrowPairs.B20 : List Nat := [0, 0, 0, 6, 14, 0, 0, 0, 192, 448, 992, 2016, 0, 8160, 16383, 32767]
theorem spec_NarrowPairs.tab20 : rtab .any (opsOf Try.f42 20) = spec_NarrowPairs.T20 := by kernel_rfl
theorem spec_NarrowPairs.bits20 : waitsOk spec_NarrowPairs.T20.2 spec_NarrowPairs.B20 = true := by kernel_rfl
set_option maxHeartbeats 8000000 in
set_option maxRecDepth 100000 in
theorem spec_NarrowPairs.calls (k : Nat) (A0 : Option Addr) (c0 : Nat) (l0 : List Int) (a1 : Int) (r : List Int) (w : World) (hr0 : Kd.C (Kd.int .i64) w A0 l0.length l0) (hc0 : l0.length ≤ c0) (h : spec_NarrowPairs.f k l0 a1 = some r) :
    Calls Try.prog 42 #[.slice A0 l0.length c0, .int .i64 a1] w fun e w' => ∃ v0_ : Value, e = .returned (v0_) ∧ Kd.R (Kd.int .i64) 3 w' w.heap.size (fun _ => True) v0_ r ∧ Below w.heap.size w w' := by
  have HR0 := yam hr0
  have HC0 := yam hc0
  clear hr0 hc0
  have HB := yam (Below.refl w.heap.size w)
  have H : ((spec_MasksValid.f k l0 a1).bind fun t569 => (if t569 = true then ((spec_l6Copy.f l0).bind fun t573 => (spec_NarrowPairs.l0 k l0 a1 t573 0)) else (some (([] : List Int))))) = some r := h
  clear h
  replace H := Option.bind_eq_some_iff.mp H
  obtain ⟨t569, A30, H⟩ := H
  try dsimp only at H
  have A3 := yam A30
  clear A30
  by_cases c4 : t569 = true
  rotate_left
  · replace c4 := Bool.eq_false_iff.mpr c4
    subst c4
    have H1 : (some (([] : List Int))) = some r := by rw [if_neg (show ¬ (false = true) by decide)] at H; exact H
    clear H
    have H := H1
    clear H1
    obtain ⟨y570, hy570⟩ : ∃ y_ : List Int, y_ = (([] : List Int)) := ⟨_, rfl⟩
    replace H : (some y570) = some r := by first | (rw [hy570]; with_reducible exact H) | (have H2_ := (Option.bind_some _ _).symm.trans H; rw [hy570]; with_reducible exact H2_) | (have H2_ := (Option.bind_some _ _).symm.trans H; with_reducible exact H2_) | with_reducible exact H | (rw [hy570]; exact H) | exact H
    have Ny570 := yam hy570
    clear hy570
    obtain rfl := Option.some.inj H
    go_enter Try.func42, Try.ntmps42
    go_wp2_with (first | ((with_reducible refine gate_callee (f := 50) rfl ?_); refine goesL_ (some 14) rfl rfl Try.func50 (by kernel_rfl) rfl #[.slice A0 l0.length c0, .int .i64 a1] rfl (by (try simp only [List.map_toArray, List.map_cons, List.map_nil]); first | done | rfl | (simp only [List.length_drop, List.length_take]; rfl)) ?_; (with_reducible refine (spec_MasksValid.calls k _ _ l0 a1 false _ ?side1 ?side2 A3.out).mono ?_); (case side1 => exact Kd.Cz (HR0.out)); (case side2 => exact HC0.out); rintro e w' ⟨rfl, ⟨nd, rfl⟩⟩; refine ⟨_, rfl, ?_⟩) | ((with_reducible refine gate_dst (N := 16) rfl ?_); (try (refine gate_guard (by rfl) ?_; dsimp only)); refine Kd.R_lit (Kd.int .i64) _ 3 ?hg (N := 16) ?hd (xs := ([] : List Int)) (inner := []) (ok := fun _ => True) (okp := fun _ => True) ?hr ?hp (fun _ hk => hk) trivial (Below.refl _ _) (Nat.le_refl _) (by simp) ?_; (case hd => rfl); (case hg => rfl); (case hr => first | (go_simp; done) | (go_simp; rfl)); (case hp => exact (Reps.none _ _)); intro v571 w38 ho39 hb hg_ hnew_; clear hg_ hnew_; (first | rw [← Ny570.out] at ho39 | (simp only [Int.reduceToNat] at ho39; rw [← Ny570.out] at ho39)); have n0_ := yam (Kd.R_lower ho39 (below_size (yez HB.out))); have n1_ := yam (below_step (yez HB.out) hb); clear HB; have HO572 := n0_; have HB := n1_; clear n0_ n1_; clear hb ho39))
    go_ret
    exact ⟨_, by first | rfl | (simp [errW_none, errW_some] <;> rfl) | (simp [*, errW_none, errW_some] <;> rfl), by (with_reducible repeat (first | apply Kd.Ya | apply Kd.Yn | apply Kd.Yd)); exact HO572.out, by repeat (first | (with_reducible first | exact HB.out | apply yea | apply yen | apply yed) | exact HB.out)⟩

  subst c4
  have H1 : ((spec_l6Copy.f l0).bind fun t573 => (spec_NarrowPairs.l0 k l0 a1 t573 0)) = some r := by rw [if_pos rfl] at H; exact H
  clear H
  have H := H1
  clear H1
  replace H := Option.bind_eq_some_iff.mp H
  obtain ⟨t573, A50, H⟩ := H
  try dsimp only at H
  have A5 := yam A50
  clear A50
  have H' := yam H
  clear H
  go_enter Try.func42, Try.ntmps42
  go_wp2_with (first | ((with_reducible refine gate_callee (f := 50) rfl ?_); refine goesL_ (some 14) rfl rfl Try.func50 (by kernel_rfl) rfl #[.slice A0 l0.length c0, .int .i64 a1] rfl (by (try simp only [List.map_toArray, List.map_cons, List.map_nil]); first | done | rfl | (simp only [List.length_drop, List.length_take]; rfl)) ?_; (with_reducible refine (spec_MasksValid.calls k _ _ l0 a1 true _ ?side1 ?side2 A3.out).mono ?_); (case side1 => exact Kd.Cz (HR0.out)); (case side2 => exact HC0.out); rintro e w' ⟨rfl, ⟨nd, rfl⟩⟩; refine ⟨_, rfl, ?_⟩) | ((with_reducible refine gate_callee (f := 64) rfl ?_); refine goesL_ (some 18) rfl rfl Try.func64 (by kernel_rfl) rfl #[.slice A0 l0.length c0] rfl (by (try simp only [List.map_toArray, List.map_cons, List.map_nil]); first | done | rfl | (simp only [List.length_drop, List.length_take]; rfl)) ?_; (with_reducible refine (spec_l6Copy.calls _ _ l0 t573 _ ?side1 ?side2 A5.out).mono ?_); (case side1 => exact Kd.Cz (HR0.out)); (case side2 => exact HC0.out); rintro e w6 ⟨v574, rfl, ho0, hb⟩; refine ⟨_, rfl, ?_⟩; have n0_ := yam (Kd.R_lower ho0 (below_size (yez HB.out))); have n1_ := yam (below_step (yez HB.out) hb); clear HB; have HO575 := n0_; have HB := n1_; clear n0_ n1_; (try clear hb); (try clear hb2); (try clear hk); (try clear hi); (try clear ho0)))
  go_loopg [6] k (fun kq v6 w' => ∃ (x5_1 : List Int) (x6_1 : Int), v6 = .int .i64 x6_1 ∧ Aside0 (spec_NarrowPairs.l0 kq l0 a1 x5_1 x6_1 = some r) ∧ Aside0 (kq ≤ k) ∧ Aside0 (Kd.R (Kd.int .i64) 3 w' w.heap.size (fun _ => True) v574 x5_1) ∧ Aside0 (Below w.heap.size w w'))
  case atStart => exact ⟨(t573), (0), (by first | rfl | (simp; done) | (simp [*]; done)), H', ⟨Nat.le_refl _⟩, ⟨by (with_reducible repeat (first | apply Kd.Ya | apply Kd.Yn | apply Kd.Yd)); exact HO575.out⟩, ⟨by repeat (first | (with_reducible first | exact HB.out | apply yea | apply yen | apply yed) | exact HB.out)⟩⟩
  case round =>
    clear H'
    try clear p2
    try clear c4
    try clear c5
    try clear c6
    obtain ⟨x5_1, x6_1, rfl, HA, HK1, HO_5, HB⟩ := hrel
    cases gk with
    | zero => exact absurd HA.out (by simp [spec_NarrowPairs.l0])
    | succ k1 =>
      have H := HA.out
      clear HA
      simp only [spec_NarrowPairs.l0] at H
      by_cases c7 : x6_1 < (wrap64 (2 * a1))
      rotate_left
      · rw [if_neg c7] at H
        have c7b0 : decide (x6_1 < (wrap64 (2 * a1))) = false := decide_eq_false c7
        clear c7
        obtain rfl := Option.some.inj H
        go_wp2
        go_ret
        exact ⟨_, by first | rfl | (simp [errW_none, errW_some] <;> rfl) | (simp [*, errW_none, errW_some] <;> rfl), by (with_reducible repeat (first | apply Kd.Ya | apply Kd.Yn | apply Kd.Yd)); exact HO_5.out, by repeat (first | (with_reducible first | exact HB.out | apply yea | apply yen | apply yed) | exact HB.out)⟩
      rw [if_pos c7] at H
      have c7b0 : decide (x6_1 < (wrap64 (2 * a1))) = true := decide_eq_true c7
      clear c7
      replace H := Option.bind_eq_some_iff.mp H
      obtain ⟨t576, A80, H⟩ := H
      try dsimp only at H
      have A8 := yam A80
      clear A80
      have H' := yam H
      clear H
      go_wp2_with (first | ((with_reducible refine gate_callee (f := 61) rfl ?_); refine goesL_ (some 27) rfl rfl Try.func61 (by kernel_rfl) rfl #[.int .i64 a1, .int .i64 x6_1] rfl (by (try simp only [List.map_toArray, List.map_cons, List.map_nil]); first | done | rfl | (simp only [List.length_drop, List.length_take]; rfl)) ?_; (with_reducible refine (spec_LineCells.calls k1 a1 x6_1 t576 _ A8.out).mono ?_); rintro e w9 ⟨v577, rfl, ho0, hb⟩; refine ⟨_, rfl, ?_⟩; have n0_ := yam (Kd.Ye (Kd.Yz HO_5.out) (Kd.Yb ho0) hb); have n1_ := yam (Kd.R_lower (Kd.Yw ho0 (Kd.R_lt (Kd.Yz HO_5.out))) (below_size (yez HB.out))); have n2_ := yam (below_step (yez HB.out) hb); clear HO_5; clear HB; have HO_5 := n0_; have HO578 := n1_; have HB := n2_; clear n0_ n1_ n2_; (try clear hb); (try clear hb2); (try clear hk); (try clear hi); (try clear ho0)))
      go_loopg [8] k1 (fun kq v8 w' => ∃ (x5_2 : List Int) (x8_2 : Int), v8 = .int .i64 x8_2 ∧ Aside0 (spec_NarrowPairs.l1 kq l0 a1 x5_2 x6_1 t576 x8_2 = some r) ∧ Aside0 (kq ≤ k1) ∧ Aside0 (Kd.R (Kd.int .i64) 3 w' w.heap.size (fun k_ => some k_ ≠ (v577 : Value).ownBlock) v574 x5_2) ∧ Aside0 (Kd.R (Kd.int .i64) 3 w' w.heap.size (fun k_ => some k_ ≠ (v574 : Value).ownBlock) v577 t576) ∧ Aside0 (Below w.heap.size w w'))
      case atStart => exact ⟨(x5_1), (0), (by first | rfl | (simp; done) | (simp [*]; done)), H', ⟨Nat.le_refl _⟩, ⟨by (with_reducible repeat (first | apply Kd.Ya | apply Kd.Yn | apply Kd.Yd)); exact Kd.R_mono HO_5.out (fun _ hk => hk.2)⟩, ⟨by (with_reducible repeat (first | apply Kd.Ya | apply Kd.Yn | apply Kd.Yd)); exact Kd.R_mono HO578.out (fun _ hk => hk.2)⟩, ⟨by repeat (first | (with_reducible first | exact HB.out | apply yea | apply yen | apply yed) | exact HB.out)⟩⟩
      case round =>
        clear H'
        try clear p2
        try clear c4
        try clear c5
        try clear c6
        try clear p6
        try clear c7
        try clear c7b0
        try clear p2
        obtain ⟨x5_2, x8_2, rfl, HA, HK2, HO_5, HO_7, HB⟩ := hrel
        cases gk with
        | zero => exact absurd HA.out (by simp [spec_NarrowPairs.l1])
        | succ k2 =>
          have H := HA.out
          clear HA
          simp only [spec_NarrowPairs.l1] at H
          by_cases c10 : x8_2 < a1
          rotate_left
          · rw [if_neg c10] at H
            have c10b0 : decide (x8_2 < a1) = false := decide_eq_false c10
            clear c10
            have H' := yam H
            clear H
            go_wp2
            go_roundg k2
            case measure => have := HK1.out; have := HK2.out; omega
            case rel => exact ⟨(x5_2), (wrap64 (x6_1 + 1)), (by first | rfl | (simp; done) | (simp [*]; done)), H', ⟨by have := HK1.out; have := HK2.out; omega⟩, ⟨by (with_reducible repeat (first | apply Kd.Ya | apply Kd.Yn | apply Kd.Yd)); exact Kd.R_mono HO_5.out (fun _ hk => trivial)⟩, ⟨by repeat (first | (with_reducible first | exact HB.out | apply yea | apply yen | apply yed) | exact HB.out)⟩⟩
          rw [if_pos c10] at H
          have c10b0 : decide (x8_2 < a1) = true := decide_eq_true c10
          clear c10
          have H' := yam H
          clear H
          go_wp2
          go_loopg [9] k2 (fun kq v9 w' => ∃ (x5_3 : List Int) (x9_3 : Int), v9 = .int .i64 x9_3 ∧ Aside0 (spec_NarrowPairs.l2 kq l0 a1 x5_3 x6_1 t576 x8_2 x9_3 = some r) ∧ Aside0 (kq ≤ k2) ∧ Aside0 (Kd.R (Kd.int .i64) 3 w' w.heap.size (fun k_ => some k_ ≠ (v577 : Value).ownBlock) v574 x5_3) ∧ Aside0 (Kd.R (Kd.int .i64) 3 w' w.heap.size (fun k_ => some k_ ≠ (v574 : Value).ownBlock) v577 t576) ∧ Aside0 (Below w.heap.size w w'))
          case atStart => exact ⟨(x5_2), (0), (by first | rfl | (simp; done) | (simp [*]; done)), H', ⟨Nat.le_refl _⟩, ⟨by (with_reducible repeat (first | apply Kd.Ya | apply Kd.Yn | apply Kd.Yd)); exact HO_5.out⟩, ⟨by (with_reducible repeat (first | apply Kd.Ya | apply Kd.Yn | apply Kd.Yd)); exact HO_7.out⟩, ⟨by repeat (first | (with_reducible first | exact HB.out | apply yea | apply yen | apply yed) | exact HB.out)⟩⟩
          case round =>
            clear H'
            try clear c1
            try clear p2
            try clear c4
            try clear c5
            try clear c6
            try clear p6
            try clear c7
            try clear c7b0
            try clear c10
            try clear c10b0
            try clear p2
            try clear p6
            obtain ⟨x5_3, x9_3, rfl, HA, HK3, HO_5, HO_7, HB⟩ := hrel
            cases gk with
            | zero => exact absurd HA.out (by simp [spec_NarrowPairs.l2])
            | succ k3 =>
              have H := HA.out
              clear HA
              simp only [spec_NarrowPairs.l2] at H
              by_cases c11 : x9_3 < x8_2
              rotate_left
              · rw [if_neg c11] at H
                have c11b0 : decide (x9_3 < x8_2) = false := decide_eq_false c11
                clear c11
                have H' := yam H
                clear H
                go_wp2
                go_roundg k3
                case measure => have := HK1.out; have := HK2.out; have := HK3.out; omega
                case rel => exact ⟨(x5_3), (wrap64 (x8_2 + 1)), (by first | rfl | (simp; done) | (simp [*]; done)), H', ⟨by have := HK1.out; have := HK2.out; have := HK3.out; omega⟩, ⟨by (with_reducible repeat (first | apply Kd.Ya | apply Kd.Yn | apply Kd.Yd)); exact HO_5.out⟩, ⟨by (with_reducible repeat (first | apply Kd.Ya | apply Kd.Yn | apply Kd.Yd)); exact HO_7.out⟩, ⟨by repeat (first | (with_reducible first | exact HB.out | apply yea | apply yen | apply yed) | exact HB.out)⟩⟩
              rw [if_pos c11] at H
              have c11b0 : decide (x9_3 < x8_2) = true := decide_eq_true c11
              clear c11
              by_cases c12 : 0 ≤ x8_2
              rotate_left
              · rw [if_neg c12] at H
                exact absurd H (by simp)
              rw [if_pos c12] at H
              have c12b0 : decide (0 ≤ x8_2) = true := decide_eq_true c12
              clear c12
              by_cases c13 : x8_2 < (t576.length : Int)
              rotate_left
              · rw [if_neg c13] at H
                exact absurd H (by simp)
              rw [if_pos c13] at H
              have c13b0 : decide (x8_2 < (t576.length : Int)) = true := decide_eq_true c13
              clear c13
              by_cases c14 : 0 ≤ (rd t576 x8_2)
              rotate_left
              · rw [if_neg c14] at H
                exact absurd H (by simp)
              rw [if_pos c14] at H
              have c14b0 : decide (0 ≤ (rd t576 x8_2)) = true := decide_eq_true c14
              clear c14
              by_cases c15 : (rd t576 x8_2) < (l0.length : Int)
              rotate_left
              · rw [if_neg c15] at H
                exact absurd H (by simp)
              rw [if_pos c15] at H
              have c15b0 : decide ((rd t576 x8_2) < (l0.length : Int)) = true := decide_eq_true c15
              clear c15
              have HC16 := yam H
              clear H
              obtain ⟨Ao17, co17, eo17⟩ := Kd.R_slice HO_7.out
              subst eo17
              have p579 : 0 ≤ (x8_2 : Int) := of_decide_eq_true (by first | (with_reducible assumption) | assumption)
              have q579 : x8_2 < (t576.length : Int) := of_decide_eq_true (by first | (with_reducible assumption) | assumption)
              obtain ⟨ad579, e579, hx579_0⟩ := Kd.at_int (Kd.Yr HO_7.out).2.2 x8_2 p579 q579
              cases e579
              replace p579 := eq_true p579
              replace q579 := eq_true q579
              have p580 : 0 ≤ ((rd t576 x8_2) : Int) := of_decide_eq_true (by first | (with_reducible assumption) | assumption)
              have q580 : (rd t576 x8_2) < (l0.length : Int) := of_decide_eq_true (by first | (with_reducible assumption) | assumption)
              obtain ⟨ad580, e580, hx580_0⟩ := Kd.at_int HR0.out (rd t576 x8_2) p580 q580
              cases e580
              replace hx580_0 := (HB.out.cell (World.block_lt_of_cell? w _ hx580_0)).trans hx580_0
              replace p580 := eq_true p580
              replace q580 := eq_true q580
              go_upto_region 15 with (fail)
              go_cut [59] (fun v59 wc => ∃ (kq : Nat) (x59_15 : Bool), v59 = .bool x59_15 ∧ Aside0 (spec_NarrowPairs.j3 kq l0 a1 x5_3 x6_1 t576 x8_2 x9_3 (rd l0 (rd t576 x8_2)) x59_15 = some r) ∧ Aside0 (kq ≤ k3) ∧ Aside0 (Kd.R (Kd.int .i64) 3 wc w.heap.size (fun k_ => some k_ ≠ ((.slice (some ad579) t576.length co17) : Value).ownBlock) v574 x5_3) ∧ Aside0 (Kd.R (Kd.int .i64) 3 wc w.heap.size (fun k_ => some k_ ≠ (v574 : Value).ownBlock) (.slice (some ad579) t576.length co17) t576) ∧ Aside0 (Below w.heap.size w wc))
              case first =>
                have H := HC16.out
                clear HC16
                by_cases c18 : 0 ≤ x9_3
                rotate_left
                · rw [if_neg c18] at H
                  exact absurd H (by simp)
                rw [if_pos c18] at H
                have c18b0 : decide (0 ≤ x9_3) = true := decide_eq_true c18
                clear c18
                (first | rw [c18b0] | (simp only [i64_w, i32_w]; rw [c18b0]) | skip)
                by_cases c19 : x9_3 < (t576.length : Int)
                rotate_left
                · rw [if_neg c19] at H
                  exact absurd H (by simp)
                rw [if_pos c19] at H
                have c19b0 : decide (x9_3 < (t576.length : Int)) = true := decide_eq_true c19
                clear c19
                by_cases c20 : 0 ≤ (rd t576 x9_3)
                rotate_left
                · rw [if_neg c20] at H
                  exact absurd H (by simp)
                rw [if_pos c20] at H
                have c20b0 : decide (0 ≤ (rd t576 x9_3)) = true := decide_eq_true c20
                clear c20
                by_cases c21 : (rd t576 x9_3) < (l0.length : Int)
                rotate_left
                · rw [if_neg c21] at H
                  exact absurd H (by simp)
                rw [if_pos c21] at H
                have c21b0 : decide ((rd t576 x9_3) < (l0.length : Int)) = true := decide_eq_true c21
                clear c21
                by_cases c22 : (rd l0 (rd t576 x8_2)) = (rd l0 (rd t576 x9_3))
                rotate_left
                · rw [if_neg c22] at H
                  have c22b0 : ((rd l0 (rd t576 x8_2)) == (rd l0 (rd t576 x9_3))) = false := beq_eq_false_iff_ne.mpr c22
                  have c22b1 : ((rd l0 (rd t576 x8_2)) != (rd l0 (rd t576 x9_3))) = true := bne_iff_ne.mpr c22
                  have H' := yam H
                  clear H
                  have p581 : 0 ≤ (x9_3 : Int) := of_decide_eq_true (by first | (with_reducible assumption) | assumption)
                  have q581 : x9_3 < (t576.length : Int) := of_decide_eq_true (by first | (with_reducible assumption) | assumption)
                  obtain ⟨ad581, e581, hx581_0⟩ := Kd.at_int (Kd.Yr HO_7.out).2.2 x9_3 p581 q581
                  obtain rfl : ad579 = ad581 := (by injection e581)
                  replace p581 := eq_true p581
                  replace q581 := eq_true q581
                  have p582 : 0 ≤ ((rd t576 x9_3) : Int) := of_decide_eq_true (by first | (with_reducible assumption) | assumption)
                  have q582 : (rd t576 x9_3) < (l0.length : Int) := of_decide_eq_true (by first | (with_reducible assumption) | assumption)
                  obtain ⟨ad582, e582, hx582_0⟩ := Kd.at_int HR0.out (rd t576 x9_3) p582 q582
                  obtain rfl : ad580 = ad582 := (by injection e582)
                  replace hx582_0 := (HB.out.cell (World.block_lt_of_cell? w _ hx582_0)).trans hx582_0
                  replace p582 := eq_true p582
                  replace q582 := eq_true q582
                  go_wp2
                  go_meet
                  case rel => exact ⟨_, (true), (by first | rfl | (simp; done) | (simp [*]; done)), H', ⟨by have := HK1.out; have := HK2.out; have := HK3.out; first | omega | exact Nat.le_refl _⟩, ⟨by (with_reducible repeat (first | apply Kd.Ya | apply Kd.Yn | apply Kd.Yd)); exact HO_5.out⟩, ⟨by (with_reducible repeat (first | apply Kd.Ya | apply Kd.Yn | apply Kd.Yd)); exact HO_7.out⟩, ⟨by repeat (first | (with_reducible first | exact HB.out | apply yea | apply yen | apply yed) | exact HB.out)⟩⟩
                rw [if_pos c22] at H
                have c22b0 : ((rd l0 (rd t576 x8_2)) == (rd l0 (rd t576 x9_3))) = true := beq_iff_eq.mpr c22
                have c22b1 : ((rd l0 (rd t576 x8_2)) != (rd l0 (rd t576 x9_3))) = false := bne_eq_false_iff_eq.mpr c22
                clear c22
                replace H := Option.bind_eq_some_iff.mp H
                obtain ⟨t583, A230, H⟩ := H
                try dsimp only at H
                have A23 := yam A230
                clear A230
                have H' := yam H
                clear H
                have p581 : 0 ≤ (x9_3 : Int) := of_decide_eq_true (by first | (with_reducible assumption) | assumption)
                have q581 : x9_3 < (t576.length : Int) := of_decide_eq_true (by first | (with_reducible assumption) | assumption)
                obtain ⟨ad581, e581, hx581_0⟩ := Kd.at_int (Kd.Yr HO_7.out).2.2 x9_3 p581 q581
                obtain rfl : ad579 = ad581 := (by injection e581)
                replace p581 := eq_true p581
                replace q581 := eq_true q581
                have p582 : 0 ≤ ((rd t576 x9_3) : Int) := of_decide_eq_true (by first | (with_reducible assumption) | assumption)
                have q582 : (rd t576 x9_3) < (l0.length : Int) := of_decide_eq_true (by first | (with_reducible assumption) | assumption)
                obtain ⟨ad582, e582, hx582_0⟩ := Kd.at_int HR0.out (rd t576 x9_3) p582 q582
                obtain rfl : ad580 = ad582 := (by injection e582)
                replace hx582_0 := (HB.out.cell (World.block_lt_of_cell? w _ hx582_0)).trans hx582_0
                replace p582 := eq_true p582
                replace q582 := eq_true q582
                go_wp2_with (first | (go_at_call 51; (with_reducible refine (spec_MaskValues.calls k3 (rd l0 (rd t576 x8_2)) t583 _ A23.out).mono ?_); rintro e w24 ⟨v584, rfl, ho0, hb⟩; have n0_ := yam (Kd.Ye (Kd.Yz HO_5.out) (Kd.Yb ho0) hb); have n1_ := yam (Kd.Ye (Kd.Yz HO_7.out) (Kd.Yb ho0) hb); have n2_ := yam (Kd.R_lower (Kd.Yw (Kd.Yw ho0 (Kd.R_lt (Kd.Yz HO_5.out))) (Kd.R_lt (Kd.Yz HO_7.out))) (below_size (yez HB.out))); have n3_ := yam (below_step (yez HB.out) hb); clear HO_5; clear HO_7; clear HB; have HO_5 := n0_; have HO_7 := n1_; have HO585 := n2_; have HB := n3_; clear n0_ n1_ n2_ n3_; (try clear hb); (try clear hb2); (try clear hk); (try clear hi); (try clear ho0); obtain ⟨Ao25, co25, eo25⟩ := Kd.R_slice HO585.out; subst eo25))
                go_meet
                case rel => exact ⟨_, (((t583.length : Int) != 2)), (by first | rfl | (simp; done) | (simp [*]; done)), H', ⟨by have := HK1.out; have := HK2.out; have := HK3.out; first | omega | exact Nat.le_refl _⟩, ⟨by (with_reducible repeat (first | apply Kd.Ya | apply Kd.Yn | apply Kd.Yd)); exact Kd.R_mono HO_5.out (fun _ hk => hk.1)⟩, ⟨by (with_reducible repeat (first | apply Kd.Ya | apply Kd.Yn | apply Kd.Yd)); exact Kd.R_mono HO_7.out (fun _ hk => hk.1)⟩, ⟨by repeat (first | (with_reducible first | exact HB.out | apply yea | apply yen | apply yed) | exact HB.out)⟩⟩
              case rest =>
                clear HC16
                try clear c1
                try clear c2
                try clear p2
                try clear c4
                try clear c5
                try clear p5
                try clear q5
                try clear hx5
                try clear c6
                try clear p6
                try clear c7
                try clear c7b0
                try clear c10
                try clear c10b0
                try clear c11
                try clear c11b0
                try clear c12
                try clear c12b0
                try clear c13
                try clear c13b0
                try clear c14
                try clear c14b0
                try clear c15
                try clear c15b0
                try clear c18
                try clear c18b0
                try clear c19
                try clear c19b0
                try clear c20
                try clear c20b0
                try clear c21
                try clear c21b0
                try clear c22
                try clear c22b0
                try clear c22b1
                try clear hx579_0
                try clear hx580_0
                try clear hx581_0
                try clear hx582_0
                try clear p2
                try clear p579
                try clear p580
                try clear p581
                try clear p582
                try clear p6
                try clear q579
                try clear q580
                try clear q581
                try clear q582
                obtain ⟨kq, x59_15, rfl, HA, HJ15, HO_5, HO_7, HB⟩ := hcut
                cases kq with
                | zero => exact absurd HA.out (by simp [spec_NarrowPairs.j3])
                | succ kj15 =>
                  have H := HA.out
                  clear HA
                  simp only [spec_NarrowPairs.j3] at H
                  by_cases c26 : x59_15 = true
                  · subst c26
                    have H1 : (spec_NarrowPairs.l2 kj15 l0 a1 x5_3 x6_1 t576 x8_2 (wrap64 (x9_3 + 1))) = some r := by rw [if_pos rfl] at H; exact H
                    clear H
                    have H := H1
                    clear H1
                    have H' := yam H
                    clear H
                    go_wp2
                    go_roundg kj15
                    case measure => have := HK1.out; have := HK2.out; have := HK3.out; have := HJ15.out; omega
                    case rel => exact ⟨(x5_3), (wrap64 (x9_3 + 1)), (by first | rfl | (simp; done) | (simp [*]; done)), H', ⟨by have := HK1.out; have := HK2.out; have := HK3.out; have := HJ15.out; omega⟩, ⟨by (with_reducible repeat (first | apply Kd.Ya | apply Kd.Yn | apply Kd.Yd)); exact HO_5.out⟩, ⟨by (with_reducible repeat (first | apply Kd.Ya | apply Kd.Yn | apply Kd.Yd)); exact HO_7.out⟩, ⟨by repeat (first | (with_reducible first | exact HB.out | apply yea | apply yen | apply yed) | exact HB.out)⟩⟩
                  replace c26 := Bool.eq_false_iff.mpr c26
                  subst c26
                  have H1 : (spec_NarrowPairs.l3 kj15 l0 a1 x5_3 x6_1 t576 x8_2 x9_3 (rd l0 (rd t576 x8_2)) 0) = some r := by rw [if_neg (show ¬ (false = true) by decide)] at H; exact H
                  clear H
                  have H := H1
                  clear H1
                  have H' := yam H
                  clear H
                  go_wp2
                  go_loopg [11] kj15 (fun kq v11 w' => ∃ (x5_5 : List Int) (x11_5 : Int), v11 = .int .i64 x11_5 ∧ Aside0 (spec_NarrowPairs.l3 kq l0 a1 x5_5 x6_1 t576 x8_2 x9_3 (rd l0 (rd t576 x8_2)) x11_5 = some r) ∧ Aside0 (kq ≤ kj15) ∧ Aside0 (Kd.R (Kd.int .i64) 3 w' w.heap.size (fun k_ => some k_ ≠ ((.slice (some ad579) t576.length co17) : Value).ownBlock) v574 x5_5) ∧ Aside0 (Kd.R (Kd.int .i64) 3 w' w.heap.size (fun k_ => some k_ ≠ (v574 : Value).ownBlock) (.slice (some ad579) t576.length co17) t576) ∧ Aside0 (Below w.heap.size w w'))
                  case atStart => exact ⟨(x5_3), (0), (by first | rfl | (simp; done) | (simp [*]; done)), H', ⟨Nat.le_refl _⟩, ⟨by (with_reducible repeat (first | apply Kd.Ya | apply Kd.Yn | apply Kd.Yd)); exact HO_5.out⟩, ⟨by (with_reducible repeat (first | apply Kd.Ya | apply Kd.Yn | apply Kd.Yd)); exact HO_7.out⟩, ⟨by repeat (first | (with_reducible first | exact HB.out | apply yea | apply yen | apply yed) | exact HB.out)⟩⟩
                  case round =>
                    clear H'
                    try clear c1
                    try clear c2
                    try clear p2
                    try clear c4
                    try clear c5
                    try clear p5
                    try clear q5
                    try clear hx5
                    try clear c6
                    try clear p6
                    try clear c7
                    try clear c7b0
                    try clear c10
                    try clear c10b0
                    try clear c11
                    try clear c11b0
                    try clear c12
                    try clear c12b0
                    try clear c13
                    try clear c13b0
                    try clear c14
                    try clear c14b0
                    try clear c15
                    try clear c15b0
                    try clear c18
                    try clear c18b0
                    try clear c19
                    try clear c19b0
                    try clear c20
                    try clear c20b0
                    try clear c21
                    try clear c21b0
                    try clear c22
                    try clear c22b0
                    try clear c22b1
                    try clear c26
                    try clear hx579_0
                    try clear hx580_0
                    try clear hx581_0
                    try clear hx582_0
                    try clear p2
                    try clear p5
                    try clear p579
                    try clear p580
                    try clear p581
                    try clear p582
                    try clear p6
                    try clear q5
                    try clear q579
                    try clear q580
                    try clear q581
                    try clear q582
                    obtain ⟨x5_5, x11_5, rfl, HA, HK5, HO_5, HO_7, HB⟩ := hrel
                    cases gk with
                    | zero => exact absurd HA.out (by simp [spec_NarrowPairs.l3])
                    | succ k5 =>
                      have H := HA.out
                      clear HA
                      simp only [spec_NarrowPairs.l3] at H
                      by_cases c27 : x11_5 < a1
                      rotate_left
                      · rw [if_neg c27] at H
                        have c27b0 : decide (x11_5 < a1) = false := decide_eq_false c27
                        clear c27
                        have H' := yam H
                        clear H
                        go_wp2
                        go_roundg k5
                        case measure => have := HK1.out; have := HK2.out; have := HK3.out; have := HJ15.out; have := HK5.out; omega
                        case rel => exact ⟨(x5_5), (wrap64 (x9_3 + 1)), (by first | rfl | (simp; done) | (simp [*]; done)), H', ⟨by have := HK1.out; have := HK2.out; have := HK3.out; have := HJ15.out; have := HK5.out; omega⟩, ⟨by (with_reducible repeat (first | apply Kd.Ya | apply Kd.Yn | apply Kd.Yd)); exact HO_5.out⟩, ⟨by (with_reducible repeat (first | apply Kd.Ya | apply Kd.Yn | apply Kd.Yd)); exact HO_7.out⟩, ⟨by repeat (first | (with_reducible first | exact HB.out | apply yea | apply yen | apply yed) | exact HB.out)⟩⟩
                      rw [if_pos c27] at H
                      have c27b0 : decide (x11_5 < a1) = true := decide_eq_true c27
                      clear c27
                      by_cases c28 : x11_5 = x8_2
                      · rw [if_pos c28] at H
                        have c28b0 : (x11_5 == x8_2) = true := beq_iff_eq.mpr c28
                        have c28b1 : (x11_5 != x8_2) = false := bne_eq_false_iff_eq.mpr c28
                        clear c28
                        have H' := yam H
                        clear H
                        go_wp2
                        go_roundg k5
                        case measure => have := HK1.out; have := HK2.out; have := HK3.out; have := HJ15.out; have := HK5.out; omega
                        case rel => exact ⟨(x5_5), (wrap64 (x11_5 + 1)), (by first | rfl | (simp; done) | (simp [*]; done)), H', ⟨by have := HK1.out; have := HK2.out; have := HK3.out; have := HJ15.out; have := HK5.out; omega⟩, ⟨by (with_reducible repeat (first | apply Kd.Ya | apply Kd.Yn | apply Kd.Yd)); exact HO_5.out⟩, ⟨by (with_reducible repeat (first | apply Kd.Ya | apply Kd.Yn | apply Kd.Yd)); exact HO_7.out⟩, ⟨by repeat (first | (with_reducible first | exact HB.out | apply yea | apply yen | apply yed) | exact HB.out)⟩⟩
                      rw [if_neg c28] at H
                      have c28b0 : (x11_5 == x8_2) = false := beq_eq_false_iff_ne.mpr c28
                      have c28b1 : (x11_5 != x8_2) = true := bne_iff_ne.mpr c28
                      by_cases c29 : x11_5 = x9_3
                      · rw [if_pos c29] at H
                        have c29b0 : (x11_5 == x9_3) = true := beq_iff_eq.mpr c29
                        have c29b1 : (x11_5 != x9_3) = false := bne_eq_false_iff_eq.mpr c29
                        clear c29
                        have H' := yam H
                        clear H
                        go_wp2
                        go_roundg k5
                        case measure => have := HK1.out; have := HK2.out; have := HK3.out; have := HJ15.out; have := HK5.out; omega
                        case rel => exact ⟨(x5_5), (wrap64 (x11_5 + 1)), (by first | rfl | (simp; done) | (simp [*]; done)), H', ⟨by have := HK1.out; have := HK2.out; have := HK3.out; have := HJ15.out; have := HK5.out; omega⟩, ⟨by (with_reducible repeat (first | apply Kd.Ya | apply Kd.Yn | apply Kd.Yd)); exact HO_5.out⟩, ⟨by (with_reducible repeat (first | apply Kd.Ya | apply Kd.Yn | apply Kd.Yd)); exact HO_7.out⟩, ⟨by repeat (first | (with_reducible first | exact HB.out | apply yea | apply yen | apply yed) | exact HB.out)⟩⟩
                      rw [if_neg c29] at H
                      have c29b0 : (x11_5 == x9_3) = false := beq_eq_false_iff_ne.mpr c29
                      have c29b1 : (x11_5 != x9_3) = true := bne_iff_ne.mpr c29
                      by_cases c30 : 0 ≤ x11_5
                      rotate_left
                      · rw [if_neg c30] at H
                        exact absurd H (by simp)
                      rw [if_pos c30] at H
                      have c30b0 : decide (0 ≤ x11_5) = true := decide_eq_true c30
                      clear c30
                      by_cases c31 : x11_5 < (t576.length : Int)
                      rotate_left
                      · rw [if_neg c31] at H
                        exact absurd H (by simp)
                      rw [if_pos c31] at H
                      have c31b0 : decide (x11_5 < (t576.length : Int)) = true := decide_eq_true c31
                      clear c31
                      by_cases c32 : 0 ≤ (rd t576 x11_5)
                      rotate_left
                      · rw [if_neg c32] at H
                        exact absurd H (by simp)
                      rw [if_pos c32] at H
                      have c32b0 : decide (0 ≤ (rd t576 x11_5)) = true := decide_eq_true c32
                      clear c32
                      by_cases c33 : (rd t576 x11_5) < (x5_5.length : Int)
                      rotate_left
                      · rw [if_neg c33] at H
                        exact absurd H (by simp)
                      rw [if_pos c33] at H
                      have c33b0 : decide ((rd t576 x11_5) < (x5_5.length : Int)) = true := decide_eq_true c33
                      clear c33
                      obtain ⟨y589, hy589⟩ : ∃ y_ : List Int, y_ = (x5_5.set ((rd t576 x11_5) : Int).toNat (Go.bits .andNot .i64 (rd x5_5 (rd t576 x11_5)) (rd l0 (rd t576 x8_2)))) := ⟨_, rfl⟩
                      replace H : (spec_NarrowPairs.l3 k5 l0 a1 y589 x6_1 t576 x8_2 x9_3 (rd l0 (rd t576 x8_2)) (wrap64 (x11_5 + 1))) = some r := by first | (rw [hy589]; with_reducible exact H) | (have H2_ := (Option.bind_some _ _).symm.trans H; rw [hy589]; with_reducible exact H2_) | (have H2_ := (Option.bind_some _ _).symm.trans H; with_reducible exact H2_) | with_reducible exact H | (rw [hy589]; exact H) | exact H
                      have Ny589 := yam hy589
                      clear hy589
                      have H' := yam H
                      clear H
                      try go_wp2
                      have n0_ := yam (Kd.Yd HO_5.out)
                      have n1_ := yam (Kd.Yd HO_7.out)
                      have n2_ := yam (yed HB.out)
                      clear HO_5
                      clear HO_7
                      clear HB
                      have HO_5 := n0_
                      have HO_7 := n1_
                      have HB := n2_
                      clear n0_ n1_ n2_
                      have p586 : 0 ≤ (x11_5 : Int) := of_decide_eq_true (by first | (with_reducible assumption) | assumption)
                      have q586 : x11_5 < (t576.length : Int) := of_decide_eq_true (by first | (with_reducible assumption) | assumption)
                      obtain ⟨ad586, e586, hx586_0⟩ := Kd.at_int (Kd.Yr HO_7.out).2.2 x11_5 p586 q586
                      obtain rfl : ad579 = ad586 := (by injection e586)
                      replace p586 := eq_true p586
                      replace q586 := eq_true q586
                      have p587 : 0 ≤ (x11_5 : Int) := of_decide_eq_true (by first | (with_reducible assumption) | assumption)
                      have q587 : x11_5 < (t576.length : Int) := of_decide_eq_true (by first | (with_reducible assumption) | assumption)
                      obtain ⟨ad587, e587, hx587_0⟩ := Kd.at_int (Kd.Yr HO_7.out).2.2 x11_5 p587 q587
                      obtain rfl : ad579 = ad587 := (by injection e587)
                      replace p587 := eq_true p587
                      replace q587 := eq_true q587
                      obtain ⟨Ao36, co36, eo36⟩ := Kd.R_slice HO_5.out
                      (first | subst eo36 | (injection eo36 with f1_ f2_ f3_; have f4_ := f1_.symm; have f5_ := f3_.symm; clear f1_ f2_ f3_; subst f4_; subst f5_))
                      have p588 : 0 ≤ ((rd t576 x11_5) : Int) := of_decide_eq_true (by first | (with_reducible assumption) | assumption)
                      have q588 : (rd t576 x11_5) < (x5_5.length : Int) := of_decide_eq_true (by first | (with_reducible assumption) | assumption)
                      obtain ⟨ad588, e588, hx588_0⟩ := Kd.at_int (Kd.Yr HO_5.out).2.2 (rd t576 x11_5) p588 q588
                      cases e588
                      replace p588 := eq_true p588
                      replace q588 := eq_true q588
                      have p34 : 0 ≤ ((rd t576 x11_5) : Int) := of_decide_eq_true (by first | (with_reducible assumption) | assumption)
                      have q34 : ((rd t576 x11_5) : Int) < ((x5_5.length : Int) : Int) := of_decide_eq_true (by first | (with_reducible assumption) | assumption)
                      obtain ⟨go34, co34, eo34, gb34, gl34, cl34, HG34⟩ := Kd.R_form HO_5.out (by omega)
                      (first | cases eo34 | (injection eo34 with ea_ en_ ec_; (first | subst ea_ | (injection ea_ with ea_; subst ea_)); subst ec_; clear en_))
                      have GB34 := yam gb34
                      have GG34 := yam HG34
                      clear gb34 gl34 HG34
                      (first | simp only [add_plain] at hx588_0 | skip)
                      obtain ⟨hx34_0, hf34_0⟩ := Kd.R_celln 0 HO_5.out ((rd t576 x11_5) : Int) p34 q34
                      replace p34 := eq_true p34
                      replace q34 := eq_true q34
                      have HP37 := Kd.R_putn HO_5.out ((rd t576 x11_5) : Int) (Go.bits .andNot .i64 (rd x5_5 (rd t576 x11_5)) (rd l0 (rd t576 x8_2)))
                      rw [← Ny589.out] at HP37
                      have HQ37 := yam HP37
                      clear HP37
                      refine start_ (n := 16) (S := fun w' => w'.cell? (ad579.add (x11_5).toNat) = some (.int .i64 (rd t576 x11_5)) ∧ w'.cell? (ad579.add (x11_5).toNat) = some (.int .i64 (rd t576 x11_5)) ∧ w'.cell? ⟨go34, ((rd t576 x11_5)).toNat, none⟩ = some (.int .i64 (rd x5_5 (rd t576 x11_5)))) (ds := [15]) #[false, false, false, false, false, false, false, false, false, false, false, false, false, false, false, false] (by kernel_rfl) rfl rfl ⟨hx586_0, hx587_0, hx588_0⟩ (fun hHeld => ?_); refine with_tabW spec_NarrowPairs.tab20 spec_NarrowPairs.bits20 (fun HT_ HW_ => ?_)
                      generalize wr.drew = w35 at HO_5 HO_7 HB GG34 HQ37 hf34_0 hx34_0 hx586_0 hx587_0 hx588_0 hHeld ⊢
                      refine pure_ (i := 0) (N := some 73) (v := ?_) (a' := ?_) #[true, false, false, false, false, false, false, false, false, false, false, false, false, false, false, false] rfl rfl (any_of HT_.out (by kernel_rfl)) (fun _ _ _ h => h) (Or.inl ⟨by rfl, ?_⟩) ?_ ?_
                      rotate_left
                      · intro w'
                        go_simp
                        with_reducible rfl
                      rotate_left
                      · simp only [Act.put, yps, i64_w, i32_w]
                        rfl
                      refine pure_ (i := 1) (N := some 74) (v := ?_) (a' := ?_) #[true, true, false, false, false, false, false, false, false, false, false, false, false, false, false, false] rfl rfl (any_of HT_.out (by kernel_rfl)) (fun _ _ _ h => h) (Or.inl ⟨by rfl, ?_⟩) ?_ ?_
                      rotate_left
                      · intro w'
                        go_simp
                        with_reducible rfl
                      rotate_left
                      · simp only [Act.put, yps, i64_w, i32_w]
                        rfl
                      refine pure_ (i := 2) (N := some 75) (v := ?_) (a' := ?_) #[true, true, true, false, false, false, false, false, false, false, false, false, false, false, false, false] rfl rfl (any_of HT_.out (by kernel_rfl)) (fun _ _ _ h => h) (Or.inl ⟨by rfl, ?_⟩) ?_ ?_
                      rotate_left
                      · intro w'
                        go_simp
                        with_reducible rfl
                      rotate_left
                      · simp only [Act.put, yps, i64_w, i32_w]
                        rfl
                      refine pure_ (i := 3) (N := some 76) (v := ?_) (a' := ?_) #[true, true, true, true, false, false, false, false, false, false, false, false, false, false, false, false] rfl rfl (any_of HT_.out (by kernel_rfl)) (fun _ _ _ h => h) (Or.inl ⟨by rfl, ?_⟩) ?_ ?_
                      rotate_left
                      · intro w'
                        go_simp
                        with_reducible rfl
                      rotate_left
                      · simp only [Act.put, yps, i64_w, i32_w]
                        rfl
                      refine pure_ (i := 5) (N := some 78) (v := ?_) (a' := ?_) #[true, true, true, true, false, true, false, false, false, false, false, false, false, false, false, false] rfl rfl (any_of HT_.out (by kernel_rfl)) (fun _ _ _ h => h) (Or.inl ⟨by rfl, ?_⟩) ?_ ?_
                      rotate_left
                      · intro w'
                        go_simp
                        with_reducible rfl
                      rotate_left
                      · simp only [Act.put, yps, i64_w, i32_w]
                        rfl
                      refine pure_ (i := 6) (N := some 79) (v := ?_) (a' := ?_) #[true, true, true, true, false, true, true, false, false, false, false, false, false, false, false, false] rfl rfl (any_of HT_.out (by kernel_rfl)) (fun _ _ _ h => h) (Or.inl ⟨by rfl, ?_⟩) ?_ ?_
                      rotate_left
                      · intro w'
                        go_simp
                        with_reducible rfl
                      rotate_left
                      · simp only [Act.put, yps, i64_w, i32_w]
                        rfl
                      refine pure_ (i := 7) (N := some 80) (v := ?_) (a' := ?_) #[true, true, true, true, false, true, true, true, false, false, false, false, false, false, false, false] rfl rfl (any_of HT_.out (by kernel_rfl)) (fun _ _ _ h => h) (Or.inl ⟨by rfl, ?_⟩) ?_ ?_
                      rotate_left
                      · intro w'
                        go_simp
                        with_reducible rfl
                      rotate_left
                      · simp only [Act.put, yps, i64_w, i32_w]
                        rfl
                      refine pure_ (i := 8) (N := some 81) (v := ?_) (a' := ?_) #[true, true, true, true, false, true, true, true, true, false, false, false, false, false, false, false] rfl rfl (any_of HT_.out (by kernel_rfl)) (fun _ _ _ h => h) (Or.inl ⟨by rfl, ?_⟩) ?_ ?_
                      rotate_left
                      · intro w'
                        go_simp
                        with_reducible rfl
                      rotate_left
                      · simp only [Act.put, yps, i64_w, i32_w]
                        rfl
                      refine pure_ (i := 12) (N := some 85) (v := ?_) (a' := ?_) #[true, true, true, true, false, true, true, true, true, false, false, false, true, false, false, false] rfl rfl (any_of HT_.out (by kernel_rfl)) (fun _ _ _ h => h) (Or.inl ⟨by rfl, ?_⟩) ?_ ?_
                      rotate_left
                      · intro w'
                        go_simp
                        with_reducible rfl
                      rotate_left
                      · simp only [Act.put, yps, i64_w, i32_w]
                        rfl
                      refine take_ (i := 4) (N := some 77) (v := ?_) (a' := ?_) #[true, true, true, true, true, true, true, true, true, false, false, false, true, false, false, false] rfl rfl (take_ofW HT_.out HW_.out (by kernel_rfl)) (fun _ _ _ h => h) (Or.inl ⟨by rfl, ?_⟩) hHeld ?_ ?_
                      rotate_left
                      · rintro w' ⟨s0, s1, s2⟩
                        go_simp
                        with_reducible rfl
                      rotate_left
                      · simp only [Act.put, yps, i64_w, i32_w]
                        rfl
                      refine take_ (i := 9) (N := some 82) (v := ?_) (a' := ?_) #[true, true, true, true, true, true, true, true, true, true, false, false, true, false, false, false] rfl rfl (take_ofW HT_.out HW_.out (by kernel_rfl)) (fun _ _ _ h => h) (Or.inl ⟨by rfl, ?_⟩) hHeld ?_ ?_
                      rotate_left
                      · rintro w' ⟨s0, s1, s2⟩
                        go_simp
                        with_reducible rfl
                      rotate_left
                      · simp only [Act.put, yps, i64_w, i32_w]
                        rfl
                      refine pure_ (i := 10) (N := some 83) (v := ?_) (a' := ?_) #[true, true, true, true, true, true, true, true, true, true, true, false, true, false, false, false] rfl rfl (any_of HT_.out (by kernel_rfl)) (fun _ _ _ h => h) (Or.inl ⟨by rfl, ?_⟩) ?_ ?_
                      rotate_left
                      · intro w'
                        go_simp
                        with_reducible rfl
                      rotate_left
                      · simp only [Act.put, yps, i64_w, i32_w]
                        rfl
                      refine take_ (i := 11) (N := some 84) (v := ?_) (a' := ?_) #[true, true, true, true, true, true, true, true, true, true, true, true, true, false, false, false] rfl rfl (take_ofW HT_.out HW_.out (by kernel_rfl)) (fun _ _ _ h => h) (Or.inl ⟨by rfl, ?_⟩) hHeld ?_ ?_
                      rotate_left
                      · rintro w' ⟨s0, s1, s2⟩
                        go_simp
                        with_reducible rfl
                      rotate_left
                      · simp only [Act.put, yps, i64_w, i32_w]
                        rfl
                      refine pure_ (i := 13) (N := some 86) (v := ?_) (a' := ?_) #[true, true, true, true, true, true, true, true, true, true, true, true, true, true, false, false] rfl rfl (any_of HT_.out (by kernel_rfl)) (fun _ _ _ h => h) (Or.inl ⟨by rfl, ?_⟩) ?_ ?_
                      rotate_left
                      · intro w'
                        go_simp
                        with_reducible rfl
                      rotate_left
                      · simp only [Act.put, yps, i64_w, i32_w]
                        rfl
                      refine pure_ (i := 14) (N := some 87) (v := ?_) (a' := ?_) #[true, true, true, true, true, true, true, true, true, true, true, true, true, true, true, false] rfl rfl (any_of HT_.out (by kernel_rfl)) (fun _ _ _ h => h) (Or.inl ⟨by rfl, ?_⟩) ?_ ?_
                      rotate_left
                      · intro w'
                        go_simp
                        with_reducible rfl
                      rotate_left
                      · simp only [Act.put, yps, i64_w, i32_w]
                        rfl
                      refine last_ (i := 15) (N := none) #[true, true, true, true, true, true, true, true, true, true, true, true, true, true, true, true] rfl rfl (one_of HT_.out (by kernel_rfl)) (by decide) (fun K hK => ?_)
                      refine skip_ (w1 := ?_) (by rfl) rfl ?_ ?_
                      rotate_left
                      · go_simp
                        rfl
                      refine hK.out _ _ ?_
                      clear hK K
                      refine done_ (done_of HT_.out (by kernel_rfl)) ?_
                      try go_wp2
                      go_roundg k5
                      case measure => have := HK1.out; have := HK2.out; have := HK3.out; have := HJ15.out; have := HK5.out; omega
                      case rel => exact ⟨(y589), (wrap64 (x11_5 + 1)), (by first | rfl | (simp; done) | (simp [*]; done)), H', ⟨by have := HK1.out; have := HK2.out; have := HK3.out; have := HJ15.out; have := HK5.out; omega⟩, ⟨by (with_reducible repeat (first | apply Kd.Ya | apply Kd.Yn | apply Kd.Yd)); exact HQ37.out⟩, ⟨by (with_reducible repeat (first | apply Kd.Ya | apply Kd.Yn | apply Kd.Yd)); exact Kd.R_mono (Kd.R_far (p := ⟨go34, ((rd t576 x11_5) : Int).toNat, none⟩) (Kd.R_mono HO_7.out (fun k_ hk => (⟨hk, fun e_ => hk (by rw [e_]; rfl)⟩ : _ ∧ k_ ≠ go34))) (fun _ hk => hk.2) (.int .i64 (Go.bits .andNot .i64 (rd x5_5 (rd t576 x11_5)) (rd l0 (rd t576 x8_2))))) (fun _ hk => hk.1)⟩, ⟨by repeat (first | (with_reducible first | exact HB.out | apply yea | apply yen | apply yed | refine below_set ?_ GB34.out) | exact HB.out)⟩⟩
end Go.Proofs.Ytaglakdahmepeaa.P
namespace Go.Proofs.Ytaglakdahmepeaa.P
open Go.RowKit Go.Proofs.YtaglakdahmepeaaW.PrintWords Go.Proofs.YtaglakdahmepeaaW.PrintLast Go.Proofs.YtaglakdahmepeaaW.PrintMore
attribute [local go_sem] max2_int min2_int max_two min_two max_three min_three max_four min_four   -- for this text's walks alone
set_option linter.unusedVariables false
set_option linter.unusedSimpArgs false

/-! ### impl_sizeOk: function 59 -/
def impl_sizeOk.f (a0 : Int) : Option (Bool) := if a0 ≥ 2 then (some (decide (a0 ≤ 4))) else (some false)
set_option maxHeartbeats 8000000 in
set_option maxRecDepth 100000 in
theorem impl_sizeOk.calls (a0 : Int) (r : Bool) (w : World) (h : impl_sizeOk.f a0 = some r) :
    Calls Try.prog 59 #[.int .i64 a0] w fun e w' => e = .returned (.bool r) ∧ Drawn0 w w' := by
  have H : (if a0 ≥ 2 then (some (decide (a0 ≤ 4))) else (some false)) = some r := h
  clear h
  by_cases c2 : a0 ≥ 2
  · rw [if_pos c2] at H
    have c2b0 : decide (2 ≤ a0) = true := decide_eq_true c2
    clear c2
    obtain rfl := Option.some.inj H
    go_enter Try.func59, Try.ntmps59
    go_wp2
    go_ret
    exact ⟨by first | rfl | (simp; done) | (simp [*]; done), by repeat (first | exact Drawn0.refl _ | apply Drawn0.step)⟩
  rw [if_neg c2] at H
  have c2b0 : decide (2 ≤ a0) = false := decide_eq_false c2
  clear c2
  obtain rfl := Option.some.inj H
  go_enter Try.func59, Try.ntmps59
  go_wp2
  go_ret
  exact ⟨by first | rfl | (simp; done) | (simp [*]; done), by repeat (first | exact Drawn0.refl _ | apply Drawn0.step)⟩

end Go.Proofs.Ytaglakdahmepeaa.P
namespace Go.Proofs.Ytaglakdahmepeaa.P
open Go.RowKit Go.Proofs.YtaglakdahmepeaaW.PrintWords Go.Proofs.YtaglakdahmepeaaW.PrintLast Go.Proofs.YtaglakdahmepeaaW.PrintMore
attribute [local go_sem] max2_int min2_int max_two min_two max_three min_three max_four min_four   -- for this text's walks alone
set_option linter.unusedVariables false
set_option linter.unusedSimpArgs false

/-! ### impl_LineCells: function 49 -/
mutual
def impl_LineCells.j0 : Nat → Int → Int → Bool → Option (List Int)
  | 0, _, _, _ => none
  | k + 1, x0, x1, x19 => if x19 = true then (some ([] : List Int)) else (if 0 ≤ x0 then (if (x0 : Int).toNat ≤ 35184372088832 then (impl_LineCells.l0 k x0 x1 (([] : List Int)) x0 0) else (none)) else (none))
def impl_LineCells.l0 : Nat → Int → Int → List Int → Int → Int → Option (List Int)
  | 0, _, _, _, _, _ => none
  | k + 1, x0, x1, x5, x22, x23 => if x23 < x22 then (if x1 < x0 then (if x5.length < 17592186044416 then (impl_LineCells.l0 k x0 x1 (x5 ++ [wrap64 ((wrap64 (x1 * x0)) + x23)]) x22 (wrap64 (x23 + 1))) else (none)) else (if x5.length < 17592186044416 then (impl_LineCells.l0 k x0 x1 (x5 ++ [wrap64 ((wrap64 ((wrap64 (x23 * x0)) + x1)) - x0)]) x22 (wrap64 (x23 + 1))) else (none))) else (some x5)
end
def impl_LineCells.f (k : Nat) (a0 : Int) (a1 : Int) : Option (List Int) := (impl_sizeOk.f a0).bind fun t129 => (if t129 = true then (if a1 < 0 then (impl_LineCells.j0 k a0 a1 true) else (impl_LineCells.j0 k a0 a1 (decide (a1 ≥ (wrap64 (2 * a0)))))) else (impl_LineCells.j0 k a0 a1 true))
theorem impl_LineCells.mono_l : ∀ k, (∀ y0 y1 y2, LeO (impl_LineCells.j0 k y0 y1 y2) (impl_LineCells.j0 (k + 1) y0 y1 y2)) ∧ (∀ y0 y1 y2 y3 y4, LeO (impl_LineCells.l0 k y0 y1 y2 y3 y4) (impl_LineCells.l0 (k + 1) y0 y1 y2 y3 y4))
  | 0 => ⟨fun _ _ _ r h => by simp [impl_LineCells.j0] at h, fun _ _ _ _ _ r h => by simp [impl_LineCells.l0] at h⟩
  | k + 1 => by
    obtain ⟨ih0, ih1⟩ := impl_LineCells.mono_l k
    refine ⟨?_, ?_⟩
    · intro y0 y1 y2
      unfold impl_LineCells.j0
      repeat' first
      | (with_reducible exact ih0 _ _ _)
      | (with_reducible exact ih1 _ _ _ _ _)
      | (with_reducible exact LeO.refl _)
      | (with_reducible exact LeO.none _)
      | (with_reducible refine LeO.ite ?_ ?_)
      | (with_reducible refine LeO.bind ?_ (fun _ => ?_))
      | exact ih0 _ _ _
      | exact ih1 _ _ _ _ _
      | exact LeO.none _
      | refine LeO.ite ?_ ?_
      | refine LeO.bind ?_ (fun _ => ?_)
    · intro y0 y1 y2 y3 y4
      unfold impl_LineCells.l0
      repeat' first
      | (with_reducible exact ih0 _ _ _)
      | (with_reducible exact ih1 _ _ _ _ _)
      | (with_reducible exact LeO.refl _)
      | (with_reducible exact LeO.none _)
      | (with_reducible refine LeO.ite ?_ ?_)
      | (with_reducible refine LeO.bind ?_ (fun _ => ?_))
      | exact ih0 _ _ _
      | exact ih1 _ _ _ _ _
      | exact LeO.none _
      | refine LeO.ite ?_ ?_
      | refine LeO.bind ?_ (fun _ => ?_)
theorem impl_LineCells.mono : ∀ a0 a1 k, LeO (impl_LineCells.f k a0 a1) (impl_LineCells.f (k + 1) a0 a1) := by
  intro a0 a1 k
  obtain ⟨ih0, ih1⟩ := impl_LineCells.mono_l k
  unfold impl_LineCells.f
  repeat' first
      | (with_reducible exact ih0 _ _ _)
      | (with_reducible exact ih1 _ _ _ _ _)
      | (with_reducible exact LeO.refl _)
      | (with_reducible exact LeO.none _)
      | (with_reducible refine LeO.ite ?_ ?_)
      | (with_reducible refine LeO.bind ?_ (fun _ => ?_))
      | exact ih0 _ _ _
      | exact ih1 _ _ _ _ _
      | exact LeO.none _
      | refine LeO.ite ?_ ?_
      | refine LeO.bind ?_ (fun _ => ?_)
set_option maxHeartbeats 8000000 in
set_option maxRecDepth 100000 in
theorem impl_LineCells.calls (k : Nat) (a0 : Int) (a1 : Int) (r : List Int) (w : World) (h : impl_LineCells.f k a0 a1 = some r) :
    Calls Try.prog 49 #[.int .i64 a0, .int .i64 a1] w fun e w' => ∃ v0_ : Value, e = .returned (v0_) ∧ Kd.R (Kd.int .i64) 3 w' w.heap.size (fun _ => True) v0_ r ∧ Below w.heap.size w w' := by
  have HB := yam (Below.refl w.heap.size w)
  have H : ((impl_sizeOk.f a0).bind fun t129 => (if t129 = true then (if a1 < 0 then (impl_LineCells.j0 k a0 a1 true) else (impl_LineCells.j0 k a0 a1 (decide (a1 ≥ (wrap64 (2 * a0)))))) else (impl_LineCells.j0 k a0 a1 true))) = some r := h
  clear h
  have HC3 := yam H
  clear H
  go_enter Try.func49, Try.ntmps49
  go_upto_region 1 with (fail)
  go_cut [19] (fun v19 wc => ∃ (kq : Nat) (x19_2 : Bool), v19 = .bool x19_2 ∧ Aside0 (impl_LineCells.j0 kq a0 a1 x19_2 = some r) ∧ Aside0 (kq ≤ k) ∧ Aside0 (Below w.heap.size w wc))
  case first =>
    have H := HC3.out
    clear HC3
    replace H := Option.bind_eq_some_iff.mp H
    obtain ⟨t129, A40, H⟩ := H
    try dsimp only at H
    have A4 := yam A40
    clear A40
    by_cases c5 : t129 = true
    rotate_left
    · replace c5 := Bool.eq_false_iff.mpr c5
      subst c5
      have H1 : (impl_LineCells.j0 k a0 a1 true) = some r := by rw [if_neg (show ¬ (false = true) by decide)] at H; exact H
      clear H
      have H := H1
      clear H1
      have H' := yam H
      clear H
      go_wp2_with (first | ((with_reducible refine gate_callee (f := 59) rfl ?_); refine goesL_ (some 8) rfl rfl Try.func59 (by kernel_rfl) rfl #[.int .i64 a0] rfl (by (try simp only [List.map_toArray, List.map_cons, List.map_nil]); first | done | rfl | (simp only [List.length_drop, List.length_take]; rfl)) ?_; (with_reducible refine (impl_sizeOk.calls a0 false _ A4.out).mono ?_); rintro e w' ⟨rfl, ⟨nd, rfl⟩⟩; refine ⟨_, rfl, ?_⟩))
      go_meet
      case rel => exact ⟨_, (true), (by first | rfl | (simp; done) | (simp [*]; done)), H', ⟨by first | omega | exact Nat.le_refl _⟩, ⟨by repeat (first | (with_reducible first | exact HB.out | apply yea | apply yen | apply yed) | exact HB.out)⟩⟩
    subst c5
    have H1 : (if a1 < 0 then (impl_LineCells.j0 k a0 a1 true) else (impl_LineCells.j0 k a0 a1 (decide (a1 ≥ (wrap64 (2 * a0)))))) = some r := by rw [if_pos rfl] at H; exact H
    clear H
    have H := H1
    clear H1
    by_cases c6 : a1 < 0
    · rw [if_pos c6] at H
      have c6b0 : decide (a1 < 0) = true := decide_eq_true c6
      clear c6
      (first | rw [c6b0] | (simp only [i64_w, i32_w]; rw [c6b0]) | skip)
      have H' := yam H
      clear H
      go_wp2_with (first | ((with_reducible refine gate_callee (f := 59) rfl ?_); refine goesL_ (some 8) rfl rfl Try.func59 (by kernel_rfl) rfl #[.int .i64 a0] rfl (by (try simp only [List.map_toArray, List.map_cons, List.map_nil]); first | done | rfl | (simp only [List.length_drop, List.length_take]; rfl)) ?_; (with_reducible refine (impl_sizeOk.calls a0 true _ A4.out).mono ?_); rintro e w' ⟨rfl, ⟨nd, rfl⟩⟩; refine ⟨_, rfl, ?_⟩))
      go_meet
      case rel => exact ⟨_, (true), (by first | rfl | (simp; done) | (simp [*]; done)), H', ⟨by first | omega | exact Nat.le_refl _⟩, ⟨by repeat (first | (with_reducible first | exact HB.out | apply yea | apply yen | apply yed) | exact HB.out)⟩⟩
    rw [if_neg c6] at H
    have c6b0 : decide (a1 < 0) = false := decide_eq_false c6
    clear c6
    (first | rw [c6b0] | (simp only [i64_w, i32_w]; rw [c6b0]) | skip)
    have H' := yam H
    clear H
    go_wp2_with (first | ((with_reducible refine gate_callee (f := 59) rfl ?_); refine goesL_ (some 8) rfl rfl Try.func59 (by kernel_rfl) rfl #[.int .i64 a0] rfl (by (try simp only [List.map_toArray, List.map_cons, List.map_nil]); first | done | rfl | (simp only [List.length_drop, List.length_take]; rfl)) ?_; (with_reducible refine (impl_sizeOk.calls a0 true _ A4.out).mono ?_); rintro e w' ⟨rfl, ⟨nd, rfl⟩⟩; refine ⟨_, rfl, ?_⟩))
    go_meet
    case rel => exact ⟨_, (decide (a1 ≥ (wrap64 (2 * a0)))), (by first | rfl | (simp; done) | (simp [*]; done)), H', ⟨by first | omega | exact Nat.le_refl _⟩, ⟨by repeat (first | (with_reducible first | exact HB.out | apply yea | apply yen | apply yed) | exact HB.out)⟩⟩
  case rest =>
    clear HC3
    try clear p2
    try clear c4
    try clear c5
    try clear c6
    try clear c6b0
    try clear p6
    obtain ⟨kq, x19_2, rfl, HA, HJ2, HB⟩ := hcut
    cases kq with
    | zero => exact absurd HA.out (by simp [impl_LineCells.j0])
    | succ kj2 =>
      have H := HA.out
      clear HA
      simp only [impl_LineCells.j0] at H
      by_cases c7 : x19_2 = true
      · subst c7
        have H1 : (some ([] : List Int)) = some r := by rw [if_pos rfl] at H; exact H
        clear H
        have H := H1
        clear H1
        obtain rfl := Option.some.inj H
        go_wp2
        go_ret
        exact ⟨_, by first | rfl | (simp [errW_none, errW_some] <;> rfl) | (simp [*, errW_none, errW_some] <;> rfl), by first | exact Kd.R_nil _ _ _ _ _ | exact Kd.N_nil _ _ _ _ _ | exact Kd.V_nil _ _ _ _ _ | exact Kd.Q_nil _ _ _ _ _ | exact Kd.S_nil _ _ _ _ _, by repeat (first | (with_reducible first | exact HB.out | apply yea | apply yen | apply yed) | exact HB.out)⟩
      replace c7 := Bool.eq_false_iff.mpr c7
      subst c7
      have H1 : (if 0 ≤ a0 then (if (a0 : Int).toNat ≤ 35184372088832 then (impl_LineCells.l0 kj2 a0 a1 (([] : List Int)) a0 0) else (none)) else (none)) = some r := by rw [if_neg (show ¬ (false = true) by decide)] at H; exact H
      clear H
      have H := H1
      clear H1
      by_cases c8 : 0 ≤ a0
      rotate_left
      · rw [if_neg c8] at H
        exact absurd H (by simp)

      rw [if_pos c8] at H
      have c8b0 := eq_true c8
      have c8b1 : decide (0 ≤ a0) = true := decide_eq_true c8
      clear c8
      by_cases c9 : (a0 : Int).toNat ≤ 35184372088832
      rotate_left
      · rw [if_neg c9] at H
        exact absurd H (by simp)
      rw [if_pos c9] at H
      have c9b0 := eq_true c9
      have c9b1 : decide ((a0 : Int).toNat ≤ 35184372088832) = true := decide_eq_true c9
      clear c9
      obtain ⟨y130, hy130⟩ : ∃ y_ : List Int, y_ = (([] : List Int)) := ⟨_, rfl⟩
      replace H : (impl_LineCells.l0 kj2 a0 a1 y130 a0 0) = some r := by first | (rw [hy130]; with_reducible exact H) | (have H2_ := (Option.bind_some _ _).symm.trans H; rw [hy130]; with_reducible exact H2_) | (have H2_ := (Option.bind_some _ _).symm.trans H; with_reducible exact H2_) | with_reducible exact H | (rw [hy130]; exact H) | exact H
      have Ny130 := yam hy130
      clear hy130
      have H' := yam H
      clear H
      go_wp2_with (first | ((with_reducible refine gate_dst (N := 21) rfl ?_); refine Kd.R_make_cap (Kd.int .i64) _ 3 rfl (N := 21) rfl 22 _ _ rfl a0 rfl rfl Try.underlying22 (.int .i64 0) 8 info3 rfl (by decide) (by omega) (ok := fun _ => True) trivial (of_decide_eq_true (by first | (with_reducible assumption) | assumption)) (Nat.le_trans (Nat.mul_le_mul_right _ (of_decide_eq_true (by first | (with_reducible assumption) | assumption) : a0.toNat ≤ 35184372088832)) (by omega)) (Below.refl _ _) (Nat.le_refl _) ?_; intro v131 w10 ho11 hb hg_ hnew_; clear hg_ hnew_; (first | rw [← Ny130.out] at ho11 | (simp only [Int.reduceToNat] at ho11; rw [← Ny130.out] at ho11)); have n0_ := yam (Kd.R_lower ho11 (below_size (yez HB.out))); have n1_ := yam (below_step (yez HB.out) hb); clear HB; have HO132 := n0_; have HB := n1_; clear n0_ n1_; clear hb ho11))
      go_loopg [5, 23] kj2 (fun kq v5 v23 w' => ∃ (x5_2 : List Int) (x23_2 : Int), v23 = .int .i64 x23_2 ∧ Aside0 (impl_LineCells.l0 kq a0 a1 x5_2 a0 x23_2 = some r) ∧ Aside0 (kq ≤ kj2) ∧ Aside0 (Kd.R (Kd.int .i64) 3 w' w.heap.size (fun _ => True) v5 x5_2) ∧ Aside0 (Below w.heap.size w w'))
      case atStart => exact ⟨(y130), (0), (by first | rfl | (simp; done) | (simp [*]; done)), H', ⟨Nat.le_refl _⟩, ⟨by (with_reducible repeat (first | apply Kd.Ya | apply Kd.Yn | apply Kd.Yd)); exact HO132.out⟩, ⟨by repeat (first | (with_reducible first | exact HB.out | apply yea | apply yen | apply yed) | exact HB.out)⟩⟩
      case round =>
        clear H'
        try clear p2
        try clear c4
        try clear c5
        try clear c6
        try clear c6b0
        try clear p6
        try clear c7
        try clear c8
        try clear c8b0
        try clear c8b1
        try clear c9
        try clear c9b0
        try clear c9b1
        try clear p2
        try clear p6
        obtain ⟨x5_2, x23_2, rfl, HA, HK2, HO_5, HB⟩ := hrel
        cases gk with
        | zero => exact absurd HA.out (by simp [impl_LineCells.l0])
        | succ k2 =>
          have H := HA.out
          clear HA
          simp only [impl_LineCells.l0] at H
          by_cases c12 : x23_2 < a0
          rotate_left
          · rw [if_neg c12] at H
            have c12b0 : decide (x23_2 < a0) = false := decide_eq_false c12
            clear c12
            obtain rfl := Option.some.inj H
            go_wp2
            go_ret
            exact ⟨_, by first | rfl | (simp [errW_none, errW_some] <;> rfl) | (simp [*, errW_none, errW_some] <;> rfl), by (with_reducible repeat (first | apply Kd.Ya | apply Kd.Yn | apply Kd.Yd)); exact HO_5.out, by repeat (first | (with_reducible first | exact HB.out | apply yea | apply yen | apply yed) | exact HB.out)⟩
          rw [if_pos c12] at H
          have c12b0 : decide (x23_2 < a0) = true := decide_eq_true c12
          clear c12
          by_cases c13 : a1 < a0
          · rw [if_pos c13] at H
            have c13b0 : decide (a1 < a0) = true := decide_eq_true c13
            clear c13
            by_cases c14 : x5_2.length < 17592186044416
            rotate_left
            · rw [if_neg c14] at H
              exact absurd H (by simp)
            rw [if_pos c14] at H
            have LMc14 := yam c14
            clear c14
            obtain ⟨y133, hy133⟩ : ∃ y_ : List Int, y_ = (x5_2 ++ [wrap64 ((wrap64 (a1 * a0)) + x23_2)]) := ⟨_, rfl⟩
            replace H : (impl_LineCells.l0 k2 a0 a1 y133 a0 (wrap64 (x23_2 + 1))) = some r := by first | (rw [hy133]; with_reducible exact H) | (have H2_ := (Option.bind_some _ _).symm.trans H; rw [hy133]; with_reducible exact H2_) | (have H2_ := (Option.bind_some _ _).symm.trans H; with_reducible exact H2_) | with_reducible exact H | (rw [hy133]; exact H) | exact H
            have Ny133 := yam hy133
            clear hy133
            have H' := yam H
            clear H
            go_wp2_with (first | ((with_reducible refine gate_builtin (b := .append) (xs := #[.tmp 29, .tmp 35]) rfl ?_); at_builtin; refine Kd.R_append (Kd.int .i64) (w0 := w) w.heap.size rfl (.tmp 29) (.tmp 35) 22 3 (.int .i64 0) 8 rfl Try.underlying22 info3 rfl (by decide) (by omega) u5 x5_2 (wrap64 ((wrap64 (a1 * a0)) + x23_2)) [.int .i64 (wrap64 ((wrap64 (a1 * a0)) + x23_2))] (fun _ => True) (fun _ => False) rfl rfl ?aP (fun _ hk => hk.elim) ?aF ?aO ?aB ?aS ?aL ?_; (case aP => exact rfl); (case aB => exact (yez HB.out)); (case aF => exact (fun _ _ => trivial)); (case aO => exact (Kd.Yz HO_5.out)); (case aS => exact (below_size (yez HB.out))); (case aL => have := LMc14.out; omega); intro v134 w15 ho hb hg hat; rw [← Ny133.out] at ho; have n0_ := yam (hb); have n1_ := yam (ho); clear HB; clear HO_5; have HB := n0_; have HO135 := n1_; clear n0_ n1_; clear ho hb hg hat))
            go_roundg k2
            case measure => have := HJ2.out; have := HK2.out; omega
            case rel => exact ⟨(y133), (wrap64 (x23_2 + 1)), (by first | rfl | (simp; done) | (simp [*]; done)), H', ⟨by have := HJ2.out; have := HK2.out; omega⟩, ⟨by (with_reducible repeat (first | apply Kd.Ya | apply Kd.Yn | apply Kd.Yd)); exact HO135.out⟩, ⟨by repeat (first | (with_reducible first | exact HB.out | apply yea | apply yen | apply yed) | exact HB.out)⟩⟩
          rw [if_neg c13] at H
          have c13b0 : decide (a1 < a0) = false := decide_eq_false c13
          clear c13
          by_cases c16 : x5_2.length < 17592186044416
          rotate_left
          · rw [if_neg c16] at H
            exact absurd H (by simp)
          rw [if_pos c16] at H
          have LMc16 := yam c16
          clear c16
          obtain ⟨y136, hy136⟩ : ∃ y_ : List Int, y_ = (x5_2 ++ [wrap64 ((wrap64 ((wrap64 (x23_2 * a0)) + a1)) - a0)]) := ⟨_, rfl⟩
          replace H : (impl_LineCells.l0 k2 a0 a1 y136 a0 (wrap64 (x23_2 + 1))) = some r := by first | (rw [hy136]; with_reducible exact H) | (have H2_ := (Option.bind_some _ _).symm.trans H; rw [hy136]; with_reducible exact H2_) | (have H2_ := (Option.bind_some _ _).symm.trans H; with_reducible exact H2_) | with_reducible exact H | (rw [hy136]; exact H) | exact H
          have Ny136 := yam hy136
          clear hy136
          have H' := yam H
          clear H
          go_wp2_with (first | ((with_reducible refine gate_builtin (b := .append) (xs := #[.tmp 37, .tmp 45]) rfl ?_); at_builtin; refine Kd.R_append (Kd.int .i64) (w0 := w) w.heap.size rfl (.tmp 37) (.tmp 45) 22 3 (.int .i64 0) 8 rfl Try.underlying22 info3 rfl (by decide) (by omega) u5 x5_2 (wrap64 ((wrap64 ((wrap64 (x23_2 * a0)) + a1)) - a0)) [.int .i64 (wrap64 ((wrap64 ((wrap64 (x23_2 * a0)) + a1)) - a0))] (fun _ => True) (fun _ => False) rfl rfl ?aP (fun _ hk => hk.elim) ?aF ?aO ?aB ?aS ?aL ?_; (case aP => exact rfl); (case aB => exact (yez HB.out)); (case aF => exact (fun _ _ => trivial)); (case aO => exact (Kd.Yz HO_5.out)); (case aS => exact (below_size (yez HB.out))); (case aL => have := LMc16.out; omega); intro v137 w17 ho hb hg hat; rw [← Ny136.out] at ho; have n0_ := yam (hb); have n1_ := yam (ho); clear HB; clear HO_5; have HB := n0_; have HO138 := n1_; clear n0_ n1_; clear ho hb hg hat))
          go_roundg k2
          case measure => have := HJ2.out; have := HK2.out; omega
          case rel => exact ⟨(y136), (wrap64 (x23_2 + 1)), (by first | rfl | (simp; done) | (simp [*]; done)), H', ⟨by have := HJ2.out; have := HK2.out; omega⟩, ⟨by (with_reducible repeat (first | apply Kd.Ya | apply Kd.Yn | apply Kd.Yd)); exact HO138.out⟩, ⟨by repeat (first | (with_reducible first | exact HB.out | apply yea | apply yen | apply yed) | exact HB.out)⟩⟩
/-- Where there is no such line, what comes back is nil. -/
theorem impl_LineCells.nil (a0 a1 : Int) (w : World) (hb : ¬ (2 ≤ a0 ∧ a0 ≤ 4 ∧ 0 ≤ a1 ∧ a1 < 2 * a0)) :
    Calls Try.prog 49 #[.int .i64 a0, .int .i64 a1] w fun e w' => e = .returned (.slice none 0 0) ∧ Drawn0 w w' := by
  by_cases hs : 2 ≤ a0 ∧ a0 ≤ 4
  · have hf : impl_sizeOk.f a0 = some true := by
      unfold impl_sizeOk.f; rw [if_pos (show a0 ≥ 2 from hs.1), decide_eq_true hs.2]
    have h2 := hs.1
    have h4 := hs.2
    by_cases h0 : a1 < 0
    · have h0b : decide (a1 < 0) = true := decide_eq_true h0
      clear hb hs
      go_enter Try.func49, Try.ntmps49
      go_wp2_with (first | (go_at_call 59; (with_reducible refine (impl_sizeOk.calls a0 true _ hf).mono ?_); rintro e w' ⟨rfl, ⟨nd, rfl⟩⟩))
      go_ret
      exact ⟨rfl, by repeat (first | exact Drawn0.refl _ | apply Drawn0.step)⟩
    · have h0b : decide (a1 < 0) = false := decide_eq_false h0
      have h1 : 2 * a0 ≤ a1 := by omega
      have h1b : decide (2 * a0 ≤ a1) = true := decide_eq_true h1
      clear hb hs
      go_enter Try.func49, Try.ntmps49
      go_wp2_with (first | (go_at_call 59; (with_reducible refine (impl_sizeOk.calls a0 true _ hf).mono ?_); rintro e w' ⟨rfl, ⟨nd, rfl⟩⟩))
      go_ret
      exact ⟨rfl, by repeat (first | exact Drawn0.refl _ | apply Drawn0.step)⟩
  · have hf : impl_sizeOk.f a0 = some false := by
      unfold impl_sizeOk.f
      by_cases h2 : a0 ≥ 2
      · rw [if_pos h2, decide_eq_false (by omega)]
      · rw [if_neg h2]
    clear hb hs
    go_enter Try.func49, Try.ntmps49
    go_wp2_with (first | (go_at_call 59; (with_reducible refine (impl_sizeOk.calls a0 false _ hf).mono ?_); rintro e w' ⟨rfl, ⟨nd, rfl⟩⟩))
    go_ret
    exact ⟨rfl, by repeat (first | exact Drawn0.refl _ | apply Drawn0.step)⟩

end Go.Proofs.Ytaglakdahmepeaa.P
namespace Go.Proofs.Ytaglakdahmepeaa.P
open Go.RowKit Go.Proofs.YtaglakdahmepeaaW.PrintWords Go.Proofs.YtaglakdahmepeaaW.PrintLast Go.Proofs.YtaglakdahmepeaaW.PrintMore
attribute [local go_sem] max2_int min2_int max_two min_two max_three min_three max_four min_four   -- for this text's walks alone
set_option linter.unusedVariables false
set_option linter.unusedSimpArgs false

/-! ### impl_allValues: function 55 -/
def impl_allValues.f (a0 : Int) : Option (Int) := if 0 ≤ (wrap64 (a0 + 1)) then (some (wrap64 ((shl .i64 1 (wrap64 (a0 + 1))) - 2))) else (none)
set_option maxHeartbeats 8000000 in
set_option maxRecDepth 100000 in
theorem impl_allValues.calls (a0 : Int) (r : Int) (w : World) (h : impl_allValues.f a0 = some r) :
    Calls Try.prog 55 #[.int .i64 a0] w fun e w' => e = .returned (.int .i64 r) ∧ Drawn0 w w' := by
  have H : (if 0 ≤ (wrap64 (a0 + 1)) then (some (wrap64 ((shl .i64 1 (wrap64 (a0 + 1))) - 2))) else (none)) = some r := h
  clear h
  obtain ⟨ji2, hji2⟩ : ∃ j_ : Int, (wrap64 (a0 + 1)) = j_ := ⟨_, rfl⟩
  replace H : (if 0 ≤ (ji2) then (some (wrap64 ((shl .i64 1 (ji2)) - 2))) else (none)) = some r := by first | (rw [hji2] at H; exact H) | (simp only [hji2] at H ⊢; exact H)
  have hji2w : (IntKind.i64.wrap (a0 + 1)) = ji2 := (i64_w _).trans hji2
  by_cases c3 : 0 ≤ (ji2)
  rotate_left
  · rw [if_neg c3] at H
    exact absurd H (by simp)

  rw [if_pos c3] at H
  have c3b0 := eq_true c3
  have c3b1 : decide (0 ≤ (ji2)) = true := decide_eq_true c3
  clear c3
  obtain ⟨ji4, hji4⟩ : ∃ j_ : Int, (shl .i64 1 (ji2)) = j_ := ⟨_, rfl⟩
  replace H : (some (wrap64 ((ji4) - 2))) = some r := by first | (rw [hji4] at H; exact H) | (simp only [hji4] at H ⊢; exact H)
  have hji4_ : (IntKind.i64.wrap (1 * 2 ^ min (ji2).toNat 64)) = ji4 := hji4
  have hji4z : (ji2) ≤ 64 → (IntKind.i64.wrap (1 * 2 ^ (ji2).toNat)) = ji4 := shl_small hji4
  have hji4u : (IntKind.i64.wrap (2 ^ min (ji2).toNat 64)) = ji4 := by have h_ := hji4_; rw [Int.one_mul] at h_; exact h_
  have hji4v : (ji2) ≤ 64 → (IntKind.i64.wrap (2 ^ (ji2).toNat)) = ji4 := fun hle_ => by have h_ := hji4z hle_; rw [Int.one_mul] at h_; exact h_
  have hji4y : (wrap64 (1 * 2 ^ min (ji2).toNat 64)) = ji4 := (i64_w _).symm.trans hji4_
  have hji4x : (ji2) ≤ 64 → (wrap64 (1 * 2 ^ (ji2).toNat)) = ji4 := fun h_ => (i64_w _).symm.trans (hji4z h_)
  obtain rfl := Option.some.inj H
  go_enter Try.func55, Try.ntmps55
  go_wp2
  go_ret
  exact ⟨by first | rfl | (simp; done) | (simp only [← hji2, ← hji4] <;> (first | rfl | simp)) | (simp [*]; done), by repeat (first | exact Drawn0.refl _ | apply Drawn0.step)⟩
end Go.Proofs.Ytaglakdahmepeaa.P
namespace Go.Proofs.Ytaglakdahmepeaa.P
open Go.RowKit Go.Proofs.YtaglakdahmepeaaW.PrintWords Go.Proofs.YtaglakdahmepeaaW.PrintLast Go.Proofs.YtaglakdahmepeaaW.PrintMore
attribute [local go_sem] max2_int min2_int max_two min_two max_three min_three max_four min_four   -- for this text's walks alone
set_option linter.unusedVariables false
set_option linter.unusedSimpArgs false

/-! ### impl_MasksValid: function 52 -/
mutual
def impl_MasksValid.j0 : Nat → List Int → Int → Bool → Option (Bool)
  | 0, _, _, _ => none
  | k + 1, x0, x1, x17 => if x17 = true then (some false) else (impl_MasksValid.l0 k x1 x0 (x0.length : Int) 0)
def impl_MasksValid.l0 : Nat → Int → List Int → Int → Int → Option (Bool)
  | 0, _, _, _, _ => none
  | k + 1, x1, x18, x19, x20 => if x20 < x19 then (if 0 ≤ x20 then (if x20 < (x18.length : Int) then (if (rd x18 x20) < 0 then (some false) else ((impl_allValues.f x1).bind fun t181 => (if (Go.bits .andNot .i64 (rd x18 x20) t181) = 0 then (impl_MasksValid.l0 k x1 x18 x19 (wrap64 (x20 + 1))) else (some false)))) else (none)) else (none)) else (some true)
end
def impl_MasksValid.f (k : Nat) (l0 : List Int) (a1 : Int) : Option (Bool) := (impl_sizeOk.f a1).bind fun t179 => (if t179 = true then (impl_MasksValid.j0 k l0 a1 ((l0.length : Int) != (wrap64 (a1 * a1)))) else (impl_MasksValid.j0 k l0 a1 true))
theorem impl_MasksValid.mono_l : ∀ k, (∀ y0 y1 y2, LeO (impl_MasksValid.j0 k y0 y1 y2) (impl_MasksValid.j0 (k + 1) y0 y1 y2)) ∧ (∀ y0 y1 y2 y3, LeO (impl_MasksValid.l0 k y0 y1 y2 y3) (impl_MasksValid.l0 (k + 1) y0 y1 y2 y3))
  | 0 => ⟨fun _ _ _ r h => by simp [impl_MasksValid.j0] at h, fun _ _ _ _ r h => by simp [impl_MasksValid.l0] at h⟩
  | k + 1 => by
    obtain ⟨ih0, ih1⟩ := impl_MasksValid.mono_l k
    refine ⟨?_, ?_⟩
    · intro y0 y1 y2
      unfold impl_MasksValid.j0
      repeat' first
      | (with_reducible exact ih0 _ _ _)
      | (with_reducible exact ih1 _ _ _ _)
      | (with_reducible exact LeO.refl _)
      | (with_reducible exact LeO.none _)
      | (with_reducible refine LeO.ite ?_ ?_)
      | (with_reducible refine LeO.bind ?_ (fun _ => ?_))
      | exact ih0 _ _ _
      | exact ih1 _ _ _ _
      | exact LeO.none _
      | refine LeO.ite ?_ ?_
      | refine LeO.bind ?_ (fun _ => ?_)
    · intro y0 y1 y2 y3
      unfold impl_MasksValid.l0
      repeat' first
      | (with_reducible exact ih0 _ _ _)
      | (with_reducible exact ih1 _ _ _ _)
      | (with_reducible exact LeO.refl _)
      | (with_reducible exact LeO.none _)
      | (with_reducible refine LeO.ite ?_ ?_)
      | (with_reducible refine LeO.bind ?_ (fun _ => ?_))
      | exact ih0 _ _ _
      | exact ih1 _ _ _ _
      | exact LeO.none _
      | refine LeO.ite ?_ ?_
      | refine LeO.bind ?_ (fun _ => ?_)
theorem impl_MasksValid.mono : ∀ a0 a1 k, LeO (impl_MasksValid.f k a0 a1) (impl_MasksValid.f (k + 1) a0 a1) := by
  intro a0 a1 k
  obtain ⟨ih0, ih1⟩ := impl_MasksValid.mono_l k
  unfold impl_MasksValid.f
  repeat' first
      | (with_reducible exact ih0 _ _ _)
      | (with_reducible exact ih1 _ _ _ _)
      | (with_reducible exact LeO.refl _)
      | (with_reducible exact LeO.none _)
      | (with_reducible refine LeO.ite ?_ ?_)
      | (with_reducible refine LeO.bind ?_ (fun _ => ?_))
      | exact ih0 _ _ _
      | exact ih1 _ _ _ _
      | exact LeO.none _
      | refine LeO.ite ?_ ?_
      | refine LeO.bind ?_ (fun _ => ?_)
set_option maxHeartbeats 8000000 in
set_option maxRecDepth 100000 in
theorem impl_MasksValid.calls (k : Nat) (A0 : Option Addr) (c0 : Nat) (l0 : List Int) (a1 : Int) (r : Bool) (w : World) (hr0 : Kd.C (Kd.int .i64) w A0 l0.length l0) (hc0 : l0.length ≤ c0) (h : impl_MasksValid.f k l0 a1 = some r) :
    Calls Try.prog 52 #[.slice A0 l0.length c0, .int .i64 a1] w fun e w' => e = .returned (.bool r) ∧ Drawn0 w w' := by
  have HR0 := yam hr0
  have HC0 := yam hc0
  clear hr0 hc0
  have H : ((impl_sizeOk.f a1).bind fun t179 => (if t179 = true then (impl_MasksValid.j0 k l0 a1 ((l0.length : Int) != (wrap64 (a1 * a1)))) else (impl_MasksValid.j0 k l0 a1 true))) = some r := h
  clear h
  have HC3 := yam H
  clear H
  go_enter Try.func52, Try.ntmps52
  go_upto_region 1 with (fail)
  go_cut [17] (fun v17 wc => ∃ (kq : Nat) (x17_2 : Bool), v17 = .bool x17_2 ∧ Aside0 (impl_MasksValid.j0 kq l0 a1 x17_2 = some r) ∧ Aside0 (kq ≤ k) ∧ Drawn0 w wc)
  case first =>
    have H := HC3.out
    clear HC3
    replace H := Option.bind_eq_some_iff.mp H
    obtain ⟨t179, A40, H⟩ := H
    try dsimp only at H
    have A4 := yam A40
    clear A40
    by_cases c5 : t179 = true
    · subst c5
      have H1 : (impl_MasksValid.j0 k l0 a1 ((l0.length : Int) != (wrap64 (a1 * a1)))) = some r := by rw [if_pos rfl] at H; exact H
      clear H
      have H := H1
      clear H1
      have H' := yam H
      clear H
      go_wp2_with (first | ((with_reducible refine gate_callee (f := 59) rfl ?_); refine goesL_ (some 8) rfl rfl Try.func59 (by kernel_rfl) rfl #[.int .i64 a1] rfl (by (try simp only [List.map_toArray, List.map_cons, List.map_nil]); first | done | rfl | (simp only [List.length_drop, List.length_take]; rfl)) ?_; (with_reducible refine (impl_sizeOk.calls a1 true _ A4.out).mono ?_); rintro e w' ⟨rfl, ⟨nd, rfl⟩⟩; refine ⟨_, rfl, ?_⟩))
      go_meet
      case rel => exact ⟨_, (((l0.length : Int) != (wrap64 (a1 * a1)))), (by first | rfl | (simp; done) | (simp [*]; done)), H', ⟨by first | omega | exact Nat.le_refl _⟩, by repeat (first | exact Drawn0.refl _ | apply Drawn0.step)⟩
    replace c5 := Bool.eq_false_iff.mpr c5
    subst c5
    have H1 : (impl_MasksValid.j0 k l0 a1 true) = some r := by rw [if_neg (show ¬ (false = true) by decide)] at H; exact H
    clear H
    have H := H1
    clear H1
    have H' := yam H
    clear H
    go_wp2_with (first | ((with_reducible refine gate_callee (f := 59) rfl ?_); refine goesL_ (some 8) rfl rfl Try.func59 (by kernel_rfl) rfl #[.int .i64 a1] rfl (by (try simp only [List.map_toArray, List.map_cons, List.map_nil]); first | done | rfl | (simp only [List.length_drop, List.length_take]; rfl)) ?_; (with_reducible refine (impl_sizeOk.calls a1 false _ A4.out).mono ?_); rintro e w' ⟨rfl, ⟨nd, rfl⟩⟩; refine ⟨_, rfl, ?_⟩))
    go_meet
    case rel => exact ⟨_, (true), (by first | rfl | (simp; done) | (simp [*]; done)), H', ⟨by first | omega | exact Nat.le_refl _⟩, by repeat (first | exact Drawn0.refl _ | apply Drawn0.step)⟩
  case rest =>
    clear HC3
    try clear p2
    try clear c5
    obtain ⟨kq, x17_2, rfl, HA, HJ2, ⟨mc2, rfl⟩⟩ := hcut
    cases kq with
    | zero => exact absurd HA.out (by simp [impl_MasksValid.j0])
    | succ kj2 =>
      have H := HA.out
      clear HA
      simp only [impl_MasksValid.j0] at H
      by_cases c6 : x17_2 = true
      · subst c6
        have H1 : (some false) = some r := by rw [if_pos rfl] at H; exact H
        clear H
        have H := H1
        clear H1
        obtain rfl := Option.some.inj H
        go_wp2
        go_ret
        exact ⟨by first | rfl | (simp; done) | (simp [*]; done), by repeat (first | exact Drawn0.refl _ | apply Drawn0.step)⟩
      replace c6 := Bool.eq_false_iff.mpr c6
      subst c6
      have H1 : (impl_MasksValid.l0 kj2 a1 l0 (l0.length : Int) 0) = some r := by rw [if_neg (show ¬ (false = true) by decide)] at H; exact H
      clear H
      have H := H1
      clear H1
      have H' := yam H
      clear H
      go_wp2
      go_loopg [20] kj2 (fun kq v20 w' => ∃ (x20_2 : Int), v20 = .int .i64 x20_2 ∧ Aside0 (impl_MasksValid.l0 kq a1 l0 (l0.length : Int) x20_2 = some r) ∧ Aside0 (kq ≤ kj2) ∧ Drawn0 w w')
      case atStart => exact ⟨(0), (by first | rfl | (simp; done) | (simp [*]; done)), H', ⟨Nat.le_refl _⟩, by repeat (first | exact Drawn0.refl _ | apply Drawn0.step)⟩
      case round =>
        clear H'
        try clear c2
        try clear p2
        try clear c5
        try clear c6
        try clear p6
        try clear p2
        obtain ⟨x20_2, rfl, HA, HK2, ⟨m2, rfl⟩⟩ := hrel
        cases gk with
        | zero => exact absurd HA.out (by simp [impl_MasksValid.l0])
        | succ k2 =>
          have H := HA.out
          clear HA
          simp only [impl_MasksValid.l0] at H
          by_cases c7 : x20_2 < (l0.length : Int)
          rotate_left
          · rw [if_neg c7] at H
            have c7b0 : decide (x20_2 < (l0.length : Int)) = false := decide_eq_false c7
            clear c7
            obtain rfl := Option.some.inj H
            go_wp2
            go_ret
            exact ⟨by first | rfl | (simp; done) | (simp [*]; done), by repeat (first | exact Drawn0.refl _ | apply Drawn0.step)⟩

          rw [if_pos c7] at H
          have c7b0 : decide (x20_2 < (l0.length : Int)) = true := decide_eq_true c7
          clear c7
          by_cases c8 : 0 ≤ x20_2
          rotate_left
          · rw [if_neg c8] at H
            exact absurd H (by simp)
          rw [if_pos c8] at H
          have c8b0 : decide (0 ≤ x20_2) = true := decide_eq_true c8
          clear c8
          by_cases c9 : x20_2 < (l0.length : Int)
          rotate_left
          · rw [if_neg c9] at H
            exact absurd H (by simp)
          rw [if_pos c9] at H
          have c9b0 : decide (x20_2 < (l0.length : Int)) = true := decide_eq_true c9
          clear c9
          by_cases c10 : (rd l0 x20_2) < 0
          · rw [if_pos c10] at H
            have c10b0 : decide ((rd l0 x20_2) < 0) = true := decide_eq_true c10
            clear c10
            obtain rfl := Option.some.inj H
            have p180 : 0 ≤ (x20_2 : Int) := of_decide_eq_true (by first | (with_reducible assumption) | assumption)
            have q180 : x20_2 < (l0.length : Int) := of_decide_eq_true (by first | (with_reducible assumption) | assumption)
            obtain ⟨ad180, e180, hx180_0⟩ := Kd.at_int HR0.out x20_2 p180 q180
            cases e180
            replace p180 := eq_true p180
            replace q180 := eq_true q180
            go_wp2
            go_ret
            exact ⟨by first | rfl | (simp; done) | (simp [*]; done), by repeat (first | exact Drawn0.refl _ | apply Drawn0.step)⟩
          rw [if_neg c10] at H
          have c10b0 : decide ((rd l0 x20_2) < 0) = false := decide_eq_false c10
          clear c10
          replace H := Option.bind_eq_some_iff.mp H
          obtain ⟨t181, A110, H⟩ := H
          try dsimp only at H
          have A11 := yam A110
          clear A110
          by_cases c12 : (Go.bits .andNot .i64 (rd l0 x20_2) t181) = 0
          rotate_left
          · rw [if_neg c12] at H
            have c12b0 : ((Go.bits .andNot .i64 (rd l0 x20_2) t181) == 0) = false := beq_eq_false_iff_ne.mpr c12
            have c12b1 : ((Go.bits .andNot .i64 (rd l0 x20_2) t181) != 0) = true := bne_iff_ne.mpr c12
            obtain rfl := Option.some.inj H
            have p180 : 0 ≤ (x20_2 : Int) := of_decide_eq_true (by first | (with_reducible assumption) | assumption)
            have q180 : x20_2 < (l0.length : Int) := of_decide_eq_true (by first | (with_reducible assumption) | assumption)
            obtain ⟨ad180, e180, hx180_0⟩ := Kd.at_int HR0.out x20_2 p180 q180
            cases e180
            replace p180 := eq_true p180
            replace q180 := eq_true q180
            go_wp2_with (first | (go_at_call 55; (with_reducible refine (impl_allValues.calls a1 t181 _ A11.out).mono ?_); rintro e w' ⟨rfl, ⟨nd, rfl⟩⟩))
            go_ret
            exact ⟨by first | rfl | (simp; done) | (simp [*]; done), by repeat (first | exact Drawn0.refl _ | apply Drawn0.step)⟩
          rw [if_pos c12] at H
          have c12b0 : ((Go.bits .andNot .i64 (rd l0 x20_2) t181) == 0) = true := beq_iff_eq.mpr c12
          have c12b1 : ((Go.bits .andNot .i64 (rd l0 x20_2) t181) != 0) = false := bne_eq_false_iff_eq.mpr c12
          clear c12
          have H' := yam H
          clear H
          have p180 : 0 ≤ (x20_2 : Int) := of_decide_eq_true (by first | (with_reducible assumption) | assumption)
          have q180 : x20_2 < (l0.length : Int) := of_decide_eq_true (by first | (with_reducible assumption) | assumption)
          obtain ⟨ad180, e180, hx180_0⟩ := Kd.at_int HR0.out x20_2 p180 q180
          cases e180
          replace p180 := eq_true p180
          replace q180 := eq_true q180
          go_wp2_with (first | (go_at_call 55; (with_reducible refine (impl_allValues.calls a1 t181 _ A11.out).mono ?_); rintro e w' ⟨rfl, ⟨nd, rfl⟩⟩))
          go_roundg k2
          case measure => have := HJ2.out; have := HK2.out; omega
          case rel => exact ⟨(wrap64 (x20_2 + 1)), (by first | rfl | (simp; done) | (simp [*]; done)), H', ⟨by have := HJ2.out; have := HK2.out; omega⟩, by repeat (first | exact Drawn0.refl _ | apply Drawn0.step)⟩
end Go.Proofs.Ytaglakdahmepeaa.P
namespace Go.Proofs.Ytaglakdahmepeaa.P
open Go.RowKit Go.Proofs.YtaglakdahmepeaaW.PrintWords Go.Proofs.YtaglakdahmepeaaW.PrintLast Go.Proofs.YtaglakdahmepeaaW.PrintMore
attribute [local go_sem] max2_int min2_int max_two min_two max_three min_three max_four min_four   -- for this text's walks alone
set_option linter.unusedVariables false
set_option linter.unusedSimpArgs false

/-! ### bits_OnesCount64: function 71 -/
def bits_OnesCount64.f (a0 : Int) : Option (Int) := some (Go.bits .and .i64 (wrap64 (IntKind.u64.wrap ((IntKind.u64.wrap ((IntKind.u64.wrap ((Go.bits .and .u64 (IntKind.u64.wrap (((IntKind.u64.wrap ((Go.bits .and .u64 ((IntKind.u64.wrap ((Go.bits .and .u64 (a0 / 2) 6148914691236517205) + (Go.bits .and .u64 a0 6148914691236517205))) / 4) 3689348814741910323) + (Go.bits .and .u64 (IntKind.u64.wrap ((Go.bits .and .u64 (a0 / 2) 6148914691236517205) + (Go.bits .and .u64 a0 6148914691236517205))) 3689348814741910323))) / 16) + (IntKind.u64.wrap ((Go.bits .and .u64 ((IntKind.u64.wrap ((Go.bits .and .u64 (a0 / 2) 6148914691236517205) + (Go.bits .and .u64 a0 6148914691236517205))) / 4) 3689348814741910323) + (Go.bits .and .u64 (IntKind.u64.wrap ((Go.bits .and .u64 (a0 / 2) 6148914691236517205) + (Go.bits .and .u64 a0 6148914691236517205))) 3689348814741910323))))) 1085102592571150095) + ((Go.bits .and .u64 (IntKind.u64.wrap (((IntKind.u64.wrap ((Go.bits .and .u64 ((IntKind.u64.wrap ((Go.bits .and .u64 (a0 / 2) 6148914691236517205) + (Go.bits .and .u64 a0 6148914691236517205))) / 4) 3689348814741910323) + (Go.bits .and .u64 (IntKind.u64.wrap ((Go.bits .and .u64 (a0 / 2) 6148914691236517205) + (Go.bits .and .u64 a0 6148914691236517205))) 3689348814741910323))) / 16) + (IntKind.u64.wrap ((Go.bits .and .u64 ((IntKind.u64.wrap ((Go.bits .and .u64 (a0 / 2) 6148914691236517205) + (Go.bits .and .u64 a0 6148914691236517205))) / 4) 3689348814741910323) + (Go.bits .and .u64 (IntKind.u64.wrap ((Go.bits .and .u64 (a0 / 2) 6148914691236517205) + (Go.bits .and .u64 a0 6148914691236517205))) 3689348814741910323))))) 1085102592571150095) / 256))) + ((IntKind.u64.wrap ((Go.bits .and .u64 (IntKind.u64.wrap (((IntKind.u64.wrap ((Go.bits .and .u64 ((IntKind.u64.wrap ((Go.bits .and .u64 (a0 / 2) 6148914691236517205) + (Go.bits .and .u64 a0 6148914691236517205))) / 4) 3689348814741910323) + (Go.bits .and .u64 (IntKind.u64.wrap ((Go.bits .and .u64 (a0 / 2) 6148914691236517205) + (Go.bits .and .u64 a0 6148914691236517205))) 3689348814741910323))) / 16) + (IntKind.u64.wrap ((Go.bits .and .u64 ((IntKind.u64.wrap ((Go.bits .and .u64 (a0 / 2) 6148914691236517205) + (Go.bits .and .u64 a0 6148914691236517205))) / 4) 3689348814741910323) + (Go.bits .and .u64 (IntKind.u64.wrap ((Go.bits .and .u64 (a0 / 2) 6148914691236517205) + (Go.bits .and .u64 a0 6148914691236517205))) 3689348814741910323))))) 1085102592571150095) + ((Go.bits .and .u64 (IntKind.u64.wrap (((IntKind.u64.wrap ((Go.bits .and .u64 ((IntKind.u64.wrap ((Go.bits .and .u64 (a0 / 2) 6148914691236517205) + (Go.bits .and .u64 a0 6148914691236517205))) / 4) 3689348814741910323) + (Go.bits .and .u64 (IntKind.u64.wrap ((Go.bits .and .u64 (a0 / 2) 6148914691236517205) + (Go.bits .and .u64 a0 6148914691236517205))) 3689348814741910323))) / 16) + (IntKind.u64.wrap ((Go.bits .and .u64 ((IntKind.u64.wrap ((Go.bits .and .u64 (a0 / 2) 6148914691236517205) + (Go.bits .and .u64 a0 6148914691236517205))) / 4) 3689348814741910323) + (Go.bits .and .u64 (IntKind.u64.wrap ((Go.bits .and .u64 (a0 / 2) 6148914691236517205) + (Go.bits .and .u64 a0 6148914691236517205))) 3689348814741910323))))) 1085102592571150095) / 256))) / 65536))) + ((IntKind.u64.wrap ((IntKind.u64.wrap ((Go.bits .and .u64 (IntKind.u64.wrap (((IntKind.u64.wrap ((Go.bits .and .u64 ((IntKind.u64.wrap ((Go.bits .and .u64 (a0 / 2) 6148914691236517205) + (Go.bits .and .u64 a0 6148914691236517205))) / 4) 3689348814741910323) + (Go.bits .and .u64 (IntKind.u64.wrap ((Go.bits .and .u64 (a0 / 2) 6148914691236517205) + (Go.bits .and .u64 a0 6148914691236517205))) 3689348814741910323))) / 16) + (IntKind.u64.wrap ((Go.bits .and .u64 ((IntKind.u64.wrap ((Go.bits .and .u64 (a0 / 2) 6148914691236517205) + (Go.bits .and .u64 a0 6148914691236517205))) / 4) 3689348814741910323) + (Go.bits .and .u64 (IntKind.u64.wrap ((Go.bits .and .u64 (a0 / 2) 6148914691236517205) + (Go.bits .and .u64 a0 6148914691236517205))) 3689348814741910323))))) 1085102592571150095) + ((Go.bits .and .u64 (IntKind.u64.wrap (((IntKind.u64.wrap ((Go.bits .and .u64 ((IntKind.u64.wrap ((Go.bits .and .u64 (a0 / 2) 6148914691236517205) + (Go.bits .and .u64 a0 6148914691236517205))) / 4) 3689348814741910323) + (Go.bits .and .u64 (IntKind.u64.wrap ((Go.bits .and .u64 (a0 / 2) 6148914691236517205) + (Go.bits .and .u64 a0 6148914691236517205))) 3689348814741910323))) / 16) + (IntKind.u64.wrap ((Go.bits .and .u64 ((IntKind.u64.wrap ((Go.bits .and .u64 (a0 / 2) 6148914691236517205) + (Go.bits .and .u64 a0 6148914691236517205))) / 4) 3689348814741910323) + (Go.bits .and .u64 (IntKind.u64.wrap ((Go.bits .and .u64 (a0 / 2) 6148914691236517205) + (Go.bits .and .u64 a0 6148914691236517205))) 3689348814741910323))))) 1085102592571150095) / 256))) + ((IntKind.u64.wrap ((Go.bits .and .u64 (IntKind.u64.wrap (((IntKind.u64.wrap ((Go.bits .and .u64 ((IntKind.u64.wrap ((Go.bits .and .u64 (a0 / 2) 6148914691236517205) + (Go.bits .and .u64 a0 6148914691236517205))) / 4) 3689348814741910323) + (Go.bits .and .u64 (IntKind.u64.wrap ((Go.bits .and .u64 (a0 / 2) 6148914691236517205) + (Go.bits .and .u64 a0 6148914691236517205))) 3689348814741910323))) / 16) + (IntKind.u64.wrap ((Go.bits .and .u64 ((IntKind.u64.wrap ((Go.bits .and .u64 (a0 / 2) 6148914691236517205) + (Go.bits .and .u64 a0 6148914691236517205))) / 4) 3689348814741910323) + (Go.bits .and .u64 (IntKind.u64.wrap ((Go.bits .and .u64 (a0 / 2) 6148914691236517205) + (Go.bits .and .u64 a0 6148914691236517205))) 3689348814741910323))))) 1085102592571150095) + ((Go.bits .and .u64 (IntKind.u64.wrap (((IntKind.u64.wrap ((Go.bits .and .u64 ((IntKind.u64.wrap ((Go.bits .and .u64 (a0 / 2) 6148914691236517205) + (Go.bits .and .u64 a0 6148914691236517205))) / 4) 3689348814741910323) + (Go.bits .and .u64 (IntKind.u64.wrap ((Go.bits .and .u64 (a0 / 2) 6148914691236517205) + (Go.bits .and .u64 a0 6148914691236517205))) 3689348814741910323))) / 16) + (IntKind.u64.wrap ((Go.bits .and .u64 ((IntKind.u64.wrap ((Go.bits .and .u64 (a0 / 2) 6148914691236517205) + (Go.bits .and .u64 a0 6148914691236517205))) / 4) 3689348814741910323) + (Go.bits .and .u64 (IntKind.u64.wrap ((Go.bits .and .u64 (a0 / 2) 6148914691236517205) + (Go.bits .and .u64 a0 6148914691236517205))) 3689348814741910323))))) 1085102592571150095) / 256))) / 65536))) / 4294967296)))) 127)
set_option maxHeartbeats 8000000 in
set_option maxRecDepth 100000 in
theorem bits_OnesCount64.calls (a0 : Int) (r : Int) (w : World) (h : bits_OnesCount64.f a0 = some r) :
    Calls Try.prog 71 #[.int .u64 a0] w fun e w' => e = .returned (.int .i64 r) ∧ Drawn0 w w' := by
  have H : (some (Go.bits .and .i64 (wrap64 (IntKind.u64.wrap ((IntKind.u64.wrap ((IntKind.u64.wrap ((Go.bits .and .u64 (IntKind.u64.wrap (((IntKind.u64.wrap ((Go.bits .and .u64 ((IntKind.u64.wrap ((Go.bits .and .u64 (a0 / 2) 6148914691236517205) + (Go.bits .and .u64 a0 6148914691236517205))) / 4) 3689348814741910323) + (Go.bits .and .u64 (IntKind.u64.wrap ((Go.bits .and .u64 (a0 / 2) 6148914691236517205) + (Go.bits .and .u64 a0 6148914691236517205))) 3689348814741910323))) / 16) + (IntKind.u64.wrap ((Go.bits .and .u64 ((IntKind.u64.wrap ((Go.bits .and .u64 (a0 / 2) 6148914691236517205) + (Go.bits .and .u64 a0 6148914691236517205))) / 4) 3689348814741910323) + (Go.bits .and .u64 (IntKind.u64.wrap ((Go.bits .and .u64 (a0 / 2) 6148914691236517205) + (Go.bits .and .u64 a0 6148914691236517205))) 3689348814741910323))))) 1085102592571150095) + ((Go.bits .and .u64 (IntKind.u64.wrap (((IntKind.u64.wrap ((Go.bits .and .u64 ((IntKind.u64.wrap ((Go.bits .and .u64 (a0 / 2) 6148914691236517205) + (Go.bits .and .u64 a0 6148914691236517205))) / 4) 3689348814741910323) + (Go.bits .and .u64 (IntKind.u64.wrap ((Go.bits .and .u64 (a0 / 2) 6148914691236517205) + (Go.bits .and .u64 a0 6148914691236517205))) 3689348814741910323))) / 16) + (IntKind.u64.wrap ((Go.bits .and .u64 ((IntKind.u64.wrap ((Go.bits .and .u64 (a0 / 2) 6148914691236517205) + (Go.bits .and .u64 a0 6148914691236517205))) / 4) 3689348814741910323) + (Go.bits .and .u64 (IntKind.u64.wrap ((Go.bits .and .u64 (a0 / 2) 6148914691236517205) + (Go.bits .and .u64 a0 6148914691236517205))) 3689348814741910323))))) 1085102592571150095) / 256))) + ((IntKind.u64.wrap ((Go.bits .and .u64 (IntKind.u64.wrap (((IntKind.u64.wrap ((Go.bits .and .u64 ((IntKind.u64.wrap ((Go.bits .and .u64 (a0 / 2) 6148914691236517205) + (Go.bits .and .u64 a0 6148914691236517205))) / 4) 3689348814741910323) + (Go.bits .and .u64 (IntKind.u64.wrap ((Go.bits .and .u64 (a0 / 2) 6148914691236517205) + (Go.bits .and .u64 a0 6148914691236517205))) 3689348814741910323))) / 16) + (IntKind.u64.wrap ((Go.bits .and .u64 ((IntKind.u64.wrap ((Go.bits .and .u64 (a0 / 2) 6148914691236517205) + (Go.bits .and .u64 a0 6148914691236517205))) / 4) 3689348814741910323) + (Go.bits .and .u64 (IntKind.u64.wrap ((Go.bits .and .u64 (a0 / 2) 6148914691236517205) + (Go.bits .and .u64 a0 6148914691236517205))) 3689348814741910323))))) 1085102592571150095) + ((Go.bits .and .u64 (IntKind.u64.wrap (((IntKind.u64.wrap ((Go.bits .and .u64 ((IntKind.u64.wrap ((Go.bits .and .u64 (a0 / 2) 6148914691236517205) + (Go.bits .and .u64 a0 6148914691236517205))) / 4) 3689348814741910323) + (Go.bits .and .u64 (IntKind.u64.wrap ((Go.bits .and .u64 (a0 / 2) 6148914691236517205) + (Go.bits .and .u64 a0 6148914691236517205))) 3689348814741910323))) / 16) + (IntKind.u64.wrap ((Go.bits .and .u64 ((IntKind.u64.wrap ((Go.bits .and .u64 (a0 / 2) 6148914691236517205) + (Go.bits .and .u64 a0 6148914691236517205))) / 4) 3689348814741910323) + (Go.bits .and .u64 (IntKind.u64.wrap ((Go.bits .and .u64 (a0 / 2) 6148914691236517205) + (Go.bits .and .u64 a0 6148914691236517205))) 3689348814741910323))))) 1085102592571150095) / 256))) / 65536))) + ((IntKind.u64.wrap ((IntKind.u64.wrap ((Go.bits .and .u64 (IntKind.u64.wrap (((IntKind.u64.wrap ((Go.bits .and .u64 ((IntKind.u64.wrap ((Go.bits .and .u64 (a0 / 2) 6148914691236517205) + (Go.bits .and .u64 a0 6148914691236517205))) / 4) 3689348814741910323) + (Go.bits .and .u64 (IntKind.u64.wrap ((Go.bits .and .u64 (a0 / 2) 6148914691236517205) + (Go.bits .and .u64 a0 6148914691236517205))) 3689348814741910323))) / 16) + (IntKind.u64.wrap ((Go.bits .and .u64 ((IntKind.u64.wrap ((Go.bits .and .u64 (a0 / 2) 6148914691236517205) + (Go.bits .and .u64 a0 6148914691236517205))) / 4) 3689348814741910323) + (Go.bits .and .u64 (IntKind.u64.wrap ((Go.bits .and .u64 (a0 / 2) 6148914691236517205) + (Go.bits .and .u64 a0 6148914691236517205))) 3689348814741910323))))) 1085102592571150095) + ((Go.bits .and .u64 (IntKind.u64.wrap (((IntKind.u64.wrap ((Go.bits .and .u64 ((IntKind.u64.wrap ((Go.bits .and .u64 (a0 / 2) 6148914691236517205) + (Go.bits .and .u64 a0 6148914691236517205))) / 4) 3689348814741910323) + (Go.bits .and .u64 (IntKind.u64.wrap ((Go.bits .and .u64 (a0 / 2) 6148914691236517205) + (Go.bits .and .u64 a0 6148914691236517205))) 3689348814741910323))) / 16) + (IntKind.u64.wrap ((Go.bits .and .u64 ((IntKind.u64.wrap ((Go.bits .and .u64 (a0 / 2) 6148914691236517205) + (Go.bits .and .u64 a0 6148914691236517205))) / 4) 3689348814741910323) + (Go.bits .and .u64 (IntKind.u64.wrap ((Go.bits .and .u64 (a0 / 2) 6148914691236517205) + (Go.bits .and .u64 a0 6148914691236517205))) 3689348814741910323))))) 1085102592571150095) / 256))) + ((IntKind.u64.wrap ((Go.bits .and .u64 (IntKind.u64.wrap (((IntKind.u64.wrap ((Go.bits .and .u64 ((IntKind.u64.wrap ((Go.bits .and .u64 (a0 / 2) 6148914691236517205) + (Go.bits .and .u64 a0 6148914691236517205))) / 4) 3689348814741910323) + (Go.bits .and .u64 (IntKind.u64.wrap ((Go.bits .and .u64 (a0 / 2) 6148914691236517205) + (Go.bits .and .u64 a0 6148914691236517205))) 3689348814741910323))) / 16) + (IntKind.u64.wrap ((Go.bits .and .u64 ((IntKind.u64.wrap ((Go.bits .and .u64 (a0 / 2) 6148914691236517205) + (Go.bits .and .u64 a0 6148914691236517205))) / 4) 3689348814741910323) + (Go.bits .and .u64 (IntKind.u64.wrap ((Go.bits .and .u64 (a0 / 2) 6148914691236517205) + (Go.bits .and .u64 a0 6148914691236517205))) 3689348814741910323))))) 1085102592571150095) + ((Go.bits .and .u64 (IntKind.u64.wrap (((IntKind.u64.wrap ((Go.bits .and .u64 ((IntKind.u64.wrap ((Go.bits .and .u64 (a0 / 2) 6148914691236517205) + (Go.bits .and .u64 a0 6148914691236517205))) / 4) 3689348814741910323) + (Go.bits .and .u64 (IntKind.u64.wrap ((Go.bits .and .u64 (a0 / 2) 6148914691236517205) + (Go.bits .and .u64 a0 6148914691236517205))) 3689348814741910323))) / 16) + (IntKind.u64.wrap ((Go.bits .and .u64 ((IntKind.u64.wrap ((Go.bits .and .u64 (a0 / 2) 6148914691236517205) + (Go.bits .and .u64 a0 6148914691236517205))) / 4) 3689348814741910323) + (Go.bits .and .u64 (IntKind.u64.wrap ((Go.bits .and .u64 (a0 / 2) 6148914691236517205) + (Go.bits .and .u64 a0 6148914691236517205))) 3689348814741910323))))) 1085102592571150095) / 256))) / 65536))) / 4294967296)))) 127)) = some r := h
  clear h
  obtain rfl := Option.some.inj H
  go_enter Try.func71, Try.ntmps71
  go_wp2
  go_ret
  exact ⟨by first | rfl | (simp; done) | (simp [*]; done), by repeat (first | exact Drawn0.refl _ | apply Drawn0.step)⟩

end Go.Proofs.Ytaglakdahmepeaa.P
namespace Go.Proofs.Ytaglakdahmepeaa.P
open Go.RowKit Go.Proofs.YtaglakdahmepeaaW.PrintWords Go.Proofs.YtaglakdahmepeaaW.PrintLast Go.Proofs.YtaglakdahmepeaaW.PrintMore
attribute [local go_sem] max2_int min2_int max_two min_two max_three min_three max_four min_four   -- for this text's walks alone
set_option linter.unusedVariables false
set_option linter.unusedSimpArgs false

/-! ### bits_OnesCount: function 56 -/
def bits_OnesCount.f (a0 : Int) : Option (Int) := (bits_OnesCount64.f a0).bind fun t281 => (some t281)
set_option maxHeartbeats 8000000 in
set_option maxRecDepth 100000 in
theorem bits_OnesCount.calls (a0 : Int) (r : Int) (w : World) (h : bits_OnesCount.f a0 = some r) :
    Calls Try.prog 56 #[.int .u64 a0] w fun e w' => e = .returned (.int .i64 r) ∧ Drawn0 w w' := by
  have H : ((bits_OnesCount64.f a0).bind fun t281 => (some t281)) = some r := h
  clear h
  replace H := Option.bind_eq_some_iff.mp H
  obtain ⟨t281, A20, H⟩ := H
  try dsimp only at H
  have A2 := yam A20
  clear A20
  obtain rfl := Option.some.inj H
  go_enter Try.func56, Try.ntmps56
  go_wp2_with (first | ((with_reducible refine gate_callee (f := 71) rfl ?_); refine goesL_ (some 7) rfl rfl Try.func71 (by kernel_rfl) rfl #[.int .u64 a0] rfl (by (try simp only [List.map_toArray, List.map_cons, List.map_nil]); first | done | rfl | (simp only [List.length_drop, List.length_take]; rfl)) ?_; (with_reducible refine (bits_OnesCount64.calls a0 t281 _ A2.out).mono ?_); rintro e w' ⟨rfl, ⟨nd, rfl⟩⟩; refine ⟨_, rfl, ?_⟩))
  go_ret
  exact ⟨by first | rfl | (simp; done) | (simp [*]; done), by repeat (first | exact Drawn0.refl _ | apply Drawn0.step)⟩

end Go.Proofs.Ytaglakdahmepeaa.P
namespace Go.Proofs.Ytaglakdahmepeaa.P
open Go.RowKit Go.Proofs.YtaglakdahmepeaaW.PrintWords Go.Proofs.YtaglakdahmepeaaW.PrintLast Go.Proofs.YtaglakdahmepeaaW.PrintMore
attribute [local go_sem] max2_int min2_int max_two min_two max_three min_three max_four min_four   -- for this text's walks alone
set_option linter.unusedVariables false
set_option linter.unusedSimpArgs false

/-! ### slices_Clone_int_int: function 65 -/
def slices_Clone_int_int.f (l0 : List Int) : Option (List Int) := if l0.length < 17592186044416 then some l0 else none
set_option maxHeartbeats 8000000 in
set_option maxRecDepth 100000 in
theorem slices_Clone_int_int.calls (A0 : Option Addr) (c0 : Nat) (l0 : List Int) (r : List Int) (w : World) (hr0 : Kd.C (Kd.int .i64) w A0 l0.length l0) (hc0 : l0.length ≤ c0) (h : slices_Clone_int_int.f l0 = some r) :
    Calls Try.prog 65 #[.slice A0 l0.length c0] w fun e w' => ∃ v0_ : Value, e = .returned (v0_) ∧ Kd.R (Kd.int .i64) 3 w' w.heap.size (fun _ => True) v0_ r ∧ Below w.heap.size w w' := by
  have hcl : l0 = r ∧ l0.length < 17592186044416 := by
    unfold slices_Clone_int_int.f at h
    by_cases hc : l0.length < 17592186044416
    · rw [if_pos hc] at h; exact ⟨Option.some.inj h, hc⟩
    · rw [if_neg hc] at h; exact absurd h (by simp)
  clear h
  obtain ⟨rfl, hlim⟩ := hcl
  have HR0 := Aside0.mk hr0
  have HC0 := Aside0.mk hc0
  have HLM := Aside0.mk hlim
  clear hr0 hc0 hlim
  have HB := Aside0.mk (Below.refl w.heap.size w)
  have hnil := fun (W : World) (A : Option Addr) (n c : Nat) => Lib.run_eql_slice_nil (P := Try.prog) W 22 3 A n c 0 0 Try.underlying22
  cases A0 with
  | none =>
    have hl : l0 = [] := by
      cases l0 with
      | nil => rfl
      | cons x t =>
        obtain ⟨ad, e, _⟩ := Kd.at_int HR0.out 0 (by decide) (by simp only [List.length_cons]; omega)
        cases e
    subst hl
    go_enter Try.func65, Try.ntmps65
    go_wp2
    go_ret
    exact ⟨.slice none 0 0, rfl, Kd.R_nil _ _ _ _ _, Below.refl _ _⟩
  | some ad =>
    obtain ⟨y361, hy361⟩ : ∃ y_ : List Int, y_ = (([] : List Int)) := ⟨_, rfl⟩
    have Ny361 := Aside0.mk hy361
    clear hy361
    go_enter Try.func65, Try.ntmps65
    go_wp2_with (first | ((with_reducible refine gate_dst (N := 5) rfl ?_); refine Kd.R_lit (Kd.int .i64) _ 3 ?hg (N := 5) ?hd (xs := ([] : List Int)) (inner := []) (ok := fun _ => True) (okp := fun _ => True) ?hr ?hp (fun _ hk => hk) trivial (Below.refl _ _) (Nat.le_refl _) (by simp) ?_; (case hd => rfl); (case hg => rfl); (case hr => first | (go_simp; done) | (go_simp; rfl)); (case hp => exact (Reps.none _ _)); intro v362 w3 ho4 hb hg_ hnew_; clear hg_ hnew_; rw [← Ny361.out] at ho4; have n0_ := Aside0.mk (Kd.R_lower ho4 (below_size (by repeat (first | (with_reducible first | exact HB.out | apply below_alloc | apply pw_below_drewN | apply below_drew1) | exact HB.out)))); have n1_ := Aside0.mk (below_step (by repeat (first | (with_reducible first | exact HB.out | apply below_alloc | apply pw_below_drewN | apply below_drew1) | exact HB.out)) hb); clear HB; have HO363 := n0_; have HB := n1_; clear n0_ n1_; clear hb ho4) | ((with_reducible refine gate_builtin (b := .append) (xs := #[.tmp 5, .tmp 6]) rfl ?_); at_builtin; refine Kd.R_append_rows (Kd.int .i64) (w0 := w) w.heap.size rfl (.tmp 5) (.tmp 6) 22 3 (.int .i64 0) 8 rfl Try.underlying22 info3 rfl (by decide) (by omega) v362 y361 l0 _ _ _ (fun _ => True) (fun _ => False) rfl rfl ?aO ?aR (fun _ _ h => h) (fun _ h => h.elim) ?aF ?aB ?aS ?aL ?_; (case aR => repeat (first | exact (Kd.C_below HR0.out HB.out) | (with_reducible refine Kd.C_alloc ?_ _) | (with_reducible refine Kd.C_drewN ?_ _) | (with_reducible refine Kd.C_drew ?_))); (case aB => exact (by repeat (first | (with_reducible first | exact HB.out | apply below_alloc | apply pw_below_drewN | apply below_drew1) | exact HB.out))); (case aF => exact (fun _ _ => trivial)); (case aO => exact (by (with_reducible repeat (first | apply Kd.R_alloc | apply Kd.R_drewN | apply Kd.R_drew)); exact HO363.out)); (case aS => exact (below_size (by repeat (first | (with_reducible first | exact HB.out | apply below_alloc | apply pw_below_drewN | apply below_drew1) | exact HB.out)))); (case aL => have := HLM.out; rw [Ny361.out]; simp only [List.length_nil]; omega); intro v365 w5 ho hb hg hat; rw [Ny361.out, List.nil_append] at ho; have n0_ := Aside0.mk (hb); have n1_ := Aside0.mk (ho); clear HB; clear HO363; have HB := n0_; have HO366 := n1_; clear n0_ n1_; clear ho hb hg hat))
    go_ret
    exact ⟨_, rfl, by (with_reducible repeat (first | apply Kd.R_alloc | apply Kd.R_drewN | apply Kd.R_drew)); exact HO366.out, by repeat (first | (with_reducible first | exact HB.out | apply below_alloc | apply pw_below_drewN | apply below_drew1) | exact HB.out)⟩

end Go.Proofs.Ytaglakdahmepeaa.P
