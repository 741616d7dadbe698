/- The machine's side: each Go function as a plain Lean function and the proof that the machine's call does what that function says; written by this session's own program over the kit's print. -/
import Derived.Test.YtaglakdahmepeaaZP1
import Derived.Test.YtaglakdahmepeaaZP2
namespace Go.Proofs.Ytaglakdahmepeaa.P
open Go.RowKit Go.Proofs.YtaglakdahmepeaaW.PrintWords Go.Proofs.YtaglakdahmepeaaW.PrintLast Go.Proofs.YtaglakdahmepeaaW.PrintMore
attribute [local go_sem] max2_int min2_int max_two min_two max_three min_three max_four min_four   -- for this text's walks alone
set_option linter.unusedVariables false
set_option linter.unusedSimpArgs false

/-! ### impl_NarrowPairs: function 43 -/
mutual
def impl_NarrowPairs.l0 : Nat → List Int → Int → List Int → Int → Int → Option (List Int)
  | 0, _, _, _, _, _ => none
  | k + 1, x0, x1, x5, x21, x22 => if x22 < x21 then ((impl_LineCells.f k x1 x22).bind fun t594 => (impl_NarrowPairs.l1 k x0 x1 x5 t594 x21 x22 t594 (t594.length : Int) 0)) else (some x5)
def impl_NarrowPairs.l1 : Nat → List Int → Int → List Int → List Int → Int → Int → List Int → Int → Int → Option (List Int)
  | 0, _, _, _, _, _, _, _, _, _ => none
  | k + 1, x0, x1, x5, x7, x21, x22, x28, x29, x30 => if x30 < x29 then (if 0 ≤ x30 then (if x30 < (x28.length : Int) then (if 0 ≤ (wrap64 (x30 + 1)) then (if (wrap64 (x30 + 1)) ≤ (x7.length : Int) then ((some (x7.drop ((wrap64 (x30 + 1)) : Int).toNat : List Int)).bind fun y598 => (impl_NarrowPairs.l2 k x0 x1 x5 x7 (rd x28 x30) x21 x22 x28 x29 x30 y598 (y598.length : Int) 0)) else (none)) else (none)) else (none)) else (none)) else (impl_NarrowPairs.l0 k x0 x1 x5 x21 (wrap64 (x22 + 1)))
def impl_NarrowPairs.l2 : Nat → List Int → Int → List Int → List Int → Int → Int → Int → List Int → Int → Int → List Int → Int → Int → Option (List Int)
  | 0, _, _, _, _, _, _, _, _, _, _, _, _, _ => none
  | k + 1, x0, x1, x5, x7, x9, x21, x22, x28, x29, x30, x38, x39, x40 => if x40 < x39 then (if 0 ≤ x40 then (if x40 < (x38.length : Int) then (if 0 ≤ x9 then (if x9 < (x0.length : Int) then (if 0 ≤ (rd x38 x40) then (if (rd x38 x40) < (x0.length : Int) then (if (rd x0 x9) = (rd x0 (rd x38 x40)) then ((bits_OnesCount.f (IntKind.u64.wrap (rd x0 x9))).bind fun t606 => (impl_NarrowPairs.j3 k x0 x1 x5 x7 x9 (rd x38 x40) x21 x22 x28 x29 x30 x38 x39 x40 (t606 != 2))) else (impl_NarrowPairs.j3 k x0 x1 x5 x7 x9 (rd x38 x40) x21 x22 x28 x29 x30 x38 x39 x40 true)) else (none)) else (none)) else (none)) else (none)) else (none)) else (none)) else (impl_NarrowPairs.l1 k x0 x1 x5 x7 x21 x22 x28 x29 (wrap64 (x30 + 1)))
def impl_NarrowPairs.j3 : Nat → List Int → Int → List Int → List Int → Int → Int → Int → Int → List Int → Int → Int → List Int → Int → Int → Bool → Option (List Int)
  | 0, _, _, _, _, _, _, _, _, _, _, _, _, _, _, _ => none
  | k + 1, x0, x1, x5, x7, x9, x11, x21, x22, x28, x29, x30, x38, x39, x40, x61 => if x61 = true then (impl_NarrowPairs.l2 k x0 x1 x5 x7 x9 x21 x22 x28 x29 x30 x38 x39 (wrap64 (x40 + 1))) else (impl_NarrowPairs.l3 k x0 x1 x5 x7 x9 x11 x21 x22 x28 x29 x30 x38 x39 x40 x7 (x7.length : Int) 0)
def impl_NarrowPairs.l3 : Nat → List Int → Int → List Int → List Int → Int → Int → Int → Int → List Int → Int → Int → List Int → Int → Int → List Int → Int → Int → Option (List Int)
  | 0, _, _, _, _, _, _, _, _, _, _, _, _, _, _, _, _, _ => none
  | k + 1, x0, x1, x5, x7, x9, x11, x21, x22, x28, x29, x30, x38, x39, x40, x62, x63, x64 => if x64 < x63 then (if 0 ≤ x64 then (if x64 < (x62.length : Int) then (if (rd x62 x64) = x9 then (impl_NarrowPairs.l3 k x0 x1 x5 x7 x9 x11 x21 x22 x28 x29 x30 x38 x39 x40 x62 x63 (wrap64 (x64 + 1))) else (if (rd x62 x64) = x11 then (impl_NarrowPairs.l3 k x0 x1 x5 x7 x9 x11 x21 x22 x28 x29 x30 x38 x39 x40 x62 x63 (wrap64 (x64 + 1))) else (if 0 ≤ (rd x62 x64) then (if (rd x62 x64) < (x5.length : Int) then (if 0 ≤ x9 then (if x9 < (x0.length : Int) then (impl_NarrowPairs.l3 k x0 x1 (x5.set ((rd x62 x64) : Int).toNat (Go.bits .andNot .i64 (rd x5 (rd x62 x64)) (rd x0 x9))) x7 x9 x11 x21 x22 x28 x29 x30 x38 x39 x40 x62 x63 (wrap64 (x64 + 1))) else (none)) else (none)) else (none)) else (none)))) else (none)) else (none)) else (impl_NarrowPairs.l2 k x0 x1 x5 x7 x9 x21 x22 x28 x29 x30 x38 x39 (wrap64 (x40 + 1)))
end
def impl_NarrowPairs.f (k : Nat) (l0 : List Int) (a1 : Int) : Option (List Int) := (impl_MasksValid.f k l0 a1).bind fun t590 => (if t590 = true then ((slices_Clone_int_int.f l0).bind fun t591 => (impl_NarrowPairs.l0 k l0 a1 t591 (wrap64 (2 * a1)) 0)) else (some ([] : List Int)))
theorem impl_NarrowPairs.mono_l : ∀ k, (∀ y0 y1 y2 y3 y4, LeO (impl_NarrowPairs.l0 k y0 y1 y2 y3 y4) (impl_NarrowPairs.l0 (k + 1) y0 y1 y2 y3 y4)) ∧ (∀ y0 y1 y2 y3 y4 y5 y6 y7 y8, LeO (impl_NarrowPairs.l1 k y0 y1 y2 y3 y4 y5 y6 y7 y8) (impl_NarrowPairs.l1 (k + 1) y0 y1 y2 y3 y4 y5 y6 y7 y8)) ∧ (∀ y0 y1 y2 y3 y4 y5 y6 y7 y8 y9 y10 y11 y12, LeO (impl_NarrowPairs.l2 k y0 y1 y2 y3 y4 y5 y6 y7 y8 y9 y10 y11 y12) (impl_NarrowPairs.l2 (k + 1) y0 y1 y2 y3 y4 y5 y6 y7 y8 y9 y10 y11 y12)) ∧ (∀ y0 y1 y2 y3 y4 y5 y6 y7 y8 y9 y10 y11 y12 y13 y14, LeO (impl_NarrowPairs.j3 k y0 y1 y2 y3 y4 y5 y6 y7 y8 y9 y10 y11 y12 y13 y14) (impl_NarrowPairs.j3 (k + 1) y0 y1 y2 y3 y4 y5 y6 y7 y8 y9 y10 y11 y12 y13 y14)) ∧ (∀ y0 y1 y2 y3 y4 y5 y6 y7 y8 y9 y10 y11 y12 y13 y14 y15 y16, LeO (impl_NarrowPairs.l3 k y0 y1 y2 y3 y4 y5 y6 y7 y8 y9 y10 y11 y12 y13 y14 y15 y16) (impl_NarrowPairs.l3 (k + 1) y0 y1 y2 y3 y4 y5 y6 y7 y8 y9 y10 y11 y12 y13 y14 y15 y16))
  | 0 => ⟨fun _ _ _ _ _ r h => by simp [impl_NarrowPairs.l0] at h, fun _ _ _ _ _ _ _ _ _ r h => by simp [impl_NarrowPairs.l1] at h, fun _ _ _ _ _ _ _ _ _ _ _ _ _ r h => by simp [impl_NarrowPairs.l2] at h, fun _ _ _ _ _ _ _ _ _ _ _ _ _ _ _ r h => by simp [impl_NarrowPairs.j3] at h, fun _ _ _ _ _ _ _ _ _ _ _ _ _ _ _ _ _ r h => by simp [impl_NarrowPairs.l3] at h⟩
  | k + 1 => by
    obtain ⟨ih0, ih1, ih2, ih3, ih4⟩ := impl_NarrowPairs.mono_l k
    refine ⟨?_, ?_, ?_, ?_, ?_⟩
    · intro y0 y1 y2 y3 y4
      unfold impl_NarrowPairs.l0
      repeat' first
      | (with_reducible exact ih0 _ _ _ _ _)
      | (with_reducible exact ih1 _ _ _ _ _ _ _ _ _)
      | (with_reducible exact ih2 _ _ _ _ _ _ _ _ _ _ _ _ _)
      | (with_reducible exact ih3 _ _ _ _ _ _ _ _ _ _ _ _ _ _ _)
      | (with_reducible exact ih4 _ _ _ _ _ _ _ _ _ _ _ _ _ _ _ _ _)
      | (with_reducible exact impl_LineCells.mono _ _ _)
      | (with_reducible exact impl_MasksValid.mono _ _ _)
      | (with_reducible exact LeO.refl _)
      | (with_reducible exact LeO.none _)
      | (with_reducible refine LeO.ite ?_ ?_)
      | (with_reducible refine LeO.bind ?_ (fun _ => ?_))
      | exact ih0 _ _ _ _ _
      | exact ih1 _ _ _ _ _ _ _ _ _
      | exact ih2 _ _ _ _ _ _ _ _ _ _ _ _ _
      | exact ih3 _ _ _ _ _ _ _ _ _ _ _ _ _ _ _
      | exact ih4 _ _ _ _ _ _ _ _ _ _ _ _ _ _ _ _ _
      | exact impl_LineCells.mono _ _ _
      | exact impl_MasksValid.mono _ _ _
      | exact LeO.none _
      | refine LeO.ite ?_ ?_
      | refine LeO.bind ?_ (fun _ => ?_)
    · intro y0 y1 y2 y3 y4 y5 y6 y7 y8
      unfold impl_NarrowPairs.l1
      repeat' first
      | (with_reducible exact ih0 _ _ _ _ _)
      | (with_reducible exact ih1 _ _ _ _ _ _ _ _ _)
      | (with_reducible exact ih2 _ _ _ _ _ _ _ _ _ _ _ _ _)
      | (with_reducible exact ih3 _ _ _ _ _ _ _ _ _ _ _ _ _ _ _)
      | (with_reducible exact ih4 _ _ _ _ _ _ _ _ _ _ _ _ _ _ _ _ _)
      | (with_reducible exact impl_LineCells.mono _ _ _)
      | (with_reducible exact impl_MasksValid.mono _ _ _)
      | (with_reducible exact LeO.refl _)
      | (with_reducible exact LeO.none _)
      | (with_reducible refine LeO.ite ?_ ?_)
      | (with_reducible refine LeO.bind ?_ (fun _ => ?_))
      | exact ih0 _ _ _ _ _
      | exact ih1 _ _ _ _ _ _ _ _ _
      | exact ih2 _ _ _ _ _ _ _ _ _ _ _ _ _
      | exact ih3 _ _ _ _ _ _ _ _ _ _ _ _ _ _ _
      | exact ih4 _ _ _ _ _ _ _ _ _ _ _ _ _ _ _ _ _
      | exact impl_LineCells.mono _ _ _
      | exact impl_MasksValid.mono _ _ _
      | exact LeO.none _
      | refine LeO.ite ?_ ?_
      | refine LeO.bind ?_ (fun _ => ?_)
    · intro y0 y1 y2 y3 y4 y5 y6 y7 y8 y9 y10 y11 y12
      unfold impl_NarrowPairs.l2
      repeat' first
      | (with_reducible exact ih0 _ _ _ _ _)
      | (with_reducible exact ih1 _ _ _ _ _ _ _ _ _)
      | (with_reducible exact ih2 _ _ _ _ _ _ _ _ _ _ _ _ _)
      | (with_reducible exact ih3 _ _ _ _ _ _ _ _ _ _ _ _ _ _ _)
      | (with_reducible exact ih4 _ _ _ _ _ _ _ _ _ _ _ _ _ _ _ _ _)
      | (with_reducible exact impl_LineCells.mono _ _ _)
      | (with_reducible exact impl_MasksValid.mono _ _ _)
      | (with_reducible exact LeO.refl _)
      | (with_reducible exact LeO.none _)
      | (with_reducible refine LeO.ite ?_ ?_)
      | (with_reducible refine LeO.bind ?_ (fun _ => ?_))
      | exact ih0 _ _ _ _ _
      | exact ih1 _ _ _ _ _ _ _ _ _
      | exact ih2 _ _ _ _ _ _ _ _ _ _ _ _ _
      | exact ih3 _ _ _ _ _ _ _ _ _ _ _ _ _ _ _
      | exact ih4 _ _ _ _ _ _ _ _ _ _ _ _ _ _ _ _ _
      | exact impl_LineCells.mono _ _ _
      | exact impl_MasksValid.mono _ _ _
      | exact LeO.none _
      | refine LeO.ite ?_ ?_
      | refine LeO.bind ?_ (fun _ => ?_)
    · intro y0 y1 y2 y3 y4 y5 y6 y7 y8 y9 y10 y11 y12 y13 y14
      unfold impl_NarrowPairs.j3
      repeat' first
      | (with_reducible exact ih0 _ _ _ _ _)
      | (with_reducible exact ih1 _ _ _ _ _ _ _ _ _)
      | (with_reducible exact ih2 _ _ _ _ _ _ _ _ _ _ _ _ _)
      | (with_reducible exact ih3 _ _ _ _ _ _ _ _ _ _ _ _ _ _ _)
      | (with_reducible exact ih4 _ _ _ _ _ _ _ _ _ _ _ _ _ _ _ _ _)
      | (with_reducible exact impl_LineCells.mono _ _ _)
      | (with_reducible exact impl_MasksValid.mono _ _ _)
      | (with_reducible exact LeO.refl _)
      | (with_reducible exact LeO.none _)
      | (with_reducible refine LeO.ite ?_ ?_)
      | (with_reducible refine LeO.bind ?_ (fun _ => ?_))
      | exact ih0 _ _ _ _ _
      | exact ih1 _ _ _ _ _ _ _ _ _
      | exact ih2 _ _ _ _ _ _ _ _ _ _ _ _ _
      | exact ih3 _ _ _ _ _ _ _ _ _ _ _ _ _ _ _
      | exact ih4 _ _ _ _ _ _ _ _ _ _ _ _ _ _ _ _ _
      | exact impl_LineCells.mono _ _ _
      | exact impl_MasksValid.mono _ _ _
      | exact LeO.none _
      | refine LeO.ite ?_ ?_
      | refine LeO.bind ?_ (fun _ => ?_)
    · intro y0 y1 y2 y3 y4 y5 y6 y7 y8 y9 y10 y11 y12 y13 y14 y15 y16
      unfold impl_NarrowPairs.l3
      repeat' first
      | (with_reducible exact ih0 _ _ _ _ _)
      | (with_reducible exact ih1 _ _ _ _ _ _ _ _ _)
      | (with_reducible exact ih2 _ _ _ _ _ _ _ _ _ _ _ _ _)
      | (with_reducible exact ih3 _ _ _ _ _ _ _ _ _ _ _ _ _ _ _)
      | (with_reducible exact ih4 _ _ _ _ _ _ _ _ _ _ _ _ _ _ _ _ _)
      | (with_reducible exact impl_LineCells.mono _ _ _)
      | (with_reducible exact impl_MasksValid.mono _ _ _)
      | (with_reducible exact LeO.refl _)
      | (with_reducible exact LeO.none _)
      | (with_reducible refine LeO.ite ?_ ?_)
      | (with_reducible refine LeO.bind ?_ (fun _ => ?_))
      | exact ih0 _ _ _ _ _
      | exact ih1 _ _ _ _ _ _ _ _ _
      | exact ih2 _ _ _ _ _ _ _ _ _ _ _ _ _
      | exact ih3 _ _ _ _ _ _ _ _ _ _ _ _ _ _ _
      | exact ih4 _ _ _ _ _ _ _ _ _ _ _ _ _ _ _ _ _
      | exact impl_LineCells.mono _ _ _
      | exact impl_MasksValid.mono _ _ _
      | exact LeO.none _
      | refine LeO.ite ?_ ?_
      | refine LeO.bind ?_ (fun _ => ?_)
theorem impl_NarrowPairs.mono : ∀ a0 a1 k, LeO (impl_NarrowPairs.f k a0 a1) (impl_NarrowPairs.f (k + 1) a0 a1) := by
  intro a0 a1 k
  obtain ⟨ih0, ih1, ih2, ih3, ih4⟩ := impl_NarrowPairs.mono_l k
  unfold impl_NarrowPairs.f
  repeat' first
      | (with_reducible exact ih0 _ _ _ _ _)
      | (with_reducible exact ih1 _ _ _ _ _ _ _ _ _)
      | (with_reducible exact ih2 _ _ _ _ _ _ _ _ _ _ _ _ _)
      | (with_reducible exact ih3 _ _ _ _ _ _ _ _ _ _ _ _ _ _ _)
      | (with_reducible exact ih4 _ _ _ _ _ _ _ _ _ _ _ _ _ _ _ _ _)
      | (with_reducible exact impl_LineCells.mono _ _ _)
      | (with_reducible exact impl_MasksValid.mono _ _ _)
      | (with_reducible exact LeO.refl _)
      | (with_reducible exact LeO.none _)
      | (with_reducible refine LeO.ite ?_ ?_)
      | (with_reducible refine LeO.bind ?_ (fun _ => ?_))
      | exact ih0 _ _ _ _ _
      | exact ih1 _ _ _ _ _ _ _ _ _
      | exact ih2 _ _ _ _ _ _ _ _ _ _ _ _ _
      | exact ih3 _ _ _ _ _ _ _ _ _ _ _ _ _ _ _
      | exact ih4 _ _ _ _ _ _ _ _ _ _ _ _ _ _ _ _ _
      | exact impl_LineCells.mono _ _ _
      | exact impl_MasksValid.mono _ _ _
      | exact LeO.none _
      | refine LeO.ite ?_ ?_
      | refine LeO.bind ?_ (fun _ => ?_)
def impl_NarrowPairs.T14 : Bool × List (List Nat × List Nat) := (true, [([], []), ([], []), ([0, 1], [0, 1]), ([2], [2]), ([], []), ([], []), ([4, 5], [4, 5]), ([6], [6]), ([3, 7], [3, 7]), ([8], [8]), ([9], [9]), ([9], [9]), ([10, 11, 9], [9, 10, 11]), ([12, 9], [9, 12]), ([13, 9], [9, 13]), ([14, 9, 9], [9, 14]), ([15, 9], [9, 15]), ([9, 16], [9, 16])])
def impl_NarrowPairs.B14 : List Nat := [0, 0, 3, 7, 0, 0, 48, 112, 255, 511, 1023, 1023, 4095, 8191, 16383, 32767, 65535, 131071]
theorem impl_NarrowPairs.tab14 : rtab .any (opsOf Try.f43 14) = impl_NarrowPairs.T14 := by kernel_rfl
theorem impl_NarrowPairs.bits14 : waitsOk impl_NarrowPairs.T14.2 impl_NarrowPairs.B14 = true := by kernel_rfl
def impl_NarrowPairs.T19 : Bool × List (List Nat × List Nat) := (true, [([], []), ([], []), ([0, 1], [0, 1]), ([2], [2]), ([], []), ([], []), ([4, 5], [4, 5]), ([6], [6]), ([3, 7], [3, 7]), ([0, 1, 0, 1, 2, 3, 4, 5, 6, 7, 8], [0, 1]), ([9, 8, 0, 1, 2, 3, 4, 5, 6, 7, 8], [8, 9])])
def impl_NarrowPairs.B19 : List Nat := [0, 0, 3, 7, 0, 0, 48, 112, 255, 511, 1023]
theorem impl_NarrowPairs.tab19 : rtab .any (opsOf Try.f43 19) = impl_NarrowPairs.T19 := by kernel_rfl
theorem impl_NarrowPairs.bits19 : waitsOk impl_NarrowPairs.T19.2 impl_NarrowPairs.B19 = true := by kernel_rfl
set_option maxHeartbeats 8000000 in
set_option maxRecDepth 100000 in
theorem impl_NarrowPairs.calls (k : Nat) (A0 : Option Addr) (c0 : Nat) (l0 : List Int) (a1 : Int) (r : List Int) (w : World) (hr0 : Kd.C (Kd.int .i64) w A0 l0.length l0) (hc0 : l0.length ≤ c0) (h : impl_NarrowPairs.f k l0 a1 = some r) :
    Calls Try.prog 43 #[.slice A0 l0.length c0, .int .i64 a1] w fun e w' => ∃ v0_ : Value, e = .returned (v0_) ∧ Kd.R (Kd.int .i64) 3 w' w.heap.size (fun _ => True) v0_ r ∧ Below w.heap.size w w' := by
  have HR0 := yam hr0
  have HC0 := yam hc0
  clear hr0 hc0
  have HB := yam (Below.refl w.heap.size w)
  have H : ((impl_MasksValid.f k l0 a1).bind fun t590 => (if t590 = true then ((slices_Clone_int_int.f l0).bind fun t591 => (impl_NarrowPairs.l0 k l0 a1 t591 (wrap64 (2 * a1)) 0)) else (some ([] : List Int)))) = some r := h
  clear h
  replace H := Option.bind_eq_some_iff.mp H
  obtain ⟨t590, A30, H⟩ := H
  try dsimp only at H
  have A3 := yam A30
  clear A30
  by_cases c4 : t590 = true
  rotate_left
  · replace c4 := Bool.eq_false_iff.mpr c4
    subst c4
    have H1 : (some ([] : List Int)) = some r := by rw [if_neg (show ¬ (false = true) by decide)] at H; exact H
    clear H
    have H := H1
    clear H1
    obtain rfl := Option.some.inj H
    go_enter Try.func43, Try.ntmps43
    go_wp2_with (first | ((with_reducible refine gate_callee (f := 52) rfl ?_); refine goesL_ (some 16) rfl rfl Try.func52 (by kernel_rfl) rfl #[.slice A0 l0.length c0, .int .i64 a1] rfl (by (try simp only [List.map_toArray, List.map_cons, List.map_nil]); first | done | rfl | (simp only [List.length_drop, List.length_take]; rfl)) ?_; (with_reducible refine (impl_MasksValid.calls k _ _ l0 a1 false _ ?side1 ?side2 A3.out).mono ?_); (case side1 => exact Kd.Cz (HR0.out)); (case side2 => exact HC0.out); rintro e w' ⟨rfl, ⟨nd, rfl⟩⟩; refine ⟨_, rfl, ?_⟩))
    go_ret
    exact ⟨_, by first | rfl | (simp [errW_none, errW_some] <;> rfl) | (simp [*, errW_none, errW_some] <;> rfl), by first | exact Kd.R_nil _ _ _ _ _ | exact Kd.N_nil _ _ _ _ _ | exact Kd.V_nil _ _ _ _ _ | exact Kd.Q_nil _ _ _ _ _ | exact Kd.S_nil _ _ _ _ _, by repeat (first | (with_reducible first | exact HB.out | apply yea | apply yen | apply yed) | exact HB.out)⟩

  subst c4
  have H1 : ((slices_Clone_int_int.f l0).bind fun t591 => (impl_NarrowPairs.l0 k l0 a1 t591 (wrap64 (2 * a1)) 0)) = some r := by rw [if_pos rfl] at H; exact H
  clear H
  have H := H1
  clear H1
  replace H := Option.bind_eq_some_iff.mp H
  obtain ⟨t591, A50, H⟩ := H
  try dsimp only at H
  have A5 := yam A50
  clear A50
  have H' := yam H
  clear H
  go_enter Try.func43, Try.ntmps43
  go_wp2_with (first | ((with_reducible refine gate_callee (f := 52) rfl ?_); refine goesL_ (some 16) rfl rfl Try.func52 (by kernel_rfl) rfl #[.slice A0 l0.length c0, .int .i64 a1] rfl (by (try simp only [List.map_toArray, List.map_cons, List.map_nil]); first | done | rfl | (simp only [List.length_drop, List.length_take]; rfl)) ?_; (with_reducible refine (impl_MasksValid.calls k _ _ l0 a1 true _ ?side1 ?side2 A3.out).mono ?_); (case side1 => exact Kd.Cz (HR0.out)); (case side2 => exact HC0.out); rintro e w' ⟨rfl, ⟨nd, rfl⟩⟩; refine ⟨_, rfl, ?_⟩) | ((with_reducible refine gate_callee (f := 65) rfl ?_); refine goesL_ (some 19) rfl rfl Try.func65 (by kernel_rfl) rfl #[.slice A0 l0.length c0] rfl (by (try simp only [List.map_toArray, List.map_cons, List.map_nil]); first | done | rfl | (simp only [List.length_drop, List.length_take]; rfl)) ?_; (with_reducible refine (slices_Clone_int_int.calls _ _ l0 t591 _ ?side1 ?side2 A5.out).mono ?_); (case side1 => exact Kd.Cz (HR0.out)); (case side2 => exact HC0.out); rintro e w6 ⟨v592, rfl, ho0, hb⟩; refine ⟨_, rfl, ?_⟩; have n0_ := yam (Kd.R_lower ho0 (below_size (yez HB.out))); have n1_ := yam (below_step (yez HB.out) hb); clear HB; have HO593 := n0_; have HB := n1_; clear n0_ n1_; (try clear hb); (try clear hb2); (try clear hk); (try clear hi); (try clear ho0)))
  go_loopg [22] k (fun kq v22 w' => ∃ (x5_1 : List Int) (x22_1 : Int), v22 = .int .i64 x22_1 ∧ Aside0 (impl_NarrowPairs.l0 kq l0 a1 x5_1 (wrap64 (2 * a1)) x22_1 = some r) ∧ Aside0 (kq ≤ k) ∧ Aside0 (Kd.R (Kd.int .i64) 3 w' w.heap.size (fun _ => True) v592 x5_1) ∧ Aside0 (Below w.heap.size w w'))
  case atStart => exact ⟨(t591), (0), (by first | rfl | (simp; done) | (simp [*]; done)), H', ⟨Nat.le_refl _⟩, ⟨by (with_reducible repeat (first | apply Kd.Ya | apply Kd.Yn | apply Kd.Yd)); exact HO593.out⟩, ⟨by repeat (first | (with_reducible first | exact HB.out | apply yea | apply yen | apply yed) | exact HB.out)⟩⟩
  case round =>
    clear H'
    try clear p2
    try clear c4
    try clear c5
    try clear c6
    try clear p6
    obtain ⟨x5_1, x22_1, rfl, HA, HK1, HO_5, HB⟩ := hrel
    cases gk with
    | zero => exact absurd HA.out (by simp [impl_NarrowPairs.l0])
    | succ k1 =>
      have H := HA.out
      clear HA
      simp only [impl_NarrowPairs.l0] at H
      by_cases c7 : x22_1 < (wrap64 (2 * a1))
      rotate_left
      · rw [if_neg c7] at H
        have c7b0 : decide (x22_1 < (wrap64 (2 * a1))) = false := decide_eq_false c7
        clear c7
        obtain rfl := Option.some.inj H
        go_wp2
        go_ret
        exact ⟨_, by first | rfl | (simp [errW_none, errW_some] <;> rfl) | (simp [*, errW_none, errW_some] <;> rfl), by (with_reducible repeat (first | apply Kd.Ya | apply Kd.Yn | apply Kd.Yd)); exact HO_5.out, by repeat (first | (with_reducible first | exact HB.out | apply yea | apply yen | apply yed) | exact HB.out)⟩
      rw [if_pos c7] at H
      have c7b0 : decide (x22_1 < (wrap64 (2 * a1))) = true := decide_eq_true c7
      clear c7
      replace H := Option.bind_eq_some_iff.mp H
      obtain ⟨t594, A80, H⟩ := H
      try dsimp only at H
      have A8 := yam A80
      clear A80
      have H' := yam H
      clear H
      go_wp2_with (first | ((with_reducible refine gate_callee (f := 49) rfl ?_); refine goesL_ (some 27) rfl rfl Try.func49 (by kernel_rfl) rfl #[.int .i64 a1, .int .i64 x22_1] rfl (by (try simp only [List.map_toArray, List.map_cons, List.map_nil]); first | done | rfl | (simp only [List.length_drop, List.length_take]; rfl)) ?_; (with_reducible refine (impl_LineCells.calls k1 a1 x22_1 t594 _ A8.out).mono ?_); rintro e w9 ⟨v595, rfl, ho0, hb⟩; refine ⟨_, rfl, ?_⟩; have n0_ := yam (Kd.Ye (Kd.Yz HO_5.out) (Kd.Yb ho0) hb); have n1_ := yam (Kd.R_lower (Kd.Yw ho0 (Kd.R_lt (Kd.Yz HO_5.out))) (below_size (yez HB.out))); have n2_ := yam (below_step (yez HB.out) hb); clear HO_5; clear HB; have HO_5 := n0_; have HO596 := n1_; have HB := n2_; clear n0_ n1_ n2_; (try clear hb); (try clear hb2); (try clear hk); (try clear hi); (try clear ho0); obtain ⟨Ao10, co10, eo10⟩ := Kd.R_slice HO596.out; subst eo10))
      go_loopg [30] k1 (fun kq v30 w' => ∃ (x5_2 : List Int) (x30_2 : Int), v30 = .int .i64 x30_2 ∧ Aside0 (impl_NarrowPairs.l1 kq l0 a1 x5_2 t594 (wrap64 (2 * a1)) x22_1 t594 (t594.length : Int) x30_2 = some r) ∧ Aside0 (kq ≤ k1) ∧ Aside0 (Kd.R (Kd.int .i64) 3 w' w.heap.size (fun k_ => some k_ ≠ ((.slice Ao10 t594.length co10) : Value).ownBlock ∧ some k_ ≠ ((.slice Ao10 t594.length co10) : Value).ownBlock) v592 x5_2) ∧ Aside0 (Kd.R (Kd.int .i64) 3 w' w.heap.size (fun k_ => some k_ ≠ (v592 : Value).ownBlock) (.slice Ao10 t594.length co10) t594) ∧ Aside0 (Kd.R (Kd.int .i64) 3 w' w.heap.size (fun k_ => some k_ ≠ (v592 : Value).ownBlock) (.slice Ao10 t594.length co10) t594) ∧ Aside0 (Below w.heap.size w w'))
      case atStart => exact ⟨(x5_1), (0), (by first | rfl | (simp; done) | (simp [*]; done)), H', ⟨Nat.le_refl _⟩, ⟨by (with_reducible repeat (first | apply Kd.Ya | apply Kd.Yn | apply Kd.Yd)); exact Kd.R_mono HO_5.out (fun _ hk => ⟨hk.2, hk.2⟩)⟩, ⟨by (with_reducible repeat (first | apply Kd.Ya | apply Kd.Yn | apply Kd.Yd)); exact Kd.R_mono HO596.out (fun _ hk => hk.2)⟩, ⟨by (with_reducible repeat (first | apply Kd.Ya | apply Kd.Yn | apply Kd.Yd)); exact Kd.R_mono HO596.out (fun _ hk => hk.2)⟩, ⟨by repeat (first | (with_reducible first | exact HB.out | apply yea | apply yen | apply yed) | exact HB.out)⟩⟩
      case round =>
        clear H'
        try clear p2
        try clear c4
        try clear c5
        try clear c6
        try clear p6
        try clear c7
        try clear c7b0
        try clear p2
        try clear p6
        obtain ⟨x5_2, x30_2, rfl, HA, HK2, HO_5, HO_7, HO_28, HB⟩ := hrel
        cases gk with
        | zero => exact absurd HA.out (by simp [impl_NarrowPairs.l1])
        | succ k2 =>
          have H := HA.out
          clear HA
          simp only [impl_NarrowPairs.l1] at H
          by_cases c11 : x30_2 < (t594.length : Int)
          rotate_left
          · rw [if_neg c11] at H
            have c11b0 : decide (x30_2 < (t594.length : Int)) = false := decide_eq_false c11
            clear c11
            have H' := yam H
            clear H
            go_wp2
            go_roundg k2
            case measure => have := HK1.out; have := HK2.out; omega
            case rel => exact ⟨(x5_2), (wrap64 (x22_1 + 1)), (by first | rfl | (simp; done) | (simp [*]; done)), H', ⟨by have := HK1.out; have := HK2.out; omega⟩, ⟨by (with_reducible repeat (first | apply Kd.Ya | apply Kd.Yn | apply Kd.Yd)); exact Kd.R_mono HO_5.out (fun _ hk => trivial)⟩, ⟨by repeat (first | (with_reducible first | exact HB.out | apply yea | apply yen | apply yed) | exact HB.out)⟩⟩
          rw [if_pos c11] at H
          have c11b0 : decide (x30_2 < (t594.length : Int)) = true := decide_eq_true c11
          clear c11
          by_cases c12 : 0 ≤ x30_2
          rotate_left
          · rw [if_neg c12] at H
            exact absurd H (by simp)
          rw [if_pos c12] at H
          have c12b0 : decide (0 ≤ x30_2) = true := decide_eq_true c12
          clear c12
          by_cases c13 : x30_2 < (t594.length : Int)
          rotate_left
          · rw [if_neg c13] at H
            exact absurd H (by simp)
          rw [if_pos c13] at H
          have c13b0 : decide (x30_2 < (t594.length : Int)) = true := decide_eq_true c13
          clear c13
          obtain ⟨ji14, hji14⟩ : ∃ j_ : Int, (wrap64 (x30_2 + 1)) = j_ := ⟨_, rfl⟩
          replace H : (if 0 ≤ (ji14) then (if (ji14) ≤ (t594.length : Int) then ((some (t594.drop ((ji14) : Int).toNat : List Int)).bind fun y598 => (impl_NarrowPairs.l2 k2 l0 a1 x5_2 t594 (rd t594 x30_2) (wrap64 (2 * a1)) x22_1 t594 (t594.length : Int) x30_2 y598 (y598.length : Int) 0)) else (none)) else (none)) = some r := by first | (rw [hji14] at H; exact H) | (simp only [hji14] at H ⊢; exact H)
          have hji14w : (IntKind.i64.wrap (x30_2 + 1)) = ji14 := (i64_w _).trans hji14
          by_cases c15 : 0 ≤ (ji14)
          rotate_left
          · rw [if_neg c15] at H
            exact absurd H (by simp)
          rw [if_pos c15] at H
          have c15b0 := eq_true c15
          have c15b1 : decide (0 ≤ (ji14)) = true := decide_eq_true c15
          clear c15
          by_cases c16 : (ji14) ≤ (t594.length : Int)
          rotate_left
          · rw [if_neg c16] at H
            exact absurd H (by simp)
          rw [if_pos c16] at H
          have c16b0 := eq_true c16
          have c16b1 : decide ((ji14) ≤ (t594.length : Int)) = true := decide_eq_true c16
          clear c16
          obtain ⟨y598, hy598⟩ : ∃ y_ : List Int, y_ = (t594.drop ((ji14) : Int).toNat) := ⟨_, rfl⟩
          replace H : (impl_NarrowPairs.l2 k2 l0 a1 x5_2 t594 (rd t594 x30_2) (wrap64 (2 * a1)) x22_1 t594 (t594.length : Int) x30_2 y598 (y598.length : Int) 0) = some r := by first | (rw [hy598]; with_reducible exact H) | (have H2_ := (Option.bind_some _ _).symm.trans H; rw [hy598]; with_reducible exact H2_) | (have H2_ := (Option.bind_some _ _).symm.trans H; with_reducible exact H2_) | with_reducible exact H | (rw [hy598]; exact H) | exact H
          have Ny598 := yam hy598
          clear hy598
          have H' := yam H
          clear H
          have p597 : 0 ≤ (x30_2 : Int) := of_decide_eq_true (by first | (with_reducible assumption) | assumption)
          have q597 : x30_2 < (t594.length : Int) := of_decide_eq_true (by first | (with_reducible assumption) | assumption)
          obtain ⟨ad597, e597, hx597_0⟩ := Kd.at_int (Kd.Yr HO_28.out).2.2 x30_2 p597 q597
          cases e597
          replace p597 := eq_true p597
          replace q597 := eq_true q597
          have q17 : ((ji14) : Int) ≤ ((t594.length : Int) : Int) := of_decide_eq_true (by first | (with_reducible assumption) | assumption)
          obtain ⟨i017, hi017, _, hsz17, _⟩ := info_parts info3
          have hroom17 : t594.length ≤ co10 := (Kd.Yr HO_7.out).2.1
          have hC17 : Kd.C (Kd.int .i64) _ (some ad597) t594.length t594 := (Kd.Yr HO_7.out).2.2
          have q017 : (0 : Int) ≤ ((ji14) : Int) := of_decide_eq_true (by first | (with_reducible assumption) | assumption)
          have hcut17 := cut_from (P := Try.prog) 22 3 .i64 Try.underlying22 hi017 1 hsz17 (some ad597) t594.length co10 (ji14) q017 q17
          have hr17 := Kd.C_drop (m := ((ji14) : Int).toNat) (c := co10) hC17 (by omega) hroom17
          obtain ⟨A17, hA17⟩ : ∃ A1, A1 = (if co10 = ((ji14) : Int).toNat then (some ad597) else ((some ad597) : Option Addr).map (·.add (((ji14) : Int).toNat * 1))) := ⟨_, rfl⟩
          obtain ⟨c17, hc17⟩ : ∃ c1, c1 = co10 - ((ji14) : Int).toNat := ⟨_, rfl⟩
          have hy17 : y598.length = t594.length - ((ji14) : Int).toNat := (by rw [Ny598.out, List.length_drop] <;> omega)
          rw [show (t594).drop ((ji14) : Int).toNat = y598 from Ny598.out.symm] at hr17
          replace hr17 : Kd.C (Kd.int .i64) _ A17 y598.length y598 := (by rw [hA17]; exact hr17)
          rw [← hy17, ← hA17, ← hc17] at hcut17
          have HR601 := yam hr17
          have HC601 := yam (show y598.length ≤ c17 from by rw [hy17, hc17]; exact Nat.sub_le_sub_right hroom17 _)
          clear hr17 hC17 hroom17 hi017 hsz17 hc17
          have KY17 := yam hy17
          have KA17 := yam hA17
          clear hy17 hA17
          have KL17 := yam (show ((ji14) : Int).toNat ≤ t594.length from by omega)
          replace q17 := eq_true q17
          go_wp2
          go_loopg [40] k2 (fun kq v40 w' => ∃ (x5_3 : List Int) (x40_3 : Int), v40 = .int .i64 x40_3 ∧ Aside0 (impl_NarrowPairs.l2 kq l0 a1 x5_3 t594 (rd t594 x30_2) (wrap64 (2 * a1)) x22_1 t594 (t594.length : Int) x30_2 y598 (y598.length : Int) x40_3 = some r) ∧ Aside0 (kq ≤ k2) ∧ Aside0 (Kd.R (Kd.int .i64) 3 w' w.heap.size (fun k_ => some k_ ≠ ((.slice (some ad597) t594.length co10) : Value).ownBlock ∧ some k_ ≠ ((.slice (some ad597) t594.length co10) : Value).ownBlock) v592 x5_3) ∧ Aside0 (Kd.R (Kd.int .i64) 3 w' w.heap.size (fun k_ => some k_ ≠ (v592 : Value).ownBlock) (.slice (some ad597) t594.length co10) t594) ∧ Aside0 (Kd.R (Kd.int .i64) 3 w' w.heap.size (fun k_ => some k_ ≠ (v592 : Value).ownBlock) (.slice (some ad597) t594.length co10) t594) ∧ Aside0 (Kd.C (Kd.int .i64) w' A17 y598.length y598) ∧ Aside0 (Below w.heap.size w w'))
          case atStart => exact ⟨(x5_2), (0), (by first | rfl | (simp; done) | (simp [*]; done)), H', ⟨Nat.le_refl _⟩, ⟨by (with_reducible repeat (first | apply Kd.Ya | apply Kd.Yn | apply Kd.Yd)); exact HO_5.out⟩, ⟨by (with_reducible repeat (first | apply Kd.Ya | apply Kd.Yn | apply Kd.Yd)); exact HO_7.out⟩, ⟨by (with_reducible repeat (first | apply Kd.Ya | apply Kd.Yn | apply Kd.Yd)); exact HO_28.out⟩, ⟨by repeat (first | (with_reducible exact HR601.out) | (with_reducible refine Kd.C_alloc ?_ _) | (with_reducible refine Kd.C_drewN ?_ _) | (with_reducible refine Kd.C_drew ?_) | exact HR601.out)⟩, ⟨by repeat (first | (with_reducible first | exact HB.out | apply yea | apply yen | apply yed) | exact HB.out)⟩⟩
          case round =>
            clear H'
            try clear c1
            try clear q1
            try clear p2
            try clear c4
            try clear c5
            try clear p5
            try clear q5
            try clear hx5
            try clear c6
            try clear p6
            try clear c7
            try clear c7b0
            try clear c11
            try clear c11b0
            try clear c12
            try clear c12b0
            try clear c13
            try clear c13b0
            try clear c15
            try clear c15b0
            try clear c15b1
            try clear c16
            try clear c16b0
            try clear c16b1
            try clear c17
            try clear q17
            try clear hx597_0
            try clear p2
            try clear p597
            try clear p6
            try clear q017
            try clear q17
            try clear q597
            obtain ⟨x5_3, x40_3, rfl, HA, HK3, HO_5, HO_7, HO_28, HR601, HB⟩ := hrel
            cases gk with
            | zero => exact absurd HA.out (by simp [impl_NarrowPairs.l2])
            | succ k3 =>
              have H := HA.out
              clear HA
              simp only [impl_NarrowPairs.l2] at H
              by_cases c18 : x40_3 < (y598.length : Int)
              rotate_left
              · rw [if_neg c18] at H
                have c18b0 : decide (x40_3 < (y598.length : Int)) = false := decide_eq_false c18
                clear c18
                have H' := yam H
                clear H
                go_wp2
                go_roundg k3
                case measure => have := HK1.out; have := HK2.out; have := HK3.out; omega
                case rel => exact ⟨(x5_3), (wrap64 (x30_2 + 1)), (by first | rfl | (simp; done) | (simp [*]; done)), H', ⟨by have := HK1.out; have := HK2.out; have := HK3.out; omega⟩, ⟨by (with_reducible repeat (first | apply Kd.Ya | apply Kd.Yn | apply Kd.Yd)); exact HO_5.out⟩, ⟨by (with_reducible repeat (first | apply Kd.Ya | apply Kd.Yn | apply Kd.Yd)); exact HO_7.out⟩, ⟨by (with_reducible repeat (first | apply Kd.Ya | apply Kd.Yn | apply Kd.Yd)); exact HO_28.out⟩, ⟨by repeat (first | (with_reducible first | exact HB.out | apply yea | apply yen | apply yed) | exact HB.out)⟩⟩
              rw [if_pos c18] at H
              have c18b0 : decide (x40_3 < (y598.length : Int)) = true := decide_eq_true c18
              clear c18
              by_cases c19 : 0 ≤ x40_3
              rotate_left
              · rw [if_neg c19] at H
                exact absurd H (by simp)
              rw [if_pos c19] at H
              have c19b0 : decide (0 ≤ x40_3) = true := decide_eq_true c19
              clear c19
              by_cases c20 : x40_3 < (y598.length : Int)
              rotate_left
              · rw [if_neg c20] at H
                exact absurd H (by simp)
              rw [if_pos c20] at H
              have c20b0 : decide (x40_3 < (y598.length : Int)) = true := decide_eq_true c20
              clear c20
              have HC21 := yam H
              clear H
              have p602 : 0 ≤ (x40_3 : Int) := of_decide_eq_true (by first | (with_reducible assumption) | assumption)
              have q602 : x40_3 < (y598.length : Int) := of_decide_eq_true (by first | (with_reducible assumption) | assumption)
              obtain ⟨ad602, e602, hx602_0⟩ := Kd.at_int (by repeat (first | (with_reducible exact HR601.out) | (with_reducible refine Kd.C_alloc ?_ _) | (with_reducible refine Kd.C_drewN ?_ _) | (with_reducible refine Kd.C_drew ?_) | exact HR601.out)) x40_3 p602 q602
              cases e602
              replace p602 := eq_true p602
              replace q602 := eq_true q602
              go_upto_region 14 with (fail)
              go_cut [61] (fun v61 wc => ∃ (kq : Nat) (x61_20 : Bool), v61 = .bool x61_20 ∧ Aside0 (impl_NarrowPairs.j3 kq l0 a1 x5_3 t594 (rd t594 x30_2) (rd y598 x40_3) (wrap64 (2 * a1)) x22_1 t594 (t594.length : Int) x30_2 y598 (y598.length : Int) x40_3 x61_20 = some r) ∧ Aside0 (kq ≤ k3) ∧ Aside0 (Kd.R (Kd.int .i64) 3 wc w.heap.size (fun k_ => some k_ ≠ ((.slice (some ad597) t594.length co10) : Value).ownBlock ∧ some k_ ≠ ((.slice (some ad597) t594.length co10) : Value).ownBlock) v592 x5_3) ∧ Aside0 (Kd.R (Kd.int .i64) 3 wc w.heap.size (fun k_ => some k_ ≠ (v592 : Value).ownBlock) (.slice (some ad597) t594.length co10) t594) ∧ Aside0 (Kd.R (Kd.int .i64) 3 wc w.heap.size (fun k_ => some k_ ≠ (v592 : Value).ownBlock) (.slice (some ad597) t594.length co10) t594) ∧ Aside0 (Kd.C (Kd.int .i64) wc (some ad602) y598.length y598) ∧ Aside0 (Below w.heap.size w wc))
              case first =>
                have H := HC21.out
                clear HC21
                by_cases c22 : 0 ≤ (rd t594 x30_2)
                rotate_left
                · rw [if_neg c22] at H
                  exact absurd H (by simp)
                rw [if_pos c22] at H
                have c22b0 : decide (0 ≤ (rd t594 x30_2)) = true := decide_eq_true c22
                clear c22
                (first | rw [c22b0] | (simp only [i64_w, i32_w]; rw [c22b0]) | skip)
                by_cases c23 : (rd t594 x30_2) < (l0.length : Int)
                rotate_left
                · rw [if_neg c23] at H
                  exact absurd H (by simp)
                rw [if_pos c23] at H
                have c23b0 : decide ((rd t594 x30_2) < (l0.length : Int)) = true := decide_eq_true c23
                clear c23
                by_cases c24 : 0 ≤ (rd y598 x40_3)
                rotate_left
                · rw [if_neg c24] at H
                  exact absurd H (by simp)
                rw [if_pos c24] at H
                have c24b0 : decide (0 ≤ (rd y598 x40_3)) = true := decide_eq_true c24
                clear c24
                by_cases c25 : (rd y598 x40_3) < (l0.length : Int)
                rotate_left
                · rw [if_neg c25] at H
                  exact absurd H (by simp)
                rw [if_pos c25] at H
                have c25b0 : decide ((rd y598 x40_3) < (l0.length : Int)) = true := decide_eq_true c25
                clear c25
                by_cases c26 : (rd l0 (rd t594 x30_2)) = (rd l0 (rd y598 x40_3))
                rotate_left
                · rw [if_neg c26] at H
                  have c26b0 : ((rd l0 (rd t594 x30_2)) == (rd l0 (rd y598 x40_3))) = false := beq_eq_false_iff_ne.mpr c26
                  have c26b1 : ((rd l0 (rd t594 x30_2)) != (rd l0 (rd y598 x40_3))) = true := bne_iff_ne.mpr c26
                  have H' := yam H
                  clear H
                  try go_wp2
                  have n0_ := yam (Kd.Yd HO_5.out)
                  have n1_ := yam (Kd.Yd HO_7.out)
                  have n2_ := yam (Kd.Yd HO_28.out)
                  have n3_ := yam (Kd.C_drew HR601.out)
                  have n4_ := yam (yed HB.out)
                  clear HO_5
                  clear HO_7
                  clear HO_28
                  clear HR601
                  clear HB
                  have HO_5 := n0_
                  have HO_7 := n1_
                  have HO_28 := n2_
                  have HR601 := n3_
                  have HB := n4_
                  clear n0_ n1_ n2_ n3_ n4_
                  have p603 : 0 ≤ ((rd t594 x30_2) : Int) := of_decide_eq_true (by first | (with_reducible assumption) | assumption)
                  have q603 : (rd t594 x30_2) < (l0.length : Int) := of_decide_eq_true (by first | (with_reducible assumption) | assumption)
                  obtain ⟨ad603, e603, hx603_0⟩ := Kd.at_int HR0.out (rd t594 x30_2) p603 q603
                  have hw603_0 := hx603_0
                  cases e603
                  replace hx603_0 := (HB.out.cell (World.block_lt_of_cell? w _ hx603_0)).trans hx603_0
                  replace p603 := eq_true p603
                  replace q603 := eq_true q603
                  have p604 : 0 ≤ ((rd y598 x40_3) : Int) := of_decide_eq_true (by first | (with_reducible assumption) | assumption)
                  have q604 : (rd y598 x40_3) < (l0.length : Int) := of_decide_eq_true (by first | (with_reducible assumption) | assumption)
                  obtain ⟨ad604, e604, hx604_0⟩ := Kd.at_int HR0.out (rd y598 x40_3) p604 q604
                  have hw604_0 := hx604_0
                  obtain rfl : ad603 = ad604 := (by injection e604)
                  replace hx604_0 := (HB.out.cell (World.block_lt_of_cell? w _ hx604_0)).trans hx604_0
                  replace p604 := eq_true p604
                  replace q604 := eq_true q604
                  refine start_ (n := 18) (S := fun w' => w'.cell? (ad603.add ((rd t594 x30_2)).toNat) = some (.int .i64 (rd l0 (rd t594 x30_2))) ∧ w'.cell? (ad603.add ((rd y598 x40_3)).toNat) = some (.int .i64 (rd l0 (rd y598 x40_3)))) (ds := []) #[false, false, false, false, false, false, false, false, false, false, false, false, false, false, false, false, false, false] (by kernel_rfl) rfl rfl ⟨((HB.out.cell (World.block_lt_of_cell? w _ hw603_0)).trans hw603_0), ((HB.out.cell (World.block_lt_of_cell? w _ hw604_0)).trans hw604_0)⟩ (fun hHeld => ?_); refine with_tabW impl_NarrowPairs.tab14 impl_NarrowPairs.bits14 (fun HT_ HW_ => ?_)
                  generalize wr.drew = w29 at HO_5 HO_7 HO_28 HR601 HB hx603_0 hx604_0 hHeld ⊢
                  refine pure_ (i := 0) (N := some 44) (v := ?_) (a' := ?_) #[true, false, false, false, false, false, false, false, false, false, false, false, false, false, false, false, false, false] rfl rfl (any_of HT_.out (by kernel_rfl)) (fun _ _ _ h => h) (Or.inl ⟨by rfl, ?_⟩) ?_ ?_
                  rotate_left
                  · intro w'
                    go_simp
                    with_reducible rfl
                  rotate_left
                  · simp only [Act.put, yps, i64_w, i32_w]
                    rfl
                  refine pure_ (i := 1) (N := some 45) (v := ?_) (a' := ?_) #[true, true, false, false, false, false, false, false, false, false, false, false, false, false, false, false, false, false] rfl rfl (any_of HT_.out (by kernel_rfl)) (fun _ _ _ h => h) (Or.inl ⟨by rfl, ?_⟩) ?_ ?_
                  rotate_left
                  · intro w'
                    go_simp
                    with_reducible rfl
                  rotate_left
                  · simp only [Act.put, yps, i64_w, i32_w]
                    rfl
                  refine pure_ (i := 2) (N := some 46) (v := ?_) (a' := ?_) #[true, true, true, false, false, false, false, false, false, false, false, false, false, false, false, false, false, false] rfl rfl (any_of HT_.out (by kernel_rfl)) (fun _ _ _ h => h) (Or.inl ⟨by rfl, ?_⟩) ?_ ?_
                  rotate_left
                  · intro w'
                    go_simp
                    with_reducible rfl
                  rotate_left
                  · simp only [Act.put, yps, i64_w, i32_w]
                    rfl
                  refine pure_ (i := 4) (N := some 48) (v := ?_) (a' := ?_) #[true, true, true, false, true, false, false, false, false, false, false, false, false, false, false, false, false, false] rfl rfl (any_of HT_.out (by kernel_rfl)) (fun _ _ _ h => h) (Or.inl ⟨by rfl, ?_⟩) ?_ ?_
                  rotate_left
                  · intro w'
                    go_simp
                    with_reducible rfl
                  rotate_left
                  · simp only [Act.put, yps, i64_w, i32_w]
                    rfl
                  refine pure_ (i := 5) (N := some 49) (v := ?_) (a' := ?_) #[true, true, true, false, true, true, false, false, false, false, false, false, false, false, false, false, false, false] rfl rfl (any_of HT_.out (by kernel_rfl)) (fun _ _ _ h => h) (Or.inl ⟨by rfl, ?_⟩) ?_ ?_
                  rotate_left
                  · intro w'
                    go_simp
                    with_reducible rfl
                  rotate_left
                  · simp only [Act.put, yps, i64_w, i32_w]
                    rfl
                  refine pure_ (i := 6) (N := some 50) (v := ?_) (a' := ?_) #[true, true, true, false, true, true, true, false, false, false, false, false, false, false, false, false, false, false] rfl rfl (any_of HT_.out (by kernel_rfl)) (fun _ _ _ h => h) (Or.inl ⟨by rfl, ?_⟩) ?_ ?_
                  rotate_left
                  · intro w'
                    go_simp
                    with_reducible rfl
                  rotate_left
                  · simp only [Act.put, yps, i64_w, i32_w]
                    rfl
                  refine take_ (i := 3) (N := some 47) (v := ?_) (a' := ?_) #[true, true, true, true, true, true, true, false, false, false, false, false, false, false, false, false, false, false] rfl rfl (take_ofW HT_.out HW_.out (by kernel_rfl)) (fun _ _ _ h => h) (Or.inl ⟨by rfl, ?_⟩) hHeld ?_ ?_
                  rotate_left
                  · rintro w' ⟨s0, s1⟩
                    go_simp
                    with_reducible rfl
                  rotate_left
                  · simp only [Act.put, yps, i64_w, i32_w]
                    rfl
                  refine take_ (i := 7) (N := some 51) (v := ?_) (a' := ?_) #[true, true, true, true, true, true, true, true, false, false, false, false, false, false, false, false, false, false] rfl rfl (take_ofW HT_.out HW_.out (by kernel_rfl)) (fun _ _ _ h => h) (Or.inl ⟨by rfl, ?_⟩) hHeld ?_ ?_
                  rotate_left
                  · rintro w' ⟨s0, s1⟩
                    go_simp
                    with_reducible rfl
                  rotate_left
                  · simp only [Act.put, yps, i64_w, i32_w]
                    rfl
                  refine pure_ (i := 8) (N := some 52) (v := ?_) (a' := ?_) #[true, true, true, true, true, true, true, true, true, false, false, false, false, false, false, false, false, false] rfl rfl (any_of HT_.out (by kernel_rfl)) (fun _ _ _ h => h) (Or.inl ⟨by rfl, ?_⟩) ?_ ?_
                  rotate_left
                  · intro w'
                    go_simp
                    with_reducible rfl
                  rotate_left
                  · simp only [Act.put, yps, i64_w, i32_w]
                    rfl
                  refine pure_ (i := 9) (N := some 53) (v := ?_) (a' := ?_) #[true, true, true, true, true, true, true, true, true, true, false, false, false, false, false, false, false, false] rfl rfl (any_of HT_.out (by kernel_rfl)) (fun _ _ _ h => h) (Or.inl ⟨by rfl, ?_⟩) ?_ ?_
                  rotate_left
                  · intro w'
                    go_simp
                    with_reducible rfl
                  rotate_left
                  · simp only [Act.put, yps, i64_w, i32_w]
                    rfl
                  refine pure_ (i := 10) (N := some 54) (v := undef) (a' := ?_) #[true, true, true, true, true, true, true, true, true, true, true, false, false, false, false, false, false, false] rfl rfl (any_of HT_.out (by kernel_rfl)) (fun _ _ _ h => h) (Or.inr ⟨by rfl, rfl⟩) ?_ ?_
                  rotate_left
                  · simp only [Act.put, yps, i64_w, i32_w]
                    rfl
                  refine pure_ (i := 11) (N := some 55) (v := undef) (a' := ?_) #[true, true, true, true, true, true, true, true, true, true, true, true, false, false, false, false, false, false] rfl rfl (any_of HT_.out (by kernel_rfl)) (fun _ _ _ h => h) (Or.inr ⟨by rfl, rfl⟩) ?_ ?_
                  rotate_left
                  · simp only [Act.put, yps, i64_w, i32_w]
                    rfl
                  refine pure_ (i := 12) (N := some 56) (v := undef) (a' := ?_) #[true, true, true, true, true, true, true, true, true, true, true, true, true, false, false, false, false, false] rfl rfl (any_of HT_.out (by kernel_rfl)) (fun _ _ _ h => h) (Or.inr ⟨by rfl, rfl⟩) ?_ ?_
                  rotate_left
                  · simp only [Act.put, yps, i64_w, i32_w]
                    rfl
                  refine pure_ (i := 13) (N := some 57) (v := undef) (a' := ?_) #[true, true, true, true, true, true, true, true, true, true, true, true, true, true, false, false, false, false] rfl rfl (any_of HT_.out (by kernel_rfl)) (fun _ _ _ h => h) (Or.inr ⟨by rfl, rfl⟩) ?_ ?_
                  rotate_left
                  · simp only [Act.put, yps, i64_w, i32_w]
                    rfl
                  refine pure_ (i := 14) (N := some 58) (v := undef) (a' := ?_) #[true, true, true, true, true, true, true, true, true, true, true, true, true, true, true, false, false, false] rfl rfl (any_of HT_.out (by kernel_rfl)) (fun _ _ _ h => h) (Or.inr ⟨by rfl, rfl⟩) ?_ ?_
                  rotate_left
                  · simp only [Act.put, yps, i64_w, i32_w]
                    rfl
                  refine pure_ (i := 15) (N := some 59) (v := undef) (a' := ?_) #[true, true, true, true, true, true, true, true, true, true, true, true, true, true, true, true, false, false] rfl rfl (any_of HT_.out (by kernel_rfl)) (fun _ _ _ h => h) (Or.inr ⟨by rfl, rfl⟩) ?_ ?_
                  rotate_left
                  · simp only [Act.put, yps, i64_w, i32_w]
                    rfl
                  refine pure_ (i := 16) (N := some 60) (v := undef) (a' := ?_) #[true, true, true, true, true, true, true, true, true, true, true, true, true, true, true, true, true, false] rfl rfl (any_of HT_.out (by kernel_rfl)) (fun _ _ _ h => h) (Or.inr ⟨by rfl, rfl⟩) ?_ ?_
                  rotate_left
                  · simp only [Act.put, yps, i64_w, i32_w]
                    rfl
                  refine pure_ (i := 17) (N := some 61) (v := ?_) (a' := ?_) #[true, true, true, true, true, true, true, true, true, true, true, true, true, true, true, true, true, true] rfl rfl (any_of HT_.out (by kernel_rfl)) (fun _ _ _ h => h) (Or.inl ⟨by rfl, ?_⟩) ?_ ?_
                  rotate_left
                  · intro w'
                    go_simp
                    with_reducible rfl
                  rotate_left
                  · simp only [Act.put, yps, i64_w, i32_w]
                    rfl
                  refine done_ (done_of HT_.out (by kernel_rfl)) ?_
                  try go_wp2
                  go_meet
                  case rel => exact ⟨_, (true), (by first | rfl | (simp; done) | (simp [*]; done)), H', ⟨by have := HK1.out; have := HK2.out; have := HK3.out; first | omega | exact Nat.le_refl _⟩, ⟨by (with_reducible repeat (first | apply Kd.Ya | apply Kd.Yn | apply Kd.Yd)); exact HO_5.out⟩, ⟨by (with_reducible repeat (first | apply Kd.Ya | apply Kd.Yn | apply Kd.Yd)); exact HO_7.out⟩, ⟨by (with_reducible repeat (first | apply Kd.Ya | apply Kd.Yn | apply Kd.Yd)); exact HO_28.out⟩, ⟨by repeat (first | (with_reducible exact HR601.out) | (with_reducible refine Kd.C_alloc ?_ _) | (with_reducible refine Kd.C_drewN ?_ _) | (with_reducible refine Kd.C_drew ?_) | exact HR601.out)⟩, ⟨by repeat (first | (with_reducible first | exact HB.out | apply yea | apply yen | apply yed) | exact HB.out)⟩⟩
                rw [if_pos c26] at H
                have c26b0 : ((rd l0 (rd t594 x30_2)) == (rd l0 (rd y598 x40_3))) = true := beq_iff_eq.mpr c26
                have c26b1 : ((rd l0 (rd t594 x30_2)) != (rd l0 (rd y598 x40_3))) = false := bne_eq_false_iff_eq.mpr c26
                clear c26
                replace H := Option.bind_eq_some_iff.mp H
                obtain ⟨t606, A270, H⟩ := H
                try dsimp only at H
                have A27 := yam A270
                clear A270
                have H' := yam H
                clear H
                try go_wp2
                have n0_ := yam (Kd.Yd HO_5.out)
                have n1_ := yam (Kd.Yd HO_7.out)
                have n2_ := yam (Kd.Yd HO_28.out)
                have n3_ := yam (Kd.C_drew HR601.out)
                have n4_ := yam (yed HB.out)
                clear HO_5
                clear HO_7
                clear HO_28
                clear HR601
                clear HB
                have HO_5 := n0_
                have HO_7 := n1_
                have HO_28 := n2_
                have HR601 := n3_
                have HB := n4_
                clear n0_ n1_ n2_ n3_ n4_
                have p603 : 0 ≤ ((rd t594 x30_2) : Int) := of_decide_eq_true (by first | (with_reducible assumption) | assumption)
                have q603 : (rd t594 x30_2) < (l0.length : Int) := of_decide_eq_true (by first | (with_reducible assumption) | assumption)
                obtain ⟨ad603, e603, hx603_0⟩ := Kd.at_int HR0.out (rd t594 x30_2) p603 q603
                have hw603_0 := hx603_0
                cases e603
                replace hx603_0 := (HB.out.cell (World.block_lt_of_cell? w _ hx603_0)).trans hx603_0
                replace p603 := eq_true p603
                replace q603 := eq_true q603
                have p604 : 0 ≤ ((rd y598 x40_3) : Int) := of_decide_eq_true (by first | (with_reducible assumption) | assumption)
                have q604 : (rd y598 x40_3) < (l0.length : Int) := of_decide_eq_true (by first | (with_reducible assumption) | assumption)
                obtain ⟨ad604, e604, hx604_0⟩ := Kd.at_int HR0.out (rd y598 x40_3) p604 q604
                have hw604_0 := hx604_0
                obtain rfl : ad603 = ad604 := (by injection e604)
                replace hx604_0 := (HB.out.cell (World.block_lt_of_cell? w _ hx604_0)).trans hx604_0
                replace p604 := eq_true p604
                replace q604 := eq_true q604
                have p605 : 0 ≤ ((rd t594 x30_2) : Int) := of_decide_eq_true (by first | (with_reducible assumption) | assumption)
                have q605 : (rd t594 x30_2) < (l0.length : Int) := of_decide_eq_true (by first | (with_reducible assumption) | assumption)
                obtain ⟨ad605, e605, hx605_0⟩ := Kd.at_int HR0.out (rd t594 x30_2) p605 q605
                have hw605_0 := hx605_0
                obtain rfl : ad603 = ad605 := (by injection e605)
                replace hx605_0 := (HB.out.cell (World.block_lt_of_cell? w _ hx605_0)).trans hx605_0
                replace p605 := eq_true p605
                replace q605 := eq_true q605
                refine start_ (n := 18) (S := fun w' => w'.cell? (ad603.add ((rd t594 x30_2)).toNat) = some (.int .i64 (rd l0 (rd t594 x30_2))) ∧ w'.cell? (ad603.add ((rd y598 x40_3)).toNat) = some (.int .i64 (rd l0 (rd y598 x40_3))) ∧ w'.cell? (ad603.add ((rd t594 x30_2)).toNat) = some (.int .i64 (rd l0 (rd t594 x30_2)))) (ds := []) #[false, false, false, false, false, false, false, false, false, false, false, false, false, false, false, false, false, false] (by kernel_rfl) rfl rfl ⟨((HB.out.cell (World.block_lt_of_cell? w _ hw603_0)).trans hw603_0), ((HB.out.cell (World.block_lt_of_cell? w _ hw604_0)).trans hw604_0), ((HB.out.cell (World.block_lt_of_cell? w _ hw605_0)).trans hw605_0)⟩ (fun hHeld => ?_); refine with_tabW impl_NarrowPairs.tab14 impl_NarrowPairs.bits14 (fun HT_ HW_ => ?_)
                generalize wr.drew = w28 at HO_5 HO_7 HO_28 HR601 HB hx603_0 hx604_0 hx605_0 hHeld ⊢
                refine pure_ (i := 0) (N := some 44) (v := ?_) (a' := ?_) #[true, false, false, false, false, false, false, false, false, false, false, false, false, false, false, false, false, false] rfl rfl (any_of HT_.out (by kernel_rfl)) (fun _ _ _ h => h) (Or.inl ⟨by rfl, ?_⟩) ?_ ?_
                rotate_left
                · intro w'
                  go_simp
                  with_reducible rfl
                rotate_left
                · simp only [Act.put, yps, i64_w, i32_w]
                  rfl
                refine pure_ (i := 1) (N := some 45) (v := ?_) (a' := ?_) #[true, true, false, false, false, false, false, false, false, false, false, false, false, false, false, false, false, false] rfl rfl (any_of HT_.out (by kernel_rfl)) (fun _ _ _ h => h) (Or.inl ⟨by rfl, ?_⟩) ?_ ?_
                rotate_left
                · intro w'
                  go_simp
                  with_reducible rfl
                rotate_left
                · simp only [Act.put, yps, i64_w, i32_w]
                  rfl
                refine pure_ (i := 2) (N := some 46) (v := ?_) (a' := ?_) #[true, true, true, false, false, false, false, false, false, false, false, false, false, false, false, false, false, false] rfl rfl (any_of HT_.out (by kernel_rfl)) (fun _ _ _ h => h) (Or.inl ⟨by rfl, ?_⟩) ?_ ?_
                rotate_left
                · intro w'
                  go_simp
                  with_reducible rfl
                rotate_left
                · simp only [Act.put, yps, i64_w, i32_w]
                  rfl
                refine pure_ (i := 4) (N := some 48) (v := ?_) (a' := ?_) #[true, true, true, false, true, false, false, false, false, false, false, false, false, false, false, false, false, false] rfl rfl (any_of HT_.out (by kernel_rfl)) (fun _ _ _ h => h) (Or.inl ⟨by rfl, ?_⟩) ?_ ?_
                rotate_left
                · intro w'
                  go_simp
                  with_reducible rfl
                rotate_left
                · simp only [Act.put, yps, i64_w, i32_w]
                  rfl
                refine pure_ (i := 5) (N := some 49) (v := ?_) (a' := ?_) #[true, true, true, false, true, true, false, false, false, false, false, false, false, false, false, false, false, false] rfl rfl (any_of HT_.out (by kernel_rfl)) (fun _ _ _ h => h) (Or.inl ⟨by rfl, ?_⟩) ?_ ?_
                rotate_left
                · intro w'
                  go_simp
                  with_reducible rfl
                rotate_left
                · simp only [Act.put, yps, i64_w, i32_w]
                  rfl
                refine pure_ (i := 6) (N := some 50) (v := ?_) (a' := ?_) #[true, true, true, false, true, true, true, false, false, false, false, false, false, false, false, false, false, false] rfl rfl (any_of HT_.out (by kernel_rfl)) (fun _ _ _ h => h) (Or.inl ⟨by rfl, ?_⟩) ?_ ?_
                rotate_left
                · intro w'
                  go_simp
                  with_reducible rfl
                rotate_left
                · simp only [Act.put, yps, i64_w, i32_w]
                  rfl
                refine take_ (i := 3) (N := some 47) (v := ?_) (a' := ?_) #[true, true, true, true, true, true, true, false, false, false, false, false, false, false, false, false, false, false] rfl rfl (take_ofW HT_.out HW_.out (by kernel_rfl)) (fun _ _ _ h => h) (Or.inl ⟨by rfl, ?_⟩) hHeld ?_ ?_
                rotate_left
                · rintro w' ⟨s0, s1, s2⟩
                  go_simp
                  with_reducible rfl
                rotate_left
                · simp only [Act.put, yps, i64_w, i32_w]
                  rfl
                refine take_ (i := 7) (N := some 51) (v := ?_) (a' := ?_) #[true, true, true, true, true, true, true, true, false, false, false, false, false, false, false, false, false, false] rfl rfl (take_ofW HT_.out HW_.out (by kernel_rfl)) (fun _ _ _ h => h) (Or.inl ⟨by rfl, ?_⟩) hHeld ?_ ?_
                rotate_left
                · rintro w' ⟨s0, s1, s2⟩
                  go_simp
                  with_reducible rfl
                rotate_left
                · simp only [Act.put, yps, i64_w, i32_w]
                  rfl
                refine pure_ (i := 8) (N := some 52) (v := ?_) (a' := ?_) #[true, true, true, true, true, true, true, true, true, false, false, false, false, false, false, false, false, false] rfl rfl (any_of HT_.out (by kernel_rfl)) (fun _ _ _ h => h) (Or.inl ⟨by rfl, ?_⟩) ?_ ?_
                rotate_left
                · intro w'
                  go_simp
                  with_reducible rfl
                rotate_left
                · simp only [Act.put, yps, i64_w, i32_w]
                  rfl
                refine pure_ (i := 9) (N := some 53) (v := ?_) (a' := ?_) #[true, true, true, true, true, true, true, true, true, true, false, false, false, false, false, false, false, false] rfl rfl (any_of HT_.out (by kernel_rfl)) (fun _ _ _ h => h) (Or.inl ⟨by rfl, ?_⟩) ?_ ?_
                rotate_left
                · intro w'
                  go_simp
                  with_reducible rfl
                rotate_left
                · simp only [Act.put, yps, i64_w, i32_w]
                  rfl
                refine pure_ (i := 10) (N := some 54) (v := ?_) (a' := ?_) #[true, true, true, true, true, true, true, true, true, true, true, false, false, false, false, false, false, false] rfl rfl (any_of HT_.out (by kernel_rfl)) (fun _ _ _ h => h) (Or.inl ⟨by rfl, ?_⟩) ?_ ?_
                rotate_left
                · intro w'
                  go_simp
                  with_reducible rfl
                rotate_left
                · simp only [Act.put, yps, i64_w, i32_w]
                  rfl
                refine pure_ (i := 11) (N := some 55) (v := ?_) (a' := ?_) #[true, true, true, true, true, true, true, true, true, true, true, true, false, false, false, false, false, false] rfl rfl (any_of HT_.out (by kernel_rfl)) (fun _ _ _ h => h) (Or.inl ⟨by rfl, ?_⟩) ?_ ?_
                rotate_left
                · intro w'
                  go_simp
                  with_reducible rfl
                rotate_left
                · simp only [Act.put, yps, i64_w, i32_w]
                  rfl
                refine pure_ (i := 12) (N := some 56) (v := ?_) (a' := ?_) #[true, true, true, true, true, true, true, true, true, true, true, true, true, false, false, false, false, false] rfl rfl (any_of HT_.out (by kernel_rfl)) (fun _ _ _ h => h) (Or.inl ⟨by rfl, ?_⟩) ?_ ?_
                rotate_left
                · intro w'
                  go_simp
                  with_reducible rfl
                rotate_left
                · simp only [Act.put, yps, i64_w, i32_w]
                  rfl
                refine take_ (i := 13) (N := some 57) (v := ?_) (a' := ?_) #[true, true, true, true, true, true, true, true, true, true, true, true, true, true, false, false, false, false] rfl rfl (take_ofW HT_.out HW_.out (by kernel_rfl)) (fun _ _ _ h => h) (Or.inl ⟨by rfl, ?_⟩) hHeld ?_ ?_
                rotate_left
                · rintro w' ⟨s0, s1, s2⟩
                  go_simp
                  with_reducible rfl
                rotate_left
                · simp only [Act.put, yps, i64_w, i32_w]
                  rfl
                refine pure_ (i := 14) (N := some 58) (v := ?_) (a' := ?_) #[true, true, true, true, true, true, true, true, true, true, true, true, true, true, true, false, false, false] rfl rfl (any_of HT_.out (by kernel_rfl)) (fun _ _ _ h => h) (Or.inl ⟨by rfl, ?_⟩) ?_ ?_
                rotate_left
                · intro w'
                  go_simp
                  with_reducible rfl
                rotate_left
                · simp only [Act.put, yps, i64_w, i32_w]
                  rfl
                refine one_ (i := 15) (N := some 59) #[true, true, true, true, true, true, true, true, true, true, true, true, true, true, true, true, false, false] rfl rfl (one_of HT_.out (by kernel_rfl)) (by decide) (fun K hK => ?_)
                refine goes_ Try.func56 (by kernel_rfl) rfl #[.int .u64 (IntKind.u64.wrap (rd l0 (rd t594 x30_2)))] (by rfl) rfl rfl (by (try simp only [List.map_toArray, List.map_cons, List.map_nil]); first | done | rfl | (simp only [List.length_drop, List.length_take]; rfl)) ?_
                with_reducible refine (bits_OnesCount.calls (IntKind.u64.wrap (rd l0 (rd t594 x30_2))) t606 _ A27.out).mono ?_
                rintro e w' ⟨rfl, ⟨nd, rfl⟩⟩
                refine ⟨_, rfl, ?_⟩
                refine hK.out _ _ ⟨((HB.out.cell (World.block_lt_of_cell? w _ hw603_0)).trans hw603_0), ((HB.out.cell (World.block_lt_of_cell? w _ hw604_0)).trans hw604_0), ((HB.out.cell (World.block_lt_of_cell? w _ hw605_0)).trans hw605_0)⟩ (fun hHeld => ?_)
                clear hK K
                refine norm_ (a' := ?_) ?_ ?_
                rotate_left
                · show Act.put _ (some 59) _ = _
                  simp only [Act.put, yps, i64_w, i32_w]
                  rfl
                refine pure_ (i := 16) (N := some 60) (v := ?_) (a' := ?_) #[true, true, true, true, true, true, true, true, true, true, true, true, true, true, true, true, true, false] rfl rfl (any_of HT_.out (by kernel_rfl)) (fun _ _ _ h => h) (Or.inl ⟨by rfl, ?_⟩) ?_ ?_
                rotate_left
                · intro w'
                  go_simp
                  with_reducible rfl
                rotate_left
                · simp only [Act.put, yps, i64_w, i32_w]
                  rfl
                refine pure_ (i := 17) (N := some 61) (v := ?_) (a' := ?_) #[true, true, true, true, true, true, true, true, true, true, true, true, true, true, true, true, true, true] rfl rfl (any_of HT_.out (by kernel_rfl)) (fun _ _ _ h => h) (Or.inl ⟨by rfl, ?_⟩) ?_ ?_
                rotate_left
                · intro w'
                  go_simp
                  with_reducible rfl
                rotate_left
                · simp only [Act.put, yps, i64_w, i32_w]
                  rfl
                refine done_ (done_of HT_.out (by kernel_rfl)) ?_
                try go_wp2
                go_meet
                case rel => exact ⟨_, ((t606 != 2)), (by first | rfl | (simp; done) | (simp [*]; done)), H', ⟨by have := HK1.out; have := HK2.out; have := HK3.out; first | omega | exact Nat.le_refl _⟩, ⟨by (with_reducible repeat (first | apply Kd.Ya | apply Kd.Yn | apply Kd.Yd)); exact HO_5.out⟩, ⟨by (with_reducible repeat (first | apply Kd.Ya | apply Kd.Yn | apply Kd.Yd)); exact HO_7.out⟩, ⟨by (with_reducible repeat (first | apply Kd.Ya | apply Kd.Yn | apply Kd.Yd)); exact HO_28.out⟩, ⟨by repeat (first | (with_reducible exact HR601.out) | (with_reducible refine Kd.C_alloc ?_ _) | (with_reducible refine Kd.C_drewN ?_ _) | (with_reducible refine Kd.C_drew ?_) | exact HR601.out)⟩, ⟨by repeat (first | (with_reducible first | exact HB.out | apply yea | apply yen | apply yed) | exact HB.out)⟩⟩
              case rest =>
                clear HC21
                try clear c1
                try clear q1
                try clear c2
                try clear p2
                try clear c4
                try clear c5
                try clear p5
                try clear q5
                try clear hx5
                try clear c6
                try clear p6
                try clear q6
                try clear hx6
                try clear c7
                try clear c7b0
                try clear c11
                try clear c11b0
                try clear c12
                try clear c12b0
                try clear c13
                try clear c13b0
                try clear c15
                try clear c15b0
                try clear c15b1
                try clear c16
                try clear c16b0
                try clear c16b1
                try clear c17
                try clear q17
                try clear c18
                try clear c18b0
                try clear c19
                try clear c19b0
                try clear c20
                try clear c20b0
                try clear c22
                try clear c22b0
                try clear c23
                try clear c23b0
                try clear c24
                try clear c24b0
                try clear c25
                try clear c25b0
                try clear c26
                try clear c26b0
                try clear c26b1
                try clear hx597_0
                try clear hx602_0
                try clear hx603_0
                try clear hx604_0
                try clear hx605_0
                try clear p2
                try clear p5
                try clear p597
                try clear p6
                try clear p602
                try clear p603
                try clear p604
                try clear p605
                try clear q017
                try clear q1
                try clear q17
                try clear q5
                try clear q597
                try clear q602
                try clear q603
                try clear q604
                try clear q605
                obtain ⟨kq, x61_20, rfl, HA, HJ20, HO_5, HO_7, HO_28, HR601, HB⟩ := hcut
                cases kq with
                | zero => exact absurd HA.out (by simp [impl_NarrowPairs.j3])
                | succ kj20 =>
                  have H := HA.out
                  clear HA
                  simp only [impl_NarrowPairs.j3] at H
                  by_cases c30 : x61_20 = true
                  · subst c30
                    have H1 : (impl_NarrowPairs.l2 kj20 l0 a1 x5_3 t594 (rd t594 x30_2) (wrap64 (2 * a1)) x22_1 t594 (t594.length : Int) x30_2 y598 (y598.length : Int) (wrap64 (x40_3 + 1))) = some r := by rw [if_pos rfl] at H; exact H
                    clear H
                    have H := H1
                    clear H1
                    have H' := yam H
                    clear H
                    go_wp2
                    go_roundg kj20
                    case measure => have := HK1.out; have := HK2.out; have := HK3.out; have := HJ20.out; omega
                    case rel => exact ⟨(x5_3), (wrap64 (x40_3 + 1)), (by first | rfl | (simp; done) | (simp [*]; done)), H', ⟨by have := HK1.out; have := HK2.out; have := HK3.out; have := HJ20.out; omega⟩, ⟨by (with_reducible repeat (first | apply Kd.Ya | apply Kd.Yn | apply Kd.Yd)); exact HO_5.out⟩, ⟨by (with_reducible repeat (first | apply Kd.Ya | apply Kd.Yn | apply Kd.Yd)); exact HO_7.out⟩, ⟨by (with_reducible repeat (first | apply Kd.Ya | apply Kd.Yn | apply Kd.Yd)); exact HO_28.out⟩, ⟨by repeat (first | (with_reducible exact HR601.out) | (with_reducible refine Kd.C_alloc ?_ _) | (with_reducible refine Kd.C_drewN ?_ _) | (with_reducible refine Kd.C_drew ?_) | exact HR601.out)⟩, ⟨by repeat (first | (with_reducible first | exact HB.out | apply yea | apply yen | apply yed) | exact HB.out)⟩⟩
                  replace c30 := Bool.eq_false_iff.mpr c30
                  subst c30
                  have H1 : (impl_NarrowPairs.l3 kj20 l0 a1 x5_3 t594 (rd t594 x30_2) (rd y598 x40_3) (wrap64 (2 * a1)) x22_1 t594 (t594.length : Int) x30_2 y598 (y598.length : Int) x40_3 t594 (t594.length : Int) 0) = some r := by rw [if_neg (show ¬ (false = true) by decide)] at H; exact H
                  clear H
                  have H := H1
                  clear H1
                  have H' := yam H
                  clear H
                  go_wp2
                  go_loopg [64] kj20 (fun kq v64 w' => ∃ (x5_5 : List Int) (x64_5 : Int), v64 = .int .i64 x64_5 ∧ Aside0 (impl_NarrowPairs.l3 kq l0 a1 x5_5 t594 (rd t594 x30_2) (rd y598 x40_3) (wrap64 (2 * a1)) x22_1 t594 (t594.length : Int) x30_2 y598 (y598.length : Int) x40_3 t594 (t594.length : Int) x64_5 = some r) ∧ Aside0 (kq ≤ kj20) ∧ Aside0 (Kd.R (Kd.int .i64) 3 w' w.heap.size (fun k_ => some k_ ≠ ((.slice (some ad597) t594.length co10) : Value).ownBlock ∧ some k_ ≠ ((.slice (some ad597) t594.length co10) : Value).ownBlock ∧ some k_ ≠ ((.slice (some ad597) t594.length co10) : Value).ownBlock) v592 x5_5) ∧ Aside0 (Kd.R (Kd.int .i64) 3 w' w.heap.size (fun k_ => some k_ ≠ (v592 : Value).ownBlock) (.slice (some ad597) t594.length co10) t594) ∧ Aside0 (Kd.R (Kd.int .i64) 3 w' w.heap.size (fun k_ => some k_ ≠ (v592 : Value).ownBlock) (.slice (some ad597) t594.length co10) t594) ∧ Aside0 (Kd.R (Kd.int .i64) 3 w' w.heap.size (fun k_ => some k_ ≠ (v592 : Value).ownBlock) (.slice (some ad597) t594.length co10) t594) ∧ Aside0 (Kd.C (Kd.int .i64) w' (some ad602) y598.length y598) ∧ Aside0 (Below w.heap.size w w'))
                  case atStart => exact ⟨(x5_3), (0), (by first | rfl | (simp; done) | (simp [*]; done)), H', ⟨Nat.le_refl _⟩, ⟨by (with_reducible repeat (first | apply Kd.Ya | apply Kd.Yn | apply Kd.Yd)); exact Kd.R_mono HO_5.out (fun _ hk => ⟨hk.1, ⟨hk.2, hk.1⟩⟩)⟩, ⟨by (with_reducible repeat (first | apply Kd.Ya | apply Kd.Yn | apply Kd.Yd)); exact HO_7.out⟩, ⟨by (with_reducible repeat (first | apply Kd.Ya | apply Kd.Yn | apply Kd.Yd)); exact HO_28.out⟩, ⟨by (with_reducible repeat (first | apply Kd.Ya | apply Kd.Yn | apply Kd.Yd)); exact HO_7.out⟩, ⟨by repeat (first | (with_reducible exact HR601.out) | (with_reducible refine Kd.C_alloc ?_ _) | (with_reducible refine Kd.C_drewN ?_ _) | (with_reducible refine Kd.C_drew ?_) | exact HR601.out)⟩, ⟨by repeat (first | (with_reducible first | exact HB.out | apply yea | apply yen | apply yed) | exact HB.out)⟩⟩
                  case round =>
                    clear H'
                    try clear c1
                    try clear q1
                    try clear c2
                    try clear p2
                    try clear c3
                    try clear c4
                    try clear c5
                    try clear p5
                    try clear q5
                    try clear hx5
                    try clear c6
                    try clear p6
                    try clear q6
                    try clear hx6
                    try clear c7
                    try clear c7b0
                    try clear c11
                    try clear c11b0
                    try clear c12
                    try clear c12b0
                    try clear c13
                    try clear c13b0
                    try clear c15
                    try clear c15b0
                    try clear c15b1
                    try clear c16
                    try clear c16b0
                    try clear c16b1
                    try clear c17
                    try clear q17
                    try clear c18
                    try clear c18b0
                    try clear c19
                    try clear c19b0
                    try clear c20
                    try clear c20b0
                    try clear c22
                    try clear c22b0
                    try clear c23
                    try clear c23b0
                    try clear c24
                    try clear c24b0
                    try clear c25
                    try clear c25b0
                    try clear c26
                    try clear c26b0
                    try clear c26b1
                    try clear c30
                    try clear hx597_0
                    try clear hx602_0
                    try clear hx603_0
                    try clear hx604_0
                    try clear hx605_0
                    try clear p2
                    try clear p5
                    try clear p597
                    try clear p6
                    try clear p602
                    try clear p603
                    try clear p604
                    try clear p605
                    try clear q017
                    try clear q1
                    try clear q17
                    try clear q5
                    try clear q597
                    try clear q6
                    try clear q602
                    try clear q603
                    try clear q604
                    try clear q605
                    obtain ⟨x5_5, x64_5, rfl, HA, HK5, HO_5, HO_7, HO_28, HO_62, HR601, HB⟩ := hrel
                    cases gk with
                    | zero => exact absurd HA.out (by simp [impl_NarrowPairs.l3])
                    | succ k5 =>
                      have H := HA.out
                      clear HA
                      simp only [impl_NarrowPairs.l3] at H
                      by_cases c31 : x64_5 < (t594.length : Int)
                      rotate_left
                      · rw [if_neg c31] at H
                        have c31b0 : decide (x64_5 < (t594.length : Int)) = false := decide_eq_false c31
                        clear c31
                        have H' := yam H
                        clear H
                        go_wp2
                        go_roundg k5
                        case measure => have := HK1.out; have := HK2.out; have := HK3.out; have := HJ20.out; have := HK5.out; omega
                        case rel => exact ⟨(x5_5), (wrap64 (x40_3 + 1)), (by first | rfl | (simp; done) | (simp [*]; done)), H', ⟨by have := HK1.out; have := HK2.out; have := HK3.out; have := HJ20.out; have := HK5.out; omega⟩, ⟨by (with_reducible repeat (first | apply Kd.Ya | apply Kd.Yn | apply Kd.Yd)); exact Kd.R_mono HO_5.out (fun _ hk => ⟨hk.1, hk.2.1⟩)⟩, ⟨by (with_reducible repeat (first | apply Kd.Ya | apply Kd.Yn | apply Kd.Yd)); exact HO_7.out⟩, ⟨by (with_reducible repeat (first | apply Kd.Ya | apply Kd.Yn | apply Kd.Yd)); exact HO_28.out⟩, ⟨by repeat (first | (with_reducible exact HR601.out) | (with_reducible refine Kd.C_alloc ?_ _) | (with_reducible refine Kd.C_drewN ?_ _) | (with_reducible refine Kd.C_drew ?_) | exact HR601.out)⟩, ⟨by repeat (first | (with_reducible first | exact HB.out | apply yea | apply yen | apply yed) | exact HB.out)⟩⟩
                      rw [if_pos c31] at H
                      have c31b0 : decide (x64_5 < (t594.length : Int)) = true := decide_eq_true c31
                      clear c31
                      by_cases c32 : 0 ≤ x64_5
                      rotate_left
                      · rw [if_neg c32] at H
                        exact absurd H (by simp)
                      rw [if_pos c32] at H
                      have c32b0 : decide (0 ≤ x64_5) = true := decide_eq_true c32
                      clear c32
                      by_cases c33 : x64_5 < (t594.length : Int)
                      rotate_left
                      · rw [if_neg c33] at H
                        exact absurd H (by simp)
                      rw [if_pos c33] at H
                      have c33b0 : decide (x64_5 < (t594.length : Int)) = true := decide_eq_true c33
                      clear c33
                      by_cases c34 : (rd t594 x64_5) = (rd t594 x30_2)
                      · rw [if_pos c34] at H
                        have c34b0 : ((rd t594 x64_5) == (rd t594 x30_2)) = true := beq_iff_eq.mpr c34
                        have c34b1 : ((rd t594 x64_5) != (rd t594 x30_2)) = false := bne_eq_false_iff_eq.mpr c34
                        clear c34
                        have H' := yam H
                        clear H
                        have p607 : 0 ≤ (x64_5 : Int) := of_decide_eq_true (by first | (with_reducible assumption) | assumption)
                        have q607 : x64_5 < (t594.length : Int) := of_decide_eq_true (by first | (with_reducible assumption) | assumption)
                        obtain ⟨ad607, e607, hx607_0⟩ := Kd.at_int (Kd.Yr HO_62.out).2.2 x64_5 p607 q607
                        obtain rfl : ad597 = ad607 := (by injection e607)
                        replace p607 := eq_true p607
                        replace q607 := eq_true q607
                        go_wp2
                        go_roundg k5
                        case measure => have := HK1.out; have := HK2.out; have := HK3.out; have := HJ20.out; have := HK5.out; omega
                        case rel => exact ⟨(x5_5), (wrap64 (x64_5 + 1)), (by first | rfl | (simp; done) | (simp [*]; done)), H', ⟨by have := HK1.out; have := HK2.out; have := HK3.out; have := HJ20.out; have := HK5.out; omega⟩, ⟨by (with_reducible repeat (first | apply Kd.Ya | apply Kd.Yn | apply Kd.Yd)); exact HO_5.out⟩, ⟨by (with_reducible repeat (first | apply Kd.Ya | apply Kd.Yn | apply Kd.Yd)); exact HO_7.out⟩, ⟨by (with_reducible repeat (first | apply Kd.Ya | apply Kd.Yn | apply Kd.Yd)); exact HO_28.out⟩, ⟨by (with_reducible repeat (first | apply Kd.Ya | apply Kd.Yn | apply Kd.Yd)); exact HO_62.out⟩, ⟨by repeat (first | (with_reducible exact HR601.out) | (with_reducible refine Kd.C_alloc ?_ _) | (with_reducible refine Kd.C_drewN ?_ _) | (with_reducible refine Kd.C_drew ?_) | exact HR601.out)⟩, ⟨by repeat (first | (with_reducible first | exact HB.out | apply yea | apply yen | apply yed) | exact HB.out)⟩⟩
                      rw [if_neg c34] at H
                      have c34b0 : ((rd t594 x64_5) == (rd t594 x30_2)) = false := beq_eq_false_iff_ne.mpr c34
                      have c34b1 : ((rd t594 x64_5) != (rd t594 x30_2)) = true := bne_iff_ne.mpr c34
                      by_cases c35 : (rd t594 x64_5) = (rd y598 x40_3)
                      · rw [if_pos c35] at H
                        have c35b0 : ((rd t594 x64_5) == (rd y598 x40_3)) = true := beq_iff_eq.mpr c35
                        have c35b1 : ((rd t594 x64_5) != (rd y598 x40_3)) = false := bne_eq_false_iff_eq.mpr c35
                        clear c35
                        have H' := yam H
                        clear H
                        have p607 : 0 ≤ (x64_5 : Int) := of_decide_eq_true (by first | (with_reducible assumption) | assumption)
                        have q607 : x64_5 < (t594.length : Int) := of_decide_eq_true (by first | (with_reducible assumption) | assumption)
                        obtain ⟨ad607, e607, hx607_0⟩ := Kd.at_int (Kd.Yr HO_62.out).2.2 x64_5 p607 q607
                        obtain rfl : ad597 = ad607 := (by injection e607)
                        replace p607 := eq_true p607
                        replace q607 := eq_true q607
                        go_wp2
                        go_roundg k5
                        case measure => have := HK1.out; have := HK2.out; have := HK3.out; have := HJ20.out; have := HK5.out; omega
                        case rel => exact ⟨(x5_5), (wrap64 (x64_5 + 1)), (by first | rfl | (simp; done) | (simp [*]; done)), H', ⟨by have := HK1.out; have := HK2.out; have := HK3.out; have := HJ20.out; have := HK5.out; omega⟩, ⟨by (with_reducible repeat (first | apply Kd.Ya | apply Kd.Yn | apply Kd.Yd)); exact HO_5.out⟩, ⟨by (with_reducible repeat (first | apply Kd.Ya | apply Kd.Yn | apply Kd.Yd)); exact HO_7.out⟩, ⟨by (with_reducible repeat (first | apply Kd.Ya | apply Kd.Yn | apply Kd.Yd)); exact HO_28.out⟩, ⟨by (with_reducible repeat (first | apply Kd.Ya | apply Kd.Yn | apply Kd.Yd)); exact HO_62.out⟩, ⟨by repeat (first | (with_reducible exact HR601.out) | (with_reducible refine Kd.C_alloc ?_ _) | (with_reducible refine Kd.C_drewN ?_ _) | (with_reducible refine Kd.C_drew ?_) | exact HR601.out)⟩, ⟨by repeat (first | (with_reducible first | exact HB.out | apply yea | apply yen | apply yed) | exact HB.out)⟩⟩
                      rw [if_neg c35] at H
                      have c35b0 : ((rd t594 x64_5) == (rd y598 x40_3)) = false := beq_eq_false_iff_ne.mpr c35
                      have c35b1 : ((rd t594 x64_5) != (rd y598 x40_3)) = true := bne_iff_ne.mpr c35
                      by_cases c36 : 0 ≤ (rd t594 x64_5)
                      rotate_left
                      · rw [if_neg c36] at H
                        exact absurd H (by simp)
                      rw [if_pos c36] at H
                      have c36b0 : decide (0 ≤ (rd t594 x64_5)) = true := decide_eq_true c36
                      clear c36
                      by_cases c37 : (rd t594 x64_5) < (x5_5.length : Int)
                      rotate_left
                      · rw [if_neg c37] at H
                        exact absurd H (by simp)
                      rw [if_pos c37] at H
                      have c37b0 : decide ((rd t594 x64_5) < (x5_5.length : Int)) = true := decide_eq_true c37
                      clear c37
                      by_cases c38 : 0 ≤ (rd t594 x30_2)
                      rotate_left
                      · rw [if_neg c38] at H
                        exact absurd H (by simp)
                      rw [if_pos c38] at H
                      have c38b0 : decide (0 ≤ (rd t594 x30_2)) = true := decide_eq_true c38
                      clear c38
                      by_cases c39 : (rd t594 x30_2) < (l0.length : Int)
                      rotate_left
                      · rw [if_neg c39] at H
                        exact absurd H (by simp)
                      rw [if_pos c39] at H
                      have c39b0 : decide ((rd t594 x30_2) < (l0.length : Int)) = true := decide_eq_true c39
                      clear c39
                      obtain ⟨y610, hy610⟩ : ∃ y_ : List Int, y_ = (x5_5.set ((rd t594 x64_5) : Int).toNat (Go.bits .andNot .i64 (rd x5_5 (rd t594 x64_5)) (rd l0 (rd t594 x30_2)))) := ⟨_, rfl⟩
                      replace H : (impl_NarrowPairs.l3 k5 l0 a1 y610 t594 (rd t594 x30_2) (rd y598 x40_3) (wrap64 (2 * a1)) x22_1 t594 (t594.length : Int) x30_2 y598 (y598.length : Int) x40_3 t594 (t594.length : Int) (wrap64 (x64_5 + 1))) = some r := by first | (rw [hy610]; with_reducible exact H) | (have H2_ := (Option.bind_some _ _).symm.trans H; rw [hy610]; with_reducible exact H2_) | (have H2_ := (Option.bind_some _ _).symm.trans H; with_reducible exact H2_) | with_reducible exact H | (rw [hy610]; exact H) | exact H
                      have Ny610 := yam hy610
                      clear hy610
                      have H' := yam H
                      clear H
                      have p607 : 0 ≤ (x64_5 : Int) := of_decide_eq_true (by first | (with_reducible assumption) | assumption)
                      have q607 : x64_5 < (t594.length : Int) := of_decide_eq_true (by first | (with_reducible assumption) | assumption)
                      obtain ⟨ad607, e607, hx607_0⟩ := Kd.at_int (Kd.Yr HO_62.out).2.2 x64_5 p607 q607
                      obtain rfl : ad597 = ad607 := (by injection e607)
                      replace p607 := eq_true p607
                      replace q607 := eq_true q607
                      try go_wp2
                      have n0_ := yam (Kd.Yd HO_5.out)
                      have n1_ := yam (Kd.Yd HO_7.out)
                      have n2_ := yam (Kd.Yd HO_28.out)
                      have n3_ := yam (Kd.Yd HO_62.out)
                      have n4_ := yam (Kd.C_drew HR601.out)
                      have n5_ := yam (yed HB.out)
                      clear HO_5
                      clear HO_7
                      clear HO_28
                      clear HO_62
                      clear HR601
                      clear HB
                      have HO_5 := n0_
                      have HO_7 := n1_
                      have HO_28 := n2_
                      have HO_62 := n3_
                      have HR601 := n4_
                      have HB := n5_
                      clear n0_ n1_ n2_ n3_ n4_ n5_
                      obtain ⟨Ao42, co42, eo42⟩ := Kd.R_slice HO_5.out
                      (first | subst eo42 | (injection eo42 with f1_ f2_ f3_; have f4_ := f1_.symm; have f5_ := f3_.symm; clear f1_ f2_ f3_; subst f4_; subst f5_))
                      have p608 : 0 ≤ ((rd t594 x64_5) : Int) := of_decide_eq_true (by first | (with_reducible assumption) | assumption)
                      have q608 : (rd t594 x64_5) < (x5_5.length : Int) := of_decide_eq_true (by first | (with_reducible assumption) | assumption)
                      obtain ⟨ad608, e608, hx608_0⟩ := Kd.at_int (Kd.Yr HO_5.out).2.2 (rd t594 x64_5) p608 q608
                      cases e608
                      replace p608 := eq_true p608
                      replace q608 := eq_true q608
                      have p609 : 0 ≤ ((rd t594 x30_2) : Int) := of_decide_eq_true (by first | (with_reducible assumption) | assumption)
                      have q609 : (rd t594 x30_2) < (l0.length : Int) := of_decide_eq_true (by first | (with_reducible assumption) | assumption)
                      obtain ⟨ad609, e609, hx609_0⟩ := Kd.at_int HR0.out (rd t594 x30_2) p609 q609
                      have hw609_0 := hx609_0
                      cases e609
                      replace hx609_0 := (HB.out.cell (World.block_lt_of_cell? w _ hx609_0)).trans hx609_0
                      replace p609 := eq_true p609
                      replace q609 := eq_true q609
                      have p40 : 0 ≤ ((rd t594 x64_5) : Int) := of_decide_eq_true (by first | (with_reducible assumption) | assumption)
                      have q40 : ((rd t594 x64_5) : Int) < ((x5_5.length : Int) : Int) := of_decide_eq_true (by first | (with_reducible assumption) | assumption)
                      obtain ⟨go40, co40, eo40, gb40, gl40, cl40, HG40⟩ := Kd.R_form HO_5.out (by omega)
                      (first | cases eo40 | (injection eo40 with ea_ en_ ec_; (first | subst ea_ | (injection ea_ with ea_; subst ea_)); subst ec_; clear en_))
                      have GB40 := yam gb40
                      have GG40 := yam HG40
                      clear gb40 gl40 HG40
                      (first | simp only [add_plain] at hx608_0 | skip)
                      obtain ⟨hx40_0, hf40_0⟩ := Kd.R_celln 0 HO_5.out ((rd t594 x64_5) : Int) p40 q40
                      replace p40 := eq_true p40
                      replace q40 := eq_true q40
                      have HP43 := Kd.R_putn HO_5.out ((rd t594 x64_5) : Int) (Go.bits .andNot .i64 (rd x5_5 (rd t594 x64_5)) (rd l0 (rd t594 x30_2)))
                      rw [← Ny610.out] at HP43
                      have HQ43 := yam HP43
                      clear HP43
                      refine start_ (n := 11) (S := fun w' => w'.cell? ⟨go40, ((rd t594 x64_5)).toNat, none⟩ = some (.int .i64 (rd x5_5 (rd t594 x64_5))) ∧ w'.cell? (ad609.add ((rd t594 x30_2)).toNat) = some (.int .i64 (rd l0 (rd t594 x30_2)))) (ds := [10]) #[false, false, false, false, false, false, false, false, false, false, false] (by kernel_rfl) rfl rfl ⟨hx608_0, ((HB.out.cell (World.block_lt_of_cell? w _ hw609_0)).trans hw609_0)⟩ (fun hHeld => ?_); refine with_tabW impl_NarrowPairs.tab19 impl_NarrowPairs.bits19 (fun HT_ HW_ => ?_)
                      generalize wr.drew = w41 at HO_5 HO_7 HO_28 HO_62 HR601 HB GG40 HQ43 hf40_0 hx40_0 hx608_0 hx609_0 hHeld ⊢
                      refine pure_ (i := 0) (N := some 76) (v := ?_) (a' := ?_) #[true, false, false, false, false, false, false, false, false, false, false] rfl rfl (any_of HT_.out (by kernel_rfl)) (fun _ _ _ h => h) (Or.inl ⟨by rfl, ?_⟩) ?_ ?_
                      rotate_left
                      · intro w'
                        go_simp
                        with_reducible rfl
                      rotate_left
                      · simp only [Act.put, yps, i64_w, i32_w]
                        rfl
                      refine pure_ (i := 1) (N := some 77) (v := ?_) (a' := ?_) #[true, true, false, false, false, false, false, false, false, false, false] rfl rfl (any_of HT_.out (by kernel_rfl)) (fun _ _ _ h => h) (Or.inl ⟨by rfl, ?_⟩) ?_ ?_
                      rotate_left
                      · intro w'
                        go_simp
                        with_reducible rfl
                      rotate_left
                      · simp only [Act.put, yps, i64_w, i32_w]
                        rfl
                      refine pure_ (i := 2) (N := some 78) (v := ?_) (a' := ?_) #[true, true, true, false, false, false, false, false, false, false, false] rfl rfl (any_of HT_.out (by kernel_rfl)) (fun _ _ _ h => h) (Or.inl ⟨by rfl, ?_⟩) ?_ ?_
                      rotate_left
                      · intro w'
                        go_simp
                        with_reducible rfl
                      rotate_left
                      · simp only [Act.put, yps, i64_w, i32_w]
                        rfl
                      refine pure_ (i := 4) (N := some 80) (v := ?_) (a' := ?_) #[true, true, true, false, true, false, false, false, false, false, false] rfl rfl (any_of HT_.out (by kernel_rfl)) (fun _ _ _ h => h) (Or.inl ⟨by rfl, ?_⟩) ?_ ?_
                      rotate_left
                      · intro w'
                        go_simp
                        with_reducible rfl
                      rotate_left
                      · simp only [Act.put, yps, i64_w, i32_w]
                        rfl
                      refine pure_ (i := 5) (N := some 81) (v := ?_) (a' := ?_) #[true, true, true, false, true, true, false, false, false, false, false] rfl rfl (any_of HT_.out (by kernel_rfl)) (fun _ _ _ h => h) (Or.inl ⟨by rfl, ?_⟩) ?_ ?_
                      rotate_left
                      · intro w'
                        go_simp
                        with_reducible rfl
                      rotate_left
                      · simp only [Act.put, yps, i64_w, i32_w]
                        rfl
                      refine pure_ (i := 6) (N := some 82) (v := ?_) (a' := ?_) #[true, true, true, false, true, true, true, false, false, false, false] rfl rfl (any_of HT_.out (by kernel_rfl)) (fun _ _ _ h => h) (Or.inl ⟨by rfl, ?_⟩) ?_ ?_
                      rotate_left
                      · intro w'
                        go_simp
                        with_reducible rfl
                      rotate_left
                      · simp only [Act.put, yps, i64_w, i32_w]
                        rfl
                      refine take_ (i := 3) (N := some 79) (v := ?_) (a' := ?_) #[true, true, true, true, true, true, true, false, false, false, false] rfl rfl (take_ofW HT_.out HW_.out (by kernel_rfl)) (fun _ _ _ h => h) (Or.inl ⟨by rfl, ?_⟩) hHeld ?_ ?_
                      rotate_left
                      · rintro w' ⟨s0, s1⟩
                        go_simp
                        with_reducible rfl
                      rotate_left
                      · simp only [Act.put, yps, i64_w, i32_w]
                        rfl
                      refine take_ (i := 7) (N := some 83) (v := ?_) (a' := ?_) #[true, true, true, true, true, true, true, true, false, false, false] rfl rfl (take_ofW HT_.out HW_.out (by kernel_rfl)) (fun _ _ _ h => h) (Or.inl ⟨by rfl, ?_⟩) hHeld ?_ ?_
                      rotate_left
                      · rintro w' ⟨s0, s1⟩
                        go_simp
                        with_reducible rfl
                      rotate_left
                      · simp only [Act.put, yps, i64_w, i32_w]
                        rfl
                      refine pure_ (i := 8) (N := some 84) (v := ?_) (a' := ?_) #[true, true, true, true, true, true, true, true, true, false, false] rfl rfl (any_of HT_.out (by kernel_rfl)) (fun _ _ _ h => h) (Or.inl ⟨by rfl, ?_⟩) ?_ ?_
                      rotate_left
                      · intro w'
                        go_simp
                        with_reducible rfl
                      rotate_left
                      · simp only [Act.put, yps, i64_w, i32_w]
                        rfl
                      refine pure_ (i := 9) (N := some 85) (v := ?_) (a' := ?_) #[true, true, true, true, true, true, true, true, true, true, false] rfl rfl (any_of HT_.out (by kernel_rfl)) (fun _ _ _ h => h) (Or.inl ⟨by rfl, ?_⟩) ?_ ?_
                      rotate_left
                      · intro w'
                        go_simp
                        with_reducible rfl
                      rotate_left
                      · simp only [Act.put, yps, i64_w, i32_w]
                        rfl
                      refine last_ (i := 10) (N := none) #[true, true, true, true, true, true, true, true, true, true, true] rfl rfl (one_of HT_.out (by kernel_rfl)) (by decide) (fun K hK => ?_)
                      refine skip_ (w1 := ?_) (by rfl) rfl ?_ ?_
                      rotate_left
                      · go_simp
                        rfl
                      refine hK.out _ _ ?_
                      clear hK K
                      refine done_ (done_of HT_.out (by kernel_rfl)) ?_
                      try go_wp2
                      go_roundg k5
                      case measure => have := HK1.out; have := HK2.out; have := HK3.out; have := HJ20.out; have := HK5.out; omega
                      case rel => exact ⟨(y610), (wrap64 (x64_5 + 1)), (by first | rfl | (simp; done) | (simp [*]; done)), H', ⟨by have := HK1.out; have := HK2.out; have := HK3.out; have := HJ20.out; have := HK5.out; omega⟩, ⟨by (with_reducible repeat (first | apply Kd.Ya | apply Kd.Yn | apply Kd.Yd)); exact HQ43.out⟩, ⟨by (with_reducible repeat (first | apply Kd.Ya | apply Kd.Yn | apply Kd.Yd)); exact Kd.R_mono (Kd.R_far (p := ⟨go40, ((rd t594 x64_5) : Int).toNat, none⟩) (Kd.R_mono HO_7.out (fun k_ hk => (⟨hk, fun e_ => hk (by rw [e_]; rfl)⟩ : _ ∧ k_ ≠ go40))) (fun _ hk => hk.2) (.int .i64 (Go.bits .andNot .i64 (rd x5_5 (rd t594 x64_5)) (rd l0 (rd t594 x30_2))))) (fun _ hk => hk.1)⟩, ⟨by (with_reducible repeat (first | apply Kd.Ya | apply Kd.Yn | apply Kd.Yd)); exact Kd.R_mono (Kd.R_far (p := ⟨go40, ((rd t594 x64_5) : Int).toNat, none⟩) (Kd.R_mono HO_28.out (fun k_ hk => (⟨hk, fun e_ => hk (by rw [e_]; rfl)⟩ : _ ∧ k_ ≠ go40))) (fun _ hk => hk.2) (.int .i64 (Go.bits .andNot .i64 (rd x5_5 (rd t594 x64_5)) (rd l0 (rd t594 x30_2))))) (fun _ hk => hk.1)⟩, ⟨by (with_reducible repeat (first | apply Kd.Ya | apply Kd.Yn | apply Kd.Yd)); exact Kd.R_mono (Kd.R_far (p := ⟨go40, ((rd t594 x64_5) : Int).toNat, none⟩) (Kd.R_mono HO_62.out (fun k_ hk => (⟨hk, fun e_ => hk (by rw [e_]; rfl)⟩ : _ ∧ k_ ≠ go40))) (fun _ hk => hk.2) (.int .i64 (Go.bits .andNot .i64 (rd x5_5 (rd t594 x64_5)) (rd l0 (rd t594 x30_2))))) (fun _ hk => hk.1)⟩, ⟨by have hz0_ := (Kd.R_mono (Kd.R_far (p := ⟨go40, ((rd t594 x64_5) : Int).toNat, none⟩) (Kd.R_mono HO_7.out (fun k_ hk => (⟨hk, fun e_ => hk (by rw [e_]; rfl)⟩ : _ ∧ k_ ≠ go40))) (fun _ hk => hk.2) (.int .i64 (Go.bits .andNot .i64 (rd x5_5 (rd t594 x64_5)) (rd l0 (rd t594 x30_2))))) (fun _ h_ => h_.1)); have hz1_ := Kd.C_drop (m := ((ji14) : Int).toNat) (c := co10) (Kd.Yr hz0_).2.2 KL17.out (Kd.Yr hz0_).2.1; rw [show (Kd.int .i64).sz = 1 from rfl, ← KA17.out, ← Ny598.out] at hz1_; exact hz1_⟩, ⟨by repeat (first | (with_reducible first | exact HB.out | apply yea | apply yen | apply yed | refine below_set ?_ GB40.out) | exact HB.out)⟩⟩
end Go.Proofs.Ytaglakdahmepeaa.P
