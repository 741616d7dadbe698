/- The machine's side: each Go function as a plain Lean function and the proof that the machine's call does what that function says; written by this session's own program over the kit's print. -/
import Derived.Test.YtdemlminhkhonaaZP1
import Derived.Test.YtdemlminhkhonaaZP5
namespace Go.Proofs.Ytdemlminhkhonaa.P
open Go.RowKit Go.Proofs.YtdemlminhkhonaaW.PrintWords Go.Proofs.YtdemlminhkhonaaW.PrintLast Go.Proofs.YtdemlminhkhonaaW.PrintMore
attribute [local go_sem] max2_int min2_int max_two min_two max_three min_three max_four min_four   -- for this text's walks alone
set_option linter.unusedVariables false
set_option linter.unusedSimpArgs false
mutual
def impl_LineCells.j0 : Nat → Int → Int → Bool → Option (List Int)
 | 0, _, _, _ => none
 | k + 1, x0, x1, x19 => if x19 = true then (some ([] : List Int)) else (if 0 ≤ x0 then (if (x0 : Int).toNat ≤ 35184372088832 then (impl_LineCells.l0 k x0 x1 (([] : List Int)) x0 0) else (none)) else (none))
def impl_LineCells.l0 : Nat → Int → Int → List Int → Int → Int → Option (List Int)
 | 0, _, _, _, _, _ => none
 | k + 1, x0, x1, x5, x22, x23 => if x23 < x22 then (if x1 < x0 then (if x5.length < 17592186044416 then (impl_LineCells.l0 k x0 x1 (x5 ++ [wrap64 ((wrap64 (x1 * x0)) + x23)]) x22 (wrap64 (x23 + 1))) else (none)) else (if x5.length < 17592186044416 then (impl_LineCells.l0 k x0 x1 (x5 ++ [wrap64 ((wrap64 ((wrap64 (x23 * x0)) + x1)) - x0)]) x22 (wrap64 (x23 + 1))) else (none))) else (some x5)
end
def impl_LineCells.f (k : Nat) (a0 : Int) (a1 : Int) : Option (List Int) := (impl_sizeOk.f a0).bind fun t411 => (if t411 = true then (if a1 < 0 then (impl_LineCells.j0 k a0 a1 true) else (impl_LineCells.j0 k a0 a1 (decide (a1 ≥ (wrap64 (2 * a0)))))) else (impl_LineCells.j0 k a0 a1 true))
theorem impl_LineCells.mono_l : ∀ k, (∀ y0 y1 y2, LeO (impl_LineCells.j0 k y0 y1 y2) (impl_LineCells.j0 (k + 1) y0 y1 y2)) ∧ (∀ y0 y1 y2 y3 y4, LeO (impl_LineCells.l0 k y0 y1 y2 y3 y4) (impl_LineCells.l0 (k + 1) y0 y1 y2 y3 y4))
 | 0 => ⟨fun _ _ _ r h => by simp [impl_LineCells.j0] at h, fun _ _ _ _ _ r h => by simp [impl_LineCells.l0] at h⟩
 | k + 1 => by
  obtain ⟨ih0, ih1⟩ := impl_LineCells.mono_l k
  refine ⟨?_, ?_⟩
  ·intro y0 y1 y2
   unfold impl_LineCells.j0
   repeat' first
   | (with_reducible exact ih0 _ _ _)
   | (with_reducible exact ih1 _ _ _ _ _)
   | (with_reducible exact LeO.refl _)
   | (with_reducible exact LeO.none _)
   | (with_reducible refine LeO.ite ?_ ?_)
   | (with_reducible refine LeO.bind ?_ (fun _ => ?_))
   | exact ih0 _ _ _
   | exact ih1 _ _ _ _ _
   | exact LeO.none _
   | refine LeO.ite ?_ ?_
   | refine LeO.bind ?_ (fun _ => ?_)
  ·intro y0 y1 y2 y3 y4
   unfold impl_LineCells.l0
   repeat' first
   | (with_reducible exact ih0 _ _ _)
   | (with_reducible exact ih1 _ _ _ _ _)
   | (with_reducible exact LeO.refl _)
   | (with_reducible exact LeO.none _)
   | (with_reducible refine LeO.ite ?_ ?_)
   | (with_reducible refine LeO.bind ?_ (fun _ => ?_))
   | exact ih0 _ _ _
   | exact ih1 _ _ _ _ _
   | exact LeO.none _
   | refine LeO.ite ?_ ?_
   | refine LeO.bind ?_ (fun _ => ?_)
theorem impl_LineCells.mono : ∀ a0 a1 k, LeO (impl_LineCells.f k a0 a1) (impl_LineCells.f (k + 1) a0 a1) := by
 intro a0 a1 k
 obtain ⟨ih0, ih1⟩ := impl_LineCells.mono_l k
 unfold impl_LineCells.f
 repeat' first
   | (with_reducible exact ih0 _ _ _)
   | (with_reducible exact ih1 _ _ _ _ _)
   | (with_reducible exact LeO.refl _)
   | (with_reducible exact LeO.none _)
   | (with_reducible refine LeO.ite ?_ ?_)
   | (with_reducible refine LeO.bind ?_ (fun _ => ?_))
   | exact ih0 _ _ _
   | exact ih1 _ _ _ _ _
   | exact LeO.none _
   | refine LeO.ite ?_ ?_
   | refine LeO.bind ?_ (fun _ => ?_)
set_option maxHeartbeats 8000000 in
set_option maxRecDepth 100000 in
theorem impl_LineCells.calls (k : Nat) (a0 : Int) (a1 : Int) (r : List Int) (w : World) (h : impl_LineCells.f k a0 a1 = some r) :
  Calls Try.prog 82 #[.int .i64 a0, .int .i64 a1] w fun e w' => ∃ v0_ : Value, e = .returned (v0_) ∧ Kd.R (Kd.int .i64) 3 w' w.heap.size (fun _ => True) v0_ r ∧ Below w.heap.size w w' := by
 have HB := yam (Below.refl w.heap.size w)
 have H : ((impl_sizeOk.f a0).bind fun t411 => (if t411 = true then (if a1 < 0 then (impl_LineCells.j0 k a0 a1 true) else (impl_LineCells.j0 k a0 a1 (decide (a1 ≥ (wrap64 (2 * a0)))))) else (impl_LineCells.j0 k a0 a1 true))) = some r := h
 clear h
 have HC3 := yam H
 clear H
 go_enter Try.func82, Try.ntmps82
 go_upto_region 1 with (fail)
 go_cut [19] (fun v19 wc => ∃ (kq : Nat) (x19_2 : Bool), v19 = .bool x19_2 ∧ Aside0 (impl_LineCells.j0 kq a0 a1 x19_2 = some r) ∧ Aside0 (kq ≤ k) ∧ Aside0 (Below w.heap.size w wc))
 case first =>
  have H := HC3.out
  clear HC3
  replace H := Option.bind_eq_some_iff.mp H
  obtain ⟨t411, A40, H⟩ := H
  try dsimp only at H
  have A4 := yam A40
  clear A40
  by_cases c5 : t411 = true
  rotate_left
  ·replace c5 := Bool.eq_false_iff.mpr c5
   subst c5
   have H1 : (impl_LineCells.j0 k a0 a1 true) = some r := by rw [if_neg (show ¬ (false = true) by decide)] at H; exact H
   clear H
   have H := H1
   clear H1
   have H' := yam H
   clear H
   go_wp2_with (first | ((with_reducible refine gate_callee (f := 84) rfl ?_); refine goesL_ (some 8) rfl rfl Try.func84 (by kernel_rfl) rfl #[.int .i64 a0] rfl (by (try simp only [List.map_toArray, List.map_cons, List.map_nil]); first | done | rfl | (simp only [List.length_drop, List.length_take]; rfl)) ?_; (with_reducible refine (impl_sizeOk.calls a0 false _ A4.out).mono ?_); rintro e w' ⟨rfl, ⟨nd, rfl⟩⟩; refine ⟨_, rfl, ?_⟩))
   go_meet
   case rel => exact ⟨_, (true), yeq, H', ⟨by first | omega | exact Nat.le_refl _⟩, ⟨yhb⟩⟩
  subst c5
  have H1 : (if a1 < 0 then (impl_LineCells.j0 k a0 a1 true) else (impl_LineCells.j0 k a0 a1 (decide (a1 ≥ (wrap64 (2 * a0)))))) = some r := by rw [if_pos rfl] at H; exact H
  clear H
  have H := H1
  clear H1
  by_cases c6 : a1 < 0
  ·rw [if_pos c6] at H
   have c6b0 : decide (a1 < 0) = true := decide_eq_true c6
   clear c6
   (first | rw [c6b0] | (simp only [i64_w, i32_w]; rw [c6b0]) | skip)
   have H' := yam H
   clear H
   go_wp2_with (first | ((with_reducible refine gate_callee (f := 84) rfl ?_); refine goesL_ (some 8) rfl rfl Try.func84 (by kernel_rfl) rfl #[.int .i64 a0] rfl (by (try simp only [List.map_toArray, List.map_cons, List.map_nil]); first | done | rfl | (simp only [List.length_drop, List.length_take]; rfl)) ?_; (with_reducible refine (impl_sizeOk.calls a0 true _ A4.out).mono ?_); rintro e w' ⟨rfl, ⟨nd, rfl⟩⟩; refine ⟨_, rfl, ?_⟩))
   go_meet
   case rel => exact ⟨_, (true), yeq, H', ⟨by first | omega | exact Nat.le_refl _⟩, ⟨yhb⟩⟩
  rw [if_neg c6] at H
  have c6b0 : decide (a1 < 0) = false := decide_eq_false c6
  clear c6
  (first | rw [c6b0] | (simp only [i64_w, i32_w]; rw [c6b0]) | skip)
  have H' := yam H
  clear H
  go_wp2_with (first | ((with_reducible refine gate_callee (f := 84) rfl ?_); refine goesL_ (some 8) rfl rfl Try.func84 (by kernel_rfl) rfl #[.int .i64 a0] rfl (by (try simp only [List.map_toArray, List.map_cons, List.map_nil]); first | done | rfl | (simp only [List.length_drop, List.length_take]; rfl)) ?_; (with_reducible refine (impl_sizeOk.calls a0 true _ A4.out).mono ?_); rintro e w' ⟨rfl, ⟨nd, rfl⟩⟩; refine ⟨_, rfl, ?_⟩))
  go_meet
  case rel => exact ⟨_, (decide (a1 ≥ (wrap64 (2 * a0)))), yeq, H', ⟨by first | omega | exact Nat.le_refl _⟩, ⟨yhb⟩⟩
 case rest =>
  clear HC3
  try clear p2
  try clear c5
  try clear c6
  try clear c6b0
  try clear p6
  obtain ⟨kq, x19_2, rfl, HA, HJ2, HB⟩ := hcut
  cases kq with
  | zero => exact absurd HA.out (by simp [impl_LineCells.j0])
  | succ kj2 =>
   have H := HA.out
   clear HA
   simp only [impl_LineCells.j0] at H
   by_cases c7 : x19_2 = true
   ·subst c7
    have H1 : (some ([] : List Int)) = some r := by rw [if_pos rfl] at H; exact H
    clear H
    have H := H1
    clear H1
    obtain rfl := Option.some.inj H
    go_wp2
    go_ret
    exact ⟨_, yer, by first | exact Kd.R_nil _ _ _ _ _ | exact Kd.N_nil _ _ _ _ _ | exact Kd.V_nil _ _ _ _ _ | exact Kd.Q_nil _ _ _ _ _ | exact Kd.S_nil _ _ _ _ _, yhb⟩
   replace c7 := Bool.eq_false_iff.mpr c7
   subst c7
   have H1 : (if 0 ≤ a0 then (if (a0 : Int).toNat ≤ 35184372088832 then (impl_LineCells.l0 kj2 a0 a1 (([] : List Int)) a0 0) else (none)) else (none)) = some r := by rw [if_neg (show ¬ (false = true) by decide)] at H; exact H
   clear H
   have H := H1
   clear H1
   by_cases c8 : 0 ≤ a0
   rotate_left
   ·rw [if_neg c8] at H
    exact absurd H (by simp)

   rw [if_pos c8] at H
   have c8b0 := eq_true c8
   have c8b1 : decide (0 ≤ a0) = true := decide_eq_true c8
   clear c8
   replace H := yig H
   obtain ⟨c9, H⟩ := H
   have c9b0 := eq_true c9
   have c9b1 : decide ((a0 : Int).toNat ≤ 35184372088832) = true := decide_eq_true c9
   clear c9
   obtain ⟨y412, hy412⟩ : ∃ y_ : List Int, y_ = (([] : List Int)) := ⟨_, rfl⟩
   replace H : (impl_LineCells.l0 kj2 a0 a1 y412 a0 0) = some r := by first | (rw [hy412]; with_reducible exact H) | (have H2_ := (Option.bind_some _ _).symm.trans H; rw [hy412]; with_reducible exact H2_) | (have H2_ := (Option.bind_some _ _).symm.trans H; with_reducible exact H2_) | with_reducible exact H | (rw [hy412]; exact H) | exact H
   have Ny412 := yam hy412
   clear hy412
   have H' := yam H
   clear H
   go_wp2_with (first | ((with_reducible refine gate_dst (N := 21) rfl ?_); refine Kd.R_make_cap (Kd.int .i64) _ 3 rfl (N := 21) rfl 22 _ _ rfl a0 rfl rfl Try.underlying22 (.int .i64 0) 8 info3 rfl (by decide) (by omega) (ok := fun _ => True) trivial (ydt) (Nat.le_trans (Nat.mul_le_mul_right _ (ydt : a0.toNat ≤ 35184372088832)) (by omega)) (Below.refl _ _) (Nat.le_refl _) ?_; intro v413 w10 ho11 hb hg_ hnew_; clear hg_ hnew_; (first | rw [← Ny412.out] at ho11 | (simp only [Int.reduceToNat] at ho11; rw [← Ny412.out] at ho11)); have n0_ := yam (Kd.R_lower ho11 (below_size (yez HB.out))); have n1_ := yam (below_step (yez HB.out) hb); clear HB; have HO414 := n0_; have HB := n1_; clear n0_ n1_; clear hb ho11))
   go_loopg [5, 23] kj2 (fun kq v5 v23 w' => ∃ (x5_2 : List Int) (x23_2 : Int), v23 = .int .i64 x23_2 ∧ Aside0 (impl_LineCells.l0 kq a0 a1 x5_2 a0 x23_2 = some r) ∧ Aside0 (kq ≤ kj2) ∧ Aside0 (Kd.R (Kd.int .i64) 3 w' w.heap.size (fun _ => True) v5 x5_2) ∧ Aside0 (Below w.heap.size w w'))
   case atStart => exact ⟨(y412), (0), yeq, H', ⟨Nat.le_refl _⟩, ⟨yka HO414.out⟩, ⟨yhb⟩⟩
   case round =>
    clear H'
    try clear p2
    try clear c5
    try clear c6
    try clear c6b0
    try clear p6
    try clear c7
    try clear c8
    try clear c8b0
    try clear c8b1
    try clear c9
    try clear c9b0
    try clear c9b1
    try clear p2
    try clear p6
    obtain ⟨x5_2, x23_2, rfl, HA, HK2, HO_5, HB⟩ := hrel
    cases gk with
    | zero => exact absurd HA.out (by simp [impl_LineCells.l0])
    | succ k2 =>
     have H := HA.out
     clear HA
     simp only [impl_LineCells.l0] at H
     by_cases c12 : x23_2 < a0
     rotate_left
     ·rw [if_neg c12] at H
      have c12b0 : decide (x23_2 < a0) = false := decide_eq_false c12
      clear c12
      obtain rfl := Option.some.inj H
      go_wp2
      go_ret
      exact ⟨_, yer, yka HO_5.out, yhb⟩
     rw [if_pos c12] at H
     have c12b0 : decide (x23_2 < a0) = true := decide_eq_true c12
     clear c12
     by_cases c13 : a1 < a0
     ·rw [if_pos c13] at H
      have c13b0 : decide (a1 < a0) = true := decide_eq_true c13
      clear c13
      replace H := yig H
      obtain ⟨c14, H⟩ := H
      have LMc14 := yam c14
      clear c14
      obtain ⟨y415, hy415⟩ : ∃ y_ : List Int, y_ = (x5_2 ++ [wrap64 ((wrap64 (a1 * a0)) + x23_2)]) := ⟨_, rfl⟩
      replace H : (impl_LineCells.l0 k2 a0 a1 y415 a0 (wrap64 (x23_2 + 1))) = some r := by first | (rw [hy415]; with_reducible exact H) | (have H2_ := (Option.bind_some _ _).symm.trans H; rw [hy415]; with_reducible exact H2_) | (have H2_ := (Option.bind_some _ _).symm.trans H; with_reducible exact H2_) | with_reducible exact H | (rw [hy415]; exact H) | exact H
      have Ny415 := yam hy415
      clear hy415
      have H' := yam H
      clear H
      go_wp2_with (first | ((with_reducible refine gate_builtin (b := .append) (xs := #[.tmp 29, .tmp 35]) rfl ?_); at_builtin; refine Kd.R_append (Kd.int .i64) (w0 := w) w.heap.size rfl (.tmp 29) (.tmp 35) 22 3 (.int .i64 0) 8 rfl Try.underlying22 info3 rfl (by decide) (by omega) u5 x5_2 (wrap64 ((wrap64 (a1 * a0)) + x23_2)) [.int .i64 (wrap64 ((wrap64 (a1 * a0)) + x23_2))] (fun _ => True) (fun _ => False) rfl rfl ?aP (fun _ hk => hk.elim) ?aF ?aO ?aB ?aS ?aL ?_; (case aP => exact rfl); (case aB => exact (yez HB.out)); (case aF => exact (fun _ _ => trivial)); (case aO => exact (Kd.Yz HO_5.out)); (case aS => exact (below_size (yez HB.out))); (case aL => have := LMc14.out; omega); intro v416 w15 ho hb hg hat; rw [← Ny415.out] at ho; have n0_ := yam (hb); have n1_ := yam (ho); clear HB; clear HO_5; have HB := n0_; have HO417 := n1_; clear n0_ n1_; clear ho hb hg hat))
      go_roundg k2
      case measure => have := HJ2.out; have := HK2.out; omega
      case rel => exact ⟨(y415), (wrap64 (x23_2 + 1)), yeq, H', ⟨by have := HJ2.out; have := HK2.out; omega⟩, ⟨yka HO417.out⟩, ⟨yhb⟩⟩
     rw [if_neg c13] at H
     have c13b0 : decide (a1 < a0) = false := decide_eq_false c13
     clear c13
     replace H := yig H
     obtain ⟨c16, H⟩ := H
     have LMc16 := yam c16
     clear c16
     obtain ⟨y418, hy418⟩ : ∃ y_ : List Int, y_ = (x5_2 ++ [wrap64 ((wrap64 ((wrap64 (x23_2 * a0)) + a1)) - a0)]) := ⟨_, rfl⟩
     replace H : (impl_LineCells.l0 k2 a0 a1 y418 a0 (wrap64 (x23_2 + 1))) = some r := by first | (rw [hy418]; with_reducible exact H) | (have H2_ := (Option.bind_some _ _).symm.trans H; rw [hy418]; with_reducible exact H2_) | (have H2_ := (Option.bind_some _ _).symm.trans H; with_reducible exact H2_) | with_reducible exact H | (rw [hy418]; exact H) | exact H
     have Ny418 := yam hy418
     clear hy418
     have H' := yam H
     clear H
     go_wp2_with (first | ((with_reducible refine gate_builtin (b := .append) (xs := #[.tmp 37, .tmp 45]) rfl ?_); at_builtin; refine Kd.R_append (Kd.int .i64) (w0 := w) w.heap.size rfl (.tmp 37) (.tmp 45) 22 3 (.int .i64 0) 8 rfl Try.underlying22 info3 rfl (by decide) (by omega) u5 x5_2 (wrap64 ((wrap64 ((wrap64 (x23_2 * a0)) + a1)) - a0)) [.int .i64 (wrap64 ((wrap64 ((wrap64 (x23_2 * a0)) + a1)) - a0))] (fun _ => True) (fun _ => False) rfl rfl ?aP (fun _ hk => hk.elim) ?aF ?aO ?aB ?aS ?aL ?_; (case aP => exact rfl); (case aB => exact (yez HB.out)); (case aF => exact (fun _ _ => trivial)); (case aO => exact (Kd.Yz HO_5.out)); (case aS => exact (below_size (yez HB.out))); (case aL => have := LMc16.out; omega); intro v419 w17 ho hb hg hat; rw [← Ny418.out] at ho; have n0_ := yam (hb); have n1_ := yam (ho); clear HB; clear HO_5; have HB := n0_; have HO420 := n1_; clear n0_ n1_; clear ho hb hg hat))
     go_roundg k2
     case measure => have := HJ2.out; have := HK2.out; omega
     case rel => exact ⟨(y418), (wrap64 (x23_2 + 1)), yeq, H', ⟨by have := HJ2.out; have := HK2.out; omega⟩, ⟨yka HO420.out⟩, ⟨yhb⟩⟩
theorem impl_LineCells.nil (a0 a1 : Int) (w : World) (hb : ¬ (2 ≤ a0 ∧ a0 ≤ 4 ∧ 0 ≤ a1 ∧ a1 < 2 * a0)) :
  Calls Try.prog 82 #[.int .i64 a0, .int .i64 a1] w fun e w' => e = .returned (.slice none 0 0) ∧ Drawn0 w w' := by
 by_cases hs : 2 ≤ a0 ∧ a0 ≤ 4
 ·have hf : impl_sizeOk.f a0 = some true := by
   unfold impl_sizeOk.f; rw [if_pos (show a0 ≥ 2 from hs.1), decide_eq_true hs.2]
  have h2 := hs.1
  have h4 := hs.2
  by_cases h0 : a1 < 0
  ·have h0b : decide (a1 < 0) = true := decide_eq_true h0
   clear hb hs
   go_enter Try.func82, Try.ntmps82
   go_wp2_with (first | (go_at_call 84; (with_reducible refine (impl_sizeOk.calls a0 true _ hf).mono ?_); rintro e w' ⟨rfl, ⟨nd, rfl⟩⟩))
   go_ret
   exact ⟨rfl, by repeat (first | exact Drawn0.refl _ | apply Drawn0.step)⟩
  ·have h0b : decide (a1 < 0) = false := decide_eq_false h0
   have h1 : 2 * a0 ≤ a1 := by omega
   have h1b : decide (2 * a0 ≤ a1) = true := decide_eq_true h1
   clear hb hs
   go_enter Try.func82, Try.ntmps82
   go_wp2_with (first | (go_at_call 84; (with_reducible refine (impl_sizeOk.calls a0 true _ hf).mono ?_); rintro e w' ⟨rfl, ⟨nd, rfl⟩⟩))
   go_ret
   exact ⟨rfl, by repeat (first | exact Drawn0.refl _ | apply Drawn0.step)⟩
 ·have hf : impl_sizeOk.f a0 = some false := by
   unfold impl_sizeOk.f
   by_cases h2 : a0 ≥ 2
   ·rw [if_pos h2, decide_eq_false (by omega)]
   ·rw [if_neg h2]
  clear hb hs
  go_enter Try.func82, Try.ntmps82
  go_wp2_with (first | (go_at_call 84; (with_reducible refine (impl_sizeOk.calls a0 false _ hf).mono ?_); rintro e w' ⟨rfl, ⟨nd, rfl⟩⟩))
  go_ret
  exact ⟨rfl, by repeat (first | exact Drawn0.refl _ | apply Drawn0.step)⟩
mutual
def impl_NarrowHidden.l0 : Nat → List Int → Int → List Int → Int → Int → Option (List Int)
 | 0, _, _, _, _, _ => none
 | k + 1, x0, x1, x5, x19, x20 => if x20 < x19 then (impl_NarrowHidden.l1 k x0 x1 x5 x20 1 x19 x20) else (some x5)
def impl_NarrowHidden.l1 : Nat → List Int → Int → List Int → Int → Int → Int → Int → Option (List Int)
 | 0, _, _, _, _, _, _, _ => none
 | k + 1, x0, x1, x5, x6, x7, x19, x20 => if x7 ≤ x1 then ((impl_LineCells.f k x1 x6).bind fun t425 => (impl_NarrowHidden.l2 k x0 x1 x5 x6 x7 0 0 x19 x20 t425 (t425.length : Int) 0)) else (impl_NarrowHidden.l0 k x0 x1 x5 x19 (wrap64 (x20 + 1)))
def impl_NarrowHidden.l2 : Nat → List Int → Int → List Int → Int → Int → Int → Int → Int → Int → List Int → Int → Int → Option (List Int)
 | 0, _, _, _, _, _, _, _, _, _, _, _, _ => none
 | k + 1, x0, x1, x5, x6, x7, x8, x9, x19, x20, x30, x31, x32 => if x32 < x31 then (if 0 ≤ x32 then (if x32 < (x30.length : Int) then (if 0 ≤ (rd x30 x32) then (if (rd x30 x32) < (x0.length : Int) then (if 0 ≤ x7 then (if (Go.bits .and .i64 (shr .i64 (rd x0 (rd x30 x32)) x7) 1) = 1 then (impl_NarrowHidden.l2 k x0 x1 x5 x6 x7 (rd x30 x32) (wrap64 (x9 + 1)) x19 x20 x30 x31 (wrap64 (x32 + 1))) else (impl_NarrowHidden.l2 k x0 x1 x5 x6 x7 x8 x9 x19 x20 x30 x31 (wrap64 (x32 + 1)))) else (none)) else (none)) else (none)) else (none)) else (none)) else (if x9 = 1 then (if 0 ≤ x8 then (if x8 < (x5.length : Int) then (if 0 ≤ x7 then (impl_NarrowHidden.l1 k x0 x1 (x5.set (x8 : Int).toNat (Go.bits .and .i64 (rd x5 x8) (shl .i64 1 x7))) x6 (wrap64 (x7 + 1)) x19 x20) else (none)) else (none)) else (none)) else (impl_NarrowHidden.l1 k x0 x1 x5 x6 (wrap64 (x7 + 1)) x19 x20))
end
def impl_NarrowHidden.f (k : Nat) (l0 : List Int) (a1 : Int) : Option (List Int) := (impl_MasksValid.f k l0 a1).bind fun t421 => (if t421 = true then ((slices_Clone_int_int.f l0).bind fun t422 => (impl_NarrowHidden.l0 k l0 a1 t422 (wrap64 (2 * a1)) 0)) else (some ([] : List Int)))
def impl_NarrowHidden.T19 : Bool × List (List Nat × List Nat) := (true, [([], []), ([], []), ([0, 1], [0, 1]), ([2], [2]), ([], []), ([4], [4]), ([3, 5], [3, 5]), ([0, 1, 0, 1, 2, 3, 4, 5, 6], [0, 1]), ([7, 6, 0, 1, 2, 3, 4, 5, 6], [6, 7])])
def impl_NarrowHidden.B19 : List Nat := [0, 0, 3, 7, 0, 16, 63, 127, 255]
theorem impl_NarrowHidden.tab19 : rtab .any (opsOf Try.f59 19) = impl_NarrowHidden.T19 := by kernel_rfl
theorem impl_NarrowHidden.bits19 : waitsOk impl_NarrowHidden.T19.2 impl_NarrowHidden.B19 = true := by kernel_rfl
set_option maxHeartbeats 8000000 in
set_option maxRecDepth 100000 in
theorem impl_NarrowHidden.calls (k : Nat) (A0 : Option Addr) (c0 : Nat) (l0 : List Int) (a1 : Int) (r : List Int) (w : World) (hr0 : Kd.C (Kd.int .i64) w A0 l0.length l0) (hc0 : l0.length ≤ c0) (h : impl_NarrowHidden.f k l0 a1 = some r) :
  Calls Try.prog 59 #[.slice A0 l0.length c0, .int .i64 a1] w fun e w' => ∃ v0_ : Value, e = .returned (v0_) ∧ Kd.R (Kd.int .i64) 3 w' w.heap.size (fun _ => True) v0_ r ∧ Below w.heap.size w w' := by
 have HR0 := yam hr0
 have HC0 := yam hc0
 clear hr0 hc0
 have HB := yam (Below.refl w.heap.size w)
 have H : ((impl_MasksValid.f k l0 a1).bind fun t421 => (if t421 = true then ((slices_Clone_int_int.f l0).bind fun t422 => (impl_NarrowHidden.l0 k l0 a1 t422 (wrap64 (2 * a1)) 0)) else (some ([] : List Int)))) = some r := h
 clear h
 replace H := Option.bind_eq_some_iff.mp H
 obtain ⟨t421, A30, H⟩ := H
 try dsimp only at H
 have A3 := yam A30
 clear A30
 by_cases c4 : t421 = true
 rotate_left
 ·replace c4 := Bool.eq_false_iff.mpr c4
  subst c4
  have H1 : (some ([] : List Int)) = some r := by rw [if_neg (show ¬ (false = true) by decide)] at H; exact H
  clear H
  have H := H1
  clear H1
  obtain rfl := Option.some.inj H
  go_enter Try.func59, Try.ntmps59
  go_wp2_with (first | ((with_reducible refine gate_callee (f := 63) rfl ?_); refine goesL_ (some 14) rfl rfl Try.func63 (by kernel_rfl) rfl #[.slice A0 l0.length c0, .int .i64 a1] rfl (by (try simp only [List.map_toArray, List.map_cons, List.map_nil]); first | done | rfl | (simp only [List.length_drop, List.length_take]; rfl)) ?_; (with_reducible refine (impl_MasksValid.calls k _ _ l0 a1 false _ ?side1 ?side2 A3.out).mono ?_); (case side1 => exact Kd.Cz (HR0.out)); (case side2 => exact HC0.out); rintro e w' ⟨rfl, ⟨nd, rfl⟩⟩; refine ⟨_, rfl, ?_⟩))
  go_ret
  exact ⟨_, yer, by first | exact Kd.R_nil _ _ _ _ _ | exact Kd.N_nil _ _ _ _ _ | exact Kd.V_nil _ _ _ _ _ | exact Kd.Q_nil _ _ _ _ _ | exact Kd.S_nil _ _ _ _ _, yhb⟩

 subst c4
 have H1 : ((slices_Clone_int_int.f l0).bind fun t422 => (impl_NarrowHidden.l0 k l0 a1 t422 (wrap64 (2 * a1)) 0)) = some r := by rw [if_pos rfl] at H; exact H
 clear H
 have H := H1
 clear H1
 replace H := Option.bind_eq_some_iff.mp H
 obtain ⟨t422, A50, H⟩ := H
 try dsimp only at H
 have A5 := yam A50
 clear A50
 have H' := yam H
 clear H
 go_enter Try.func59, Try.ntmps59
 go_wp2_with (first | ((with_reducible refine gate_callee (f := 63) rfl ?_); refine goesL_ (some 14) rfl rfl Try.func63 (by kernel_rfl) rfl #[.slice A0 l0.length c0, .int .i64 a1] rfl (by (try simp only [List.map_toArray, List.map_cons, List.map_nil]); first | done | rfl | (simp only [List.length_drop, List.length_take]; rfl)) ?_; (with_reducible refine (impl_MasksValid.calls k _ _ l0 a1 true _ ?side1 ?side2 A3.out).mono ?_); (case side1 => exact Kd.Cz (HR0.out)); (case side2 => exact HC0.out); rintro e w' ⟨rfl, ⟨nd, rfl⟩⟩; refine ⟨_, rfl, ?_⟩) | ((with_reducible refine gate_callee (f := 64) rfl ?_); refine goesL_ (some 17) rfl rfl Try.func64 (by kernel_rfl) rfl #[.slice A0 l0.length c0] rfl (by (try simp only [List.map_toArray, List.map_cons, List.map_nil]); first | done | rfl | (simp only [List.length_drop, List.length_take]; rfl)) ?_; (with_reducible refine (slices_Clone_int_int.calls _ _ l0 t422 _ ?side1 ?side2 A5.out).mono ?_); (case side1 => exact Kd.Cz (HR0.out)); (case side2 => exact HC0.out); rintro e w6 ⟨v423, rfl, ho0, hb⟩; refine ⟨_, rfl, ?_⟩; have n0_ := yam (Kd.R_lower ho0 (below_size (yez HB.out))); have n1_ := yam (below_step (yez HB.out) hb); clear HB; have HO424 := n0_; have HB := n1_; clear n0_ n1_; (try clear hb); (try clear hb2); (try clear hk); (try clear hi); (try clear ho0)))
 go_loopg [20] k (fun kq v20 w' => ∃ (x5_1 : List Int) (x20_1 : Int), v20 = .int .i64 x20_1 ∧ Aside0 (impl_NarrowHidden.l0 kq l0 a1 x5_1 (wrap64 (2 * a1)) x20_1 = some r) ∧ Aside0 (kq ≤ k) ∧ Aside0 (Kd.R (Kd.int .i64) 3 w' w.heap.size (fun _ => True) v423 x5_1) ∧ Aside0 (Below w.heap.size w w'))
 case atStart => exact ⟨(t422), (0), yeq, H', ⟨Nat.le_refl _⟩, ⟨yka HO424.out⟩, ⟨yhb⟩⟩
 case round =>
  clear H'
  try clear p2
  try clear c4
  try clear c5
  try clear c6
  try clear p6
  obtain ⟨x5_1, x20_1, rfl, HA, HK1, HO_5, HB⟩ := hrel
  cases gk with
  | zero => exact absurd HA.out (by simp [impl_NarrowHidden.l0])
  | succ k1 =>
   have H := HA.out
   clear HA
   simp only [impl_NarrowHidden.l0] at H
   by_cases c7 : x20_1 < (wrap64 (2 * a1))
   rotate_left
   ·rw [if_neg c7] at H
    have c7b0 : decide (x20_1 < (wrap64 (2 * a1))) = false := decide_eq_false c7
    clear c7
    obtain rfl := Option.some.inj H
    go_wp2
    go_ret
    exact ⟨_, yer, yka HO_5.out, yhb⟩
   rw [if_pos c7] at H
   have c7b0 : decide (x20_1 < (wrap64 (2 * a1))) = true := decide_eq_true c7
   clear c7
   have H' := yam H
   clear H
   go_wp2
   go_loopg [7] k1 (fun kq v7 w' => ∃ (x5_2 : List Int) (x7_2 : Int), v7 = .int .i64 x7_2 ∧ Aside0 (impl_NarrowHidden.l1 kq l0 a1 x5_2 x20_1 x7_2 (wrap64 (2 * a1)) x20_1 = some r) ∧ Aside0 (kq ≤ k1) ∧ Aside0 (Kd.R (Kd.int .i64) 3 w' w.heap.size (fun _ => True) v423 x5_2) ∧ Aside0 (Below w.heap.size w w'))
   case atStart => exact ⟨(x5_1), (1), yeq, H', ⟨Nat.le_refl _⟩, ⟨yka HO_5.out⟩, ⟨yhb⟩⟩
   case round =>
    clear H'
    try clear p2
    try clear c4
    try clear c5
    try clear c6
    try clear p6
    try clear c7
    try clear c7b0
    try clear p2
    try clear p6
    obtain ⟨x5_2, x7_2, rfl, HA, HK2, HO_5, HB⟩ := hrel
    cases gk with
    | zero => exact absurd HA.out (by simp [impl_NarrowHidden.l1])
    | succ k2 =>
     have H := HA.out
     clear HA
     simp only [impl_NarrowHidden.l1] at H
     by_cases c8 : x7_2 ≤ a1
     rotate_left
     ·rw [if_neg c8] at H
      have c8b0 : decide (x7_2 ≤ a1) = false := decide_eq_false c8
      clear c8
      have H' := yam H
      clear H
      go_wp2
      go_roundg k2
      case measure => have := HK1.out; have := HK2.out; omega
      case rel => exact ⟨(x5_2), (wrap64 (x20_1 + 1)), yeq, H', ⟨by have := HK1.out; have := HK2.out; omega⟩, ⟨yka HO_5.out⟩, ⟨yhb⟩⟩
     rw [if_pos c8] at H
     have c8b0 : decide (x7_2 ≤ a1) = true := decide_eq_true c8
     clear c8
     replace H := Option.bind_eq_some_iff.mp H
     obtain ⟨t425, A90, H⟩ := H
     try dsimp only at H
     have A9 := yam A90
     clear A90
     have H' := yam H
     clear H
     go_wp2_with (first | ((with_reducible refine gate_callee (f := 82) rfl ?_); refine goesL_ (some 30) rfl rfl Try.func82 (by kernel_rfl) rfl #[.int .i64 a1, .int .i64 x20_1] rfl (by (try simp only [List.map_toArray, List.map_cons, List.map_nil]); first | done | rfl | (simp only [List.length_drop, List.length_take]; rfl)) ?_; (with_reducible refine (impl_LineCells.calls k2 a1 x20_1 t425 _ A9.out).mono ?_); rintro e w10 ⟨v426, rfl, ho0, hb⟩; refine ⟨_, rfl, ?_⟩; have n0_ := yam (Kd.Ye (Kd.Yz HO_5.out) (Kd.Yb ho0) hb); have n1_ := yam (Kd.R_lower (Kd.Yw ho0 (Kd.R_lt (Kd.Yz HO_5.out))) (below_size (yez HB.out))); have n2_ := yam (below_step (yez HB.out) hb); clear HO_5; clear HB; have HO_5 := n0_; have HO427 := n1_; have HB := n2_; clear n0_ n1_ n2_; (try clear hb); (try clear hb2); (try clear hk); (try clear hi); (try clear ho0); obtain ⟨Ao11, co11, eo11⟩ := Kd.R_slice HO427.out; subst eo11))
     go_loopg [8, 9, 32] k2 (fun kq v8 v9 v32 w' => ∃ (x8_3 : Int) (x9_3 : Int) (x32_3 : Int), v8 = .int .i64 x8_3 ∧ v9 = .int .i64 x9_3 ∧ v32 = .int .i64 x32_3 ∧ Aside0 (impl_NarrowHidden.l2 kq l0 a1 x5_2 x20_1 x7_2 x8_3 x9_3 (wrap64 (2 * a1)) x20_1 t425 (t425.length : Int) x32_3 = some r) ∧ Aside0 (kq ≤ k2) ∧ Aside0 (Kd.R (Kd.int .i64) 3 w' w.heap.size (fun k_ => some k_ ≠ ((.slice Ao11 t425.length co11) : Value).ownBlock) v423 x5_2) ∧ Aside0 (Kd.R (Kd.int .i64) 3 w' w.heap.size (fun k_ => some k_ ≠ (v423 : Value).ownBlock) (.slice Ao11 t425.length co11) t425) ∧ Aside0 (Below w.heap.size w w'))
     case atStart => exact ⟨(0), (0), (0), yeq, yeq, yeq, H', ⟨Nat.le_refl _⟩, ⟨by (with_reducible repeat (first | apply Kd.Ya | apply Kd.Yn | apply Kd.Yd)); exact Kd.R_mono HO_5.out (fun _ hk => hk.2)⟩, ⟨by (with_reducible repeat (first | apply Kd.Ya | apply Kd.Yn | apply Kd.Yd)); exact Kd.R_mono HO427.out (fun _ hk => hk.2)⟩, ⟨yhb⟩⟩
     case round =>
      clear H'
      try clear p2
      try clear c4
      try clear c5
      try clear c6
      try clear p6
      try clear c7
      try clear c7b0
      try clear c8
      try clear c8b0
      try clear p2
      try clear p6
      obtain ⟨x8_3, x9_3, x32_3, rfl, rfl, rfl, HA, HK3, HO_5, HO_30, HB⟩ := hrel
      cases gk with
      | zero => exact absurd HA.out (by simp [impl_NarrowHidden.l2])
      | succ k3 =>
       have H := HA.out
       clear HA
       simp only [impl_NarrowHidden.l2] at H
       by_cases c12 : x32_3 < (t425.length : Int)
       ·rw [if_pos c12] at H
        have c12b0 : decide (x32_3 < (t425.length : Int)) = true := decide_eq_true c12
        clear c12
        replace H := yif H
        obtain ⟨c13b0, H⟩ := H
        replace H := yif H
        obtain ⟨c14b0, H⟩ := H
        replace H := yif H
        obtain ⟨c15b0, H⟩ := H
        replace H := yif H
        obtain ⟨c16b0, H⟩ := H
        replace H := yig H
        obtain ⟨c17, H⟩ := H
        have c17b0 := eq_true c17
        have c17b1 : decide (0 ≤ x7_2) = true := decide_eq_true c17
        clear c17
        obtain ⟨ji18, hji18⟩ : ∃ j_ : Int, (shr .i64 (rd l0 (rd t425 x32_3)) x7_2) = j_ := ⟨_, rfl⟩
        replace H : (if (Go.bits .and .i64 (ji18) 1) = 1 then (impl_NarrowHidden.l2 k3 l0 a1 x5_2 x20_1 x7_2 (rd t425 x32_3) (wrap64 (x9_3 + 1)) (wrap64 (2 * a1)) x20_1 t425 (t425.length : Int) (wrap64 (x32_3 + 1))) else (impl_NarrowHidden.l2 k3 l0 a1 x5_2 x20_1 x7_2 x8_3 x9_3 (wrap64 (2 * a1)) x20_1 t425 (t425.length : Int) (wrap64 (x32_3 + 1)))) = some r := by first | (rw [hji18] at H; exact H) | (simp only [hji18] at H ⊢; exact H)
        have hji18_ : ((rd l0 (rd t425 x32_3)) / 2 ^ min x7_2.toNat 64) = ji18 := hji18
        have hji18z : x7_2 ≤ 64 → ((rd l0 (rd t425 x32_3)) / 2 ^ x7_2.toNat) = ji18 := shr_small hji18
        by_cases c19 : (Go.bits .and .i64 (ji18) 1) = 1
        rotate_left
        ·rw [if_neg c19] at H
         have c19b0 : ((Go.bits .and .i64 (ji18) 1) == 1) = false := beq_eq_false_iff_ne.mpr c19
         have c19b1 : ((Go.bits .and .i64 (ji18) 1) != 1) = true := bne_iff_ne.mpr c19
         have H' := yam H
         clear H
         have p428 : 0 ≤ (x32_3 : Int) := ydt
         have q428 : x32_3 < (t425.length : Int) := ydt
         obtain ⟨ad428, e428, hx428_0⟩ := Kd.at_int (Kd.Yr HO_30.out).2.2 x32_3 p428 q428
         cases e428
         replace p428 := eq_true p428
         replace q428 := eq_true q428
         have p429 : 0 ≤ ((rd t425 x32_3) : Int) := ydt
         have q429 : (rd t425 x32_3) < (l0.length : Int) := ydt
         obtain ⟨ad429, e429, hx429_0⟩ := Kd.at_int HR0.out (rd t425 x32_3) p429 q429
         cases e429
         replace hx429_0 := ybx HB.out hx429_0
         replace p429 := eq_true p429
         replace q429 := eq_true q429
         go_wp2
         go_roundg k3
         case measure => have := HK1.out; have := HK2.out; have := HK3.out; omega
         case rel => exact ⟨(x8_3), (x9_3), (wrap64 (x32_3 + 1)), yeq, yeq, yeq, H', ⟨by have := HK1.out; have := HK2.out; have := HK3.out; omega⟩, ⟨yka HO_5.out⟩, ⟨yka HO_30.out⟩, ⟨yhb⟩⟩
        rw [if_pos c19] at H
        have c19b0 : ((Go.bits .and .i64 (ji18) 1) == 1) = true := beq_iff_eq.mpr c19
        have c19b1 : ((Go.bits .and .i64 (ji18) 1) != 1) = false := bne_eq_false_iff_eq.mpr c19
        clear c19
        have H' := yam H
        clear H
        have p428 : 0 ≤ (x32_3 : Int) := ydt
        have q428 : x32_3 < (t425.length : Int) := ydt
        obtain ⟨ad428, e428, hx428_0⟩ := Kd.at_int (Kd.Yr HO_30.out).2.2 x32_3 p428 q428
        cases e428
        replace p428 := eq_true p428
        replace q428 := eq_true q428
        have p429 : 0 ≤ ((rd t425 x32_3) : Int) := ydt
        have q429 : (rd t425 x32_3) < (l0.length : Int) := ydt
        obtain ⟨ad429, e429, hx429_0⟩ := Kd.at_int HR0.out (rd t425 x32_3) p429 q429
        cases e429
        replace hx429_0 := ybx HB.out hx429_0
        replace p429 := eq_true p429
        replace q429 := eq_true q429
        go_wp2
        go_roundg k3
        case measure => have := HK1.out; have := HK2.out; have := HK3.out; omega
        case rel => exact ⟨(rd t425 x32_3), (wrap64 (x9_3 + 1)), (wrap64 (x32_3 + 1)), yeq, yeq, yeq, H', ⟨by have := HK1.out; have := HK2.out; have := HK3.out; omega⟩, ⟨yka HO_5.out⟩, ⟨yka HO_30.out⟩, ⟨yhb⟩⟩
       rw [if_neg c12] at H
       have c12b0 : decide (x32_3 < (t425.length : Int)) = false := decide_eq_false c12
       clear c12
       by_cases c20 : x9_3 = 1
       rotate_left
       ·rw [if_neg c20] at H
        have c20b0 : (x9_3 == 1) = false := beq_eq_false_iff_ne.mpr c20
        have c20b1 : (x9_3 != 1) = true := bne_iff_ne.mpr c20
        have H' := yam H
        clear H
        go_wp2
        go_roundg k3
        case measure => have := HK1.out; have := HK2.out; have := HK3.out; omega
        case rel => exact ⟨(x5_2), (wrap64 (x7_2 + 1)), yeq, H', ⟨by have := HK1.out; have := HK2.out; have := HK3.out; omega⟩, ⟨by (with_reducible repeat (first | apply Kd.Ya | apply Kd.Yn | apply Kd.Yd)); exact Kd.R_mono HO_5.out (fun _ hk => trivial)⟩, ⟨yhb⟩⟩
       rw [if_pos c20] at H
       have c20b0 : (x9_3 == 1) = true := beq_iff_eq.mpr c20
       have c20b1 : (x9_3 != 1) = false := bne_eq_false_iff_eq.mpr c20
       clear c20
       replace H := yif H
       obtain ⟨c21b0, H⟩ := H
       replace H := yif H
       obtain ⟨c22b0, H⟩ := H
       replace H := yig H
       obtain ⟨c23, H⟩ := H
       have c23b0 := eq_true c23
       have c23b1 : decide (0 ≤ x7_2) = true := decide_eq_true c23
       clear c23
       obtain ⟨ji24, hji24⟩ : ∃ j_ : Int, (shl .i64 1 x7_2) = j_ := ⟨_, rfl⟩
       replace H : (impl_NarrowHidden.l1 k3 l0 a1 (x5_2.set (x8_3 : Int).toNat (Go.bits .and .i64 (rd x5_2 x8_3) (ji24))) x20_1 (wrap64 (x7_2 + 1)) (wrap64 (2 * a1)) x20_1) = some r := by first | (rw [hji24] at H; exact H) | (simp only [hji24] at H ⊢; exact H)
       have hji24_ : (IntKind.i64.wrap (1 * 2 ^ min x7_2.toNat 64)) = ji24 := hji24
       have hji24z : x7_2 ≤ 64 → (IntKind.i64.wrap (1 * 2 ^ x7_2.toNat)) = ji24 := shl_small hji24
       have hji24u : (IntKind.i64.wrap (2 ^ min x7_2.toNat 64)) = ji24 := by have h_ := hji24_; rw [Int.one_mul] at h_; exact h_
       have hji24v : x7_2 ≤ 64 → (IntKind.i64.wrap (2 ^ x7_2.toNat)) = ji24 := fun hle_ => by have h_ := hji24z hle_; rw [Int.one_mul] at h_; exact h_
       have hji24y : (wrap64 (1 * 2 ^ min x7_2.toNat 64)) = ji24 := (i64_w _).symm.trans hji24_
       have hji24x : x7_2 ≤ 64 → (wrap64 (1 * 2 ^ x7_2.toNat)) = ji24 := fun h_ => (i64_w _).symm.trans (hji24z h_)
       obtain ⟨y431, hy431⟩ : ∃ y_ : List Int, y_ = (x5_2.set (x8_3 : Int).toNat (Go.bits .and .i64 (rd x5_2 x8_3) (ji24))) := ⟨_, rfl⟩
       replace H : (impl_NarrowHidden.l1 k3 l0 a1 y431 x20_1 (wrap64 (x7_2 + 1)) (wrap64 (2 * a1)) x20_1) = some r := by first | (rw [hy431]; with_reducible exact H) | (have H2_ := (Option.bind_some _ _).symm.trans H; rw [hy431]; with_reducible exact H2_) | (have H2_ := (Option.bind_some _ _).symm.trans H; with_reducible exact H2_) | with_reducible exact H | (rw [hy431]; exact H) | exact H
       have Ny431 := yam hy431
       clear hy431
       have H' := yam H
       clear H
       try go_wp2
       have n0_ := yam (Kd.Yd HO_5.out)
       have n1_ := yam (Kd.Yd HO_30.out)
       have n2_ := yam (yed HB.out)
       clear HO_5
       clear HO_30
       clear HB
       have HO_5 := n0_
       have HO_30 := n1_
       have HB := n2_
       clear n0_ n1_ n2_
       obtain ⟨Ao27, co27, eo27⟩ := Kd.R_slice HO_5.out
       (first | subst eo27 | (injection eo27 with f1_ f2_ f3_; have f4_ := f1_.symm; have f5_ := f3_.symm; clear f1_ f2_ f3_; subst f4_; subst f5_))
       have p430 : 0 ≤ (x8_3 : Int) := ydt
       have q430 : x8_3 < (x5_2.length : Int) := ydt
       obtain ⟨ad430, e430, hx430_0⟩ := Kd.at_int (Kd.Yr HO_5.out).2.2 x8_3 p430 q430
       cases e430
       replace p430 := eq_true p430
       replace q430 := eq_true q430
       have p25 : 0 ≤ (x8_3 : Int) := ydt
       have q25 : (x8_3 : Int) < ((x5_2.length : Int) : Int) := ydt
       obtain ⟨go25, co25, eo25, gb25, gl25, cl25, HG25⟩ := Kd.R_form HO_5.out (by omega)
       (first | cases eo25 | (injection eo25 with ea_ en_ ec_; (first | subst ea_ | (injection ea_ with ea_; subst ea_)); subst ec_; clear en_))
       have GB25 := yam gb25
       have GG25 := yam HG25
       clear gb25 gl25 HG25
       (first | simp only [add_plain] at hx430_0 | skip)
       obtain ⟨hx25_0, hf25_0⟩ := Kd.R_celln 0 HO_5.out (x8_3 : Int) p25 q25
       replace p25 := eq_true p25
       replace q25 := eq_true q25
       have HP28 := Kd.R_putn HO_5.out (x8_3 : Int) (Go.bits .and .i64 (rd x5_2 x8_3) (ji24))
       rw [← Ny431.out] at HP28
       have HQ28 := yam HP28
       clear HP28
       refine start_ (n := 9) (S := fun w' => w'.cell? ⟨go25, (x8_3).toNat, none⟩ = some (.int .i64 (rd x5_2 x8_3))) (ds := [8]) #[false, false, false, false, false, false, false, false, false] (by kernel_rfl) rfl rfl (hx430_0) (fun hHeld => ?_); refine with_tabW impl_NarrowHidden.tab19 impl_NarrowHidden.bits19 (fun HT_ HW_ => ?_)
       generalize wr.drew = w26 at HO_5 HO_30 HB GG25 HQ28 hf25_0 hx25_0 hx430_0 hHeld ⊢
       refine yvp 0 50 (yvb 9 1) HT_.out ?_
       refine yvp 1 51 (yvb 9 3) HT_.out ?_
       refine yvp 2 52 (yvb 9 7) HT_.out ?_
       refine yvp 4 54 (yvb 9 23) HT_.out ?_
       refine yvp 5 55 (yvb 9 55) HT_.out ?_
       refine yvt 3 53 (yvb 9 63) HT_.out HW_.out hHeld ?_
       refine yvp 6 56 (yvb 9 127) HT_.out ?_
       refine yvp 7 57 (yvb 9 255) HT_.out ?_
       refine last_ (i := 8) (N := none) #[true, true, true, true, true, true, true, true, true] rfl rfl (one_of HT_.out (by kernel_rfl)) (by decide) (fun K hK => ?_)
       refine skip_ (w1 := ?_) (by rfl) rfl ?_ ?_
       rotate_left
       ·go_simp
        rfl
       refine hK.out _ _ ?_
       clear hK K
       refine done_ (done_of HT_.out (by kernel_rfl)) ?_
       try go_wp2
       go_roundg k3
       case measure => have := HK1.out; have := HK2.out; have := HK3.out; omega
       case rel => exact ⟨(y431), (wrap64 (x7_2 + 1)), yeq, H', ⟨by have := HK1.out; have := HK2.out; have := HK3.out; omega⟩, ⟨by (with_reducible repeat (first | apply Kd.Ya | apply Kd.Yn | apply Kd.Yd)); exact Kd.R_mono HQ28.out (fun _ hk => trivial)⟩, ⟨yhb⟩⟩
def bits_OnesCount64.f (a0 : Int) : Option (Int) := some (Go.bits .and .i64 (wrap64 (IntKind.u64.wrap ((IntKind.u64.wrap ((IntKind.u64.wrap ((Go.bits .and .u64 (IntKind.u64.wrap (((IntKind.u64.wrap ((Go.bits .and .u64 ((IntKind.u64.wrap ((Go.bits .and .u64 (a0 / 2) 6148914691236517205) + (Go.bits .and .u64 a0 6148914691236517205))) / 4) 3689348814741910323) + (Go.bits .and .u64 (IntKind.u64.wrap ((Go.bits .and .u64 (a0 / 2) 6148914691236517205) + (Go.bits .and .u64 a0 6148914691236517205))) 3689348814741910323))) / 16) + (IntKind.u64.wrap ((Go.bits .and .u64 ((IntKind.u64.wrap ((Go.bits .and .u64 (a0 / 2) 6148914691236517205) + (Go.bits .and .u64 a0 6148914691236517205))) / 4) 3689348814741910323) + (Go.bits .and .u64 (IntKind.u64.wrap ((Go.bits .and .u64 (a0 / 2) 6148914691236517205) + (Go.bits .and .u64 a0 6148914691236517205))) 3689348814741910323))))) 1085102592571150095) + ((Go.bits .and .u64 (IntKind.u64.wrap (((IntKind.u64.wrap ((Go.bits .and .u64 ((IntKind.u64.wrap ((Go.bits .and .u64 (a0 / 2) 6148914691236517205) + (Go.bits .and .u64 a0 6148914691236517205))) / 4) 3689348814741910323) + (Go.bits .and .u64 (IntKind.u64.wrap ((Go.bits .and .u64 (a0 / 2) 6148914691236517205) + (Go.bits .and .u64 a0 6148914691236517205))) 3689348814741910323))) / 16) + (IntKind.u64.wrap ((Go.bits .and .u64 ((IntKind.u64.wrap ((Go.bits .and .u64 (a0 / 2) 6148914691236517205) + (Go.bits .and .u64 a0 6148914691236517205))) / 4) 3689348814741910323) + (Go.bits .and .u64 (IntKind.u64.wrap ((Go.bits .and .u64 (a0 / 2) 6148914691236517205) + (Go.bits .and .u64 a0 6148914691236517205))) 3689348814741910323))))) 1085102592571150095) / 256))) + ((IntKind.u64.wrap ((Go.bits .and .u64 (IntKind.u64.wrap (((IntKind.u64.wrap ((Go.bits .and .u64 ((IntKind.u64.wrap ((Go.bits .and .u64 (a0 / 2) 6148914691236517205) + (Go.bits .and .u64 a0 6148914691236517205))) / 4) 3689348814741910323) + (Go.bits .and .u64 (IntKind.u64.wrap ((Go.bits .and .u64 (a0 / 2) 6148914691236517205) + (Go.bits .and .u64 a0 6148914691236517205))) 3689348814741910323))) / 16) + (IntKind.u64.wrap ((Go.bits .and .u64 ((IntKind.u64.wrap ((Go.bits .and .u64 (a0 / 2) 6148914691236517205) + (Go.bits .and .u64 a0 6148914691236517205))) / 4) 3689348814741910323) + (Go.bits .and .u64 (IntKind.u64.wrap ((Go.bits .and .u64 (a0 / 2) 6148914691236517205) + (Go.bits .and .u64 a0 6148914691236517205))) 3689348814741910323))))) 1085102592571150095) + ((Go.bits .and .u64 (IntKind.u64.wrap (((IntKind.u64.wrap ((Go.bits .and .u64 ((IntKind.u64.wrap ((Go.bits .and .u64 (a0 / 2) 6148914691236517205) + (Go.bits .and .u64 a0 6148914691236517205))) / 4) 3689348814741910323) + (Go.bits .and .u64 (IntKind.u64.wrap ((Go.bits .and .u64 (a0 / 2) 6148914691236517205) + (Go.bits .and .u64 a0 6148914691236517205))) 3689348814741910323))) / 16) + (IntKind.u64.wrap ((Go.bits .and .u64 ((IntKind.u64.wrap ((Go.bits .and .u64 (a0 / 2) 6148914691236517205) + (Go.bits .and .u64 a0 6148914691236517205))) / 4) 3689348814741910323) + (Go.bits .and .u64 (IntKind.u64.wrap ((Go.bits .and .u64 (a0 / 2) 6148914691236517205) + (Go.bits .and .u64 a0 6148914691236517205))) 3689348814741910323))))) 1085102592571150095) / 256))) / 65536))) + ((IntKind.u64.wrap ((IntKind.u64.wrap ((Go.bits .and .u64 (IntKind.u64.wrap (((IntKind.u64.wrap ((Go.bits .and .u64 ((IntKind.u64.wrap ((Go.bits .and .u64 (a0 / 2) 6148914691236517205) + (Go.bits .and .u64 a0 6148914691236517205))) / 4) 3689348814741910323) + (Go.bits .and .u64 (IntKind.u64.wrap ((Go.bits .and .u64 (a0 / 2) 6148914691236517205) + (Go.bits .and .u64 a0 6148914691236517205))) 3689348814741910323))) / 16) + (IntKind.u64.wrap ((Go.bits .and .u64 ((IntKind.u64.wrap ((Go.bits .and .u64 (a0 / 2) 6148914691236517205) + (Go.bits .and .u64 a0 6148914691236517205))) / 4) 3689348814741910323) + (Go.bits .and .u64 (IntKind.u64.wrap ((Go.bits .and .u64 (a0 / 2) 6148914691236517205) + (Go.bits .and .u64 a0 6148914691236517205))) 3689348814741910323))))) 1085102592571150095) + ((Go.bits .and .u64 (IntKind.u64.wrap (((IntKind.u64.wrap ((Go.bits .and .u64 ((IntKind.u64.wrap ((Go.bits .and .u64 (a0 / 2) 6148914691236517205) + (Go.bits .and .u64 a0 6148914691236517205))) / 4) 3689348814741910323) + (Go.bits .and .u64 (IntKind.u64.wrap ((Go.bits .and .u64 (a0 / 2) 6148914691236517205) + (Go.bits .and .u64 a0 6148914691236517205))) 3689348814741910323))) / 16) + (IntKind.u64.wrap ((Go.bits .and .u64 ((IntKind.u64.wrap ((Go.bits .and .u64 (a0 / 2) 6148914691236517205) + (Go.bits .and .u64 a0 6148914691236517205))) / 4) 3689348814741910323) + (Go.bits .and .u64 (IntKind.u64.wrap ((Go.bits .and .u64 (a0 / 2) 6148914691236517205) + (Go.bits .and .u64 a0 6148914691236517205))) 3689348814741910323))))) 1085102592571150095) / 256))) + ((IntKind.u64.wrap ((Go.bits .and .u64 (IntKind.u64.wrap (((IntKind.u64.wrap ((Go.bits .and .u64 ((IntKind.u64.wrap ((Go.bits .and .u64 (a0 / 2) 6148914691236517205) + (Go.bits .and .u64 a0 6148914691236517205))) / 4) 3689348814741910323) + (Go.bits .and .u64 (IntKind.u64.wrap ((Go.bits .and .u64 (a0 / 2) 6148914691236517205) + (Go.bits .and .u64 a0 6148914691236517205))) 3689348814741910323))) / 16) + (IntKind.u64.wrap ((Go.bits .and .u64 ((IntKind.u64.wrap ((Go.bits .and .u64 (a0 / 2) 6148914691236517205) + (Go.bits .and .u64 a0 6148914691236517205))) / 4) 3689348814741910323) + (Go.bits .and .u64 (IntKind.u64.wrap ((Go.bits .and .u64 (a0 / 2) 6148914691236517205) + (Go.bits .and .u64 a0 6148914691236517205))) 3689348814741910323))))) 1085102592571150095) + ((Go.bits .and .u64 (IntKind.u64.wrap (((IntKind.u64.wrap ((Go.bits .and .u64 ((IntKind.u64.wrap ((Go.bits .and .u64 (a0 / 2) 6148914691236517205) + (Go.bits .and .u64 a0 6148914691236517205))) / 4) 3689348814741910323) + (Go.bits .and .u64 (IntKind.u64.wrap ((Go.bits .and .u64 (a0 / 2) 6148914691236517205) + (Go.bits .and .u64 a0 6148914691236517205))) 3689348814741910323))) / 16) + (IntKind.u64.wrap ((Go.bits .and .u64 ((IntKind.u64.wrap ((Go.bits .and .u64 (a0 / 2) 6148914691236517205) + (Go.bits .and .u64 a0 6148914691236517205))) / 4) 3689348814741910323) + (Go.bits .and .u64 (IntKind.u64.wrap ((Go.bits .and .u64 (a0 / 2) 6148914691236517205) + (Go.bits .and .u64 a0 6148914691236517205))) 3689348814741910323))))) 1085102592571150095) / 256))) / 65536))) / 4294967296)))) 127)
set_option maxHeartbeats 8000000 in
set_option maxRecDepth 100000 in
theorem bits_OnesCount64.calls (a0 : Int) (r : Int) (w : World) (h : bits_OnesCount64.f a0 = some r) :
  Calls Try.prog 87 #[.int .u64 a0] w fun e w' => e = .returned (.int .i64 r) ∧ Drawn0 w w' := by
 have H : (some (Go.bits .and .i64 (wrap64 (IntKind.u64.wrap ((IntKind.u64.wrap ((IntKind.u64.wrap ((Go.bits .and .u64 (IntKind.u64.wrap (((IntKind.u64.wrap ((Go.bits .and .u64 ((IntKind.u64.wrap ((Go.bits .and .u64 (a0 / 2) 6148914691236517205) + (Go.bits .and .u64 a0 6148914691236517205))) / 4) 3689348814741910323) + (Go.bits .and .u64 (IntKind.u64.wrap ((Go.bits .and .u64 (a0 / 2) 6148914691236517205) + (Go.bits .and .u64 a0 6148914691236517205))) 3689348814741910323))) / 16) + (IntKind.u64.wrap ((Go.bits .and .u64 ((IntKind.u64.wrap ((Go.bits .and .u64 (a0 / 2) 6148914691236517205) + (Go.bits .and .u64 a0 6148914691236517205))) / 4) 3689348814741910323) + (Go.bits .and .u64 (IntKind.u64.wrap ((Go.bits .and .u64 (a0 / 2) 6148914691236517205) + (Go.bits .and .u64 a0 6148914691236517205))) 3689348814741910323))))) 1085102592571150095) + ((Go.bits .and .u64 (IntKind.u64.wrap (((IntKind.u64.wrap ((Go.bits .and .u64 ((IntKind.u64.wrap ((Go.bits .and .u64 (a0 / 2) 6148914691236517205) + (Go.bits .and .u64 a0 6148914691236517205))) / 4) 3689348814741910323) + (Go.bits .and .u64 (IntKind.u64.wrap ((Go.bits .and .u64 (a0 / 2) 6148914691236517205) + (Go.bits .and .u64 a0 6148914691236517205))) 3689348814741910323))) / 16) + (IntKind.u64.wrap ((Go.bits .and .u64 ((IntKind.u64.wrap ((Go.bits .and .u64 (a0 / 2) 6148914691236517205) + (Go.bits .and .u64 a0 6148914691236517205))) / 4) 3689348814741910323) + (Go.bits .and .u64 (IntKind.u64.wrap ((Go.bits .and .u64 (a0 / 2) 6148914691236517205) + (Go.bits .and .u64 a0 6148914691236517205))) 3689348814741910323))))) 1085102592571150095) / 256))) + ((IntKind.u64.wrap ((Go.bits .and .u64 (IntKind.u64.wrap (((IntKind.u64.wrap ((Go.bits .and .u64 ((IntKind.u64.wrap ((Go.bits .and .u64 (a0 / 2) 6148914691236517205) + (Go.bits .and .u64 a0 6148914691236517205))) / 4) 3689348814741910323) + (Go.bits .and .u64 (IntKind.u64.wrap ((Go.bits .and .u64 (a0 / 2) 6148914691236517205) + (Go.bits .and .u64 a0 6148914691236517205))) 3689348814741910323))) / 16) + (IntKind.u64.wrap ((Go.bits .and .u64 ((IntKind.u64.wrap ((Go.bits .and .u64 (a0 / 2) 6148914691236517205) + (Go.bits .and .u64 a0 6148914691236517205))) / 4) 3689348814741910323) + (Go.bits .and .u64 (IntKind.u64.wrap ((Go.bits .and .u64 (a0 / 2) 6148914691236517205) + (Go.bits .and .u64 a0 6148914691236517205))) 3689348814741910323))))) 1085102592571150095) + ((Go.bits .and .u64 (IntKind.u64.wrap (((IntKind.u64.wrap ((Go.bits .and .u64 ((IntKind.u64.wrap ((Go.bits .and .u64 (a0 / 2) 6148914691236517205) + (Go.bits .and .u64 a0 6148914691236517205))) / 4) 3689348814741910323) + (Go.bits .and .u64 (IntKind.u64.wrap ((Go.bits .and .u64 (a0 / 2) 6148914691236517205) + (Go.bits .and .u64 a0 6148914691236517205))) 3689348814741910323))) / 16) + (IntKind.u64.wrap ((Go.bits .and .u64 ((IntKind.u64.wrap ((Go.bits .and .u64 (a0 / 2) 6148914691236517205) + (Go.bits .and .u64 a0 6148914691236517205))) / 4) 3689348814741910323) + (Go.bits .and .u64 (IntKind.u64.wrap ((Go.bits .and .u64 (a0 / 2) 6148914691236517205) + (Go.bits .and .u64 a0 6148914691236517205))) 3689348814741910323))))) 1085102592571150095) / 256))) / 65536))) + ((IntKind.u64.wrap ((IntKind.u64.wrap ((Go.bits .and .u64 (IntKind.u64.wrap (((IntKind.u64.wrap ((Go.bits .and .u64 ((IntKind.u64.wrap ((Go.bits .and .u64 (a0 / 2) 6148914691236517205) + (Go.bits .and .u64 a0 6148914691236517205))) / 4) 3689348814741910323) + (Go.bits .and .u64 (IntKind.u64.wrap ((Go.bits .and .u64 (a0 / 2) 6148914691236517205) + (Go.bits .and .u64 a0 6148914691236517205))) 3689348814741910323))) / 16) + (IntKind.u64.wrap ((Go.bits .and .u64 ((IntKind.u64.wrap ((Go.bits .and .u64 (a0 / 2) 6148914691236517205) + (Go.bits .and .u64 a0 6148914691236517205))) / 4) 3689348814741910323) + (Go.bits .and .u64 (IntKind.u64.wrap ((Go.bits .and .u64 (a0 / 2) 6148914691236517205) + (Go.bits .and .u64 a0 6148914691236517205))) 3689348814741910323))))) 1085102592571150095) + ((Go.bits .and .u64 (IntKind.u64.wrap (((IntKind.u64.wrap ((Go.bits .and .u64 ((IntKind.u64.wrap ((Go.bits .and .u64 (a0 / 2) 6148914691236517205) + (Go.bits .and .u64 a0 6148914691236517205))) / 4) 3689348814741910323) + (Go.bits .and .u64 (IntKind.u64.wrap ((Go.bits .and .u64 (a0 / 2) 6148914691236517205) + (Go.bits .and .u64 a0 6148914691236517205))) 3689348814741910323))) / 16) + (IntKind.u64.wrap ((Go.bits .and .u64 ((IntKind.u64.wrap ((Go.bits .and .u64 (a0 / 2) 6148914691236517205) + (Go.bits .and .u64 a0 6148914691236517205))) / 4) 3689348814741910323) + (Go.bits .and .u64 (IntKind.u64.wrap ((Go.bits .and .u64 (a0 / 2) 6148914691236517205) + (Go.bits .and .u64 a0 6148914691236517205))) 3689348814741910323))))) 1085102592571150095) / 256))) + ((IntKind.u64.wrap ((Go.bits .and .u64 (IntKind.u64.wrap (((IntKind.u64.wrap ((Go.bits .and .u64 ((IntKind.u64.wrap ((Go.bits .and .u64 (a0 / 2) 6148914691236517205) + (Go.bits .and .u64 a0 6148914691236517205))) / 4) 3689348814741910323) + (Go.bits .and .u64 (IntKind.u64.wrap ((Go.bits .and .u64 (a0 / 2) 6148914691236517205) + (Go.bits .and .u64 a0 6148914691236517205))) 3689348814741910323))) / 16) + (IntKind.u64.wrap ((Go.bits .and .u64 ((IntKind.u64.wrap ((Go.bits .and .u64 (a0 / 2) 6148914691236517205) + (Go.bits .and .u64 a0 6148914691236517205))) / 4) 3689348814741910323) + (Go.bits .and .u64 (IntKind.u64.wrap ((Go.bits .and .u64 (a0 / 2) 6148914691236517205) + (Go.bits .and .u64 a0 6148914691236517205))) 3689348814741910323))))) 1085102592571150095) + ((Go.bits .and .u64 (IntKind.u64.wrap (((IntKind.u64.wrap ((Go.bits .and .u64 ((IntKind.u64.wrap ((Go.bits .and .u64 (a0 / 2) 6148914691236517205) + (Go.bits .and .u64 a0 6148914691236517205))) / 4) 3689348814741910323) + (Go.bits .and .u64 (IntKind.u64.wrap ((Go.bits .and .u64 (a0 / 2) 6148914691236517205) + (Go.bits .and .u64 a0 6148914691236517205))) 3689348814741910323))) / 16) + (IntKind.u64.wrap ((Go.bits .and .u64 ((IntKind.u64.wrap ((Go.bits .and .u64 (a0 / 2) 6148914691236517205) + (Go.bits .and .u64 a0 6148914691236517205))) / 4) 3689348814741910323) + (Go.bits .and .u64 (IntKind.u64.wrap ((Go.bits .and .u64 (a0 / 2) 6148914691236517205) + (Go.bits .and .u64 a0 6148914691236517205))) 3689348814741910323))))) 1085102592571150095) / 256))) / 65536))) / 4294967296)))) 127)) = some r := h
 clear h
 obtain rfl := Option.some.inj H
 go_enter Try.func87, Try.ntmps87
 go_wp2
 go_ret
 exact ⟨yeq, by repeat (first | exact Drawn0.refl _ | apply Drawn0.step)⟩
def bits_OnesCount.f (a0 : Int) : Option (Int) := (bits_OnesCount64.f a0).bind fun t432 => (some t432)
set_option maxHeartbeats 8000000 in
set_option maxRecDepth 100000 in
theorem bits_OnesCount.calls (a0 : Int) (r : Int) (w : World) (h : bits_OnesCount.f a0 = some r) :
  Calls Try.prog 75 #[.int .u64 a0] w fun e w' => e = .returned (.int .i64 r) ∧ Drawn0 w w' := by
 have H : ((bits_OnesCount64.f a0).bind fun t432 => (some t432)) = some r := h
 clear h
 replace H := Option.bind_eq_some_iff.mp H
 obtain ⟨t432, A20, H⟩ := H
 try dsimp only at H
 have A2 := yam A20
 clear A20
 obtain rfl := Option.some.inj H
 go_enter Try.func75, Try.ntmps75
 go_wp2_with (first | ((with_reducible refine gate_callee (f := 87) rfl ?_); refine goesL_ (some 7) rfl rfl Try.func87 (by kernel_rfl) rfl #[.int .u64 a0] rfl (by (try simp only [List.map_toArray, List.map_cons, List.map_nil]); first | done | rfl | (simp only [List.length_drop, List.length_take]; rfl)) ?_; (with_reducible refine (bits_OnesCount64.calls a0 t432 _ A2.out).mono ?_); rintro e w' ⟨rfl, ⟨nd, rfl⟩⟩; refine ⟨_, rfl, ?_⟩))
 go_ret
 exact ⟨yeq, by repeat (first | exact Drawn0.refl _ | apply Drawn0.step)⟩
mutual
def impl_NarrowPairs.l0 : Nat → List Int → Int → List Int → Int → Int → Option (List Int)
 | 0, _, _, _, _, _ => none
 | k + 1, x0, x1, x5, x21, x22 => if x22 < x21 then ((impl_LineCells.f k x1 x22).bind fun t437 => (impl_NarrowPairs.l1 k x0 x1 x5 t437 x21 x22 t437 (t437.length : Int) 0)) else (some x5)
def impl_NarrowPairs.l1 : Nat → List Int → Int → List Int → List Int → Int → Int → List Int → Int → Int → Option (List Int)
 | 0, _, _, _, _, _, _, _, _, _ => none
 | k + 1, x0, x1, x5, x7, x21, x22, x28, x29, x30 => if x30 < x29 then (if 0 ≤ x30 then (if x30 < (x28.length : Int) then (if 0 ≤ (wrap64 (x30 + 1)) then (if (wrap64 (x30 + 1)) ≤ (x7.length : Int) then ((some (x7.drop ((wrap64 (x30 + 1)) : Int).toNat : List Int)).bind fun y441 => (impl_NarrowPairs.l2 k x0 x1 x5 x7 (rd x28 x30) x21 x22 x28 x29 x30 y441 (y441.length : Int) 0)) else (none)) else (none)) else (none)) else (none)) else (impl_NarrowPairs.l0 k x0 x1 x5 x21 (wrap64 (x22 + 1)))
def impl_NarrowPairs.l2 : Nat → List Int → Int → List Int → List Int → Int → Int → Int → List Int → Int → Int → List Int → Int → Int → Option (List Int)
 | 0, _, _, _, _, _, _, _, _, _, _, _, _, _ => none
 | k + 1, x0, x1, x5, x7, x9, x21, x22, x28, x29, x30, x38, x39, x40 => if x40 < x39 then (if 0 ≤ x40 then (if x40 < (x38.length : Int) then (if 0 ≤ x9 then (if x9 < (x0.length : Int) then (if 0 ≤ (rd x38 x40) then (if (rd x38 x40) < (x0.length : Int) then (if (rd x0 x9) = (rd x0 (rd x38 x40)) then ((bits_OnesCount.f (IntKind.u64.wrap (rd x0 x9))).bind fun t449 => (impl_NarrowPairs.j3 k x0 x1 x5 x7 x9 (rd x38 x40) x21 x22 x28 x29 x30 x38 x39 x40 (t449 != 2))) else (impl_NarrowPairs.j3 k x0 x1 x5 x7 x9 (rd x38 x40) x21 x22 x28 x29 x30 x38 x39 x40 true)) else (none)) else (none)) else (none)) else (none)) else (none)) else (none)) else (impl_NarrowPairs.l1 k x0 x1 x5 x7 x21 x22 x28 x29 (wrap64 (x30 + 1)))
def impl_NarrowPairs.j3 : Nat → List Int → Int → List Int → List Int → Int → Int → Int → Int → List Int → Int → Int → List Int → Int → Int → Bool → Option (List Int)
 | 0, _, _, _, _, _, _, _, _, _, _, _, _, _, _, _ => none
 | k + 1, x0, x1, x5, x7, x9, x11, x21, x22, x28, x29, x30, x38, x39, x40, x61 => if x61 = true then (impl_NarrowPairs.l2 k x0 x1 x5 x7 x9 x21 x22 x28 x29 x30 x38 x39 (wrap64 (x40 + 1))) else (impl_NarrowPairs.l3 k x0 x1 x5 x7 x9 x11 x21 x22 x28 x29 x30 x38 x39 x40 x7 (x7.length : Int) 0)
def impl_NarrowPairs.l3 : Nat → List Int → Int → List Int → List Int → Int → Int → Int → Int → List Int → Int → Int → List Int → Int → Int → List Int → Int → Int → Option (List Int)
 | 0, _, _, _, _, _, _, _, _, _, _, _, _, _, _, _, _, _ => none
 | k + 1, x0, x1, x5, x7, x9, x11, x21, x22, x28, x29, x30, x38, x39, x40, x62, x63, x64 => if x64 < x63 then (if 0 ≤ x64 then (if x64 < (x62.length : Int) then (if (rd x62 x64) = x9 then (impl_NarrowPairs.l3 k x0 x1 x5 x7 x9 x11 x21 x22 x28 x29 x30 x38 x39 x40 x62 x63 (wrap64 (x64 + 1))) else (if (rd x62 x64) = x11 then (impl_NarrowPairs.l3 k x0 x1 x5 x7 x9 x11 x21 x22 x28 x29 x30 x38 x39 x40 x62 x63 (wrap64 (x64 + 1))) else (if 0 ≤ (rd x62 x64) then (if (rd x62 x64) < (x5.length : Int) then (if 0 ≤ x9 then (if x9 < (x0.length : Int) then (impl_NarrowPairs.l3 k x0 x1 (x5.set ((rd x62 x64) : Int).toNat (Go.bits .andNot .i64 (rd x5 (rd x62 x64)) (rd x0 x9))) x7 x9 x11 x21 x22 x28 x29 x30 x38 x39 x40 x62 x63 (wrap64 (x64 + 1))) else (none)) else (none)) else (none)) else (none)))) else (none)) else (none)) else (impl_NarrowPairs.l2 k x0 x1 x5 x7 x9 x21 x22 x28 x29 x30 x38 x39 (wrap64 (x40 + 1)))
end
def impl_NarrowPairs.f (k : Nat) (l0 : List Int) (a1 : Int) : Option (List Int) := (impl_MasksValid.f k l0 a1).bind fun t433 => (if t433 = true then ((slices_Clone_int_int.f l0).bind fun t434 => (impl_NarrowPairs.l0 k l0 a1 t434 (wrap64 (2 * a1)) 0)) else (some ([] : List Int)))
def impl_NarrowPairs.T14 : Bool × List (List Nat × List Nat) := (true, [([], []), ([], []), ([0, 1], [0, 1]), ([2], [2]), ([], []), ([], []), ([4, 5], [4, 5]), ([6], [6]), ([3, 7], [3, 7]), ([8], [8]), ([9], [9]), ([9], [9]), ([10, 11, 9], [9, 10, 11]), ([12, 9], [9, 12]), ([13, 9], [9, 13]), ([14, 9, 9], [9, 14]), ([15, 9], [9, 15]), ([9, 16], [9, 16])])
def impl_NarrowPairs.B14 : List Nat := [0, 0, 3, 7, 0, 0, 48, 112, 255, 511, 1023, 1023, 4095, 8191, 16383, 32767, 65535, 131071]
theorem impl_NarrowPairs.tab14 : rtab .any (opsOf Try.f60 14) = impl_NarrowPairs.T14 := by kernel_rfl
theorem impl_NarrowPairs.bits14 : waitsOk impl_NarrowPairs.T14.2 impl_NarrowPairs.B14 = true := by kernel_rfl
def impl_NarrowPairs.T19 : Bool × List (List Nat × List Nat) := (true, [([], []), ([], []), ([0, 1], [0, 1]), ([2], [2]), ([], []), ([], []), ([4, 5], [4, 5]), ([6], [6]), ([3, 7], [3, 7]), ([0, 1, 0, 1, 2, 3, 4, 5, 6, 7, 8], [0, 1]), ([9, 8, 0, 1, 2, 3, 4, 5, 6, 7, 8], [8, 9])])
def impl_NarrowPairs.B19 : List Nat := [0, 0, 3, 7, 0, 0, 48, 112, 255, 511, 1023]
theorem impl_NarrowPairs.tab19 : rtab .any (opsOf Try.f60 19) = impl_NarrowPairs.T19 := by kernel_rfl
theorem impl_NarrowPairs.bits19 : waitsOk impl_NarrowPairs.T19.2 impl_NarrowPairs.B19 = true := by kernel_rfl
set_option maxHeartbeats 8000000 in
set_option maxRecDepth 100000 in
theorem impl_NarrowPairs.calls (k : Nat) (A0 : Option Addr) (c0 : Nat) (l0 : List Int) (a1 : Int) (r : List Int) (w : World) (hr0 : Kd.C (Kd.int .i64) w A0 l0.length l0) (hc0 : l0.length ≤ c0) (h : impl_NarrowPairs.f k l0 a1 = some r) :
  Calls Try.prog 60 #[.slice A0 l0.length c0, .int .i64 a1] w fun e w' => ∃ v0_ : Value, e = .returned (v0_) ∧ Kd.R (Kd.int .i64) 3 w' w.heap.size (fun _ => True) v0_ r ∧ Below w.heap.size w w' := by
 have HR0 := yam hr0
 have HC0 := yam hc0
 clear hr0 hc0
 have HB := yam (Below.refl w.heap.size w)
 have H : ((impl_MasksValid.f k l0 a1).bind fun t433 => (if t433 = true then ((slices_Clone_int_int.f l0).bind fun t434 => (impl_NarrowPairs.l0 k l0 a1 t434 (wrap64 (2 * a1)) 0)) else (some ([] : List Int)))) = some r := h
 clear h
 replace H := Option.bind_eq_some_iff.mp H
 obtain ⟨t433, A30, H⟩ := H
 try dsimp only at H
 have A3 := yam A30
 clear A30
 by_cases c4 : t433 = true
 rotate_left
 ·replace c4 := Bool.eq_false_iff.mpr c4
  subst c4
  have H1 : (some ([] : List Int)) = some r := by rw [if_neg (show ¬ (false = true) by decide)] at H; exact H
  clear H
  have H := H1
  clear H1
  obtain rfl := Option.some.inj H
  go_enter Try.func60, Try.ntmps60
  go_wp2_with (first | ((with_reducible refine gate_callee (f := 63) rfl ?_); refine goesL_ (some 16) rfl rfl Try.func63 (by kernel_rfl) rfl #[.slice A0 l0.length c0, .int .i64 a1] rfl (by (try simp only [List.map_toArray, List.map_cons, List.map_nil]); first | done | rfl | (simp only [List.length_drop, List.length_take]; rfl)) ?_; (with_reducible refine (impl_MasksValid.calls k _ _ l0 a1 false _ ?side1 ?side2 A3.out).mono ?_); (case side1 => exact Kd.Cz (HR0.out)); (case side2 => exact HC0.out); rintro e w' ⟨rfl, ⟨nd, rfl⟩⟩; refine ⟨_, rfl, ?_⟩))
  go_ret
  exact ⟨_, yer, by first | exact Kd.R_nil _ _ _ _ _ | exact Kd.N_nil _ _ _ _ _ | exact Kd.V_nil _ _ _ _ _ | exact Kd.Q_nil _ _ _ _ _ | exact Kd.S_nil _ _ _ _ _, yhb⟩

 subst c4
 have H1 : ((slices_Clone_int_int.f l0).bind fun t434 => (impl_NarrowPairs.l0 k l0 a1 t434 (wrap64 (2 * a1)) 0)) = some r := by rw [if_pos rfl] at H; exact H
 clear H
 have H := H1
 clear H1
 replace H := Option.bind_eq_some_iff.mp H
 obtain ⟨t434, A50, H⟩ := H
 try dsimp only at H
 have A5 := yam A50
 clear A50
 have H' := yam H
 clear H
 go_enter Try.func60, Try.ntmps60
 go_wp2_with (first | ((with_reducible refine gate_callee (f := 63) rfl ?_); refine goesL_ (some 16) rfl rfl Try.func63 (by kernel_rfl) rfl #[.slice A0 l0.length c0, .int .i64 a1] rfl (by (try simp only [List.map_toArray, List.map_cons, List.map_nil]); first | done | rfl | (simp only [List.length_drop, List.length_take]; rfl)) ?_; (with_reducible refine (impl_MasksValid.calls k _ _ l0 a1 true _ ?side1 ?side2 A3.out).mono ?_); (case side1 => exact Kd.Cz (HR0.out)); (case side2 => exact HC0.out); rintro e w' ⟨rfl, ⟨nd, rfl⟩⟩; refine ⟨_, rfl, ?_⟩) | ((with_reducible refine gate_callee (f := 64) rfl ?_); refine goesL_ (some 19) rfl rfl Try.func64 (by kernel_rfl) rfl #[.slice A0 l0.length c0] rfl (by (try simp only [List.map_toArray, List.map_cons, List.map_nil]); first | done | rfl | (simp only [List.length_drop, List.length_take]; rfl)) ?_; (with_reducible refine (slices_Clone_int_int.calls _ _ l0 t434 _ ?side1 ?side2 A5.out).mono ?_); (case side1 => exact Kd.Cz (HR0.out)); (case side2 => exact HC0.out); rintro e w6 ⟨v435, rfl, ho0, hb⟩; refine ⟨_, rfl, ?_⟩; have n0_ := yam (Kd.R_lower ho0 (below_size (yez HB.out))); have n1_ := yam (below_step (yez HB.out) hb); clear HB; have HO436 := n0_; have HB := n1_; clear n0_ n1_; (try clear hb); (try clear hb2); (try clear hk); (try clear hi); (try clear ho0)))
 go_loopg [22] k (fun kq v22 w' => ∃ (x5_1 : List Int) (x22_1 : Int), v22 = .int .i64 x22_1 ∧ Aside0 (impl_NarrowPairs.l0 kq l0 a1 x5_1 (wrap64 (2 * a1)) x22_1 = some r) ∧ Aside0 (kq ≤ k) ∧ Aside0 (Kd.R (Kd.int .i64) 3 w' w.heap.size (fun _ => True) v435 x5_1) ∧ Aside0 (Below w.heap.size w w'))
 case atStart => exact ⟨(t434), (0), yeq, H', ⟨Nat.le_refl _⟩, ⟨yka HO436.out⟩, ⟨yhb⟩⟩
 case round =>
  clear H'
  try clear p2
  try clear c4
  try clear c6
  try clear p6
  obtain ⟨x5_1, x22_1, rfl, HA, HK1, HO_5, HB⟩ := hrel
  cases gk with
  | zero => exact absurd HA.out (by simp [impl_NarrowPairs.l0])
  | succ k1 =>
   have H := HA.out
   clear HA
   simp only [impl_NarrowPairs.l0] at H
   by_cases c7 : x22_1 < (wrap64 (2 * a1))
   rotate_left
   ·rw [if_neg c7] at H
    have c7b0 : decide (x22_1 < (wrap64 (2 * a1))) = false := decide_eq_false c7
    clear c7
    obtain rfl := Option.some.inj H
    go_wp2
    go_ret
    exact ⟨_, yer, yka HO_5.out, yhb⟩
   rw [if_pos c7] at H
   have c7b0 : decide (x22_1 < (wrap64 (2 * a1))) = true := decide_eq_true c7
   clear c7
   replace H := Option.bind_eq_some_iff.mp H
   obtain ⟨t437, A80, H⟩ := H
   try dsimp only at H
   have A8 := yam A80
   clear A80
   have H' := yam H
   clear H
   go_wp2_with (first | ((with_reducible refine gate_callee (f := 82) rfl ?_); refine goesL_ (some 27) rfl rfl Try.func82 (by kernel_rfl) rfl #[.int .i64 a1, .int .i64 x22_1] rfl (by (try simp only [List.map_toArray, List.map_cons, List.map_nil]); first | done | rfl | (simp only [List.length_drop, List.length_take]; rfl)) ?_; (with_reducible refine (impl_LineCells.calls k1 a1 x22_1 t437 _ A8.out).mono ?_); rintro e w9 ⟨v438, rfl, ho0, hb⟩; refine ⟨_, rfl, ?_⟩; have n0_ := yam (Kd.Ye (Kd.Yz HO_5.out) (Kd.Yb ho0) hb); have n1_ := yam (Kd.R_lower (Kd.Yw ho0 (Kd.R_lt (Kd.Yz HO_5.out))) (below_size (yez HB.out))); have n2_ := yam (below_step (yez HB.out) hb); clear HO_5; clear HB; have HO_5 := n0_; have HO439 := n1_; have HB := n2_; clear n0_ n1_ n2_; (try clear hb); (try clear hb2); (try clear hk); (try clear hi); (try clear ho0); obtain ⟨Ao10, co10, eo10⟩ := Kd.R_slice HO439.out; subst eo10))
   go_loopg [30] k1 (fun kq v30 w' => ∃ (x5_2 : List Int) (x30_2 : Int), v30 = .int .i64 x30_2 ∧ Aside0 (impl_NarrowPairs.l1 kq l0 a1 x5_2 t437 (wrap64 (2 * a1)) x22_1 t437 (t437.length : Int) x30_2 = some r) ∧ Aside0 (kq ≤ k1) ∧ Aside0 (Kd.R (Kd.int .i64) 3 w' w.heap.size (fun k_ => some k_ ≠ ((.slice Ao10 t437.length co10) : Value).ownBlock ∧ some k_ ≠ ((.slice Ao10 t437.length co10) : Value).ownBlock) v435 x5_2) ∧ Aside0 (Kd.R (Kd.int .i64) 3 w' w.heap.size (fun k_ => some k_ ≠ (v435 : Value).ownBlock) (.slice Ao10 t437.length co10) t437) ∧ Aside0 (Kd.R (Kd.int .i64) 3 w' w.heap.size (fun k_ => some k_ ≠ (v435 : Value).ownBlock) (.slice Ao10 t437.length co10) t437) ∧ Aside0 (Below w.heap.size w w'))
   case atStart => exact ⟨(x5_1), (0), yeq, H', ⟨Nat.le_refl _⟩, ⟨by (with_reducible repeat (first | apply Kd.Ya | apply Kd.Yn | apply Kd.Yd)); exact Kd.R_mono HO_5.out (fun _ hk => ⟨hk.2, hk.2⟩)⟩, ⟨by (with_reducible repeat (first | apply Kd.Ya | apply Kd.Yn | apply Kd.Yd)); exact Kd.R_mono HO439.out (fun _ hk => hk.2)⟩, ⟨by (with_reducible repeat (first | apply Kd.Ya | apply Kd.Yn | apply Kd.Yd)); exact Kd.R_mono HO439.out (fun _ hk => hk.2)⟩, ⟨yhb⟩⟩
   case round =>
    clear H'
    try clear p2
    try clear c4
    try clear c6
    try clear p6
    try clear c7
    try clear c7b0
    try clear c8
    try clear p2
    try clear p6
    obtain ⟨x5_2, x30_2, rfl, HA, HK2, HO_5, HO_7, HO_28, HB⟩ := hrel
    cases gk with
    | zero => exact absurd HA.out (by simp [impl_NarrowPairs.l1])
    | succ k2 =>
     have H := HA.out
     clear HA
     simp only [impl_NarrowPairs.l1] at H
     by_cases c11 : x30_2 < (t437.length : Int)
     rotate_left
     ·rw [if_neg c11] at H
      have c11b0 : decide (x30_2 < (t437.length : Int)) = false := decide_eq_false c11
      clear c11
      have H' := yam H
      clear H
      go_wp2
      go_roundg k2
      case measure => have := HK1.out; have := HK2.out; omega
      case rel => exact ⟨(x5_2), (wrap64 (x22_1 + 1)), yeq, H', ⟨by have := HK1.out; have := HK2.out; omega⟩, ⟨by (with_reducible repeat (first | apply Kd.Ya | apply Kd.Yn | apply Kd.Yd)); exact Kd.R_mono HO_5.out (fun _ hk => trivial)⟩, ⟨yhb⟩⟩
     rw [if_pos c11] at H
     have c11b0 : decide (x30_2 < (t437.length : Int)) = true := decide_eq_true c11
     clear c11
     replace H := yif H
     obtain ⟨c12b0, H⟩ := H
     replace H := yif H
     obtain ⟨c13b0, H⟩ := H
     obtain ⟨ji14, hji14⟩ : ∃ j_ : Int, (wrap64 (x30_2 + 1)) = j_ := ⟨_, rfl⟩
     replace H : (if 0 ≤ (ji14) then (if (ji14) ≤ (t437.length : Int) then ((some (t437.drop ((ji14) : Int).toNat : List Int)).bind fun y441 => (impl_NarrowPairs.l2 k2 l0 a1 x5_2 t437 (rd t437 x30_2) (wrap64 (2 * a1)) x22_1 t437 (t437.length : Int) x30_2 y441 (y441.length : Int) 0)) else (none)) else (none)) = some r := by first | (rw [hji14] at H; exact H) | (simp only [hji14] at H ⊢; exact H)
     have hji14w : (IntKind.i64.wrap (x30_2 + 1)) = ji14 := (i64_w _).trans hji14
     replace H := yig H
     obtain ⟨c15, H⟩ := H
     have c15b0 := eq_true c15
     have c15b1 : decide (0 ≤ (ji14)) = true := decide_eq_true c15
     clear c15
     replace H := yig H
     obtain ⟨c16, H⟩ := H
     have c16b0 := eq_true c16
     have c16b1 : decide ((ji14) ≤ (t437.length : Int)) = true := decide_eq_true c16
     clear c16
     obtain ⟨y441, hy441⟩ : ∃ y_ : List Int, y_ = (t437.drop ((ji14) : Int).toNat) := ⟨_, rfl⟩
     replace H : (impl_NarrowPairs.l2 k2 l0 a1 x5_2 t437 (rd t437 x30_2) (wrap64 (2 * a1)) x22_1 t437 (t437.length : Int) x30_2 y441 (y441.length : Int) 0) = some r := by first | (rw [hy441]; with_reducible exact H) | (have H2_ := (Option.bind_some _ _).symm.trans H; rw [hy441]; with_reducible exact H2_) | (have H2_ := (Option.bind_some _ _).symm.trans H; with_reducible exact H2_) | with_reducible exact H | (rw [hy441]; exact H) | exact H
     have Ny441 := yam hy441
     clear hy441
     have H' := yam H
     clear H
     have p440 : 0 ≤ (x30_2 : Int) := ydt
     have q440 : x30_2 < (t437.length : Int) := ydt
     obtain ⟨ad440, e440, hx440_0⟩ := Kd.at_int (Kd.Yr HO_28.out).2.2 x30_2 p440 q440
     cases e440
     replace p440 := eq_true p440
     replace q440 := eq_true q440
     have q17 : ((ji14) : Int) ≤ ((t437.length : Int) : Int) := ydt
     obtain ⟨i017, hi017, _, hsz17, _⟩ := info_parts info3
     have hroom17 : t437.length ≤ co10 := (Kd.Yr HO_7.out).2.1
     have hC17 : Kd.C (Kd.int .i64) _ (some ad440) t437.length t437 := (Kd.Yr HO_7.out).2.2
     have q017 : (0 : Int) ≤ ((ji14) : Int) := ydt
     have hcut17 := cut_from (P := Try.prog) 22 3 .i64 Try.underlying22 hi017 1 hsz17 (some ad440) t437.length co10 (ji14) q017 q17
     have hr17 := Kd.C_drop (m := ((ji14) : Int).toNat) (c := co10) hC17 (by omega) hroom17
     obtain ⟨A17, hA17⟩ : ∃ A1, A1 = (if co10 = ((ji14) : Int).toNat then (some ad440) else ((some ad440) : Option Addr).map (·.add (((ji14) : Int).toNat * 1))) := ⟨_, rfl⟩
     obtain ⟨c17, hc17⟩ : ∃ c1, c1 = co10 - ((ji14) : Int).toNat := ⟨_, rfl⟩
     have hy17 : y441.length = t437.length - ((ji14) : Int).toNat := (by rw [Ny441.out, List.length_drop] <;> omega)
     rw [show (t437).drop ((ji14) : Int).toNat = y441 from Ny441.out.symm] at hr17
     replace hr17 : Kd.C (Kd.int .i64) _ A17 y441.length y441 := (by rw [hA17]; exact hr17)
     rw [← hy17, ← hA17, ← hc17] at hcut17
     have HR444 := yam hr17
     have HC444 := yam (show y441.length ≤ c17 from by rw [hy17, hc17]; exact Nat.sub_le_sub_right hroom17 _)
     clear hr17 hC17 hroom17 hi017 hsz17 hc17
     have KY17 := yam hy17
     have KA17 := yam hA17
     clear hy17 hA17
     have KL17 := yam (show ((ji14) : Int).toNat ≤ t437.length from by omega)
     replace q17 := eq_true q17
     go_wp2
     go_loopg [40] k2 (fun kq v40 w' => ∃ (x5_3 : List Int) (x40_3 : Int), v40 = .int .i64 x40_3 ∧ Aside0 (impl_NarrowPairs.l2 kq l0 a1 x5_3 t437 (rd t437 x30_2) (wrap64 (2 * a1)) x22_1 t437 (t437.length : Int) x30_2 y441 (y441.length : Int) x40_3 = some r) ∧ Aside0 (kq ≤ k2) ∧ Aside0 (Kd.R (Kd.int .i64) 3 w' w.heap.size (fun k_ => some k_ ≠ ((.slice (some ad440) t437.length co10) : Value).ownBlock ∧ some k_ ≠ ((.slice (some ad440) t437.length co10) : Value).ownBlock) v435 x5_3) ∧ Aside0 (Kd.R (Kd.int .i64) 3 w' w.heap.size (fun k_ => some k_ ≠ (v435 : Value).ownBlock) (.slice (some ad440) t437.length co10) t437) ∧ Aside0 (Kd.R (Kd.int .i64) 3 w' w.heap.size (fun k_ => some k_ ≠ (v435 : Value).ownBlock) (.slice (some ad440) t437.length co10) t437) ∧ Aside0 (Kd.C (Kd.int .i64) w' A17 y441.length y441) ∧ Aside0 (Below w.heap.size w w'))
     case atStart => exact ⟨(x5_2), (0), yeq, H', ⟨Nat.le_refl _⟩, ⟨yka HO_5.out⟩, ⟨yka HO_7.out⟩, ⟨yka HO_28.out⟩, ⟨by repeat (first | (with_reducible exact HR444.out) | (with_reducible refine Kd.C_alloc ?_ _) | (with_reducible refine Kd.C_drewN ?_ _) | (with_reducible refine Kd.C_drew ?_) | exact HR444.out)⟩, ⟨yhb⟩⟩
     case round =>
      clear H'
      try clear c1
      try clear q1
      try clear p2
      try clear c4
      try clear p4
      try clear q4
      try clear hx4
      try clear c6
      try clear p6
      try clear c7
      try clear c7b0
      try clear c8
      try clear c11
      try clear c11b0
      try clear c12
      try clear c12b0
      try clear c13
      try clear c13b0
      try clear c15
      try clear c15b0
      try clear c15b1
      try clear c16
      try clear c16b0
      try clear c16b1
      try clear c17
      try clear q17
      try clear hx440_0
      try clear p2
      try clear p440
      try clear p6
      try clear q017
      try clear q17
      try clear q440
      obtain ⟨x5_3, x40_3, rfl, HA, HK3, HO_5, HO_7, HO_28, HR444, HB⟩ := hrel
      cases gk with
      | zero => exact absurd HA.out (by simp [impl_NarrowPairs.l2])
      | succ k3 =>
       have H := HA.out
       clear HA
       simp only [impl_NarrowPairs.l2] at H
       by_cases c18 : x40_3 < (y441.length : Int)
       rotate_left
       ·rw [if_neg c18] at H
        have c18b0 : decide (x40_3 < (y441.length : Int)) = false := decide_eq_false c18
        clear c18
        have H' := yam H
        clear H
        go_wp2
        go_roundg k3
        case measure => have := HK1.out; have := HK2.out; have := HK3.out; omega
        case rel => exact ⟨(x5_3), (wrap64 (x30_2 + 1)), yeq, H', ⟨by have := HK1.out; have := HK2.out; have := HK3.out; omega⟩, ⟨yka HO_5.out⟩, ⟨yka HO_7.out⟩, ⟨yka HO_28.out⟩, ⟨yhb⟩⟩
       rw [if_pos c18] at H
       have c18b0 : decide (x40_3 < (y441.length : Int)) = true := decide_eq_true c18
       clear c18
       replace H := yif H
       obtain ⟨c19b0, H⟩ := H
       replace H := yif H
       obtain ⟨c20b0, H⟩ := H
       have HC21 := yam H
       clear H
       have p445 : 0 ≤ (x40_3 : Int) := ydt
       have q445 : x40_3 < (y441.length : Int) := ydt
       obtain ⟨ad445, e445, hx445_0⟩ := Kd.at_int (by repeat (first | (with_reducible exact HR444.out) | (with_reducible refine Kd.C_alloc ?_ _) | (with_reducible refine Kd.C_drewN ?_ _) | (with_reducible refine Kd.C_drew ?_) | exact HR444.out)) x40_3 p445 q445
       cases e445
       replace p445 := eq_true p445
       replace q445 := eq_true q445
       go_upto_region 14 with (fail)
       go_cut [61] (fun v61 wc => ∃ (kq : Nat) (x61_20 : Bool), v61 = .bool x61_20 ∧ Aside0 (impl_NarrowPairs.j3 kq l0 a1 x5_3 t437 (rd t437 x30_2) (rd y441 x40_3) (wrap64 (2 * a1)) x22_1 t437 (t437.length : Int) x30_2 y441 (y441.length : Int) x40_3 x61_20 = some r) ∧ Aside0 (kq ≤ k3) ∧ Aside0 (Kd.R (Kd.int .i64) 3 wc w.heap.size (fun k_ => some k_ ≠ ((.slice (some ad440) t437.length co10) : Value).ownBlock ∧ some k_ ≠ ((.slice (some ad440) t437.length co10) : Value).ownBlock) v435 x5_3) ∧ Aside0 (Kd.R (Kd.int .i64) 3 wc w.heap.size (fun k_ => some k_ ≠ (v435 : Value).ownBlock) (.slice (some ad440) t437.length co10) t437) ∧ Aside0 (Kd.R (Kd.int .i64) 3 wc w.heap.size (fun k_ => some k_ ≠ (v435 : Value).ownBlock) (.slice (some ad440) t437.length co10) t437) ∧ Aside0 (Kd.C (Kd.int .i64) wc (some ad445) y441.length y441) ∧ Aside0 (Below w.heap.size w wc))
       case first =>
        have H := HC21.out
        clear HC21
        replace H := yif H
        obtain ⟨c22b0, H⟩ := H
        (first | rw [c22b0] | (simp only [i64_w, i32_w]; rw [c22b0]) | skip)
        replace H := yif H
        obtain ⟨c23b0, H⟩ := H
        replace H := yif H
        obtain ⟨c24b0, H⟩ := H
        replace H := yif H
        obtain ⟨c25b0, H⟩ := H
        by_cases c26 : (rd l0 (rd t437 x30_2)) = (rd l0 (rd y441 x40_3))
        rotate_left
        ·rw [if_neg c26] at H
         have c26b0 : ((rd l0 (rd t437 x30_2)) == (rd l0 (rd y441 x40_3))) = false := beq_eq_false_iff_ne.mpr c26
         have c26b1 : ((rd l0 (rd t437 x30_2)) != (rd l0 (rd y441 x40_3))) = true := bne_iff_ne.mpr c26
         have H' := yam H
         clear H
         try go_wp2
         have n0_ := yam (Kd.Yd HO_5.out)
         have n1_ := yam (Kd.Yd HO_7.out)
         have n2_ := yam (Kd.Yd HO_28.out)
         have n3_ := yam (Kd.C_drew HR444.out)
         have n4_ := yam (yed HB.out)
         clear HO_5
         clear HO_7
         clear HO_28
         clear HR444
         clear HB
         have HO_5 := n0_
         have HO_7 := n1_
         have HO_28 := n2_
         have HR444 := n3_
         have HB := n4_
         clear n0_ n1_ n2_ n3_ n4_
         have p446 : 0 ≤ ((rd t437 x30_2) : Int) := ydt
         have q446 : (rd t437 x30_2) < (l0.length : Int) := ydt
         obtain ⟨ad446, e446, hx446_0⟩ := Kd.at_int HR0.out (rd t437 x30_2) p446 q446
         have hw446_0 := hx446_0
         cases e446
         replace hx446_0 := ybx HB.out hx446_0
         replace p446 := eq_true p446
         replace q446 := eq_true q446
         have p447 : 0 ≤ ((rd y441 x40_3) : Int) := ydt
         have q447 : (rd y441 x40_3) < (l0.length : Int) := ydt
         obtain ⟨ad447, e447, hx447_0⟩ := Kd.at_int HR0.out (rd y441 x40_3) p447 q447
         have hw447_0 := hx447_0
         obtain rfl : ad446 = ad447 := (by injection e447)
         replace hx447_0 := ybx HB.out hx447_0
         replace p447 := eq_true p447
         replace q447 := eq_true q447
         refine start_ (n := 18) (S := fun w' => w'.cell? (ad446.add ((rd t437 x30_2)).toNat) = some (.int .i64 (rd l0 (rd t437 x30_2))) ∧ w'.cell? (ad446.add ((rd y441 x40_3)).toNat) = some (.int .i64 (rd l0 (rd y441 x40_3)))) (ds := []) #[false, false, false, false, false, false, false, false, false, false, false, false, false, false, false, false, false, false] (by kernel_rfl) rfl rfl ⟨((HB.out.cell (World.block_lt_of_cell? w _ hw446_0)).trans hw446_0), ((HB.out.cell (World.block_lt_of_cell? w _ hw447_0)).trans hw447_0)⟩ (fun hHeld => ?_); refine with_tabW impl_NarrowPairs.tab14 impl_NarrowPairs.bits14 (fun HT_ HW_ => ?_)
         generalize wr.drew = w29 at HO_5 HO_7 HO_28 HR444 HB hx446_0 hx447_0 hHeld ⊢
         refine yvp 0 44 (yvb 18 1) HT_.out ?_
         refine yvp 1 45 (yvb 18 3) HT_.out ?_
         refine yvp 2 46 (yvb 18 7) HT_.out ?_
         refine yvp 4 48 (yvb 18 23) HT_.out ?_
         refine yvp 5 49 (yvb 18 55) HT_.out ?_
         refine yvp 6 50 (yvb 18 119) HT_.out ?_
         refine yvt 3 47 (yvb 18 127) HT_.out HW_.out hHeld ?_
         refine yvt 7 51 (yvb 18 255) HT_.out HW_.out hHeld ?_
         refine yvp 8 52 (yvb 18 511) HT_.out ?_
         refine yvp 9 53 (yvb 18 1023) HT_.out ?_
         refine yvu 10 54 (yvb 18 2047) HT_.out ?_
         refine yvu 11 55 (yvb 18 4095) HT_.out ?_
         refine yvu 12 56 (yvb 18 8191) HT_.out ?_
         refine yvu 13 57 (yvb 18 16383) HT_.out ?_
         refine yvu 14 58 (yvb 18 32767) HT_.out ?_
         refine yvu 15 59 (yvb 18 65535) HT_.out ?_
         refine yvu 16 60 (yvb 18 131071) HT_.out ?_
         refine yvp 17 61 (yvb 18 262143) HT_.out ?_
         refine done_ (done_of HT_.out (by kernel_rfl)) ?_
         try go_wp2
         go_meet
         case rel => exact ⟨_, (true), yeq, H', ⟨by have := HK1.out; have := HK2.out; have := HK3.out; first | omega | exact Nat.le_refl _⟩, ⟨yka HO_5.out⟩, ⟨yka HO_7.out⟩, ⟨yka HO_28.out⟩, ⟨by repeat (first | (with_reducible exact HR444.out) | (with_reducible refine Kd.C_alloc ?_ _) | (with_reducible refine Kd.C_drewN ?_ _) | (with_reducible refine Kd.C_drew ?_) | exact HR444.out)⟩, ⟨yhb⟩⟩
        rw [if_pos c26] at H
        have c26b0 : ((rd l0 (rd t437 x30_2)) == (rd l0 (rd y441 x40_3))) = true := beq_iff_eq.mpr c26
        have c26b1 : ((rd l0 (rd t437 x30_2)) != (rd l0 (rd y441 x40_3))) = false := bne_eq_false_iff_eq.mpr c26
        clear c26
        replace H := Option.bind_eq_some_iff.mp H
        obtain ⟨t449, A270, H⟩ := H
        try dsimp only at H
        have A27 := yam A270
        clear A270
        have H' := yam H
        clear H
        try go_wp2
        have n0_ := yam (Kd.Yd HO_5.out)
        have n1_ := yam (Kd.Yd HO_7.out)
        have n2_ := yam (Kd.Yd HO_28.out)
        have n3_ := yam (Kd.C_drew HR444.out)
        have n4_ := yam (yed HB.out)
        clear HO_5
        clear HO_7
        clear HO_28
        clear HR444
        clear HB
        have HO_5 := n0_
        have HO_7 := n1_
        have HO_28 := n2_
        have HR444 := n3_
        have HB := n4_
        clear n0_ n1_ n2_ n3_ n4_
        have p446 : 0 ≤ ((rd t437 x30_2) : Int) := ydt
        have q446 : (rd t437 x30_2) < (l0.length : Int) := ydt
        obtain ⟨ad446, e446, hx446_0⟩ := Kd.at_int HR0.out (rd t437 x30_2) p446 q446
        have hw446_0 := hx446_0
        cases e446
        replace hx446_0 := ybx HB.out hx446_0
        replace p446 := eq_true p446
        replace q446 := eq_true q446
        have p447 : 0 ≤ ((rd y441 x40_3) : Int) := ydt
        have q447 : (rd y441 x40_3) < (l0.length : Int) := ydt
        obtain ⟨ad447, e447, hx447_0⟩ := Kd.at_int HR0.out (rd y441 x40_3) p447 q447
        have hw447_0 := hx447_0
        obtain rfl : ad446 = ad447 := (by injection e447)
        replace hx447_0 := ybx HB.out hx447_0
        replace p447 := eq_true p447
        replace q447 := eq_true q447
        have p448 : 0 ≤ ((rd t437 x30_2) : Int) := ydt
        have q448 : (rd t437 x30_2) < (l0.length : Int) := ydt
        obtain ⟨ad448, e448, hx448_0⟩ := Kd.at_int HR0.out (rd t437 x30_2) p448 q448
        have hw448_0 := hx448_0
        obtain rfl : ad446 = ad448 := (by injection e448)
        replace hx448_0 := ybx HB.out hx448_0
        replace p448 := eq_true p448
        replace q448 := eq_true q448
        refine start_ (n := 18) (S := fun w' => w'.cell? (ad446.add ((rd t437 x30_2)).toNat) = some (.int .i64 (rd l0 (rd t437 x30_2))) ∧ w'.cell? (ad446.add ((rd y441 x40_3)).toNat) = some (.int .i64 (rd l0 (rd y441 x40_3))) ∧ w'.cell? (ad446.add ((rd t437 x30_2)).toNat) = some (.int .i64 (rd l0 (rd t437 x30_2)))) (ds := []) #[false, false, false, false, false, false, false, false, false, false, false, false, false, false, false, false, false, false] (by kernel_rfl) rfl rfl ⟨((HB.out.cell (World.block_lt_of_cell? w _ hw446_0)).trans hw446_0), ((HB.out.cell (World.block_lt_of_cell? w _ hw447_0)).trans hw447_0), ((HB.out.cell (World.block_lt_of_cell? w _ hw448_0)).trans hw448_0)⟩ (fun hHeld => ?_); refine with_tabW impl_NarrowPairs.tab14 impl_NarrowPairs.bits14 (fun HT_ HW_ => ?_)
        generalize wr.drew = w28 at HO_5 HO_7 HO_28 HR444 HB hx446_0 hx447_0 hx448_0 hHeld ⊢
        refine yvp 0 44 (yvb 18 1) HT_.out ?_
        refine yvp 1 45 (yvb 18 3) HT_.out ?_
        refine yvp 2 46 (yvb 18 7) HT_.out ?_
        refine yvp 4 48 (yvb 18 23) HT_.out ?_
        refine yvp 5 49 (yvb 18 55) HT_.out ?_
        refine yvp 6 50 (yvb 18 119) HT_.out ?_
        refine yvt 3 47 (yvb 18 127) HT_.out HW_.out hHeld ?_
        refine yvt 7 51 (yvb 18 255) HT_.out HW_.out hHeld ?_
        refine yvp 8 52 (yvb 18 511) HT_.out ?_
        refine yvp 9 53 (yvb 18 1023) HT_.out ?_
        refine yvp 10 54 (yvb 18 2047) HT_.out ?_
        refine yvp 11 55 (yvb 18 4095) HT_.out ?_
        refine yvp 12 56 (yvb 18 8191) HT_.out ?_
        refine yvt 13 57 (yvb 18 16383) HT_.out HW_.out hHeld ?_
        refine yvp 14 58 (yvb 18 32767) HT_.out ?_
        refine one_ (i := 15) (N := some 59) #[true, true, true, true, true, true, true, true, true, true, true, true, true, true, true, true, false, false] rfl rfl (one_of HT_.out (by kernel_rfl)) (by decide) (fun K hK => ?_)
        refine goes_ Try.func75 (by kernel_rfl) rfl #[.int .u64 (IntKind.u64.wrap (rd l0 (rd t437 x30_2)))] (by rfl) rfl rfl (by (try simp only [List.map_toArray, List.map_cons, List.map_nil]); first | done | rfl | (simp only [List.length_drop, List.length_take]; rfl)) ?_
        with_reducible refine (bits_OnesCount.calls (IntKind.u64.wrap (rd l0 (rd t437 x30_2))) t449 _ A27.out).mono ?_
        rintro e w' ⟨rfl, ⟨nd, rfl⟩⟩
        refine ⟨_, rfl, ?_⟩
        refine hK.out _ _ ⟨((HB.out.cell (World.block_lt_of_cell? w _ hw446_0)).trans hw446_0), ((HB.out.cell (World.block_lt_of_cell? w _ hw447_0)).trans hw447_0), ((HB.out.cell (World.block_lt_of_cell? w _ hw448_0)).trans hw448_0)⟩ (fun hHeld => ?_)
        clear hK K
        refine norm_ (a' := ?_) ?_ ?_
        rotate_left
        ·show Act.put _ (some 59) _ = _
         simp only [Act.put, yps, i64_w, i32_w]
         rfl
        refine yvp 16 60 (yvb 18 131071) HT_.out ?_
        refine yvp 17 61 (yvb 18 262143) HT_.out ?_
        refine done_ (done_of HT_.out (by kernel_rfl)) ?_
        try go_wp2
        go_meet
        case rel => exact ⟨_, ((t449 != 2)), yeq, H', ⟨by have := HK1.out; have := HK2.out; have := HK3.out; first | omega | exact Nat.le_refl _⟩, ⟨yka HO_5.out⟩, ⟨yka HO_7.out⟩, ⟨yka HO_28.out⟩, ⟨by repeat (first | (with_reducible exact HR444.out) | (with_reducible refine Kd.C_alloc ?_ _) | (with_reducible refine Kd.C_drewN ?_ _) | (with_reducible refine Kd.C_drew ?_) | exact HR444.out)⟩, ⟨yhb⟩⟩
       case rest =>
        clear HC21
        try clear c1
        try clear q1
        try clear c2
        try clear p2
        try clear c4
        try clear p4
        try clear q4
        try clear hx4
        try clear c6
        try clear p6
        try clear c7
        try clear c7b0
        try clear c8
        try clear c11
        try clear c11b0
        try clear c12
        try clear c12b0
        try clear c13
        try clear c13b0
        try clear c15
        try clear c15b0
        try clear c15b1
        try clear c16
        try clear c16b0
        try clear c16b1
        try clear c17
        try clear q17
        try clear c18
        try clear c18b0
        try clear c19
        try clear c19b0
        try clear c20
        try clear c20b0
        try clear c22
        try clear c22b0
        try clear c23
        try clear c23b0
        try clear c24
        try clear c24b0
        try clear c25
        try clear c25b0
        try clear c26
        try clear c26b0
        try clear c26b1
        try clear hx440_0
        try clear hx445_0
        try clear hx446_0
        try clear hx447_0
        try clear hx448_0
        try clear p2
        try clear p4
        try clear p440
        try clear p445
        try clear p446
        try clear p447
        try clear p448
        try clear p6
        try clear q017
        try clear q1
        try clear q17
        try clear q4
        try clear q440
        try clear q445
        try clear q446
        try clear q447
        try clear q448
        obtain ⟨kq, x61_20, rfl, HA, HJ20, HO_5, HO_7, HO_28, HR444, HB⟩ := hcut
        cases kq with
        | zero => exact absurd HA.out (by simp [impl_NarrowPairs.j3])
        | succ kj20 =>
         have H := HA.out
         clear HA
         simp only [impl_NarrowPairs.j3] at H
         by_cases c30 : x61_20 = true
         ·subst c30
          have H1 : (impl_NarrowPairs.l2 kj20 l0 a1 x5_3 t437 (rd t437 x30_2) (wrap64 (2 * a1)) x22_1 t437 (t437.length : Int) x30_2 y441 (y441.length : Int) (wrap64 (x40_3 + 1))) = some r := by rw [if_pos rfl] at H; exact H
          clear H
          have H := H1
          clear H1
          have H' := yam H
          clear H
          go_wp2
          go_roundg kj20
          case measure => have := HK1.out; have := HK2.out; have := HK3.out; have := HJ20.out; omega
          case rel => exact ⟨(x5_3), (wrap64 (x40_3 + 1)), yeq, H', ⟨by have := HK1.out; have := HK2.out; have := HK3.out; have := HJ20.out; omega⟩, ⟨yka HO_5.out⟩, ⟨yka HO_7.out⟩, ⟨yka HO_28.out⟩, ⟨by repeat (first | (with_reducible exact HR444.out) | (with_reducible refine Kd.C_alloc ?_ _) | (with_reducible refine Kd.C_drewN ?_ _) | (with_reducible refine Kd.C_drew ?_) | exact HR444.out)⟩, ⟨yhb⟩⟩
         replace c30 := Bool.eq_false_iff.mpr c30
         subst c30
         have H1 : (impl_NarrowPairs.l3 kj20 l0 a1 x5_3 t437 (rd t437 x30_2) (rd y441 x40_3) (wrap64 (2 * a1)) x22_1 t437 (t437.length : Int) x30_2 y441 (y441.length : Int) x40_3 t437 (t437.length : Int) 0) = some r := by rw [if_neg (show ¬ (false = true) by decide)] at H; exact H
         clear H
         have H := H1
         clear H1
         have H' := yam H
         clear H
         go_wp2
         go_loopg [64] kj20 (fun kq v64 w' => ∃ (x5_5 : List Int) (x64_5 : Int), v64 = .int .i64 x64_5 ∧ Aside0 (impl_NarrowPairs.l3 kq l0 a1 x5_5 t437 (rd t437 x30_2) (rd y441 x40_3) (wrap64 (2 * a1)) x22_1 t437 (t437.length : Int) x30_2 y441 (y441.length : Int) x40_3 t437 (t437.length : Int) x64_5 = some r) ∧ Aside0 (kq ≤ kj20) ∧ Aside0 (Kd.R (Kd.int .i64) 3 w' w.heap.size (fun k_ => some k_ ≠ ((.slice (some ad440) t437.length co10) : Value).ownBlock ∧ some k_ ≠ ((.slice (some ad440) t437.length co10) : Value).ownBlock ∧ some k_ ≠ ((.slice (some ad440) t437.length co10) : Value).ownBlock) v435 x5_5) ∧ Aside0 (Kd.R (Kd.int .i64) 3 w' w.heap.size (fun k_ => some k_ ≠ (v435 : Value).ownBlock) (.slice (some ad440) t437.length co10) t437) ∧ Aside0 (Kd.R (Kd.int .i64) 3 w' w.heap.size (fun k_ => some k_ ≠ (v435 : Value).ownBlock) (.slice (some ad440) t437.length co10) t437) ∧ Aside0 (Kd.R (Kd.int .i64) 3 w' w.heap.size (fun k_ => some k_ ≠ (v435 : Value).ownBlock) (.slice (some ad440) t437.length co10) t437) ∧ Aside0 (Kd.C (Kd.int .i64) w' (some ad445) y441.length y441) ∧ Aside0 (Below w.heap.size w w'))
         case atStart => exact ⟨(x5_3), (0), yeq, H', ⟨Nat.le_refl _⟩, ⟨by (with_reducible repeat (first | apply Kd.Ya | apply Kd.Yn | apply Kd.Yd)); exact Kd.R_mono HO_5.out (fun _ hk => ⟨hk.1, ⟨hk.2, hk.1⟩⟩)⟩, ⟨yka HO_7.out⟩, ⟨yka HO_28.out⟩, ⟨yka HO_7.out⟩, ⟨by repeat (first | (with_reducible exact HR444.out) | (with_reducible refine Kd.C_alloc ?_ _) | (with_reducible refine Kd.C_drewN ?_ _) | (with_reducible refine Kd.C_drew ?_) | exact HR444.out)⟩, ⟨yhb⟩⟩
         case round =>
          clear H'
          try clear c1
          try clear q1
          try clear c2
          try clear p2
          try clear c3
          try clear c4
          try clear p4
          try clear q4
          try clear hx4
          try clear c6
          try clear p6
          try clear c7
          try clear c7b0
          try clear c8
          try clear c11
          try clear c11b0
          try clear c12
          try clear c12b0
          try clear c13
          try clear c13b0
          try clear c15
          try clear c15b0
          try clear c15b1
          try clear c16
          try clear c16b0
          try clear c16b1
          try clear c17
          try clear q17
          try clear c18
          try clear c18b0
          try clear c19
          try clear c19b0
          try clear c20
          try clear c20b0
          try clear c22
          try clear c22b0
          try clear c23
          try clear c23b0
          try clear c24
          try clear c24b0
          try clear c25
          try clear c25b0
          try clear c26
          try clear c26b0
          try clear c26b1
          try clear c30
          try clear hx440_0
          try clear hx445_0
          try clear hx446_0
          try clear hx447_0
          try clear hx448_0
          try clear p2
          try clear p4
          try clear p440
          try clear p445
          try clear p446
          try clear p447
          try clear p448
          try clear p6
          try clear q017
          try clear q1
          try clear q17
          try clear q4
          try clear q440
          try clear q445
          try clear q446
          try clear q447
          try clear q448
          obtain ⟨x5_5, x64_5, rfl, HA, HK5, HO_5, HO_7, HO_28, HO_62, HR444, HB⟩ := hrel
          cases gk with
          | zero => exact absurd HA.out (by simp [impl_NarrowPairs.l3])
          | succ k5 =>
           have H := HA.out
           clear HA
           simp only [impl_NarrowPairs.l3] at H
           by_cases c31 : x64_5 < (t437.length : Int)
           rotate_left
           ·rw [if_neg c31] at H
            have c31b0 : decide (x64_5 < (t437.length : Int)) = false := decide_eq_false c31
            clear c31
            have H' := yam H
            clear H
            go_wp2
            go_roundg k5
            case measure => have := HK1.out; have := HK2.out; have := HK3.out; have := HJ20.out; have := HK5.out; omega
            case rel => exact ⟨(x5_5), (wrap64 (x40_3 + 1)), yeq, H', ⟨by have := HK1.out; have := HK2.out; have := HK3.out; have := HJ20.out; have := HK5.out; omega⟩, ⟨by (with_reducible repeat (first | apply Kd.Ya | apply Kd.Yn | apply Kd.Yd)); exact Kd.R_mono HO_5.out (fun _ hk => ⟨hk.1, hk.2.1⟩)⟩, ⟨yka HO_7.out⟩, ⟨yka HO_28.out⟩, ⟨by repeat (first | (with_reducible exact HR444.out) | (with_reducible refine Kd.C_alloc ?_ _) | (with_reducible refine Kd.C_drewN ?_ _) | (with_reducible refine Kd.C_drew ?_) | exact HR444.out)⟩, ⟨yhb⟩⟩
           rw [if_pos c31] at H
           have c31b0 : decide (x64_5 < (t437.length : Int)) = true := decide_eq_true c31
           clear c31
           replace H := yif H
           obtain ⟨c32b0, H⟩ := H
           replace H := yif H
           obtain ⟨c33b0, H⟩ := H
           by_cases c34 : (rd t437 x64_5) = (rd t437 x30_2)
           ·rw [if_pos c34] at H
            have c34b0 : ((rd t437 x64_5) == (rd t437 x30_2)) = true := beq_iff_eq.mpr c34
            have c34b1 : ((rd t437 x64_5) != (rd t437 x30_2)) = false := bne_eq_false_iff_eq.mpr c34
            clear c34
            have H' := yam H
            clear H
            have p450 : 0 ≤ (x64_5 : Int) := ydt
            have q450 : x64_5 < (t437.length : Int) := ydt
            obtain ⟨ad450, e450, hx450_0⟩ := Kd.at_int (Kd.Yr HO_62.out).2.2 x64_5 p450 q450
            obtain rfl : ad440 = ad450 := (by injection e450)
            replace p450 := eq_true p450
            replace q450 := eq_true q450
            go_wp2
            go_roundg k5
            case measure => have := HK1.out; have := HK2.out; have := HK3.out; have := HJ20.out; have := HK5.out; omega
            case rel => exact ⟨(x5_5), (wrap64 (x64_5 + 1)), yeq, H', ⟨by have := HK1.out; have := HK2.out; have := HK3.out; have := HJ20.out; have := HK5.out; omega⟩, ⟨yka HO_5.out⟩, ⟨yka HO_7.out⟩, ⟨yka HO_28.out⟩, ⟨yka HO_62.out⟩, ⟨by repeat (first | (with_reducible exact HR444.out) | (with_reducible refine Kd.C_alloc ?_ _) | (with_reducible refine Kd.C_drewN ?_ _) | (with_reducible refine Kd.C_drew ?_) | exact HR444.out)⟩, ⟨yhb⟩⟩
           rw [if_neg c34] at H
           have c34b0 : ((rd t437 x64_5) == (rd t437 x30_2)) = false := beq_eq_false_iff_ne.mpr c34
           have c34b1 : ((rd t437 x64_5) != (rd t437 x30_2)) = true := bne_iff_ne.mpr c34
           by_cases c35 : (rd t437 x64_5) = (rd y441 x40_3)
           ·rw [if_pos c35] at H
            have c35b0 : ((rd t437 x64_5) == (rd y441 x40_3)) = true := beq_iff_eq.mpr c35
            have c35b1 : ((rd t437 x64_5) != (rd y441 x40_3)) = false := bne_eq_false_iff_eq.mpr c35
            clear c35
            have H' := yam H
            clear H
            have p450 : 0 ≤ (x64_5 : Int) := ydt
            have q450 : x64_5 < (t437.length : Int) := ydt
            obtain ⟨ad450, e450, hx450_0⟩ := Kd.at_int (Kd.Yr HO_62.out).2.2 x64_5 p450 q450
            obtain rfl : ad440 = ad450 := (by injection e450)
            replace p450 := eq_true p450
            replace q450 := eq_true q450
            go_wp2
            go_roundg k5
            case measure => have := HK1.out; have := HK2.out; have := HK3.out; have := HJ20.out; have := HK5.out; omega
            case rel => exact ⟨(x5_5), (wrap64 (x64_5 + 1)), yeq, H', ⟨by have := HK1.out; have := HK2.out; have := HK3.out; have := HJ20.out; have := HK5.out; omega⟩, ⟨yka HO_5.out⟩, ⟨yka HO_7.out⟩, ⟨yka HO_28.out⟩, ⟨yka HO_62.out⟩, ⟨by repeat (first | (with_reducible exact HR444.out) | (with_reducible refine Kd.C_alloc ?_ _) | (with_reducible refine Kd.C_drewN ?_ _) | (with_reducible refine Kd.C_drew ?_) | exact HR444.out)⟩, ⟨yhb⟩⟩
           rw [if_neg c35] at H
           have c35b0 : ((rd t437 x64_5) == (rd y441 x40_3)) = false := beq_eq_false_iff_ne.mpr c35
           have c35b1 : ((rd t437 x64_5) != (rd y441 x40_3)) = true := bne_iff_ne.mpr c35
           replace H := yif H
           obtain ⟨c36b0, H⟩ := H
           replace H := yif H
           obtain ⟨c37b0, H⟩ := H
           replace H := yif H
           obtain ⟨c38b0, H⟩ := H
           replace H := yif H
           obtain ⟨c39b0, H⟩ := H
           obtain ⟨y453, hy453⟩ : ∃ y_ : List Int, y_ = (x5_5.set ((rd t437 x64_5) : Int).toNat (Go.bits .andNot .i64 (rd x5_5 (rd t437 x64_5)) (rd l0 (rd t437 x30_2)))) := ⟨_, rfl⟩
           replace H : (impl_NarrowPairs.l3 k5 l0 a1 y453 t437 (rd t437 x30_2) (rd y441 x40_3) (wrap64 (2 * a1)) x22_1 t437 (t437.length : Int) x30_2 y441 (y441.length : Int) x40_3 t437 (t437.length : Int) (wrap64 (x64_5 + 1))) = some r := by first | (rw [hy453]; with_reducible exact H) | (have H2_ := (Option.bind_some _ _).symm.trans H; rw [hy453]; with_reducible exact H2_) | (have H2_ := (Option.bind_some _ _).symm.trans H; with_reducible exact H2_) | with_reducible exact H | (rw [hy453]; exact H) | exact H
           have Ny453 := yam hy453
           clear hy453
           have H' := yam H
           clear H
           have p450 : 0 ≤ (x64_5 : Int) := ydt
           have q450 : x64_5 < (t437.length : Int) := ydt
           obtain ⟨ad450, e450, hx450_0⟩ := Kd.at_int (Kd.Yr HO_62.out).2.2 x64_5 p450 q450
           obtain rfl : ad440 = ad450 := (by injection e450)
           replace p450 := eq_true p450
           replace q450 := eq_true q450
           try go_wp2
           have n0_ := yam (Kd.Yd HO_5.out)
           have n1_ := yam (Kd.Yd HO_7.out)
           have n2_ := yam (Kd.Yd HO_28.out)
           have n3_ := yam (Kd.Yd HO_62.out)
           have n4_ := yam (Kd.C_drew HR444.out)
           have n5_ := yam (yed HB.out)
           clear HO_5
           clear HO_7
           clear HO_28
           clear HO_62
           clear HR444
           clear HB
           have HO_5 := n0_
           have HO_7 := n1_
           have HO_28 := n2_
           have HO_62 := n3_
           have HR444 := n4_
           have HB := n5_
           clear n0_ n1_ n2_ n3_ n4_ n5_
           obtain ⟨Ao42, co42, eo42⟩ := Kd.R_slice HO_5.out
           (first | subst eo42 | (injection eo42 with f1_ f2_ f3_; have f4_ := f1_.symm; have f5_ := f3_.symm; clear f1_ f2_ f3_; subst f4_; subst f5_))
           have p451 : 0 ≤ ((rd t437 x64_5) : Int) := ydt
           have q451 : (rd t437 x64_5) < (x5_5.length : Int) := ydt
           obtain ⟨ad451, e451, hx451_0⟩ := Kd.at_int (Kd.Yr HO_5.out).2.2 (rd t437 x64_5) p451 q451
           cases e451
           replace p451 := eq_true p451
           replace q451 := eq_true q451
           have p452 : 0 ≤ ((rd t437 x30_2) : Int) := ydt
           have q452 : (rd t437 x30_2) < (l0.length : Int) := ydt
           obtain ⟨ad452, e452, hx452_0⟩ := Kd.at_int HR0.out (rd t437 x30_2) p452 q452
           have hw452_0 := hx452_0
           cases e452
           replace hx452_0 := ybx HB.out hx452_0
           replace p452 := eq_true p452
           replace q452 := eq_true q452
           have p40 : 0 ≤ ((rd t437 x64_5) : Int) := ydt
           have q40 : ((rd t437 x64_5) : Int) < ((x5_5.length : Int) : Int) := ydt
           obtain ⟨go40, co40, eo40, gb40, gl40, cl40, HG40⟩ := Kd.R_form HO_5.out (by omega)
           (first | cases eo40 | (injection eo40 with ea_ en_ ec_; (first | subst ea_ | (injection ea_ with ea_; subst ea_)); subst ec_; clear en_))
           have GB40 := yam gb40
           have GG40 := yam HG40
           clear gb40 gl40 HG40
           (first | simp only [add_plain] at hx451_0 | skip)
           obtain ⟨hx40_0, hf40_0⟩ := Kd.R_celln 0 HO_5.out ((rd t437 x64_5) : Int) p40 q40
           replace p40 := eq_true p40
           replace q40 := eq_true q40
           have HP43 := Kd.R_putn HO_5.out ((rd t437 x64_5) : Int) (Go.bits .andNot .i64 (rd x5_5 (rd t437 x64_5)) (rd l0 (rd t437 x30_2)))
           rw [← Ny453.out] at HP43
           have HQ43 := yam HP43
           clear HP43
           refine start_ (n := 11) (S := fun w' => w'.cell? ⟨go40, ((rd t437 x64_5)).toNat, none⟩ = some (.int .i64 (rd x5_5 (rd t437 x64_5))) ∧ w'.cell? (ad452.add ((rd t437 x30_2)).toNat) = some (.int .i64 (rd l0 (rd t437 x30_2)))) (ds := [10]) #[false, false, false, false, false, false, false, false, false, false, false] (by kernel_rfl) rfl rfl ⟨hx451_0, ((HB.out.cell (World.block_lt_of_cell? w _ hw452_0)).trans hw452_0)⟩ (fun hHeld => ?_); refine with_tabW impl_NarrowPairs.tab19 impl_NarrowPairs.bits19 (fun HT_ HW_ => ?_)
           generalize wr.drew = w41 at HO_5 HO_7 HO_28 HO_62 HR444 HB GG40 HQ43 hf40_0 hx40_0 hx451_0 hx452_0 hHeld ⊢
           refine yvp 0 76 (yvb 11 1) HT_.out ?_
           refine yvp 1 77 (yvb 11 3) HT_.out ?_
           refine yvp 2 78 (yvb 11 7) HT_.out ?_
           refine yvp 4 80 (yvb 11 23) HT_.out ?_
           refine yvp 5 81 (yvb 11 55) HT_.out ?_
           refine yvp 6 82 (yvb 11 119) HT_.out ?_
           refine yvt 3 79 (yvb 11 127) HT_.out HW_.out hHeld ?_
           refine yvt 7 83 (yvb 11 255) HT_.out HW_.out hHeld ?_
           refine yvp 8 84 (yvb 11 511) HT_.out ?_
           refine yvp 9 85 (yvb 11 1023) HT_.out ?_
           refine last_ (i := 10) (N := none) #[true, true, true, true, true, true, true, true, true, true, true] rfl rfl (one_of HT_.out (by kernel_rfl)) (by decide) (fun K hK => ?_)
           refine skip_ (w1 := ?_) (by rfl) rfl ?_ ?_
           rotate_left
           ·go_simp
            rfl
           refine hK.out _ _ ?_
           clear hK K
           refine done_ (done_of HT_.out (by kernel_rfl)) ?_
           try go_wp2
           go_roundg k5
           case measure => have := HK1.out; have := HK2.out; have := HK3.out; have := HJ20.out; have := HK5.out; omega
           case rel => exact ⟨(y453), (wrap64 (x64_5 + 1)), yeq, H', ⟨by have := HK1.out; have := HK2.out; have := HK3.out; have := HJ20.out; have := HK5.out; omega⟩, ⟨yka HQ43.out⟩, ⟨by (with_reducible repeat (first | apply Kd.Ya | apply Kd.Yn | apply Kd.Yd)); exact Kd.R_mono (Kd.R_far (p := ⟨go40, ((rd t437 x64_5) : Int).toNat, none⟩) (Kd.R_mono HO_7.out (fun k_ hk => (⟨hk, fun e_ => hk (by rw [e_]; rfl)⟩ : _ ∧ k_ ≠ go40))) (fun _ hk => hk.2) (.int .i64 (Go.bits .andNot .i64 (rd x5_5 (rd t437 x64_5)) (rd l0 (rd t437 x30_2))))) (fun _ hk => hk.1)⟩, ⟨by (with_reducible repeat (first | apply Kd.Ya | apply Kd.Yn | apply Kd.Yd)); exact Kd.R_mono (Kd.R_far (p := ⟨go40, ((rd t437 x64_5) : Int).toNat, none⟩) (Kd.R_mono HO_28.out (fun k_ hk => (⟨hk, fun e_ => hk (by rw [e_]; rfl)⟩ : _ ∧ k_ ≠ go40))) (fun _ hk => hk.2) (.int .i64 (Go.bits .andNot .i64 (rd x5_5 (rd t437 x64_5)) (rd l0 (rd t437 x30_2))))) (fun _ hk => hk.1)⟩, ⟨by (with_reducible repeat (first | apply Kd.Ya | apply Kd.Yn | apply Kd.Yd)); exact Kd.R_mono (Kd.R_far (p := ⟨go40, ((rd t437 x64_5) : Int).toNat, none⟩) (Kd.R_mono HO_62.out (fun k_ hk => (⟨hk, fun e_ => hk (by rw [e_]; rfl)⟩ : _ ∧ k_ ≠ go40))) (fun _ hk => hk.2) (.int .i64 (Go.bits .andNot .i64 (rd x5_5 (rd t437 x64_5)) (rd l0 (rd t437 x30_2))))) (fun _ hk => hk.1)⟩, ⟨by have hz0_ := (Kd.R_mono (Kd.R_far (p := ⟨go40, ((rd t437 x64_5) : Int).toNat, none⟩) (Kd.R_mono HO_7.out (fun k_ hk => (⟨hk, fun e_ => hk (by rw [e_]; rfl)⟩ : _ ∧ k_ ≠ go40))) (fun _ hk => hk.2) (.int .i64 (Go.bits .andNot .i64 (rd x5_5 (rd t437 x64_5)) (rd l0 (rd t437 x30_2))))) (fun _ h_ => h_.1)); have hz1_ := Kd.C_drop (m := ((ji14) : Int).toNat) (c := co10) (Kd.Yr hz0_).2.2 KL17.out (Kd.Yr hz0_).2.1; rw [show (Kd.int .i64).sz = 1 from rfl, ← KA17.out, ← Ny441.out] at hz1_; exact hz1_⟩, ⟨yhb⟩⟩
def impl_valuesHold.l0 : Nat → List Int → Int → Int → List Int → Int → Int → Int → List Int → Int → Option (Bool)
 | 0, _, _, _, _, _, _, _, _, _ => none
 | k + 1, x1, x5, x6, x9, x10, x11, x455000, x455001, x455002 => if x11 < x10 then (if 0 ≤ x11 then (if x11 < (x9.length : Int) then (if x455000 = 1 then (if x11 ≤ (x1.length : Int) then ((slices_Contains_int_int.f k (x1.take (x11 : Int).toNat) (rd x9 x11)).bind fun t457 => (if t457 = true then (some false) else (impl_valuesHold.l0 k x1 (wrap64 (x5 + (rd x9 x11))) (wrap64 (x6 * (rd x9 x11))) x9 x10 (wrap64 (x11 + 1)) x455000 x455001 x455002))) else (none)) else (impl_valuesHold.l0 k x1 (wrap64 (x5 + (rd x9 x11))) (wrap64 (x6 * (rd x9 x11))) x9 x10 (wrap64 (x11 + 1)) x455000 x455001 x455002)) else (none)) else (none)) else (if x455000 = 2 then (some (x5 == x455002)) else (if x455000 = 3 then (some (x6 == x455002)) else (if x455000 = 4 then (if 0 < (x1.length : Int) then (if 1 < (x1.length : Int) then (some (decide ((rd x1 0) < (rd x1 1)))) else (none)) else (none)) else (if x455000 = 5 then (if 0 < (x1.length : Int) then (if 1 < (x1.length : Int) then (some ((mx (wrap64 ((rd x1 0) - (rd x1 1))) (wrap64 ((rd x1 1) - (rd x1 0)))) == x455002)) else (none)) else (none)) else (some true)))))
def impl_valuesHold.f (k : Nat) (a0_0 : Int) (l0_1 : List Int) (a0_2 : Int) (l1 : List Int) : Option (Bool) := impl_valuesHold.l0 k l1 0 1 l1 (l1.length : Int) 0 a0_0 l0_1 a0_2
set_option maxHeartbeats 8000000 in
set_option maxRecDepth 100000 in
theorem impl_valuesHold.calls (k : Nat) (a0_0 : Int) (A0_1 : Option Addr) (c0_1 : Nat) (l0_1 : List Int) (a0_2 : Int) (A1 : Option Addr) (c1 : Nat) (l1 : List Int) (r : Bool) (w : World) (hr0_1 : Kd.C (Kd.int .i64) w A0_1 l0_1.length l0_1) (hc0_1 : l0_1.length ≤ c0_1) (hr1 : Kd.C (Kd.int .i64) w A1 l1.length l1) (hc1 : l1.length ≤ c1) (h : impl_valuesHold.f k a0_0 l0_1 a0_2 l1 = some r) :
  Calls Try.prog 99 #[.agg #[.int .i64 a0_0, .slice A0_1 l0_1.length c0_1, .int .i64 a0_2], .slice A1 l1.length c1] w fun e w' => e = .returned (.bool r) ∧ Below w.heap.size w w' := by
 have hu67 := Try.underlying67
 have HR0_1 := yam hr0_1
 have HC0_1 := yam hc0_1
 clear hr0_1 hc0_1
 have HR1 := yam hr1
 have HC1 := yam hc1
 clear hr1 hc1
 have HB := yam (Below.refl w.heap.size w)
 have H : (impl_valuesHold.l0 k l1 0 1 l1 (l1.length : Int) 0 a0_0 l0_1 a0_2) = some r := h
 clear h
 have H' := yam H
 clear H
 go_enter Try.func99, Try.ntmps99
 go_wp2_with (first | ((with_reducible refine gate_dst (N := 2) rfl ?_); refine ybe 2 #[.int .i64 a0_0, .slice A0_1 l0_1.length c0_1, .int .i64 a0_2] 67 ?_; intro gb454 hg w3 hbox hb; have n0_ := yam (below_step (yez HB.out) hb); have n1_ := yam (hbox); have n2_ := yam ((by rw [hg]; exact (below_size (yez HB.out)) : w.heap.size ≤ gb454)); have n3_ := n2_; clear HB; have HB := n0_; have BK454 := n1_; have GW454 := n2_; have GE454 := n3_; clear n0_ n1_ n2_ n3_; clear hb hbox hg))
 repeat (go_quiet (first | ((with_reducible refine gate_dst (N := 2) rfl ?_); refine ybe 2 #[.int .i64 a0_0, .slice A0_1 l0_1.length c0_1, .int .i64 a0_2] 67 ?_; intro gb454 hg w3 hbox hb; have n0_ := yam (below_step (yez HB.out) hb); have n1_ := yam (hbox); have n2_ := yam ((by rw [hg]; exact (below_size (yez HB.out)) : w.heap.size ≤ gb454)); have n3_ := n2_; clear HB; have HB := n0_; have BK454 := n1_; have GW454 := n2_; have GE454 := n3_; clear n0_ n1_ n2_ n3_; clear hb hbox hg)); try go_wp2_with (first | ((with_reducible refine gate_dst (N := 2) rfl ?_); refine ybe 2 #[.int .i64 a0_0, .slice A0_1 l0_1.length c0_1, .int .i64 a0_2] 67 ?_; intro gb454 hg w3 hbox hb; have n0_ := yam (below_step (yez HB.out) hb); have n1_ := yam (hbox); have n2_ := yam ((by rw [hg]; exact (below_size (yez HB.out)) : w.heap.size ≤ gb454)); have n3_ := n2_; clear HB; have HB := n0_; have BK454 := n1_; have GW454 := n2_; have GE454 := n3_; clear n0_ n1_ n2_ n3_; clear hb hbox hg)))
 go_loopg [5, 6, 11] k (fun kq v5 v6 v11 w' => ∃ (x5_1 : Int) (x6_1 : Int) (x11_1 : Int), v5 = .int .i64 x5_1 ∧ v6 = .int .i64 x6_1 ∧ v11 = .int .i64 x11_1 ∧ Aside0 (impl_valuesHold.l0 kq l1 x5_1 x6_1 l1 (l1.length : Int) x11_1 a0_0 l0_1 a0_2 = some r) ∧ Aside0 (kq ≤ k) ∧ Aside0 (w'.heap[gb454]? = some (.cells #[.int .i64 a0_0, (.slice A0_1 l0_1.length c0_1), .int .i64 a0_2] 67 (0, 0))) ∧ Aside0 (Below w.heap.size w w'))
 case atStart => exact ⟨(0), (1), (0), yeq, yeq, yeq, H', ⟨Nat.le_refl _⟩, ⟨by (with_reducible repeat (first | refine ybn ?_ _ | refine ybd ?_ | refine yba ?_ _)); exact BK454.out⟩, ⟨yhb⟩⟩
 case round =>
  clear H'
  try clear c1
  try clear p2
  obtain ⟨x5_1, x6_1, x11_1, rfl, rfl, rfl, HA, HK1, BK454, HB⟩ := hrel
  cases gk with
  | zero => exact absurd HA.out (by simp [impl_valuesHold.l0])
  | succ k1 =>
   have H := HA.out
   clear HA
   simp only [impl_valuesHold.l0] at H
   by_cases c4 : x11_1 < (l1.length : Int)
   rotate_left
   ·rw [if_neg c4] at H
    have c4b0 : decide (x11_1 < (l1.length : Int)) = false := decide_eq_false c4
    clear c4
    by_cases c17 : a0_0 = 2
    ·rw [if_pos c17] at H
     have c17b0 : (a0_0 == 2) = true := beq_iff_eq.mpr c17
     have c17b1 : (a0_0 != 2) = false := bne_eq_false_iff_eq.mpr c17
     clear c17
     obtain rfl := Option.some.inj H
     obtain ⟨hcz18_0, hcz18_1, hcz18_2, hfz18_0, hfz18_1, hfz18_2⟩ := ybc BK454.out
     go_wp2
     repeat (go_quiet (fail); try go_wp2)
     go_ret
     exact ⟨yer, yhb⟩
    rw [if_neg c17] at H
    have c17b0 : (a0_0 == 2) = false := beq_eq_false_iff_ne.mpr c17
    have c17b1 : (a0_0 != 2) = true := bne_iff_ne.mpr c17
    by_cases c19 : a0_0 = 3
    ·rw [if_pos c19] at H
     have c19b0 : (a0_0 == 3) = true := beq_iff_eq.mpr c19
     have c19b1 : (a0_0 != 3) = false := bne_eq_false_iff_eq.mpr c19
     clear c19
     obtain rfl := Option.some.inj H
     obtain ⟨hcz20_0, hcz20_1, hcz20_2, hfz20_0, hfz20_1, hfz20_2⟩ := ybc BK454.out
     go_wp2
     repeat (go_quiet (fail); try go_wp2)
     go_ret
     exact ⟨yer, yhb⟩
    rw [if_neg c19] at H
    have c19b0 : (a0_0 == 3) = false := beq_eq_false_iff_ne.mpr c19
    have c19b1 : (a0_0 != 3) = true := bne_iff_ne.mpr c19
    by_cases c21 : a0_0 = 4
    ·rw [if_pos c21] at H
     have c21b0 : (a0_0 == 4) = true := beq_iff_eq.mpr c21
     have c21b1 : (a0_0 != 4) = false := bne_eq_false_iff_eq.mpr c21
     clear c21
     replace H := yig H
     obtain ⟨c22, H⟩ := H
     have c22b0 : decide (0 < (l1.length : Int)) = true := decide_eq_true c22
     have c22b1 : decide (0 < l1.length) = true := decide_eq_true (by omega)
     clear c22
     replace H := yig H
     obtain ⟨c23, H⟩ := H
     have c23b0 : decide (1 < (l1.length : Int)) = true := decide_eq_true c23
     have c23b1 : decide (1 < l1.length) = true := decide_eq_true (by omega)
     clear c23
     obtain rfl := Option.some.inj H
     obtain ⟨hcz24_0, hcz24_1, hcz24_2, hfz24_0, hfz24_1, hfz24_2⟩ := ybc BK454.out
     have p458 : 0 ≤ (0 : Int) := (by omega)
     have q458 : 0 < (l1.length : Int) := ydt
     obtain ⟨ad458, e458, hx458_0⟩ := Kd.at_int HR1.out 0 p458 q458
     cases e458
     have qi458 : (0 < l1.length) = True := eq_true (by omega)
     (try rw [show ((0 : Int)).toNat = 0 from rfl] at hx458_0)
     (try rw [Addr.add_zero'] at hx458_0)
     replace hx458_0 := ybx HB.out hx458_0
     replace p458 := eq_true p458
     replace q458 := eq_true q458
     have p459 : 0 ≤ (1 : Int) := (by omega)
     have q459 : 1 < (l1.length : Int) := ydt
     obtain ⟨ad459, e459, hx459_0⟩ := Kd.at_int HR1.out 1 p459 q459
     obtain rfl : ad458 = ad459 := (by injection e459)
     (try simp only [show (1 : Int).toNat = 1 from rfl, Nat.reduceMul, Nat.reduceEqDiff, Go.Addr.add, ↓reduceIte] at hx459_0)
     have qi459 : (1 < l1.length) = True := eq_true (by omega)
     (try rw [show ((1 : Int)).toNat = 1 from rfl] at hx459_0)
     replace hx459_0 := ybx HB.out hx459_0
     replace p459 := eq_true p459
     replace q459 := eq_true q459
     go_wp2
     repeat (go_quiet (fail); try go_wp2)
     go_ret
     exact ⟨yer, yhb⟩
    rw [if_neg c21] at H
    have c21b0 : (a0_0 == 4) = false := beq_eq_false_iff_ne.mpr c21
    have c21b1 : (a0_0 != 4) = true := bne_iff_ne.mpr c21
    by_cases c25 : a0_0 = 5
    rotate_left
    ·rw [if_neg c25] at H
     have c25b0 : (a0_0 == 5) = false := beq_eq_false_iff_ne.mpr c25
     have c25b1 : (a0_0 != 5) = true := bne_iff_ne.mpr c25
     obtain rfl := Option.some.inj H
     obtain ⟨hcz30_0, hcz30_1, hcz30_2, hfz30_0, hfz30_1, hfz30_2⟩ := ybc BK454.out
     go_wp2
     repeat (go_quiet (fail); try go_wp2)
     go_ret
     exact ⟨yer, yhb⟩

    rw [if_pos c25] at H
    have c25b0 : (a0_0 == 5) = true := beq_iff_eq.mpr c25
    have c25b1 : (a0_0 != 5) = false := bne_eq_false_iff_eq.mpr c25
    clear c25
    replace H := yig H
    obtain ⟨c26, H⟩ := H
    have c26b0 : decide (0 < (l1.length : Int)) = true := decide_eq_true c26
    have c26b1 : decide (0 < l1.length) = true := decide_eq_true (by omega)
    clear c26
    replace H := yig H
    obtain ⟨c27, H⟩ := H
    have c27b0 : decide (1 < (l1.length : Int)) = true := decide_eq_true c27
    have c27b1 : decide (1 < l1.length) = true := decide_eq_true (by omega)
    clear c27
    obtain ⟨ji28, hji28⟩ : ∃ j_ : Int, (mx (wrap64 ((rd l1 0) - (rd l1 1))) (wrap64 ((rd l1 1) - (rd l1 0)))) = j_ := ⟨_, rfl⟩
    replace H : (some ((ji28) == a0_2)) = some r := by first | (rw [hji28] at H; exact H) | (simp only [hji28] at H ⊢; exact H)
    have hji28_ : (if (wrap64 ((rd l1 0) - (rd l1 1))) < (wrap64 ((rd l1 1) - (rd l1 0))) then (wrap64 ((rd l1 1) - (rd l1 0))) else (wrap64 ((rd l1 0) - (rd l1 1)))) = ji28 := hji28
    obtain rfl := Option.some.inj H
    obtain ⟨hcz29_0, hcz29_1, hcz29_2, hfz29_0, hfz29_1, hfz29_2⟩ := ybc BK454.out
    have p460 : 0 ≤ (0 : Int) := (by omega)
    have q460 : 0 < (l1.length : Int) := ydt
    obtain ⟨ad460, e460, hx460_0⟩ := Kd.at_int HR1.out 0 p460 q460
    cases e460
    have qi460 : (0 < l1.length) = True := eq_true (by omega)
    (try rw [show ((0 : Int)).toNat = 0 from rfl] at hx460_0)
    (try rw [Addr.add_zero'] at hx460_0)
    replace hx460_0 := ybx HB.out hx460_0
    replace p460 := eq_true p460
    replace q460 := eq_true q460
    have p461 : 0 ≤ (1 : Int) := (by omega)
    have q461 : 1 < (l1.length : Int) := ydt
    obtain ⟨ad461, e461, hx461_0⟩ := Kd.at_int HR1.out 1 p461 q461
    obtain rfl : ad460 = ad461 := (by injection e461)
    (try simp only [show (1 : Int).toNat = 1 from rfl, Nat.reduceMul, Nat.reduceEqDiff, Go.Addr.add, ↓reduceIte] at hx461_0)
    have qi461 : (1 < l1.length) = True := eq_true (by omega)
    (try rw [show ((1 : Int)).toNat = 1 from rfl] at hx461_0)
    replace hx461_0 := ybx HB.out hx461_0
    replace p461 := eq_true p461
    replace q461 := eq_true q461
    have p462 : 0 ≤ (1 : Int) := (by omega)
    have q462 : 1 < (l1.length : Int) := ydt
    obtain ⟨ad462, e462, hx462_0⟩ := Kd.at_int HR1.out 1 p462 q462
    obtain rfl : ad460 = ad462 := (by injection e462)
    (try simp only [show (1 : Int).toNat = 1 from rfl, Nat.reduceMul, Nat.reduceEqDiff, Go.Addr.add, ↓reduceIte] at hx462_0)
    have qi462 : (1 < l1.length) = True := eq_true (by omega)
    (try rw [show ((1 : Int)).toNat = 1 from rfl] at hx462_0)
    replace hx462_0 := ybx HB.out hx462_0
    replace p462 := eq_true p462
    replace q462 := eq_true q462
    have p463 : 0 ≤ (0 : Int) := (by omega)
    have q463 : 0 < (l1.length : Int) := ydt
    obtain ⟨ad463, e463, hx463_0⟩ := Kd.at_int HR1.out 0 p463 q463
    obtain rfl : ad460 = ad463 := (by injection e463)
    have qi463 : (0 < l1.length) = True := eq_true (by omega)
    (try rw [show ((0 : Int)).toNat = 0 from rfl] at hx463_0)
    (try rw [Addr.add_zero'] at hx463_0)
    replace hx463_0 := ybx HB.out hx463_0
    replace p463 := eq_true p463
    replace q463 := eq_true q463
    go_wp2
    repeat (go_quiet (fail); try go_wp2)
    go_ret
    exact ⟨by first | rfl | (simp [errW_none, errW_some] <;> rfl) | (simp only [← hji28]; first | rfl | (simp [errW_none, errW_some] <;> rfl)) | (simp [*, errW_none, errW_some] <;> rfl), yhb⟩
   rw [if_pos c4] at H
   have c4b0 : decide (x11_1 < (l1.length : Int)) = true := decide_eq_true c4
   clear c4
   replace H := yif H
   obtain ⟨c5b0, H⟩ := H
   replace H := yif H
   obtain ⟨c6b0, H⟩ := H
   by_cases c7 : a0_0 = 1
   rotate_left
   ·rw [if_neg c7] at H
    have c7b0 : (a0_0 == 1) = false := beq_eq_false_iff_ne.mpr c7
    have c7b1 : (a0_0 != 1) = true := bne_iff_ne.mpr c7
    have H' := yam H
    clear H
    have p455 : 0 ≤ (x11_1 : Int) := ydt
    have q455 : x11_1 < (l1.length : Int) := ydt
    obtain ⟨ad455, e455, hx455_0⟩ := Kd.at_int HR1.out x11_1 p455 q455
    cases e455
    replace hx455_0 := ybx HB.out hx455_0
    replace p455 := eq_true p455
    replace q455 := eq_true q455
    obtain ⟨hcz16_0, hcz16_1, hcz16_2, hfz16_0, hfz16_1, hfz16_2⟩ := ybc BK454.out
    go_wp2
    repeat (go_quiet (fail); try go_wp2)
    go_roundg k1
    case measure => have := HK1.out; omega
    case rel => exact ⟨(wrap64 (x5_1 + (rd l1 x11_1))), (wrap64 (x6_1 * (rd l1 x11_1))), (wrap64 (x11_1 + 1)), yeq, yeq, yeq, H', ⟨by have := HK1.out; omega⟩, ⟨by (with_reducible repeat (first | refine ybn ?_ _ | refine ybd ?_ | refine yba ?_ _)); exact BK454.out⟩, ⟨yhb⟩⟩
   rw [if_pos c7] at H
   have c7b0 : (a0_0 == 1) = true := beq_iff_eq.mpr c7
   have c7b1 : (a0_0 != 1) = false := bne_eq_false_iff_eq.mpr c7
   clear c7
   have c8b0 := eq_true (ydt : 0 ≤ x11_1)
   replace H := yig H
   obtain ⟨c9, H⟩ := H
   have c9b0 := eq_true c9
   have c9b1 : decide (x11_1 ≤ (l1.length : Int)) = true := decide_eq_true c9
   clear c9
   replace H := Option.bind_eq_some_iff.mp H
   obtain ⟨t457, A100, H⟩ := H
   try dsimp only at H
   have A10 := yam A100
   clear A100
   by_cases c11 : t457 = true
   ·subst c11
    have H1 : (some false) = some r := by rw [if_pos rfl] at H; exact H
    clear H
    have H := H1
    clear H1
    obtain rfl := Option.some.inj H
    have p455 : 0 ≤ (x11_1 : Int) := ydt
    have q455 : x11_1 < (l1.length : Int) := ydt
    obtain ⟨ad455, e455, hx455_0⟩ := Kd.at_int HR1.out x11_1 p455 q455
    cases e455
    replace hx455_0 := ybx HB.out hx455_0
    replace p455 := eq_true p455
    replace q455 := eq_true q455
    obtain ⟨hcz12_0, hcz12_1, hcz12_2, hfz12_0, hfz12_1, hfz12_2⟩ := ybc BK454.out
    obtain ⟨i013, hi013, _, hsz13, _⟩ := info_parts info3
    obtain ⟨hcut13, hA13, hC13⟩ := print_take_of (P := Try.prog) (Value.int .i64) 0 22 3 .i64 Try.underlying22 hi013 hsz13 (some ad455) c1 l1 x11_1 (ydt) (ydt) HC1.out
    have hl13_ : (l1.take (x11_1 : Int).toNat).length = (x11_1 : Int).toNat := by
     have e0_ : 0 ≤ (x11_1 : Int) := ydt
     have e1_ : (x11_1 : Int) ≤ (l1.length : Int) := ydt
     rw [List.length_take]; omega
    have HR456 := yam (Kd.C_of_reads (h1 := fun _ => rfl) (hA13 _ (Kd.reads_of_C HR1.out)))
    have HC456 := yam hC13
    clear hA13 hC13 hi013 hsz13
    go_wp2_with (first | (go_at_call 85; (first | (with_reducible refine (slices_Contains_int_int.calls k1 _ _ (l1.take (x11_1 : Int).toNat) (rd l1 x11_1) true _ ?side1 ?side2 A10.out).mono ?_) | (rw [← hl13_]; (with_reducible refine (slices_Contains_int_int.calls k1 _ _ (l1.take (x11_1 : Int).toNat) (rd l1 x11_1) true _ ?side1 ?side2 A10.out).mono ?_))); (case side1 => exact Kd.Cz ((Kd.C_below HR456.out HB.out))); (case side2 => exact HC456.out); rintro e w' ⟨rfl, ⟨nd, rfl⟩⟩; (try first | exact ⟨rfl, _, World.drewN_drewN _ _ _⟩ | exact ⟨rfl, _, Eq.trans (World.drewN_drewN _ _ _) (congrArg (World.drewN _) (Nat.add_assoc _ _ _))⟩)))
    repeat (go_quiet (first | (go_at_call 85; (first | (with_reducible refine (slices_Contains_int_int.calls k1 _ _ (l1.take (x11_1 : Int).toNat) (rd l1 x11_1) true _ ?side1 ?side2 A10.out).mono ?_) | (rw [← hl13_]; (with_reducible refine (slices_Contains_int_int.calls k1 _ _ (l1.take (x11_1 : Int).toNat) (rd l1 x11_1) true _ ?side1 ?side2 A10.out).mono ?_))); (case side1 => exact Kd.Cz ((Kd.C_below HR456.out HB.out))); (case side2 => exact HC456.out); rintro e w' ⟨rfl, ⟨nd, rfl⟩⟩; (try first | exact ⟨rfl, _, World.drewN_drewN _ _ _⟩ | exact ⟨rfl, _, Eq.trans (World.drewN_drewN _ _ _) (congrArg (World.drewN _) (Nat.add_assoc _ _ _))⟩))); try go_wp2_with (first | (go_at_call 85; (first | (with_reducible refine (slices_Contains_int_int.calls k1 _ _ (l1.take (x11_1 : Int).toNat) (rd l1 x11_1) true _ ?side1 ?side2 A10.out).mono ?_) | (rw [← hl13_]; (with_reducible refine (slices_Contains_int_int.calls k1 _ _ (l1.take (x11_1 : Int).toNat) (rd l1 x11_1) true _ ?side1 ?side2 A10.out).mono ?_))); (case side1 => exact Kd.Cz ((Kd.C_below HR456.out HB.out))); (case side2 => exact HC456.out); rintro e w' ⟨rfl, ⟨nd, rfl⟩⟩; (try first | exact ⟨rfl, _, World.drewN_drewN _ _ _⟩ | exact ⟨rfl, _, Eq.trans (World.drewN_drewN _ _ _) (congrArg (World.drewN _) (Nat.add_assoc _ _ _))⟩))))
    go_ret
    exact ⟨yer, yhb⟩
   replace c11 := Bool.eq_false_iff.mpr c11
   subst c11
   have H1 : (impl_valuesHold.l0 k1 l1 (wrap64 (x5_1 + (rd l1 x11_1))) (wrap64 (x6_1 * (rd l1 x11_1))) l1 (l1.length : Int) (wrap64 (x11_1 + 1)) a0_0 l0_1 a0_2) = some r := by rw [if_neg (show ¬ (false = true) by decide)] at H; exact H
   clear H
   have H := H1
   clear H1
   have H' := yam H
   clear H
   have p455 : 0 ≤ (x11_1 : Int) := ydt
   have q455 : x11_1 < (l1.length : Int) := ydt
   obtain ⟨ad455, e455, hx455_0⟩ := Kd.at_int HR1.out x11_1 p455 q455
   cases e455
   replace hx455_0 := ybx HB.out hx455_0
   replace p455 := eq_true p455
   replace q455 := eq_true q455
   obtain ⟨hcz14_0, hcz14_1, hcz14_2, hfz14_0, hfz14_1, hfz14_2⟩ := ybc BK454.out
   obtain ⟨i015, hi015, _, hsz15, _⟩ := info_parts info3
   obtain ⟨hcut15, hA15, hC15⟩ := print_take_of (P := Try.prog) (Value.int .i64) 0 22 3 .i64 Try.underlying22 hi015 hsz15 (some ad455) c1 l1 x11_1 (ydt) (ydt) HC1.out
   have hl15_ : (l1.take (x11_1 : Int).toNat).length = (x11_1 : Int).toNat := by
    have e0_ : 0 ≤ (x11_1 : Int) := ydt
    have e1_ : (x11_1 : Int) ≤ (l1.length : Int) := ydt
    rw [List.length_take]; omega
   have HR456 := yam (Kd.C_of_reads (h1 := fun _ => rfl) (hA15 _ (Kd.reads_of_C HR1.out)))
   have HC456 := yam hC15
   clear hA15 hC15 hi015 hsz15
   go_wp2_with (first | (go_at_call 85; (first | (with_reducible refine (slices_Contains_int_int.calls k1 _ _ (l1.take (x11_1 : Int).toNat) (rd l1 x11_1) false _ ?side1 ?side2 A10.out).mono ?_) | (rw [← hl15_]; (with_reducible refine (slices_Contains_int_int.calls k1 _ _ (l1.take (x11_1 : Int).toNat) (rd l1 x11_1) false _ ?side1 ?side2 A10.out).mono ?_))); (case side1 => exact Kd.Cz ((Kd.C_below HR456.out HB.out))); (case side2 => exact HC456.out); rintro e w' ⟨rfl, ⟨nd, rfl⟩⟩; (try first | exact ⟨rfl, _, World.drewN_drewN _ _ _⟩ | exact ⟨rfl, _, Eq.trans (World.drewN_drewN _ _ _) (congrArg (World.drewN _) (Nat.add_assoc _ _ _))⟩)))
   repeat (go_quiet (first | (go_at_call 85; (first | (with_reducible refine (slices_Contains_int_int.calls k1 _ _ (l1.take (x11_1 : Int).toNat) (rd l1 x11_1) false _ ?side1 ?side2 A10.out).mono ?_) | (rw [← hl15_]; (with_reducible refine (slices_Contains_int_int.calls k1 _ _ (l1.take (x11_1 : Int).toNat) (rd l1 x11_1) false _ ?side1 ?side2 A10.out).mono ?_))); (case side1 => exact Kd.Cz ((Kd.C_below HR456.out HB.out))); (case side2 => exact HC456.out); rintro e w' ⟨rfl, ⟨nd, rfl⟩⟩; (try first | exact ⟨rfl, _, World.drewN_drewN _ _ _⟩ | exact ⟨rfl, _, Eq.trans (World.drewN_drewN _ _ _) (congrArg (World.drewN _) (Nat.add_assoc _ _ _))⟩))); try go_wp2_with (first | (go_at_call 85; (first | (with_reducible refine (slices_Contains_int_int.calls k1 _ _ (l1.take (x11_1 : Int).toNat) (rd l1 x11_1) false _ ?side1 ?side2 A10.out).mono ?_) | (rw [← hl15_]; (with_reducible refine (slices_Contains_int_int.calls k1 _ _ (l1.take (x11_1 : Int).toNat) (rd l1 x11_1) false _ ?side1 ?side2 A10.out).mono ?_))); (case side1 => exact Kd.Cz ((Kd.C_below HR456.out HB.out))); (case side2 => exact HC456.out); rintro e w' ⟨rfl, ⟨nd, rfl⟩⟩; (try first | exact ⟨rfl, _, World.drewN_drewN _ _ _⟩ | exact ⟨rfl, _, Eq.trans (World.drewN_drewN _ _ _) (congrArg (World.drewN _) (Nat.add_assoc _ _ _))⟩))))
   go_roundg k1
   case measure => have := HK1.out; omega
   case rel => exact ⟨(wrap64 (x5_1 + (rd l1 x11_1))), (wrap64 (x6_1 * (rd l1 x11_1))), (wrap64 (x11_1 + 1)), yeq, yeq, yeq, H', ⟨by have := HK1.out; omega⟩, ⟨by (with_reducible repeat (first | refine ybn ?_ _ | refine ybd ?_ | refine yba ?_ _)); exact BK454.out⟩, ⟨yhb⟩⟩
end Go.Proofs.Ytdemlminhkhonaa.P
