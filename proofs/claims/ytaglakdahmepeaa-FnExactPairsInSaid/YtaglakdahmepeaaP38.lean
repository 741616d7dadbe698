/- The machine's side of laws of this seat: each Go function as a plain Lean function and the proof that the machine's call does what that function says; written by this session's own program over the kit's print. -/
import Derived.Test.YtaglakdahmepeaaP0
import Derived.Test.YtaglakdahmepeaaP4
import Derived.Test.YtaglakdahmepeaaP9
import Derived.Test.YtaglakdahmepeaaP16
namespace Go.Proofs.Ytaglakdahmepeaa.P
open Go.RowKit Go.Proofs.YtaglakdahmepeaaW.PrintWords Go.Proofs.YtaglakdahmepeaaW.PrintLast Go.Proofs.YtaglakdahmepeaaW.PrintMore
attribute [local go_sem] max2_int min2_int max_two min_two max_three min_three max_four min_four   -- for this text's walks alone
set_option linter.unusedVariables false
set_option linter.unusedSimpArgs false

/-! ### impl_PairsIn: function 41 -/
mutual
def impl_PairsInV.j0 : Nat → List Int → List Int → Bool → Option (Int)
  | 0, _, _, _ => none
  | k + 1, x0, x7, x23 => if x23 = true then (some (-1)) else (impl_PairsInV.l0 k x0 x7 0 x7 (x7.length : Int) 0)
def impl_PairsInV.l0 : Nat → List Int → List Int → Int → List Int → Int → Int → Option (Int)
  | 0, _, _, _, _, _, _ => none
  | k + 1, x0, x7, x8, x24, x25, x26 => if x26 < x25 then (if 0 ≤ x26 then (if x26 < (x24.length : Int) then (if 0 ≤ (wrap64 (x26 + 1)) then (if (wrap64 (x26 + 1)) ≤ (x7.length : Int) then ((some (x7.drop ((wrap64 (x26 + 1)) : Int).toNat : List Int)).bind fun y548 => (impl_PairsInV.l1 k x0 x7 x8 (rd x24 x26) x24 x25 x26 y548 (y548.length : Int) 0)) else (none)) else (none)) else (none)) else (none)) else (some x8)
def impl_PairsInV.l1 : Nat → List Int → List Int → Int → Int → List Int → Int → Int → List Int → Int → Int → Option (Int)
  | 0, _, _, _, _, _, _, _, _, _, _ => none
  | k + 1, x0, x7, x8, x10, x24, x25, x26, x34, x35, x36 => if x36 < x35 then (if 0 ≤ x36 then (if x36 < (x34.length : Int) then (if 0 ≤ x10 then (if x10 < (x0.length : Int) then (if 0 ≤ (rd x34 x36) then (if (rd x34 x36) < (x0.length : Int) then (if (rd x0 x10) = (rd x0 (rd x34 x36)) then ((bits_OnesCount.f (IntKind.u64.wrap (rd x0 x10))).bind fun t556 => (if t556 = 2 then (impl_PairsInV.l1 k x0 x7 (wrap64 (x8 + 1)) x10 x24 x25 x26 x34 x35 (wrap64 (x36 + 1))) else (impl_PairsInV.l1 k x0 x7 x8 x10 x24 x25 x26 x34 x35 (wrap64 (x36 + 1))))) else (impl_PairsInV.l1 k x0 x7 x8 x10 x24 x25 x26 x34 x35 (wrap64 (x36 + 1)))) else (none)) else (none)) else (none)) else (none)) else (none)) else (none)) else (impl_PairsInV.l0 k x0 x7 x8 x24 x25 (wrap64 (x26 + 1)))
end
def impl_PairsInV.f (k : Nat) (l0 : List Int) (a1 : Int) (a2 : Int) : Option (Int) := (impl_LineCells.f k a1 a2).bind fun t543 => ((impl_MasksValid.f k l0 a1).bind fun t546 => (if t546 = true then (if (t543.length : Int) = 0 then (none) else (impl_PairsInV.j0 k l0 t543 false)) else (impl_PairsInV.j0 k l0 t543 true)))
theorem impl_PairsInV.mono_l : ∀ k, (∀ y0 y1 y2, LeO (impl_PairsInV.j0 k y0 y1 y2) (impl_PairsInV.j0 (k + 1) y0 y1 y2)) ∧ (∀ y0 y1 y2 y3 y4 y5, LeO (impl_PairsInV.l0 k y0 y1 y2 y3 y4 y5) (impl_PairsInV.l0 (k + 1) y0 y1 y2 y3 y4 y5)) ∧ (∀ y0 y1 y2 y3 y4 y5 y6 y7 y8 y9, LeO (impl_PairsInV.l1 k y0 y1 y2 y3 y4 y5 y6 y7 y8 y9) (impl_PairsInV.l1 (k + 1) y0 y1 y2 y3 y4 y5 y6 y7 y8 y9))
  | 0 => ⟨fun _ _ _ r h => by simp [impl_PairsInV.j0] at h, fun _ _ _ _ _ _ r h => by simp [impl_PairsInV.l0] at h, fun _ _ _ _ _ _ _ _ _ _ r h => by simp [impl_PairsInV.l1] at h⟩
  | k + 1 => by
    obtain ⟨ih0, ih1, ih2⟩ := impl_PairsInV.mono_l k
    refine ⟨?_, ?_, ?_⟩
    · intro y0 y1 y2
      unfold impl_PairsInV.j0
      repeat' first
      | (with_reducible exact ih0 _ _ _)
      | (with_reducible exact ih1 _ _ _ _ _ _)
      | (with_reducible exact ih2 _ _ _ _ _ _ _ _ _ _)
      | (with_reducible exact impl_LineCells.mono _ _ _)
      | (with_reducible exact impl_MasksValid.mono _ _ _)
      | (with_reducible exact LeO.refl _)
      | (with_reducible exact LeO.none _)
      | (with_reducible refine LeO.ite ?_ ?_)
      | (with_reducible refine LeO.bind ?_ (fun _ => ?_))
      | exact ih0 _ _ _
      | exact ih1 _ _ _ _ _ _
      | exact ih2 _ _ _ _ _ _ _ _ _ _
      | exact impl_LineCells.mono _ _ _
      | exact impl_MasksValid.mono _ _ _
      | exact LeO.none _
      | refine LeO.ite ?_ ?_
      | refine LeO.bind ?_ (fun _ => ?_)
    · intro y0 y1 y2 y3 y4 y5
      unfold impl_PairsInV.l0
      repeat' first
      | (with_reducible exact ih0 _ _ _)
      | (with_reducible exact ih1 _ _ _ _ _ _)
      | (with_reducible exact ih2 _ _ _ _ _ _ _ _ _ _)
      | (with_reducible exact impl_LineCells.mono _ _ _)
      | (with_reducible exact impl_MasksValid.mono _ _ _)
      | (with_reducible exact LeO.refl _)
      | (with_reducible exact LeO.none _)
      | (with_reducible refine LeO.ite ?_ ?_)
      | (with_reducible refine LeO.bind ?_ (fun _ => ?_))
      | exact ih0 _ _ _
      | exact ih1 _ _ _ _ _ _
      | exact ih2 _ _ _ _ _ _ _ _ _ _
      | exact impl_LineCells.mono _ _ _
      | exact impl_MasksValid.mono _ _ _
      | exact LeO.none _
      | refine LeO.ite ?_ ?_
      | refine LeO.bind ?_ (fun _ => ?_)
    · intro y0 y1 y2 y3 y4 y5 y6 y7 y8 y9
      unfold impl_PairsInV.l1
      repeat' first
      | (with_reducible exact ih0 _ _ _)
      | (with_reducible exact ih1 _ _ _ _ _ _)
      | (with_reducible exact ih2 _ _ _ _ _ _ _ _ _ _)
      | (with_reducible exact impl_LineCells.mono _ _ _)
      | (with_reducible exact impl_MasksValid.mono _ _ _)
      | (with_reducible exact LeO.refl _)
      | (with_reducible exact LeO.none _)
      | (with_reducible refine LeO.ite ?_ ?_)
      | (with_reducible refine LeO.bind ?_ (fun _ => ?_))
      | exact ih0 _ _ _
      | exact ih1 _ _ _ _ _ _
      | exact ih2 _ _ _ _ _ _ _ _ _ _
      | exact impl_LineCells.mono _ _ _
      | exact impl_MasksValid.mono _ _ _
      | exact LeO.none _
      | refine LeO.ite ?_ ?_
      | refine LeO.bind ?_ (fun _ => ?_)
theorem impl_PairsInV.mono : ∀ a0 a1 a2 k, LeO (impl_PairsInV.f k a0 a1 a2) (impl_PairsInV.f (k + 1) a0 a1 a2) := by
  intro a0 a1 a2 k
  obtain ⟨ih0, ih1, ih2⟩ := impl_PairsInV.mono_l k
  unfold impl_PairsInV.f
  repeat' first
      | (with_reducible exact ih0 _ _ _)
      | (with_reducible exact ih1 _ _ _ _ _ _)
      | (with_reducible exact ih2 _ _ _ _ _ _ _ _ _ _)
      | (with_reducible exact impl_LineCells.mono _ _ _)
      | (with_reducible exact impl_MasksValid.mono _ _ _)
      | (with_reducible exact LeO.refl _)
      | (with_reducible exact LeO.none _)
      | (with_reducible refine LeO.ite ?_ ?_)
      | (with_reducible refine LeO.bind ?_ (fun _ => ?_))
      | exact ih0 _ _ _
      | exact ih1 _ _ _ _ _ _
      | exact ih2 _ _ _ _ _ _ _ _ _ _
      | exact impl_LineCells.mono _ _ _
      | exact impl_MasksValid.mono _ _ _
      | exact LeO.none _
      | refine LeO.ite ?_ ?_
      | refine LeO.bind ?_ (fun _ => ?_)
set_option maxHeartbeats 8000000 in
set_option maxRecDepth 100000 in
theorem impl_PairsInV.calls (k : Nat) (A0 : Option Addr) (c0 : Nat) (l0 : List Int) (a1 : Int) (a2 : Int) (r : Int) (w : World) (hr0 : Kd.C (Kd.int .i64) w A0 l0.length l0) (hc0 : l0.length ≤ c0) (h : impl_PairsInV.f k l0 a1 a2 = some r) :
    Calls Try.prog 41 #[.slice A0 l0.length c0, .int .i64 a1, .int .i64 a2] w fun e w' => e = .returned (.int .i64 r) ∧ Below w.heap.size w w' := by
  have hnilq22 := fun (W : World) (A : Option Addr) (n c : Nat) => Lib.run_eql_slice_nil (P := Try.prog) W 22 3 A n c 0 0 Try.underlying22
  have HR0 := Aside0.mk hr0
  have HC0 := Aside0.mk hc0
  clear hr0 hc0
  have HB := Aside0.mk (Below.refl w.heap.size w)
  have H : ((impl_LineCells.f k a1 a2).bind fun t543 => ((impl_MasksValid.f k l0 a1).bind fun t546 => (if t546 = true then (if (t543.length : Int) = 0 then (none) else (impl_PairsInV.j0 k l0 t543 false)) else (impl_PairsInV.j0 k l0 t543 true)))) = some r := h
  clear h
  replace H := Option.bind_eq_some_iff.mp H
  obtain ⟨t543, A40, H⟩ := H
  replace H : ((impl_MasksValid.f k l0 a1).bind fun t546 => (if t546 = true then (if (t543.length : Int) = 0 then (none) else (impl_PairsInV.j0 k l0 t543 false)) else (impl_PairsInV.j0 k l0 t543 true))) = some r := H
  have A4 := Aside0.mk A40
  clear A40
  have HC5 := Aside0.mk H
  clear H
  go_enter Try.func41, Try.ntmps41
  go_upto_region 2 with (first | (go_at_call 49; (with_reducible refine (impl_LineCells.calls k a1 a2 t543 _ A4.out).mono ?_); rintro e w6 ⟨v544, rfl, ho0, hb⟩; have n0_ := Aside0.mk (Kd.R_lower ho0 (below_size (by repeat (first | (with_reducible first | exact HB.out | apply below_alloc | apply pw_below_drewN | apply below_drew1) | exact HB.out)))); have n1_ := Aside0.mk (below_step (by repeat (first | (with_reducible first | exact HB.out | apply below_alloc | apply pw_below_drewN | apply below_drew1) | exact HB.out)) hb); clear HB; have HO545 := n0_; have HB := n1_; clear n0_ n1_; (try clear hb); (try clear hb2); (try clear hk); (try clear hi); (try clear ho0)))
  repeat (go_quiet (first | (go_at_call 49; (with_reducible refine (impl_LineCells.calls k a1 a2 t543 _ A4.out).mono ?_); rintro e w6 ⟨v544, rfl, ho0, hb⟩; have n0_ := Aside0.mk (Kd.R_lower ho0 (below_size (by repeat (first | (with_reducible first | exact HB.out | apply below_alloc | apply pw_below_drewN | apply below_drew1) | exact HB.out)))); have n1_ := Aside0.mk (below_step (by repeat (first | (with_reducible first | exact HB.out | apply below_alloc | apply pw_below_drewN | apply below_drew1) | exact HB.out)) hb); clear HB; have HO545 := n0_; have HB := n1_; clear n0_ n1_; (try clear hb); (try clear hb2); (try clear hk); (try clear hi); (try clear ho0))); go_upto_region 2 with (first | (go_at_call 49; (with_reducible refine (impl_LineCells.calls k a1 a2 t543 _ A4.out).mono ?_); rintro e w6 ⟨v544, rfl, ho0, hb⟩; have n0_ := Aside0.mk (Kd.R_lower ho0 (below_size (by repeat (first | (with_reducible first | exact HB.out | apply below_alloc | apply pw_below_drewN | apply below_drew1) | exact HB.out)))); have n1_ := Aside0.mk (below_step (by repeat (first | (with_reducible first | exact HB.out | apply below_alloc | apply pw_below_drewN | apply below_drew1) | exact HB.out)) hb); clear HB; have HO545 := n0_; have HB := n1_; clear n0_ n1_; (try clear hb); (try clear hb2); (try clear hk); (try clear hi); (try clear ho0))))
  (try simp only [Act.put, List.setIfInBounds_toArray, List.set_cons_zero, List.set_cons_succ])
  go_cut [23] (fun v23 wc => ∃ (kq : Nat) (x23_4 : Bool), v23 = .bool x23_4 ∧ Aside0 (impl_PairsInV.j0 kq l0 t543 x23_4 = some r) ∧ Aside0 (kq ≤ k) ∧ Aside0 (Kd.R (Kd.int .i64) 3 wc w.heap.size (fun _ => True) v544 t543) ∧ Aside0 (Below w.heap.size w wc))
  case first =>
    have H := HC5.out
    clear HC5
    replace H := Option.bind_eq_some_iff.mp H
    obtain ⟨t546, A70, H⟩ := H
    replace H : (if t546 = true then (if (t543.length : Int) = 0 then (none) else (impl_PairsInV.j0 k l0 t543 false)) else (impl_PairsInV.j0 k l0 t543 true)) = some r := H
    have A7 := Aside0.mk A70
    clear A70
    by_cases c8 : t546 = true
    · subst c8
      have H1 : (if (t543.length : Int) = 0 then (none) else (impl_PairsInV.j0 k l0 t543 false)) = some r := by rw [if_pos rfl] at H; exact H
      clear H
      have H := H1
      clear H1
      by_cases c9 : (t543.length : Int) = 0
      · rw [if_pos c9] at H
        exact absurd H (by simp)
      · rw [if_neg c9] at H
        have c9b0 : ((t543.length : Int) == 0) = false := beq_eq_false_iff_ne.mpr c9
        have c9b1 : ((t543.length : Int) != 0) = true := bne_iff_ne.mpr c9
        have c9b2 : ¬ (t543 = []) := fun h_ => c9 (by rw [h_]; rfl)
        (first | rw [c9b0] | (simp only [i64_w, i32_w]; rw [c9b0]) | skip)
        have H' := Aside0.mk H
        clear H
        go_wp2_with (first | (go_at_call 52; (with_reducible refine (impl_MasksValid.calls k _ _ l0 a1 true _ ?side1 ?side2 A7.out).mono ?_); (case side1 => repeat (first | exact (Kd.C_below HR0.out HB.out) | (with_reducible refine Kd.C_alloc ?_ _) | (with_reducible refine Kd.C_drewN ?_ _) | (with_reducible refine Kd.C_drew ?_))); (case side2 => exact HC0.out); rintro e w' ⟨rfl, ⟨nd, rfl⟩⟩; (try first | exact ⟨rfl, _, World.drewN_drewN _ _ _⟩ | exact ⟨rfl, _, Eq.trans (World.drewN_drewN _ _ _) (congrArg (World.drewN _) (Nat.add_assoc _ _ _))⟩); obtain ⟨Ao10, co10, eo10⟩ := Kd.R_slice HO545.out; subst eo10; have hnnn11 := Kd.R_isSome HO545.out (show 0 < t543.length from by omega)))
        repeat (go_quiet (first | (go_at_call 52; (with_reducible refine (impl_MasksValid.calls k _ _ l0 a1 true _ ?side1 ?side2 A7.out).mono ?_); (case side1 => repeat (first | exact (Kd.C_below HR0.out HB.out) | (with_reducible refine Kd.C_alloc ?_ _) | (with_reducible refine Kd.C_drewN ?_ _) | (with_reducible refine Kd.C_drew ?_))); (case side2 => exact HC0.out); rintro e w' ⟨rfl, ⟨nd, rfl⟩⟩; (try first | exact ⟨rfl, _, World.drewN_drewN _ _ _⟩ | exact ⟨rfl, _, Eq.trans (World.drewN_drewN _ _ _) (congrArg (World.drewN _) (Nat.add_assoc _ _ _))⟩); obtain ⟨Ao10, co10, eo10⟩ := Kd.R_slice HO545.out; subst eo10; have hnnn11 := Kd.R_isSome HO545.out (show 0 < t543.length from by omega))); try go_wp2_with (first | (go_at_call 52; (with_reducible refine (impl_MasksValid.calls k _ _ l0 a1 true _ ?side1 ?side2 A7.out).mono ?_); (case side1 => repeat (first | exact (Kd.C_below HR0.out HB.out) | (with_reducible refine Kd.C_alloc ?_ _) | (with_reducible refine Kd.C_drewN ?_ _) | (with_reducible refine Kd.C_drew ?_))); (case side2 => exact HC0.out); rintro e w' ⟨rfl, ⟨nd, rfl⟩⟩; (try first | exact ⟨rfl, _, World.drewN_drewN _ _ _⟩ | exact ⟨rfl, _, Eq.trans (World.drewN_drewN _ _ _) (congrArg (World.drewN _) (Nat.add_assoc _ _ _))⟩); obtain ⟨Ao10, co10, eo10⟩ := Kd.R_slice HO545.out; subst eo10; have hnnn11 := Kd.R_isSome HO545.out (show 0 < t543.length from by omega))))
        go_meet
        case rel => exact ⟨_, (false), (by first | rfl | (simp; done) | (simp [*]; done)), H', ⟨by first | omega | exact Nat.le_refl _⟩, ⟨by (with_reducible repeat (first | apply Kd.R_alloc | apply Kd.R_drewN | apply Kd.R_drew)); exact HO545.out⟩, ⟨by repeat (first | (with_reducible first | exact HB.out | apply below_alloc | apply pw_below_drewN | apply below_drew1) | exact HB.out)⟩⟩
    · replace c8 := Bool.eq_false_iff.mpr c8
      subst c8
      have H1 : (impl_PairsInV.j0 k l0 t543 true) = some r := by rw [if_neg (show ¬ (false = true) by decide)] at H; exact H
      clear H
      have H := H1
      clear H1
      have H' := Aside0.mk H
      clear H
      go_wp2_with (first | (go_at_call 52; (with_reducible refine (impl_MasksValid.calls k _ _ l0 a1 false _ ?side1 ?side2 A7.out).mono ?_); (case side1 => repeat (first | exact (Kd.C_below HR0.out HB.out) | (with_reducible refine Kd.C_alloc ?_ _) | (with_reducible refine Kd.C_drewN ?_ _) | (with_reducible refine Kd.C_drew ?_))); (case side2 => exact HC0.out); rintro e w' ⟨rfl, ⟨nd, rfl⟩⟩; (try first | exact ⟨rfl, _, World.drewN_drewN _ _ _⟩ | exact ⟨rfl, _, Eq.trans (World.drewN_drewN _ _ _) (congrArg (World.drewN _) (Nat.add_assoc _ _ _))⟩)))
      repeat (go_quiet (first | (go_at_call 52; (with_reducible refine (impl_MasksValid.calls k _ _ l0 a1 false _ ?side1 ?side2 A7.out).mono ?_); (case side1 => repeat (first | exact (Kd.C_below HR0.out HB.out) | (with_reducible refine Kd.C_alloc ?_ _) | (with_reducible refine Kd.C_drewN ?_ _) | (with_reducible refine Kd.C_drew ?_))); (case side2 => exact HC0.out); rintro e w' ⟨rfl, ⟨nd, rfl⟩⟩; (try first | exact ⟨rfl, _, World.drewN_drewN _ _ _⟩ | exact ⟨rfl, _, Eq.trans (World.drewN_drewN _ _ _) (congrArg (World.drewN _) (Nat.add_assoc _ _ _))⟩))); try go_wp2_with (first | (go_at_call 52; (with_reducible refine (impl_MasksValid.calls k _ _ l0 a1 false _ ?side1 ?side2 A7.out).mono ?_); (case side1 => repeat (first | exact (Kd.C_below HR0.out HB.out) | (with_reducible refine Kd.C_alloc ?_ _) | (with_reducible refine Kd.C_drewN ?_ _) | (with_reducible refine Kd.C_drew ?_))); (case side2 => exact HC0.out); rintro e w' ⟨rfl, ⟨nd, rfl⟩⟩; (try first | exact ⟨rfl, _, World.drewN_drewN _ _ _⟩ | exact ⟨rfl, _, Eq.trans (World.drewN_drewN _ _ _) (congrArg (World.drewN _) (Nat.add_assoc _ _ _))⟩))))
      go_meet
      case rel => exact ⟨_, (true), (by first | rfl | (simp; done) | (simp [*]; done)), H', ⟨by first | omega | exact Nat.le_refl _⟩, ⟨by (with_reducible repeat (first | apply Kd.R_alloc | apply Kd.R_drewN | apply Kd.R_drew)); exact HO545.out⟩, ⟨by repeat (first | (with_reducible first | exact HB.out | apply below_alloc | apply pw_below_drewN | apply below_drew1) | exact HB.out)⟩⟩
  case rest =>
    clear HC5
    try clear p2
    try clear c4
    try clear c8
    try clear c9
    try clear c9b0
    try clear c9b1
    try clear c9b2
    obtain ⟨kq, x23_4, rfl, HA, HJ4, HO_7, HB⟩ := hcut
    cases kq with
    | zero => exact absurd HA.out (by simp [impl_PairsInV.j0])
    | succ kj4 =>
      have H := HA.out
      clear HA
      simp only [impl_PairsInV.j0] at H
      by_cases c12 : x23_4 = true
      · subst c12
        have H1 : (some (-1)) = some r := by rw [if_pos rfl] at H; exact H
        clear H
        have H := H1
        clear H1
        obtain rfl := Option.some.inj H
        go_wp2
        repeat (go_quiet (fail); try go_wp2)
        go_ret
        exact ⟨by first | rfl | (simp [errW_none, errW_some] <;> rfl) | (simp [*, errW_none, errW_some] <;> rfl), by repeat (first | (with_reducible first | exact HB.out | apply below_alloc | apply pw_below_drewN | apply below_drew1) | exact HB.out)⟩
      · replace c12 := Bool.eq_false_iff.mpr c12
        subst c12
        have H1 : (impl_PairsInV.l0 kj4 l0 t543 0 t543 (t543.length : Int) 0) = some r := by rw [if_neg (show ¬ (false = true) by decide)] at H; exact H
        clear H
        have H := H1
        clear H1
        have H' := Aside0.mk H
        clear H
        obtain ⟨Ao13, co13, eo13⟩ := Kd.R_slice HO_7.out
        subst eo13
        go_wp2
        repeat (go_quiet (fail); try go_wp2)
        go_loopg [8, 26] kj4 (fun kq v8 v26 w' => ∃ (x8_2 : Int) (x26_2 : Int), v8 = .int .i64 x8_2 ∧ v26 = .int .i64 x26_2 ∧ Aside0 (impl_PairsInV.l0 kq l0 t543 x8_2 t543 (t543.length : Int) x26_2 = some r) ∧ Aside0 (kq ≤ kj4) ∧ Aside0 (Kd.R (Kd.int .i64) 3 w' w.heap.size (fun _ => True) (.slice Ao13 t543.length co13) t543) ∧ Aside0 (Kd.R (Kd.int .i64) 3 w' w.heap.size (fun _ => True) (.slice Ao13 t543.length co13) t543) ∧ Aside0 (Below w.heap.size w w'))
        case atStart => exact ⟨(0), (0), (by first | rfl | (simp; done) | (simp [*]; done)), (by first | rfl | (simp; done) | (simp [*]; done)), H', ⟨Nat.le_refl _⟩, ⟨by (with_reducible repeat (first | apply Kd.R_alloc | apply Kd.R_drewN | apply Kd.R_drew)); exact HO_7.out⟩, ⟨by (with_reducible repeat (first | apply Kd.R_alloc | apply Kd.R_drewN | apply Kd.R_drew)); exact HO_7.out⟩, ⟨by repeat (first | (with_reducible first | exact HB.out | apply below_alloc | apply pw_below_drewN | apply below_drew1) | exact HB.out)⟩⟩
        case round =>
          clear H'
          try clear c1
          try clear p2
          try clear c4
          try clear c8
          try clear c9
          try clear c9b0
          try clear c9b1
          try clear c9b2
          try clear c12
          try clear p2
          obtain ⟨x8_2, x26_2, rfl, rfl, HA, HK2, HO_7, HO_24, HB⟩ := hrel
          cases gk with
          | zero => exact absurd HA.out (by simp [impl_PairsInV.l0])
          | succ k2 =>
            have H := HA.out
            clear HA
            simp only [impl_PairsInV.l0] at H
            by_cases c14 : x26_2 < (t543.length : Int)
            · rw [if_pos c14] at H
              have c14b0 : decide (x26_2 < (t543.length : Int)) = true := decide_eq_true c14
              clear c14
              by_cases c15 : 0 ≤ x26_2
              · rw [if_pos c15] at H
                have c15b0 : decide (0 ≤ x26_2) = true := decide_eq_true c15
                clear c15
                by_cases c16 : x26_2 < (t543.length : Int)
                · rw [if_pos c16] at H
                  have c16b0 : decide (x26_2 < (t543.length : Int)) = true := decide_eq_true c16
                  clear c16
                  obtain ⟨ji17, hji17⟩ : ∃ j_ : Int, (wrap64 (x26_2 + 1)) = j_ := ⟨_, rfl⟩
                  replace H : (if 0 ≤ (ji17) then (if (ji17) ≤ (t543.length : Int) then ((some (t543.drop ((ji17) : Int).toNat : List Int)).bind fun y548 => (impl_PairsInV.l1 k2 l0 t543 x8_2 (rd t543 x26_2) t543 (t543.length : Int) x26_2 y548 (y548.length : Int) 0)) else (none)) else (none)) = some r := by first | (rw [hji17] at H; exact H) | (simp only [hji17] at H ⊢; exact H)
                  have hji17w : (IntKind.i64.wrap (x26_2 + 1)) = ji17 := (i64_w _).trans hji17
                  by_cases c18 : 0 ≤ (ji17)
                  · rw [if_pos c18] at H
                    have c18b0 := eq_true c18
                    have c18b1 : decide (0 ≤ (ji17)) = true := decide_eq_true c18
                    clear c18
                    by_cases c19 : (ji17) ≤ (t543.length : Int)
                    · rw [if_pos c19] at H
                      have c19b0 := eq_true c19
                      have c19b1 : decide ((ji17) ≤ (t543.length : Int)) = true := decide_eq_true c19
                      clear c19
                      obtain ⟨y548, hy548⟩ : ∃ y_ : List Int, y_ = (t543.drop ((ji17) : Int).toNat) := ⟨_, rfl⟩
                      replace H : (impl_PairsInV.l1 k2 l0 t543 x8_2 (rd t543 x26_2) t543 (t543.length : Int) x26_2 y548 (y548.length : Int) 0) = some r := by first | (rw [hy548]; with_reducible exact H) | (have H2_ := (Option.bind_some _ _).symm.trans H; rw [hy548]; with_reducible exact H2_) | (have H2_ := (Option.bind_some _ _).symm.trans H; with_reducible exact H2_) | with_reducible exact H | (rw [hy548]; exact H) | exact H
                      have Ny548 := Aside0.mk hy548
                      clear hy548
                      have H' := Aside0.mk H
                      clear H
                      have p547 : 0 ≤ (x26_2 : Int) := of_decide_eq_true (by first | (with_reducible assumption) | assumption)
                      have q547 : x26_2 < (t543.length : Int) := of_decide_eq_true (by first | (with_reducible assumption) | assumption)
                      obtain ⟨ad547, e547, hx547_0⟩ := Kd.at_int (Kd.R_reads' HO_24.out).2.2 x26_2 p547 q547
                      cases e547
                      replace p547 := eq_true p547
                      replace q547 := eq_true q547
                      have q20 : ((ji17) : Int) ≤ ((t543.length : Int) : Int) := of_decide_eq_true (by first | (with_reducible assumption) | assumption)
                      obtain ⟨i020, hi020, _, hsz20, _⟩ := info_parts info3
                      have hroom20 : t543.length ≤ co13 := (Kd.R_reads' HO_7.out).2.1
                      have hC20 : Kd.C (Kd.int .i64) _ (some ad547) t543.length t543 := (Kd.R_reads' HO_7.out).2.2
                      have q020 : (0 : Int) ≤ ((ji17) : Int) := of_decide_eq_true (by first | (with_reducible assumption) | assumption)
                      have hcut20 := cut_from (P := Try.prog) 22 3 .i64 Try.underlying22 hi020 1 hsz20 (some ad547) t543.length co13 (ji17) q020 q20
                      have hr20 := Kd.C_drop (m := ((ji17) : Int).toNat) (c := co13) hC20 (by omega) hroom20
                      obtain ⟨A20, hA20⟩ : ∃ A1, A1 = (if co13 = ((ji17) : Int).toNat then (some ad547) else ((some ad547) : Option Addr).map (·.add (((ji17) : Int).toNat * 1))) := ⟨_, rfl⟩
                      obtain ⟨c20, hc20⟩ : ∃ c1, c1 = co13 - ((ji17) : Int).toNat := ⟨_, rfl⟩
                      have hy20 : y548.length = t543.length - ((ji17) : Int).toNat := (by rw [Ny548.out, List.length_drop] <;> omega)
                      rw [show (t543).drop ((ji17) : Int).toNat = y548 from Ny548.out.symm] at hr20
                      replace hr20 : Kd.C (Kd.int .i64) _ A20 y548.length y548 := (by rw [hA20]; exact hr20)
                      rw [← hy20, ← hA20, ← hc20] at hcut20
                      have HR551 := Aside0.mk hr20
                      have HC551 := Aside0.mk (show y548.length ≤ c20 from by rw [hy20, hc20]; exact Nat.sub_le_sub_right hroom20 _)
                      clear hr20 hC20 hroom20 hi020 hsz20 hc20
                      have KY20 := Aside0.mk hy20
                      have KA20 := Aside0.mk hA20
                      clear hy20 hA20
                      have KL20 := Aside0.mk (show ((ji17) : Int).toNat ≤ t543.length from by omega)
                      replace q20 := eq_true q20
                      go_wp2
                      repeat (go_quiet (fail); try go_wp2)
                      go_loopg [8, 36] k2 (fun kq v8 v36 w' => ∃ (x8_3 : Int) (x36_3 : Int), v8 = .int .i64 x8_3 ∧ v36 = .int .i64 x36_3 ∧ Aside0 (impl_PairsInV.l1 kq l0 t543 x8_3 (rd t543 x26_2) t543 (t543.length : Int) x26_2 y548 (y548.length : Int) x36_3 = some r) ∧ Aside0 (kq ≤ k2) ∧ Aside0 (Kd.R (Kd.int .i64) 3 w' w.heap.size (fun _ => True) (.slice (some ad547) t543.length co13) t543) ∧ Aside0 (Kd.R (Kd.int .i64) 3 w' w.heap.size (fun _ => True) (.slice (some ad547) t543.length co13) t543) ∧ Aside0 (Kd.C (Kd.int .i64) w' A20 y548.length y548) ∧ Aside0 (Below w.heap.size w w'))
                      case atStart => exact ⟨(x8_2), (0), (by first | rfl | (simp; done) | (simp [*]; done)), (by first | rfl | (simp; done) | (simp [*]; done)), H', ⟨Nat.le_refl _⟩, ⟨by (with_reducible repeat (first | apply Kd.R_alloc | apply Kd.R_drewN | apply Kd.R_drew)); exact HO_7.out⟩, ⟨by (with_reducible repeat (first | apply Kd.R_alloc | apply Kd.R_drewN | apply Kd.R_drew)); exact HO_24.out⟩, ⟨by repeat (first | (with_reducible exact HR551.out) | (with_reducible refine Kd.C_alloc ?_ _) | (with_reducible refine Kd.C_drewN ?_ _) | (with_reducible refine Kd.C_drew ?_) | exact HR551.out)⟩, ⟨by repeat (first | (with_reducible first | exact HB.out | apply below_alloc | apply pw_below_drewN | apply below_drew1) | exact HB.out)⟩⟩
                      case round =>
                        clear H'
                        try clear c1
                        try clear c2
                        try clear p2
                        try clear q2
                        try clear c4
                        try clear p5
                        try clear q5
                        try clear hx5
                        try clear p6
                        try clear c8
                        try clear c9
                        try clear c9b0
                        try clear c9b1
                        try clear c9b2
                        try clear c12
                        try clear c14
                        try clear c14b0
                        try clear c15
                        try clear c15b0
                        try clear c16
                        try clear c16b0
                        try clear c18
                        try clear c18b0
                        try clear c18b1
                        try clear c19
                        try clear c19b0
                        try clear c19b1
                        try clear c20
                        try clear q20
                        try clear hx547_0
                        try clear p2
                        try clear p547
                        try clear q020
                        try clear q20
                        try clear q547
                        obtain ⟨x8_3, x36_3, rfl, rfl, HA, HK3, HO_7, HO_24, HR551, HB⟩ := hrel
                        cases gk with
                        | zero => exact absurd HA.out (by simp [impl_PairsInV.l1])
                        | succ k3 =>
                          have H := HA.out
                          clear HA
                          simp only [impl_PairsInV.l1] at H
                          by_cases c21 : x36_3 < (y548.length : Int)
                          · rw [if_pos c21] at H
                            have c21b0 : decide (x36_3 < (y548.length : Int)) = true := decide_eq_true c21
                            clear c21
                            by_cases c22 : 0 ≤ x36_3
                            · rw [if_pos c22] at H
                              have c22b0 : decide (0 ≤ x36_3) = true := decide_eq_true c22
                              clear c22
                              by_cases c23 : x36_3 < (y548.length : Int)
                              · rw [if_pos c23] at H
                                have c23b0 : decide (x36_3 < (y548.length : Int)) = true := decide_eq_true c23
                                clear c23
                                by_cases c24 : 0 ≤ (rd t543 x26_2)
                                · rw [if_pos c24] at H
                                  have c24b0 : decide (0 ≤ (rd t543 x26_2)) = true := decide_eq_true c24
                                  clear c24
                                  by_cases c25 : (rd t543 x26_2) < (l0.length : Int)
                                  · rw [if_pos c25] at H
                                    have c25b0 : decide ((rd t543 x26_2) < (l0.length : Int)) = true := decide_eq_true c25
                                    clear c25
                                    by_cases c26 : 0 ≤ (rd y548 x36_3)
                                    · rw [if_pos c26] at H
                                      have c26b0 : decide (0 ≤ (rd y548 x36_3)) = true := decide_eq_true c26
                                      clear c26
                                      by_cases c27 : (rd y548 x36_3) < (l0.length : Int)
                                      · rw [if_pos c27] at H
                                        have c27b0 : decide ((rd y548 x36_3) < (l0.length : Int)) = true := decide_eq_true c27
                                        clear c27
                                        by_cases c28 : (rd l0 (rd t543 x26_2)) = (rd l0 (rd y548 x36_3))
                                        · rw [if_pos c28] at H
                                          have c28b0 : ((rd l0 (rd t543 x26_2)) == (rd l0 (rd y548 x36_3))) = true := beq_iff_eq.mpr c28
                                          have c28b1 : ((rd l0 (rd t543 x26_2)) != (rd l0 (rd y548 x36_3))) = false := bne_eq_false_iff_eq.mpr c28
                                          clear c28
                                          replace H := Option.bind_eq_some_iff.mp H
                                          obtain ⟨t556, A290, H⟩ := H
                                          replace H : (if t556 = 2 then (impl_PairsInV.l1 k3 l0 t543 (wrap64 (x8_3 + 1)) (rd t543 x26_2) t543 (t543.length : Int) x26_2 y548 (y548.length : Int) (wrap64 (x36_3 + 1))) else (impl_PairsInV.l1 k3 l0 t543 x8_3 (rd t543 x26_2) t543 (t543.length : Int) x26_2 y548 (y548.length : Int) (wrap64 (x36_3 + 1)))) = some r := H
                                          have A29 := Aside0.mk A290
                                          clear A290
                                          by_cases c30 : t556 = 2
                                          · rw [if_pos c30] at H
                                            have c30b0 : (t556 == 2) = true := beq_iff_eq.mpr c30
                                            have c30b1 : (t556 != 2) = false := bne_eq_false_iff_eq.mpr c30
                                            clear c30
                                            have H' := Aside0.mk H
                                            clear H
                                            have p552 : 0 ≤ (x36_3 : Int) := of_decide_eq_true (by first | (with_reducible assumption) | assumption)
                                            have q552 : x36_3 < (y548.length : Int) := of_decide_eq_true (by first | (with_reducible assumption) | assumption)
                                            obtain ⟨ad552, e552, hx552_0⟩ := Kd.at_int (by repeat (first | (with_reducible exact HR551.out) | (with_reducible refine Kd.C_alloc ?_ _) | (with_reducible refine Kd.C_drewN ?_ _) | (with_reducible refine Kd.C_drew ?_) | exact HR551.out)) x36_3 p552 q552
                                            cases e552
                                            replace p552 := eq_true p552
                                            replace q552 := eq_true q552
                                            have p553 : 0 ≤ ((rd t543 x26_2) : Int) := of_decide_eq_true (by first | (with_reducible assumption) | assumption)
                                            have q553 : (rd t543 x26_2) < (l0.length : Int) := of_decide_eq_true (by first | (with_reducible assumption) | assumption)
                                            obtain ⟨ad553, e553, hx553_0⟩ := Kd.at_int HR0.out (rd t543 x26_2) p553 q553
                                            cases e553
                                            replace hx553_0 := (HB.out.cell (World.block_lt_of_cell? w _ hx553_0)).trans hx553_0
                                            replace p553 := eq_true p553
                                            replace q553 := eq_true q553
                                            have p554 : 0 ≤ ((rd y548 x36_3) : Int) := of_decide_eq_true (by first | (with_reducible assumption) | assumption)
                                            have q554 : (rd y548 x36_3) < (l0.length : Int) := of_decide_eq_true (by first | (with_reducible assumption) | assumption)
                                            obtain ⟨ad554, e554, hx554_0⟩ := Kd.at_int HR0.out (rd y548 x36_3) p554 q554
                                            obtain rfl : ad553 = ad554 := (by injection e554)
                                            replace hx554_0 := (HB.out.cell (World.block_lt_of_cell? w _ hx554_0)).trans hx554_0
                                            replace p554 := eq_true p554
                                            replace q554 := eq_true q554
                                            have p555 : 0 ≤ ((rd t543 x26_2) : Int) := of_decide_eq_true (by first | (with_reducible assumption) | assumption)
                                            have q555 : (rd t543 x26_2) < (l0.length : Int) := of_decide_eq_true (by first | (with_reducible assumption) | assumption)
                                            obtain ⟨ad555, e555, hx555_0⟩ := Kd.at_int HR0.out (rd t543 x26_2) p555 q555
                                            obtain rfl : ad553 = ad555 := (by injection e555)
                                            replace hx555_0 := (HB.out.cell (World.block_lt_of_cell? w _ hx555_0)).trans hx555_0
                                            replace p555 := eq_true p555
                                            replace q555 := eq_true q555
                                            go_wp2_with (first | (go_at_call 56; (with_reducible refine (bits_OnesCount.calls (IntKind.u64.wrap (rd l0 (rd t543 x26_2))) t556 _ A29.out).mono ?_); rintro e w' ⟨rfl, ⟨nd, rfl⟩⟩; (try first | exact ⟨rfl, _, World.drewN_drewN _ _ _⟩ | exact ⟨rfl, _, Eq.trans (World.drewN_drewN _ _ _) (congrArg (World.drewN _) (Nat.add_assoc _ _ _))⟩)))
                                            repeat (go_quiet (first | (go_at_call 56; (with_reducible refine (bits_OnesCount.calls (IntKind.u64.wrap (rd l0 (rd t543 x26_2))) t556 _ A29.out).mono ?_); rintro e w' ⟨rfl, ⟨nd, rfl⟩⟩; (try first | exact ⟨rfl, _, World.drewN_drewN _ _ _⟩ | exact ⟨rfl, _, Eq.trans (World.drewN_drewN _ _ _) (congrArg (World.drewN _) (Nat.add_assoc _ _ _))⟩))); try go_wp2_with (first | (go_at_call 56; (with_reducible refine (bits_OnesCount.calls (IntKind.u64.wrap (rd l0 (rd t543 x26_2))) t556 _ A29.out).mono ?_); rintro e w' ⟨rfl, ⟨nd, rfl⟩⟩; (try first | exact ⟨rfl, _, World.drewN_drewN _ _ _⟩ | exact ⟨rfl, _, Eq.trans (World.drewN_drewN _ _ _) (congrArg (World.drewN _) (Nat.add_assoc _ _ _))⟩))))
                                            go_roundg k3
                                            case measure => have := HJ4.out; have := HK2.out; have := HK3.out; omega
                                            case rel => exact ⟨(wrap64 (x8_3 + 1)), (wrap64 (x36_3 + 1)), (by first | rfl | (simp; done) | (simp [*]; done)), (by first | rfl | (simp; done) | (simp [*]; done)), H', ⟨by have := HJ4.out; have := HK2.out; have := HK3.out; omega⟩, ⟨by (with_reducible repeat (first | apply Kd.R_alloc | apply Kd.R_drewN | apply Kd.R_drew)); exact HO_7.out⟩, ⟨by (with_reducible repeat (first | apply Kd.R_alloc | apply Kd.R_drewN | apply Kd.R_drew)); exact HO_24.out⟩, ⟨by repeat (first | (with_reducible exact HR551.out) | (with_reducible refine Kd.C_alloc ?_ _) | (with_reducible refine Kd.C_drewN ?_ _) | (with_reducible refine Kd.C_drew ?_) | exact HR551.out)⟩, ⟨by repeat (first | (with_reducible first | exact HB.out | apply below_alloc | apply pw_below_drewN | apply below_drew1) | exact HB.out)⟩⟩
                                          · rw [if_neg c30] at H
                                            have c30b0 : (t556 == 2) = false := beq_eq_false_iff_ne.mpr c30
                                            have c30b1 : (t556 != 2) = true := bne_iff_ne.mpr c30
                                            have H' := Aside0.mk H
                                            clear H
                                            have p552 : 0 ≤ (x36_3 : Int) := of_decide_eq_true (by first | (with_reducible assumption) | assumption)
                                            have q552 : x36_3 < (y548.length : Int) := of_decide_eq_true (by first | (with_reducible assumption) | assumption)
                                            obtain ⟨ad552, e552, hx552_0⟩ := Kd.at_int (by repeat (first | (with_reducible exact HR551.out) | (with_reducible refine Kd.C_alloc ?_ _) | (with_reducible refine Kd.C_drewN ?_ _) | (with_reducible refine Kd.C_drew ?_) | exact HR551.out)) x36_3 p552 q552
                                            cases e552
                                            replace p552 := eq_true p552
                                            replace q552 := eq_true q552
                                            have p553 : 0 ≤ ((rd t543 x26_2) : Int) := of_decide_eq_true (by first | (with_reducible assumption) | assumption)
                                            have q553 : (rd t543 x26_2) < (l0.length : Int) := of_decide_eq_true (by first | (with_reducible assumption) | assumption)
                                            obtain ⟨ad553, e553, hx553_0⟩ := Kd.at_int HR0.out (rd t543 x26_2) p553 q553
                                            cases e553
                                            replace hx553_0 := (HB.out.cell (World.block_lt_of_cell? w _ hx553_0)).trans hx553_0
                                            replace p553 := eq_true p553
                                            replace q553 := eq_true q553
                                            have p554 : 0 ≤ ((rd y548 x36_3) : Int) := of_decide_eq_true (by first | (with_reducible assumption) | assumption)
                                            have q554 : (rd y548 x36_3) < (l0.length : Int) := of_decide_eq_true (by first | (with_reducible assumption) | assumption)
                                            obtain ⟨ad554, e554, hx554_0⟩ := Kd.at_int HR0.out (rd y548 x36_3) p554 q554
                                            obtain rfl : ad553 = ad554 := (by injection e554)
                                            replace hx554_0 := (HB.out.cell (World.block_lt_of_cell? w _ hx554_0)).trans hx554_0
                                            replace p554 := eq_true p554
                                            replace q554 := eq_true q554
                                            have p555 : 0 ≤ ((rd t543 x26_2) : Int) := of_decide_eq_true (by first | (with_reducible assumption) | assumption)
                                            have q555 : (rd t543 x26_2) < (l0.length : Int) := of_decide_eq_true (by first | (with_reducible assumption) | assumption)
                                            obtain ⟨ad555, e555, hx555_0⟩ := Kd.at_int HR0.out (rd t543 x26_2) p555 q555
                                            obtain rfl : ad553 = ad555 := (by injection e555)
                                            replace hx555_0 := (HB.out.cell (World.block_lt_of_cell? w _ hx555_0)).trans hx555_0
                                            replace p555 := eq_true p555
                                            replace q555 := eq_true q555
                                            go_wp2_with (first | (go_at_call 56; (with_reducible refine (bits_OnesCount.calls (IntKind.u64.wrap (rd l0 (rd t543 x26_2))) t556 _ A29.out).mono ?_); rintro e w' ⟨rfl, ⟨nd, rfl⟩⟩; (try first | exact ⟨rfl, _, World.drewN_drewN _ _ _⟩ | exact ⟨rfl, _, Eq.trans (World.drewN_drewN _ _ _) (congrArg (World.drewN _) (Nat.add_assoc _ _ _))⟩)))
                                            repeat (go_quiet (first | (go_at_call 56; (with_reducible refine (bits_OnesCount.calls (IntKind.u64.wrap (rd l0 (rd t543 x26_2))) t556 _ A29.out).mono ?_); rintro e w' ⟨rfl, ⟨nd, rfl⟩⟩; (try first | exact ⟨rfl, _, World.drewN_drewN _ _ _⟩ | exact ⟨rfl, _, Eq.trans (World.drewN_drewN _ _ _) (congrArg (World.drewN _) (Nat.add_assoc _ _ _))⟩))); try go_wp2_with (first | (go_at_call 56; (with_reducible refine (bits_OnesCount.calls (IntKind.u64.wrap (rd l0 (rd t543 x26_2))) t556 _ A29.out).mono ?_); rintro e w' ⟨rfl, ⟨nd, rfl⟩⟩; (try first | exact ⟨rfl, _, World.drewN_drewN _ _ _⟩ | exact ⟨rfl, _, Eq.trans (World.drewN_drewN _ _ _) (congrArg (World.drewN _) (Nat.add_assoc _ _ _))⟩))))
                                            go_roundg k3
                                            case measure => have := HJ4.out; have := HK2.out; have := HK3.out; omega
                                            case rel => exact ⟨(x8_3), (wrap64 (x36_3 + 1)), (by first | rfl | (simp; done) | (simp [*]; done)), (by first | rfl | (simp; done) | (simp [*]; done)), H', ⟨by have := HJ4.out; have := HK2.out; have := HK3.out; omega⟩, ⟨by (with_reducible repeat (first | apply Kd.R_alloc | apply Kd.R_drewN | apply Kd.R_drew)); exact HO_7.out⟩, ⟨by (with_reducible repeat (first | apply Kd.R_alloc | apply Kd.R_drewN | apply Kd.R_drew)); exact HO_24.out⟩, ⟨by repeat (first | (with_reducible exact HR551.out) | (with_reducible refine Kd.C_alloc ?_ _) | (with_reducible refine Kd.C_drewN ?_ _) | (with_reducible refine Kd.C_drew ?_) | exact HR551.out)⟩, ⟨by repeat (first | (with_reducible first | exact HB.out | apply below_alloc | apply pw_below_drewN | apply below_drew1) | exact HB.out)⟩⟩
                                        · rw [if_neg c28] at H
                                          have c28b0 : ((rd l0 (rd t543 x26_2)) == (rd l0 (rd y548 x36_3))) = false := beq_eq_false_iff_ne.mpr c28
                                          have c28b1 : ((rd l0 (rd t543 x26_2)) != (rd l0 (rd y548 x36_3))) = true := bne_iff_ne.mpr c28
                                          have H' := Aside0.mk H
                                          clear H
                                          have p552 : 0 ≤ (x36_3 : Int) := of_decide_eq_true (by first | (with_reducible assumption) | assumption)
                                          have q552 : x36_3 < (y548.length : Int) := of_decide_eq_true (by first | (with_reducible assumption) | assumption)
                                          obtain ⟨ad552, e552, hx552_0⟩ := Kd.at_int (by repeat (first | (with_reducible exact HR551.out) | (with_reducible refine Kd.C_alloc ?_ _) | (with_reducible refine Kd.C_drewN ?_ _) | (with_reducible refine Kd.C_drew ?_) | exact HR551.out)) x36_3 p552 q552
                                          cases e552
                                          replace p552 := eq_true p552
                                          replace q552 := eq_true q552
                                          have p553 : 0 ≤ ((rd t543 x26_2) : Int) := of_decide_eq_true (by first | (with_reducible assumption) | assumption)
                                          have q553 : (rd t543 x26_2) < (l0.length : Int) := of_decide_eq_true (by first | (with_reducible assumption) | assumption)
                                          obtain ⟨ad553, e553, hx553_0⟩ := Kd.at_int HR0.out (rd t543 x26_2) p553 q553
                                          cases e553
                                          replace hx553_0 := (HB.out.cell (World.block_lt_of_cell? w _ hx553_0)).trans hx553_0
                                          replace p553 := eq_true p553
                                          replace q553 := eq_true q553
                                          have p554 : 0 ≤ ((rd y548 x36_3) : Int) := of_decide_eq_true (by first | (with_reducible assumption) | assumption)
                                          have q554 : (rd y548 x36_3) < (l0.length : Int) := of_decide_eq_true (by first | (with_reducible assumption) | assumption)
                                          obtain ⟨ad554, e554, hx554_0⟩ := Kd.at_int HR0.out (rd y548 x36_3) p554 q554
                                          obtain rfl : ad553 = ad554 := (by injection e554)
                                          replace hx554_0 := (HB.out.cell (World.block_lt_of_cell? w _ hx554_0)).trans hx554_0
                                          replace p554 := eq_true p554
                                          replace q554 := eq_true q554
                                          go_wp2
                                          repeat (go_quiet (fail); try go_wp2)
                                          go_roundg k3
                                          case measure => have := HJ4.out; have := HK2.out; have := HK3.out; omega
                                          case rel => exact ⟨(x8_3), (wrap64 (x36_3 + 1)), (by first | rfl | (simp; done) | (simp [*]; done)), (by first | rfl | (simp; done) | (simp [*]; done)), H', ⟨by have := HJ4.out; have := HK2.out; have := HK3.out; omega⟩, ⟨by (with_reducible repeat (first | apply Kd.R_alloc | apply Kd.R_drewN | apply Kd.R_drew)); exact HO_7.out⟩, ⟨by (with_reducible repeat (first | apply Kd.R_alloc | apply Kd.R_drewN | apply Kd.R_drew)); exact HO_24.out⟩, ⟨by repeat (first | (with_reducible exact HR551.out) | (with_reducible refine Kd.C_alloc ?_ _) | (with_reducible refine Kd.C_drewN ?_ _) | (with_reducible refine Kd.C_drew ?_) | exact HR551.out)⟩, ⟨by repeat (first | (with_reducible first | exact HB.out | apply below_alloc | apply pw_below_drewN | apply below_drew1) | exact HB.out)⟩⟩
                                      · rw [if_neg c27] at H
                                        exact absurd H (by simp)
                                    · rw [if_neg c26] at H
                                      exact absurd H (by simp)
                                  · rw [if_neg c25] at H
                                    exact absurd H (by simp)
                                · rw [if_neg c24] at H
                                  exact absurd H (by simp)
                              · rw [if_neg c23] at H
                                exact absurd H (by simp)
                            · rw [if_neg c22] at H
                              exact absurd H (by simp)
                          · rw [if_neg c21] at H
                            have c21b0 : decide (x36_3 < (y548.length : Int)) = false := decide_eq_false c21
                            clear c21
                            have H' := Aside0.mk H
                            clear H
                            go_wp2
                            repeat (go_quiet (fail); try go_wp2)
                            go_roundg k3
                            case measure => have := HJ4.out; have := HK2.out; have := HK3.out; omega
                            case rel => exact ⟨(x8_3), (wrap64 (x26_2 + 1)), (by first | rfl | (simp; done) | (simp [*]; done)), (by first | rfl | (simp; done) | (simp [*]; done)), H', ⟨by have := HJ4.out; have := HK2.out; have := HK3.out; omega⟩, ⟨by (with_reducible repeat (first | apply Kd.R_alloc | apply Kd.R_drewN | apply Kd.R_drew)); exact HO_7.out⟩, ⟨by (with_reducible repeat (first | apply Kd.R_alloc | apply Kd.R_drewN | apply Kd.R_drew)); exact HO_24.out⟩, ⟨by repeat (first | (with_reducible first | exact HB.out | apply below_alloc | apply pw_below_drewN | apply below_drew1) | exact HB.out)⟩⟩
                    · rw [if_neg c19] at H
                      exact absurd H (by simp)
                  · rw [if_neg c18] at H
                    exact absurd H (by simp)
                · rw [if_neg c16] at H
                  exact absurd H (by simp)
              · rw [if_neg c15] at H
                exact absurd H (by simp)
            · rw [if_neg c14] at H
              have c14b0 : decide (x26_2 < (t543.length : Int)) = false := decide_eq_false c14
              clear c14
              obtain rfl := Option.some.inj H
              go_wp2
              repeat (go_quiet (fail); try go_wp2)
              go_ret
              exact ⟨by first | rfl | (simp [errW_none, errW_some] <;> rfl) | (simp [*, errW_none, errW_some] <;> rfl), by repeat (first | (with_reducible first | exact HB.out | apply below_alloc | apply pw_below_drewN | apply below_drew1) | exact HB.out)⟩

def impl_PairsIn.f (k : Nat) (l0 : List Int) (a1 : Int) (a2 : Int) : Option (Int) := if 2 ≤ a1 ∧ a1 ≤ 4 ∧ 0 ≤ a2 ∧ a2 < 2 * a1 then impl_PairsInV.f k l0 a1 a2 else (impl_MasksValid.f k l0 a1).bind fun _ => some (-1)
theorem impl_PairsIn.mono : ∀ a0 a1 a2 k, LeO (impl_PairsIn.f k a0 a1 a2) (impl_PairsIn.f (k + 1) a0 a1 a2) := by
  intro a0 a1 a2 k
  unfold impl_PairsIn.f
  refine LeO.ite (impl_PairsInV.mono _ _ _ _) (LeO.bind (impl_MasksValid.mono _ _ _) (fun _ => LeO.refl _))
set_option maxHeartbeats 8000000 in
set_option maxRecDepth 100000 in
theorem impl_PairsIn.calls (k : Nat) (A0 : Option Addr) (c0 : Nat) (l0 : List Int) (a1 : Int) (a2 : Int) (r : Int) (w : World) (hr0 : Kd.C (Kd.int .i64) w A0 l0.length l0) (hc0 : l0.length ≤ c0) (h : impl_PairsIn.f k l0 a1 a2 = some r) :
    Calls Try.prog 41 #[.slice A0 l0.length c0, .int .i64 a1, .int .i64 a2] w fun e w' => e = .returned (.int .i64 r) ∧ Below w.heap.size w w' := by
  by_cases hb : 2 ≤ a1 ∧ a1 ≤ 4 ∧ 0 ≤ a2 ∧ a2 < 2 * a1
  · unfold impl_PairsIn.f at h
    rw [if_pos hb] at h
    exact impl_PairsInV.calls k A0 c0 l0 a1 a2 r w hr0 hc0 h
  · unfold impl_PairsIn.f at h
    rw [if_neg hb] at h
    replace h := Option.bind_eq_some_iff.mp h
    obtain ⟨t1, A1, h⟩ := h
    obtain rfl : -1 = r := Option.some.inj h
    clear h
    have HR0 := Aside0.mk hr0
    have HC0 := Aside0.mk hc0
    have HN := Aside0.mk hb
    have AA := Aside0.mk A1
    clear hr0 hc0 hb A1
    have hnilq := fun (W : World) (A : Option Addr) (n c : Nat) => Lib.run_eql_slice_nil (P := Try.prog) W 22 3 A n c 0 0 Try.underlying22
    cases t1 with
    | true =>
      go_enter Try.func41, Try.ntmps41
      go_wp2_with (first | (go_at_call 49; (with_reducible refine (impl_LineCells.nil a1 a2 _ HN.out).mono ?_); rintro e w' ⟨rfl, ⟨nd, rfl⟩⟩) | (go_at_call 52; (with_reducible refine (impl_MasksValid.calls k _ _ l0 a1 true _ (Kd.C_drewN HR0.out _) HC0.out AA.out).mono ?_); rintro e w' ⟨rfl, ⟨nd2, rfl⟩⟩))
      go_ret
      exact ⟨rfl, by repeat (first | (with_reducible exact Below.refl _ _) | apply pw_below_drewN | apply below_drew1 | exact Below.refl _ _)⟩
    | false =>
      go_enter Try.func41, Try.ntmps41
      go_wp2_with (first | (go_at_call 49; (with_reducible refine (impl_LineCells.nil a1 a2 _ HN.out).mono ?_); rintro e w' ⟨rfl, ⟨nd, rfl⟩⟩) | (go_at_call 52; (with_reducible refine (impl_MasksValid.calls k _ _ l0 a1 false _ (Kd.C_drewN HR0.out _) HC0.out AA.out).mono ?_); rintro e w' ⟨rfl, ⟨nd2, rfl⟩⟩))
      go_ret
      exact ⟨rfl, by repeat (first | (with_reducible exact Below.refl _ _) | apply pw_below_drewN | apply below_drew1 | exact Below.refl _ _)⟩

end Go.Proofs.Ytaglakdahmepeaa.P
