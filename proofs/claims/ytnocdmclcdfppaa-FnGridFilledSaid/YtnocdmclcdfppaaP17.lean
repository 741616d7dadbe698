/- The machine's side of laws of this seat: each Go function as a plain Lean function and the proof that the machine's call does what that function says; written by this session's own program over the kit's print. -/
import Derived.Test.YtnocdmclcdfppaaP0
import Derived.Test.YtnocdmclcdfppaaP5
import Derived.Test.YtnocdmclcdfppaaP16
namespace Go.Proofs.Ytnocdmclcdfppaa.P
open Go.RowKit Go.Proofs.YtnocdmclcdfppaaW.PrintWords Go.Proofs.YtnocdmclcdfppaaW.PrintLast Go.Proofs.YtnocdmclcdfppaaW.PrintMore
attribute [local go_sem] max2_int min2_int max_two min_two max_three min_three max_four min_four   -- for this text's walks alone
set_option linter.unusedVariables false
set_option linter.unusedSimpArgs false

/-! ### laws_FnGridFilled: function 6 -/
def laws_FnGridFilled.l0 : Nat → List Int → Int → Int → Int → Option (Bool)
  | 0, _, _, _, _ => none
  | k + 1, x3, x4, x5, x6 => if x6 < (x3.length : Int) then (if 0 ≤ x6 then (if (rd x3 x6) = 0 then (laws_FnGridFilled.l0 k x3 x4 x5 (wrap64 (x6 + 1))) else ((some (([] : List Int) : List Int)).bind fun y326 => (if y326.length + x3.length < 17592186044416 then ((some (y326 ++ x3 : List Int)).bind fun y329 => (if x6 < (y329.length : Int) then ((impl_GridFilled.f k (y329.set (x6 : Int).toNat 0) x4).bind fun t333 => (if t333 = (wrap64 (x5 - 1)) then (laws_FnGridFilled.l0 k x3 x4 x5 (wrap64 (x6 + 1))) else (some false))) else (none))) else (none)))) else (none)) else (if x5 ≤ (wrap64 (x4 * x4)) then (if 0 ≤ (wrap64 (x4 * x4)) then (if (wrap64 (x4 * x4) : Int).toNat ≤ 35184372088832 then ((impl_GridFilled.f k (List.replicate (wrap64 (x4 * x4) : Int).toNat 0) x4).bind fun t324 => (some (t324 == 0))) else (none)) else (none)) else (some false))
def laws_FnGridFilled.f (k : Nat) (l0 : List Int) : Option (Bool) := if (l0.length : Int) > 1048576 then (some true) else ((spec_DrawGridFilled.f k l0).bind fun bt314 => ((impl_GridFilled.f k bt314.1 bt314.2).bind fun t318 => ((spec_GridFilled.f k bt314.1 bt314.2).bind fun t319 => (if t318 = t319 then (if t318 < 0 then (if t318 = (-1) then ((laws_alive.f k).bind fun t320 => (some t320)) else (some false)) else (laws_FnGridFilled.l0 k bt314.1 bt314.2 t318 0)) else (some false)))))
theorem laws_FnGridFilled.mono_l : ∀ k, (∀ y0 y1 y2 y3, LeO (laws_FnGridFilled.l0 k y0 y1 y2 y3) (laws_FnGridFilled.l0 (k + 1) y0 y1 y2 y3))
  | 0 => fun _ _ _ _ r h => by simp [laws_FnGridFilled.l0] at h
  | k + 1 => by
    have ih0 := laws_FnGridFilled.mono_l k
    · intro y0 y1 y2 y3
      unfold laws_FnGridFilled.l0
      repeat' first
      | (with_reducible exact ih0 _ _ _ _)
      | (with_reducible exact impl_GridFilled.mono _ _ _)
      | (with_reducible exact laws_alive.mono _)
      | (with_reducible exact spec_DrawGridFilled.mono _ _)
      | (with_reducible exact spec_GridFilled.mono _ _ _)
      | (with_reducible exact LeO.refl _)
      | (with_reducible exact LeO.none _)
      | (with_reducible refine LeO.ite ?_ ?_)
      | (with_reducible refine LeO.bind ?_ (fun _ => ?_))
      | exact ih0 _ _ _ _
      | exact impl_GridFilled.mono _ _ _
      | exact laws_alive.mono _
      | exact spec_DrawGridFilled.mono _ _
      | exact spec_GridFilled.mono _ _ _
      | exact LeO.none _
      | refine LeO.ite ?_ ?_
      | refine LeO.bind ?_ (fun _ => ?_)
theorem laws_FnGridFilled.mono : ∀ a0 k, LeO (laws_FnGridFilled.f k a0) (laws_FnGridFilled.f (k + 1) a0) := by
  intro a0 k
  have ih0 := laws_FnGridFilled.mono_l k
  unfold laws_FnGridFilled.f
  repeat' first
      | (with_reducible exact ih0 _ _ _ _)
      | (with_reducible exact impl_GridFilled.mono _ _ _)
      | (with_reducible exact laws_alive.mono _)
      | (with_reducible exact spec_DrawGridFilled.mono _ _)
      | (with_reducible exact spec_GridFilled.mono _ _ _)
      | (with_reducible exact LeO.refl _)
      | (with_reducible exact LeO.none _)
      | (with_reducible refine LeO.ite ?_ ?_)
      | (with_reducible refine LeO.bind ?_ (fun _ => ?_))
      | exact ih0 _ _ _ _
      | exact impl_GridFilled.mono _ _ _
      | exact laws_alive.mono _
      | exact spec_DrawGridFilled.mono _ _
      | exact spec_GridFilled.mono _ _ _
      | exact LeO.none _
      | refine LeO.ite ?_ ?_
      | refine LeO.bind ?_ (fun _ => ?_)
set_option maxHeartbeats 8000000 in
set_option maxRecDepth 100000 in
theorem laws_FnGridFilled.calls (k : Nat) (A0 : Option Addr) (c0 : Nat) (l0 : List Int) (r : Bool) (w : World) (hr0 : Kd.C (Kd.int .u8) w A0 l0.length l0) (hc0 : l0.length ≤ c0) (h : laws_FnGridFilled.f k l0 = some r) :
    Calls Try.prog 6 #[.slice A0 l0.length c0] w fun e w' => e = .returned (.bool r) ∧ Below w.heap.size w w' := by
  have HR0 := Aside0.mk hr0
  have HC0 := Aside0.mk hc0
  clear hr0 hc0
  have HB := Aside0.mk (Below.refl w.heap.size w)
  have H : (if (l0.length : Int) > 1048576 then (some true) else ((spec_DrawGridFilled.f k l0).bind fun bt314 => ((impl_GridFilled.f k bt314.1 bt314.2).bind fun t318 => ((spec_GridFilled.f k bt314.1 bt314.2).bind fun t319 => (if t318 = t319 then (if t318 < 0 then (if t318 = (-1) then ((laws_alive.f k).bind fun t320 => (some t320)) else (some false)) else (laws_FnGridFilled.l0 k bt314.1 bt314.2 t318 0)) else (some false)))))) = some r := h
  clear h
  by_cases c2 : (l0.length : Int) > 1048576
  · rw [if_pos c2] at H
    have c2b0 : decide (1048576 < (l0.length : Int)) = true := decide_eq_true c2
    have c2b1 : decide (1048576 < l0.length) = true := decide_eq_true (by omega)
    clear c2
    obtain rfl := Option.some.inj H
    go_enter Try.func6, Try.ntmps6
    go_wp2
    go_ret
    exact ⟨by first | rfl | (simp [errW_none, errW_some] <;> rfl) | (simp [*, errW_none, errW_some] <;> rfl), by repeat (first | (with_reducible first | exact HB.out | apply below_alloc | apply pw_below_drewN | apply below_drew1) | exact HB.out)⟩
  · rw [if_neg c2] at H
    have c2b0 : decide (1048576 < (l0.length : Int)) = false := decide_eq_false c2
    have c2b1 : decide (1048576 < l0.length) = false := decide_eq_false (by omega)
    clear c2
    replace H := Option.bind_eq_some_iff.mp H
    obtain ⟨⟨t314, t315⟩, A30, H⟩ := H
    replace H : ((impl_GridFilled.f k t314 t315).bind fun t318 => ((spec_GridFilled.f k t314 t315).bind fun t319 => (if t318 = t319 then (if t318 < 0 then (if t318 = (-1) then ((laws_alive.f k).bind fun t320 => (some t320)) else (some false)) else (laws_FnGridFilled.l0 k t314 t315 t318 0)) else (some false)))) = some r := H
    have A3 := Aside0.mk A30
    clear A30
    replace H := Option.bind_eq_some_iff.mp H
    obtain ⟨t318, A40, H⟩ := H
    replace H : ((spec_GridFilled.f k t314 t315).bind fun t319 => (if t318 = t319 then (if t318 < 0 then (if t318 = (-1) then ((laws_alive.f k).bind fun t320 => (some t320)) else (some false)) else (laws_FnGridFilled.l0 k t314 t315 t318 0)) else (some false))) = some r := H
    have A4 := Aside0.mk A40
    clear A40
    replace H := Option.bind_eq_some_iff.mp H
    obtain ⟨t319, A50, H⟩ := H
    replace H : (if t318 = t319 then (if t318 < 0 then (if t318 = (-1) then ((laws_alive.f k).bind fun t320 => (some t320)) else (some false)) else (laws_FnGridFilled.l0 k t314 t315 t318 0)) else (some false)) = some r := H
    have A5 := Aside0.mk A50
    clear A50
    by_cases c6 : t318 = t319
    · rw [if_pos c6] at H
      have c6b0 : (t318 == t319) = true := beq_iff_eq.mpr c6
      have c6b1 : (t318 != t319) = false := bne_eq_false_iff_eq.mpr c6
      clear c6
      by_cases c7 : t318 < 0
      · rw [if_pos c7] at H
        have c7b0 : decide (t318 < 0) = true := decide_eq_true c7
        clear c7
        by_cases c8 : t318 = (-1)
        · rw [if_pos c8] at H
          have c8b0 : (t318 == (-1)) = true := beq_iff_eq.mpr c8
          have c8b1 : (t318 != (-1)) = false := bne_eq_false_iff_eq.mpr c8
          clear c8
          replace H := Option.bind_eq_some_iff.mp H
          obtain ⟨t320, A90, H⟩ := H
          replace H : (some t320) = some r := H
          have A9 := Aside0.mk A90
          clear A90
          obtain rfl := Option.some.inj H
          go_enter Try.func6, Try.ntmps6
          go_wp2_with (first | ((with_reducible refine gate_callee (f := 27) rfl ?_); refine goesL_ (some 13) rfl rfl Try.func27 (by kernel_rfl) rfl #[.slice A0 l0.length c0] rfl (by (try simp only [List.map_toArray, List.map_cons, List.map_nil]); first | done | rfl | (simp only [List.length_drop, List.length_take]; rfl)) ?_; (with_reducible refine (spec_DrawGridFilled.calls k _ _ l0 t314 t315 _ ?side1 ?side2 A3.out).mono ?_); (case side1 => repeat (first | exact HR0.out | (with_reducible refine Kd.C_alloc ?_ _) | (with_reducible refine Kd.C_drewN ?_ _) | (with_reducible refine Kd.C_drew ?_))); (case side2 => exact HC0.out); rintro e w10 ⟨v316, rfl, ho0, hb⟩; refine ⟨_, rfl, ?_⟩; have n0_ := Aside0.mk (Kd.Q_lower ho0 (below_size (by repeat (first | (with_reducible first | exact HB.out | apply below_alloc | apply pw_below_drewN | apply below_drew1) | exact HB.out)))); have n1_ := Aside0.mk (below_step (by repeat (first | (with_reducible first | exact HB.out | apply below_alloc | apply pw_below_drewN | apply below_drew1) | exact HB.out)) hb); clear HB; have HO317 := n0_; have HB := n1_; clear n0_ n1_; (try clear hb); (try clear hb2); (try clear hk); (try clear hi); (try clear ho0); obtain ⟨Ao11, co11, eo11, _⟩ := Kd.Q_slice HO317.out; subst eo11) | ((with_reducible refine gate_callee (f := 28) rfl ?_); refine goesL_ (some 18) rfl rfl Try.func28 (by kernel_rfl) rfl #[.slice Ao11 t314.length co11, .int .i64 t315] rfl (by (try simp only [List.map_toArray, List.map_cons, List.map_nil]); first | done | rfl | (simp only [List.length_drop, List.length_take]; rfl)) ?_; (with_reducible refine (impl_GridFilled.calls k _ _ t314 t315 t318 _ ?side1 ?side2 A4.out).mono ?_); (case side1 => repeat (first | exact (Kd.Q_reads' HO317.out).2.2 | (with_reducible refine Kd.C_alloc ?_ _) | (with_reducible refine Kd.C_drewN ?_ _) | (with_reducible refine Kd.C_drew ?_))); (case side2 => exact (Kd.Q_reads' HO317.out).2.1); rintro e w' ⟨rfl, ⟨nd, rfl⟩⟩; refine ⟨_, rfl, ?_⟩) | ((with_reducible refine gate_callee (f := 29) rfl ?_); refine goesL_ (some 22) rfl rfl Try.func29 (by kernel_rfl) rfl #[.slice Ao11 t314.length co11, .int .i64 t315] rfl (by (try simp only [List.map_toArray, List.map_cons, List.map_nil]); first | done | rfl | (simp only [List.length_drop, List.length_take]; rfl)) ?_; (with_reducible refine (spec_GridFilled.calls k _ _ t314 t315 t319 _ ?side1 ?side2 A5.out).mono ?_); (case side1 => repeat (first | exact (Kd.Q_reads' HO317.out).2.2 | (with_reducible refine Kd.C_alloc ?_ _) | (with_reducible refine Kd.C_drewN ?_ _) | (with_reducible refine Kd.C_drew ?_))); (case side2 => exact (Kd.Q_reads' HO317.out).2.1); rintro e w' ⟨rfl, ⟨nd, rfl⟩⟩; refine ⟨_, rfl, ?_⟩) | (go_at_call 19; (with_reducible refine (laws_alive.calls k  t320 _ A9.out).mono ?_); rintro e w12 ⟨rfl, hb⟩; have n0_ := Aside0.mk (Kd.Q_below (by (with_reducible repeat (first | apply Kd.Q_alloc | apply Kd.Q_drewN | apply Kd.Q_drew)); exact HO317.out) hb); have n1_ := Aside0.mk (below_step (by repeat (first | (with_reducible first | exact HB.out | apply below_alloc | apply pw_below_drewN | apply below_drew1) | exact HB.out)) hb); clear HO317; clear HB; have HO317 := n0_; have HB := n1_; clear n0_ n1_; (try clear hb); (try clear hb2); (try clear hk); (try clear hi)))
          go_ret
          exact ⟨by first | rfl | (simp [errW_none, errW_some] <;> rfl) | (simp [*, errW_none, errW_some] <;> rfl), by repeat (first | (with_reducible first | exact HB.out | apply below_alloc | apply pw_below_drewN | apply below_drew1) | exact HB.out)⟩
        · rw [if_neg c8] at H
          have c8b0 : (t318 == (-1)) = false := beq_eq_false_iff_ne.mpr c8
          have c8b1 : (t318 != (-1)) = true := bne_iff_ne.mpr c8
          obtain rfl := Option.some.inj H
          go_enter Try.func6, Try.ntmps6
          go_wp2_with (first | ((with_reducible refine gate_callee (f := 27) rfl ?_); refine goesL_ (some 13) rfl rfl Try.func27 (by kernel_rfl) rfl #[.slice A0 l0.length c0] rfl (by (try simp only [List.map_toArray, List.map_cons, List.map_nil]); first | done | rfl | (simp only [List.length_drop, List.length_take]; rfl)) ?_; (with_reducible refine (spec_DrawGridFilled.calls k _ _ l0 t314 t315 _ ?side1 ?side2 A3.out).mono ?_); (case side1 => repeat (first | exact HR0.out | (with_reducible refine Kd.C_alloc ?_ _) | (with_reducible refine Kd.C_drewN ?_ _) | (with_reducible refine Kd.C_drew ?_))); (case side2 => exact HC0.out); rintro e w13 ⟨v316, rfl, ho0, hb⟩; refine ⟨_, rfl, ?_⟩; have n0_ := Aside0.mk (Kd.Q_lower ho0 (below_size (by repeat (first | (with_reducible first | exact HB.out | apply below_alloc | apply pw_below_drewN | apply below_drew1) | exact HB.out)))); have n1_ := Aside0.mk (below_step (by repeat (first | (with_reducible first | exact HB.out | apply below_alloc | apply pw_below_drewN | apply below_drew1) | exact HB.out)) hb); clear HB; have HO317 := n0_; have HB := n1_; clear n0_ n1_; (try clear hb); (try clear hb2); (try clear hk); (try clear hi); (try clear ho0); obtain ⟨Ao14, co14, eo14, _⟩ := Kd.Q_slice HO317.out; subst eo14) | ((with_reducible refine gate_callee (f := 28) rfl ?_); refine goesL_ (some 18) rfl rfl Try.func28 (by kernel_rfl) rfl #[.slice Ao14 t314.length co14, .int .i64 t315] rfl (by (try simp only [List.map_toArray, List.map_cons, List.map_nil]); first | done | rfl | (simp only [List.length_drop, List.length_take]; rfl)) ?_; (with_reducible refine (impl_GridFilled.calls k _ _ t314 t315 t318 _ ?side1 ?side2 A4.out).mono ?_); (case side1 => repeat (first | exact (Kd.Q_reads' HO317.out).2.2 | (with_reducible refine Kd.C_alloc ?_ _) | (with_reducible refine Kd.C_drewN ?_ _) | (with_reducible refine Kd.C_drew ?_))); (case side2 => exact (Kd.Q_reads' HO317.out).2.1); rintro e w' ⟨rfl, ⟨nd, rfl⟩⟩; refine ⟨_, rfl, ?_⟩) | ((with_reducible refine gate_callee (f := 29) rfl ?_); refine goesL_ (some 22) rfl rfl Try.func29 (by kernel_rfl) rfl #[.slice Ao14 t314.length co14, .int .i64 t315] rfl (by (try simp only [List.map_toArray, List.map_cons, List.map_nil]); first | done | rfl | (simp only [List.length_drop, List.length_take]; rfl)) ?_; (with_reducible refine (spec_GridFilled.calls k _ _ t314 t315 t319 _ ?side1 ?side2 A5.out).mono ?_); (case side1 => repeat (first | exact (Kd.Q_reads' HO317.out).2.2 | (with_reducible refine Kd.C_alloc ?_ _) | (with_reducible refine Kd.C_drewN ?_ _) | (with_reducible refine Kd.C_drew ?_))); (case side2 => exact (Kd.Q_reads' HO317.out).2.1); rintro e w' ⟨rfl, ⟨nd, rfl⟩⟩; refine ⟨_, rfl, ?_⟩))
          go_ret
          exact ⟨by first | rfl | (simp [errW_none, errW_some] <;> rfl) | (simp [*, errW_none, errW_some] <;> rfl), by repeat (first | (with_reducible first | exact HB.out | apply below_alloc | apply pw_below_drewN | apply below_drew1) | exact HB.out)⟩
      · rw [if_neg c7] at H
        have c7b0 : decide (t318 < 0) = false := decide_eq_false c7
        clear c7
        have H' := Aside0.mk H
        clear H
        go_enter Try.func6, Try.ntmps6
        go_wp2_with (first | ((with_reducible refine gate_callee (f := 27) rfl ?_); refine goesL_ (some 13) rfl rfl Try.func27 (by kernel_rfl) rfl #[.slice A0 l0.length c0] rfl (by (try simp only [List.map_toArray, List.map_cons, List.map_nil]); first | done | rfl | (simp only [List.length_drop, List.length_take]; rfl)) ?_; (with_reducible refine (spec_DrawGridFilled.calls k _ _ l0 t314 t315 _ ?side1 ?side2 A3.out).mono ?_); (case side1 => repeat (first | exact HR0.out | (with_reducible refine Kd.C_alloc ?_ _) | (with_reducible refine Kd.C_drewN ?_ _) | (with_reducible refine Kd.C_drew ?_))); (case side2 => exact HC0.out); rintro e w15 ⟨v316, rfl, ho0, hb⟩; refine ⟨_, rfl, ?_⟩; have n0_ := Aside0.mk (Kd.Q_lower ho0 (below_size (by repeat (first | (with_reducible first | exact HB.out | apply below_alloc | apply pw_below_drewN | apply below_drew1) | exact HB.out)))); have n1_ := Aside0.mk (below_step (by repeat (first | (with_reducible first | exact HB.out | apply below_alloc | apply pw_below_drewN | apply below_drew1) | exact HB.out)) hb); clear HB; have HO317 := n0_; have HB := n1_; clear n0_ n1_; (try clear hb); (try clear hb2); (try clear hk); (try clear hi); (try clear ho0); obtain ⟨Ao16, co16, eo16, _⟩ := Kd.Q_slice HO317.out; subst eo16) | ((with_reducible refine gate_callee (f := 28) rfl ?_); refine goesL_ (some 18) rfl rfl Try.func28 (by kernel_rfl) rfl #[.slice Ao16 t314.length co16, .int .i64 t315] rfl (by (try simp only [List.map_toArray, List.map_cons, List.map_nil]); first | done | rfl | (simp only [List.length_drop, List.length_take]; rfl)) ?_; (with_reducible refine (impl_GridFilled.calls k _ _ t314 t315 t318 _ ?side1 ?side2 A4.out).mono ?_); (case side1 => repeat (first | exact (Kd.Q_reads' HO317.out).2.2 | (with_reducible refine Kd.C_alloc ?_ _) | (with_reducible refine Kd.C_drewN ?_ _) | (with_reducible refine Kd.C_drew ?_))); (case side2 => exact (Kd.Q_reads' HO317.out).2.1); rintro e w' ⟨rfl, ⟨nd, rfl⟩⟩; refine ⟨_, rfl, ?_⟩) | ((with_reducible refine gate_callee (f := 29) rfl ?_); refine goesL_ (some 22) rfl rfl Try.func29 (by kernel_rfl) rfl #[.slice Ao16 t314.length co16, .int .i64 t315] rfl (by (try simp only [List.map_toArray, List.map_cons, List.map_nil]); first | done | rfl | (simp only [List.length_drop, List.length_take]; rfl)) ?_; (with_reducible refine (spec_GridFilled.calls k _ _ t314 t315 t319 _ ?side1 ?side2 A5.out).mono ?_); (case side1 => repeat (first | exact (Kd.Q_reads' HO317.out).2.2 | (with_reducible refine Kd.C_alloc ?_ _) | (with_reducible refine Kd.C_drewN ?_ _) | (with_reducible refine Kd.C_drew ?_))); (case side2 => exact (Kd.Q_reads' HO317.out).2.1); rintro e w' ⟨rfl, ⟨nd, rfl⟩⟩; refine ⟨_, rfl, ?_⟩))
        go_loopg [6] k (fun kq v6 w' => ∃ (x3_1 : List Int) (x6_1 : Int), v6 = .int .i64 x6_1 ∧ Aside0 (laws_FnGridFilled.l0 kq x3_1 t315 t318 x6_1 = some r) ∧ Aside0 (kq ≤ k) ∧ Aside0 (Kd.Q (Kd.int .i64) 3 w' w.heap.size (fun _ => True) (.slice Ao16 t314.length co16) x3_1) ∧ Aside0 (Below w.heap.size w w'))
        case atStart => exact ⟨(t314), (0), (by first | rfl | (simp; done) | (simp [*]; done)), H', ⟨Nat.le_refl _⟩, ⟨by (with_reducible repeat (first | apply Kd.Q_alloc | apply Kd.Q_drewN | apply Kd.Q_drew)); exact HO317.out⟩, ⟨by repeat (first | (with_reducible first | exact HB.out | apply below_alloc | apply pw_below_drewN | apply below_drew1) | exact HB.out)⟩⟩
        case round =>
          clear H'
          try clear c2
          try clear c2b0
          try clear c2b1
          try clear p2
          try clear c6
          try clear c6b0
          try clear c6b1
          try clear c7
          try clear c7b0
          try clear c8
          try clear c8b0
          try clear c8b1
          obtain ⟨x3_1, x6_1, rfl, HA, HK1, HO_3, HB⟩ := hrel
          have hl3_1 := (Kd.Q_reads' HO_3.out).1
          rw [hl3_1] at HO_3
          (try simp only [hl3_1])
          cases gk with
          | zero => exact absurd HA.out (by simp [laws_FnGridFilled.l0])
          | succ k1 =>
            have H := HA.out
            clear HA
            simp only [laws_FnGridFilled.l0] at H
            by_cases c17 : x6_1 < (x3_1.length : Int)
            · rw [if_pos c17] at H
              have c17b0 : decide (x6_1 < (x3_1.length : Int)) = true := decide_eq_true c17
              clear c17
              by_cases c18 : 0 ≤ x6_1
              · rw [if_pos c18] at H
                have c18b0 : decide (0 ≤ x6_1) = true := decide_eq_true c18
                clear c18
                by_cases c19 : (rd x3_1 x6_1) = 0
                · rw [if_pos c19] at H
                  have c19b0 : ((rd x3_1 x6_1) == 0) = true := beq_iff_eq.mpr c19
                  have c19b1 : ((rd x3_1 x6_1) != 0) = false := bne_eq_false_iff_eq.mpr c19
                  clear c19
                  have H' := Aside0.mk H
                  clear H
                  have p325 : 0 ≤ (x6_1 : Int) := of_decide_eq_true (by first | (with_reducible assumption) | assumption)
                  have q325 : x6_1 < (x3_1.length : Int) := of_decide_eq_true (by first | (with_reducible assumption) | assumption)
                  obtain ⟨ad325, e325, hx325_0⟩ := Kd.at_int (Kd.Q_reads' HO_3.out).2.2 x6_1 p325 q325
                  cases e325
                  replace p325 := eq_true p325
                  replace q325 := eq_true q325
                  go_wp2
                  (try simp only [← hl3_1])
                  go_roundg k1
                  case measure => have := HK1.out; omega
                  case rel => exact ⟨(x3_1), (wrap64 (x6_1 + 1)), (by first | rfl | (simp; done) | (simp [*]; done)), H', ⟨by have := HK1.out; omega⟩, ⟨by (try simp only [hl3_1]); (with_reducible repeat (first | apply Kd.Q_alloc | apply Kd.Q_drewN | apply Kd.Q_drew)); exact HO_3.out⟩, ⟨by repeat (first | (with_reducible first | exact HB.out | apply below_alloc | apply pw_below_drewN | apply below_drew1) | exact HB.out)⟩⟩
                · rw [if_neg c19] at H
                  have c19b0 : ((rd x3_1 x6_1) == 0) = false := beq_eq_false_iff_ne.mpr c19
                  have c19b1 : ((rd x3_1 x6_1) != 0) = true := bne_iff_ne.mpr c19
                  obtain ⟨y326, hy326⟩ : ∃ y_ : List Int, y_ = (([] : List Int)) := ⟨_, rfl⟩
                  replace H : (if y326.length + x3_1.length < 17592186044416 then ((some (y326 ++ x3_1 : List Int)).bind fun y329 => (if x6_1 < (y329.length : Int) then ((impl_GridFilled.f k1 (y329.set (x6_1 : Int).toNat 0) t315).bind fun t333 => (if t333 = (wrap64 (t318 - 1)) then (laws_FnGridFilled.l0 k1 x3_1 t315 t318 (wrap64 (x6_1 + 1))) else (some false))) else (none))) else (none)) = some r := by first | (rw [hy326]; with_reducible exact H) | (have H2_ := (Option.bind_some _ _).symm.trans H; rw [hy326]; with_reducible exact H2_) | (have H2_ := (Option.bind_some _ _).symm.trans H; with_reducible exact H2_) | with_reducible exact H | (rw [hy326]; exact H) | exact H
                  have Ny326 := Aside0.mk hy326
                  clear hy326
                  by_cases c20 : y326.length + x3_1.length < 17592186044416
                  · rw [if_pos c20] at H
                    have LMc20 := Aside0.mk c20
                    clear c20
                    obtain ⟨y329, hy329⟩ : ∃ y_ : List Int, y_ = (y326 ++ x3_1) := ⟨_, rfl⟩
                    replace H : (if x6_1 < (y329.length : Int) then ((impl_GridFilled.f k1 (y329.set (x6_1 : Int).toNat 0) t315).bind fun t333 => (if t333 = (wrap64 (t318 - 1)) then (laws_FnGridFilled.l0 k1 x3_1 t315 t318 (wrap64 (x6_1 + 1))) else (some false))) else (none)) = some r := by first | (rw [hy329]; with_reducible exact H) | (have H2_ := (Option.bind_some _ _).symm.trans H; rw [hy329]; with_reducible exact H2_) | (have H2_ := (Option.bind_some _ _).symm.trans H; with_reducible exact H2_) | with_reducible exact H | (rw [hy329]; exact H) | exact H
                    have Ny329 := Aside0.mk hy329
                    clear hy329
                    by_cases c21 : x6_1 < (y329.length : Int)
                    · rw [if_pos c21] at H
                      have c21b0 : decide (x6_1 < (y329.length : Int)) = true := decide_eq_true c21
                      clear c21
                      obtain ⟨y332, hy332⟩ : ∃ y_ : List Int, y_ = (y329.set (x6_1 : Int).toNat 0) := ⟨_, rfl⟩
                      replace H : ((impl_GridFilled.f k1 y332 t315).bind fun t333 => (if t333 = (wrap64 (t318 - 1)) then (laws_FnGridFilled.l0 k1 x3_1 t315 t318 (wrap64 (x6_1 + 1))) else (some false))) = some r := by first | (rw [hy332]; with_reducible exact H) | (have H2_ := (Option.bind_some _ _).symm.trans H; rw [hy332]; with_reducible exact H2_) | (have H2_ := (Option.bind_some _ _).symm.trans H; with_reducible exact H2_) | with_reducible exact H | (rw [hy332]; exact H) | exact H
                      have Ny332 := Aside0.mk hy332
                      clear hy332
                      replace H := Option.bind_eq_some_iff.mp H
                      obtain ⟨t333, A230, H⟩ := H
                      replace H : (if t333 = (wrap64 (t318 - 1)) then (laws_FnGridFilled.l0 k1 x3_1 t315 t318 (wrap64 (x6_1 + 1))) else (some false)) = some r := H
                      have A23 := Aside0.mk A230
                      clear A230
                      by_cases c24 : t333 = (wrap64 (t318 - 1))
                      · rw [if_pos c24] at H
                        have c24b0 : (t333 == (wrap64 (t318 - 1))) = true := beq_iff_eq.mpr c24
                        have c24b1 : (t333 != (wrap64 (t318 - 1))) = false := bne_eq_false_iff_eq.mpr c24
                        clear c24
                        have H' := Aside0.mk H
                        clear H
                        have p325 : 0 ≤ (x6_1 : Int) := of_decide_eq_true (by first | (with_reducible assumption) | assumption)
                        have q325 : x6_1 < (x3_1.length : Int) := of_decide_eq_true (by first | (with_reducible assumption) | assumption)
                        obtain ⟨ad325, e325, hx325_0⟩ := Kd.at_int (Kd.Q_reads' HO_3.out).2.2 x6_1 p325 q325
                        cases e325
                        replace p325 := eq_true p325
                        replace q325 := eq_true q325
                        go_wp2_with (first | ((with_reducible refine gate_dst (N := 42) rfl ?_); (try (refine gate_guard (by rfl) ?_; dsimp only)); refine Kd.R_lit (Kd.int .i64) _ 3 ?hg (N := 42) ?hd (xs := ([] : List Int)) (inner := []) (ok := fun _ => True) (okp := fun _ => True) ?hr ?hp (fun _ hk => hk) trivial (Below.refl _ _) (Nat.le_refl _) (by simp) ?_; (case hd => rfl); (case hg => rfl); (case hr => first | (go_simp; done) | (go_simp; rfl)); (case hp => exact (Reps.none _ _)); intro v327 w25 ho26 hb hg_ hnew_; clear hg_ hnew_; (first | rw [← Ny326.out] at ho26 | (simp only [Int.reduceToNat] at ho26; rw [← Ny326.out] at ho26)); have n0_ := Aside0.mk (Kd.Q_elder' (by (with_reducible repeat (first | apply Kd.Q_alloc | apply Kd.Q_drewN | apply Kd.Q_drew)); exact HO_3.out) (Kd.R_base ho26) hb); have n1_ := Aside0.mk (Kd.R_lower (Kd.R_new' ho26 (Kd.Q_lt (by (with_reducible repeat (first | apply Kd.Q_alloc | apply Kd.Q_drewN | apply Kd.Q_drew)); exact HO_3.out))) (below_size (by repeat (first | (with_reducible first | exact HB.out | apply below_alloc | apply pw_below_drewN | apply below_drew1) | exact HB.out)))); have n2_ := Aside0.mk (below_step (by repeat (first | (with_reducible first | exact HB.out | apply below_alloc | apply pw_below_drewN | apply below_drew1) | exact HB.out)) hb); clear HO_3; clear HB; have HO_3 := n0_; have HO328 := n1_; have HB := n2_; clear n0_ n1_ n2_; clear hb ho26) | ((with_reducible refine gate_builtin (b := .append) (xs := #[.tmp 42, .tmp 43]) rfl ?_); (try (refine gate_guard (by rfl) ?_; dsimp only)); at_builtin; refine Kd.R_append_rows (Kd.int .i64) (w0 := w) w.heap.size rfl (.tmp 42) (.tmp 43) 25 3 (.int .i64 0) 8 rfl Try.underlying25 info3 rfl (by decide) (by omega) v327 y326 x3_1 _ _ _ (fun k_ => some k_ ≠ (.slice (some ad325) x3_1.length co16 : Value).ownBlock) (fun _ => False) rfl rfl ?aO ?aR (fun _ _ h => h) (fun _ h => h.elim) ?aF ?aB ?aS ?aL ?_; (case aR => repeat (first | exact (Kd.Q_reads' HO_3.out).2.2 | (with_reducible refine Kd.C_alloc ?_ _) | (with_reducible refine Kd.C_drewN ?_ _) | (with_reducible refine Kd.C_drew ?_))); (case aB => exact (by repeat (first | (with_reducible first | exact HB.out | apply below_alloc | apply pw_below_drewN | apply below_drew1) | exact HB.out))); (case aF => exact (fun k_ hk => Kd.fresh' (Kd.Q_lt (by (with_reducible repeat (first | apply Kd.Q_alloc | apply Kd.Q_drewN | apply Kd.Q_drew)); exact HO_3.out)) k_ hk)); (case aO => exact (by (with_reducible repeat (first | apply Kd.R_alloc | apply Kd.R_drewN | apply Kd.R_drew)); exact Kd.R_mono HO328.out (fun _ hk => hk.2))); (case aS => exact (below_size (by repeat (first | (with_reducible first | exact HB.out | apply below_alloc | apply pw_below_drewN | apply below_drew1) | exact HB.out)))); (case aL => have := LMc20.out; omega); intro v330 w27 ho hb hg hat; rw [← Ny329.out] at ho; have n0_ := Aside0.mk (Kd.Q_after (ok := (fun _ => True)) (by (with_reducible repeat (first | apply Kd.Q_alloc | apply Kd.Q_drewN | apply Kd.Q_drew)); exact HO_3.out) hg hat); have n1_ := Aside0.mk (hb); have n2_ := Aside0.mk (ho); clear HO_3; clear HB; clear HO328; have HO_3 := n0_; have HB := n1_; have HO331 := n2_; clear n0_ n1_ n2_; clear ho hb hg hat; have p22 : 0 ≤ (x6_1 : Int) := of_decide_eq_true (by first | (with_reducible assumption) | assumption); have q22 : (x6_1 : Int) < ((y329.length : Int) : Int) := of_decide_eq_true (by first | (with_reducible assumption) | assumption); obtain ⟨go22, co22, eo22, gb22, gl22, cl22, HG22⟩ := Kd.R_form HO331.out (by omega); (first | cases eo22 | (injection eo22 with ea_ en_ ec_; (first | subst ea_ | (injection ea_ with ea_; subst ea_)); subst ec_; clear en_)); have GB22 := Aside0.mk gb22; have GG22 := Aside0.mk HG22; clear gb22 gl22 HG22; obtain ⟨hx22_0, hf22_0⟩ := Kd.R_celln 0 HO331.out (x6_1 : Int) p22 q22; replace p22 := eq_true p22; replace q22 := eq_true q22; obtain ⟨hy28_, hz28_⟩ := Kd.R_celln 0 HO331.out (x6_1 : Int) (of_decide_eq_true (by first | (with_reducible assumption) | assumption)) (of_decide_eq_true (by first | (with_reducible assumption) | assumption)); have HP28 := Kd.R_putg HO331.out (x6_1 : Int) 0) | ((with_reducible refine gate_store (t := 3) (p := 47) rfl ?_); refine store_event (t := 3) (p := 47) (v := ?vo_w29) (w1 := (w27.setCell ⟨go22, (x6_1 : Int).toNat, none⟩ (.int .i64 0))) ?hg ?ho ?hn ?hr ?_; (case ho => rfl); (case hg => rfl); (case hn => rfl); (case hr => first | (go_simp; done) | (go_simp; rfl)); intro w29 hw; have hg : w27.grownBy w29 (some go22) := (by rw [hw]; exact HP28.2); have hp_ : Kd.R (Kd.int .i64) 3 w29 w.heap.size (fun k_ => some k_ ≠ (.slice (some ad325) x3_1.length co16 : Value).ownBlock) (.slice (some ⟨go22, 0, none⟩) y329.length co22) y332 := (by rw [hw, Ny332.out]; exact HP28.1); clear HP28; have n0_ := Aside0.mk (Kd.Q_after (v := (.slice (some ⟨go22, 0, none⟩) y329.length co22)) (v1 := (.slice (some ⟨go22, 0, none⟩) y329.length co22)) (ok := (fun _ => True)) (by (with_reducible repeat (first | apply Kd.Q_alloc | apply Kd.Q_drewN | apply Kd.Q_drew)); exact HO_3.out) hg (.inl rfl)); have n1_ := Aside0.mk (hp_); have n2_ := Aside0.mk ((by rw [hw]; exact below_set (HB.out) GB22.out : Below w.heap.size w w29)); clear HO_3; clear HO331; clear HB; have HO_3 := n0_; have HO331 := n1_; have HB := n2_; clear n0_ n1_ n2_; clear hg hw hp_) | ((with_reducible refine gate_callee (f := 28) rfl ?_); refine goesL_ (some 50) rfl rfl Try.func28 (by kernel_rfl) rfl #[.slice (some ⟨go22, 0, none⟩) y332.length co22, .int .i64 t315] rfl (by (try simp only [List.map_toArray, List.map_cons, List.map_nil]); first | done | (rw [show y332.length = y329.length from (Kd.R_reads' HO331.out).1.symm] <;> rfl) | rfl | (simp only [List.length_drop, List.length_take]; rfl)) ?_; (with_reducible refine (impl_GridFilled.calls k1 _ _ y332 t315 t333 _ ?side1 ?side2 A23.out).mono ?_); (case side1 => repeat (first | exact (Kd.R_reads' HO331.out).2.2 | (with_reducible refine Kd.C_alloc ?_ _) | (with_reducible refine Kd.C_drewN ?_ _) | (with_reducible refine Kd.C_drew ?_))); (case side2 => rw [show y332.length = y329.length from (Kd.R_reads' HO331.out).1.symm]; exact (Kd.R_reads' HO331.out).2.1); rintro e w' ⟨rfl, ⟨nd, rfl⟩⟩; refine ⟨_, rfl, ?_⟩))
                        (try simp only [← hl3_1])
                        go_roundg k1
                        case measure => have := HK1.out; omega
                        case rel => exact ⟨(x3_1), (wrap64 (x6_1 + 1)), (by first | rfl | (simp; done) | (simp [*]; done)), H', ⟨by have := HK1.out; omega⟩, ⟨by (try simp only [hl3_1]); (with_reducible repeat (first | apply Kd.Q_alloc | apply Kd.Q_drewN | apply Kd.Q_drew)); exact Kd.Q_mono HO_3.out (fun _ hk => trivial)⟩, ⟨by repeat (first | (with_reducible first | exact HB.out | apply below_alloc | apply pw_below_drewN | apply below_drew1) | exact HB.out)⟩⟩
                      · rw [if_neg c24] at H
                        have c24b0 : (t333 == (wrap64 (t318 - 1))) = false := beq_eq_false_iff_ne.mpr c24
                        have c24b1 : (t333 != (wrap64 (t318 - 1))) = true := bne_iff_ne.mpr c24
                        obtain rfl := Option.some.inj H
                        have p325 : 0 ≤ (x6_1 : Int) := of_decide_eq_true (by first | (with_reducible assumption) | assumption)
                        have q325 : x6_1 < (x3_1.length : Int) := of_decide_eq_true (by first | (with_reducible assumption) | assumption)
                        obtain ⟨ad325, e325, hx325_0⟩ := Kd.at_int (Kd.Q_reads' HO_3.out).2.2 x6_1 p325 q325
                        cases e325
                        replace p325 := eq_true p325
                        replace q325 := eq_true q325
                        go_wp2_with (first | ((with_reducible refine gate_dst (N := 42) rfl ?_); (try (refine gate_guard (by rfl) ?_; dsimp only)); refine Kd.R_lit (Kd.int .i64) _ 3 ?hg (N := 42) ?hd (xs := ([] : List Int)) (inner := []) (ok := fun _ => True) (okp := fun _ => True) ?hr ?hp (fun _ hk => hk) trivial (Below.refl _ _) (Nat.le_refl _) (by simp) ?_; (case hd => rfl); (case hg => rfl); (case hr => first | (go_simp; done) | (go_simp; rfl)); (case hp => exact (Reps.none _ _)); intro v327 w30 ho31 hb hg_ hnew_; clear hg_ hnew_; (first | rw [← Ny326.out] at ho31 | (simp only [Int.reduceToNat] at ho31; rw [← Ny326.out] at ho31)); have n0_ := Aside0.mk (Kd.Q_elder' (by (with_reducible repeat (first | apply Kd.Q_alloc | apply Kd.Q_drewN | apply Kd.Q_drew)); exact HO_3.out) (Kd.R_base ho31) hb); have n1_ := Aside0.mk (Kd.R_lower (Kd.R_new' ho31 (Kd.Q_lt (by (with_reducible repeat (first | apply Kd.Q_alloc | apply Kd.Q_drewN | apply Kd.Q_drew)); exact HO_3.out))) (below_size (by repeat (first | (with_reducible first | exact HB.out | apply below_alloc | apply pw_below_drewN | apply below_drew1) | exact HB.out)))); have n2_ := Aside0.mk (below_step (by repeat (first | (with_reducible first | exact HB.out | apply below_alloc | apply pw_below_drewN | apply below_drew1) | exact HB.out)) hb); clear HO_3; clear HB; have HO_3 := n0_; have HO328 := n1_; have HB := n2_; clear n0_ n1_ n2_; clear hb ho31) | ((with_reducible refine gate_builtin (b := .append) (xs := #[.tmp 42, .tmp 43]) rfl ?_); (try (refine gate_guard (by rfl) ?_; dsimp only)); at_builtin; refine Kd.R_append_rows (Kd.int .i64) (w0 := w) w.heap.size rfl (.tmp 42) (.tmp 43) 25 3 (.int .i64 0) 8 rfl Try.underlying25 info3 rfl (by decide) (by omega) v327 y326 x3_1 _ _ _ (fun k_ => some k_ ≠ (.slice (some ad325) x3_1.length co16 : Value).ownBlock) (fun _ => False) rfl rfl ?aO ?aR (fun _ _ h => h) (fun _ h => h.elim) ?aF ?aB ?aS ?aL ?_; (case aR => repeat (first | exact (Kd.Q_reads' HO_3.out).2.2 | (with_reducible refine Kd.C_alloc ?_ _) | (with_reducible refine Kd.C_drewN ?_ _) | (with_reducible refine Kd.C_drew ?_))); (case aB => exact (by repeat (first | (with_reducible first | exact HB.out | apply below_alloc | apply pw_below_drewN | apply below_drew1) | exact HB.out))); (case aF => exact (fun k_ hk => Kd.fresh' (Kd.Q_lt (by (with_reducible repeat (first | apply Kd.Q_alloc | apply Kd.Q_drewN | apply Kd.Q_drew)); exact HO_3.out)) k_ hk)); (case aO => exact (by (with_reducible repeat (first | apply Kd.R_alloc | apply Kd.R_drewN | apply Kd.R_drew)); exact Kd.R_mono HO328.out (fun _ hk => hk.2))); (case aS => exact (below_size (by repeat (first | (with_reducible first | exact HB.out | apply below_alloc | apply pw_below_drewN | apply below_drew1) | exact HB.out)))); (case aL => have := LMc20.out; omega); intro v330 w32 ho hb hg hat; rw [← Ny329.out] at ho; have n0_ := Aside0.mk (Kd.Q_after (ok := (fun _ => True)) (by (with_reducible repeat (first | apply Kd.Q_alloc | apply Kd.Q_drewN | apply Kd.Q_drew)); exact HO_3.out) hg hat); have n1_ := Aside0.mk (hb); have n2_ := Aside0.mk (ho); clear HO_3; clear HB; clear HO328; have HO_3 := n0_; have HB := n1_; have HO331 := n2_; clear n0_ n1_ n2_; clear ho hb hg hat; have p22 : 0 ≤ (x6_1 : Int) := of_decide_eq_true (by first | (with_reducible assumption) | assumption); have q22 : (x6_1 : Int) < ((y329.length : Int) : Int) := of_decide_eq_true (by first | (with_reducible assumption) | assumption); obtain ⟨go22, co22, eo22, gb22, gl22, cl22, HG22⟩ := Kd.R_form HO331.out (by omega); (first | cases eo22 | (injection eo22 with ea_ en_ ec_; (first | subst ea_ | (injection ea_ with ea_; subst ea_)); subst ec_; clear en_)); have GB22 := Aside0.mk gb22; have GG22 := Aside0.mk HG22; clear gb22 gl22 HG22; obtain ⟨hx22_0, hf22_0⟩ := Kd.R_celln 0 HO331.out (x6_1 : Int) p22 q22; replace p22 := eq_true p22; replace q22 := eq_true q22; obtain ⟨hy33_, hz33_⟩ := Kd.R_celln 0 HO331.out (x6_1 : Int) (of_decide_eq_true (by first | (with_reducible assumption) | assumption)) (of_decide_eq_true (by first | (with_reducible assumption) | assumption)); have HP33 := Kd.R_putg HO331.out (x6_1 : Int) 0) | ((with_reducible refine gate_store (t := 3) (p := 47) rfl ?_); refine store_event (t := 3) (p := 47) (v := ?vo_w34) (w1 := (w32.setCell ⟨go22, (x6_1 : Int).toNat, none⟩ (.int .i64 0))) ?hg ?ho ?hn ?hr ?_; (case ho => rfl); (case hg => rfl); (case hn => rfl); (case hr => first | (go_simp; done) | (go_simp; rfl)); intro w34 hw; have hg : w32.grownBy w34 (some go22) := (by rw [hw]; exact HP33.2); have hp_ : Kd.R (Kd.int .i64) 3 w34 w.heap.size (fun k_ => some k_ ≠ (.slice (some ad325) x3_1.length co16 : Value).ownBlock) (.slice (some ⟨go22, 0, none⟩) y329.length co22) y332 := (by rw [hw, Ny332.out]; exact HP33.1); clear HP33; have n0_ := Aside0.mk (Kd.Q_after (v := (.slice (some ⟨go22, 0, none⟩) y329.length co22)) (v1 := (.slice (some ⟨go22, 0, none⟩) y329.length co22)) (ok := (fun _ => True)) (by (with_reducible repeat (first | apply Kd.Q_alloc | apply Kd.Q_drewN | apply Kd.Q_drew)); exact HO_3.out) hg (.inl rfl)); have n1_ := Aside0.mk (hp_); have n2_ := Aside0.mk ((by rw [hw]; exact below_set (HB.out) GB22.out : Below w.heap.size w w34)); clear HO_3; clear HO331; clear HB; have HO_3 := n0_; have HO331 := n1_; have HB := n2_; clear n0_ n1_ n2_; clear hg hw hp_) | ((with_reducible refine gate_callee (f := 28) rfl ?_); refine goesL_ (some 50) rfl rfl Try.func28 (by kernel_rfl) rfl #[.slice (some ⟨go22, 0, none⟩) y332.length co22, .int .i64 t315] rfl (by (try simp only [List.map_toArray, List.map_cons, List.map_nil]); first | done | (rw [show y332.length = y329.length from (Kd.R_reads' HO331.out).1.symm] <;> rfl) | rfl | (simp only [List.length_drop, List.length_take]; rfl)) ?_; (with_reducible refine (impl_GridFilled.calls k1 _ _ y332 t315 t333 _ ?side1 ?side2 A23.out).mono ?_); (case side1 => repeat (first | exact (Kd.R_reads' HO331.out).2.2 | (with_reducible refine Kd.C_alloc ?_ _) | (with_reducible refine Kd.C_drewN ?_ _) | (with_reducible refine Kd.C_drew ?_))); (case side2 => rw [show y332.length = y329.length from (Kd.R_reads' HO331.out).1.symm]; exact (Kd.R_reads' HO331.out).2.1); rintro e w' ⟨rfl, ⟨nd, rfl⟩⟩; refine ⟨_, rfl, ?_⟩))
                        go_ret
                        exact ⟨by first | rfl | (simp [errW_none, errW_some] <;> rfl) | (simp [*, errW_none, errW_some] <;> rfl), by repeat (first | (with_reducible first | exact HB.out | apply below_alloc | apply pw_below_drewN | apply below_drew1) | exact HB.out)⟩
                    · rw [if_neg c21] at H
                      exact absurd H (by simp)
                  · rw [if_neg c20] at H
                    exact absurd H (by simp)
              · rw [if_neg c18] at H
                exact absurd H (by simp)
            · rw [if_neg c17] at H
              have c17b0 : decide (x6_1 < (x3_1.length : Int)) = false := decide_eq_false c17
              clear c17
              by_cases c35 : t318 ≤ (wrap64 (t315 * t315))
              · rw [if_pos c35] at H
                have c35b0 : decide (t318 ≤ (wrap64 (t315 * t315))) = true := decide_eq_true c35
                clear c35
                obtain ⟨ji36, hji36⟩ : ∃ j_ : Int, (wrap64 (t315 * t315)) = j_ := ⟨_, rfl⟩
                replace H : (if 0 ≤ (ji36) then (if (ji36 : Int).toNat ≤ 35184372088832 then ((impl_GridFilled.f k1 (List.replicate (ji36 : Int).toNat 0) t315).bind fun t324 => (some (t324 == 0))) else (none)) else (none)) = some r := by first | (rw [hji36] at H; exact H) | (simp only [hji36] at H ⊢; exact H)
                (try rw [hji36] at c35b0)
                have hji36w : (IntKind.i64.wrap (t315 * t315)) = ji36 := (i64_w _).trans hji36
                by_cases c37 : 0 ≤ (ji36)
                · rw [if_pos c37] at H
                  have c37b0 := eq_true c37
                  have c37b1 : decide (0 ≤ (ji36)) = true := decide_eq_true c37
                  clear c37
                  by_cases c38 : (ji36 : Int).toNat ≤ 35184372088832
                  · rw [if_pos c38] at H
                    have c38b0 := eq_true c38
                    have c38b1 : decide ((ji36 : Int).toNat ≤ 35184372088832) = true := decide_eq_true c38
                    clear c38
                    obtain ⟨y321, hy321⟩ : ∃ y_ : List Int, y_ = (List.replicate (ji36 : Int).toNat 0) := ⟨_, rfl⟩
                    replace H : ((impl_GridFilled.f k1 y321 t315).bind fun t324 => (some (t324 == 0))) = some r := by first | (rw [hy321]; with_reducible exact H) | (have H2_ := (Option.bind_some _ _).symm.trans H; rw [hy321]; with_reducible exact H2_) | (have H2_ := (Option.bind_some _ _).symm.trans H; with_reducible exact H2_) | with_reducible exact H | (rw [hy321]; exact H) | exact H
                    have Ny321 := Aside0.mk hy321
                    clear hy321
                    replace H := Option.bind_eq_some_iff.mp H
                    obtain ⟨t324, A390, H⟩ := H
                    replace H : (some (t324 == 0)) = some r := H
                    have A39 := Aside0.mk A390
                    clear A390
                    obtain rfl := Option.some.inj H
                    go_wp2_with (first | ((with_reducible refine gate_dst (N := 63) rfl ?_); (try (refine gate_guard (by rfl) ?_; dsimp only)); refine Kd.R_make (Kd.int .i64) _ 3 rfl (N := 63) rfl 25 _ _ rfl ji36 rfl rfl Try.underlying25 (.int .i64 0) 8 info3 rfl (by decide) (by omega) 0 (ok := fun _ => True) (okp := fun _ => True) rfl (fun _ hk => hk) trivial (of_decide_eq_true (by first | (with_reducible assumption) | assumption)) (Nat.le_trans (Nat.mul_le_mul_right _ (of_decide_eq_true (by first | (with_reducible assumption) | assumption) : ji36.toNat ≤ 35184372088832)) (by omega)) (Below.refl _ _) (Nat.le_refl _) ?_; intro v322 w40 ho41 hb hg_ hnew_; clear hg_ hnew_; (first | rw [← Ny321.out] at ho41 | (simp only [Int.reduceToNat] at ho41; rw [← Ny321.out] at ho41)); have n0_ := Aside0.mk (Kd.Q_elder' (by (with_reducible repeat (first | apply Kd.Q_alloc | apply Kd.Q_drewN | apply Kd.Q_drew)); exact HO_3.out) (Kd.R_base ho41) hb); have n1_ := Aside0.mk (Kd.R_lower (Kd.R_new' ho41 (Kd.Q_lt (by (with_reducible repeat (first | apply Kd.Q_alloc | apply Kd.Q_drewN | apply Kd.Q_drew)); exact HO_3.out))) (below_size (by repeat (first | (with_reducible first | exact HB.out | apply below_alloc | apply pw_below_drewN | apply below_drew1) | exact HB.out)))); have n2_ := Aside0.mk (below_step (by repeat (first | (with_reducible first | exact HB.out | apply below_alloc | apply pw_below_drewN | apply below_drew1) | exact HB.out)) hb); clear HO_3; clear HB; have HO_3 := n0_; have HO323 := n1_; have HB := n2_; clear n0_ n1_ n2_; clear hb ho41; obtain ⟨Ao42, co42, eo42⟩ := Kd.R_slice HO323.out; subst eo42) | (go_at_call 28; (with_reducible refine (impl_GridFilled.calls k1 _ _ y321 t315 t324 _ ?side1 ?side2 A39.out).mono ?_); (case side1 => repeat (first | exact (Kd.R_reads' HO323.out).2.2 | (with_reducible refine Kd.C_alloc ?_ _) | (with_reducible refine Kd.C_drewN ?_ _) | (with_reducible refine Kd.C_drew ?_))); (case side2 => exact (Kd.R_reads' HO323.out).2.1); rintro e w' ⟨rfl, ⟨nd, rfl⟩⟩))
                    go_ret
                    exact ⟨by first | rfl | (simp [errW_none, errW_some] <;> rfl) | (simp only [← hji36]; first | rfl | (simp [errW_none, errW_some] <;> rfl)) | (simp [*, errW_none, errW_some] <;> rfl), by repeat (first | (with_reducible first | exact HB.out | apply below_alloc | apply pw_below_drewN | apply below_drew1) | exact HB.out)⟩
                  · rw [if_neg c38] at H
                    exact absurd H (by simp)
                · rw [if_neg c37] at H
                  exact absurd H (by simp)
              · rw [if_neg c35] at H
                have c35b0 : decide (t318 ≤ (wrap64 (t315 * t315))) = false := decide_eq_false c35
                clear c35
                obtain rfl := Option.some.inj H
                go_wp2
                go_ret
                exact ⟨by first | rfl | (simp [errW_none, errW_some] <;> rfl) | (simp [*, errW_none, errW_some] <;> rfl), by repeat (first | (with_reducible first | exact HB.out | apply below_alloc | apply pw_below_drewN | apply below_drew1) | exact HB.out)⟩
    · rw [if_neg c6] at H
      have c6b0 : (t318 == t319) = false := beq_eq_false_iff_ne.mpr c6
      have c6b1 : (t318 != t319) = true := bne_iff_ne.mpr c6
      obtain rfl := Option.some.inj H
      go_enter Try.func6, Try.ntmps6
      go_wp2_with (first | ((with_reducible refine gate_callee (f := 27) rfl ?_); refine goesL_ (some 13) rfl rfl Try.func27 (by kernel_rfl) rfl #[.slice A0 l0.length c0] rfl (by (try simp only [List.map_toArray, List.map_cons, List.map_nil]); first | done | rfl | (simp only [List.length_drop, List.length_take]; rfl)) ?_; (with_reducible refine (spec_DrawGridFilled.calls k _ _ l0 t314 t315 _ ?side1 ?side2 A3.out).mono ?_); (case side1 => repeat (first | exact HR0.out | (with_reducible refine Kd.C_alloc ?_ _) | (with_reducible refine Kd.C_drewN ?_ _) | (with_reducible refine Kd.C_drew ?_))); (case side2 => exact HC0.out); rintro e w43 ⟨v316, rfl, ho0, hb⟩; refine ⟨_, rfl, ?_⟩; have n0_ := Aside0.mk (Kd.Q_lower ho0 (below_size (by repeat (first | (with_reducible first | exact HB.out | apply below_alloc | apply pw_below_drewN | apply below_drew1) | exact HB.out)))); have n1_ := Aside0.mk (below_step (by repeat (first | (with_reducible first | exact HB.out | apply below_alloc | apply pw_below_drewN | apply below_drew1) | exact HB.out)) hb); clear HB; have HO317 := n0_; have HB := n1_; clear n0_ n1_; (try clear hb); (try clear hb2); (try clear hk); (try clear hi); (try clear ho0); obtain ⟨Ao44, co44, eo44, _⟩ := Kd.Q_slice HO317.out; subst eo44) | ((with_reducible refine gate_callee (f := 28) rfl ?_); refine goesL_ (some 18) rfl rfl Try.func28 (by kernel_rfl) rfl #[.slice Ao44 t314.length co44, .int .i64 t315] rfl (by (try simp only [List.map_toArray, List.map_cons, List.map_nil]); first | done | rfl | (simp only [List.length_drop, List.length_take]; rfl)) ?_; (with_reducible refine (impl_GridFilled.calls k _ _ t314 t315 t318 _ ?side1 ?side2 A4.out).mono ?_); (case side1 => repeat (first | exact (Kd.Q_reads' HO317.out).2.2 | (with_reducible refine Kd.C_alloc ?_ _) | (with_reducible refine Kd.C_drewN ?_ _) | (with_reducible refine Kd.C_drew ?_))); (case side2 => exact (Kd.Q_reads' HO317.out).2.1); rintro e w' ⟨rfl, ⟨nd, rfl⟩⟩; refine ⟨_, rfl, ?_⟩) | ((with_reducible refine gate_callee (f := 29) rfl ?_); refine goesL_ (some 22) rfl rfl Try.func29 (by kernel_rfl) rfl #[.slice Ao44 t314.length co44, .int .i64 t315] rfl (by (try simp only [List.map_toArray, List.map_cons, List.map_nil]); first | done | rfl | (simp only [List.length_drop, List.length_take]; rfl)) ?_; (with_reducible refine (spec_GridFilled.calls k _ _ t314 t315 t319 _ ?side1 ?side2 A5.out).mono ?_); (case side1 => repeat (first | exact (Kd.Q_reads' HO317.out).2.2 | (with_reducible refine Kd.C_alloc ?_ _) | (with_reducible refine Kd.C_drewN ?_ _) | (with_reducible refine Kd.C_drew ?_))); (case side2 => exact (Kd.Q_reads' HO317.out).2.1); rintro e w' ⟨rfl, ⟨nd, rfl⟩⟩; refine ⟨_, rfl, ?_⟩))
      go_ret
      exact ⟨by first | rfl | (simp [errW_none, errW_some] <;> rfl) | (simp [*, errW_none, errW_some] <;> rfl), by repeat (first | (with_reducible first | exact HB.out | apply below_alloc | apply pw_below_drewN | apply below_drew1) | exact HB.out)⟩

/-- THE ONE PURE STATEMENT of laws_FnGridFilled: yours. -/
def laws_FnGridFilled.Pure : Prop := ∀ (l0 : List Int), l0.length ≤ maxLen → l0.length * 1 ≤ 140737488351232 → (∀ x ∈ l0, (Lit.int .u8 x).wf = true) → ∃ k, laws_FnGridFilled.f k l0 = some true
theorem laws_FnGridFilled.walk (P : laws_FnGridFilled.Pure) (a0 : Option Addr) (len0 cap0 : Nat) (z0 : List Int) (w : World) (w0 : (a0 = none ∧ len0 = 0 ∧ cap0 = 0 ∧ z0 = []) ∨ ∃ x, a0 = some x ∧ len0 ≤ cap0 ∧ cap0 ≤ maxLen ∧ z0.length = cap0 ∧ (∀ i, i < z0.length → w.cell? (x.add i) = some (.int .u8 (z0.getD i 0))) ∧ ∀ n ∈ z0, (Lit.int .u8 n).wf = true) (y0 : len0 * 1 ≤ 140737488351232) :
    Calls Try.prog 6 #[.slice a0 len0 cap0] w fun e w' => e = .returned (.bool true) ∧ Below w.heap.size w w' := by
  obtain ⟨l0, rfl, hr0, hm0, hw0, hc0⟩ := ReadsInt.ofRowC w0
  obtain ⟨k, h⟩ := P l0 hm0 y0 hw0
  refine (laws_FnGridFilled.calls k _ _ l0 true w (Kd.C_of_reads (d := (0 : Int)) (h1 := fun _ => rfl) hr0) hc0 h).mono ?_
  rintro e w' ⟨rfl, hd⟩
  exact ⟨rfl, hd⟩

end Go.Proofs.Ytnocdmclcdfppaa.P
