/- The machine's side of laws of this seat: each Go function as a plain Lean function and the proof that the machine's call does what that function says; written by this session's own program over the kit's print. -/
import Derived.Test.YtnocdmclcdfppaaP0
import Derived.Test.YtnocdmclcdfppaaP3
import Derived.Test.YtnocdmclcdfppaaP5
import Derived.Test.YtnocdmclcdfppaaP9
import Derived.Test.YtnocdmclcdfppaaP31
import Derived.Test.YtnocdmclcdfppaaP32
namespace Go.Proofs.Ytnocdmclcdfppaa.P
open Go.RowKit Go.Proofs.YtnocdmclcdfppaaW.PrintWords Go.Proofs.YtnocdmclcdfppaaW.PrintLast Go.Proofs.YtnocdmclcdfppaaW.PrintMore
attribute [local go_sem] max2_int min2_int max_two min_two max_three min_three max_four min_four   -- for this text's walks alone
set_option linter.unusedVariables false
set_option linter.unusedSimpArgs false

/-! ### laws_FnGridSwap: function 11 -/
def laws_FnGridSwap.j0 : Nat → List Int → Int → Int → Int → List Int → Bool → Option (Bool)
  | 0, _, _, _, _, _, _ => none
  | k + 1, x3, x4, x5, x6, x7, x40 => if x40 = true then (some false) else (if (x7.length : Int) = 0 then ((laws_alive.f k).bind fun t577 => (some t577)) else ((impl_GridSwap.f k x7 x4 x5 x6).bind fun t578 => ((laws_sameInts.f k t578 x3).bind fun t581 => (if t581 = true then ((impl_SquareFits.f k x7 x4).bind fun t582 => ((impl_SquareFits.f k x3 x4).bind fun t583 => (some (t582 == t583)))) else (some false)))))
def laws_FnGridSwap.f (k : Nat) (l0 : List Int) : Option (Bool) := if (l0.length : Int) > 1048576 then (some true) else ((spec_DrawGridSwap.f k l0).bind fun bt560 => ((impl_GridSwap.f k bt560.1 bt560.2.1 bt560.2.2.1 bt560.2.2.2).bind fun t566 => ((spec_GridSwap.f k bt560.1 bt560.2.1 bt560.2.2.1 bt560.2.2.2).bind fun t569 => ((laws_sameInts.f k t566 t569).bind fun t572 => (if t572 = true then ((impl_GridSwap.f k bt560.1 bt560.2.1 bt560.2.2.2 bt560.2.2.1).bind fun t573 => ((laws_sameInts.f k t566 t573).bind fun t576 => (laws_FnGridSwap.j0 k bt560.1 bt560.2.1 bt560.2.2.1 bt560.2.2.2 t566 (!t576)))) else (laws_FnGridSwap.j0 k bt560.1 bt560.2.1 bt560.2.2.1 bt560.2.2.2 t566 true))))))
theorem laws_FnGridSwap.mono_l : ∀ k, (∀ y0 y1 y2 y3 y4 y5, LeO (laws_FnGridSwap.j0 k y0 y1 y2 y3 y4 y5) (laws_FnGridSwap.j0 (k + 1) y0 y1 y2 y3 y4 y5))
  | 0 => fun _ _ _ _ _ _ r h => by simp [laws_FnGridSwap.j0] at h
  | k + 1 => by
    have ih0 := laws_FnGridSwap.mono_l k
    · intro y0 y1 y2 y3 y4 y5
      unfold laws_FnGridSwap.j0
      repeat' first
      | (with_reducible exact ih0 _ _ _ _ _ _)
      | (with_reducible exact impl_GridSwap.mono _ _ _ _ _)
      | (with_reducible exact impl_SquareFits.mono _ _ _)
      | (with_reducible exact laws_alive.mono _)
      | (with_reducible exact laws_sameInts.mono _ _ _)
      | (with_reducible exact spec_DrawGridSwap.mono _ _)
      | (with_reducible exact spec_GridSwap.mono _ _ _ _ _)
      | (with_reducible exact LeO.refl _)
      | (with_reducible exact LeO.none _)
      | (with_reducible refine LeO.ite ?_ ?_)
      | (with_reducible refine LeO.bind ?_ (fun _ => ?_))
      | exact ih0 _ _ _ _ _ _
      | exact impl_GridSwap.mono _ _ _ _ _
      | exact impl_SquareFits.mono _ _ _
      | exact laws_alive.mono _
      | exact laws_sameInts.mono _ _ _
      | exact spec_DrawGridSwap.mono _ _
      | exact spec_GridSwap.mono _ _ _ _ _
      | exact LeO.none _
      | refine LeO.ite ?_ ?_
      | refine LeO.bind ?_ (fun _ => ?_)
theorem laws_FnGridSwap.mono : ∀ a0 k, LeO (laws_FnGridSwap.f k a0) (laws_FnGridSwap.f (k + 1) a0) := by
  intro a0 k
  have ih0 := laws_FnGridSwap.mono_l k
  unfold laws_FnGridSwap.f
  repeat' first
      | (with_reducible exact ih0 _ _ _ _ _ _)
      | (with_reducible exact impl_GridSwap.mono _ _ _ _ _)
      | (with_reducible exact impl_SquareFits.mono _ _ _)
      | (with_reducible exact laws_alive.mono _)
      | (with_reducible exact laws_sameInts.mono _ _ _)
      | (with_reducible exact spec_DrawGridSwap.mono _ _)
      | (with_reducible exact spec_GridSwap.mono _ _ _ _ _)
      | (with_reducible exact LeO.refl _)
      | (with_reducible exact LeO.none _)
      | (with_reducible refine LeO.ite ?_ ?_)
      | (with_reducible refine LeO.bind ?_ (fun _ => ?_))
      | exact ih0 _ _ _ _ _ _
      | exact impl_GridSwap.mono _ _ _ _ _
      | exact impl_SquareFits.mono _ _ _
      | exact laws_alive.mono _
      | exact laws_sameInts.mono _ _ _
      | exact spec_DrawGridSwap.mono _ _
      | exact spec_GridSwap.mono _ _ _ _ _
      | exact LeO.none _
      | refine LeO.ite ?_ ?_
      | refine LeO.bind ?_ (fun _ => ?_)
set_option maxHeartbeats 8000000 in
set_option maxRecDepth 100000 in
theorem laws_FnGridSwap.calls (k : Nat) (A0 : Option Addr) (c0 : Nat) (l0 : List Int) (r : Bool) (w : World) (hr0 : Kd.C (Kd.int .u8) w A0 l0.length l0) (hc0 : l0.length ≤ c0) (h : laws_FnGridSwap.f k l0 = some r) :
    Calls Try.prog 11 #[.slice A0 l0.length c0] w fun e w' => e = .returned (.bool r) ∧ Below w.heap.size w w' := by
  have HR0 := Aside0.mk hr0
  have HC0 := Aside0.mk hc0
  clear hr0 hc0
  have HB := Aside0.mk (Below.refl w.heap.size w)
  have H : (if (l0.length : Int) > 1048576 then (some true) else ((spec_DrawGridSwap.f k l0).bind fun bt560 => ((impl_GridSwap.f k bt560.1 bt560.2.1 bt560.2.2.1 bt560.2.2.2).bind fun t566 => ((spec_GridSwap.f k bt560.1 bt560.2.1 bt560.2.2.1 bt560.2.2.2).bind fun t569 => ((laws_sameInts.f k t566 t569).bind fun t572 => (if t572 = true then ((impl_GridSwap.f k bt560.1 bt560.2.1 bt560.2.2.2 bt560.2.2.1).bind fun t573 => ((laws_sameInts.f k t566 t573).bind fun t576 => (laws_FnGridSwap.j0 k bt560.1 bt560.2.1 bt560.2.2.1 bt560.2.2.2 t566 (!t576)))) else (laws_FnGridSwap.j0 k bt560.1 bt560.2.1 bt560.2.2.1 bt560.2.2.2 t566 true))))))) = some r := h
  clear h
  by_cases c2 : (l0.length : Int) > 1048576
  · rw [if_pos c2] at H
    have c2b0 : decide (1048576 < (l0.length : Int)) = true := decide_eq_true c2
    have c2b1 : decide (1048576 < l0.length) = true := decide_eq_true (by omega)
    clear c2
    obtain rfl := Option.some.inj H
    go_enter Try.func11, Try.ntmps11
    go_wp2
    go_ret
    exact ⟨by first | rfl | (simp [errW_none, errW_some] <;> rfl) | (simp [*, errW_none, errW_some] <;> rfl), by repeat (first | (with_reducible first | exact HB.out | apply below_alloc | apply pw_below_drewN | apply below_drew1) | exact HB.out)⟩
  · rw [if_neg c2] at H
    have c2b0 : decide (1048576 < (l0.length : Int)) = false := decide_eq_false c2
    have c2b1 : decide (1048576 < l0.length) = false := decide_eq_false (by omega)
    clear c2
    replace H := Option.bind_eq_some_iff.mp H
    obtain ⟨⟨t560, t561, t562, t563⟩, A30, H⟩ := H
    replace H : ((impl_GridSwap.f k t560 t561 t562 t563).bind fun t566 => ((spec_GridSwap.f k t560 t561 t562 t563).bind fun t569 => ((laws_sameInts.f k t566 t569).bind fun t572 => (if t572 = true then ((impl_GridSwap.f k t560 t561 t563 t562).bind fun t573 => ((laws_sameInts.f k t566 t573).bind fun t576 => (laws_FnGridSwap.j0 k t560 t561 t562 t563 t566 (!t576)))) else (laws_FnGridSwap.j0 k t560 t561 t562 t563 t566 true))))) = some r := H
    have A3 := Aside0.mk A30
    clear A30
    replace H := Option.bind_eq_some_iff.mp H
    obtain ⟨t566, A40, H⟩ := H
    replace H : ((spec_GridSwap.f k t560 t561 t562 t563).bind fun t569 => ((laws_sameInts.f k t566 t569).bind fun t572 => (if t572 = true then ((impl_GridSwap.f k t560 t561 t563 t562).bind fun t573 => ((laws_sameInts.f k t566 t573).bind fun t576 => (laws_FnGridSwap.j0 k t560 t561 t562 t563 t566 (!t576)))) else (laws_FnGridSwap.j0 k t560 t561 t562 t563 t566 true)))) = some r := H
    have A4 := Aside0.mk A40
    clear A40
    have HC5 := Aside0.mk H
    clear H
    go_enter Try.func11, Try.ntmps11
    go_upto_region 5 with (first | ((with_reducible refine gate_callee (f := 42) rfl ?_); refine goesL_ (some 13) rfl rfl Try.func42 (by kernel_rfl) rfl #[.slice A0 l0.length c0] rfl (by (try simp only [List.map_toArray, List.map_cons, List.map_nil]); first | done | rfl | (simp only [List.length_drop, List.length_take]; rfl)) ?_; (with_reducible refine (spec_DrawGridSwap.calls k _ _ l0 t560 t561 t562 t563 _ ?side1 ?side2 A3.out).mono ?_); (case side1 => repeat (first | exact HR0.out | (with_reducible refine Kd.C_alloc ?_ _) | (with_reducible refine Kd.C_drewN ?_ _) | (with_reducible refine Kd.C_drew ?_))); (case side2 => exact HC0.out); rintro e w6 ⟨v564, rfl, ho0, hb⟩; refine ⟨_, rfl, ?_⟩; have n0_ := Aside0.mk (Kd.Q_lower ho0 (below_size (by repeat (first | (with_reducible first | exact HB.out | apply below_alloc | apply pw_below_drewN | apply below_drew1) | exact HB.out)))); have n1_ := Aside0.mk (below_step (by repeat (first | (with_reducible first | exact HB.out | apply below_alloc | apply pw_below_drewN | apply below_drew1) | exact HB.out)) hb); clear HB; have HO565 := n0_; have HB := n1_; clear n0_ n1_; (try clear hb); (try clear hb2); (try clear hk); (try clear hi); (try clear ho0); obtain ⟨Ao7, co7, eo7, _⟩ := Kd.Q_slice HO565.out; subst eo7) | ((with_reducible refine gate_callee (f := 43) rfl ?_); refine goesL_ (some 22) rfl rfl Try.func43 (by kernel_rfl) rfl #[.slice Ao7 t560.length co7, .int .i64 t561, .int .i64 t562, .int .i64 t563] rfl (by (try simp only [List.map_toArray, List.map_cons, List.map_nil]); first | done | rfl | (simp only [List.length_drop, List.length_take]; rfl)) ?_; (with_reducible refine (impl_GridSwap.calls k _ _ t560 t561 t562 t563 t566 _ ?side1 ?side2 A4.out).mono ?_); (case side1 => repeat (first | exact (Kd.Q_reads' HO565.out).2.2 | (with_reducible refine Kd.C_alloc ?_ _) | (with_reducible refine Kd.C_drewN ?_ _) | (with_reducible refine Kd.C_drew ?_))); (case side2 => exact (Kd.Q_reads' HO565.out).2.1); rintro e w8 ⟨v567, rfl, ho0, hb⟩; refine ⟨_, rfl, ?_⟩; have n0_ := Aside0.mk (Kd.Q_elder' (by (with_reducible repeat (first | apply Kd.Q_alloc | apply Kd.Q_drewN | apply Kd.Q_drew)); exact HO565.out) (Kd.R_base ho0) hb); have n1_ := Aside0.mk (Kd.R_lower (Kd.R_new' ho0 (Kd.Q_lt (by (with_reducible repeat (first | apply Kd.Q_alloc | apply Kd.Q_drewN | apply Kd.Q_drew)); exact HO565.out))) (below_size (by repeat (first | (with_reducible first | exact HB.out | apply below_alloc | apply pw_below_drewN | apply below_drew1) | exact HB.out)))); have n2_ := Aside0.mk (below_step (by repeat (first | (with_reducible first | exact HB.out | apply below_alloc | apply pw_below_drewN | apply below_drew1) | exact HB.out)) hb); clear HO565; clear HB; have HO565 := n0_; have HO568 := n1_; have HB := n2_; clear n0_ n1_ n2_; (try clear hb); (try clear hb2); (try clear hk); (try clear hi); (try clear ho0)))
    (try simp only [Act.put, List.setIfInBounds_toArray, List.set_cons_zero, List.set_cons_succ])
    go_cut [40] (fun v40 wc => ∃ (kq : Nat) (x40_4 : Bool), v40 = .bool x40_4 ∧ Aside0 (laws_FnGridSwap.j0 kq t560 t561 t562 t563 t566 x40_4 = some r) ∧ Aside0 (kq ≤ k) ∧ Aside0 (Kd.Q (Kd.int .i64) 3 wc w.heap.size (fun k_ => some k_ ≠ (v567 : Value).ownBlock) (.slice Ao7 t560.length co7) t560) ∧ Aside0 (Kd.R (Kd.int .i64) 3 wc w.heap.size (fun k_ => some k_ ≠ ((.slice Ao7 t560.length co7) : Value).ownBlock) v567 t566) ∧ Aside0 (Below w.heap.size w wc))
    case first =>
      have H := HC5.out
      clear HC5
      replace H := Option.bind_eq_some_iff.mp H
      obtain ⟨t569, A90, H⟩ := H
      replace H : ((laws_sameInts.f k t566 t569).bind fun t572 => (if t572 = true then ((impl_GridSwap.f k t560 t561 t563 t562).bind fun t573 => ((laws_sameInts.f k t566 t573).bind fun t576 => (laws_FnGridSwap.j0 k t560 t561 t562 t563 t566 (!t576)))) else (laws_FnGridSwap.j0 k t560 t561 t562 t563 t566 true))) = some r := H
      have A9 := Aside0.mk A90
      clear A90
      replace H := Option.bind_eq_some_iff.mp H
      obtain ⟨t572, A100, H⟩ := H
      replace H : (if t572 = true then ((impl_GridSwap.f k t560 t561 t563 t562).bind fun t573 => ((laws_sameInts.f k t566 t573).bind fun t576 => (laws_FnGridSwap.j0 k t560 t561 t562 t563 t566 (!t576)))) else (laws_FnGridSwap.j0 k t560 t561 t562 t563 t566 true)) = some r := H
      have A10 := Aside0.mk A100
      clear A100
      by_cases c11 : t572 = true
      · subst c11
        have H1 : ((impl_GridSwap.f k t560 t561 t563 t562).bind fun t573 => ((laws_sameInts.f k t566 t573).bind fun t576 => (laws_FnGridSwap.j0 k t560 t561 t562 t563 t566 (!t576)))) = some r := by rw [if_pos rfl] at H; exact H
        clear H
        have H := H1
        clear H1
        replace H := Option.bind_eq_some_iff.mp H
        obtain ⟨t573, A120, H⟩ := H
        replace H : ((laws_sameInts.f k t566 t573).bind fun t576 => (laws_FnGridSwap.j0 k t560 t561 t562 t563 t566 (!t576))) = some r := H
        have A12 := Aside0.mk A120
        clear A120
        replace H := Option.bind_eq_some_iff.mp H
        obtain ⟨t576, A130, H⟩ := H
        replace H : (laws_FnGridSwap.j0 k t560 t561 t562 t563 t566 (!t576)) = some r := H
        have A13 := Aside0.mk A130
        clear A130
        have H' := Aside0.mk H
        clear H
        go_wp2_with (first | ((with_reducible refine gate_callee (f := 44) rfl ?_); refine goesL_ (some 28) rfl rfl Try.func44 (by kernel_rfl) rfl #[.slice Ao7 t560.length co7, .int .i64 t561, .int .i64 t562, .int .i64 t563] rfl (by (try simp only [List.map_toArray, List.map_cons, List.map_nil]); first | done | rfl | (simp only [List.length_drop, List.length_take]; rfl)) ?_; (with_reducible refine (spec_GridSwap.calls k _ _ t560 t561 t562 t563 t569 _ ?side1 ?side2 A9.out).mono ?_); (case side1 => repeat (first | exact (Kd.Q_reads' HO565.out).2.2 | (with_reducible refine Kd.C_alloc ?_ _) | (with_reducible refine Kd.C_drewN ?_ _) | (with_reducible refine Kd.C_drew ?_))); (case side2 => exact (Kd.Q_reads' HO565.out).2.1); rintro e w14 ⟨v570, rfl, ho0, hb⟩; refine ⟨_, rfl, ?_⟩; have n0_ := Aside0.mk (Kd.Q_elder' (by (with_reducible repeat (first | apply Kd.Q_alloc | apply Kd.Q_drewN | apply Kd.Q_drew)); exact HO565.out) (Kd.R_base ho0) hb); have n1_ := Aside0.mk (Kd.R_elder' (by (with_reducible repeat (first | apply Kd.R_alloc | apply Kd.R_drewN | apply Kd.R_drew)); exact HO568.out) (Kd.R_base ho0) hb); have n2_ := Aside0.mk (Kd.R_lower (Kd.R_new' (Kd.R_new' ho0 (Kd.Q_lt (by (with_reducible repeat (first | apply Kd.Q_alloc | apply Kd.Q_drewN | apply Kd.Q_drew)); exact HO565.out))) (Kd.R_lt (by (with_reducible repeat (first | apply Kd.R_alloc | apply Kd.R_drewN | apply Kd.R_drew)); exact HO568.out))) (below_size (by repeat (first | (with_reducible first | exact HB.out | apply below_alloc | apply pw_below_drewN | apply below_drew1) | exact HB.out)))); have n3_ := Aside0.mk (below_step (by repeat (first | (with_reducible first | exact HB.out | apply below_alloc | apply pw_below_drewN | apply below_drew1) | exact HB.out)) hb); clear HO565; clear HO568; clear HB; have HO565 := n0_; have HO568 := n1_; have HO571 := n2_; have HB := n3_; clear n0_ n1_ n2_ n3_; (try clear hb); (try clear hb2); (try clear hk); (try clear hi); (try clear ho0); obtain ⟨Ao15, co15, eo15⟩ := Kd.R_slice HO568.out; subst eo15; obtain ⟨Ao16, co16, eo16⟩ := Kd.R_slice HO571.out; subst eo16) | ((with_reducible refine gate_callee (f := 17) rfl ?_); refine goesL_ (some 29) rfl rfl Try.func17 (by kernel_rfl) rfl #[.slice Ao15 t566.length co15, .slice Ao16 t569.length co16] rfl (by (try simp only [List.map_toArray, List.map_cons, List.map_nil]); first | done | rfl | (simp only [List.length_drop, List.length_take]; rfl)) ?_; (with_reducible refine (laws_sameInts.calls k _ _ t566 _ _ t569 true _ ?side1 ?side2 ?side3 ?side4 A10.out).mono ?_); (case side1 => repeat (first | exact (Kd.R_reads' HO568.out).2.2 | (with_reducible refine Kd.C_alloc ?_ _) | (with_reducible refine Kd.C_drewN ?_ _) | (with_reducible refine Kd.C_drew ?_))); (case side2 => exact (Kd.R_reads' HO568.out).2.1); (case side3 => repeat (first | exact (Kd.R_reads' HO571.out).2.2 | (with_reducible refine Kd.C_alloc ?_ _) | (with_reducible refine Kd.C_drewN ?_ _) | (with_reducible refine Kd.C_drew ?_))); (case side4 => exact (Kd.R_reads' HO571.out).2.1); rintro e w' ⟨rfl, ⟨nd, rfl⟩⟩; refine ⟨_, rfl, ?_⟩) | (go_at_call 43; (with_reducible refine (impl_GridSwap.calls k _ _ t560 t561 t563 t562 t573 _ ?side1 ?side2 A12.out).mono ?_); (case side1 => repeat (first | exact (Kd.Q_reads' HO565.out).2.2 | (with_reducible refine Kd.C_alloc ?_ _) | (with_reducible refine Kd.C_drewN ?_ _) | (with_reducible refine Kd.C_drew ?_))); (case side2 => exact (Kd.Q_reads' HO565.out).2.1); rintro e w17 ⟨v574, rfl, ho0, hb⟩; have n0_ := Aside0.mk (Kd.Q_elder' (by (with_reducible repeat (first | apply Kd.Q_alloc | apply Kd.Q_drewN | apply Kd.Q_drew)); exact HO565.out) (Kd.R_base ho0) hb); have n1_ := Aside0.mk (Kd.R_elder' (by (with_reducible repeat (first | apply Kd.R_alloc | apply Kd.R_drewN | apply Kd.R_drew)); exact HO568.out) (Kd.R_base ho0) hb); have n2_ := Aside0.mk (Kd.R_elder' (by (with_reducible repeat (first | apply Kd.R_alloc | apply Kd.R_drewN | apply Kd.R_drew)); exact HO571.out) (Kd.R_base ho0) hb); have n3_ := Aside0.mk (Kd.R_lower (Kd.R_new' (Kd.R_new' (Kd.R_new' ho0 (Kd.Q_lt (by (with_reducible repeat (first | apply Kd.Q_alloc | apply Kd.Q_drewN | apply Kd.Q_drew)); exact HO565.out))) (Kd.R_lt (by (with_reducible repeat (first | apply Kd.R_alloc | apply Kd.R_drewN | apply Kd.R_drew)); exact HO568.out))) (Kd.R_lt (by (with_reducible repeat (first | apply Kd.R_alloc | apply Kd.R_drewN | apply Kd.R_drew)); exact HO571.out))) (below_size (by repeat (first | (with_reducible first | exact HB.out | apply below_alloc | apply pw_below_drewN | apply below_drew1) | exact HB.out)))); have n4_ := Aside0.mk (below_step (by repeat (first | (with_reducible first | exact HB.out | apply below_alloc | apply pw_below_drewN | apply below_drew1) | exact HB.out)) hb); clear HO565; clear HO568; clear HO571; clear HB; have HO565 := n0_; have HO568 := n1_; have HO571 := n2_; have HO575 := n3_; have HB := n4_; clear n0_ n1_ n2_ n3_ n4_; (try clear hb); (try clear hb2); (try clear hk); (try clear hi); (try clear ho0); obtain ⟨Ao18, co18, eo18⟩ := Kd.R_slice HO575.out; subst eo18) | (go_at_call 17; (with_reducible refine (laws_sameInts.calls k _ _ t566 _ _ t573 t576 _ ?side1 ?side2 ?side3 ?side4 A13.out).mono ?_); (case side1 => repeat (first | exact (Kd.R_reads' HO568.out).2.2 | (with_reducible refine Kd.C_alloc ?_ _) | (with_reducible refine Kd.C_drewN ?_ _) | (with_reducible refine Kd.C_drew ?_))); (case side2 => exact (Kd.R_reads' HO568.out).2.1); (case side3 => repeat (first | exact (Kd.R_reads' HO575.out).2.2 | (with_reducible refine Kd.C_alloc ?_ _) | (with_reducible refine Kd.C_drewN ?_ _) | (with_reducible refine Kd.C_drew ?_))); (case side4 => exact (Kd.R_reads' HO575.out).2.1); rintro e w' ⟨rfl, ⟨nd, rfl⟩⟩))
        go_meet
        case rel => exact ⟨_, (!t576), (by first | rfl | (simp; done) | (simp [*]; done)), H', ⟨by first | omega | exact Nat.le_refl _⟩, ⟨by (with_reducible repeat (first | apply Kd.Q_alloc | apply Kd.Q_drewN | apply Kd.Q_drew)); exact Kd.Q_mono HO565.out (fun _ hk => hk.1.1.2)⟩, ⟨by (with_reducible repeat (first | apply Kd.R_alloc | apply Kd.R_drewN | apply Kd.R_drew)); exact Kd.R_mono HO568.out (fun _ hk => hk.1.1.2)⟩, ⟨by repeat (first | (with_reducible first | exact HB.out | apply below_alloc | apply pw_below_drewN | apply below_drew1) | exact HB.out)⟩⟩
      · replace c11 := Bool.eq_false_iff.mpr c11
        subst c11
        have H1 : (laws_FnGridSwap.j0 k t560 t561 t562 t563 t566 true) = some r := by rw [if_neg (show ¬ (false = true) by decide)] at H; exact H
        clear H
        have H := H1
        clear H1
        have H' := Aside0.mk H
        clear H
        go_wp2_with (first | ((with_reducible refine gate_callee (f := 44) rfl ?_); refine goesL_ (some 28) rfl rfl Try.func44 (by kernel_rfl) rfl #[.slice Ao7 t560.length co7, .int .i64 t561, .int .i64 t562, .int .i64 t563] rfl (by (try simp only [List.map_toArray, List.map_cons, List.map_nil]); first | done | rfl | (simp only [List.length_drop, List.length_take]; rfl)) ?_; (with_reducible refine (spec_GridSwap.calls k _ _ t560 t561 t562 t563 t569 _ ?side1 ?side2 A9.out).mono ?_); (case side1 => repeat (first | exact (Kd.Q_reads' HO565.out).2.2 | (with_reducible refine Kd.C_alloc ?_ _) | (with_reducible refine Kd.C_drewN ?_ _) | (with_reducible refine Kd.C_drew ?_))); (case side2 => exact (Kd.Q_reads' HO565.out).2.1); rintro e w19 ⟨v570, rfl, ho0, hb⟩; refine ⟨_, rfl, ?_⟩; have n0_ := Aside0.mk (Kd.Q_elder' (by (with_reducible repeat (first | apply Kd.Q_alloc | apply Kd.Q_drewN | apply Kd.Q_drew)); exact HO565.out) (Kd.R_base ho0) hb); have n1_ := Aside0.mk (Kd.R_elder' (by (with_reducible repeat (first | apply Kd.R_alloc | apply Kd.R_drewN | apply Kd.R_drew)); exact HO568.out) (Kd.R_base ho0) hb); have n2_ := Aside0.mk (Kd.R_lower (Kd.R_new' (Kd.R_new' ho0 (Kd.Q_lt (by (with_reducible repeat (first | apply Kd.Q_alloc | apply Kd.Q_drewN | apply Kd.Q_drew)); exact HO565.out))) (Kd.R_lt (by (with_reducible repeat (first | apply Kd.R_alloc | apply Kd.R_drewN | apply Kd.R_drew)); exact HO568.out))) (below_size (by repeat (first | (with_reducible first | exact HB.out | apply below_alloc | apply pw_below_drewN | apply below_drew1) | exact HB.out)))); have n3_ := Aside0.mk (below_step (by repeat (first | (with_reducible first | exact HB.out | apply below_alloc | apply pw_below_drewN | apply below_drew1) | exact HB.out)) hb); clear HO565; clear HO568; clear HB; have HO565 := n0_; have HO568 := n1_; have HO571 := n2_; have HB := n3_; clear n0_ n1_ n2_ n3_; (try clear hb); (try clear hb2); (try clear hk); (try clear hi); (try clear ho0); obtain ⟨Ao20, co20, eo20⟩ := Kd.R_slice HO568.out; subst eo20; obtain ⟨Ao21, co21, eo21⟩ := Kd.R_slice HO571.out; subst eo21) | ((with_reducible refine gate_callee (f := 17) rfl ?_); refine goesL_ (some 29) rfl rfl Try.func17 (by kernel_rfl) rfl #[.slice Ao20 t566.length co20, .slice Ao21 t569.length co21] rfl (by (try simp only [List.map_toArray, List.map_cons, List.map_nil]); first | done | rfl | (simp only [List.length_drop, List.length_take]; rfl)) ?_; (with_reducible refine (laws_sameInts.calls k _ _ t566 _ _ t569 false _ ?side1 ?side2 ?side3 ?side4 A10.out).mono ?_); (case side1 => repeat (first | exact (Kd.R_reads' HO568.out).2.2 | (with_reducible refine Kd.C_alloc ?_ _) | (with_reducible refine Kd.C_drewN ?_ _) | (with_reducible refine Kd.C_drew ?_))); (case side2 => exact (Kd.R_reads' HO568.out).2.1); (case side3 => repeat (first | exact (Kd.R_reads' HO571.out).2.2 | (with_reducible refine Kd.C_alloc ?_ _) | (with_reducible refine Kd.C_drewN ?_ _) | (with_reducible refine Kd.C_drew ?_))); (case side4 => exact (Kd.R_reads' HO571.out).2.1); rintro e w' ⟨rfl, ⟨nd, rfl⟩⟩; refine ⟨_, rfl, ?_⟩))
        go_meet
        case rel => exact ⟨_, (true), (by first | rfl | (simp; done) | (simp [*]; done)), H', ⟨by first | omega | exact Nat.le_refl _⟩, ⟨by (with_reducible repeat (first | apply Kd.Q_alloc | apply Kd.Q_drewN | apply Kd.Q_drew)); exact Kd.Q_mono HO565.out (fun _ hk => hk.1.2)⟩, ⟨by (with_reducible repeat (first | apply Kd.R_alloc | apply Kd.R_drewN | apply Kd.R_drew)); exact Kd.R_mono HO568.out (fun _ hk => hk.1.2)⟩, ⟨by repeat (first | (with_reducible first | exact HB.out | apply below_alloc | apply pw_below_drewN | apply below_drew1) | exact HB.out)⟩⟩
    case rest =>
      clear HC5
      try clear c1
      try clear c2
      try clear c2b0
      try clear c2b1
      try clear p2
      try clear c4
      try clear c11
      try clear c17
      obtain ⟨kq, x40_4, rfl, HA, HJ4, HO_3, HO_7, HB⟩ := hcut
      cases kq with
      | zero => exact absurd HA.out (by simp [laws_FnGridSwap.j0])
      | succ kj4 =>
        have H := HA.out
        clear HA
        simp only [laws_FnGridSwap.j0] at H
        by_cases c22 : x40_4 = true
        · subst c22
          have H1 : (some false) = some r := by rw [if_pos rfl] at H; exact H
          clear H
          have H := H1
          clear H1
          obtain rfl := Option.some.inj H
          go_wp2
          go_ret
          exact ⟨by first | rfl | (simp [errW_none, errW_some] <;> rfl) | (simp [*, errW_none, errW_some] <;> rfl), by repeat (first | (with_reducible first | exact HB.out | apply below_alloc | apply pw_below_drewN | apply below_drew1) | exact HB.out)⟩
        · replace c22 := Bool.eq_false_iff.mpr c22
          subst c22
          have H1 : (if (t566.length : Int) = 0 then ((laws_alive.f kj4).bind fun t577 => (some t577)) else ((impl_GridSwap.f kj4 t566 t561 t562 t563).bind fun t578 => ((laws_sameInts.f kj4 t578 t560).bind fun t581 => (if t581 = true then ((impl_SquareFits.f kj4 t566 t561).bind fun t582 => ((impl_SquareFits.f kj4 t560 t561).bind fun t583 => (some (t582 == t583)))) else (some false))))) = some r := by rw [if_neg (show ¬ (false = true) by decide)] at H; exact H
          clear H
          have H := H1
          clear H1
          by_cases c23 : (t566.length : Int) = 0
          · rw [if_pos c23] at H
            have c23b0 : ((t566.length : Int) == 0) = true := beq_iff_eq.mpr c23
            have c23b1 : ((t566.length : Int) != 0) = false := bne_eq_false_iff_eq.mpr c23
            clear c23
            replace H := Option.bind_eq_some_iff.mp H
            obtain ⟨t577, A240, H⟩ := H
            replace H : (some t577) = some r := H
            have A24 := Aside0.mk A240
            clear A240
            obtain rfl := Option.some.inj H
            obtain ⟨Ao25, co25, eo25⟩ := Kd.R_slice HO_7.out
            subst eo25
            go_wp2_with (first | ((with_reducible refine gate_callee (f := 19) rfl ?_); refine goesL_ (some 44) rfl rfl Try.func19 (by kernel_rfl) rfl #[] rfl (by (try simp only [List.map_toArray, List.map_cons, List.map_nil]); first | done | rfl | (simp only [List.length_drop, List.length_take]; rfl)) ?_; (with_reducible refine (laws_alive.calls kj4  t577 _ A24.out).mono ?_); rintro e w26 ⟨rfl, hb⟩; refine ⟨_, rfl, ?_⟩; have n0_ := Aside0.mk (Kd.Q_below (by (with_reducible repeat (first | apply Kd.Q_alloc | apply Kd.Q_drewN | apply Kd.Q_drew)); exact HO_3.out) hb); have n1_ := Aside0.mk (Kd.R_below (by (with_reducible repeat (first | apply Kd.R_alloc | apply Kd.R_drewN | apply Kd.R_drew)); exact HO_7.out) hb); have n2_ := Aside0.mk (below_step (by repeat (first | (with_reducible first | exact HB.out | apply below_alloc | apply pw_below_drewN | apply below_drew1) | exact HB.out)) hb); clear HO_3; clear HO_7; clear HB; have HO_3 := n0_; have HO_7 := n1_; have HB := n2_; clear n0_ n1_ n2_; (try clear hb); (try clear hb2); (try clear hk); (try clear hi)))
            go_ret
            exact ⟨by first | rfl | (simp [errW_none, errW_some] <;> rfl) | (simp [*, errW_none, errW_some] <;> rfl), by repeat (first | (with_reducible first | exact HB.out | apply below_alloc | apply pw_below_drewN | apply below_drew1) | exact HB.out)⟩
          · rw [if_neg c23] at H
            have c23b0 : ((t566.length : Int) == 0) = false := beq_eq_false_iff_ne.mpr c23
            have c23b1 : ((t566.length : Int) != 0) = true := bne_iff_ne.mpr c23
            have c23b2 : ¬ (t566 = []) := fun h_ => c23 (by rw [h_]; rfl)
            replace H := Option.bind_eq_some_iff.mp H
            obtain ⟨t578, A270, H⟩ := H
            replace H : ((laws_sameInts.f kj4 t578 t560).bind fun t581 => (if t581 = true then ((impl_SquareFits.f kj4 t566 t561).bind fun t582 => ((impl_SquareFits.f kj4 t560 t561).bind fun t583 => (some (t582 == t583)))) else (some false))) = some r := H
            have A27 := Aside0.mk A270
            clear A270
            replace H := Option.bind_eq_some_iff.mp H
            obtain ⟨t581, A280, H⟩ := H
            replace H : (if t581 = true then ((impl_SquareFits.f kj4 t566 t561).bind fun t582 => ((impl_SquareFits.f kj4 t560 t561).bind fun t583 => (some (t582 == t583)))) else (some false)) = some r := H
            have A28 := Aside0.mk A280
            clear A280
            by_cases c29 : t581 = true
            · subst c29
              have H1 : ((impl_SquareFits.f kj4 t566 t561).bind fun t582 => ((impl_SquareFits.f kj4 t560 t561).bind fun t583 => (some (t582 == t583)))) = some r := by rw [if_pos rfl] at H; exact H
              clear H
              have H := H1
              clear H1
              replace H := Option.bind_eq_some_iff.mp H
              obtain ⟨t582, A300, H⟩ := H
              replace H : ((impl_SquareFits.f kj4 t560 t561).bind fun t583 => (some (t582 == t583))) = some r := H
              have A30 := Aside0.mk A300
              clear A300
              replace H := Option.bind_eq_some_iff.mp H
              obtain ⟨t583, A310, H⟩ := H
              replace H : (some (t582 == t583)) = some r := H
              have A31 := Aside0.mk A310
              clear A310
              obtain rfl := Option.some.inj H
              obtain ⟨Ao32, co32, eo32⟩ := Kd.R_slice HO_7.out
              subst eo32
              go_wp2_with (first | ((with_reducible refine gate_callee (f := 43) rfl ?_); refine goesL_ (some 49) rfl rfl Try.func43 (by kernel_rfl) rfl #[.slice Ao32 t566.length co32, .int .i64 t561, .int .i64 t562, .int .i64 t563] rfl (by (try simp only [List.map_toArray, List.map_cons, List.map_nil]); first | done | rfl | (simp only [List.length_drop, List.length_take]; rfl)) ?_; (with_reducible refine (impl_GridSwap.calls kj4 _ _ t566 t561 t562 t563 t578 _ ?side1 ?side2 A27.out).mono ?_); (case side1 => repeat (first | exact (Kd.R_reads' HO_7.out).2.2 | (with_reducible refine Kd.C_alloc ?_ _) | (with_reducible refine Kd.C_drewN ?_ _) | (with_reducible refine Kd.C_drew ?_))); (case side2 => exact (Kd.R_reads' HO_7.out).2.1); rintro e w33 ⟨v579, rfl, ho0, hb⟩; refine ⟨_, rfl, ?_⟩; have n0_ := Aside0.mk (Kd.Q_elder' (by (with_reducible repeat (first | apply Kd.Q_alloc | apply Kd.Q_drewN | apply Kd.Q_drew)); exact HO_3.out) (Kd.R_base ho0) hb); have n1_ := Aside0.mk (Kd.R_elder' (by (with_reducible repeat (first | apply Kd.R_alloc | apply Kd.R_drewN | apply Kd.R_drew)); exact HO_7.out) (Kd.R_base ho0) hb); have n2_ := Aside0.mk (Kd.R_lower (Kd.R_new' (Kd.R_new' ho0 (Kd.Q_lt (by (with_reducible repeat (first | apply Kd.Q_alloc | apply Kd.Q_drewN | apply Kd.Q_drew)); exact HO_3.out))) (Kd.R_lt (by (with_reducible repeat (first | apply Kd.R_alloc | apply Kd.R_drewN | apply Kd.R_drew)); exact HO_7.out))) (below_size (by repeat (first | (with_reducible first | exact HB.out | apply below_alloc | apply pw_below_drewN | apply below_drew1) | exact HB.out)))); have n3_ := Aside0.mk (below_step (by repeat (first | (with_reducible first | exact HB.out | apply below_alloc | apply pw_below_drewN | apply below_drew1) | exact HB.out)) hb); clear HO_3; clear HO_7; clear HB; have HO_3 := n0_; have HO_7 := n1_; have HO580 := n2_; have HB := n3_; clear n0_ n1_ n2_ n3_; (try clear hb); (try clear hb2); (try clear hk); (try clear hi); (try clear ho0); obtain ⟨Ao34, co34, eo34⟩ := Kd.R_slice HO580.out; subst eo34) | ((with_reducible refine gate_callee (f := 17) rfl ?_); refine goesL_ (some 51) rfl rfl Try.func17 (by kernel_rfl) rfl #[.slice Ao34 t578.length co34, .slice Ao7 t560.length co7] rfl (by (try simp only [List.map_toArray, List.map_cons, List.map_nil]); first | done | rfl | (simp only [List.length_drop, List.length_take]; rfl)) ?_; (with_reducible refine (laws_sameInts.calls kj4 _ _ t578 _ _ t560 true _ ?side1 ?side2 ?side3 ?side4 A28.out).mono ?_); (case side1 => repeat (first | exact (Kd.R_reads' HO580.out).2.2 | (with_reducible refine Kd.C_alloc ?_ _) | (with_reducible refine Kd.C_drewN ?_ _) | (with_reducible refine Kd.C_drew ?_))); (case side2 => exact (Kd.R_reads' HO580.out).2.1); (case side3 => repeat (first | exact (Kd.Q_reads' HO_3.out).2.2 | (with_reducible refine Kd.C_alloc ?_ _) | (with_reducible refine Kd.C_drewN ?_ _) | (with_reducible refine Kd.C_drew ?_))); (case side4 => exact (Kd.Q_reads' HO_3.out).2.1); rintro e w' ⟨rfl, ⟨nd, rfl⟩⟩; refine ⟨_, rfl, ?_⟩) | (go_at_call 37; (with_reducible refine (impl_SquareFits.calls kj4 _ _ t566 t561 t582 _ ?side1 ?side2 A30.out).mono ?_); (case side1 => repeat (first | exact (Kd.R_reads' HO_7.out).2.2 | (with_reducible refine Kd.C_alloc ?_ _) | (with_reducible refine Kd.C_drewN ?_ _) | (with_reducible refine Kd.C_drew ?_))); (case side2 => exact (Kd.R_reads' HO_7.out).2.1); rintro e w35 ⟨rfl, hb⟩; have n0_ := Aside0.mk (Kd.Q_below (by (with_reducible repeat (first | apply Kd.Q_alloc | apply Kd.Q_drewN | apply Kd.Q_drew)); exact HO_3.out) hb); have n1_ := Aside0.mk (Kd.R_below (by (with_reducible repeat (first | apply Kd.R_alloc | apply Kd.R_drewN | apply Kd.R_drew)); exact HO_7.out) hb); have n2_ := Aside0.mk (Kd.R_below (by (with_reducible repeat (first | apply Kd.R_alloc | apply Kd.R_drewN | apply Kd.R_drew)); exact HO580.out) hb); have n3_ := Aside0.mk (below_step (by repeat (first | (with_reducible first | exact HB.out | apply below_alloc | apply pw_below_drewN | apply below_drew1) | exact HB.out)) hb); clear HO_3; clear HO_7; clear HO580; clear HB; have HO_3 := n0_; have HO_7 := n1_; have HO580 := n2_; have HB := n3_; clear n0_ n1_ n2_ n3_; (try clear hb); (try clear hb2); (try clear hk); (try clear hi)) | (go_at_call 37; (with_reducible refine (impl_SquareFits.calls kj4 _ _ t560 t561 t583 _ ?side1 ?side2 A31.out).mono ?_); (case side1 => repeat (first | exact (Kd.Q_reads' HO_3.out).2.2 | (with_reducible refine Kd.C_alloc ?_ _) | (with_reducible refine Kd.C_drewN ?_ _) | (with_reducible refine Kd.C_drew ?_))); (case side2 => exact (Kd.Q_reads' HO_3.out).2.1); rintro e w36 ⟨rfl, hb⟩; have n0_ := Aside0.mk (Kd.Q_below (by (with_reducible repeat (first | apply Kd.Q_alloc | apply Kd.Q_drewN | apply Kd.Q_drew)); exact HO_3.out) hb); have n1_ := Aside0.mk (Kd.R_below (by (with_reducible repeat (first | apply Kd.R_alloc | apply Kd.R_drewN | apply Kd.R_drew)); exact HO_7.out) hb); have n2_ := Aside0.mk (Kd.R_below (by (with_reducible repeat (first | apply Kd.R_alloc | apply Kd.R_drewN | apply Kd.R_drew)); exact HO580.out) hb); have n3_ := Aside0.mk (below_step (by repeat (first | (with_reducible first | exact HB.out | apply below_alloc | apply pw_below_drewN | apply below_drew1) | exact HB.out)) hb); clear HO_3; clear HO_7; clear HO580; clear HB; have HO_3 := n0_; have HO_7 := n1_; have HO580 := n2_; have HB := n3_; clear n0_ n1_ n2_ n3_; (try clear hb); (try clear hb2); (try clear hk); (try clear hi)))
              go_ret
              exact ⟨by first | rfl | (simp [errW_none, errW_some] <;> rfl) | (simp [*, errW_none, errW_some] <;> rfl), by repeat (first | (with_reducible first | exact HB.out | apply below_alloc | apply pw_below_drewN | apply below_drew1) | exact HB.out)⟩
            · replace c29 := Bool.eq_false_iff.mpr c29
              subst c29
              have H1 : (some false) = some r := by rw [if_neg (show ¬ (false = true) by decide)] at H; exact H
              clear H
              have H := H1
              clear H1
              obtain rfl := Option.some.inj H
              obtain ⟨Ao37, co37, eo37⟩ := Kd.R_slice HO_7.out
              subst eo37
              go_wp2_with (first | ((with_reducible refine gate_callee (f := 43) rfl ?_); refine goesL_ (some 49) rfl rfl Try.func43 (by kernel_rfl) rfl #[.slice Ao37 t566.length co37, .int .i64 t561, .int .i64 t562, .int .i64 t563] rfl (by (try simp only [List.map_toArray, List.map_cons, List.map_nil]); first | done | rfl | (simp only [List.length_drop, List.length_take]; rfl)) ?_; (with_reducible refine (impl_GridSwap.calls kj4 _ _ t566 t561 t562 t563 t578 _ ?side1 ?side2 A27.out).mono ?_); (case side1 => repeat (first | exact (Kd.R_reads' HO_7.out).2.2 | (with_reducible refine Kd.C_alloc ?_ _) | (with_reducible refine Kd.C_drewN ?_ _) | (with_reducible refine Kd.C_drew ?_))); (case side2 => exact (Kd.R_reads' HO_7.out).2.1); rintro e w38 ⟨v579, rfl, ho0, hb⟩; refine ⟨_, rfl, ?_⟩; have n0_ := Aside0.mk (Kd.Q_elder' (by (with_reducible repeat (first | apply Kd.Q_alloc | apply Kd.Q_drewN | apply Kd.Q_drew)); exact HO_3.out) (Kd.R_base ho0) hb); have n1_ := Aside0.mk (Kd.R_elder' (by (with_reducible repeat (first | apply Kd.R_alloc | apply Kd.R_drewN | apply Kd.R_drew)); exact HO_7.out) (Kd.R_base ho0) hb); have n2_ := Aside0.mk (Kd.R_lower (Kd.R_new' (Kd.R_new' ho0 (Kd.Q_lt (by (with_reducible repeat (first | apply Kd.Q_alloc | apply Kd.Q_drewN | apply Kd.Q_drew)); exact HO_3.out))) (Kd.R_lt (by (with_reducible repeat (first | apply Kd.R_alloc | apply Kd.R_drewN | apply Kd.R_drew)); exact HO_7.out))) (below_size (by repeat (first | (with_reducible first | exact HB.out | apply below_alloc | apply pw_below_drewN | apply below_drew1) | exact HB.out)))); have n3_ := Aside0.mk (below_step (by repeat (first | (with_reducible first | exact HB.out | apply below_alloc | apply pw_below_drewN | apply below_drew1) | exact HB.out)) hb); clear HO_3; clear HO_7; clear HB; have HO_3 := n0_; have HO_7 := n1_; have HO580 := n2_; have HB := n3_; clear n0_ n1_ n2_ n3_; (try clear hb); (try clear hb2); (try clear hk); (try clear hi); (try clear ho0); obtain ⟨Ao39, co39, eo39⟩ := Kd.R_slice HO580.out; subst eo39) | ((with_reducible refine gate_callee (f := 17) rfl ?_); refine goesL_ (some 51) rfl rfl Try.func17 (by kernel_rfl) rfl #[.slice Ao39 t578.length co39, .slice Ao7 t560.length co7] rfl (by (try simp only [List.map_toArray, List.map_cons, List.map_nil]); first | done | rfl | (simp only [List.length_drop, List.length_take]; rfl)) ?_; (with_reducible refine (laws_sameInts.calls kj4 _ _ t578 _ _ t560 false _ ?side1 ?side2 ?side3 ?side4 A28.out).mono ?_); (case side1 => repeat (first | exact (Kd.R_reads' HO580.out).2.2 | (with_reducible refine Kd.C_alloc ?_ _) | (with_reducible refine Kd.C_drewN ?_ _) | (with_reducible refine Kd.C_drew ?_))); (case side2 => exact (Kd.R_reads' HO580.out).2.1); (case side3 => repeat (first | exact (Kd.Q_reads' HO_3.out).2.2 | (with_reducible refine Kd.C_alloc ?_ _) | (with_reducible refine Kd.C_drewN ?_ _) | (with_reducible refine Kd.C_drew ?_))); (case side4 => exact (Kd.Q_reads' HO_3.out).2.1); rintro e w' ⟨rfl, ⟨nd, rfl⟩⟩; refine ⟨_, rfl, ?_⟩))
              go_ret
              exact ⟨by first | rfl | (simp [errW_none, errW_some] <;> rfl) | (simp [*, errW_none, errW_some] <;> rfl), by repeat (first | (with_reducible first | exact HB.out | apply below_alloc | apply pw_below_drewN | apply below_drew1) | exact HB.out)⟩

/-- THE ONE PURE STATEMENT of laws_FnGridSwap: yours. -/
def laws_FnGridSwap.Pure : Prop := ∀ (l0 : List Int), l0.length ≤ maxLen → l0.length * 1 ≤ 140737488351232 → (∀ x ∈ l0, (Lit.int .u8 x).wf = true) → ∃ k, laws_FnGridSwap.f k l0 = some true
theorem laws_FnGridSwap.walk (P : laws_FnGridSwap.Pure) (a0 : Option Addr) (len0 cap0 : Nat) (z0 : List Int) (w : World) (w0 : (a0 = none ∧ len0 = 0 ∧ cap0 = 0 ∧ z0 = []) ∨ ∃ x, a0 = some x ∧ len0 ≤ cap0 ∧ cap0 ≤ maxLen ∧ z0.length = cap0 ∧ (∀ i, i < z0.length → w.cell? (x.add i) = some (.int .u8 (z0.getD i 0))) ∧ ∀ n ∈ z0, (Lit.int .u8 n).wf = true) (y0 : len0 * 1 ≤ 140737488351232) :
    Calls Try.prog 11 #[.slice a0 len0 cap0] w fun e w' => e = .returned (.bool true) ∧ Below w.heap.size w w' := by
  obtain ⟨l0, rfl, hr0, hm0, hw0, hc0⟩ := ReadsInt.ofRowC w0
  obtain ⟨k, h⟩ := P l0 hm0 y0 hw0
  refine (laws_FnGridSwap.calls k _ _ l0 true w (Kd.C_of_reads (d := (0 : Int)) (h1 := fun _ => rfl) hr0) hc0 h).mono ?_
  rintro e w' ⟨rfl, hd⟩
  exact ⟨rfl, hd⟩

end Go.Proofs.Ytnocdmclcdfppaa.P
