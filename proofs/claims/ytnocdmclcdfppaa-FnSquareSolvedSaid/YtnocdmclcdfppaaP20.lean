/- The machine's side of laws of this seat: each Go function as a plain Lean function and the proof that the machine's call does what that function says; written by this session's own program over the kit's print. -/
import Derived.Test.YtnocdmclcdfppaaP0
import Derived.Test.YtnocdmclcdfppaaP9
namespace Go.Proofs.Ytnocdmclcdfppaa.P
open Go.RowKit Go.Proofs.YtnocdmclcdfppaaW.PrintWords Go.Proofs.YtnocdmclcdfppaaW.PrintLast Go.Proofs.YtnocdmclcdfppaaW.PrintMore
attribute [local go_sem] max2_int min2_int max_two min_two max_three min_three max_four min_four   -- for this text's walks alone
set_option linter.unusedVariables false
set_option linter.unusedSimpArgs false

/-! ### spec_l2Clash: function 56 -/
mutual
def spec_l2Clash.l0 : Nat → List Int → Int → Int → Option (Bool)
  | 0, _, _, _ => none
  | k + 1, x0, x1, x5 => if x5 < (wrap64 (2 * x1)) then ((spec_LineCells.f k x1 x5).bind fun t209 => (spec_l2Clash.l1 k x0 x1 x5 t209 0 0)) else (some false)
def spec_l2Clash.l1 : Nat → List Int → Int → Int → List Int → Int → Int → Option (Bool)
  | 0, _, _, _, _, _, _ => none
  | k + 1, x0, x1, x5, x6, x7, x8 => if x8 < (x6.length : Int) then (if 0 ≤ x8 then (if 0 ≤ (rd x6 x8) then (if (rd x6 x8) < (x0.length : Int) then (if (rd x0 (rd x6 x8)) > 0 then (if 0 ≤ (rd x0 (rd x6 x8)) then (if (Int.tmod (shr .i64 x7 (rd x0 (rd x6 x8))) 2) = 1 then (some true) else (spec_l2Clash.l1 k x0 x1 x5 x6 (Go.bits .or .i64 x7 (shl .i64 1 (rd x0 (rd x6 x8)))) (wrap64 (x8 + 1)))) else (none)) else (if 0 ≤ (rd x0 (rd x6 x8)) then (spec_l2Clash.l1 k x0 x1 x5 x6 (Go.bits .or .i64 x7 (shl .i64 1 (rd x0 (rd x6 x8)))) (wrap64 (x8 + 1))) else (none))) else (none)) else (none)) else (none)) else (spec_l2Clash.l0 k x0 x1 (wrap64 (x5 + 1)))
end
def spec_l2Clash.f (k : Nat) (l0 : List Int) (a1 : Int) : Option (Bool) := spec_l2Clash.l0 k l0 a1 0
theorem spec_l2Clash.mono_l : ∀ k, (∀ y0 y1 y2, LeO (spec_l2Clash.l0 k y0 y1 y2) (spec_l2Clash.l0 (k + 1) y0 y1 y2)) ∧ (∀ y0 y1 y2 y3 y4 y5, LeO (spec_l2Clash.l1 k y0 y1 y2 y3 y4 y5) (spec_l2Clash.l1 (k + 1) y0 y1 y2 y3 y4 y5))
  | 0 => ⟨fun _ _ _ r h => by simp [spec_l2Clash.l0] at h, fun _ _ _ _ _ _ r h => by simp [spec_l2Clash.l1] at h⟩
  | k + 1 => by
    obtain ⟨ih0, ih1⟩ := spec_l2Clash.mono_l k
    refine ⟨?_, ?_⟩
    · intro y0 y1 y2
      unfold spec_l2Clash.l0
      repeat' first
      | (with_reducible exact ih0 _ _ _)
      | (with_reducible exact ih1 _ _ _ _ _ _)
      | (with_reducible exact spec_LineCells.mono _ _ _)
      | (with_reducible exact LeO.refl _)
      | (with_reducible exact LeO.none _)
      | (with_reducible refine LeO.ite ?_ ?_)
      | (with_reducible refine LeO.bind ?_ (fun _ => ?_))
      | exact ih0 _ _ _
      | exact ih1 _ _ _ _ _ _
      | exact spec_LineCells.mono _ _ _
      | exact LeO.none _
      | refine LeO.ite ?_ ?_
      | refine LeO.bind ?_ (fun _ => ?_)
    · intro y0 y1 y2 y3 y4 y5
      unfold spec_l2Clash.l1
      repeat' first
      | (with_reducible exact ih0 _ _ _)
      | (with_reducible exact ih1 _ _ _ _ _ _)
      | (with_reducible exact spec_LineCells.mono _ _ _)
      | (with_reducible exact LeO.refl _)
      | (with_reducible exact LeO.none _)
      | (with_reducible refine LeO.ite ?_ ?_)
      | (with_reducible refine LeO.bind ?_ (fun _ => ?_))
      | exact ih0 _ _ _
      | exact ih1 _ _ _ _ _ _
      | exact spec_LineCells.mono _ _ _
      | exact LeO.none _
      | refine LeO.ite ?_ ?_
      | refine LeO.bind ?_ (fun _ => ?_)
theorem spec_l2Clash.mono : ∀ a0 a1 k, LeO (spec_l2Clash.f k a0 a1) (spec_l2Clash.f (k + 1) a0 a1) := by
  intro a0 a1 k
  obtain ⟨ih0, ih1⟩ := spec_l2Clash.mono_l k
  unfold spec_l2Clash.f
  repeat' first
      | (with_reducible exact ih0 _ _ _)
      | (with_reducible exact ih1 _ _ _ _ _ _)
      | (with_reducible exact spec_LineCells.mono _ _ _)
      | (with_reducible exact LeO.refl _)
      | (with_reducible exact LeO.none _)
      | (with_reducible refine LeO.ite ?_ ?_)
      | (with_reducible refine LeO.bind ?_ (fun _ => ?_))
      | exact ih0 _ _ _
      | exact ih1 _ _ _ _ _ _
      | exact spec_LineCells.mono _ _ _
      | exact LeO.none _
      | refine LeO.ite ?_ ?_
      | refine LeO.bind ?_ (fun _ => ?_)
set_option maxHeartbeats 8000000 in
set_option maxRecDepth 100000 in
theorem spec_l2Clash.calls (k : Nat) (A0 : Option Addr) (c0 : Nat) (l0 : List Int) (a1 : Int) (r : Bool) (w : World) (hr0 : Kd.C (Kd.int .i64) w A0 l0.length l0) (hc0 : l0.length ≤ c0) (h : spec_l2Clash.f k l0 a1 = some r) :
    Calls Try.prog 56 #[.slice A0 l0.length c0, .int .i64 a1] w fun e w' => e = .returned (.bool r) ∧ Below w.heap.size w w' := by
  have HR0 := Aside0.mk hr0
  have HC0 := Aside0.mk hc0
  clear hr0 hc0
  have HB := Aside0.mk (Below.refl w.heap.size w)
  have H : (spec_l2Clash.l0 k l0 a1 0) = some r := h
  clear h
  have H' := Aside0.mk H
  clear H
  go_enter Try.func56, Try.ntmps56
  go_wp2
  go_loopg [5] k (fun kq v5 w' => ∃ (x5_1 : Int), v5 = .int .i64 x5_1 ∧ Aside0 (spec_l2Clash.l0 kq l0 a1 x5_1 = some r) ∧ Aside0 (kq ≤ k) ∧ Aside0 (Below w.heap.size w w'))
  case atStart => exact ⟨(0), (by first | rfl | (simp; done) | (simp [*]; done)), H', ⟨Nat.le_refl _⟩, ⟨by repeat (first | (with_reducible first | exact HB.out | apply below_alloc | apply pw_below_drewN | apply below_drew1) | exact HB.out)⟩⟩
  case round =>
    clear H'
    try clear p2
    obtain ⟨x5_1, rfl, HA, HK1, HB⟩ := hrel
    cases gk with
    | zero => exact absurd HA.out (by simp [spec_l2Clash.l0])
    | succ k1 =>
      have H := HA.out
      clear HA
      simp only [spec_l2Clash.l0] at H
      by_cases c3 : x5_1 < (wrap64 (2 * a1))
      · rw [if_pos c3] at H
        have c3b0 : decide (x5_1 < (wrap64 (2 * a1))) = true := decide_eq_true c3
        clear c3
        replace H := Option.bind_eq_some_iff.mp H
        obtain ⟨t209, A40, H⟩ := H
        replace H : (spec_l2Clash.l1 k1 l0 a1 x5_1 t209 0 0) = some r := H
        have A4 := Aside0.mk A40
        clear A40
        have H' := Aside0.mk H
        clear H
        go_wp2_with (first | ((with_reducible refine gate_callee (f := 18) rfl ?_); refine goesL_ (some 18) rfl rfl Try.func18 (by kernel_rfl) rfl #[.int .i64 a1, .int .i64 x5_1] rfl (by (try simp only [List.map_toArray, List.map_cons, List.map_nil]); first | done | rfl | (simp only [List.length_drop, List.length_take]; rfl)) ?_; (with_reducible refine (spec_LineCells.calls k1 a1 x5_1 t209 _ A4.out).mono ?_); rintro e w5 ⟨v210, rfl, ho0, hb⟩; refine ⟨_, rfl, ?_⟩; have n0_ := Aside0.mk (Kd.R_lower ho0 (below_size (by repeat (first | (with_reducible first | exact HB.out | apply below_alloc | apply pw_below_drewN | apply below_drew1) | exact HB.out)))); have n1_ := Aside0.mk (below_step (by repeat (first | (with_reducible first | exact HB.out | apply below_alloc | apply pw_below_drewN | apply below_drew1) | exact HB.out)) hb); clear HB; have HO211 := n0_; have HB := n1_; clear n0_ n1_; (try clear hb); (try clear hb2); (try clear hk); (try clear hi); (try clear ho0)))
        go_loopg [7, 8] k1 (fun kq v7 v8 w' => ∃ (x7_2 : Int) (x8_2 : Int), v7 = .int .i64 x7_2 ∧ v8 = .int .i64 x8_2 ∧ Aside0 (spec_l2Clash.l1 kq l0 a1 x5_1 t209 x7_2 x8_2 = some r) ∧ Aside0 (kq ≤ k1) ∧ Aside0 (Kd.R (Kd.int .i64) 3 w' w.heap.size (fun _ => True) v210 t209) ∧ Aside0 (Below w.heap.size w w'))
        case atStart => exact ⟨(0), (0), (by first | rfl | (simp; done) | (simp [*]; done)), (by first | rfl | (simp; done) | (simp [*]; done)), H', ⟨Nat.le_refl _⟩, ⟨by (with_reducible repeat (first | apply Kd.R_alloc | apply Kd.R_drewN | apply Kd.R_drew)); exact HO211.out⟩, ⟨by repeat (first | (with_reducible first | exact HB.out | apply below_alloc | apply pw_below_drewN | apply below_drew1) | exact HB.out)⟩⟩
        case round =>
          clear H'
          try clear c1
          try clear p2
          try clear c3
          try clear c3b0
          try clear c5
          try clear p2
          obtain ⟨x7_2, x8_2, rfl, rfl, HA, HK2, HO_6, HB⟩ := hrel
          cases gk with
          | zero => exact absurd HA.out (by simp [spec_l2Clash.l1])
          | succ k2 =>
            have H := HA.out
            clear HA
            simp only [spec_l2Clash.l1] at H
            by_cases c6 : x8_2 < (t209.length : Int)
            · rw [if_pos c6] at H
              have c6b0 : decide (x8_2 < (t209.length : Int)) = true := decide_eq_true c6
              clear c6
              by_cases c7 : 0 ≤ x8_2
              · rw [if_pos c7] at H
                have c7b0 : decide (0 ≤ x8_2) = true := decide_eq_true c7
                clear c7
                by_cases c8 : 0 ≤ (rd t209 x8_2)
                · rw [if_pos c8] at H
                  have c8b0 : decide (0 ≤ (rd t209 x8_2)) = true := decide_eq_true c8
                  clear c8
                  by_cases c9 : (rd t209 x8_2) < (l0.length : Int)
                  · rw [if_pos c9] at H
                    have c9b0 : decide ((rd t209 x8_2) < (l0.length : Int)) = true := decide_eq_true c9
                    clear c9
                    by_cases c10 : (rd l0 (rd t209 x8_2)) > 0
                    · rw [if_pos c10] at H
                      have c10b0 : decide (0 < (rd l0 (rd t209 x8_2))) = true := decide_eq_true c10
                      clear c10
                      by_cases c11 : 0 ≤ (rd l0 (rd t209 x8_2))
                      · rw [if_pos c11] at H
                        have c11b0 := eq_true c11
                        have c11b1 : decide (0 ≤ (rd l0 (rd t209 x8_2))) = true := decide_eq_true c11
                        clear c11
                        obtain ⟨ji12, hji12⟩ : ∃ j_ : Int, (shr .i64 x7_2 (rd l0 (rd t209 x8_2))) = j_ := ⟨_, rfl⟩
                        replace H : (if (Int.tmod (ji12) 2) = 1 then (some true) else (spec_l2Clash.l1 k2 l0 a1 x5_1 t209 (Go.bits .or .i64 x7_2 (shl .i64 1 (rd l0 (rd t209 x8_2)))) (wrap64 (x8_2 + 1)))) = some r := by first | (rw [hji12] at H; exact H) | (simp only [hji12] at H ⊢; exact H)
                        have hji12_ : (x7_2 / 2 ^ min (rd l0 (rd t209 x8_2)).toNat 64) = ji12 := hji12
                        have hji12z : (rd l0 (rd t209 x8_2)) ≤ 64 → (x7_2 / 2 ^ (rd l0 (rd t209 x8_2)).toNat) = ji12 := shr_small hji12
                        by_cases c13 : (Int.tmod (ji12) 2) = 1
                        · rw [if_pos c13] at H
                          have c13b0 : ((Int.tmod (ji12) 2) == 1) = true := beq_iff_eq.mpr c13
                          have c13b1 : ((Int.tmod (ji12) 2) != 1) = false := bne_eq_false_iff_eq.mpr c13
                          clear c13
                          obtain rfl := Option.some.inj H
                          obtain ⟨Ao14, co14, eo14⟩ := Kd.R_slice HO_6.out
                          subst eo14
                          have p212 : 0 ≤ (x8_2 : Int) := of_decide_eq_true (by first | (with_reducible assumption) | assumption)
                          have q212 : x8_2 < (t209.length : Int) := of_decide_eq_true (by first | (with_reducible assumption) | assumption)
                          obtain ⟨ad212, e212, hx212_0⟩ := Kd.at_int (Kd.R_reads' HO_6.out).2.2 x8_2 p212 q212
                          cases e212
                          replace p212 := eq_true p212
                          replace q212 := eq_true q212
                          have p213 : 0 ≤ ((rd t209 x8_2) : Int) := of_decide_eq_true (by first | (with_reducible assumption) | assumption)
                          have q213 : (rd t209 x8_2) < (l0.length : Int) := of_decide_eq_true (by first | (with_reducible assumption) | assumption)
                          obtain ⟨ad213, e213, hx213_0⟩ := Kd.at_int HR0.out (rd t209 x8_2) p213 q213
                          cases e213
                          replace hx213_0 := (HB.out.cell (World.block_lt_of_cell? w _ hx213_0)).trans hx213_0
                          replace p213 := eq_true p213
                          replace q213 := eq_true q213
                          go_wp2
                          go_ret
                          exact ⟨by first | rfl | (simp [errW_none, errW_some] <;> rfl) | (simp only [← hji12]; first | rfl | (simp [errW_none, errW_some] <;> rfl)) | (simp [*, errW_none, errW_some] <;> rfl), by repeat (first | (with_reducible first | exact HB.out | apply below_alloc | apply pw_below_drewN | apply below_drew1) | exact HB.out)⟩
                        · rw [if_neg c13] at H
                          have c13b0 : ((Int.tmod (ji12) 2) == 1) = false := beq_eq_false_iff_ne.mpr c13
                          have c13b1 : ((Int.tmod (ji12) 2) != 1) = true := bne_iff_ne.mpr c13
                          have c15b0 := eq_true (of_decide_eq_true (by first | (with_reducible assumption) | assumption) : 0 ≤ (rd l0 (rd t209 x8_2)))
                          obtain ⟨ji16, hji16⟩ : ∃ j_ : Int, (shl .i64 1 (rd l0 (rd t209 x8_2))) = j_ := ⟨_, rfl⟩
                          replace H : (spec_l2Clash.l1 k2 l0 a1 x5_1 t209 (Go.bits .or .i64 x7_2 (ji16)) (wrap64 (x8_2 + 1))) = some r := by first | (rw [hji16] at H; exact H) | (simp only [hji16] at H ⊢; exact H)
                          have hji16_ : (IntKind.i64.wrap (1 * 2 ^ min (rd l0 (rd t209 x8_2)).toNat 64)) = ji16 := hji16
                          have hji16z : (rd l0 (rd t209 x8_2)) ≤ 64 → (IntKind.i64.wrap (1 * 2 ^ (rd l0 (rd t209 x8_2)).toNat)) = ji16 := shl_small hji16
                          have hji16u : (IntKind.i64.wrap (2 ^ min (rd l0 (rd t209 x8_2)).toNat 64)) = ji16 := by have h_ := hji16_; rw [Int.one_mul] at h_; exact h_
                          have hji16v : (rd l0 (rd t209 x8_2)) ≤ 64 → (IntKind.i64.wrap (2 ^ (rd l0 (rd t209 x8_2)).toNat)) = ji16 := fun hle_ => by have h_ := hji16z hle_; rw [Int.one_mul] at h_; exact h_
                          have hji16y : (wrap64 (1 * 2 ^ min (rd l0 (rd t209 x8_2)).toNat 64)) = ji16 := (i64_w _).symm.trans hji16_
                          have hji16x : (rd l0 (rd t209 x8_2)) ≤ 64 → (wrap64 (1 * 2 ^ (rd l0 (rd t209 x8_2)).toNat)) = ji16 := fun h_ => (i64_w _).symm.trans (hji16z h_)
                          have H' := Aside0.mk H
                          clear H
                          obtain ⟨Ao17, co17, eo17⟩ := Kd.R_slice HO_6.out
                          subst eo17
                          have p212 : 0 ≤ (x8_2 : Int) := of_decide_eq_true (by first | (with_reducible assumption) | assumption)
                          have q212 : x8_2 < (t209.length : Int) := of_decide_eq_true (by first | (with_reducible assumption) | assumption)
                          obtain ⟨ad212, e212, hx212_0⟩ := Kd.at_int (Kd.R_reads' HO_6.out).2.2 x8_2 p212 q212
                          cases e212
                          replace p212 := eq_true p212
                          replace q212 := eq_true q212
                          have p213 : 0 ≤ ((rd t209 x8_2) : Int) := of_decide_eq_true (by first | (with_reducible assumption) | assumption)
                          have q213 : (rd t209 x8_2) < (l0.length : Int) := of_decide_eq_true (by first | (with_reducible assumption) | assumption)
                          obtain ⟨ad213, e213, hx213_0⟩ := Kd.at_int HR0.out (rd t209 x8_2) p213 q213
                          cases e213
                          replace hx213_0 := (HB.out.cell (World.block_lt_of_cell? w _ hx213_0)).trans hx213_0
                          replace p213 := eq_true p213
                          replace q213 := eq_true q213
                          go_wp2
                          go_roundg k2
                          case measure => have := HK1.out; have := HK2.out; omega
                          case rel => exact ⟨(Go.bits .or .i64 x7_2 (ji16)), (wrap64 (x8_2 + 1)), (by first | rfl | (simp; done) | (simp only [← hji16] <;> (first | rfl | simp)) | (simp [*]; done)), (by first | rfl | (simp; done) | (simp [*]; done)), H', ⟨by have := HK1.out; have := HK2.out; omega⟩, ⟨by (with_reducible repeat (first | apply Kd.R_alloc | apply Kd.R_drewN | apply Kd.R_drew)); exact HO_6.out⟩, ⟨by repeat (first | (with_reducible first | exact HB.out | apply below_alloc | apply pw_below_drewN | apply below_drew1) | exact HB.out)⟩⟩
                      · rw [if_neg c11] at H
                        exact absurd H (by simp)
                    · rw [if_neg c10] at H
                      have c10b0 : decide (0 < (rd l0 (rd t209 x8_2))) = false := decide_eq_false c10
                      clear c10
                      by_cases c18 : 0 ≤ (rd l0 (rd t209 x8_2))
                      · rw [if_pos c18] at H
                        have c18b0 := eq_true c18
                        have c18b1 : decide (0 ≤ (rd l0 (rd t209 x8_2))) = true := decide_eq_true c18
                        clear c18
                        obtain ⟨ji19, hji19⟩ : ∃ j_ : Int, (shl .i64 1 (rd l0 (rd t209 x8_2))) = j_ := ⟨_, rfl⟩
                        replace H : (spec_l2Clash.l1 k2 l0 a1 x5_1 t209 (Go.bits .or .i64 x7_2 (ji19)) (wrap64 (x8_2 + 1))) = some r := by first | (rw [hji19] at H; exact H) | (simp only [hji19] at H ⊢; exact H)
                        have hji19_ : (IntKind.i64.wrap (1 * 2 ^ min (rd l0 (rd t209 x8_2)).toNat 64)) = ji19 := hji19
                        have hji19z : (rd l0 (rd t209 x8_2)) ≤ 64 → (IntKind.i64.wrap (1 * 2 ^ (rd l0 (rd t209 x8_2)).toNat)) = ji19 := shl_small hji19
                        have hji19u : (IntKind.i64.wrap (2 ^ min (rd l0 (rd t209 x8_2)).toNat 64)) = ji19 := by have h_ := hji19_; rw [Int.one_mul] at h_; exact h_
                        have hji19v : (rd l0 (rd t209 x8_2)) ≤ 64 → (IntKind.i64.wrap (2 ^ (rd l0 (rd t209 x8_2)).toNat)) = ji19 := fun hle_ => by have h_ := hji19z hle_; rw [Int.one_mul] at h_; exact h_
                        have hji19y : (wrap64 (1 * 2 ^ min (rd l0 (rd t209 x8_2)).toNat 64)) = ji19 := (i64_w _).symm.trans hji19_
                        have hji19x : (rd l0 (rd t209 x8_2)) ≤ 64 → (wrap64 (1 * 2 ^ (rd l0 (rd t209 x8_2)).toNat)) = ji19 := fun h_ => (i64_w _).symm.trans (hji19z h_)
                        have H' := Aside0.mk H
                        clear H
                        obtain ⟨Ao20, co20, eo20⟩ := Kd.R_slice HO_6.out
                        subst eo20
                        have p212 : 0 ≤ (x8_2 : Int) := of_decide_eq_true (by first | (with_reducible assumption) | assumption)
                        have q212 : x8_2 < (t209.length : Int) := of_decide_eq_true (by first | (with_reducible assumption) | assumption)
                        obtain ⟨ad212, e212, hx212_0⟩ := Kd.at_int (Kd.R_reads' HO_6.out).2.2 x8_2 p212 q212
                        cases e212
                        replace p212 := eq_true p212
                        replace q212 := eq_true q212
                        have p213 : 0 ≤ ((rd t209 x8_2) : Int) := of_decide_eq_true (by first | (with_reducible assumption) | assumption)
                        have q213 : (rd t209 x8_2) < (l0.length : Int) := of_decide_eq_true (by first | (with_reducible assumption) | assumption)
                        obtain ⟨ad213, e213, hx213_0⟩ := Kd.at_int HR0.out (rd t209 x8_2) p213 q213
                        cases e213
                        replace hx213_0 := (HB.out.cell (World.block_lt_of_cell? w _ hx213_0)).trans hx213_0
                        replace p213 := eq_true p213
                        replace q213 := eq_true q213
                        go_wp2
                        go_roundg k2
                        case measure => have := HK1.out; have := HK2.out; omega
                        case rel => exact ⟨(Go.bits .or .i64 x7_2 (ji19)), (wrap64 (x8_2 + 1)), (by first | rfl | (simp; done) | (simp only [← hji19] <;> (first | rfl | simp)) | (simp [*]; done)), (by first | rfl | (simp; done) | (simp [*]; done)), H', ⟨by have := HK1.out; have := HK2.out; omega⟩, ⟨by (with_reducible repeat (first | apply Kd.R_alloc | apply Kd.R_drewN | apply Kd.R_drew)); exact HO_6.out⟩, ⟨by repeat (first | (with_reducible first | exact HB.out | apply below_alloc | apply pw_below_drewN | apply below_drew1) | exact HB.out)⟩⟩
                      · rw [if_neg c18] at H
                        exact absurd H (by simp)
                  · rw [if_neg c9] at H
                    exact absurd H (by simp)
                · rw [if_neg c8] at H
                  exact absurd H (by simp)
              · rw [if_neg c7] at H
                exact absurd H (by simp)
            · rw [if_neg c6] at H
              have c6b0 : decide (x8_2 < (t209.length : Int)) = false := decide_eq_false c6
              clear c6
              have H' := Aside0.mk H
              clear H
              obtain ⟨Ao21, co21, eo21⟩ := Kd.R_slice HO_6.out
              subst eo21
              go_wp2
              go_roundg k2
              case measure => have := HK1.out; have := HK2.out; omega
              case rel => exact ⟨(wrap64 (x5_1 + 1)), (by first | rfl | (simp; done) | (simp [*]; done)), H', ⟨by have := HK1.out; have := HK2.out; omega⟩, ⟨by repeat (first | (with_reducible first | exact HB.out | apply below_alloc | apply pw_below_drewN | apply below_drew1) | exact HB.out)⟩⟩
      · rw [if_neg c3] at H
        have c3b0 : decide (x5_1 < (wrap64 (2 * a1))) = false := decide_eq_false c3
        clear c3
        obtain rfl := Option.some.inj H
        go_wp2
        go_ret
        exact ⟨by first | rfl | (simp [errW_none, errW_some] <;> rfl) | (simp [*, errW_none, errW_some] <;> rfl), by repeat (first | (with_reducible first | exact HB.out | apply below_alloc | apply pw_below_drewN | apply below_drew1) | exact HB.out)⟩

end Go.Proofs.Ytnocdmclcdfppaa.P
