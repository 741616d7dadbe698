/- The machine's side of laws of this seat: each Go function as a plain Lean function and the proof that the machine's call does what that function says; written by this session's own program over the kit's print. -/
import Derived.Test.YtnocdmclcdfppaaP0
namespace Go.Proofs.Ytnocdmclcdfppaa.P
open Go.RowKit Go.Proofs.YtnocdmclcdfppaaW.PrintWords Go.Proofs.YtnocdmclcdfppaaW.PrintLast Go.Proofs.YtnocdmclcdfppaaW.PrintMore
attribute [local go_sem] max2_int min2_int max_two min_two max_three min_three max_four min_four   -- for this text's walks alone
set_option linter.unusedVariables false
set_option linter.unusedSimpArgs false

/-! ### spec_l3Mask: function 58 -/
mutual
def spec_l3Mask.l0 : Nat → List Int → Int → Int → Int → Int → Option (Int)
  | 0, _, _, _, _, _ => none
  | k + 1, x0, x1, x2, x7, x8 => if x8 ≤ x1 then (spec_l3Mask.l1 k x0 x1 x2 x7 x8 true 0) else (some x7)
def spec_l3Mask.l1 : Nat → List Int → Int → Int → Int → Int → Bool → Int → Option (Int)
  | 0, _, _, _, _, _, _, _ => none
  | k + 1, x0, x1, x2, x7, x8, x9, x10 => if x10 < x1 then (if x1 = 0 then (none) else (if x9 = true then (if (wrap64 ((wrap64 ((wrap64 (Int.tdiv x2 x1)) * x1)) + x10)) = x2 then (if (wrap64 ((wrap64 (x10 * x1)) + (Int.tmod x2 x1))) = x2 then (spec_l3Mask.l1 k x0 x1 x2 x7 x8 true (wrap64 (x10 + 1))) else (if 0 ≤ (wrap64 ((wrap64 (x10 * x1)) + (Int.tmod x2 x1))) then (if (wrap64 ((wrap64 (x10 * x1)) + (Int.tmod x2 x1))) < (x0.length : Int) then (spec_l3Mask.l1 k x0 x1 x2 x7 x8 ((rd x0 (wrap64 ((wrap64 (x10 * x1)) + (Int.tmod x2 x1)))) != x8) (wrap64 (x10 + 1))) else (none)) else (none))) else (if 0 ≤ (wrap64 ((wrap64 ((wrap64 (Int.tdiv x2 x1)) * x1)) + x10)) then (if (wrap64 ((wrap64 ((wrap64 (Int.tdiv x2 x1)) * x1)) + x10)) < (x0.length : Int) then (if (rd x0 (wrap64 ((wrap64 ((wrap64 (Int.tdiv x2 x1)) * x1)) + x10))) = x8 then (spec_l3Mask.l1 k x0 x1 x2 x7 x8 false (wrap64 (x10 + 1))) else (if (wrap64 ((wrap64 (x10 * x1)) + (Int.tmod x2 x1))) = x2 then (spec_l3Mask.l1 k x0 x1 x2 x7 x8 true (wrap64 (x10 + 1))) else (if 0 ≤ (wrap64 ((wrap64 (x10 * x1)) + (Int.tmod x2 x1))) then (if (wrap64 ((wrap64 (x10 * x1)) + (Int.tmod x2 x1))) < (x0.length : Int) then (spec_l3Mask.l1 k x0 x1 x2 x7 x8 ((rd x0 (wrap64 ((wrap64 (x10 * x1)) + (Int.tmod x2 x1)))) != x8) (wrap64 (x10 + 1))) else (none)) else (none)))) else (none)) else (none))) else (spec_l3Mask.l1 k x0 x1 x2 x7 x8 false (wrap64 (x10 + 1))))) else (if x9 = true then (if 0 ≤ x8 then (spec_l3Mask.l0 k x0 x1 x2 (Go.bits .or .i64 x7 (shl .i64 1 x8)) (wrap64 (x8 + 1))) else (none)) else (spec_l3Mask.l0 k x0 x1 x2 x7 (wrap64 (x8 + 1))))
end
def spec_l3Mask.f (k : Nat) (l0 : List Int) (a1 : Int) (a2 : Int) : Option (Int) := if 0 ≤ a2 then (if a2 < (l0.length : Int) then (if (rd l0 a2) > 0 then (if 0 ≤ (rd l0 a2) then (some (shl .i64 1 (rd l0 a2))) else (none)) else (spec_l3Mask.l0 k l0 a1 a2 0 1)) else (none)) else (none)
theorem spec_l3Mask.mono_l : ∀ k, (∀ y0 y1 y2 y3 y4, LeO (spec_l3Mask.l0 k y0 y1 y2 y3 y4) (spec_l3Mask.l0 (k + 1) y0 y1 y2 y3 y4)) ∧ (∀ y0 y1 y2 y3 y4 y5 y6, LeO (spec_l3Mask.l1 k y0 y1 y2 y3 y4 y5 y6) (spec_l3Mask.l1 (k + 1) y0 y1 y2 y3 y4 y5 y6))
  | 0 => ⟨fun _ _ _ _ _ r h => by simp [spec_l3Mask.l0] at h, fun _ _ _ _ _ _ _ r h => by simp [spec_l3Mask.l1] at h⟩
  | k + 1 => by
    obtain ⟨ih0, ih1⟩ := spec_l3Mask.mono_l k
    refine ⟨?_, ?_⟩
    · intro y0 y1 y2 y3 y4
      unfold spec_l3Mask.l0
      repeat' first
      | (with_reducible exact ih0 _ _ _ _ _)
      | (with_reducible exact ih1 _ _ _ _ _ _ _)
      | (with_reducible exact LeO.refl _)
      | (with_reducible exact LeO.none _)
      | (with_reducible refine LeO.ite ?_ ?_)
      | (with_reducible refine LeO.bind ?_ (fun _ => ?_))
      | exact ih0 _ _ _ _ _
      | exact ih1 _ _ _ _ _ _ _
      | exact LeO.none _
      | refine LeO.ite ?_ ?_
      | refine LeO.bind ?_ (fun _ => ?_)
    · intro y0 y1 y2 y3 y4 y5 y6
      unfold spec_l3Mask.l1
      repeat' first
      | (with_reducible exact ih0 _ _ _ _ _)
      | (with_reducible exact ih1 _ _ _ _ _ _ _)
      | (with_reducible exact LeO.refl _)
      | (with_reducible exact LeO.none _)
      | (with_reducible refine LeO.ite ?_ ?_)
      | (with_reducible refine LeO.bind ?_ (fun _ => ?_))
      | exact ih0 _ _ _ _ _
      | exact ih1 _ _ _ _ _ _ _
      | exact LeO.none _
      | refine LeO.ite ?_ ?_
      | refine LeO.bind ?_ (fun _ => ?_)
theorem spec_l3Mask.mono : ∀ a0 a1 a2 k, LeO (spec_l3Mask.f k a0 a1 a2) (spec_l3Mask.f (k + 1) a0 a1 a2) := by
  intro a0 a1 a2 k
  obtain ⟨ih0, ih1⟩ := spec_l3Mask.mono_l k
  unfold spec_l3Mask.f
  repeat' first
      | (with_reducible exact ih0 _ _ _ _ _)
      | (with_reducible exact ih1 _ _ _ _ _ _ _)
      | (with_reducible exact LeO.refl _)
      | (with_reducible exact LeO.none _)
      | (with_reducible refine LeO.ite ?_ ?_)
      | (with_reducible refine LeO.bind ?_ (fun _ => ?_))
      | exact ih0 _ _ _ _ _
      | exact ih1 _ _ _ _ _ _ _
      | exact LeO.none _
      | refine LeO.ite ?_ ?_
      | refine LeO.bind ?_ (fun _ => ?_)
set_option maxHeartbeats 8000000 in
set_option maxRecDepth 100000 in
theorem spec_l3Mask.calls (k : Nat) (A0 : Option Addr) (c0 : Nat) (l0 : List Int) (a1 : Int) (a2 : Int) (r : Int) (w : World) (hr0 : Kd.C (Kd.int .i64) w A0 l0.length l0) (hc0 : l0.length ≤ c0) (h : spec_l3Mask.f k l0 a1 a2 = some r) :
    Calls Try.prog 58 #[.slice A0 l0.length c0, .int .i64 a1, .int .i64 a2] w fun e w' => e = .returned (.int .i64 r) ∧ Drawn0 w w' := by
  have HR0 := Aside0.mk hr0
  have HC0 := Aside0.mk hc0
  clear hr0 hc0
  have H : (if 0 ≤ a2 then (if a2 < (l0.length : Int) then (if (rd l0 a2) > 0 then (if 0 ≤ (rd l0 a2) then (some (shl .i64 1 (rd l0 a2))) else (none)) else (spec_l3Mask.l0 k l0 a1 a2 0 1)) else (none)) else (none)) = some r := h
  clear h
  by_cases c4 : 0 ≤ a2
  · rw [if_pos c4] at H
    have c4b0 : decide (0 ≤ a2) = true := decide_eq_true c4
    clear c4
    by_cases c5 : a2 < (l0.length : Int)
    · rw [if_pos c5] at H
      have c5b0 : decide (a2 < (l0.length : Int)) = true := decide_eq_true c5
      clear c5
      by_cases c6 : (rd l0 a2) > 0
      · rw [if_pos c6] at H
        have c6b0 : decide (0 < (rd l0 a2)) = true := decide_eq_true c6
        clear c6
        by_cases c7 : 0 ≤ (rd l0 a2)
        · rw [if_pos c7] at H
          have c7b0 := eq_true c7
          have c7b1 : decide (0 ≤ (rd l0 a2)) = true := decide_eq_true c7
          clear c7
          obtain ⟨ji8, hji8⟩ : ∃ j_ : Int, (shl .i64 1 (rd l0 a2)) = j_ := ⟨_, rfl⟩
          replace H : (some ji8) = some r := by first | (rw [hji8] at H; exact H) | (simp only [hji8] at H ⊢; exact H)
          have hji8_ : (IntKind.i64.wrap (1 * 2 ^ min (rd l0 a2).toNat 64)) = ji8 := hji8
          have hji8z : (rd l0 a2) ≤ 64 → (IntKind.i64.wrap (1 * 2 ^ (rd l0 a2).toNat)) = ji8 := shl_small hji8
          have hji8u : (IntKind.i64.wrap (2 ^ min (rd l0 a2).toNat 64)) = ji8 := by have h_ := hji8_; rw [Int.one_mul] at h_; exact h_
          have hji8v : (rd l0 a2) ≤ 64 → (IntKind.i64.wrap (2 ^ (rd l0 a2).toNat)) = ji8 := fun hle_ => by have h_ := hji8z hle_; rw [Int.one_mul] at h_; exact h_
          have hji8y : (wrap64 (1 * 2 ^ min (rd l0 a2).toNat 64)) = ji8 := (i64_w _).symm.trans hji8_
          have hji8x : (rd l0 a2) ≤ 64 → (wrap64 (1 * 2 ^ (rd l0 a2).toNat)) = ji8 := fun h_ => (i64_w _).symm.trans (hji8z h_)
          obtain rfl := Option.some.inj H
          have p492 : 0 ≤ (a2 : Int) := of_decide_eq_true (by first | (with_reducible assumption) | assumption)
          have q492 : a2 < (l0.length : Int) := of_decide_eq_true (by first | (with_reducible assumption) | assumption)
          obtain ⟨ad492, e492, hx492_0⟩ := Kd.at_int HR0.out a2 p492 q492
          cases e492
          replace p492 := eq_true p492
          replace q492 := eq_true q492
          have p493 : 0 ≤ (a2 : Int) := of_decide_eq_true (by first | (with_reducible assumption) | assumption)
          have q493 : a2 < (l0.length : Int) := of_decide_eq_true (by first | (with_reducible assumption) | assumption)
          obtain ⟨ad493, e493, hx493_0⟩ := Kd.at_int HR0.out a2 p493 q493
          obtain rfl : ad492 = ad493 := (by injection e493)
          replace p493 := eq_true p493
          replace q493 := eq_true q493
          go_enter Try.func58, Try.ntmps58
          go_wp2
          go_ret
          exact ⟨by first | rfl | (simp; done) | (simp only [← hji8] <;> (first | rfl | simp)) | (simp [*]; done), by repeat (first | exact Drawn0.refl _ | apply Drawn0.step)⟩
        · rw [if_neg c7] at H
          exact absurd H (by simp)
      · rw [if_neg c6] at H
        have c6b0 : decide (0 < (rd l0 a2)) = false := decide_eq_false c6
        clear c6
        have H' := Aside0.mk H
        clear H
        have p492 : 0 ≤ (a2 : Int) := of_decide_eq_true (by first | (with_reducible assumption) | assumption)
        have q492 : a2 < (l0.length : Int) := of_decide_eq_true (by first | (with_reducible assumption) | assumption)
        obtain ⟨ad492, e492, hx492_0⟩ := Kd.at_int HR0.out a2 p492 q492
        cases e492
        replace p492 := eq_true p492
        replace q492 := eq_true q492
        go_enter Try.func58, Try.ntmps58
        go_wp2
        go_loopg [7, 8] k (fun kq v7 v8 w' => ∃ (x7_1 : Int) (x8_1 : Int), v7 = .int .i64 x7_1 ∧ v8 = .int .i64 x8_1 ∧ Aside0 (spec_l3Mask.l0 kq l0 a1 a2 x7_1 x8_1 = some r) ∧ Aside0 (kq ≤ k) ∧ Drawn0 w w')
        case atStart => exact ⟨(0), (1), (by first | rfl | (simp; done) | (simp [*]; done)), (by first | rfl | (simp; done) | (simp [*]; done)), H', ⟨Nat.le_refl _⟩, by repeat (first | exact Drawn0.refl _ | apply Drawn0.step)⟩
        case round =>
          clear H'
          try clear p2
          try clear c4
          try clear c4b0
          try clear p4
          try clear q4
          try clear hx4
          try clear c5
          try clear c5b0
          try clear c6
          try clear c6b0
          try clear p6
          try clear c7
          try clear c7b0
          try clear c7b1
          try clear hx492_0
          try clear hx493_0
          try clear p492
          try clear p493
          try clear q492
          try clear q493
          obtain ⟨x7_1, x8_1, rfl, rfl, HA, HK1, ⟨m1, rfl⟩⟩ := hrel
          cases gk with
          | zero => exact absurd HA.out (by simp [spec_l3Mask.l0])
          | succ k1 =>
            have H := HA.out
            clear HA
            simp only [spec_l3Mask.l0] at H
            by_cases c9 : x8_1 ≤ a1
            · rw [if_pos c9] at H
              have c9b0 : decide (x8_1 ≤ a1) = true := decide_eq_true c9
              clear c9
              have H' := Aside0.mk H
              clear H
              go_wp2
              go_loopg [9, 10] k1 (fun kq v9 v10 w' => ∃ (x9_2 : Bool) (x10_2 : Int), v9 = .bool x9_2 ∧ v10 = .int .i64 x10_2 ∧ Aside0 (spec_l3Mask.l1 kq l0 a1 a2 x7_1 x8_1 x9_2 x10_2 = some r) ∧ Aside0 (kq ≤ k1) ∧ Drawn0 w w')
              case atStart => exact ⟨(true), (0), (by first | rfl | (simp; done) | (simp [*]; done)), (by first | rfl | (simp; done) | (simp [*]; done)), H', ⟨Nat.le_refl _⟩, by repeat (first | exact Drawn0.refl _ | apply Drawn0.step)⟩
              case round =>
                clear H'
                try clear p2
                try clear c4
                try clear c4b0
                try clear p4
                try clear q4
                try clear hx4
                try clear c5
                try clear c5b0
                try clear c6
                try clear c6b0
                try clear p6
                try clear c7
                try clear c7b0
                try clear c7b1
                try clear c9
                try clear c9b0
                try clear hx492_0
                try clear hx493_0
                try clear p2
                try clear p4
                try clear p492
                try clear p493
                try clear p6
                try clear q4
                try clear q492
                try clear q493
                obtain ⟨x9_2, x10_2, rfl, rfl, HA, HK2, ⟨m2, rfl⟩⟩ := hrel
                cases gk with
                | zero => exact absurd HA.out (by simp [spec_l3Mask.l1])
                | succ k2 =>
                  have H := HA.out
                  clear HA
                  simp only [spec_l3Mask.l1] at H
                  by_cases c10 : x10_2 < a1
                  · rw [if_pos c10] at H
                    have c10b0 : decide (x10_2 < a1) = true := decide_eq_true c10
                    clear c10
                    by_cases c11 : a1 = 0
                    · rw [if_pos c11] at H
                      exact absurd H (by simp)
                    · rw [if_neg c11] at H
                      have c11b0 : (a1 == 0) = false := beq_eq_false_iff_ne.mpr c11
                      have c11b1 : (a1 != 0) = true := bne_iff_ne.mpr c11
                      by_cases c12 : x9_2 = true
                      · subst c12
                        have H1 : (if (wrap64 ((wrap64 ((wrap64 (Int.tdiv a2 a1)) * a1)) + x10_2)) = a2 then (if (wrap64 ((wrap64 (x10_2 * a1)) + (Int.tmod a2 a1))) = a2 then (spec_l3Mask.l1 k2 l0 a1 a2 x7_1 x8_1 true (wrap64 (x10_2 + 1))) else (if 0 ≤ (wrap64 ((wrap64 (x10_2 * a1)) + (Int.tmod a2 a1))) then (if (wrap64 ((wrap64 (x10_2 * a1)) + (Int.tmod a2 a1))) < (l0.length : Int) then (spec_l3Mask.l1 k2 l0 a1 a2 x7_1 x8_1 ((rd l0 (wrap64 ((wrap64 (x10_2 * a1)) + (Int.tmod a2 a1)))) != x8_1) (wrap64 (x10_2 + 1))) else (none)) else (none))) else (if 0 ≤ (wrap64 ((wrap64 ((wrap64 (Int.tdiv a2 a1)) * a1)) + x10_2)) then (if (wrap64 ((wrap64 ((wrap64 (Int.tdiv a2 a1)) * a1)) + x10_2)) < (l0.length : Int) then (if (rd l0 (wrap64 ((wrap64 ((wrap64 (Int.tdiv a2 a1)) * a1)) + x10_2))) = x8_1 then (spec_l3Mask.l1 k2 l0 a1 a2 x7_1 x8_1 false (wrap64 (x10_2 + 1))) else (if (wrap64 ((wrap64 (x10_2 * a1)) + (Int.tmod a2 a1))) = a2 then (spec_l3Mask.l1 k2 l0 a1 a2 x7_1 x8_1 true (wrap64 (x10_2 + 1))) else (if 0 ≤ (wrap64 ((wrap64 (x10_2 * a1)) + (Int.tmod a2 a1))) then (if (wrap64 ((wrap64 (x10_2 * a1)) + (Int.tmod a2 a1))) < (l0.length : Int) then (spec_l3Mask.l1 k2 l0 a1 a2 x7_1 x8_1 ((rd l0 (wrap64 ((wrap64 (x10_2 * a1)) + (Int.tmod a2 a1)))) != x8_1) (wrap64 (x10_2 + 1))) else (none)) else (none)))) else (none)) else (none))) = some r := by rw [if_pos rfl] at H; exact H
                        clear H
                        have H := H1
                        clear H1
                        by_cases c13 : (wrap64 ((wrap64 ((wrap64 (Int.tdiv a2 a1)) * a1)) + x10_2)) = a2
                        · rw [if_pos c13] at H
                          have c13b0 : ((wrap64 ((wrap64 ((wrap64 (Int.tdiv a2 a1)) * a1)) + x10_2)) == a2) = true := beq_iff_eq.mpr c13
                          have c13b1 : ((wrap64 ((wrap64 ((wrap64 (Int.tdiv a2 a1)) * a1)) + x10_2)) != a2) = false := bne_eq_false_iff_eq.mpr c13
                          clear c13
                          by_cases c14 : (wrap64 ((wrap64 (x10_2 * a1)) + (Int.tmod a2 a1))) = a2
                          · rw [if_pos c14] at H
                            have c14b0 : ((wrap64 ((wrap64 (x10_2 * a1)) + (Int.tmod a2 a1))) == a2) = true := beq_iff_eq.mpr c14
                            have c14b1 : ((wrap64 ((wrap64 (x10_2 * a1)) + (Int.tmod a2 a1))) != a2) = false := bne_eq_false_iff_eq.mpr c14
                            clear c14
                            have H' := Aside0.mk H
                            clear H
                            go_wp2
                            go_roundg k2
                            case measure => have := HK1.out; have := HK2.out; omega
                            case rel => exact ⟨(true), (wrap64 (x10_2 + 1)), (by first | rfl | (simp; done) | (simp [*]; done)), (by first | rfl | (simp; done) | (simp [*]; done)), H', ⟨by have := HK1.out; have := HK2.out; omega⟩, by repeat (first | exact Drawn0.refl _ | apply Drawn0.step)⟩
                          · rw [if_neg c14] at H
                            have c14b0 : ((wrap64 ((wrap64 (x10_2 * a1)) + (Int.tmod a2 a1))) == a2) = false := beq_eq_false_iff_ne.mpr c14
                            have c14b1 : ((wrap64 ((wrap64 (x10_2 * a1)) + (Int.tmod a2 a1))) != a2) = true := bne_iff_ne.mpr c14
                            obtain ⟨ji15, hji15⟩ : ∃ j_ : Int, (wrap64 ((wrap64 (x10_2 * a1)) + (Int.tmod a2 a1))) = j_ := ⟨_, rfl⟩
                            replace H : (if 0 ≤ (ji15) then (if (ji15) < (l0.length : Int) then (spec_l3Mask.l1 k2 l0 a1 a2 x7_1 x8_1 ((rd l0 (ji15)) != x8_1) (wrap64 (x10_2 + 1))) else (none)) else (none)) = some r := by first | (rw [hji15] at H; exact H) | (simp only [hji15] at H ⊢; exact H)
                            (try rw [hji15] at c14b0)
                            (try rw [hji15] at c14b1)
                            have hji15w : (IntKind.i64.wrap ((wrap64 (x10_2 * a1)) + (Int.tmod a2 a1))) = ji15 := (i64_w _).trans hji15
                            by_cases c16 : 0 ≤ (ji15)
                            · rw [if_pos c16] at H
                              have c16b0 : decide (0 ≤ (ji15)) = true := decide_eq_true c16
                              clear c16
                              by_cases c17 : (ji15) < (l0.length : Int)
                              · rw [if_pos c17] at H
                                have c17b0 : decide ((ji15) < (l0.length : Int)) = true := decide_eq_true c17
                                clear c17
                                have H' := Aside0.mk H
                                clear H
                                have p494 : 0 ≤ ((ji15) : Int) := of_decide_eq_true (by first | (with_reducible assumption) | assumption)
                                have q494 : (ji15) < (l0.length : Int) := of_decide_eq_true (by first | (with_reducible assumption) | assumption)
                                obtain ⟨ad494, e494, hx494_0⟩ := Kd.at_int HR0.out (ji15) p494 q494
                                obtain rfl : ad492 = ad494 := (by injection e494)
                                replace p494 := eq_true p494
                                replace q494 := eq_true q494
                                go_wp2
                                go_roundg k2
                                case measure => have := HK1.out; have := HK2.out; omega
                                case rel => exact ⟨(((rd l0 (ji15)) != x8_1)), (wrap64 (x10_2 + 1)), (by first | rfl | (simp; done) | (simp only [← hji15] <;> (first | rfl | simp)) | (simp [*]; done)), (by first | rfl | (simp; done) | (simp [*]; done)), H', ⟨by have := HK1.out; have := HK2.out; omega⟩, by repeat (first | exact Drawn0.refl _ | apply Drawn0.step)⟩
                              · rw [if_neg c17] at H
                                exact absurd H (by simp)
                            · rw [if_neg c16] at H
                              exact absurd H (by simp)
                        · rw [if_neg c13] at H
                          have c13b0 : ((wrap64 ((wrap64 ((wrap64 (Int.tdiv a2 a1)) * a1)) + x10_2)) == a2) = false := beq_eq_false_iff_ne.mpr c13
                          have c13b1 : ((wrap64 ((wrap64 ((wrap64 (Int.tdiv a2 a1)) * a1)) + x10_2)) != a2) = true := bne_iff_ne.mpr c13
                          obtain ⟨ji18, hji18⟩ : ∃ j_ : Int, (wrap64 ((wrap64 ((wrap64 (Int.tdiv a2 a1)) * a1)) + x10_2)) = j_ := ⟨_, rfl⟩
                          replace H : (if 0 ≤ (ji18) then (if (ji18) < (l0.length : Int) then (if (rd l0 (ji18)) = x8_1 then (spec_l3Mask.l1 k2 l0 a1 a2 x7_1 x8_1 false (wrap64 (x10_2 + 1))) else (if (wrap64 ((wrap64 (x10_2 * a1)) + (Int.tmod a2 a1))) = a2 then (spec_l3Mask.l1 k2 l0 a1 a2 x7_1 x8_1 true (wrap64 (x10_2 + 1))) else (if 0 ≤ (wrap64 ((wrap64 (x10_2 * a1)) + (Int.tmod a2 a1))) then (if (wrap64 ((wrap64 (x10_2 * a1)) + (Int.tmod a2 a1))) < (l0.length : Int) then (spec_l3Mask.l1 k2 l0 a1 a2 x7_1 x8_1 ((rd l0 (wrap64 ((wrap64 (x10_2 * a1)) + (Int.tmod a2 a1)))) != x8_1) (wrap64 (x10_2 + 1))) else (none)) else (none)))) else (none)) else (none)) = some r := by first | (rw [hji18] at H; exact H) | (simp only [hji18] at H ⊢; exact H)
                          (try rw [hji18] at c13b0)
                          (try rw [hji18] at c13b1)
                          have hji18w : (IntKind.i64.wrap ((wrap64 ((wrap64 (Int.tdiv a2 a1)) * a1)) + x10_2)) = ji18 := (i64_w _).trans hji18
                          by_cases c19 : 0 ≤ (ji18)
                          · rw [if_pos c19] at H
                            have c19b0 : decide (0 ≤ (ji18)) = true := decide_eq_true c19
                            clear c19
                            by_cases c20 : (ji18) < (l0.length : Int)
                            · rw [if_pos c20] at H
                              have c20b0 : decide ((ji18) < (l0.length : Int)) = true := decide_eq_true c20
                              clear c20
                              by_cases c21 : (rd l0 (ji18)) = x8_1
                              · rw [if_pos c21] at H
                                have c21b0 : ((rd l0 (ji18)) == x8_1) = true := beq_iff_eq.mpr c21
                                have c21b1 : ((rd l0 (ji18)) != x8_1) = false := bne_eq_false_iff_eq.mpr c21
                                clear c21
                                have H' := Aside0.mk H
                                clear H
                                have p495 : 0 ≤ ((ji18) : Int) := of_decide_eq_true (by first | (with_reducible assumption) | assumption)
                                have q495 : (ji18) < (l0.length : Int) := of_decide_eq_true (by first | (with_reducible assumption) | assumption)
                                obtain ⟨ad495, e495, hx495_0⟩ := Kd.at_int HR0.out (ji18) p495 q495
                                obtain rfl : ad492 = ad495 := (by injection e495)
                                replace p495 := eq_true p495
                                replace q495 := eq_true q495
                                go_wp2
                                go_roundg k2
                                case measure => have := HK1.out; have := HK2.out; omega
                                case rel => exact ⟨(false), (wrap64 (x10_2 + 1)), (by first | rfl | (simp; done) | (simp [*]; done)), (by first | rfl | (simp; done) | (simp [*]; done)), H', ⟨by have := HK1.out; have := HK2.out; omega⟩, by repeat (first | exact Drawn0.refl _ | apply Drawn0.step)⟩
                              · rw [if_neg c21] at H
                                have c21b0 : ((rd l0 (ji18)) == x8_1) = false := beq_eq_false_iff_ne.mpr c21
                                have c21b1 : ((rd l0 (ji18)) != x8_1) = true := bne_iff_ne.mpr c21
                                by_cases c22 : (wrap64 ((wrap64 (x10_2 * a1)) + (Int.tmod a2 a1))) = a2
                                · rw [if_pos c22] at H
                                  have c22b0 : ((wrap64 ((wrap64 (x10_2 * a1)) + (Int.tmod a2 a1))) == a2) = true := beq_iff_eq.mpr c22
                                  have c22b1 : ((wrap64 ((wrap64 (x10_2 * a1)) + (Int.tmod a2 a1))) != a2) = false := bne_eq_false_iff_eq.mpr c22
                                  clear c22
                                  have H' := Aside0.mk H
                                  clear H
                                  have p495 : 0 ≤ ((ji18) : Int) := of_decide_eq_true (by first | (with_reducible assumption) | assumption)
                                  have q495 : (ji18) < (l0.length : Int) := of_decide_eq_true (by first | (with_reducible assumption) | assumption)
                                  obtain ⟨ad495, e495, hx495_0⟩ := Kd.at_int HR0.out (ji18) p495 q495
                                  obtain rfl : ad492 = ad495 := (by injection e495)
                                  replace p495 := eq_true p495
                                  replace q495 := eq_true q495
                                  go_wp2
                                  go_roundg k2
                                  case measure => have := HK1.out; have := HK2.out; omega
                                  case rel => exact ⟨(true), (wrap64 (x10_2 + 1)), (by first | rfl | (simp; done) | (simp [*]; done)), (by first | rfl | (simp; done) | (simp [*]; done)), H', ⟨by have := HK1.out; have := HK2.out; omega⟩, by repeat (first | exact Drawn0.refl _ | apply Drawn0.step)⟩
                                · rw [if_neg c22] at H
                                  have c22b0 : ((wrap64 ((wrap64 (x10_2 * a1)) + (Int.tmod a2 a1))) == a2) = false := beq_eq_false_iff_ne.mpr c22
                                  have c22b1 : ((wrap64 ((wrap64 (x10_2 * a1)) + (Int.tmod a2 a1))) != a2) = true := bne_iff_ne.mpr c22
                                  obtain ⟨ji23, hji23⟩ : ∃ j_ : Int, (wrap64 ((wrap64 (x10_2 * a1)) + (Int.tmod a2 a1))) = j_ := ⟨_, rfl⟩
                                  replace H : (if 0 ≤ (ji23) then (if (ji23) < (l0.length : Int) then (spec_l3Mask.l1 k2 l0 a1 a2 x7_1 x8_1 ((rd l0 (ji23)) != x8_1) (wrap64 (x10_2 + 1))) else (none)) else (none)) = some r := by first | (rw [hji23] at H; exact H) | (simp only [hji23] at H ⊢; exact H)
                                  (try rw [hji23] at c22b0)
                                  (try rw [hji23] at c22b1)
                                  have hji23w : (IntKind.i64.wrap ((wrap64 (x10_2 * a1)) + (Int.tmod a2 a1))) = ji23 := (i64_w _).trans hji23
                                  by_cases c24 : 0 ≤ (ji23)
                                  · rw [if_pos c24] at H
                                    have c24b0 : decide (0 ≤ (ji23)) = true := decide_eq_true c24
                                    clear c24
                                    by_cases c25 : (ji23) < (l0.length : Int)
                                    · rw [if_pos c25] at H
                                      have c25b0 : decide ((ji23) < (l0.length : Int)) = true := decide_eq_true c25
                                      clear c25
                                      have H' := Aside0.mk H
                                      clear H
                                      have p495 : 0 ≤ ((ji18) : Int) := of_decide_eq_true (by first | (with_reducible assumption) | assumption)
                                      have q495 : (ji18) < (l0.length : Int) := of_decide_eq_true (by first | (with_reducible assumption) | assumption)
                                      obtain ⟨ad495, e495, hx495_0⟩ := Kd.at_int HR0.out (ji18) p495 q495
                                      obtain rfl : ad492 = ad495 := (by injection e495)
                                      replace p495 := eq_true p495
                                      replace q495 := eq_true q495
                                      have p496 : 0 ≤ ((ji23) : Int) := of_decide_eq_true (by first | (with_reducible assumption) | assumption)
                                      have q496 : (ji23) < (l0.length : Int) := of_decide_eq_true (by first | (with_reducible assumption) | assumption)
                                      obtain ⟨ad496, e496, hx496_0⟩ := Kd.at_int HR0.out (ji23) p496 q496
                                      obtain rfl : ad492 = ad496 := (by injection e496)
                                      replace p496 := eq_true p496
                                      replace q496 := eq_true q496
                                      go_wp2
                                      go_roundg k2
                                      case measure => have := HK1.out; have := HK2.out; omega
                                      case rel => exact ⟨(((rd l0 (ji23)) != x8_1)), (wrap64 (x10_2 + 1)), (by first | rfl | (simp; done) | (simp only [← hji23] <;> (first | rfl | simp)) | (simp [*]; done)), (by first | rfl | (simp; done) | (simp [*]; done)), H', ⟨by have := HK1.out; have := HK2.out; omega⟩, by repeat (first | exact Drawn0.refl _ | apply Drawn0.step)⟩
                                    · rw [if_neg c25] at H
                                      exact absurd H (by simp)
                                  · rw [if_neg c24] at H
                                    exact absurd H (by simp)
                            · rw [if_neg c20] at H
                              exact absurd H (by simp)
                          · rw [if_neg c19] at H
                            exact absurd H (by simp)
                      · replace c12 := Bool.eq_false_iff.mpr c12
                        subst c12
                        have H1 : (spec_l3Mask.l1 k2 l0 a1 a2 x7_1 x8_1 false (wrap64 (x10_2 + 1))) = some r := by rw [if_neg (show ¬ (false = true) by decide)] at H; exact H
                        clear H
                        have H := H1
                        clear H1
                        have H' := Aside0.mk H
                        clear H
                        go_wp2
                        go_roundg k2
                        case measure => have := HK1.out; have := HK2.out; omega
                        case rel => exact ⟨(false), (wrap64 (x10_2 + 1)), (by first | rfl | (simp; done) | (simp [*]; done)), (by first | rfl | (simp; done) | (simp [*]; done)), H', ⟨by have := HK1.out; have := HK2.out; omega⟩, by repeat (first | exact Drawn0.refl _ | apply Drawn0.step)⟩
                  · rw [if_neg c10] at H
                    have c10b0 : decide (x10_2 < a1) = false := decide_eq_false c10
                    clear c10
                    by_cases c26 : x9_2 = true
                    · subst c26
                      have H1 : (if 0 ≤ x8_1 then (spec_l3Mask.l0 k2 l0 a1 a2 (Go.bits .or .i64 x7_1 (shl .i64 1 x8_1)) (wrap64 (x8_1 + 1))) else (none)) = some r := by rw [if_pos rfl] at H; exact H
                      clear H
                      have H := H1
                      clear H1
                      by_cases c27 : 0 ≤ x8_1
                      · rw [if_pos c27] at H
                        have c27b0 := eq_true c27
                        have c27b1 : decide (0 ≤ x8_1) = true := decide_eq_true c27
                        clear c27
                        obtain ⟨ji28, hji28⟩ : ∃ j_ : Int, (shl .i64 1 x8_1) = j_ := ⟨_, rfl⟩
                        replace H : (spec_l3Mask.l0 k2 l0 a1 a2 (Go.bits .or .i64 x7_1 (ji28)) (wrap64 (x8_1 + 1))) = some r := by first | (rw [hji28] at H; exact H) | (simp only [hji28] at H ⊢; exact H)
                        have hji28_ : (IntKind.i64.wrap (1 * 2 ^ min x8_1.toNat 64)) = ji28 := hji28
                        have hji28z : x8_1 ≤ 64 → (IntKind.i64.wrap (1 * 2 ^ x8_1.toNat)) = ji28 := shl_small hji28
                        have hji28u : (IntKind.i64.wrap (2 ^ min x8_1.toNat 64)) = ji28 := by have h_ := hji28_; rw [Int.one_mul] at h_; exact h_
                        have hji28v : x8_1 ≤ 64 → (IntKind.i64.wrap (2 ^ x8_1.toNat)) = ji28 := fun hle_ => by have h_ := hji28z hle_; rw [Int.one_mul] at h_; exact h_
                        have hji28y : (wrap64 (1 * 2 ^ min x8_1.toNat 64)) = ji28 := (i64_w _).symm.trans hji28_
                        have hji28x : x8_1 ≤ 64 → (wrap64 (1 * 2 ^ x8_1.toNat)) = ji28 := fun h_ => (i64_w _).symm.trans (hji28z h_)
                        have H' := Aside0.mk H
                        clear H
                        go_wp2
                        go_roundg k2
                        case measure => have := HK1.out; have := HK2.out; omega
                        case rel => exact ⟨(Go.bits .or .i64 x7_1 (ji28)), (wrap64 (x8_1 + 1)), (by first | rfl | (simp; done) | (simp only [← hji28] <;> (first | rfl | simp)) | (simp [*]; done)), (by first | rfl | (simp; done) | (simp [*]; done)), H', ⟨by have := HK1.out; have := HK2.out; omega⟩, by repeat (first | exact Drawn0.refl _ | apply Drawn0.step)⟩
                      · rw [if_neg c27] at H
                        exact absurd H (by simp)
                    · replace c26 := Bool.eq_false_iff.mpr c26
                      subst c26
                      have H1 : (spec_l3Mask.l0 k2 l0 a1 a2 x7_1 (wrap64 (x8_1 + 1))) = some r := by rw [if_neg (show ¬ (false = true) by decide)] at H; exact H
                      clear H
                      have H := H1
                      clear H1
                      have H' := Aside0.mk H
                      clear H
                      go_wp2
                      go_roundg k2
                      case measure => have := HK1.out; have := HK2.out; omega
                      case rel => exact ⟨(x7_1), (wrap64 (x8_1 + 1)), (by first | rfl | (simp; done) | (simp [*]; done)), (by first | rfl | (simp; done) | (simp [*]; done)), H', ⟨by have := HK1.out; have := HK2.out; omega⟩, by repeat (first | exact Drawn0.refl _ | apply Drawn0.step)⟩
            · rw [if_neg c9] at H
              have c9b0 : decide (x8_1 ≤ a1) = false := decide_eq_false c9
              clear c9
              obtain rfl := Option.some.inj H
              go_wp2
              go_ret
              exact ⟨by first | rfl | (simp; done) | (simp [*]; done), by repeat (first | exact Drawn0.refl _ | apply Drawn0.step)⟩
    · rw [if_neg c5] at H
      exact absurd H (by simp)
  · rw [if_neg c4] at H
    exact absurd H (by simp)

end Go.Proofs.Ytnocdmclcdfppaa.P
