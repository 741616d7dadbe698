/- The machine's side of laws of this seat: each Go function as a plain Lean function and the proof that the machine's call does what that function says; written by this session's own program over the kit's print. -/
import Derived.Test.YthfbjkniinfgcaaP0
import Derived.Test.YthfbjkniinfgcaaP3
namespace Go.Proofs.Ythfbjkniinfgcaa.P
open Go.RowKit Go.Proofs.YthfbjkniinfgcaaW.PrintWords Go.Proofs.YthfbjkniinfgcaaW.PrintLast Go.Proofs.YthfbjkniinfgcaaW.PrintMore
attribute [local go_sem] max2_int min2_int max_two min_two max_three min_three max_four min_four   -- for this text's walks alone
set_option linter.unusedVariables false
set_option linter.unusedSimpArgs false

/-! ### spec_MasksValid: function 75 -/
def spec_MasksValid.l0 : Nat → List Int → Int → Int → Option (Bool)
  | 0, _, _, _ => none
  | k + 1, x0, x1, x5 => if x5 < (x0.length : Int) then (if 0 ≤ x5 then (if 0 ≤ (wrap64 ((Go.bits .and .i64 x1 7) + 1)) then ((spec_l1In.f (rd x0 x5) 0 (wrap64 ((shl .i64 1 (wrap64 ((Go.bits .and .i64 x1 7) + 1))) - 2))).bind fun t456 => (if t456 = true then (if (Int.tmod (rd x0 x5) 2) = 0 then (spec_MasksValid.l0 k x0 x1 (wrap64 (x5 + 1))) else (some false)) else (some false))) else (none)) else (none)) else ((spec_l1In.f x1 2 4).bind fun t458 => (if t458 = true then (some ((x0.length : Int) == (wrap64 (x1 * x1)))) else (some false)))
def spec_MasksValid.f (k : Nat) (l0 : List Int) (a1 : Int) : Option (Bool) := spec_MasksValid.l0 k l0 a1 0
theorem spec_MasksValid.mono_l : ∀ k, (∀ y0 y1 y2, LeO (spec_MasksValid.l0 k y0 y1 y2) (spec_MasksValid.l0 (k + 1) y0 y1 y2))
  | 0 => fun _ _ _ r h => by simp [spec_MasksValid.l0] at h
  | k + 1 => by
    have ih0 := spec_MasksValid.mono_l k
    · intro y0 y1 y2
      unfold spec_MasksValid.l0
      repeat' first
      | (with_reducible exact ih0 _ _ _)
      | (with_reducible exact LeO.refl _)
      | (with_reducible exact LeO.none _)
      | (with_reducible refine LeO.ite ?_ ?_)
      | (with_reducible refine LeO.bind ?_ (fun _ => ?_))
      | exact ih0 _ _ _
      | exact LeO.none _
      | refine LeO.ite ?_ ?_
      | refine LeO.bind ?_ (fun _ => ?_)
theorem spec_MasksValid.mono : ∀ a0 a1 k, LeO (spec_MasksValid.f k a0 a1) (spec_MasksValid.f (k + 1) a0 a1) := by
  intro a0 a1 k
  have ih0 := spec_MasksValid.mono_l k
  unfold spec_MasksValid.f
  repeat' first
      | (with_reducible exact ih0 _ _ _)
      | (with_reducible exact LeO.refl _)
      | (with_reducible exact LeO.none _)
      | (with_reducible refine LeO.ite ?_ ?_)
      | (with_reducible refine LeO.bind ?_ (fun _ => ?_))
      | exact ih0 _ _ _
      | exact LeO.none _
      | refine LeO.ite ?_ ?_
      | refine LeO.bind ?_ (fun _ => ?_)
set_option maxHeartbeats 8000000 in
set_option maxRecDepth 100000 in
theorem spec_MasksValid.calls (k : Nat) (A0 : Option Addr) (c0 : Nat) (l0 : List Int) (a1 : Int) (r : Bool) (w : World) (hr0 : Kd.C (Kd.int .i64) w A0 l0.length l0) (hc0 : l0.length ≤ c0) (h : spec_MasksValid.f k l0 a1 = some r) :
    Calls Try.prog 75 #[.slice A0 l0.length c0, .int .i64 a1] w fun e w' => e = .returned (.bool r) ∧ Drawn0 w w' := by
  have HR0 := Aside0.mk hr0
  have HC0 := Aside0.mk hc0
  clear hr0 hc0
  have H : (spec_MasksValid.l0 k l0 a1 0) = some r := h
  clear h
  have H' := Aside0.mk H
  clear H
  go_enter Try.func75, Try.ntmps75
  go_wp2
  repeat (go_quiet (fail); try go_wp2)
  go_loopg [5] k (fun kq v5 w' => ∃ (x5_1 : Int), v5 = .int .i64 x5_1 ∧ Aside0 (spec_MasksValid.l0 kq l0 a1 x5_1 = some r) ∧ Aside0 (kq ≤ k) ∧ Drawn0 w w')
  case atStart => exact ⟨(0), (by first | rfl | (simp; done) | (simp [*]; done)), H', ⟨Nat.le_refl _⟩, by repeat (first | exact Drawn0.refl _ | apply Drawn0.step)⟩
  case round =>
    clear H'
    try clear p2
    obtain ⟨x5_1, rfl, HA, HK1, ⟨m1, rfl⟩⟩ := hrel
    cases gk with
    | zero => exact absurd HA.out (by simp [spec_MasksValid.l0])
    | succ k1 =>
      have H := HA.out
      clear HA
      simp only [spec_MasksValid.l0] at H
      by_cases c3 : x5_1 < (l0.length : Int)
      · rw [if_pos c3] at H
        have c3b0 : decide (x5_1 < (l0.length : Int)) = true := decide_eq_true c3
        clear c3
        by_cases c4 : 0 ≤ x5_1
        · rw [if_pos c4] at H
          have c4b0 : decide (0 ≤ x5_1) = true := decide_eq_true c4
          clear c4
          obtain ⟨ji5, hji5⟩ : ∃ j_ : Int, (wrap64 ((Go.bits .and .i64 a1 7) + 1)) = j_ := ⟨_, rfl⟩
          replace H : (if 0 ≤ (ji5) then ((spec_l1In.f (rd l0 x5_1) 0 (wrap64 ((shl .i64 1 (ji5)) - 2))).bind fun t456 => (if t456 = true then (if (Int.tmod (rd l0 x5_1) 2) = 0 then (spec_MasksValid.l0 k1 l0 a1 (wrap64 (x5_1 + 1))) else (some false)) else (some false))) else (none)) = some r := by first | (rw [hji5] at H; exact H) | (simp only [hji5] at H ⊢; exact H)
          have hji5w : (IntKind.i64.wrap ((Go.bits .and .i64 a1 7) + 1)) = ji5 := (i64_w _).trans hji5
          by_cases c6 : 0 ≤ (ji5)
          · rw [if_pos c6] at H
            have c6b0 := eq_true c6
            have c6b1 : decide (0 ≤ (ji5)) = true := decide_eq_true c6
            clear c6
            obtain ⟨ji7, hji7⟩ : ∃ j_ : Int, (shl .i64 1 (ji5)) = j_ := ⟨_, rfl⟩
            replace H : ((spec_l1In.f (rd l0 x5_1) 0 (wrap64 ((ji7) - 2))).bind fun t456 => (if t456 = true then (if (Int.tmod (rd l0 x5_1) 2) = 0 then (spec_MasksValid.l0 k1 l0 a1 (wrap64 (x5_1 + 1))) else (some false)) else (some false))) = some r := by first | (rw [hji7] at H; exact H) | (simp only [hji7] at H ⊢; exact H)
            have hji7_ : (IntKind.i64.wrap (1 * 2 ^ min (ji5).toNat 64)) = ji7 := hji7
            have hji7z : (ji5) ≤ 64 → (IntKind.i64.wrap (1 * 2 ^ (ji5).toNat)) = ji7 := shl_small hji7
            have hji7u : (IntKind.i64.wrap (2 ^ min (ji5).toNat 64)) = ji7 := by have h_ := hji7_; rw [Int.one_mul] at h_; exact h_
            have hji7v : (ji5) ≤ 64 → (IntKind.i64.wrap (2 ^ (ji5).toNat)) = ji7 := fun hle_ => by have h_ := hji7z hle_; rw [Int.one_mul] at h_; exact h_
            have hji7y : (wrap64 (1 * 2 ^ min (ji5).toNat 64)) = ji7 := (i64_w _).symm.trans hji7_
            have hji7x : (ji5) ≤ 64 → (wrap64 (1 * 2 ^ (ji5).toNat)) = ji7 := fun h_ => (i64_w _).symm.trans (hji7z h_)
            replace H := Option.bind_eq_some_iff.mp H
            obtain ⟨t456, A80, H⟩ := H
            replace H : (if t456 = true then (if (Int.tmod (rd l0 x5_1) 2) = 0 then (spec_MasksValid.l0 k1 l0 a1 (wrap64 (x5_1 + 1))) else (some false)) else (some false)) = some r := H
            have A8 := Aside0.mk A80
            clear A80
            by_cases c9 : t456 = true
            · subst c9
              have H1 : (if (Int.tmod (rd l0 x5_1) 2) = 0 then (spec_MasksValid.l0 k1 l0 a1 (wrap64 (x5_1 + 1))) else (some false)) = some r := by rw [if_pos rfl] at H; exact H
              clear H
              have H := H1
              clear H1
              by_cases c10 : (Int.tmod (rd l0 x5_1) 2) = 0
              · rw [if_pos c10] at H
                have c10b0 : ((Int.tmod (rd l0 x5_1) 2) == 0) = true := beq_iff_eq.mpr c10
                have c10b1 : ((Int.tmod (rd l0 x5_1) 2) != 0) = false := bne_eq_false_iff_eq.mpr c10
                clear c10
                have H' := Aside0.mk H
                clear H
                have p455 : 0 ≤ (x5_1 : Int) := of_decide_eq_true (by first | (with_reducible assumption) | assumption)
                have q455 : x5_1 < (l0.length : Int) := of_decide_eq_true (by first | (with_reducible assumption) | assumption)
                obtain ⟨ad455, e455, hx455_0⟩ := Kd.at_int HR0.out x5_1 p455 q455
                cases e455
                replace p455 := eq_true p455
                replace q455 := eq_true q455
                have hwq0_ : IntKind.i64.wrap ((ji7) - 2) = wrap64 ((ji7) - 2) := i64_w _
                go_wp2_with (first | (go_at_call 70; (with_reducible refine (spec_l1In.calls (rd l0 x5_1) 0 (wrap64 ((ji7) - 2)) true _ A8.out).mono ?_); rintro e w' ⟨rfl, ⟨nd, rfl⟩⟩; (try first | exact ⟨rfl, _, World.drewN_drewN _ _ _⟩ | exact ⟨rfl, _, Eq.trans (World.drewN_drewN _ _ _) (congrArg (World.drewN _) (Nat.add_assoc _ _ _))⟩); have p457 : 0 ≤ (x5_1 : Int) := of_decide_eq_true (by first | (with_reducible assumption) | assumption); have q457 : x5_1 < (l0.length : Int) := of_decide_eq_true (by first | (with_reducible assumption) | assumption); obtain ⟨ad457, e457, hx457_0⟩ := Kd.at_int HR0.out x5_1 p457 q457; obtain rfl : ad455 = ad457 := (by injection e457); replace p457 := eq_true p457; replace q457 := eq_true q457))
                repeat (go_quiet (first | (go_at_call 70; (with_reducible refine (spec_l1In.calls (rd l0 x5_1) 0 (wrap64 ((ji7) - 2)) true _ A8.out).mono ?_); rintro e w' ⟨rfl, ⟨nd, rfl⟩⟩; (try first | exact ⟨rfl, _, World.drewN_drewN _ _ _⟩ | exact ⟨rfl, _, Eq.trans (World.drewN_drewN _ _ _) (congrArg (World.drewN _) (Nat.add_assoc _ _ _))⟩); have p457 : 0 ≤ (x5_1 : Int) := of_decide_eq_true (by first | (with_reducible assumption) | assumption); have q457 : x5_1 < (l0.length : Int) := of_decide_eq_true (by first | (with_reducible assumption) | assumption); obtain ⟨ad457, e457, hx457_0⟩ := Kd.at_int HR0.out x5_1 p457 q457; obtain rfl : ad455 = ad457 := (by injection e457); replace p457 := eq_true p457; replace q457 := eq_true q457)); try go_wp2_with (first | (go_at_call 70; (with_reducible refine (spec_l1In.calls (rd l0 x5_1) 0 (wrap64 ((ji7) - 2)) true _ A8.out).mono ?_); rintro e w' ⟨rfl, ⟨nd, rfl⟩⟩; (try first | exact ⟨rfl, _, World.drewN_drewN _ _ _⟩ | exact ⟨rfl, _, Eq.trans (World.drewN_drewN _ _ _) (congrArg (World.drewN _) (Nat.add_assoc _ _ _))⟩); have p457 : 0 ≤ (x5_1 : Int) := of_decide_eq_true (by first | (with_reducible assumption) | assumption); have q457 : x5_1 < (l0.length : Int) := of_decide_eq_true (by first | (with_reducible assumption) | assumption); obtain ⟨ad457, e457, hx457_0⟩ := Kd.at_int HR0.out x5_1 p457 q457; obtain rfl : ad455 = ad457 := (by injection e457); replace p457 := eq_true p457; replace q457 := eq_true q457)))
                go_roundg k1
                case measure => have := HK1.out; omega
                case rel => exact ⟨(wrap64 (x5_1 + 1)), (by first | rfl | (simp; done) | (simp [*]; done)), H', ⟨by have := HK1.out; omega⟩, by repeat (first | exact Drawn0.refl _ | apply Drawn0.step)⟩
              · rw [if_neg c10] at H
                have c10b0 : ((Int.tmod (rd l0 x5_1) 2) == 0) = false := beq_eq_false_iff_ne.mpr c10
                have c10b1 : ((Int.tmod (rd l0 x5_1) 2) != 0) = true := bne_iff_ne.mpr c10
                obtain rfl := Option.some.inj H
                have p455 : 0 ≤ (x5_1 : Int) := of_decide_eq_true (by first | (with_reducible assumption) | assumption)
                have q455 : x5_1 < (l0.length : Int) := of_decide_eq_true (by first | (with_reducible assumption) | assumption)
                obtain ⟨ad455, e455, hx455_0⟩ := Kd.at_int HR0.out x5_1 p455 q455
                cases e455
                replace p455 := eq_true p455
                replace q455 := eq_true q455
                have hwq0_ : IntKind.i64.wrap ((ji7) - 2) = wrap64 ((ji7) - 2) := i64_w _
                go_wp2_with (first | (go_at_call 70; (with_reducible refine (spec_l1In.calls (rd l0 x5_1) 0 (wrap64 ((ji7) - 2)) true _ A8.out).mono ?_); rintro e w' ⟨rfl, ⟨nd, rfl⟩⟩; (try first | exact ⟨rfl, _, World.drewN_drewN _ _ _⟩ | exact ⟨rfl, _, Eq.trans (World.drewN_drewN _ _ _) (congrArg (World.drewN _) (Nat.add_assoc _ _ _))⟩); have p457 : 0 ≤ (x5_1 : Int) := of_decide_eq_true (by first | (with_reducible assumption) | assumption); have q457 : x5_1 < (l0.length : Int) := of_decide_eq_true (by first | (with_reducible assumption) | assumption); obtain ⟨ad457, e457, hx457_0⟩ := Kd.at_int HR0.out x5_1 p457 q457; obtain rfl : ad455 = ad457 := (by injection e457); replace p457 := eq_true p457; replace q457 := eq_true q457))
                repeat (go_quiet (first | (go_at_call 70; (with_reducible refine (spec_l1In.calls (rd l0 x5_1) 0 (wrap64 ((ji7) - 2)) true _ A8.out).mono ?_); rintro e w' ⟨rfl, ⟨nd, rfl⟩⟩; (try first | exact ⟨rfl, _, World.drewN_drewN _ _ _⟩ | exact ⟨rfl, _, Eq.trans (World.drewN_drewN _ _ _) (congrArg (World.drewN _) (Nat.add_assoc _ _ _))⟩); have p457 : 0 ≤ (x5_1 : Int) := of_decide_eq_true (by first | (with_reducible assumption) | assumption); have q457 : x5_1 < (l0.length : Int) := of_decide_eq_true (by first | (with_reducible assumption) | assumption); obtain ⟨ad457, e457, hx457_0⟩ := Kd.at_int HR0.out x5_1 p457 q457; obtain rfl : ad455 = ad457 := (by injection e457); replace p457 := eq_true p457; replace q457 := eq_true q457)); try go_wp2_with (first | (go_at_call 70; (with_reducible refine (spec_l1In.calls (rd l0 x5_1) 0 (wrap64 ((ji7) - 2)) true _ A8.out).mono ?_); rintro e w' ⟨rfl, ⟨nd, rfl⟩⟩; (try first | exact ⟨rfl, _, World.drewN_drewN _ _ _⟩ | exact ⟨rfl, _, Eq.trans (World.drewN_drewN _ _ _) (congrArg (World.drewN _) (Nat.add_assoc _ _ _))⟩); have p457 : 0 ≤ (x5_1 : Int) := of_decide_eq_true (by first | (with_reducible assumption) | assumption); have q457 : x5_1 < (l0.length : Int) := of_decide_eq_true (by first | (with_reducible assumption) | assumption); obtain ⟨ad457, e457, hx457_0⟩ := Kd.at_int HR0.out x5_1 p457 q457; obtain rfl : ad455 = ad457 := (by injection e457); replace p457 := eq_true p457; replace q457 := eq_true q457)))
                go_ret
                exact ⟨by first | rfl | (simp; done) | (simp only [← hji5, ← hji7] <;> (first | rfl | simp)) | (simp [*]; done), by repeat (first | exact Drawn0.refl _ | apply Drawn0.step)⟩
            · replace c9 := Bool.eq_false_iff.mpr c9
              subst c9
              have H1 : (some false) = some r := by rw [if_neg (show ¬ (false = true) by decide)] at H; exact H
              clear H
              have H := H1
              clear H1
              obtain rfl := Option.some.inj H
              have p455 : 0 ≤ (x5_1 : Int) := of_decide_eq_true (by first | (with_reducible assumption) | assumption)
              have q455 : x5_1 < (l0.length : Int) := of_decide_eq_true (by first | (with_reducible assumption) | assumption)
              obtain ⟨ad455, e455, hx455_0⟩ := Kd.at_int HR0.out x5_1 p455 q455
              cases e455
              replace p455 := eq_true p455
              replace q455 := eq_true q455
              have hwq0_ : IntKind.i64.wrap ((ji7) - 2) = wrap64 ((ji7) - 2) := i64_w _
              go_wp2_with (first | (go_at_call 70; (with_reducible refine (spec_l1In.calls (rd l0 x5_1) 0 (wrap64 ((ji7) - 2)) false _ A8.out).mono ?_); rintro e w' ⟨rfl, ⟨nd, rfl⟩⟩; (try first | exact ⟨rfl, _, World.drewN_drewN _ _ _⟩ | exact ⟨rfl, _, Eq.trans (World.drewN_drewN _ _ _) (congrArg (World.drewN _) (Nat.add_assoc _ _ _))⟩)))
              repeat (go_quiet (first | (go_at_call 70; (with_reducible refine (spec_l1In.calls (rd l0 x5_1) 0 (wrap64 ((ji7) - 2)) false _ A8.out).mono ?_); rintro e w' ⟨rfl, ⟨nd, rfl⟩⟩; (try first | exact ⟨rfl, _, World.drewN_drewN _ _ _⟩ | exact ⟨rfl, _, Eq.trans (World.drewN_drewN _ _ _) (congrArg (World.drewN _) (Nat.add_assoc _ _ _))⟩))); try go_wp2_with (first | (go_at_call 70; (with_reducible refine (spec_l1In.calls (rd l0 x5_1) 0 (wrap64 ((ji7) - 2)) false _ A8.out).mono ?_); rintro e w' ⟨rfl, ⟨nd, rfl⟩⟩; (try first | exact ⟨rfl, _, World.drewN_drewN _ _ _⟩ | exact ⟨rfl, _, Eq.trans (World.drewN_drewN _ _ _) (congrArg (World.drewN _) (Nat.add_assoc _ _ _))⟩))))
              go_ret
              exact ⟨by first | rfl | (simp; done) | (simp only [← hji5, ← hji7] <;> (first | rfl | simp)) | (simp [*]; done), by repeat (first | exact Drawn0.refl _ | apply Drawn0.step)⟩
          · rw [if_neg c6] at H
            exact absurd H (by simp)
        · rw [if_neg c4] at H
          exact absurd H (by simp)
      · rw [if_neg c3] at H
        have c3b0 : decide (x5_1 < (l0.length : Int)) = false := decide_eq_false c3
        clear c3
        replace H := Option.bind_eq_some_iff.mp H
        obtain ⟨t458, A110, H⟩ := H
        replace H : (if t458 = true then (some ((l0.length : Int) == (wrap64 (a1 * a1)))) else (some false)) = some r := H
        have A11 := Aside0.mk A110
        clear A110
        by_cases c12 : t458 = true
        · subst c12
          have H1 : (some ((l0.length : Int) == (wrap64 (a1 * a1)))) = some r := by rw [if_pos rfl] at H; exact H
          clear H
          have H := H1
          clear H1
          obtain rfl := Option.some.inj H
          go_wp2_with (first | (go_at_call 70; (with_reducible refine (spec_l1In.calls a1 2 4 true _ A11.out).mono ?_); rintro e w' ⟨rfl, ⟨nd, rfl⟩⟩; (try first | exact ⟨rfl, _, World.drewN_drewN _ _ _⟩ | exact ⟨rfl, _, Eq.trans (World.drewN_drewN _ _ _) (congrArg (World.drewN _) (Nat.add_assoc _ _ _))⟩)))
          repeat (go_quiet (first | (go_at_call 70; (with_reducible refine (spec_l1In.calls a1 2 4 true _ A11.out).mono ?_); rintro e w' ⟨rfl, ⟨nd, rfl⟩⟩; (try first | exact ⟨rfl, _, World.drewN_drewN _ _ _⟩ | exact ⟨rfl, _, Eq.trans (World.drewN_drewN _ _ _) (congrArg (World.drewN _) (Nat.add_assoc _ _ _))⟩))); try go_wp2_with (first | (go_at_call 70; (with_reducible refine (spec_l1In.calls a1 2 4 true _ A11.out).mono ?_); rintro e w' ⟨rfl, ⟨nd, rfl⟩⟩; (try first | exact ⟨rfl, _, World.drewN_drewN _ _ _⟩ | exact ⟨rfl, _, Eq.trans (World.drewN_drewN _ _ _) (congrArg (World.drewN _) (Nat.add_assoc _ _ _))⟩))))
          go_ret
          exact ⟨by first | rfl | (simp; done) | (simp [*]; done), by repeat (first | exact Drawn0.refl _ | apply Drawn0.step)⟩
        · replace c12 := Bool.eq_false_iff.mpr c12
          subst c12
          have H1 : (some false) = some r := by rw [if_neg (show ¬ (false = true) by decide)] at H; exact H
          clear H
          have H := H1
          clear H1
          obtain rfl := Option.some.inj H
          go_wp2_with (first | (go_at_call 70; (with_reducible refine (spec_l1In.calls a1 2 4 false _ A11.out).mono ?_); rintro e w' ⟨rfl, ⟨nd, rfl⟩⟩; (try first | exact ⟨rfl, _, World.drewN_drewN _ _ _⟩ | exact ⟨rfl, _, Eq.trans (World.drewN_drewN _ _ _) (congrArg (World.drewN _) (Nat.add_assoc _ _ _))⟩)))
          repeat (go_quiet (first | (go_at_call 70; (with_reducible refine (spec_l1In.calls a1 2 4 false _ A11.out).mono ?_); rintro e w' ⟨rfl, ⟨nd, rfl⟩⟩; (try first | exact ⟨rfl, _, World.drewN_drewN _ _ _⟩ | exact ⟨rfl, _, Eq.trans (World.drewN_drewN _ _ _) (congrArg (World.drewN _) (Nat.add_assoc _ _ _))⟩))); try go_wp2_with (first | (go_at_call 70; (with_reducible refine (spec_l1In.calls a1 2 4 false _ A11.out).mono ?_); rintro e w' ⟨rfl, ⟨nd, rfl⟩⟩; (try first | exact ⟨rfl, _, World.drewN_drewN _ _ _⟩ | exact ⟨rfl, _, Eq.trans (World.drewN_drewN _ _ _) (congrArg (World.drewN _) (Nat.add_assoc _ _ _))⟩))))
          go_ret
          exact ⟨by first | rfl | (simp; done) | (simp [*]; done), by repeat (first | exact Drawn0.refl _ | apply Drawn0.step)⟩

end Go.Proofs.Ythfbjkniinfgcaa.P
