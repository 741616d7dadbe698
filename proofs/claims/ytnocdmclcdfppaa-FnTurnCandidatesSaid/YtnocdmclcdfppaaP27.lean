/- The machine's side of laws of this seat: each Go function as a plain Lean function and the proof that the machine's call does what that function says; written by this session's own program over the kit's print. -/
import Derived.Test.YtnocdmclcdfppaaP0
import Derived.Test.YtnocdmclcdfppaaP5
import Derived.Test.YtnocdmclcdfppaaP26
namespace Go.Proofs.Ytnocdmclcdfppaa.P
open Go.RowKit Go.Proofs.YtnocdmclcdfppaaW.PrintWords Go.Proofs.YtnocdmclcdfppaaW.PrintLast Go.Proofs.YtnocdmclcdfppaaW.PrintMore
attribute [local go_sem] max2_int min2_int max_two min_two max_three min_three max_four min_four   -- for this text's walks alone
set_option linter.unusedVariables false
set_option linter.unusedSimpArgs false

/-! ### impl_CandidatesOf: function 40 -/
mutual
def impl_CandidatesOf.l0 : Nat → List Int → Int → List Int → List Int → Int → Int → Option (List Int)
  | 0, _, _, _, _, _, _ => none
  | k + 1, x0, x1, x5, x17, x18, x19 => if x19 < x18 then (if 0 ≤ x19 then (if x19 < (x17.length : Int) then (if (rd x17 x19) > 0 then (if 0 ≤ (rd x17 x19) then (if x19 < (x5.length : Int) then (impl_CandidatesOf.l0 k x0 x1 (x5.set (x19 : Int).toNat (shl .i64 1 (rd x17 x19))) x17 x18 (wrap64 (x19 + 1))) else (none)) else (none)) else ((impl_allValues.f x1).bind fun t488 => (impl_CandidatesOf.l1 k x0 x1 x5 x19 t488 x17 x18 x19 x1 0))) else (none)) else (none)) else (some x5)
def impl_CandidatesOf.l1 : Nat → List Int → Int → List Int → Int → Int → List Int → Int → Int → Int → Int → Option (List Int)
  | 0, _, _, _, _, _, _, _, _, _, _ => none
  | k + 1, x0, x1, x5, x6, x8, x17, x18, x19, x33, x34 => if x34 < x33 then (if x1 = 0 then (none) else (if 0 ≤ (wrap64 ((wrap64 ((wrap64 (Int.tdiv x6 x1)) * x1)) + x34)) then (if (wrap64 ((wrap64 ((wrap64 (Int.tdiv x6 x1)) * x1)) + x34)) < (x0.length : Int) then (if 0 ≤ (rd x0 (wrap64 ((wrap64 ((wrap64 (Int.tdiv x6 x1)) * x1)) + x34))) then (if 0 ≤ (wrap64 ((wrap64 (x34 * x1)) + (Int.tmod x6 x1))) then (if (wrap64 ((wrap64 (x34 * x1)) + (Int.tmod x6 x1))) < (x0.length : Int) then (if 0 ≤ (rd x0 (wrap64 ((wrap64 (x34 * x1)) + (Int.tmod x6 x1)))) then (impl_CandidatesOf.l1 k x0 x1 x5 x6 (Go.bits .andNot .i64 x8 (Go.bits .or .i64 (shl .i64 1 (rd x0 (wrap64 ((wrap64 ((wrap64 (Int.tdiv x6 x1)) * x1)) + x34)))) (shl .i64 1 (rd x0 (wrap64 ((wrap64 (x34 * x1)) + (Int.tmod x6 x1))))))) x17 x18 x19 x33 (wrap64 (x34 + 1))) else (none)) else (none)) else (none)) else (none)) else (none)) else (none))) else (if 0 ≤ x6 then (if x6 < (x5.length : Int) then (impl_CandidatesOf.l0 k x0 x1 (x5.set (x6 : Int).toNat x8) x17 x18 (wrap64 (x19 + 1))) else (none)) else (none))
end
def impl_CandidatesOf.f (k : Nat) (l0 : List Int) (a1 : Int) : Option (List Int) := (impl_GridValid.f k l0 a1).bind fun t482 => (if t482 = true then (if 0 ≤ (l0.length : Int) then (if ((l0.length : Int) : Int).toNat ≤ 35184372088832 then (impl_CandidatesOf.l0 k l0 a1 (List.replicate ((l0.length : Int) : Int).toNat 0) l0 (l0.length : Int) 0) else (none)) else (none)) else (some ([] : List Int)))
theorem impl_CandidatesOf.mono_l : ∀ k, (∀ y0 y1 y2 y3 y4 y5, LeO (impl_CandidatesOf.l0 k y0 y1 y2 y3 y4 y5) (impl_CandidatesOf.l0 (k + 1) y0 y1 y2 y3 y4 y5)) ∧ (∀ y0 y1 y2 y3 y4 y5 y6 y7 y8 y9, LeO (impl_CandidatesOf.l1 k y0 y1 y2 y3 y4 y5 y6 y7 y8 y9) (impl_CandidatesOf.l1 (k + 1) y0 y1 y2 y3 y4 y5 y6 y7 y8 y9))
  | 0 => ⟨fun _ _ _ _ _ _ r h => by simp [impl_CandidatesOf.l0] at h, fun _ _ _ _ _ _ _ _ _ _ r h => by simp [impl_CandidatesOf.l1] at h⟩
  | k + 1 => by
    obtain ⟨ih0, ih1⟩ := impl_CandidatesOf.mono_l k
    refine ⟨?_, ?_⟩
    · intro y0 y1 y2 y3 y4 y5
      unfold impl_CandidatesOf.l0
      repeat' first
      | (with_reducible exact ih0 _ _ _ _ _ _)
      | (with_reducible exact ih1 _ _ _ _ _ _ _ _ _ _)
      | (with_reducible exact impl_GridValid.mono _ _ _)
      | (with_reducible exact LeO.refl _)
      | (with_reducible exact LeO.none _)
      | (with_reducible refine LeO.ite ?_ ?_)
      | (with_reducible refine LeO.bind ?_ (fun _ => ?_))
      | exact ih0 _ _ _ _ _ _
      | exact ih1 _ _ _ _ _ _ _ _ _ _
      | exact impl_GridValid.mono _ _ _
      | exact LeO.none _
      | refine LeO.ite ?_ ?_
      | refine LeO.bind ?_ (fun _ => ?_)
    · intro y0 y1 y2 y3 y4 y5 y6 y7 y8 y9
      unfold impl_CandidatesOf.l1
      repeat' first
      | (with_reducible exact ih0 _ _ _ _ _ _)
      | (with_reducible exact ih1 _ _ _ _ _ _ _ _ _ _)
      | (with_reducible exact impl_GridValid.mono _ _ _)
      | (with_reducible exact LeO.refl _)
      | (with_reducible exact LeO.none _)
      | (with_reducible refine LeO.ite ?_ ?_)
      | (with_reducible refine LeO.bind ?_ (fun _ => ?_))
      | exact ih0 _ _ _ _ _ _
      | exact ih1 _ _ _ _ _ _ _ _ _ _
      | exact impl_GridValid.mono _ _ _
      | exact LeO.none _
      | refine LeO.ite ?_ ?_
      | refine LeO.bind ?_ (fun _ => ?_)
theorem impl_CandidatesOf.mono : ∀ a0 a1 k, LeO (impl_CandidatesOf.f k a0 a1) (impl_CandidatesOf.f (k + 1) a0 a1) := by
  intro a0 a1 k
  obtain ⟨ih0, ih1⟩ := impl_CandidatesOf.mono_l k
  unfold impl_CandidatesOf.f
  repeat' first
      | (with_reducible exact ih0 _ _ _ _ _ _)
      | (with_reducible exact ih1 _ _ _ _ _ _ _ _ _ _)
      | (with_reducible exact impl_GridValid.mono _ _ _)
      | (with_reducible exact LeO.refl _)
      | (with_reducible exact LeO.none _)
      | (with_reducible refine LeO.ite ?_ ?_)
      | (with_reducible refine LeO.bind ?_ (fun _ => ?_))
      | exact ih0 _ _ _ _ _ _
      | exact ih1 _ _ _ _ _ _ _ _ _ _
      | exact impl_GridValid.mono _ _ _
      | exact LeO.none _
      | refine LeO.ite ?_ ?_
      | refine LeO.bind ?_ (fun _ => ?_)
set_option maxHeartbeats 8000000 in
set_option maxRecDepth 100000 in
theorem impl_CandidatesOf.calls (k : Nat) (A0 : Option Addr) (c0 : Nat) (l0 : List Int) (a1 : Int) (r : List Int) (w : World) (hr0 : Kd.C (Kd.int .i64) w A0 l0.length l0) (hc0 : l0.length ≤ c0) (h : impl_CandidatesOf.f k l0 a1 = some r) :
    Calls Try.prog 40 #[.slice A0 l0.length c0, .int .i64 a1] w fun e w' => ∃ v0_ : Value, e = .returned (v0_) ∧ Kd.R (Kd.int .i64) 3 w' w.heap.size (fun _ => True) v0_ r ∧ Below w.heap.size w w' := by
  have HR0 := Aside0.mk hr0
  have HC0 := Aside0.mk hc0
  clear hr0 hc0
  have HB := Aside0.mk (Below.refl w.heap.size w)
  have H : ((impl_GridValid.f k l0 a1).bind fun t482 => (if t482 = true then (if 0 ≤ (l0.length : Int) then (if ((l0.length : Int) : Int).toNat ≤ 35184372088832 then (impl_CandidatesOf.l0 k l0 a1 (List.replicate ((l0.length : Int) : Int).toNat 0) l0 (l0.length : Int) 0) else (none)) else (none)) else (some ([] : List Int)))) = some r := h
  clear h
  replace H := Option.bind_eq_some_iff.mp H
  obtain ⟨t482, A30, H⟩ := H
  replace H : (if t482 = true then (if 0 ≤ (l0.length : Int) then (if ((l0.length : Int) : Int).toNat ≤ 35184372088832 then (impl_CandidatesOf.l0 k l0 a1 (List.replicate ((l0.length : Int) : Int).toNat 0) l0 (l0.length : Int) 0) else (none)) else (none)) else (some ([] : List Int))) = some r := H
  have A3 := Aside0.mk A30
  clear A30
  by_cases c4 : t482 = true
  · subst c4
    have H1 : (if 0 ≤ (l0.length : Int) then (if ((l0.length : Int) : Int).toNat ≤ 35184372088832 then (impl_CandidatesOf.l0 k l0 a1 (List.replicate ((l0.length : Int) : Int).toNat 0) l0 (l0.length : Int) 0) else (none)) else (none)) = some r := by rw [if_pos rfl] at H; exact H
    clear H
    have H := H1
    clear H1
    by_cases c5 : 0 ≤ (l0.length : Int)
    · rw [if_pos c5] at H
      have c5b0 := eq_true c5
      have c5b1 : decide (0 ≤ (l0.length : Int)) = true := decide_eq_true c5
      clear c5
      by_cases c6 : ((l0.length : Int) : Int).toNat ≤ 35184372088832
      · rw [if_pos c6] at H
        have c6b0 := eq_true c6
        have c6b1 : decide (((l0.length : Int) : Int).toNat ≤ 35184372088832) = true := decide_eq_true c6
        clear c6
        obtain ⟨y483, hy483⟩ : ∃ y_ : List Int, y_ = (List.replicate ((l0.length : Int) : Int).toNat 0) := ⟨_, rfl⟩
        replace H : (impl_CandidatesOf.l0 k l0 a1 y483 l0 (l0.length : Int) 0) = some r := by first | (rw [hy483]; with_reducible exact H) | (have H2_ := (Option.bind_some _ _).symm.trans H; rw [hy483]; with_reducible exact H2_) | (have H2_ := (Option.bind_some _ _).symm.trans H; with_reducible exact H2_) | with_reducible exact H | (rw [hy483]; exact H) | exact H
        have Ny483 := Aside0.mk hy483
        clear hy483
        have H' := Aside0.mk H
        clear H
        go_enter Try.func40, Try.ntmps40
        go_wp2_with (first | (go_at_call 25; (with_reducible refine (impl_GridValid.calls k _ _ l0 a1 true _ ?side1 ?side2 A3.out).mono ?_); (case side1 => repeat (first | exact HR0.out | (with_reducible refine Kd.C_alloc ?_ _) | (with_reducible refine Kd.C_drewN ?_ _) | (with_reducible refine Kd.C_drew ?_))); (case side2 => exact HC0.out); rintro e w' ⟨rfl, ⟨nd, rfl⟩⟩; (try first | exact ⟨rfl, _, World.drewN_drewN _ _ _⟩ | exact ⟨rfl, _, Eq.trans (World.drewN_drewN _ _ _) (congrArg (World.drewN _) (Nat.add_assoc _ _ _))⟩)) | ((with_reducible refine gate_dst (N := 16) rfl ?_); refine Kd.R_make (Kd.int .i64) _ 3 rfl (N := 16) rfl 25 _ _ rfl (l0.length : Int) rfl rfl Try.underlying25 (.int .i64 0) 8 info3 rfl (by decide) (by omega) 0 (ok := fun _ => True) (okp := fun _ => True) rfl (fun _ hk => hk) trivial (of_decide_eq_true (by first | (with_reducible assumption) | assumption)) (Nat.le_trans (Nat.mul_le_mul_right _ (of_decide_eq_true (by first | (with_reducible assumption) | assumption) : (l0.length : Int).toNat ≤ 35184372088832)) (by omega)) (Below.refl _ _) (Nat.le_refl _) ?_; intro v484 w7 ho8 hb hg_ hnew_; clear hg_ hnew_; (first | rw [← Ny483.out] at ho8 | (simp only [Int.reduceToNat] at ho8; rw [← Ny483.out] at ho8)); have n0_ := Aside0.mk (Kd.R_lower ho8 (below_size (by repeat (first | (with_reducible first | exact HB.out | apply below_alloc | apply pw_below_drewN | apply below_drew1) | exact HB.out)))); have n1_ := Aside0.mk (below_step (by repeat (first | (with_reducible first | exact HB.out | apply below_alloc | apply pw_below_drewN | apply below_drew1) | exact HB.out)) hb); clear HB; have HO485 := n0_; have HB := n1_; clear n0_ n1_; clear hb ho8))
        repeat (go_quiet (first | (go_at_call 25; (with_reducible refine (impl_GridValid.calls k _ _ l0 a1 true _ ?side1 ?side2 A3.out).mono ?_); (case side1 => repeat (first | exact HR0.out | (with_reducible refine Kd.C_alloc ?_ _) | (with_reducible refine Kd.C_drewN ?_ _) | (with_reducible refine Kd.C_drew ?_))); (case side2 => exact HC0.out); rintro e w' ⟨rfl, ⟨nd, rfl⟩⟩; (try first | exact ⟨rfl, _, World.drewN_drewN _ _ _⟩ | exact ⟨rfl, _, Eq.trans (World.drewN_drewN _ _ _) (congrArg (World.drewN _) (Nat.add_assoc _ _ _))⟩)) | ((with_reducible refine gate_dst (N := 16) rfl ?_); refine Kd.R_make (Kd.int .i64) _ 3 rfl (N := 16) rfl 25 _ _ rfl (l0.length : Int) rfl rfl Try.underlying25 (.int .i64 0) 8 info3 rfl (by decide) (by omega) 0 (ok := fun _ => True) (okp := fun _ => True) rfl (fun _ hk => hk) trivial (of_decide_eq_true (by first | (with_reducible assumption) | assumption)) (Nat.le_trans (Nat.mul_le_mul_right _ (of_decide_eq_true (by first | (with_reducible assumption) | assumption) : (l0.length : Int).toNat ≤ 35184372088832)) (by omega)) (Below.refl _ _) (Nat.le_refl _) ?_; intro v484 w7 ho8 hb hg_ hnew_; clear hg_ hnew_; (first | rw [← Ny483.out] at ho8 | (simp only [Int.reduceToNat] at ho8; rw [← Ny483.out] at ho8)); have n0_ := Aside0.mk (Kd.R_lower ho8 (below_size (by repeat (first | (with_reducible first | exact HB.out | apply below_alloc | apply pw_below_drewN | apply below_drew1) | exact HB.out)))); have n1_ := Aside0.mk (below_step (by repeat (first | (with_reducible first | exact HB.out | apply below_alloc | apply pw_below_drewN | apply below_drew1) | exact HB.out)) hb); clear HB; have HO485 := n0_; have HB := n1_; clear n0_ n1_; clear hb ho8)); try go_wp2_with (first | (go_at_call 25; (with_reducible refine (impl_GridValid.calls k _ _ l0 a1 true _ ?side1 ?side2 A3.out).mono ?_); (case side1 => repeat (first | exact HR0.out | (with_reducible refine Kd.C_alloc ?_ _) | (with_reducible refine Kd.C_drewN ?_ _) | (with_reducible refine Kd.C_drew ?_))); (case side2 => exact HC0.out); rintro e w' ⟨rfl, ⟨nd, rfl⟩⟩; (try first | exact ⟨rfl, _, World.drewN_drewN _ _ _⟩ | exact ⟨rfl, _, Eq.trans (World.drewN_drewN _ _ _) (congrArg (World.drewN _) (Nat.add_assoc _ _ _))⟩)) | ((with_reducible refine gate_dst (N := 16) rfl ?_); refine Kd.R_make (Kd.int .i64) _ 3 rfl (N := 16) rfl 25 _ _ rfl (l0.length : Int) rfl rfl Try.underlying25 (.int .i64 0) 8 info3 rfl (by decide) (by omega) 0 (ok := fun _ => True) (okp := fun _ => True) rfl (fun _ hk => hk) trivial (of_decide_eq_true (by first | (with_reducible assumption) | assumption)) (Nat.le_trans (Nat.mul_le_mul_right _ (of_decide_eq_true (by first | (with_reducible assumption) | assumption) : (l0.length : Int).toNat ≤ 35184372088832)) (by omega)) (Below.refl _ _) (Nat.le_refl _) ?_; intro v484 w7 ho8 hb hg_ hnew_; clear hg_ hnew_; (first | rw [← Ny483.out] at ho8 | (simp only [Int.reduceToNat] at ho8; rw [← Ny483.out] at ho8)); have n0_ := Aside0.mk (Kd.R_lower ho8 (below_size (by repeat (first | (with_reducible first | exact HB.out | apply below_alloc | apply pw_below_drewN | apply below_drew1) | exact HB.out)))); have n1_ := Aside0.mk (below_step (by repeat (first | (with_reducible first | exact HB.out | apply below_alloc | apply pw_below_drewN | apply below_drew1) | exact HB.out)) hb); clear HB; have HO485 := n0_; have HB := n1_; clear n0_ n1_; clear hb ho8)))
        go_loopg [19] k (fun kq v19 w' => ∃ (x5_1 : List Int) (x19_1 : Int), v19 = .int .i64 x19_1 ∧ Aside0 (impl_CandidatesOf.l0 kq l0 a1 x5_1 l0 (l0.length : Int) x19_1 = some r) ∧ Aside0 (kq ≤ k) ∧ Aside0 (Kd.R (Kd.int .i64) 3 w' w.heap.size (fun _ => True) v484 x5_1) ∧ Aside0 (Below w.heap.size w w'))
        case atStart => exact ⟨(y483), (0), (by first | rfl | (simp; done) | (simp [*]; done)), H', ⟨Nat.le_refl _⟩, ⟨by (with_reducible repeat (first | apply Kd.R_alloc | apply Kd.R_drewN | apply Kd.R_drew)); exact HO485.out⟩, ⟨by repeat (first | (with_reducible first | exact HB.out | apply below_alloc | apply pw_below_drewN | apply below_drew1) | exact HB.out)⟩⟩
        case round =>
          clear H'
          try clear p2
          try clear c4
          try clear c5
          try clear c5b0
          try clear c5b1
          try clear c6
          try clear c6b0
          try clear c6b1
          obtain ⟨x5_1, x19_1, rfl, HA, HK1, HO_5, HB⟩ := hrel
          cases gk with
          | zero => exact absurd HA.out (by simp [impl_CandidatesOf.l0])
          | succ k1 =>
            have H := HA.out
            clear HA
            simp only [impl_CandidatesOf.l0] at H
            by_cases c9 : x19_1 < (l0.length : Int)
            · rw [if_pos c9] at H
              have c9b0 : decide (x19_1 < (l0.length : Int)) = true := decide_eq_true c9
              clear c9
              by_cases c10 : 0 ≤ x19_1
              · rw [if_pos c10] at H
                have c10b0 : decide (0 ≤ x19_1) = true := decide_eq_true c10
                clear c10
                by_cases c11 : x19_1 < (l0.length : Int)
                · rw [if_pos c11] at H
                  have c11b0 : decide (x19_1 < (l0.length : Int)) = true := decide_eq_true c11
                  clear c11
                  by_cases c12 : (rd l0 x19_1) > 0
                  · rw [if_pos c12] at H
                    have c12b0 : decide (0 < (rd l0 x19_1)) = true := decide_eq_true c12
                    clear c12
                    by_cases c13 : 0 ≤ (rd l0 x19_1)
                    · rw [if_pos c13] at H
                      have c13b0 := eq_true c13
                      have c13b1 : decide (0 ≤ (rd l0 x19_1)) = true := decide_eq_true c13
                      clear c13
                      obtain ⟨ji14, hji14⟩ : ∃ j_ : Int, (shl .i64 1 (rd l0 x19_1)) = j_ := ⟨_, rfl⟩
                      replace H : (if x19_1 < (x5_1.length : Int) then (impl_CandidatesOf.l0 k1 l0 a1 (x5_1.set (x19_1 : Int).toNat (ji14)) l0 (l0.length : Int) (wrap64 (x19_1 + 1))) else (none)) = some r := by first | (rw [hji14] at H; exact H) | (simp only [hji14] at H ⊢; exact H)
                      have hji14_ : (IntKind.i64.wrap (1 * 2 ^ min (rd l0 x19_1).toNat 64)) = ji14 := hji14
                      have hji14z : (rd l0 x19_1) ≤ 64 → (IntKind.i64.wrap (1 * 2 ^ (rd l0 x19_1).toNat)) = ji14 := shl_small hji14
                      have hji14u : (IntKind.i64.wrap (2 ^ min (rd l0 x19_1).toNat 64)) = ji14 := by have h_ := hji14_; rw [Int.one_mul] at h_; exact h_
                      have hji14v : (rd l0 x19_1) ≤ 64 → (IntKind.i64.wrap (2 ^ (rd l0 x19_1).toNat)) = ji14 := fun hle_ => by have h_ := hji14z hle_; rw [Int.one_mul] at h_; exact h_
                      have hji14y : (wrap64 (1 * 2 ^ min (rd l0 x19_1).toNat 64)) = ji14 := (i64_w _).symm.trans hji14_
                      have hji14x : (rd l0 x19_1) ≤ 64 → (wrap64 (1 * 2 ^ (rd l0 x19_1).toNat)) = ji14 := fun h_ => (i64_w _).symm.trans (hji14z h_)
                      by_cases c15 : x19_1 < (x5_1.length : Int)
                      · rw [if_pos c15] at H
                        have c15b0 : decide (x19_1 < (x5_1.length : Int)) = true := decide_eq_true c15
                        clear c15
                        obtain ⟨y487, hy487⟩ : ∃ y_ : List Int, y_ = (x5_1.set (x19_1 : Int).toNat (ji14)) := ⟨_, rfl⟩
                        replace H : (impl_CandidatesOf.l0 k1 l0 a1 y487 l0 (l0.length : Int) (wrap64 (x19_1 + 1))) = some r := by first | (rw [hy487]; with_reducible exact H) | (have H2_ := (Option.bind_some _ _).symm.trans H; rw [hy487]; with_reducible exact H2_) | (have H2_ := (Option.bind_some _ _).symm.trans H; with_reducible exact H2_) | with_reducible exact H | (rw [hy487]; exact H) | exact H
                        have Ny487 := Aside0.mk hy487
                        clear hy487
                        have H' := Aside0.mk H
                        clear H
                        have p486 : 0 ≤ (x19_1 : Int) := of_decide_eq_true (by first | (with_reducible assumption) | assumption)
                        have q486 : x19_1 < (l0.length : Int) := of_decide_eq_true (by first | (with_reducible assumption) | assumption)
                        obtain ⟨ad486, e486, hx486_0⟩ := Kd.at_int HR0.out x19_1 p486 q486
                        cases e486
                        replace hx486_0 := (HB.out.cell (World.block_lt_of_cell? w _ hx486_0)).trans hx486_0
                        replace p486 := eq_true p486
                        replace q486 := eq_true q486
                        have p16 : 0 ≤ (x19_1 : Int) := of_decide_eq_true (by first | (with_reducible assumption) | assumption)
                        have q16 : (x19_1 : Int) < ((x5_1.length : Int) : Int) := of_decide_eq_true (by first | (with_reducible assumption) | assumption)
                        obtain ⟨go16, co16, eo16, gb16, gl16, cl16, HG16⟩ := Kd.R_form HO_5.out (by omega)
                        (first | cases eo16 | (injection eo16 with ea_ en_ ec_; (first | subst ea_ | (injection ea_ with ea_; subst ea_)); subst ec_; clear en_))
                        have GB16 := Aside0.mk gb16
                        have GG16 := Aside0.mk HG16
                        clear gb16 gl16 HG16
                        obtain ⟨hx16_0, hf16_0⟩ := Kd.R_celln 0 HO_5.out (x19_1 : Int) p16 q16
                        replace p16 := eq_true p16
                        replace q16 := eq_true q16
                        have HP17 := Kd.R_putg HO_5.out (x19_1 : Int) ji14
                        go_wp2_with (first | ((with_reducible refine gate_store (t := 3) (p := 30) rfl ?_); (try (rw [drewN_self wr]; generalize hq_ : World.drewN wr _ = wr; have n0_ := Aside0.mk (Kd.R_at hq_ HO_5.out); have n1_ := Aside0.mk (below_at hq_ HB.out); clear hq_ HO_5 HB; have HO_5 := n0_; have HB := n1_; clear n0_ n1_; (try (have HP17 := Kd.R_putg HO_5.out (x19_1 : Int) ji14)))); refine store_event (t := 3) (p := 30) (v := ?vo_w18) (w1 := (wr.setCell ⟨go16, (x19_1 : Int).toNat, none⟩ (.int .i64 ji14))) ?hg ?ho ?hn ?hr ?_; (case ho => rfl); (case hg => rfl); (case hn => rfl); (case hr => first | (go_simp; done) | (go_simp; rfl)); intro w18 hw; have hg : wr.grownBy w18 (some go16) := (by rw [hw]; exact HP17.2); have hp_ : Kd.R (Kd.int .i64) 3 w18 w.heap.size (fun _ => True) (.slice (some ⟨go16, 0, none⟩) x5_1.length co16) y487 := (by rw [hw, Ny487.out]; exact HP17.1); clear HP17; have n0_ := Aside0.mk (hp_); have n1_ := Aside0.mk ((by rw [hw]; exact below_set (HB.out) GB16.out : Below w.heap.size w w18)); clear HO_5; clear HB; have HO_5 := n0_; have HB := n1_; clear n0_ n1_; clear hg hw hp_))
                        repeat (go_quiet (first | ((with_reducible refine gate_store (t := 3) (p := 30) rfl ?_); (try (rw [drewN_self wr]; generalize hq_ : World.drewN wr _ = wr; have n0_ := Aside0.mk (Kd.R_at hq_ HO_5.out); have n1_ := Aside0.mk (below_at hq_ HB.out); clear hq_ HO_5 HB; have HO_5 := n0_; have HB := n1_; clear n0_ n1_; (try (have HP17 := Kd.R_putg HO_5.out (x19_1 : Int) ji14)))); refine store_event (t := 3) (p := 30) (v := ?vo_w18) (w1 := (wr.setCell ⟨go16, (x19_1 : Int).toNat, none⟩ (.int .i64 ji14))) ?hg ?ho ?hn ?hr ?_; (case ho => rfl); (case hg => rfl); (case hn => rfl); (case hr => first | (go_simp; done) | (go_simp; rfl)); intro w18 hw; have hg : wr.grownBy w18 (some go16) := (by rw [hw]; exact HP17.2); have hp_ : Kd.R (Kd.int .i64) 3 w18 w.heap.size (fun _ => True) (.slice (some ⟨go16, 0, none⟩) x5_1.length co16) y487 := (by rw [hw, Ny487.out]; exact HP17.1); clear HP17; have n0_ := Aside0.mk (hp_); have n1_ := Aside0.mk ((by rw [hw]; exact below_set (HB.out) GB16.out : Below w.heap.size w w18)); clear HO_5; clear HB; have HO_5 := n0_; have HB := n1_; clear n0_ n1_; clear hg hw hp_)); try go_wp2_with (first | ((with_reducible refine gate_store (t := 3) (p := 30) rfl ?_); (try (rw [drewN_self wr]; generalize hq_ : World.drewN wr _ = wr; have n0_ := Aside0.mk (Kd.R_at hq_ HO_5.out); have n1_ := Aside0.mk (below_at hq_ HB.out); clear hq_ HO_5 HB; have HO_5 := n0_; have HB := n1_; clear n0_ n1_; (try (have HP17 := Kd.R_putg HO_5.out (x19_1 : Int) ji14)))); refine store_event (t := 3) (p := 30) (v := ?vo_w18) (w1 := (wr.setCell ⟨go16, (x19_1 : Int).toNat, none⟩ (.int .i64 ji14))) ?hg ?ho ?hn ?hr ?_; (case ho => rfl); (case hg => rfl); (case hn => rfl); (case hr => first | (go_simp; done) | (go_simp; rfl)); intro w18 hw; have hg : wr.grownBy w18 (some go16) := (by rw [hw]; exact HP17.2); have hp_ : Kd.R (Kd.int .i64) 3 w18 w.heap.size (fun _ => True) (.slice (some ⟨go16, 0, none⟩) x5_1.length co16) y487 := (by rw [hw, Ny487.out]; exact HP17.1); clear HP17; have n0_ := Aside0.mk (hp_); have n1_ := Aside0.mk ((by rw [hw]; exact below_set (HB.out) GB16.out : Below w.heap.size w w18)); clear HO_5; clear HB; have HO_5 := n0_; have HB := n1_; clear n0_ n1_; clear hg hw hp_)))
                        go_roundg k1
                        case measure => have := HK1.out; omega
                        case rel => exact ⟨(y487), (wrap64 (x19_1 + 1)), (by first | rfl | (simp; done) | (simp [*]; done)), H', ⟨by have := HK1.out; omega⟩, ⟨by (with_reducible repeat (first | apply Kd.R_alloc | apply Kd.R_drewN | apply Kd.R_drew)); exact HO_5.out⟩, ⟨by repeat (first | (with_reducible first | exact HB.out | apply below_alloc | apply pw_below_drewN | apply below_drew1) | exact HB.out)⟩⟩
                      · rw [if_neg c15] at H
                        exact absurd H (by simp)
                    · rw [if_neg c13] at H
                      exact absurd H (by simp)
                  · rw [if_neg c12] at H
                    have c12b0 : decide (0 < (rd l0 x19_1)) = false := decide_eq_false c12
                    clear c12
                    replace H := Option.bind_eq_some_iff.mp H
                    obtain ⟨t488, A190, H⟩ := H
                    replace H : (impl_CandidatesOf.l1 k1 l0 a1 x5_1 x19_1 t488 l0 (l0.length : Int) x19_1 a1 0) = some r := H
                    have A19 := Aside0.mk A190
                    clear A190
                    have H' := Aside0.mk H
                    clear H
                    have p486 : 0 ≤ (x19_1 : Int) := of_decide_eq_true (by first | (with_reducible assumption) | assumption)
                    have q486 : x19_1 < (l0.length : Int) := of_decide_eq_true (by first | (with_reducible assumption) | assumption)
                    obtain ⟨ad486, e486, hx486_0⟩ := Kd.at_int HR0.out x19_1 p486 q486
                    cases e486
                    replace hx486_0 := (HB.out.cell (World.block_lt_of_cell? w _ hx486_0)).trans hx486_0
                    replace p486 := eq_true p486
                    replace q486 := eq_true q486
                    go_wp2_with (first | (go_at_call 57; (with_reducible refine (impl_allValues.calls a1 t488 _ A19.out).mono ?_); rintro e w' ⟨rfl, ⟨nd, rfl⟩⟩; (try first | exact ⟨rfl, _, World.drewN_drewN _ _ _⟩ | exact ⟨rfl, _, Eq.trans (World.drewN_drewN _ _ _) (congrArg (World.drewN _) (Nat.add_assoc _ _ _))⟩)))
                    repeat (go_quiet (first | (go_at_call 57; (with_reducible refine (impl_allValues.calls a1 t488 _ A19.out).mono ?_); rintro e w' ⟨rfl, ⟨nd, rfl⟩⟩; (try first | exact ⟨rfl, _, World.drewN_drewN _ _ _⟩ | exact ⟨rfl, _, Eq.trans (World.drewN_drewN _ _ _) (congrArg (World.drewN _) (Nat.add_assoc _ _ _))⟩))); try go_wp2_with (first | (go_at_call 57; (with_reducible refine (impl_allValues.calls a1 t488 _ A19.out).mono ?_); rintro e w' ⟨rfl, ⟨nd, rfl⟩⟩; (try first | exact ⟨rfl, _, World.drewN_drewN _ _ _⟩ | exact ⟨rfl, _, Eq.trans (World.drewN_drewN _ _ _) (congrArg (World.drewN _) (Nat.add_assoc _ _ _))⟩))))
                    go_loopg [8, 34] k1 (fun kq v8 v34 w' => ∃ (x8_2 : Int) (x34_2 : Int), v8 = .int .i64 x8_2 ∧ v34 = .int .i64 x34_2 ∧ Aside0 (impl_CandidatesOf.l1 kq l0 a1 x5_1 x19_1 x8_2 l0 (l0.length : Int) x19_1 a1 x34_2 = some r) ∧ Aside0 (kq ≤ k1) ∧ Aside0 (Kd.R (Kd.int .i64) 3 w' w.heap.size (fun _ => True) v484 x5_1) ∧ Aside0 (Below w.heap.size w w'))
                    case atStart => exact ⟨(t488), (0), (by first | rfl | (simp; done) | (simp [*]; done)), (by first | rfl | (simp; done) | (simp [*]; done)), H', ⟨Nat.le_refl _⟩, ⟨by (with_reducible repeat (first | apply Kd.R_alloc | apply Kd.R_drewN | apply Kd.R_drew)); exact HO_5.out⟩, ⟨by repeat (first | (with_reducible first | exact HB.out | apply below_alloc | apply pw_below_drewN | apply below_drew1) | exact HB.out)⟩⟩
                    case round =>
                      clear H'
                      try clear c1
                      try clear p1
                      try clear q1
                      try clear hx1
                      try clear p2
                      try clear c4
                      try clear p4
                      try clear q4
                      try clear hx4
                      try clear c5
                      try clear c5b0
                      try clear c5b1
                      try clear c6
                      try clear c6b0
                      try clear c6b1
                      try clear p6
                      try clear c9
                      try clear c9b0
                      try clear c10
                      try clear c10b0
                      try clear c11
                      try clear c11b0
                      try clear c12
                      try clear c12b0
                      try clear c13
                      try clear c13b0
                      try clear c13b1
                      try clear c15
                      try clear c15b0
                      try clear p16
                      try clear q16
                      try clear hx16
                      try clear hf16
                      try clear hx16_0
                      try clear hx486_0
                      try clear p16
                      try clear p2
                      try clear p486
                      try clear q16
                      try clear q486
                      obtain ⟨x8_2, x34_2, rfl, rfl, HA, HK2, HO_5, HB⟩ := hrel
                      cases gk with
                      | zero => exact absurd HA.out (by simp [impl_CandidatesOf.l1])
                      | succ k2 =>
                        have H := HA.out
                        clear HA
                        simp only [impl_CandidatesOf.l1] at H
                        by_cases c20 : x34_2 < a1
                        · rw [if_pos c20] at H
                          have c20b0 : decide (x34_2 < a1) = true := decide_eq_true c20
                          clear c20
                          by_cases c21 : a1 = 0
                          · rw [if_pos c21] at H
                            exact absurd H (by simp)
                          · rw [if_neg c21] at H
                            have c21b0 : (a1 == 0) = false := beq_eq_false_iff_ne.mpr c21
                            have c21b1 : (a1 != 0) = true := bne_iff_ne.mpr c21
                            obtain ⟨ji22, hji22⟩ : ∃ j_ : Int, (wrap64 ((wrap64 ((wrap64 (Int.tdiv x19_1 a1)) * a1)) + x34_2)) = j_ := ⟨_, rfl⟩
                            replace H : (if 0 ≤ (ji22) then (if (ji22) < (l0.length : Int) then (if 0 ≤ (rd l0 (ji22)) then (if 0 ≤ (wrap64 ((wrap64 (x34_2 * a1)) + (Int.tmod x19_1 a1))) then (if (wrap64 ((wrap64 (x34_2 * a1)) + (Int.tmod x19_1 a1))) < (l0.length : Int) then (if 0 ≤ (rd l0 (wrap64 ((wrap64 (x34_2 * a1)) + (Int.tmod x19_1 a1)))) then (impl_CandidatesOf.l1 k2 l0 a1 x5_1 x19_1 (Go.bits .andNot .i64 x8_2 (Go.bits .or .i64 (shl .i64 1 (rd l0 (ji22))) (shl .i64 1 (rd l0 (wrap64 ((wrap64 (x34_2 * a1)) + (Int.tmod x19_1 a1))))))) l0 (l0.length : Int) x19_1 a1 (wrap64 (x34_2 + 1))) else (none)) else (none)) else (none)) else (none)) else (none)) else (none)) = some r := by first | (rw [hji22] at H; exact H) | (simp only [hji22] at H ⊢; exact H)
                            have hji22w : (IntKind.i64.wrap ((wrap64 ((wrap64 (Int.tdiv x19_1 a1)) * a1)) + x34_2)) = ji22 := (i64_w _).trans hji22
                            by_cases c23 : 0 ≤ (ji22)
                            · rw [if_pos c23] at H
                              have c23b0 : decide (0 ≤ (ji22)) = true := decide_eq_true c23
                              clear c23
                              by_cases c24 : (ji22) < (l0.length : Int)
                              · rw [if_pos c24] at H
                                have c24b0 : decide ((ji22) < (l0.length : Int)) = true := decide_eq_true c24
                                clear c24
                                by_cases c25 : 0 ≤ (rd l0 (ji22))
                                · rw [if_pos c25] at H
                                  have c25b0 := eq_true c25
                                  have c25b1 : decide (0 ≤ (rd l0 (ji22))) = true := decide_eq_true c25
                                  clear c25
                                  obtain ⟨ji26, hji26⟩ : ∃ j_ : Int, (shl .i64 1 (rd l0 (ji22))) = j_ := ⟨_, rfl⟩
                                  replace H : (if 0 ≤ (wrap64 ((wrap64 (x34_2 * a1)) + (Int.tmod x19_1 a1))) then (if (wrap64 ((wrap64 (x34_2 * a1)) + (Int.tmod x19_1 a1))) < (l0.length : Int) then (if 0 ≤ (rd l0 (wrap64 ((wrap64 (x34_2 * a1)) + (Int.tmod x19_1 a1)))) then (impl_CandidatesOf.l1 k2 l0 a1 x5_1 x19_1 (Go.bits .andNot .i64 x8_2 (Go.bits .or .i64 (ji26) (shl .i64 1 (rd l0 (wrap64 ((wrap64 (x34_2 * a1)) + (Int.tmod x19_1 a1))))))) l0 (l0.length : Int) x19_1 a1 (wrap64 (x34_2 + 1))) else (none)) else (none)) else (none)) = some r := by first | (rw [hji26] at H; exact H) | (simp only [hji26] at H ⊢; exact H)
                                  have hji26_ : (IntKind.i64.wrap (1 * 2 ^ min (rd l0 (ji22)).toNat 64)) = ji26 := hji26
                                  have hji26z : (rd l0 (ji22)) ≤ 64 → (IntKind.i64.wrap (1 * 2 ^ (rd l0 (ji22)).toNat)) = ji26 := shl_small hji26
                                  have hji26u : (IntKind.i64.wrap (2 ^ min (rd l0 (ji22)).toNat 64)) = ji26 := by have h_ := hji26_; rw [Int.one_mul] at h_; exact h_
                                  have hji26v : (rd l0 (ji22)) ≤ 64 → (IntKind.i64.wrap (2 ^ (rd l0 (ji22)).toNat)) = ji26 := fun hle_ => by have h_ := hji26z hle_; rw [Int.one_mul] at h_; exact h_
                                  have hji26y : (wrap64 (1 * 2 ^ min (rd l0 (ji22)).toNat 64)) = ji26 := (i64_w _).symm.trans hji26_
                                  have hji26x : (rd l0 (ji22)) ≤ 64 → (wrap64 (1 * 2 ^ (rd l0 (ji22)).toNat)) = ji26 := fun h_ => (i64_w _).symm.trans (hji26z h_)
                                  obtain ⟨ji27, hji27⟩ : ∃ j_ : Int, (wrap64 ((wrap64 (x34_2 * a1)) + (Int.tmod x19_1 a1))) = j_ := ⟨_, rfl⟩
                                  replace H : (if 0 ≤ (ji27) then (if (ji27) < (l0.length : Int) then (if 0 ≤ (rd l0 (ji27)) then (impl_CandidatesOf.l1 k2 l0 a1 x5_1 x19_1 (Go.bits .andNot .i64 x8_2 (Go.bits .or .i64 (ji26) (shl .i64 1 (rd l0 (ji27))))) l0 (l0.length : Int) x19_1 a1 (wrap64 (x34_2 + 1))) else (none)) else (none)) else (none)) = some r := by first | (rw [hji27] at H; exact H) | (simp only [hji27] at H ⊢; exact H)
                                  have hji27w : (IntKind.i64.wrap ((wrap64 (x34_2 * a1)) + (Int.tmod x19_1 a1))) = ji27 := (i64_w _).trans hji27
                                  by_cases c28 : 0 ≤ (ji27)
                                  · rw [if_pos c28] at H
                                    have c28b0 : decide (0 ≤ (ji27)) = true := decide_eq_true c28
                                    clear c28
                                    by_cases c29 : (ji27) < (l0.length : Int)
                                    · rw [if_pos c29] at H
                                      have c29b0 : decide ((ji27) < (l0.length : Int)) = true := decide_eq_true c29
                                      clear c29
                                      by_cases c30 : 0 ≤ (rd l0 (ji27))
                                      · rw [if_pos c30] at H
                                        have c30b0 := eq_true c30
                                        have c30b1 : decide (0 ≤ (rd l0 (ji27))) = true := decide_eq_true c30
                                        clear c30
                                        obtain ⟨ji31, hji31⟩ : ∃ j_ : Int, (shl .i64 1 (rd l0 (ji27))) = j_ := ⟨_, rfl⟩
                                        replace H : (impl_CandidatesOf.l1 k2 l0 a1 x5_1 x19_1 (Go.bits .andNot .i64 x8_2 (Go.bits .or .i64 (ji26) (ji31))) l0 (l0.length : Int) x19_1 a1 (wrap64 (x34_2 + 1))) = some r := by first | (rw [hji31] at H; exact H) | (simp only [hji31] at H ⊢; exact H)
                                        have hji31_ : (IntKind.i64.wrap (1 * 2 ^ min (rd l0 (ji27)).toNat 64)) = ji31 := hji31
                                        have hji31z : (rd l0 (ji27)) ≤ 64 → (IntKind.i64.wrap (1 * 2 ^ (rd l0 (ji27)).toNat)) = ji31 := shl_small hji31
                                        have hji31u : (IntKind.i64.wrap (2 ^ min (rd l0 (ji27)).toNat 64)) = ji31 := by have h_ := hji31_; rw [Int.one_mul] at h_; exact h_
                                        have hji31v : (rd l0 (ji27)) ≤ 64 → (IntKind.i64.wrap (2 ^ (rd l0 (ji27)).toNat)) = ji31 := fun hle_ => by have h_ := hji31z hle_; rw [Int.one_mul] at h_; exact h_
                                        have hji31y : (wrap64 (1 * 2 ^ min (rd l0 (ji27)).toNat 64)) = ji31 := (i64_w _).symm.trans hji31_
                                        have hji31x : (rd l0 (ji27)) ≤ 64 → (wrap64 (1 * 2 ^ (rd l0 (ji27)).toNat)) = ji31 := fun h_ => (i64_w _).symm.trans (hji31z h_)
                                        have H' := Aside0.mk H
                                        clear H
                                        have p489 : 0 ≤ ((ji22) : Int) := of_decide_eq_true (by first | (with_reducible assumption) | assumption)
                                        have q489 : (ji22) < (l0.length : Int) := of_decide_eq_true (by first | (with_reducible assumption) | assumption)
                                        obtain ⟨ad489, e489, hx489_0⟩ := Kd.at_int HR0.out (ji22) p489 q489
                                        obtain rfl : ad486 = ad489 := (by injection e489)
                                        replace hx489_0 := (HB.out.cell (World.block_lt_of_cell? w _ hx489_0)).trans hx489_0
                                        replace p489 := eq_true p489
                                        replace q489 := eq_true q489
                                        have p490 : 0 ≤ ((ji27) : Int) := of_decide_eq_true (by first | (with_reducible assumption) | assumption)
                                        have q490 : (ji27) < (l0.length : Int) := of_decide_eq_true (by first | (with_reducible assumption) | assumption)
                                        obtain ⟨ad490, e490, hx490_0⟩ := Kd.at_int HR0.out (ji27) p490 q490
                                        obtain rfl : ad486 = ad490 := (by injection e490)
                                        replace hx490_0 := (HB.out.cell (World.block_lt_of_cell? w _ hx490_0)).trans hx490_0
                                        replace p490 := eq_true p490
                                        replace q490 := eq_true q490
                                        go_wp2
                                        repeat (go_quiet (fail); try go_wp2)
                                        go_roundg k2
                                        case measure => have := HK1.out; have := HK2.out; omega
                                        case rel => exact ⟨(Go.bits .andNot .i64 x8_2 (Go.bits .or .i64 (ji26) (ji31))), (wrap64 (x34_2 + 1)), (by first | rfl | (simp; done) | (simp only [← hji26, ← hji31] <;> (first | rfl | simp)) | (simp [*]; done)), (by first | rfl | (simp; done) | (simp [*]; done)), H', ⟨by have := HK1.out; have := HK2.out; omega⟩, ⟨by (with_reducible repeat (first | apply Kd.R_alloc | apply Kd.R_drewN | apply Kd.R_drew)); exact HO_5.out⟩, ⟨by repeat (first | (with_reducible first | exact HB.out | apply below_alloc | apply pw_below_drewN | apply below_drew1) | exact HB.out)⟩⟩
                                      · rw [if_neg c30] at H
                                        exact absurd H (by simp)
                                    · rw [if_neg c29] at H
                                      exact absurd H (by simp)
                                  · rw [if_neg c28] at H
                                    exact absurd H (by simp)
                                · rw [if_neg c25] at H
                                  exact absurd H (by simp)
                              · rw [if_neg c24] at H
                                exact absurd H (by simp)
                            · rw [if_neg c23] at H
                              exact absurd H (by simp)
                        · rw [if_neg c20] at H
                          have c20b0 : decide (x34_2 < a1) = false := decide_eq_false c20
                          clear c20
                          by_cases c32 : 0 ≤ x19_1
                          · rw [if_pos c32] at H
                            have c32b0 : decide (0 ≤ x19_1) = true := decide_eq_true c32
                            clear c32
                            by_cases c33 : x19_1 < (x5_1.length : Int)
                            · rw [if_pos c33] at H
                              have c33b0 : decide (x19_1 < (x5_1.length : Int)) = true := decide_eq_true c33
                              clear c33
                              obtain ⟨y491, hy491⟩ : ∃ y_ : List Int, y_ = (x5_1.set (x19_1 : Int).toNat x8_2) := ⟨_, rfl⟩
                              replace H : (impl_CandidatesOf.l0 k2 l0 a1 y491 l0 (l0.length : Int) (wrap64 (x19_1 + 1))) = some r := by first | (rw [hy491]; with_reducible exact H) | (have H2_ := (Option.bind_some _ _).symm.trans H; rw [hy491]; with_reducible exact H2_) | (have H2_ := (Option.bind_some _ _).symm.trans H; with_reducible exact H2_) | with_reducible exact H | (rw [hy491]; exact H) | exact H
                              have Ny491 := Aside0.mk hy491
                              clear hy491
                              have H' := Aside0.mk H
                              clear H
                              have p34 : 0 ≤ (x19_1 : Int) := of_decide_eq_true (by first | (with_reducible assumption) | assumption)
                              have q34 : (x19_1 : Int) < ((x5_1.length : Int) : Int) := of_decide_eq_true (by first | (with_reducible assumption) | assumption)
                              obtain ⟨go34, co34, eo34, gb34, gl34, cl34, HG34⟩ := Kd.R_form HO_5.out (by omega)
                              (first | cases eo34 | (injection eo34 with ea_ en_ ec_; (first | subst ea_ | (injection ea_ with ea_; subst ea_)); subst ec_; clear en_))
                              have GB34 := Aside0.mk gb34
                              have GG34 := Aside0.mk HG34
                              clear gb34 gl34 HG34
                              obtain ⟨hx34_0, hf34_0⟩ := Kd.R_celln 0 HO_5.out (x19_1 : Int) p34 q34
                              replace p34 := eq_true p34
                              replace q34 := eq_true q34
                              have HP35 := Kd.R_putg HO_5.out (x19_1 : Int) x8_2
                              go_wp2_with (first | ((with_reducible refine gate_store (t := 3) (p := 66) rfl ?_); (try (rw [drewN_self wr]; generalize hq_ : World.drewN wr _ = wr; have n0_ := Aside0.mk (Kd.R_at hq_ HO_5.out); have n1_ := Aside0.mk (below_at hq_ HB.out); clear hq_ HO_5 HB; have HO_5 := n0_; have HB := n1_; clear n0_ n1_; (try (have HP35 := Kd.R_putg HO_5.out (x19_1 : Int) x8_2)))); refine store_event (t := 3) (p := 66) (v := ?vo_w36) (w1 := (wr.setCell ⟨go34, (x19_1 : Int).toNat, none⟩ (.int .i64 x8_2))) ?hg ?ho ?hn ?hr ?_; (case ho => rfl); (case hg => rfl); (case hn => rfl); (case hr => first | (go_simp; done) | (go_simp; rfl)); intro w36 hw; have hg : wr.grownBy w36 (some go34) := (by rw [hw]; exact HP35.2); have hp_ : Kd.R (Kd.int .i64) 3 w36 w.heap.size (fun _ => True) (.slice (some ⟨go34, 0, none⟩) x5_1.length co34) y491 := (by rw [hw, Ny491.out]; exact HP35.1); clear HP35; have n0_ := Aside0.mk (hp_); have n1_ := Aside0.mk ((by rw [hw]; exact below_set (HB.out) GB34.out : Below w.heap.size w w36)); clear HO_5; clear HB; have HO_5 := n0_; have HB := n1_; clear n0_ n1_; clear hg hw hp_))
                              repeat (go_quiet (first | ((with_reducible refine gate_store (t := 3) (p := 66) rfl ?_); (try (rw [drewN_self wr]; generalize hq_ : World.drewN wr _ = wr; have n0_ := Aside0.mk (Kd.R_at hq_ HO_5.out); have n1_ := Aside0.mk (below_at hq_ HB.out); clear hq_ HO_5 HB; have HO_5 := n0_; have HB := n1_; clear n0_ n1_; (try (have HP35 := Kd.R_putg HO_5.out (x19_1 : Int) x8_2)))); refine store_event (t := 3) (p := 66) (v := ?vo_w36) (w1 := (wr.setCell ⟨go34, (x19_1 : Int).toNat, none⟩ (.int .i64 x8_2))) ?hg ?ho ?hn ?hr ?_; (case ho => rfl); (case hg => rfl); (case hn => rfl); (case hr => first | (go_simp; done) | (go_simp; rfl)); intro w36 hw; have hg : wr.grownBy w36 (some go34) := (by rw [hw]; exact HP35.2); have hp_ : Kd.R (Kd.int .i64) 3 w36 w.heap.size (fun _ => True) (.slice (some ⟨go34, 0, none⟩) x5_1.length co34) y491 := (by rw [hw, Ny491.out]; exact HP35.1); clear HP35; have n0_ := Aside0.mk (hp_); have n1_ := Aside0.mk ((by rw [hw]; exact below_set (HB.out) GB34.out : Below w.heap.size w w36)); clear HO_5; clear HB; have HO_5 := n0_; have HB := n1_; clear n0_ n1_; clear hg hw hp_)); try go_wp2_with (first | ((with_reducible refine gate_store (t := 3) (p := 66) rfl ?_); (try (rw [drewN_self wr]; generalize hq_ : World.drewN wr _ = wr; have n0_ := Aside0.mk (Kd.R_at hq_ HO_5.out); have n1_ := Aside0.mk (below_at hq_ HB.out); clear hq_ HO_5 HB; have HO_5 := n0_; have HB := n1_; clear n0_ n1_; (try (have HP35 := Kd.R_putg HO_5.out (x19_1 : Int) x8_2)))); refine store_event (t := 3) (p := 66) (v := ?vo_w36) (w1 := (wr.setCell ⟨go34, (x19_1 : Int).toNat, none⟩ (.int .i64 x8_2))) ?hg ?ho ?hn ?hr ?_; (case ho => rfl); (case hg => rfl); (case hn => rfl); (case hr => first | (go_simp; done) | (go_simp; rfl)); intro w36 hw; have hg : wr.grownBy w36 (some go34) := (by rw [hw]; exact HP35.2); have hp_ : Kd.R (Kd.int .i64) 3 w36 w.heap.size (fun _ => True) (.slice (some ⟨go34, 0, none⟩) x5_1.length co34) y491 := (by rw [hw, Ny491.out]; exact HP35.1); clear HP35; have n0_ := Aside0.mk (hp_); have n1_ := Aside0.mk ((by rw [hw]; exact below_set (HB.out) GB34.out : Below w.heap.size w w36)); clear HO_5; clear HB; have HO_5 := n0_; have HB := n1_; clear n0_ n1_; clear hg hw hp_)))
                              go_roundg k2
                              case measure => have := HK1.out; have := HK2.out; omega
                              case rel => exact ⟨(y491), (wrap64 (x19_1 + 1)), (by first | rfl | (simp; done) | (simp [*]; done)), H', ⟨by have := HK1.out; have := HK2.out; omega⟩, ⟨by (with_reducible repeat (first | apply Kd.R_alloc | apply Kd.R_drewN | apply Kd.R_drew)); exact HO_5.out⟩, ⟨by repeat (first | (with_reducible first | exact HB.out | apply below_alloc | apply pw_below_drewN | apply below_drew1) | exact HB.out)⟩⟩
                            · rw [if_neg c33] at H
                              exact absurd H (by simp)
                          · rw [if_neg c32] at H
                            exact absurd H (by simp)
                · rw [if_neg c11] at H
                  exact absurd H (by simp)
              · rw [if_neg c10] at H
                exact absurd H (by simp)
            · rw [if_neg c9] at H
              have c9b0 : decide (x19_1 < (l0.length : Int)) = false := decide_eq_false c9
              clear c9
              obtain rfl := Option.some.inj H
              go_wp2
              repeat (go_quiet (fail); try go_wp2)
              go_ret
              exact ⟨_, by first | rfl | (simp [errW_none, errW_some] <;> rfl) | (simp [*, errW_none, errW_some] <;> rfl), by (with_reducible repeat (first | apply Kd.R_alloc | apply Kd.R_drewN | apply Kd.R_drew)); exact HO_5.out, by repeat (first | (with_reducible first | exact HB.out | apply below_alloc | apply pw_below_drewN | apply below_drew1) | exact HB.out)⟩
      · rw [if_neg c6] at H
        exact absurd H (by simp)
    · rw [if_neg c5] at H
      exact absurd H (by simp)
  · replace c4 := Bool.eq_false_iff.mpr c4
    subst c4
    have H1 : (some ([] : List Int)) = some r := by rw [if_neg (show ¬ (false = true) by decide)] at H; exact H
    clear H
    have H := H1
    clear H1
    obtain rfl := Option.some.inj H
    go_enter Try.func40, Try.ntmps40
    go_wp2_with (first | (go_at_call 25; (with_reducible refine (impl_GridValid.calls k _ _ l0 a1 false _ ?side1 ?side2 A3.out).mono ?_); (case side1 => repeat (first | exact HR0.out | (with_reducible refine Kd.C_alloc ?_ _) | (with_reducible refine Kd.C_drewN ?_ _) | (with_reducible refine Kd.C_drew ?_))); (case side2 => exact HC0.out); rintro e w' ⟨rfl, ⟨nd, rfl⟩⟩; (try first | exact ⟨rfl, _, World.drewN_drewN _ _ _⟩ | exact ⟨rfl, _, Eq.trans (World.drewN_drewN _ _ _) (congrArg (World.drewN _) (Nat.add_assoc _ _ _))⟩)))
    repeat (go_quiet (first | (go_at_call 25; (with_reducible refine (impl_GridValid.calls k _ _ l0 a1 false _ ?side1 ?side2 A3.out).mono ?_); (case side1 => repeat (first | exact HR0.out | (with_reducible refine Kd.C_alloc ?_ _) | (with_reducible refine Kd.C_drewN ?_ _) | (with_reducible refine Kd.C_drew ?_))); (case side2 => exact HC0.out); rintro e w' ⟨rfl, ⟨nd, rfl⟩⟩; (try first | exact ⟨rfl, _, World.drewN_drewN _ _ _⟩ | exact ⟨rfl, _, Eq.trans (World.drewN_drewN _ _ _) (congrArg (World.drewN _) (Nat.add_assoc _ _ _))⟩))); try go_wp2_with (first | (go_at_call 25; (with_reducible refine (impl_GridValid.calls k _ _ l0 a1 false _ ?side1 ?side2 A3.out).mono ?_); (case side1 => repeat (first | exact HR0.out | (with_reducible refine Kd.C_alloc ?_ _) | (with_reducible refine Kd.C_drewN ?_ _) | (with_reducible refine Kd.C_drew ?_))); (case side2 => exact HC0.out); rintro e w' ⟨rfl, ⟨nd, rfl⟩⟩; (try first | exact ⟨rfl, _, World.drewN_drewN _ _ _⟩ | exact ⟨rfl, _, Eq.trans (World.drewN_drewN _ _ _) (congrArg (World.drewN _) (Nat.add_assoc _ _ _))⟩))))
    go_ret
    exact ⟨_, by first | rfl | (simp [errW_none, errW_some] <;> rfl) | (simp [*, errW_none, errW_some] <;> rfl), by first | exact Kd.R_nil _ _ _ _ _ | exact Kd.N_nil _ _ _ _ _ | exact Kd.V_nil _ _ _ _ _ | exact Kd.Q_nil _ _ _ _ _ | exact Kd.S_nil _ _ _ _ _, by repeat (first | (with_reducible first | exact HB.out | apply below_alloc | apply pw_below_drewN | apply below_drew1) | exact HB.out)⟩

end Go.Proofs.Ytnocdmclcdfppaa.P
