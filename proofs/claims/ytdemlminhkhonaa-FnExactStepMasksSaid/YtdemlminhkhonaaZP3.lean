/- The machine's side: each Go function as a plain Lean function and the proof that the machine's call does what that function says; written by this session's own program over the kit's print. -/
import Derived.Test.YtdemlminhkhonaaZP1
import Derived.Test.YtdemlminhkhonaaZP2
namespace Go.Proofs.Ytdemlminhkhonaa.P
open Go.RowKit Go.Proofs.YtdemlminhkhonaaW.PrintWords Go.Proofs.YtdemlminhkhonaaW.PrintLast Go.Proofs.YtdemlminhkhonaaW.PrintMore
attribute [local go_sem] max2_int min2_int max_two min_two max_three min_three max_four min_four   -- for this text's walks alone
set_option linter.unusedVariables false
set_option linter.unusedSimpArgs false
mutual
def spec_NarrowHidden.l0 : Nat → List Int → Int → List Int → Int → Option (List Int)
 | 0, _, _, _, _ => none
 | k + 1, x0, x1, x5, x6 => if x6 < (wrap64 (2 * x1)) then ((spec_LineCells.f k x1 x6).bind fun t175 => (spec_NarrowHidden.l1 k x0 x1 x5 x6 t175 1)) else (some x5)
def spec_NarrowHidden.l1 : Nat → List Int → Int → List Int → Int → List Int → Int → Option (List Int)
 | 0, _, _, _, _, _, _ => none
 | k + 1, x0, x1, x5, x6, x7, x8 => if x8 ≤ x1 then (spec_NarrowHidden.l2 k x0 x1 x5 x6 x7 x8 0 0 0) else (spec_NarrowHidden.l0 k x0 x1 x5 (wrap64 (x6 + 1)))
def spec_NarrowHidden.l2 : Nat → List Int → Int → List Int → Int → List Int → Int → Int → Int → Int → Option (List Int)
 | 0, _, _, _, _, _, _, _, _, _ => none
 | k + 1, x0, x1, x5, x6, x7, x8, x9, x10, x11 => if x11 < (x7.length : Int) then (if 0 ≤ x11 then (if 0 ≤ (rd x7 x11) then (if (rd x7 x11) < (x0.length : Int) then (if 0 ≤ x8 then (if (Int.tmod (shr .i64 (rd x0 (rd x7 x11)) x8) 2) = 1 then (spec_NarrowHidden.l2 k x0 x1 x5 x6 x7 x8 (wrap64 (x9 + 1)) (rd x7 x11) (wrap64 (x11 + 1))) else (spec_NarrowHidden.l2 k x0 x1 x5 x6 x7 x8 x9 x10 (wrap64 (x11 + 1)))) else (none)) else (none)) else (none)) else (none)) else (if x9 = 1 then (if 0 ≤ x10 then (if x10 < (x5.length : Int) then (if 0 ≤ x8 then (spec_NarrowHidden.l1 k x0 x1 (x5.set (x10 : Int).toNat (Go.bits .and .i64 (rd x5 x10) (shl .i64 1 x8))) x6 x7 (wrap64 (x8 + 1))) else (none)) else (none)) else (none)) else (spec_NarrowHidden.l1 k x0 x1 x5 x6 x7 (wrap64 (x8 + 1))))
end
def spec_NarrowHidden.f (k : Nat) (l0 : List Int) (a1 : Int) : Option (List Int) := (spec_MasksValid.f k l0 a1).bind fun t168 => (if t168 = true then ((spec_l6Copy.f l0).bind fun t172 => (spec_NarrowHidden.l0 k l0 a1 t172 0)) else (some (([] : List Int))))
def spec_NarrowHidden.T20 : Bool × List (List Nat × List Nat) := (true, [([], []), ([], []), ([], []), ([], []), ([2, 3], [2, 3]), ([4], [4]), ([], []), ([6], [6]), ([5, 7], [5, 7]), ([0, 1, 0, 1, 2, 3, 4, 5, 6, 7, 8], [0, 1]), ([9, 8, 0, 1, 2, 3, 4, 5, 6, 7, 8], [8, 9])])
def spec_NarrowHidden.B20 : List Nat := [0, 0, 0, 0, 12, 28, 0, 64, 252, 511, 1023]
theorem spec_NarrowHidden.tab20 : rtab .any (opsOf Try.f55 20) = spec_NarrowHidden.T20 := by kernel_rfl
theorem spec_NarrowHidden.bits20 : waitsOk spec_NarrowHidden.T20.2 spec_NarrowHidden.B20 = true := by kernel_rfl
set_option maxHeartbeats 8000000 in
set_option maxRecDepth 100000 in
theorem spec_NarrowHidden.calls (k : Nat) (A0 : Option Addr) (c0 : Nat) (l0 : List Int) (a1 : Int) (r : List Int) (w : World) (hr0 : Kd.C (Kd.int .i64) w A0 l0.length l0) (hc0 : l0.length ≤ c0) (h : spec_NarrowHidden.f k l0 a1 = some r) :
  Calls Try.prog 55 #[.slice A0 l0.length c0, .int .i64 a1] w fun e w' => ∃ v0_ : Value, e = .returned (v0_) ∧ Kd.R (Kd.int .i64) 3 w' w.heap.size (fun _ => True) v0_ r ∧ Below w.heap.size w w' := by
 have HR0 := yam hr0
 have HC0 := yam hc0
 clear hr0 hc0
 have HB := yam (Below.refl w.heap.size w)
 have H : ((spec_MasksValid.f k l0 a1).bind fun t168 => (if t168 = true then ((spec_l6Copy.f l0).bind fun t172 => (spec_NarrowHidden.l0 k l0 a1 t172 0)) else (some (([] : List Int))))) = some r := h
 clear h
 replace H := Option.bind_eq_some_iff.mp H
 obtain ⟨t168, A30, H⟩ := H
 try dsimp only at H
 have A3 := yam A30
 clear A30
 by_cases c4 : t168 = true
 rotate_left
 ·replace c4 := Bool.eq_false_iff.mpr c4
  subst c4
  have H1 : (some (([] : List Int))) = some r := by rw [if_neg (show ¬ (false = true) by decide)] at H; exact H
  clear H
  have H := H1
  clear H1
  obtain ⟨y169, hy169⟩ : ∃ y_ : List Int, y_ = (([] : List Int)) := ⟨_, rfl⟩
  replace H : (some y169) = some r := by first | (rw [hy169]; with_reducible exact H) | (have H2_ := (Option.bind_some _ _).symm.trans H; rw [hy169]; with_reducible exact H2_) | (have H2_ := (Option.bind_some _ _).symm.trans H; with_reducible exact H2_) | with_reducible exact H | (rw [hy169]; exact H) | exact H
  have Ny169 := yam hy169
  clear hy169
  obtain rfl := Option.some.inj H
  go_enter Try.func55, Try.ntmps55
  go_wp2_with (first | (refine goesL_ (some 14) rfl rfl Try.func53 (by kernel_rfl) rfl #[.slice A0 l0.length c0, .int .i64 a1] rfl ymd ?_; (with_reducible refine (spec_MasksValid.calls k _ _ l0 a1 false _ ?side1 ?side2 A3.out).mono ?_); (case side1 => exact Kd.Cz (HR0.out)); (case side2 => exact HC0.out); rintro e w' ⟨rfl, ⟨nd, rfl⟩⟩; refine ⟨_, rfl, ?_⟩) | ((with_reducible refine gate_dst (N := 16) rfl ?_); refine Kd.R_lit (Kd.int .i64) _ 3 ?hg (N := 16) ?hd (xs := ([] : List Int)) (inner := []) (ok := fun _ => True) (okp := fun _ => True) ?hr ?hp (fun _ hk => hk) trivial (Below.refl _ _) (Nat.le_refl _) (by simp) ?_; (case hd => rfl); (case hg => rfl); (case hr => first | (go_simp; done) | (go_simp; rfl)); (case hp => exact (Reps.none _ _)); intro v170 w31 ho32 hb hg_ hnew_; clear hg_ hnew_; (first | rw [← Ny169.out] at ho32 | (simp only [Int.reduceToNat] at ho32; rw [← Ny169.out] at ho32)); have HO171 := yam (Kd.R_lower ho32 (below_size (yez HB.out))); replace HB := yam (below_step (yez HB.out) hb); clear hb ho32))
  go_ret
  exact ⟨_, yer, yka HO171.out, yhb⟩

 subst c4
 have H1 : ((spec_l6Copy.f l0).bind fun t172 => (spec_NarrowHidden.l0 k l0 a1 t172 0)) = some r := by rw [if_pos rfl] at H; exact H
 clear H
 have H := H1
 clear H1
 replace H := Option.bind_eq_some_iff.mp H
 obtain ⟨t172, A50, H⟩ := H
 try dsimp only at H
 have A5 := yam A50
 clear A50
 have H' := yam H
 clear H
 go_enter Try.func55, Try.ntmps55
 go_wp2_with (first | (refine goesL_ (some 14) rfl rfl Try.func53 (by kernel_rfl) rfl #[.slice A0 l0.length c0, .int .i64 a1] rfl ymd ?_; (with_reducible refine (spec_MasksValid.calls k _ _ l0 a1 true _ ?side1 ?side2 A3.out).mono ?_); (case side1 => exact Kd.Cz (HR0.out)); (case side2 => exact HC0.out); rintro e w' ⟨rfl, ⟨nd, rfl⟩⟩; refine ⟨_, rfl, ?_⟩) | (refine goesL_ (some 18) rfl rfl Try.func62 (by kernel_rfl) rfl #[.slice A0 l0.length c0] rfl ymd ?_; (with_reducible refine (spec_l6Copy.calls _ _ l0 t172 _ ?side1 ?side2 A5.out).mono ?_); (case side1 => exact Kd.Cz (HR0.out)); (case side2 => exact HC0.out); rintro e w6 ⟨v173, rfl, ho0, hb⟩; refine ⟨_, rfl, ?_⟩; have HO174 := yam (Kd.R_lower ho0 (below_size (yez HB.out))); replace HB := yam (below_step (yez HB.out) hb); (try clear hb); (try clear hb2); (try clear hk); (try clear hi); (try clear ho0)))
 go_loopg [6] k (fun kq v6 w' => ∃ (x5_1 : List Int) (x6_1 : Int), v6 = .int .i64 x6_1 ∧ Aside0 (spec_NarrowHidden.l0 kq l0 a1 x5_1 x6_1 = some r) ∧ Aside0 (kq ≤ k) ∧ Aside0 (Kd.R (Kd.int .i64) 3 w' w.heap.size (fun _ => True) v173 x5_1) ∧ Aside0 (Below w.heap.size w w'))
 case atStart => exact ⟨(t172), (0), yeq, H', ⟨Nat.le_refl _⟩, ⟨yka HO174.out⟩, ⟨yhb⟩⟩
 case round =>
  clear H'
  try clear p2
  try clear c4
  try clear c5
  try clear c6
  obtain ⟨x5_1, x6_1, rfl, HA, HK1, HO_5, HB⟩ := hrel
  cases gk with
  | zero => exact absurd HA.out (by simp [spec_NarrowHidden.l0])
  | succ k1 =>
   have H := HA.out
   clear HA
   simp only [spec_NarrowHidden.l0] at H
   by_cases c7 : x6_1 < (wrap64 (2 * a1))
   rotate_left
   ·rw [if_neg c7] at H
    have c7b0 : decide (x6_1 < (wrap64 (2 * a1))) = false := decide_eq_false c7
    clear c7
    obtain rfl := Option.some.inj H
    go_wp2
    go_ret
    exact ⟨_, yer, yka HO_5.out, yhb⟩
   rw [if_pos c7] at H
   have c7b0 : decide (x6_1 < (wrap64 (2 * a1))) = true := decide_eq_true c7
   clear c7
   replace H := Option.bind_eq_some_iff.mp H
   obtain ⟨t175, A80, H⟩ := H
   try dsimp only at H
   have A8 := yam A80
   clear A80
   have H' := yam H
   clear H
   go_wp2_with (first | (refine goesL_ (some 27) rfl rfl Try.func80 (by kernel_rfl) rfl #[.int .i64 a1, .int .i64 x6_1] rfl ymd ?_; (with_reducible refine (spec_LineCells.calls k1 a1 x6_1 t175 _ A8.out).mono ?_); rintro e w9 ⟨v176, rfl, ho0, hb⟩; refine ⟨_, rfl, ?_⟩; have HO177 := yam (Kd.R_lower (Kd.Yw ho0 (Kd.R_lt (Kd.Yz HO_5.out))) (below_size (yez HB.out))); replace HO_5 := yam (Kd.Ye (Kd.Yz HO_5.out) (Kd.Yb ho0) hb); replace HB := yam (below_step (yez HB.out) hb); (try clear hb); (try clear hb2); (try clear hk); (try clear hi); (try clear ho0)))
   go_loopg [8] k1 (fun kq v8 w' => ∃ (x5_2 : List Int) (x8_2 : Int), v8 = .int .i64 x8_2 ∧ Aside0 (spec_NarrowHidden.l1 kq l0 a1 x5_2 x6_1 t175 x8_2 = some r) ∧ Aside0 (kq ≤ k1) ∧ Aside0 (Kd.R (Kd.int .i64) 3 w' w.heap.size (fun k_ => some k_ ≠ (v176 : Value).ownBlock) v173 x5_2) ∧ Aside0 (Kd.R (Kd.int .i64) 3 w' w.heap.size (fun k_ => some k_ ≠ (v173 : Value).ownBlock) v176 t175) ∧ Aside0 (Below w.heap.size w w'))
   case atStart => exact ⟨(x5_1), (1), yeq, H', ⟨Nat.le_refl _⟩, ⟨by (with_reducible repeat (first | apply Kd.Ya | apply Kd.Yn | apply Kd.Yd)); exact Kd.R_mono HO_5.out (fun _ hk => hk.2)⟩, ⟨by (with_reducible repeat (first | apply Kd.Ya | apply Kd.Yn | apply Kd.Yd)); exact Kd.R_mono HO177.out (fun _ hk => hk.2)⟩, ⟨yhb⟩⟩
   case round =>
    clear H'
    try clear p2
    try clear c4
    try clear c5
    try clear c6
    try clear p6
    try clear c7
    try clear c7b0
    try clear c8
    try clear p2
    obtain ⟨x5_2, x8_2, rfl, HA, HK2, HO_5, HO_7, HB⟩ := hrel
    cases gk with
    | zero => exact absurd HA.out (by simp [spec_NarrowHidden.l1])
    | succ k2 =>
     have H := HA.out
     clear HA
     simp only [spec_NarrowHidden.l1] at H
     by_cases c10 : x8_2 ≤ a1
     rotate_left
     ·rw [if_neg c10] at H
      have c10b0 : decide (x8_2 ≤ a1) = false := decide_eq_false c10
      clear c10
      have H' := yam H
      clear H
      go_wp2
      go_roundg k2
      case measure => have := HK1.out; have := HK2.out; omega
      case rel => exact ⟨(x5_2), (wrap64 (x6_1 + 1)), yeq, H', ⟨by have := HK1.out; have := HK2.out; omega⟩, ⟨by (with_reducible repeat (first | apply Kd.Ya | apply Kd.Yn | apply Kd.Yd)); exact Kd.R_mono HO_5.out (fun _ hk => trivial)⟩, ⟨yhb⟩⟩
     rw [if_pos c10] at H
     have c10b0 : decide (x8_2 ≤ a1) = true := decide_eq_true c10
     clear c10
     have H' := yam H
     clear H
     go_wp2
     go_loopg [9, 10, 11] k2 (fun kq v9 v10 v11 w' => ∃ (x9_3 : Int) (x10_3 : Int) (x11_3 : Int), v9 = .int .i64 x9_3 ∧ v10 = .int .i64 x10_3 ∧ v11 = .int .i64 x11_3 ∧ Aside0 (spec_NarrowHidden.l2 kq l0 a1 x5_2 x6_1 t175 x8_2 x9_3 x10_3 x11_3 = some r) ∧ Aside0 (kq ≤ k2) ∧ Aside0 (Kd.R (Kd.int .i64) 3 w' w.heap.size (fun k_ => some k_ ≠ (v176 : Value).ownBlock) v173 x5_2) ∧ Aside0 (Kd.R (Kd.int .i64) 3 w' w.heap.size (fun k_ => some k_ ≠ (v173 : Value).ownBlock) v176 t175) ∧ Aside0 (Below w.heap.size w w'))
     case atStart => exact ⟨(0), (0), (0), yeq, yeq, yeq, H', ⟨Nat.le_refl _⟩, ⟨yka HO_5.out⟩, ⟨yka HO_7.out⟩, ⟨yhb⟩⟩
     case round =>
      clear H'
      try clear c1
      try clear p2
      try clear c4
      try clear c5
      try clear c6
      try clear p6
      try clear c7
      try clear c7b0
      try clear c8
      try clear c10
      try clear c10b0
      try clear p2
      try clear p6
      obtain ⟨x9_3, x10_3, x11_3, rfl, rfl, rfl, HA, HK3, HO_5, HO_7, HB⟩ := hrel
      cases gk with
      | zero => exact absurd HA.out (by simp [spec_NarrowHidden.l2])
      | succ k3 =>
       have H := HA.out
       clear HA
       simp only [spec_NarrowHidden.l2] at H
       by_cases c11 : x11_3 < (t175.length : Int)
       ·rw [if_pos c11] at H
        have c11b0 : decide (x11_3 < (t175.length : Int)) = true := decide_eq_true c11
        clear c11
        replace H := yif H
        obtain ⟨c12b0, H⟩ := H
        replace H := yif H
        obtain ⟨c13b0, H⟩ := H
        replace H := yif H
        obtain ⟨c14b0, H⟩ := H
        replace H := yig H
        obtain ⟨c15, H⟩ := H
        have c15b0 := eq_true c15
        have c15b1 : decide (0 ≤ x8_2) = true := decide_eq_true c15
        clear c15
        obtain ⟨ji16, hji16⟩ : ∃ j_ : Int, (shr .i64 (rd l0 (rd t175 x11_3)) x8_2) = j_ := ⟨_, rfl⟩
        replace H : (if (Int.tmod (ji16) 2) = 1 then (spec_NarrowHidden.l2 k3 l0 a1 x5_2 x6_1 t175 x8_2 (wrap64 (x9_3 + 1)) (rd t175 x11_3) (wrap64 (x11_3 + 1))) else (spec_NarrowHidden.l2 k3 l0 a1 x5_2 x6_1 t175 x8_2 x9_3 x10_3 (wrap64 (x11_3 + 1)))) = some r := by first | (rw [hji16] at H; exact H) | (simp only [hji16] at H ⊢; exact H)
        have hji16_ : ((rd l0 (rd t175 x11_3)) / 2 ^ min x8_2.toNat 64) = ji16 := hji16
        have hji16z : x8_2 ≤ 64 → ((rd l0 (rd t175 x11_3)) / 2 ^ x8_2.toNat) = ji16 := shr_small hji16
        by_cases c17 : (Int.tmod (ji16) 2) = 1
        rotate_left
        ·rw [if_neg c17] at H
         have c17b0 : ((Int.tmod (ji16) 2) == 1) = false := beq_eq_false_iff_ne.mpr c17
         have c17b1 : ((Int.tmod (ji16) 2) != 1) = true := bne_iff_ne.mpr c17
         have H' := yam H
         clear H
         obtain ⟨Ao19, co19, eo19⟩ := Kd.R_slice HO_7.out
         subst eo19
         have p178 : 0 ≤ (x11_3 : Int) := ydt
         have q178 : x11_3 < (t175.length : Int) := ydt
         obtain ⟨ad178, e178, hx178_0⟩ := Kd.at_int (Kd.Yr HO_7.out).2.2 x11_3 p178 q178
         cases e178
         replace p178 := eq_true p178
         replace q178 := eq_true q178
         have p179 : 0 ≤ ((rd t175 x11_3) : Int) := ydt
         have q179 : (rd t175 x11_3) < (l0.length : Int) := ydt
         obtain ⟨ad179, e179, hx179_0⟩ := Kd.at_int HR0.out (rd t175 x11_3) p179 q179
         cases e179
         replace hx179_0 := ybx HB.out hx179_0
         replace p179 := eq_true p179
         replace q179 := eq_true q179
         go_wp2
         go_roundg k3
         case measure => have := HK1.out; have := HK2.out; have := HK3.out; omega
         case rel => exact ⟨(x9_3), (x10_3), (wrap64 (x11_3 + 1)), yeq, yeq, yeq, H', ⟨by have := HK1.out; have := HK2.out; have := HK3.out; omega⟩, ⟨yka HO_5.out⟩, ⟨yka HO_7.out⟩, ⟨yhb⟩⟩
        rw [if_pos c17] at H
        have c17b0 : ((Int.tmod (ji16) 2) == 1) = true := beq_iff_eq.mpr c17
        have c17b1 : ((Int.tmod (ji16) 2) != 1) = false := bne_eq_false_iff_eq.mpr c17
        clear c17
        have H' := yam H
        clear H
        obtain ⟨Ao18, co18, eo18⟩ := Kd.R_slice HO_7.out
        subst eo18
        have p178 : 0 ≤ (x11_3 : Int) := ydt
        have q178 : x11_3 < (t175.length : Int) := ydt
        obtain ⟨ad178, e178, hx178_0⟩ := Kd.at_int (Kd.Yr HO_7.out).2.2 x11_3 p178 q178
        cases e178
        replace p178 := eq_true p178
        replace q178 := eq_true q178
        have p179 : 0 ≤ ((rd t175 x11_3) : Int) := ydt
        have q179 : (rd t175 x11_3) < (l0.length : Int) := ydt
        obtain ⟨ad179, e179, hx179_0⟩ := Kd.at_int HR0.out (rd t175 x11_3) p179 q179
        cases e179
        replace hx179_0 := ybx HB.out hx179_0
        replace p179 := eq_true p179
        replace q179 := eq_true q179
        have p180 : 0 ≤ (x11_3 : Int) := ydt
        have q180 : x11_3 < (t175.length : Int) := ydt
        obtain ⟨ad180, e180, hx180_0⟩ := Kd.at_int (Kd.Yr HO_7.out).2.2 x11_3 p180 q180
        obtain rfl : ad178 = ad180 := (by injection e180)
        replace p180 := eq_true p180
        replace q180 := eq_true q180
        go_wp2
        go_roundg k3
        case measure => have := HK1.out; have := HK2.out; have := HK3.out; omega
        case rel => exact ⟨(wrap64 (x9_3 + 1)), (rd t175 x11_3), (wrap64 (x11_3 + 1)), yeq, yeq, yeq, H', ⟨by have := HK1.out; have := HK2.out; have := HK3.out; omega⟩, ⟨yka HO_5.out⟩, ⟨yka HO_7.out⟩, ⟨yhb⟩⟩
       rw [if_neg c11] at H
       have c11b0 : decide (x11_3 < (t175.length : Int)) = false := decide_eq_false c11
       clear c11
       by_cases c20 : x9_3 = 1
       rotate_left
       ·rw [if_neg c20] at H
        have c20b0 : (x9_3 == 1) = false := beq_eq_false_iff_ne.mpr c20
        have c20b1 : (x9_3 != 1) = true := bne_iff_ne.mpr c20
        have H' := yam H
        clear H
        obtain ⟨Ao30, co30, eo30⟩ := Kd.R_slice HO_7.out
        subst eo30
        go_wp2
        go_roundg k3
        case measure => have := HK1.out; have := HK2.out; have := HK3.out; omega
        case rel => exact ⟨(x5_2), (wrap64 (x8_2 + 1)), yeq, H', ⟨by have := HK1.out; have := HK2.out; have := HK3.out; omega⟩, ⟨yka HO_5.out⟩, ⟨yka HO_7.out⟩, ⟨yhb⟩⟩
       rw [if_pos c20] at H
       have c20b0 : (x9_3 == 1) = true := beq_iff_eq.mpr c20
       have c20b1 : (x9_3 != 1) = false := bne_eq_false_iff_eq.mpr c20
       clear c20
       replace H := yif H
       obtain ⟨c21b0, H⟩ := H
       replace H := yif H
       obtain ⟨c22b0, H⟩ := H
       replace H := yig H
       obtain ⟨c23, H⟩ := H
       have c23b0 := eq_true c23
       have c23b1 : decide (0 ≤ x8_2) = true := decide_eq_true c23
       clear c23
       obtain ⟨ji24, hji24⟩ : ∃ j_ : Int, (shl .i64 1 x8_2) = j_ := ⟨_, rfl⟩
       replace H : (spec_NarrowHidden.l1 k3 l0 a1 (x5_2.set (x10_3 : Int).toNat (Go.bits .and .i64 (rd x5_2 x10_3) (ji24))) x6_1 t175 (wrap64 (x8_2 + 1))) = some r := by first | (rw [hji24] at H; exact H) | (simp only [hji24] at H ⊢; exact H)
       have hji24_ : (IntKind.i64.wrap (1 * 2 ^ min x8_2.toNat 64)) = ji24 := hji24
       have hji24z : x8_2 ≤ 64 → (IntKind.i64.wrap (1 * 2 ^ x8_2.toNat)) = ji24 := shl_small hji24
       have hji24u : (IntKind.i64.wrap (2 ^ min x8_2.toNat 64)) = ji24 := by have h_ := hji24_; rw [Int.one_mul] at h_; exact h_
       have hji24v : x8_2 ≤ 64 → (IntKind.i64.wrap (2 ^ x8_2.toNat)) = ji24 := fun hle_ => by have h_ := hji24z hle_; rw [Int.one_mul] at h_; exact h_
       have hji24y : (wrap64 (1 * 2 ^ min x8_2.toNat 64)) = ji24 := (i64_w _).symm.trans hji24_
       have hji24x : x8_2 ≤ 64 → (wrap64 (1 * 2 ^ x8_2.toNat)) = ji24 := fun h_ => (i64_w _).symm.trans (hji24z h_)
       obtain ⟨y182, hy182⟩ : ∃ y_ : List Int, y_ = (x5_2.set (x10_3 : Int).toNat (Go.bits .and .i64 (rd x5_2 x10_3) (ji24))) := ⟨_, rfl⟩
       replace H : (spec_NarrowHidden.l1 k3 l0 a1 y182 x6_1 t175 (wrap64 (x8_2 + 1))) = some r := by first | (rw [hy182]; with_reducible exact H) | (have H2_ := (Option.bind_some _ _).symm.trans H; rw [hy182]; with_reducible exact H2_) | (have H2_ := (Option.bind_some _ _).symm.trans H; with_reducible exact H2_) | with_reducible exact H | (rw [hy182]; exact H) | exact H
       have Ny182 := yam hy182
       clear hy182
       have H' := yam H
       clear H
       obtain ⟨Ao26, co26, eo26⟩ := Kd.R_slice HO_7.out
       subst eo26
       try go_wp2
       replace HO_5 := yam (Kd.Yd HO_5.out)
       replace HO_7 := yam (Kd.Yd HO_7.out)
       replace HB := yam (yed HB.out)
       obtain ⟨Ao28, co28, eo28⟩ := Kd.R_slice HO_5.out
       (first | subst eo28 | (injection eo28 with f1_ f2_ f3_; have f4_ := f1_.symm; have f5_ := f3_.symm; clear f1_ f2_ f3_; subst f4_; subst f5_))
       have p181 : 0 ≤ (x10_3 : Int) := ydt
       have q181 : x10_3 < (x5_2.length : Int) := ydt
       obtain ⟨ad181, e181, hx181_0⟩ := Kd.at_int (Kd.Yr HO_5.out).2.2 x10_3 p181 q181
       cases e181
       replace p181 := eq_true p181
       replace q181 := eq_true q181
       have p25 : 0 ≤ (x10_3 : Int) := ydt
       have q25 : (x10_3 : Int) < ((x5_2.length : Int) : Int) := ydt
       obtain ⟨go25, co25, eo25, gb25, gl25, cl25, HG25⟩ := Kd.R_form HO_5.out (by omega)
       (first | cases eo25 | (injection eo25 with ea_ en_ ec_; (first | subst ea_ | (injection ea_ with ea_; subst ea_)); subst ec_; clear en_))
       have GB25 := yam gb25
       have GG25 := yam HG25
       clear gb25 gl25 HG25
       (first | simp only [add_plain] at hx181_0 | skip)
       obtain ⟨hx25_0, hf25_0⟩ := Kd.R_celln 0 HO_5.out (x10_3 : Int) p25 q25
       replace p25 := eq_true p25
       replace q25 := eq_true q25
       have HP29 := Kd.R_putn HO_5.out (x10_3 : Int) (Go.bits .and .i64 (rd x5_2 x10_3) (ji24))
       rw [← Ny182.out] at HP29
       have HQ29 := yam HP29
       clear HP29
       refine start_ (n := 11) (S := fun w' => w'.cell? ⟨go25, (x10_3).toNat, none⟩ = some (.int .i64 (rd x5_2 x10_3))) (ds := [10]) #[false, false, false, false, false, false, false, false, false, false, false] (by kernel_rfl) rfl rfl (hx181_0) (fun hHeld => ?_); refine with_tabW spec_NarrowHidden.tab20 spec_NarrowHidden.bits20 (fun HT_ HW_ => ?_)
       generalize wr.drew = w27 at HO_5 HO_7 HB GG25 HQ29 hf25_0 hx181_0 hx25_0 hHeld ⊢
       refine yvp 0 58 (yvb 11 1) HT_.out ?_
       refine yvp 1 59 (yvb 11 3) HT_.out ?_
       refine yvp 2 60 (yvb 11 7) HT_.out ?_
       refine yvp 3 61 (yvb 11 15) HT_.out ?_
       refine yvp 4 62 (yvb 11 31) HT_.out ?_
       refine yvp 6 64 (yvb 11 95) HT_.out ?_
       refine yvp 7 65 (yvb 11 223) HT_.out ?_
       refine yvt 5 63 (yvb 11 255) HT_.out HW_.out hHeld ?_
       refine yvp 8 66 (yvb 11 511) HT_.out ?_
       refine yvp 9 67 (yvb 11 1023) HT_.out ?_
       refine last_ (i := 10) (N := none) #[true, true, true, true, true, true, true, true, true, true, true] rfl rfl (one_of HT_.out (by kernel_rfl)) (by decide) (fun K hK => ?_)
       refine skip_ (w1 := ?_) (by rfl) rfl ?_ ?_
       rotate_left
       ·go_simp
        rfl
       refine hK.out _ _ ?_
       clear hK K
       refine done_ (done_of HT_.out (by kernel_rfl)) ?_
       try go_wp2
       go_roundg k3
       case measure => have := HK1.out; have := HK2.out; have := HK3.out; omega
       case rel => exact ⟨(y182), (wrap64 (x8_2 + 1)), yeq, H', ⟨by have := HK1.out; have := HK2.out; have := HK3.out; omega⟩, ⟨yka HQ29.out⟩, ⟨by (with_reducible repeat (first | apply Kd.Ya | apply Kd.Yn | apply Kd.Yd)); exact Kd.R_mono (Kd.R_far (p := ⟨go25, (x10_3 : Int).toNat, none⟩) (Kd.R_mono HO_7.out (fun k_ hk => (⟨hk, fun e_ => hk (by rw [e_]; rfl)⟩ : _ ∧ k_ ≠ go25))) (fun _ hk => hk.2) (.int .i64 (Go.bits .and .i64 (rd x5_2 x10_3) (ji24)))) (fun _ hk => hk.1)⟩, ⟨yhb⟩⟩
mutual
def spec_NarrowPairs.l0 : Nat → List Int → Int → List Int → Int → Option (List Int)
 | 0, _, _, _, _ => none
 | k + 1, x0, x1, x5, x6 => if x6 < (wrap64 (2 * x1)) then ((spec_LineCells.f k x1 x6).bind fun t190 => (spec_NarrowPairs.l1 k x0 x1 x5 x6 t190 0)) else (some x5)
def spec_NarrowPairs.l1 : Nat → List Int → Int → List Int → Int → List Int → Int → Option (List Int)
 | 0, _, _, _, _, _, _ => none
 | k + 1, x0, x1, x5, x6, x7, x8 => if x8 < x1 then (spec_NarrowPairs.l2 k x0 x1 x5 x6 x7 x8 0) else (spec_NarrowPairs.l0 k x0 x1 x5 (wrap64 (x6 + 1)))
def spec_NarrowPairs.l2 : Nat → List Int → Int → List Int → Int → List Int → Int → Int → Option (List Int)
 | 0, _, _, _, _, _, _, _ => none
 | k + 1, x0, x1, x5, x6, x7, x8, x9 => if x9 < x8 then (if 0 ≤ x8 then (if x8 < (x7.length : Int) then (if 0 ≤ (rd x7 x8) then (if (rd x7 x8) < (x0.length : Int) then (if 0 ≤ x9 then (if x9 < (x7.length : Int) then (if 0 ≤ (rd x7 x9) then (if (rd x7 x9) < (x0.length : Int) then (if (rd x0 (rd x7 x8)) = (rd x0 (rd x7 x9)) then ((spec_MaskValues.f k (rd x0 (rd x7 x8))).bind fun t197 => (spec_NarrowPairs.j3 k x0 x1 x5 x6 x7 x8 x9 (rd x0 (rd x7 x8)) ((t197.length : Int) != 2))) else (spec_NarrowPairs.j3 k x0 x1 x5 x6 x7 x8 x9 (rd x0 (rd x7 x8)) true)) else (none)) else (none)) else (none)) else (none)) else (none)) else (none)) else (none)) else (none)) else (spec_NarrowPairs.l1 k x0 x1 x5 x6 x7 (wrap64 (x8 + 1)))
def spec_NarrowPairs.j3 : Nat → List Int → Int → List Int → Int → List Int → Int → Int → Int → Bool → Option (List Int)
 | 0, _, _, _, _, _, _, _, _, _ => none
 | k + 1, x0, x1, x5, x6, x7, x8, x9, x10, x59 => if x59 = true then (spec_NarrowPairs.l2 k x0 x1 x5 x6 x7 x8 (wrap64 (x9 + 1))) else (spec_NarrowPairs.l3 k x0 x1 x5 x6 x7 x8 x9 x10 0)
def spec_NarrowPairs.l3 : Nat → List Int → Int → List Int → Int → List Int → Int → Int → Int → Int → Option (List Int)
 | 0, _, _, _, _, _, _, _, _, _ => none
 | k + 1, x0, x1, x5, x6, x7, x8, x9, x10, x11 => if x11 < x1 then (if x11 = x8 then (spec_NarrowPairs.l3 k x0 x1 x5 x6 x7 x8 x9 x10 (wrap64 (x11 + 1))) else (if x11 = x9 then (spec_NarrowPairs.l3 k x0 x1 x5 x6 x7 x8 x9 x10 (wrap64 (x11 + 1))) else (if 0 ≤ x11 then (if x11 < (x7.length : Int) then (if 0 ≤ (rd x7 x11) then (if (rd x7 x11) < (x5.length : Int) then (spec_NarrowPairs.l3 k x0 x1 (x5.set ((rd x7 x11) : Int).toNat (Go.bits .andNot .i64 (rd x5 (rd x7 x11)) x10)) x6 x7 x8 x9 x10 (wrap64 (x11 + 1))) else (none)) else (none)) else (none)) else (none)))) else (spec_NarrowPairs.l2 k x0 x1 x5 x6 x7 x8 (wrap64 (x9 + 1)))
end
def spec_NarrowPairs.f (k : Nat) (l0 : List Int) (a1 : Int) : Option (List Int) := (spec_MasksValid.f k l0 a1).bind fun t183 => (if t183 = true then ((spec_l6Copy.f l0).bind fun t187 => (spec_NarrowPairs.l0 k l0 a1 t187 0)) else (some (([] : List Int))))
def spec_NarrowPairs.T20 : Bool × List (List Nat × List Nat) := (true, [([], []), ([], []), ([], []), ([1, 2], [1, 2]), ([3], [3]), ([], []), ([], []), ([], []), ([6, 7], [6, 7]), ([8], [8]), ([5, 9], [5, 9]), ([10], [10]), ([], []), ([11, 12], [11, 12]), ([0, 4, 0, 1, 2, 3, 4, 5, 6, 7, 8, 9, 10, 11, 12, 13], [0, 4]), ([14, 13, 0, 1, 2, 3, 4, 5, 6, 7, 8, 9, 10, 11, 12, 13], [13, 14])])
def spec_NarrowPairs.B20 : List Nat := [0, 0, 0, 6, 14, 0, 0, 0, 192, 448, 992, 2016, 0, 8160, 16383, 32767]
theorem spec_NarrowPairs.tab20 : rtab .any (opsOf Try.f56 20) = spec_NarrowPairs.T20 := by kernel_rfl
theorem spec_NarrowPairs.bits20 : waitsOk spec_NarrowPairs.T20.2 spec_NarrowPairs.B20 = true := by kernel_rfl
set_option maxHeartbeats 8000000 in
set_option maxRecDepth 100000 in
theorem spec_NarrowPairs.calls (k : Nat) (A0 : Option Addr) (c0 : Nat) (l0 : List Int) (a1 : Int) (r : List Int) (w : World) (hr0 : Kd.C (Kd.int .i64) w A0 l0.length l0) (hc0 : l0.length ≤ c0) (h : spec_NarrowPairs.f k l0 a1 = some r) :
  Calls Try.prog 56 #[.slice A0 l0.length c0, .int .i64 a1] w fun e w' => ∃ v0_ : Value, e = .returned (v0_) ∧ Kd.R (Kd.int .i64) 3 w' w.heap.size (fun _ => True) v0_ r ∧ Below w.heap.size w w' := by
 have HR0 := yam hr0
 have HC0 := yam hc0
 clear hr0 hc0
 have HB := yam (Below.refl w.heap.size w)
 have H : ((spec_MasksValid.f k l0 a1).bind fun t183 => (if t183 = true then ((spec_l6Copy.f l0).bind fun t187 => (spec_NarrowPairs.l0 k l0 a1 t187 0)) else (some (([] : List Int))))) = some r := h
 clear h
 replace H := Option.bind_eq_some_iff.mp H
 obtain ⟨t183, A30, H⟩ := H
 try dsimp only at H
 have A3 := yam A30
 clear A30
 by_cases c4 : t183 = true
 rotate_left
 ·replace c4 := Bool.eq_false_iff.mpr c4
  subst c4
  have H1 : (some (([] : List Int))) = some r := by rw [if_neg (show ¬ (false = true) by decide)] at H; exact H
  clear H
  have H := H1
  clear H1
  obtain ⟨y184, hy184⟩ : ∃ y_ : List Int, y_ = (([] : List Int)) := ⟨_, rfl⟩
  replace H : (some y184) = some r := by first | (rw [hy184]; with_reducible exact H) | (have H2_ := (Option.bind_some _ _).symm.trans H; rw [hy184]; with_reducible exact H2_) | (have H2_ := (Option.bind_some _ _).symm.trans H; with_reducible exact H2_) | with_reducible exact H | (rw [hy184]; exact H) | exact H
  have Ny184 := yam hy184
  clear hy184
  obtain rfl := Option.some.inj H
  go_enter Try.func56, Try.ntmps56
  go_wp2_with (first | (refine goesL_ (some 14) rfl rfl Try.func53 (by kernel_rfl) rfl #[.slice A0 l0.length c0, .int .i64 a1] rfl ymd ?_; (with_reducible refine (spec_MasksValid.calls k _ _ l0 a1 false _ ?side1 ?side2 A3.out).mono ?_); (case side1 => exact Kd.Cz (HR0.out)); (case side2 => exact HC0.out); rintro e w' ⟨rfl, ⟨nd, rfl⟩⟩; refine ⟨_, rfl, ?_⟩) | ((with_reducible refine gate_dst (N := 16) rfl ?_); (try (refine gate_guard (by rfl) ?_; dsimp only)); refine Kd.R_lit (Kd.int .i64) _ 3 ?hg (N := 16) ?hd (xs := ([] : List Int)) (inner := []) (ok := fun _ => True) (okp := fun _ => True) ?hr ?hp (fun _ hk => hk) trivial (Below.refl _ _) (Nat.le_refl _) (by simp) ?_; (case hd => rfl); (case hg => rfl); (case hr => first | (go_simp; done) | (go_simp; rfl)); (case hp => exact (Reps.none _ _)); intro v185 w38 ho39 hb hg_ hnew_; clear hg_ hnew_; (first | rw [← Ny184.out] at ho39 | (simp only [Int.reduceToNat] at ho39; rw [← Ny184.out] at ho39)); have HO186 := yam (Kd.R_lower ho39 (below_size (yez HB.out))); replace HB := yam (below_step (yez HB.out) hb); clear hb ho39))
  go_ret
  exact ⟨_, yer, yka HO186.out, yhb⟩

 subst c4
 have H1 : ((spec_l6Copy.f l0).bind fun t187 => (spec_NarrowPairs.l0 k l0 a1 t187 0)) = some r := by rw [if_pos rfl] at H; exact H
 clear H
 have H := H1
 clear H1
 replace H := Option.bind_eq_some_iff.mp H
 obtain ⟨t187, A50, H⟩ := H
 try dsimp only at H
 have A5 := yam A50
 clear A50
 have H' := yam H
 clear H
 go_enter Try.func56, Try.ntmps56
 go_wp2_with (first | (refine goesL_ (some 14) rfl rfl Try.func53 (by kernel_rfl) rfl #[.slice A0 l0.length c0, .int .i64 a1] rfl ymd ?_; (with_reducible refine (spec_MasksValid.calls k _ _ l0 a1 true _ ?side1 ?side2 A3.out).mono ?_); (case side1 => exact Kd.Cz (HR0.out)); (case side2 => exact HC0.out); rintro e w' ⟨rfl, ⟨nd, rfl⟩⟩; refine ⟨_, rfl, ?_⟩) | (refine goesL_ (some 18) rfl rfl Try.func62 (by kernel_rfl) rfl #[.slice A0 l0.length c0] rfl ymd ?_; (with_reducible refine (spec_l6Copy.calls _ _ l0 t187 _ ?side1 ?side2 A5.out).mono ?_); (case side1 => exact Kd.Cz (HR0.out)); (case side2 => exact HC0.out); rintro e w6 ⟨v188, rfl, ho0, hb⟩; refine ⟨_, rfl, ?_⟩; have HO189 := yam (Kd.R_lower ho0 (below_size (yez HB.out))); replace HB := yam (below_step (yez HB.out) hb); (try clear hb); (try clear hb2); (try clear hk); (try clear hi); (try clear ho0)))
 go_loopg [6] k (fun kq v6 w' => ∃ (x5_1 : List Int) (x6_1 : Int), v6 = .int .i64 x6_1 ∧ Aside0 (spec_NarrowPairs.l0 kq l0 a1 x5_1 x6_1 = some r) ∧ Aside0 (kq ≤ k) ∧ Aside0 (Kd.R (Kd.int .i64) 3 w' w.heap.size (fun _ => True) v188 x5_1) ∧ Aside0 (Below w.heap.size w w'))
 case atStart => exact ⟨(t187), (0), yeq, H', ⟨Nat.le_refl _⟩, ⟨yka HO189.out⟩, ⟨yhb⟩⟩
 case round =>
  clear H'
  try clear p2
  try clear c4
  try clear c5
  try clear c6
  obtain ⟨x5_1, x6_1, rfl, HA, HK1, HO_5, HB⟩ := hrel
  cases gk with
  | zero => exact absurd HA.out (by simp [spec_NarrowPairs.l0])
  | succ k1 =>
   have H := HA.out
   clear HA
   simp only [spec_NarrowPairs.l0] at H
   by_cases c7 : x6_1 < (wrap64 (2 * a1))
   rotate_left
   ·rw [if_neg c7] at H
    have c7b0 : decide (x6_1 < (wrap64 (2 * a1))) = false := decide_eq_false c7
    clear c7
    obtain rfl := Option.some.inj H
    go_wp2
    go_ret
    exact ⟨_, yer, yka HO_5.out, yhb⟩
   rw [if_pos c7] at H
   have c7b0 : decide (x6_1 < (wrap64 (2 * a1))) = true := decide_eq_true c7
   clear c7
   replace H := Option.bind_eq_some_iff.mp H
   obtain ⟨t190, A80, H⟩ := H
   try dsimp only at H
   have A8 := yam A80
   clear A80
   have H' := yam H
   clear H
   go_wp2_with (first | (refine goesL_ (some 27) rfl rfl Try.func80 (by kernel_rfl) rfl #[.int .i64 a1, .int .i64 x6_1] rfl ymd ?_; (with_reducible refine (spec_LineCells.calls k1 a1 x6_1 t190 _ A8.out).mono ?_); rintro e w9 ⟨v191, rfl, ho0, hb⟩; refine ⟨_, rfl, ?_⟩; have HO192 := yam (Kd.R_lower (Kd.Yw ho0 (Kd.R_lt (Kd.Yz HO_5.out))) (below_size (yez HB.out))); replace HO_5 := yam (Kd.Ye (Kd.Yz HO_5.out) (Kd.Yb ho0) hb); replace HB := yam (below_step (yez HB.out) hb); (try clear hb); (try clear hb2); (try clear hk); (try clear hi); (try clear ho0)))
   go_loopg [8] k1 (fun kq v8 w' => ∃ (x5_2 : List Int) (x8_2 : Int), v8 = .int .i64 x8_2 ∧ Aside0 (spec_NarrowPairs.l1 kq l0 a1 x5_2 x6_1 t190 x8_2 = some r) ∧ Aside0 (kq ≤ k1) ∧ Aside0 (Kd.R (Kd.int .i64) 3 w' w.heap.size (fun k_ => some k_ ≠ (v191 : Value).ownBlock) v188 x5_2) ∧ Aside0 (Kd.R (Kd.int .i64) 3 w' w.heap.size (fun k_ => some k_ ≠ (v188 : Value).ownBlock) v191 t190) ∧ Aside0 (Below w.heap.size w w'))
   case atStart => exact ⟨(x5_1), (0), yeq, H', ⟨Nat.le_refl _⟩, ⟨by (with_reducible repeat (first | apply Kd.Ya | apply Kd.Yn | apply Kd.Yd)); exact Kd.R_mono HO_5.out (fun _ hk => hk.2)⟩, ⟨by (with_reducible repeat (first | apply Kd.Ya | apply Kd.Yn | apply Kd.Yd)); exact Kd.R_mono HO192.out (fun _ hk => hk.2)⟩, ⟨yhb⟩⟩
   case round =>
    clear H'
    try clear p2
    try clear c4
    try clear c5
    try clear c6
    try clear p6
    try clear c7
    try clear c7b0
    try clear c8
    try clear p2
    obtain ⟨x5_2, x8_2, rfl, HA, HK2, HO_5, HO_7, HB⟩ := hrel
    cases gk with
    | zero => exact absurd HA.out (by simp [spec_NarrowPairs.l1])
    | succ k2 =>
     have H := HA.out
     clear HA
     simp only [spec_NarrowPairs.l1] at H
     by_cases c10 : x8_2 < a1
     rotate_left
     ·rw [if_neg c10] at H
      have c10b0 : decide (x8_2 < a1) = false := decide_eq_false c10
      clear c10
      have H' := yam H
      clear H
      go_wp2
      go_roundg k2
      case measure => have := HK1.out; have := HK2.out; omega
      case rel => exact ⟨(x5_2), (wrap64 (x6_1 + 1)), yeq, H', ⟨by have := HK1.out; have := HK2.out; omega⟩, ⟨by (with_reducible repeat (first | apply Kd.Ya | apply Kd.Yn | apply Kd.Yd)); exact Kd.R_mono HO_5.out (fun _ hk => trivial)⟩, ⟨yhb⟩⟩
     rw [if_pos c10] at H
     have c10b0 : decide (x8_2 < a1) = true := decide_eq_true c10
     clear c10
     have H' := yam H
     clear H
     go_wp2
     go_loopg [9] k2 (fun kq v9 w' => ∃ (x5_3 : List Int) (x9_3 : Int), v9 = .int .i64 x9_3 ∧ Aside0 (spec_NarrowPairs.l2 kq l0 a1 x5_3 x6_1 t190 x8_2 x9_3 = some r) ∧ Aside0 (kq ≤ k2) ∧ Aside0 (Kd.R (Kd.int .i64) 3 w' w.heap.size (fun k_ => some k_ ≠ (v191 : Value).ownBlock) v188 x5_3) ∧ Aside0 (Kd.R (Kd.int .i64) 3 w' w.heap.size (fun k_ => some k_ ≠ (v188 : Value).ownBlock) v191 t190) ∧ Aside0 (Below w.heap.size w w'))
     case atStart => exact ⟨(x5_2), (0), yeq, H', ⟨Nat.le_refl _⟩, ⟨yka HO_5.out⟩, ⟨yka HO_7.out⟩, ⟨yhb⟩⟩
     case round =>
      clear H'
      try clear c1
      try clear p2
      try clear c4
      try clear c5
      try clear c6
      try clear p6
      try clear c7
      try clear c7b0
      try clear c8
      try clear c10
      try clear c10b0
      try clear p2
      try clear p6
      obtain ⟨x5_3, x9_3, rfl, HA, HK3, HO_5, HO_7, HB⟩ := hrel
      cases gk with
      | zero => exact absurd HA.out (by simp [spec_NarrowPairs.l2])
      | succ k3 =>
       have H := HA.out
       clear HA
       simp only [spec_NarrowPairs.l2] at H
       by_cases c11 : x9_3 < x8_2
       rotate_left
       ·rw [if_neg c11] at H
        have c11b0 : decide (x9_3 < x8_2) = false := decide_eq_false c11
        clear c11
        have H' := yam H
        clear H
        go_wp2
        go_roundg k3
        case measure => have := HK1.out; have := HK2.out; have := HK3.out; omega
        case rel => exact ⟨(x5_3), (wrap64 (x8_2 + 1)), yeq, H', ⟨by have := HK1.out; have := HK2.out; have := HK3.out; omega⟩, ⟨yka HO_5.out⟩, ⟨yka HO_7.out⟩, ⟨yhb⟩⟩
       rw [if_pos c11] at H
       have c11b0 : decide (x9_3 < x8_2) = true := decide_eq_true c11
       clear c11
       replace H := yif H
       obtain ⟨c12b0, H⟩ := H
       replace H := yif H
       obtain ⟨c13b0, H⟩ := H
       replace H := yif H
       obtain ⟨c14b0, H⟩ := H
       replace H := yif H
       obtain ⟨c15b0, H⟩ := H
       have HC16 := yam H
       clear H
       obtain ⟨Ao17, co17, eo17⟩ := Kd.R_slice HO_7.out
       subst eo17
       have p193 : 0 ≤ (x8_2 : Int) := ydt
       have q193 : x8_2 < (t190.length : Int) := ydt
       obtain ⟨ad193, e193, hx193_0⟩ := Kd.at_int (Kd.Yr HO_7.out).2.2 x8_2 p193 q193
       cases e193
       replace p193 := eq_true p193
       replace q193 := eq_true q193
       have p194 : 0 ≤ ((rd t190 x8_2) : Int) := ydt
       have q194 : (rd t190 x8_2) < (l0.length : Int) := ydt
       obtain ⟨ad194, e194, hx194_0⟩ := Kd.at_int HR0.out (rd t190 x8_2) p194 q194
       cases e194
       replace hx194_0 := ybx HB.out hx194_0
       replace p194 := eq_true p194
       replace q194 := eq_true q194
       go_upto_region 15 with (fail)
       go_cut [59] (fun v59 wc => ∃ (kq : Nat) (x59_15 : Bool), v59 = .bool x59_15 ∧ Aside0 (spec_NarrowPairs.j3 kq l0 a1 x5_3 x6_1 t190 x8_2 x9_3 (rd l0 (rd t190 x8_2)) x59_15 = some r) ∧ Aside0 (kq ≤ k3) ∧ Aside0 (Kd.R (Kd.int .i64) 3 wc w.heap.size (fun k_ => some k_ ≠ ((.slice (some ad193) t190.length co17) : Value).ownBlock) v188 x5_3) ∧ Aside0 (Kd.R (Kd.int .i64) 3 wc w.heap.size (fun k_ => some k_ ≠ (v188 : Value).ownBlock) (.slice (some ad193) t190.length co17) t190) ∧ Aside0 (Below w.heap.size w wc))
       case first =>
        have H := HC16.out
        clear HC16
        replace H := yif H
        obtain ⟨c18b0, H⟩ := H
        (first | rw [c18b0] | (simp only [i64_w, i32_w]; rw [c18b0]) | skip)
        replace H := yif H
        obtain ⟨c19b0, H⟩ := H
        replace H := yif H
        obtain ⟨c20b0, H⟩ := H
        replace H := yif H
        obtain ⟨c21b0, H⟩ := H
        by_cases c22 : (rd l0 (rd t190 x8_2)) = (rd l0 (rd t190 x9_3))
        rotate_left
        ·rw [if_neg c22] at H
         have c22b0 : ((rd l0 (rd t190 x8_2)) == (rd l0 (rd t190 x9_3))) = false := beq_eq_false_iff_ne.mpr c22
         have c22b1 : ((rd l0 (rd t190 x8_2)) != (rd l0 (rd t190 x9_3))) = true := bne_iff_ne.mpr c22
         have H' := yam H
         clear H
         have p195 : 0 ≤ (x9_3 : Int) := ydt
         have q195 : x9_3 < (t190.length : Int) := ydt
         obtain ⟨ad195, e195, hx195_0⟩ := Kd.at_int (Kd.Yr HO_7.out).2.2 x9_3 p195 q195
         obtain rfl : ad193 = ad195 := (by injection e195)
         replace p195 := eq_true p195
         replace q195 := eq_true q195
         have p196 : 0 ≤ ((rd t190 x9_3) : Int) := ydt
         have q196 : (rd t190 x9_3) < (l0.length : Int) := ydt
         obtain ⟨ad196, e196, hx196_0⟩ := Kd.at_int HR0.out (rd t190 x9_3) p196 q196
         obtain rfl : ad194 = ad196 := (by injection e196)
         replace hx196_0 := ybx HB.out hx196_0
         replace p196 := eq_true p196
         replace q196 := eq_true q196
         go_wp2
         go_meet
         case rel => exact ⟨_, (true), yeq, H', ⟨by have := HK1.out; have := HK2.out; have := HK3.out; first | omega | exact Nat.le_refl _⟩, ⟨yka HO_5.out⟩, ⟨yka HO_7.out⟩, ⟨yhb⟩⟩
        rw [if_pos c22] at H
        have c22b0 : ((rd l0 (rd t190 x8_2)) == (rd l0 (rd t190 x9_3))) = true := beq_iff_eq.mpr c22
        have c22b1 : ((rd l0 (rd t190 x8_2)) != (rd l0 (rd t190 x9_3))) = false := bne_eq_false_iff_eq.mpr c22
        clear c22
        replace H := Option.bind_eq_some_iff.mp H
        obtain ⟨t197, A230, H⟩ := H
        try dsimp only at H
        have A23 := yam A230
        clear A230
        have H' := yam H
        clear H
        have p195 : 0 ≤ (x9_3 : Int) := ydt
        have q195 : x9_3 < (t190.length : Int) := ydt
        obtain ⟨ad195, e195, hx195_0⟩ := Kd.at_int (Kd.Yr HO_7.out).2.2 x9_3 p195 q195
        obtain rfl : ad193 = ad195 := (by injection e195)
        replace p195 := eq_true p195
        replace q195 := eq_true q195
        have p196 : 0 ≤ ((rd t190 x9_3) : Int) := ydt
        have q196 : (rd t190 x9_3) < (l0.length : Int) := ydt
        obtain ⟨ad196, e196, hx196_0⟩ := Kd.at_int HR0.out (rd t190 x9_3) p196 q196
        obtain rfl : ad194 = ad196 := (by injection e196)
        replace hx196_0 := ybx HB.out hx196_0
        replace p196 := eq_true p196
        replace q196 := eq_true q196
        go_wp2_with (first | (go_at_call 72; (with_reducible refine (spec_MaskValues.calls k3 (rd l0 (rd t190 x8_2)) t197 _ A23.out).mono ?_); rintro e w24 ⟨v198, rfl, ho0, hb⟩; have HO199 := yam (Kd.R_lower (Kd.Yw (Kd.Yw ho0 (Kd.R_lt (Kd.Yz HO_5.out))) (Kd.R_lt (Kd.Yz HO_7.out))) (below_size (yez HB.out))); replace HO_5 := yam (Kd.Ye (Kd.Yz HO_5.out) (Kd.Yb ho0) hb); replace HO_7 := yam (Kd.Ye (Kd.Yz HO_7.out) (Kd.Yb ho0) hb); replace HB := yam (below_step (yez HB.out) hb); (try clear hb); (try clear hb2); (try clear hk); (try clear hi); (try clear ho0); obtain ⟨Ao25, co25, eo25⟩ := Kd.R_slice HO199.out; subst eo25))
        go_meet
        case rel => exact ⟨_, (((t197.length : Int) != 2)), yeq, H', ⟨by have := HK1.out; have := HK2.out; have := HK3.out; first | omega | exact Nat.le_refl _⟩, ⟨by (with_reducible repeat (first | apply Kd.Ya | apply Kd.Yn | apply Kd.Yd)); exact Kd.R_mono HO_5.out (fun _ hk => hk.1)⟩, ⟨by (with_reducible repeat (first | apply Kd.Ya | apply Kd.Yn | apply Kd.Yd)); exact Kd.R_mono HO_7.out (fun _ hk => hk.1)⟩, ⟨yhb⟩⟩
       case rest =>
        clear HC16
        try clear c1
        try clear p1
        try clear q1
        try clear hx1
        try clear c2
        try clear p2
        try clear c4
        try clear c5
        try clear c6
        try clear p6
        try clear c7
        try clear c7b0
        try clear c8
        try clear c10
        try clear c10b0
        try clear c11
        try clear c11b0
        try clear c12
        try clear c12b0
        try clear c13
        try clear c13b0
        try clear c14
        try clear c14b0
        try clear c15
        try clear c15b0
        try clear c18
        try clear c18b0
        try clear c19
        try clear c19b0
        try clear p19
        try clear q19
        try clear hx19
        try clear c20
        try clear c20b0
        try clear c21
        try clear c21b0
        try clear c22
        try clear c22b0
        try clear c22b1
        try clear hx193_0
        try clear hx194_0
        try clear hx195_0
        try clear hx196_0
        try clear p193
        try clear p194
        try clear p195
        try clear p196
        try clear p2
        try clear p6
        try clear q193
        try clear q194
        try clear q195
        try clear q196
        obtain ⟨kq, x59_15, rfl, HA, HJ15, HO_5, HO_7, HB⟩ := hcut
        cases kq with
        | zero => exact absurd HA.out (by simp [spec_NarrowPairs.j3])
        | succ kj15 =>
         have H := HA.out
         clear HA
         simp only [spec_NarrowPairs.j3] at H
         by_cases c26 : x59_15 = true
         ·subst c26
          have H1 : (spec_NarrowPairs.l2 kj15 l0 a1 x5_3 x6_1 t190 x8_2 (wrap64 (x9_3 + 1))) = some r := by rw [if_pos rfl] at H; exact H
          clear H
          have H := H1
          clear H1
          have H' := yam H
          clear H
          go_wp2
          go_roundg kj15
          case measure => have := HK1.out; have := HK2.out; have := HK3.out; have := HJ15.out; omega
          case rel => exact ⟨(x5_3), (wrap64 (x9_3 + 1)), yeq, H', ⟨by have := HK1.out; have := HK2.out; have := HK3.out; have := HJ15.out; omega⟩, ⟨yka HO_5.out⟩, ⟨yka HO_7.out⟩, ⟨yhb⟩⟩
         replace c26 := Bool.eq_false_iff.mpr c26
         subst c26
         have H1 : (spec_NarrowPairs.l3 kj15 l0 a1 x5_3 x6_1 t190 x8_2 x9_3 (rd l0 (rd t190 x8_2)) 0) = some r := by rw [if_neg (show ¬ (false = true) by decide)] at H; exact H
         clear H
         have H := H1
         clear H1
         have H' := yam H
         clear H
         go_wp2
         go_loopg [11] kj15 (fun kq v11 w' => ∃ (x5_5 : List Int) (x11_5 : Int), v11 = .int .i64 x11_5 ∧ Aside0 (spec_NarrowPairs.l3 kq l0 a1 x5_5 x6_1 t190 x8_2 x9_3 (rd l0 (rd t190 x8_2)) x11_5 = some r) ∧ Aside0 (kq ≤ kj15) ∧ Aside0 (Kd.R (Kd.int .i64) 3 w' w.heap.size (fun k_ => some k_ ≠ ((.slice (some ad193) t190.length co17) : Value).ownBlock) v188 x5_5) ∧ Aside0 (Kd.R (Kd.int .i64) 3 w' w.heap.size (fun k_ => some k_ ≠ (v188 : Value).ownBlock) (.slice (some ad193) t190.length co17) t190) ∧ Aside0 (Below w.heap.size w w'))
         case atStart => exact ⟨(x5_3), (0), yeq, H', ⟨Nat.le_refl _⟩, ⟨yka HO_5.out⟩, ⟨yka HO_7.out⟩, ⟨yhb⟩⟩
         case round =>
          clear H'
          try clear c1
          try clear p1
          try clear q1
          try clear hx1
          try clear c2
          try clear p2
          try clear c4
          try clear c5
          try clear c6
          try clear p6
          try clear c7
          try clear c7b0
          try clear c8
          try clear c10
          try clear c10b0
          try clear c11
          try clear c11b0
          try clear c12
          try clear c12b0
          try clear c13
          try clear c13b0
          try clear c14
          try clear c14b0
          try clear c15
          try clear c15b0
          try clear c18
          try clear c18b0
          try clear c19
          try clear c19b0
          try clear p19
          try clear q19
          try clear hx19
          try clear c20
          try clear c20b0
          try clear c21
          try clear c21b0
          try clear c22
          try clear c22b0
          try clear c22b1
          try clear c26
          try clear hx193_0
          try clear hx194_0
          try clear hx195_0
          try clear hx196_0
          try clear p1
          try clear p19
          try clear p193
          try clear p194
          try clear p195
          try clear p196
          try clear p2
          try clear p6
          try clear q1
          try clear q19
          try clear q193
          try clear q194
          try clear q195
          try clear q196
          obtain ⟨x5_5, x11_5, rfl, HA, HK5, HO_5, HO_7, HB⟩ := hrel
          cases gk with
          | zero => exact absurd HA.out (by simp [spec_NarrowPairs.l3])
          | succ k5 =>
           have H := HA.out
           clear HA
           simp only [spec_NarrowPairs.l3] at H
           by_cases c27 : x11_5 < a1
           rotate_left
           ·rw [if_neg c27] at H
            have c27b0 : decide (x11_5 < a1) = false := decide_eq_false c27
            clear c27
            have H' := yam H
            clear H
            go_wp2
            go_roundg k5
            case measure => have := HK1.out; have := HK2.out; have := HK3.out; have := HJ15.out; have := HK5.out; omega
            case rel => exact ⟨(x5_5), (wrap64 (x9_3 + 1)), yeq, H', ⟨by have := HK1.out; have := HK2.out; have := HK3.out; have := HJ15.out; have := HK5.out; omega⟩, ⟨yka HO_5.out⟩, ⟨yka HO_7.out⟩, ⟨yhb⟩⟩
           rw [if_pos c27] at H
           have c27b0 : decide (x11_5 < a1) = true := decide_eq_true c27
           clear c27
           by_cases c28 : x11_5 = x8_2
           ·rw [if_pos c28] at H
            have c28b0 : (x11_5 == x8_2) = true := beq_iff_eq.mpr c28
            have c28b1 : (x11_5 != x8_2) = false := bne_eq_false_iff_eq.mpr c28
            clear c28
            have H' := yam H
            clear H
            go_wp2
            go_roundg k5
            case measure => have := HK1.out; have := HK2.out; have := HK3.out; have := HJ15.out; have := HK5.out; omega
            case rel => exact ⟨(x5_5), (wrap64 (x11_5 + 1)), yeq, H', ⟨by have := HK1.out; have := HK2.out; have := HK3.out; have := HJ15.out; have := HK5.out; omega⟩, ⟨yka HO_5.out⟩, ⟨yka HO_7.out⟩, ⟨yhb⟩⟩
           rw [if_neg c28] at H
           have c28b0 : (x11_5 == x8_2) = false := beq_eq_false_iff_ne.mpr c28
           have c28b1 : (x11_5 != x8_2) = true := bne_iff_ne.mpr c28
           by_cases c29 : x11_5 = x9_3
           ·rw [if_pos c29] at H
            have c29b0 : (x11_5 == x9_3) = true := beq_iff_eq.mpr c29
            have c29b1 : (x11_5 != x9_3) = false := bne_eq_false_iff_eq.mpr c29
            clear c29
            have H' := yam H
            clear H
            go_wp2
            go_roundg k5
            case measure => have := HK1.out; have := HK2.out; have := HK3.out; have := HJ15.out; have := HK5.out; omega
            case rel => exact ⟨(x5_5), (wrap64 (x11_5 + 1)), yeq, H', ⟨by have := HK1.out; have := HK2.out; have := HK3.out; have := HJ15.out; have := HK5.out; omega⟩, ⟨yka HO_5.out⟩, ⟨yka HO_7.out⟩, ⟨yhb⟩⟩
           rw [if_neg c29] at H
           have c29b0 : (x11_5 == x9_3) = false := beq_eq_false_iff_ne.mpr c29
           have c29b1 : (x11_5 != x9_3) = true := bne_iff_ne.mpr c29
           replace H := yif H
           obtain ⟨c30b0, H⟩ := H
           replace H := yif H
           obtain ⟨c31b0, H⟩ := H
           replace H := yif H
           obtain ⟨c32b0, H⟩ := H
           replace H := yif H
           obtain ⟨c33b0, H⟩ := H
           obtain ⟨y203, hy203⟩ : ∃ y_ : List Int, y_ = (x5_5.set ((rd t190 x11_5) : Int).toNat (Go.bits .andNot .i64 (rd x5_5 (rd t190 x11_5)) (rd l0 (rd t190 x8_2)))) := ⟨_, rfl⟩
           replace H : (spec_NarrowPairs.l3 k5 l0 a1 y203 x6_1 t190 x8_2 x9_3 (rd l0 (rd t190 x8_2)) (wrap64 (x11_5 + 1))) = some r := by first | (rw [hy203]; with_reducible exact H) | (have H2_ := (Option.bind_some _ _).symm.trans H; rw [hy203]; with_reducible exact H2_) | (have H2_ := (Option.bind_some _ _).symm.trans H; with_reducible exact H2_) | with_reducible exact H | (rw [hy203]; exact H) | exact H
           have Ny203 := yam hy203
           clear hy203
           have H' := yam H
           clear H
           try go_wp2
           replace HO_5 := yam (Kd.Yd HO_5.out)
           replace HO_7 := yam (Kd.Yd HO_7.out)
           replace HB := yam (yed HB.out)
           have p200 : 0 ≤ (x11_5 : Int) := ydt
           have q200 : x11_5 < (t190.length : Int) := ydt
           obtain ⟨ad200, e200, hx200_0⟩ := Kd.at_int (Kd.Yr HO_7.out).2.2 x11_5 p200 q200
           obtain rfl : ad193 = ad200 := (by injection e200)
           replace p200 := eq_true p200
           replace q200 := eq_true q200
           have p201 : 0 ≤ (x11_5 : Int) := ydt
           have q201 : x11_5 < (t190.length : Int) := ydt
           obtain ⟨ad201, e201, hx201_0⟩ := Kd.at_int (Kd.Yr HO_7.out).2.2 x11_5 p201 q201
           obtain rfl : ad193 = ad201 := (by injection e201)
           replace p201 := eq_true p201
           replace q201 := eq_true q201
           obtain ⟨Ao36, co36, eo36⟩ := Kd.R_slice HO_5.out
           (first | subst eo36 | (injection eo36 with f1_ f2_ f3_; have f4_ := f1_.symm; have f5_ := f3_.symm; clear f1_ f2_ f3_; subst f4_; subst f5_))
           have p202 : 0 ≤ ((rd t190 x11_5) : Int) := ydt
           have q202 : (rd t190 x11_5) < (x5_5.length : Int) := ydt
           obtain ⟨ad202, e202, hx202_0⟩ := Kd.at_int (Kd.Yr HO_5.out).2.2 (rd t190 x11_5) p202 q202
           cases e202
           replace p202 := eq_true p202
           replace q202 := eq_true q202
           have p34 : 0 ≤ ((rd t190 x11_5) : Int) := ydt
           have q34 : ((rd t190 x11_5) : Int) < ((x5_5.length : Int) : Int) := ydt
           obtain ⟨go34, co34, eo34, gb34, gl34, cl34, HG34⟩ := Kd.R_form HO_5.out (by omega)
           (first | cases eo34 | (injection eo34 with ea_ en_ ec_; (first | subst ea_ | (injection ea_ with ea_; subst ea_)); subst ec_; clear en_))
           have GB34 := yam gb34
           have GG34 := yam HG34
           clear gb34 gl34 HG34
           (first | simp only [add_plain] at hx202_0 | skip)
           obtain ⟨hx34_0, hf34_0⟩ := Kd.R_celln 0 HO_5.out ((rd t190 x11_5) : Int) p34 q34
           replace p34 := eq_true p34
           replace q34 := eq_true q34
           have HP37 := Kd.R_putn HO_5.out ((rd t190 x11_5) : Int) (Go.bits .andNot .i64 (rd x5_5 (rd t190 x11_5)) (rd l0 (rd t190 x8_2)))
           rw [← Ny203.out] at HP37
           have HQ37 := yam HP37
           clear HP37
           refine start_ (n := 16) (S := fun w' => w'.cell? (ad193.add (x11_5).toNat) = some (.int .i64 (rd t190 x11_5)) ∧ w'.cell? (ad193.add (x11_5).toNat) = some (.int .i64 (rd t190 x11_5)) ∧ w'.cell? ⟨go34, ((rd t190 x11_5)).toNat, none⟩ = some (.int .i64 (rd x5_5 (rd t190 x11_5)))) (ds := [15]) #[false, false, false, false, false, false, false, false, false, false, false, false, false, false, false, false] (by kernel_rfl) rfl rfl ⟨hx200_0, hx201_0, hx202_0⟩ (fun hHeld => ?_); refine with_tabW spec_NarrowPairs.tab20 spec_NarrowPairs.bits20 (fun HT_ HW_ => ?_)
           generalize wr.drew = w35 at HO_5 HO_7 HB GG34 HQ37 hf34_0 hx200_0 hx201_0 hx202_0 hx34_0 hHeld ⊢
           refine yvp 0 73 (yvb 16 1) HT_.out ?_
           refine yvp 1 74 (yvb 16 3) HT_.out ?_
           refine yvp 2 75 (yvb 16 7) HT_.out ?_
           refine yvp 3 76 (yvb 16 15) HT_.out ?_
           refine yvp 5 78 (yvb 16 47) HT_.out ?_
           refine yvp 6 79 (yvb 16 111) HT_.out ?_
           refine yvp 7 80 (yvb 16 239) HT_.out ?_
           refine yvp 8 81 (yvb 16 495) HT_.out ?_
           refine yvp 12 85 (yvb 16 4591) HT_.out ?_
           refine yvt 4 77 (yvb 16 4607) HT_.out HW_.out hHeld ?_
           refine yvt 9 82 (yvb 16 5119) HT_.out HW_.out hHeld ?_
           refine yvp 10 83 (yvb 16 6143) HT_.out ?_
           refine yvt 11 84 (yvb 16 8191) HT_.out HW_.out hHeld ?_
           refine yvp 13 86 (yvb 16 16383) HT_.out ?_
           refine yvp 14 87 (yvb 16 32767) HT_.out ?_
           refine last_ (i := 15) (N := none) #[true, true, true, true, true, true, true, true, true, true, true, true, true, true, true, true] rfl rfl (one_of HT_.out (by kernel_rfl)) (by decide) (fun K hK => ?_)
           refine skip_ (w1 := ?_) (by rfl) rfl ?_ ?_
           rotate_left
           ·go_simp
            rfl
           refine hK.out _ _ ?_
           clear hK K
           refine done_ (done_of HT_.out (by kernel_rfl)) ?_
           try go_wp2
           go_roundg k5
           case measure => have := HK1.out; have := HK2.out; have := HK3.out; have := HJ15.out; have := HK5.out; omega
           case rel => exact ⟨(y203), (wrap64 (x11_5 + 1)), yeq, H', ⟨by have := HK1.out; have := HK2.out; have := HK3.out; have := HJ15.out; have := HK5.out; omega⟩, ⟨yka HQ37.out⟩, ⟨by (with_reducible repeat (first | apply Kd.Ya | apply Kd.Yn | apply Kd.Yd)); exact Kd.R_mono (Kd.R_far (p := ⟨go34, ((rd t190 x11_5) : Int).toNat, none⟩) (Kd.R_mono HO_7.out (fun k_ hk => (⟨hk, fun e_ => hk (by rw [e_]; rfl)⟩ : _ ∧ k_ ≠ go34))) (fun _ hk => hk.2) (.int .i64 (Go.bits .andNot .i64 (rd x5_5 (rd t190 x11_5)) (rd l0 (rd t190 x8_2))))) (fun _ hk => hk.1)⟩, ⟨yhb⟩⟩
mutual
def spec_l4Holds.l0 : Nat → List Int → Int → Int → Bool → Int → Int → List Int → Int → Option (Bool)
 | 0, _, _, _, _, _, _, _, _ => none
 | k + 1, x1, x5, x6, x7, x8, x205000, x205001, x205002 => if x8 < (x1.length : Int) then (if 0 ≤ x8 then (spec_l4Holds.l1 k x1 (wrap64 (x5 + (rd x1 x8))) (wrap64 (x6 * (rd x1 x8))) x7 x8 0 x205000 x205001 x205002) else (none)) else (if x205000 = 1 then (some x7) else (if x205000 = 2 then (some (x5 == x205002)) else (if x205000 = 3 then (some (x6 == x205002)) else (if x205000 = 4 then (if 0 < (x1.length : Int) then (if 1 < (x1.length : Int) then (some (decide ((rd x1 0) < (rd x1 1)))) else (none)) else (none)) else (if 0 < (x1.length : Int) then (if 1 < (x1.length : Int) then (some ((mx (wrap64 ((rd x1 0) - (rd x1 1))) (wrap64 (-(wrap64 ((rd x1 0) - (rd x1 1)))))) == x205002)) else (none)) else (none))))))
def spec_l4Holds.l1 : Nat → List Int → Int → Int → Bool → Int → Int → Int → List Int → Int → Option (Bool)
 | 0, _, _, _, _, _, _, _, _, _ => none
 | k + 1, x1, x5, x6, x7, x8, x9, x205000, x205001, x205002 => if x9 < x8 then (if x7 = true then (if 0 ≤ x9 then (if x9 < (x1.length : Int) then (if 0 ≤ x8 then (if x8 < (x1.length : Int) then (spec_l4Holds.l1 k x1 x5 x6 ((rd x1 x9) != (rd x1 x8)) x8 (wrap64 (x9 + 1)) x205000 x205001 x205002) else (none)) else (none)) else (none)) else (none)) else (spec_l4Holds.l1 k x1 x5 x6 false x8 (wrap64 (x9 + 1)) x205000 x205001 x205002)) else (spec_l4Holds.l0 k x1 x5 x6 x7 (wrap64 (x8 + 1)) x205000 x205001 x205002)
end
def spec_l4Holds.f (k : Nat) (a0_0 : Int) (l0_1 : List Int) (a0_2 : Int) (l1 : List Int) : Option (Bool) := spec_l4Holds.l0 k l1 0 1 true 0 a0_0 l0_1 a0_2
set_option maxHeartbeats 8000000 in
set_option maxRecDepth 100000 in
theorem spec_l4Holds.calls (k : Nat) (a0_0 : Int) (A0_1 : Option Addr) (c0_1 : Nat) (l0_1 : List Int) (a0_2 : Int) (A1 : Option Addr) (c1 : Nat) (l1 : List Int) (r : Bool) (w : World) (hr0_1 : Kd.C (Kd.int .i64) w A0_1 l0_1.length l0_1) (hc0_1 : l0_1.length ≤ c0_1) (hr1 : Kd.C (Kd.int .i64) w A1 l1.length l1) (hc1 : l1.length ≤ c1) (h : spec_l4Holds.f k a0_0 l0_1 a0_2 l1 = some r) :
  Calls Try.prog 97 #[.agg #[.int .i64 a0_0, .slice A0_1 l0_1.length c0_1, .int .i64 a0_2], .slice A1 l1.length c1] w fun e w' => e = .returned (.bool r) ∧ Below w.heap.size w w' := by
 have hu67 := Try.underlying67
 have HR0_1 := yam hr0_1
 have HC0_1 := yam hc0_1
 clear hr0_1 hc0_1
 have HR1 := yam hr1
 have HC1 := yam hc1
 clear hr1 hc1
 have HB := yam (Below.refl w.heap.size w)
 have H : (spec_l4Holds.l0 k l1 0 1 true 0 a0_0 l0_1 a0_2) = some r := h
 clear h
 have H' := yam H
 clear H
 go_enter Try.func97, Try.ntmps97
 go_wp2_with (first | (refine ybe 2 #[.int .i64 a0_0, .slice A0_1 l0_1.length c0_1, .int .i64 a0_2] 67 ?_; intro gb204 hg w3 hbox hb; have n0_ := yam (below_step (yez HB.out) hb); have n1_ := yam (hbox); have n2_ := yam ((by rw [hg]; exact (below_size (yez HB.out)) : w.heap.size ≤ gb204)); have n3_ := n2_; clear HB; have HB := n0_; have BK204 := n1_; have GW204 := n2_; have GE204 := n3_; clear n0_ n1_ n2_ n3_; clear hb hbox hg))
 repeat (go_quiet (first | (refine ybe 2 #[.int .i64 a0_0, .slice A0_1 l0_1.length c0_1, .int .i64 a0_2] 67 ?_; intro gb204 hg w3 hbox hb; have n0_ := yam (below_step (yez HB.out) hb); have n1_ := yam (hbox); have n2_ := yam ((by rw [hg]; exact (below_size (yez HB.out)) : w.heap.size ≤ gb204)); have n3_ := n2_; clear HB; have HB := n0_; have BK204 := n1_; have GW204 := n2_; have GE204 := n3_; clear n0_ n1_ n2_ n3_; clear hb hbox hg)); try go_wp2_with (first | (refine ybe 2 #[.int .i64 a0_0, .slice A0_1 l0_1.length c0_1, .int .i64 a0_2] 67 ?_; intro gb204 hg w3 hbox hb; have n0_ := yam (below_step (yez HB.out) hb); have n1_ := yam (hbox); have n2_ := yam ((by rw [hg]; exact (below_size (yez HB.out)) : w.heap.size ≤ gb204)); have n3_ := n2_; clear HB; have HB := n0_; have BK204 := n1_; have GW204 := n2_; have GE204 := n3_; clear n0_ n1_ n2_ n3_; clear hb hbox hg)))
 go_loopg [5, 6, 7, 8] k (fun kq v5 v6 v7 v8 w' => ∃ (x5_1 : Int) (x6_1 : Int) (x7_1 : Bool) (x8_1 : Int), v5 = .int .i64 x5_1 ∧ v6 = .int .i64 x6_1 ∧ v7 = .bool x7_1 ∧ v8 = .int .i64 x8_1 ∧ Aside0 (spec_l4Holds.l0 kq l1 x5_1 x6_1 x7_1 x8_1 a0_0 l0_1 a0_2 = some r) ∧ Aside0 (kq ≤ k) ∧ Aside0 (w'.heap[gb204]? = some (.cells #[.int .i64 a0_0, (.slice A0_1 l0_1.length c0_1), .int .i64 a0_2] 67 (0, 0))) ∧ Aside0 (Below w.heap.size w w'))
 case atStart => exact ⟨(0), (1), (true), (0), yeq, yeq, yeq, yeq, H', ⟨Nat.le_refl _⟩, ⟨by (with_reducible repeat (first | refine ybn ?_ _ | refine ybd ?_ | refine yba ?_ _)); exact BK204.out⟩, ⟨yhb⟩⟩
 case round =>
  clear H'
  try clear c1
  try clear p2
  obtain ⟨x5_1, x6_1, x7_1, x8_1, rfl, rfl, rfl, rfl, HA, HK1, BK204, HB⟩ := hrel
  cases gk with
  | zero => exact absurd HA.out (by simp [spec_l4Holds.l0])
  | succ k1 =>
   have H := HA.out
   clear HA
   simp only [spec_l4Holds.l0] at H
   by_cases c4 : x8_1 < (l1.length : Int)
   ·rw [if_pos c4] at H
    have c4b0 : decide (x8_1 < (l1.length : Int)) = true := decide_eq_true c4
    clear c4
    replace H := yif H
    obtain ⟨c5b0, H⟩ := H
    have H' := yam H
    clear H
    have p205 : 0 ≤ (x8_1 : Int) := ydt
    have q205 : x8_1 < (l1.length : Int) := ydt
    obtain ⟨ad205, e205, hx205_0⟩ := Kd.at_int HR1.out x8_1 p205 q205
    cases e205
    replace hx205_0 := ybx HB.out hx205_0
    replace p205 := eq_true p205
    replace q205 := eq_true q205
    have p206 : 0 ≤ (x8_1 : Int) := ydt
    have q206 : x8_1 < (l1.length : Int) := ydt
    obtain ⟨ad206, e206, hx206_0⟩ := Kd.at_int HR1.out x8_1 p206 q206
    obtain rfl : ad205 = ad206 := (by injection e206)
    replace hx206_0 := ybx HB.out hx206_0
    replace p206 := eq_true p206
    replace q206 := eq_true q206
    go_wp2
    repeat (go_quiet (fail); try go_wp2)
    go_loopg [7, 9] k1 (fun kq v7 v9 w' => ∃ (x7_2 : Bool) (x9_2 : Int), v7 = .bool x7_2 ∧ v9 = .int .i64 x9_2 ∧ Aside0 (spec_l4Holds.l1 kq l1 (wrap64 (x5_1 + (rd l1 x8_1))) (wrap64 (x6_1 * (rd l1 x8_1))) x7_2 x8_1 x9_2 a0_0 l0_1 a0_2 = some r) ∧ Aside0 (kq ≤ k1) ∧ Aside0 (w'.heap[gb204]? = some (.cells #[.int .i64 a0_0, (.slice A0_1 l0_1.length c0_1), .int .i64 a0_2] 67 (0, 0))) ∧ Aside0 (Below w.heap.size w w'))
    case atStart => exact ⟨(x7_1), (0), yeq, yeq, H', ⟨Nat.le_refl _⟩, ⟨by (with_reducible repeat (first | refine ybn ?_ _ | refine ybd ?_ | refine yba ?_ _)); exact BK204.out⟩, ⟨yhb⟩⟩
    case round =>
     clear H'
     try clear c1
     try clear p2
     try clear q2
     try clear hx2
     try clear c4
     try clear c4b0
     try clear c5
     try clear c5b0
     try clear hx205_0
     try clear hx206_0
     try clear p2
     try clear p205
     try clear p206
     try clear q205
     try clear q206
     obtain ⟨x7_2, x9_2, rfl, rfl, HA, HK2, BK204, HB⟩ := hrel
     cases gk with
     | zero => exact absurd HA.out (by simp [spec_l4Holds.l1])
     | succ k2 =>
      have H := HA.out
      clear HA
      simp only [spec_l4Holds.l1] at H
      by_cases c6 : x9_2 < x8_1
      rotate_left
      ·rw [if_neg c6] at H
       have c6b0 : decide (x9_2 < x8_1) = false := decide_eq_false c6
       clear c6
       have H' := yam H
       clear H
       go_wp2
       repeat (go_quiet (fail); try go_wp2)
       go_roundg k2
       case measure => have := HK1.out; have := HK2.out; omega
       case rel => exact ⟨((wrap64 (x5_1 + (rd l1 x8_1)))), ((wrap64 (x6_1 * (rd l1 x8_1)))), (x7_2), (wrap64 (x8_1 + 1)), yeq, yeq, yeq, yeq, H', ⟨by have := HK1.out; have := HK2.out; omega⟩, ⟨by (with_reducible repeat (first | refine ybn ?_ _ | refine ybd ?_ | refine yba ?_ _)); exact BK204.out⟩, ⟨yhb⟩⟩
      rw [if_pos c6] at H
      have c6b0 : decide (x9_2 < x8_1) = true := decide_eq_true c6
      clear c6
      by_cases c7 : x7_2 = true
      rotate_left
      ·replace c7 := Bool.eq_false_iff.mpr c7
       subst c7
       have H1 : (spec_l4Holds.l1 k2 l1 (wrap64 (x5_1 + (rd l1 x8_1))) (wrap64 (x6_1 * (rd l1 x8_1))) false x8_1 (wrap64 (x9_2 + 1)) a0_0 l0_1 a0_2) = some r := by rw [if_neg (show ¬ (false = true) by decide)] at H; exact H
       clear H
       have H := H1
       clear H1
       have H' := yam H
       clear H
       go_wp2
       repeat (go_quiet (fail); try go_wp2)
       go_roundg k2
       case measure => have := HK1.out; have := HK2.out; omega
       case rel => exact ⟨(false), (wrap64 (x9_2 + 1)), yeq, yeq, H', ⟨by have := HK1.out; have := HK2.out; omega⟩, ⟨by (with_reducible repeat (first | refine ybn ?_ _ | refine ybd ?_ | refine yba ?_ _)); exact BK204.out⟩, ⟨yhb⟩⟩
      subst c7
      have H1 : (if 0 ≤ x9_2 then (if x9_2 < (l1.length : Int) then (if 0 ≤ x8_1 then (if x8_1 < (l1.length : Int) then (spec_l4Holds.l1 k2 l1 (wrap64 (x5_1 + (rd l1 x8_1))) (wrap64 (x6_1 * (rd l1 x8_1))) ((rd l1 x9_2) != (rd l1 x8_1)) x8_1 (wrap64 (x9_2 + 1)) a0_0 l0_1 a0_2) else (none)) else (none)) else (none)) else (none)) = some r := by rw [if_pos rfl] at H; exact H
      clear H
      have H := H1
      clear H1
      replace H := yif H
      obtain ⟨c8b0, H⟩ := H
      replace H := yif H
      obtain ⟨c9b0, H⟩ := H
      replace H := yif H
      obtain ⟨c10b0, H⟩ := H
      replace H := yif H
      obtain ⟨c11b0, H⟩ := H
      have H' := yam H
      clear H
      have p207 : 0 ≤ (x9_2 : Int) := ydt
      have q207 : x9_2 < (l1.length : Int) := ydt
      obtain ⟨ad207, e207, hx207_0⟩ := Kd.at_int HR1.out x9_2 p207 q207
      obtain rfl : ad205 = ad207 := (by injection e207)
      replace hx207_0 := ybx HB.out hx207_0
      replace p207 := eq_true p207
      replace q207 := eq_true q207
      have p208 : 0 ≤ (x8_1 : Int) := ydt
      have q208 : x8_1 < (l1.length : Int) := ydt
      obtain ⟨ad208, e208, hx208_0⟩ := Kd.at_int HR1.out x8_1 p208 q208
      obtain rfl : ad205 = ad208 := (by injection e208)
      replace hx208_0 := ybx HB.out hx208_0
      replace p208 := eq_true p208
      replace q208 := eq_true q208
      go_wp2
      repeat (go_quiet (fail); try go_wp2)
      go_roundg k2
      case measure => have := HK1.out; have := HK2.out; omega
      case rel => exact ⟨(((rd l1 x9_2) != (rd l1 x8_1))), (wrap64 (x9_2 + 1)), yeq, yeq, H', ⟨by have := HK1.out; have := HK2.out; omega⟩, ⟨by (with_reducible repeat (first | refine ybn ?_ _ | refine ybd ?_ | refine yba ?_ _)); exact BK204.out⟩, ⟨yhb⟩⟩
   rw [if_neg c4] at H
   have c4b0 : decide (x8_1 < (l1.length : Int)) = false := decide_eq_false c4
   clear c4
   by_cases c12 : a0_0 = 1
   ·rw [if_pos c12] at H
    have c12b0 : (a0_0 == 1) = true := beq_iff_eq.mpr c12
    have c12b1 : (a0_0 != 1) = false := bne_eq_false_iff_eq.mpr c12
    clear c12
    obtain rfl := Option.some.inj H
    obtain ⟨hcz13_0, hcz13_1, hcz13_2, hfz13_0, hfz13_1, hfz13_2⟩ := ybc BK204.out
    go_wp2
    repeat (go_quiet (fail); try go_wp2)
    go_ret
    exact ⟨yer, yhb⟩
   rw [if_neg c12] at H
   have c12b0 : (a0_0 == 1) = false := beq_eq_false_iff_ne.mpr c12
   have c12b1 : (a0_0 != 1) = true := bne_iff_ne.mpr c12
   by_cases c14 : a0_0 = 2
   ·rw [if_pos c14] at H
    have c14b0 : (a0_0 == 2) = true := beq_iff_eq.mpr c14
    have c14b1 : (a0_0 != 2) = false := bne_eq_false_iff_eq.mpr c14
    clear c14
    obtain rfl := Option.some.inj H
    obtain ⟨hcz15_0, hcz15_1, hcz15_2, hfz15_0, hfz15_1, hfz15_2⟩ := ybc BK204.out
    go_wp2
    repeat (go_quiet (fail); try go_wp2)
    go_ret
    exact ⟨yer, yhb⟩
   rw [if_neg c14] at H
   have c14b0 : (a0_0 == 2) = false := beq_eq_false_iff_ne.mpr c14
   have c14b1 : (a0_0 != 2) = true := bne_iff_ne.mpr c14
   by_cases c16 : a0_0 = 3
   ·rw [if_pos c16] at H
    have c16b0 : (a0_0 == 3) = true := beq_iff_eq.mpr c16
    have c16b1 : (a0_0 != 3) = false := bne_eq_false_iff_eq.mpr c16
    clear c16
    obtain rfl := Option.some.inj H
    obtain ⟨hcz17_0, hcz17_1, hcz17_2, hfz17_0, hfz17_1, hfz17_2⟩ := ybc BK204.out
    go_wp2
    repeat (go_quiet (fail); try go_wp2)
    go_ret
    exact ⟨yer, yhb⟩
   rw [if_neg c16] at H
   have c16b0 : (a0_0 == 3) = false := beq_eq_false_iff_ne.mpr c16
   have c16b1 : (a0_0 != 3) = true := bne_iff_ne.mpr c16
   by_cases c18 : a0_0 = 4
   ·rw [if_pos c18] at H
    have c18b0 : (a0_0 == 4) = true := beq_iff_eq.mpr c18
    have c18b1 : (a0_0 != 4) = false := bne_eq_false_iff_eq.mpr c18
    clear c18
    replace H := yig H
    obtain ⟨c19, H⟩ := H
    have c19b0 : decide (0 < (l1.length : Int)) = true := decide_eq_true c19
    have c19b1 : decide (0 < l1.length) = true := decide_eq_true (by omega)
    clear c19
    replace H := yig H
    obtain ⟨c20, H⟩ := H
    have c20b0 : decide (1 < (l1.length : Int)) = true := decide_eq_true c20
    have c20b1 : decide (1 < l1.length) = true := decide_eq_true (by omega)
    clear c20
    obtain rfl := Option.some.inj H
    obtain ⟨hcz21_0, hcz21_1, hcz21_2, hfz21_0, hfz21_1, hfz21_2⟩ := ybc BK204.out
    have p209 : 0 ≤ (0 : Int) := (by omega)
    have q209 : 0 < (l1.length : Int) := ydt
    obtain ⟨ad209, e209, hx209_0⟩ := Kd.at_int HR1.out 0 p209 q209
    cases e209
    have qi209 : (0 < l1.length) = True := eq_true (by omega)
    (try rw [show ((0 : Int)).toNat = 0 from rfl] at hx209_0)
    (try rw [Addr.add_zero'] at hx209_0)
    replace hx209_0 := ybx HB.out hx209_0
    replace p209 := eq_true p209
    replace q209 := eq_true q209
    have p210 : 0 ≤ (1 : Int) := (by omega)
    have q210 : 1 < (l1.length : Int) := ydt
    obtain ⟨ad210, e210, hx210_0⟩ := Kd.at_int HR1.out 1 p210 q210
    obtain rfl : ad209 = ad210 := (by injection e210)
    (try simp only [show (1 : Int).toNat = 1 from rfl, Nat.reduceMul, Nat.reduceEqDiff, Go.Addr.add, ↓reduceIte] at hx210_0)
    have qi210 : (1 < l1.length) = True := eq_true (by omega)
    (try rw [show ((1 : Int)).toNat = 1 from rfl] at hx210_0)
    replace hx210_0 := ybx HB.out hx210_0
    replace p210 := eq_true p210
    replace q210 := eq_true q210
    go_wp2
    repeat (go_quiet (fail); try go_wp2)
    go_ret
    exact ⟨yer, yhb⟩
   rw [if_neg c18] at H
   have c18b0 : (a0_0 == 4) = false := beq_eq_false_iff_ne.mpr c18
   have c18b1 : (a0_0 != 4) = true := bne_iff_ne.mpr c18
   by_cases c22 : 0 < (l1.length : Int)
   rotate_left
   ·rw [if_neg c22] at H
    exact absurd H (by simp)

   rw [if_pos c22] at H
   have c22b0 : decide (0 < (l1.length : Int)) = true := decide_eq_true c22
   have c22b1 : decide (0 < l1.length) = true := decide_eq_true (by omega)
   clear c22
   replace H := yig H
   obtain ⟨c23, H⟩ := H
   have c23b0 : decide (1 < (l1.length : Int)) = true := decide_eq_true c23
   have c23b1 : decide (1 < l1.length) = true := decide_eq_true (by omega)
   clear c23
   obtain ⟨ji24, hji24⟩ : ∃ j_ : Int, (mx (wrap64 ((rd l1 0) - (rd l1 1))) (wrap64 (-(wrap64 ((rd l1 0) - (rd l1 1)))))) = j_ := ⟨_, rfl⟩
   replace H : (some ((ji24) == a0_2)) = some r := by first | (rw [hji24] at H; exact H) | (simp only [hji24] at H ⊢; exact H)
   have hji24_ : (if (wrap64 ((rd l1 0) - (rd l1 1))) < (wrap64 (-(wrap64 ((rd l1 0) - (rd l1 1))))) then (wrap64 (-(wrap64 ((rd l1 0) - (rd l1 1))))) else (wrap64 ((rd l1 0) - (rd l1 1)))) = ji24 := hji24
   obtain rfl := Option.some.inj H
   obtain ⟨hcz25_0, hcz25_1, hcz25_2, hfz25_0, hfz25_1, hfz25_2⟩ := ybc BK204.out
   have p211 : 0 ≤ (0 : Int) := (by omega)
   have q211 : 0 < (l1.length : Int) := ydt
   obtain ⟨ad211, e211, hx211_0⟩ := Kd.at_int HR1.out 0 p211 q211
   cases e211
   have qi211 : (0 < l1.length) = True := eq_true (by omega)
   (try rw [show ((0 : Int)).toNat = 0 from rfl] at hx211_0)
   (try rw [Addr.add_zero'] at hx211_0)
   replace hx211_0 := ybx HB.out hx211_0
   replace p211 := eq_true p211
   replace q211 := eq_true q211
   have p212 : 0 ≤ (1 : Int) := (by omega)
   have q212 : 1 < (l1.length : Int) := ydt
   obtain ⟨ad212, e212, hx212_0⟩ := Kd.at_int HR1.out 1 p212 q212
   obtain rfl : ad211 = ad212 := (by injection e212)
   (try simp only [show (1 : Int).toNat = 1 from rfl, Nat.reduceMul, Nat.reduceEqDiff, Go.Addr.add, ↓reduceIte] at hx212_0)
   have qi212 : (1 < l1.length) = True := eq_true (by omega)
   (try rw [show ((1 : Int)).toNat = 1 from rfl] at hx212_0)
   replace hx212_0 := ybx HB.out hx212_0
   replace p212 := eq_true p212
   replace q212 := eq_true q212
   go_wp2
   repeat (go_quiet (fail); try go_wp2)
   go_ret
   exact ⟨by first | rfl | (simp [errW_none, errW_some] <;> rfl) | (simp only [← hji24]; first | rfl | (simp [errW_none, errW_some] <;> rfl)) | (simp [*, errW_none, errW_some] <;> rfl), yhb⟩
mutual
def spec_l4Ways.l0 : Nat → List Int → List Int → Int → Int → Option (List Int)
 | 0, _, _, _, _ => none
 | k + 1, x2, x3, x8, x9 => if x9 < x8 then (if 0 ≤ x9 then (if x9 < (x3.length : Int) then (if x9 < (x2.length : Int) then (if 0 ≤ (rd x2 x9) then (spec_l4Ways.l0 k x2 (x3.set (x9 : Int).toNat (Go.bits .or .i64 (rd x3 x9) (shl .i64 1 (rd x2 x9)))) x8 (wrap64 (x9 + 1))) else (none)) else (none)) else (none)) else (none)) else (some x3)
def spec_l4Ways.l1 : Nat → List Int → List Int → List Int → List Int → Int → Int → List Int → Int → Option (List Int)
 | 0, _, _, _, _, _, _, _, _ => none
 | k + 1, x1, x2, x3, x10, x11, x214000, x214001, x214002 => if x11 < (x10.length : Int) then ((some (([] : List Int) : List Int)).bind fun y223 => (if y223.length + x2.length < 17592186044416 then ((some (y223 ++ x2 : List Int)).bind fun y226 => (if 0 ≤ x11 then ((some (([rd x10 x11] : List Int) : List Int)).bind fun y230 => (if y226.length + y230.length < 17592186044416 then ((spec_l4Ways.f k x214000 x214001 x214002 x1 (y226 ++ y230) x3).bind fun t236 => (spec_l4Ways.l1 k x1 x2 t236 x10 (wrap64 (x11 + 1)) x214000 x214001 x214002)) else (none))) else (none))) else (none))) else (some x3)
def spec_l4Ways.f : Nat → Int → List Int → Int → List Int → List Int → List Int → Option (List Int)
 | 0, _, _, _, _, _, _ => none
 | k + 1, a0_0, l0_1, a0_2, l1, l2, l3 => if (l2.length : Int) = (l0_1.length : Int) then ((spec_l4Holds.f k a0_0 l0_1 a0_2 l2).bind fun t214 => (if t214 = true then (spec_l4Ways.l0 k l2 l3 (l2.length : Int) 0) else (some l3))) else (if 0 ≤ (l2.length : Int) then (if (l2.length : Int) < (l0_1.length : Int) then (if 0 ≤ (rd l0_1 (l2.length : Int)) then (if (rd l0_1 (l2.length : Int)) < (l1.length : Int) then ((spec_MaskValues.f k (rd l1 (rd l0_1 (l2.length : Int)))).bind fun t220 => (spec_l4Ways.l1 k l1 l2 l3 t220 0 a0_0 l0_1 a0_2)) else (none)) else (none)) else (none)) else (none))
end
def spec_l4Ways.T7 : Bool × List (List Nat × List Nat) := (true, [([], []), ([], []), ([], []), ([], []), ([2, 3], [2, 3]), ([4], [4]), ([], []), ([], []), ([6, 7], [6, 7]), ([8], [8]), ([9], [9]), ([5, 10], [5, 10]), ([0, 1, 0, 1, 2, 3, 4, 5, 6, 7, 8, 9, 10, 11], [0, 1]), ([12, 11, 0, 1, 2, 3, 4, 5, 6, 7, 8, 9, 10, 11], [11, 12])])
def spec_l4Ways.B7 : List Nat := [0, 0, 0, 0, 12, 28, 0, 0, 192, 448, 960, 2044, 4095, 8191]
theorem spec_l4Ways.tab7 : rtab .any (opsOf Try.f90 7) = spec_l4Ways.T7 := by kernel_rfl
theorem spec_l4Ways.bits7 : waitsOk spec_l4Ways.T7.2 spec_l4Ways.B7 = true := by kernel_rfl
def spec_l4Ways.T12 : Bool × List (List Nat × List Nat) := (true, [([], []), ([], []), ([], []), ([], []), ([2, 3], [2, 3]), ([], []), ([], []), ([5, 6], [5, 6]), ([7], [7]), ([8], [8]), ([4, 9, 4], [4, 9]), ([], []), ([0, 1, 10, 11, 10], [0, 1, 10, 11])])
def spec_l4Ways.B12 : List Nat := [0, 0, 0, 0, 12, 0, 0, 96, 224, 480, 1020, 0, 4095]
theorem spec_l4Ways.tab12 : rtab .any (opsOf Try.f90 12) = spec_l4Ways.T12 := by kernel_rfl
theorem spec_l4Ways.bits12 : waitsOk spec_l4Ways.T12.2 spec_l4Ways.B12 = true := by kernel_rfl
set_option maxHeartbeats 8000000 in
set_option maxRecDepth 100000 in
theorem spec_l4Ways.calls (k : Nat) : ∀ (a0_0 : Int) (A0_1 : Option Addr) (c0_1 : Nat) (l0_1 : List Int) (a0_2 : Int) (A1 : Option Addr) (c1 : Nat) (l1 : List Int) (A2 : Option Addr) (c2 : Nat) (l2 : List Int) (P3_ : Nat → Prop) (u9000_ : Value) (l3 : List Int) (r : List Int) (w0 w : World) (hB : Below w0.heap.size w0 w) (hr0_1 : ∀ W_, Kept w W_ (fun k_ => P3_ k_) → Kd.C (Kd.int .i64) W_ A0_1 l0_1.length l0_1) (hc0_1 : l0_1.length ≤ c0_1) (hr1 : ∀ W_, Kept w W_ (fun k_ => P3_ k_) → Kd.C (Kd.int .i64) W_ A1 l1.length l1) (hc1 : l1.length ≤ c1) (hr2 : ∀ W_, Kept w W_ (fun k_ => P3_ k_) → Kd.C (Kd.int .i64) W_ A2 l2.length l2) (hc2 : l2.length ≤ c2) (ho3 : Kd.R (Kd.int .i64) 3 w w0.heap.size P3_ u9000_ l3) (h : spec_l4Ways.f k a0_0 l0_1 a0_2 l1 l2 l3 = some r),
  Calls Try.prog 90 #[.agg #[.int .i64 a0_0, .slice A0_1 l0_1.length c0_1, .int .i64 a0_2], .slice A1 l1.length c1, .slice A2 l2.length c2, u9000_] w fun e w' => e = .returned (.tuple #[]) ∧ Kd.R (Kd.int .i64) 3 w' w0.heap.size (fun k_ => (P3_ k_ ∨ w.heap.size ≤ k_)) u9000_ r ∧ Below w0.heap.size w0 w' ∧ Kept w w' (fun k_ => P3_ k_) := by
 induction k using Nat.strongRecOn with
 | _ k ih =>
 intro a0_0 A0_1 c0_1 l0_1 a0_2 A1 c1 l1 A2 c2 l2 P3_ u9000_ l3 r w0 w hB hr0_1 hc0_1 hr1 hc1 hr2 hc2 ho3 h
 cases k with
 | zero => exact absurd h (by simp [spec_l4Ways.f])
 | succ k =>
 simp only [spec_l4Ways.f] at h
 have hu67 := Try.underlying67
 have HR0_1 := yam hr0_1
 have HC0_1 := yam hc0_1
 clear hr0_1 hc0_1
 have HR1 := yam hr1
 have HC1 := yam hc1
 clear hr1 hc1
 have HR2 := yam hr2
 have HC2 := yam hc2
 clear hr2 hc2
 have HO3 := yam (show Kd.R (Kd.int .i64) 3 w w0.heap.size (fun k_ => (P3_ k_ ∨ w.heap.size ≤ k_)) u9000_ l3 from Kd.R_mono ho3 (fun k_ hk => (.inl hk)))
 have HK := yam (Kept.refl w (fun k_ => P3_ k_))
 have HW0 := yam hB.size
 have HB := yam hB
 clear hB
 have H : (if (l2.length : Int) = (l0_1.length : Int) then ((spec_l4Holds.f k a0_0 l0_1 a0_2 l2).bind fun t214 => (if t214 = true then (spec_l4Ways.l0 k l2 l3 (l2.length : Int) 0) else (some l3))) else (if 0 ≤ (l2.length : Int) then (if (l2.length : Int) < (l0_1.length : Int) then (if 0 ≤ (rd l0_1 (l2.length : Int)) then (if (rd l0_1 (l2.length : Int)) < (l1.length : Int) then ((spec_MaskValues.f k (rd l1 (rd l0_1 (l2.length : Int)))).bind fun t220 => (spec_l4Ways.l1 k l1 l2 l3 t220 0 a0_0 l0_1 a0_2)) else (none)) else (none)) else (none)) else (none))) = some r := h
 clear h
 by_cases c5 : (l2.length : Int) = (l0_1.length : Int)
 ·rw [if_pos c5] at H
  have c5b0 : ((l2.length : Int) == (l0_1.length : Int)) = true := beq_iff_eq.mpr c5
  have c5b1 : ((l2.length : Int) != (l0_1.length : Int)) = false := bne_eq_false_iff_eq.mpr c5
  have c5b2 : (l2.length == l0_1.length) = true := by first | simpa using c5 | (simp at c5 ⊢; omega)
  clear c5
  replace H := Option.bind_eq_some_iff.mp H
  obtain ⟨t214, A60, H⟩ := H
  try dsimp only at H
  have A6 := yam A60
  clear A60
  by_cases c7 : t214 = true
  rotate_left
  ·replace c7 := Bool.eq_false_iff.mpr c7
   subst c7
   have H1 : (some l3) = some r := by rw [if_neg (show ¬ (false = true) by decide)] at H; exact H
   clear H
   have H := H1
   clear H1
   obtain rfl := Option.some.inj H
   go_enter Try.func90, Try.ntmps90
   go_wp2_with (first | (refine ybe 4 #[.int .i64 a0_0, .slice A0_1 l0_1.length c0_1, .int .i64 a0_2] 67 ?_; intro gb213 hg w21 hbox hb; replace HO3 := yam (Kd.R_below (Kd.Yz HO3.out) hb); have BK213 := yam (hbox); have GW213 := yam ((by rw [hg]; exact (by first | exact HK.out.1 | exact (show Kept w _ (fun k_ => P3_ k_) from by repeat (first | (with_reducible first | exact HK.out | apply Kept.alloc | apply Kept.drewN | apply Kept.drew) | exact HK.out)).1) : w.heap.size ≤ gb213)); replace HK := yam (Kept.below (S := (fun k_ => P3_ k_)) (by repeat (first | (with_reducible first | exact HK.out | apply Kept.alloc | apply Kept.drewN | apply Kept.drew) | exact HK.out)) hb); have GE213 := yam ((by rw [hg]; exact (below_size (yez HB.out)) : w0.heap.size ≤ gb213)); replace HB := yam (below_step (yez HB.out) hb); clear hb hbox hg; obtain ⟨hcz22_0, hcz22_1, hcz22_2, hfz22_0, hfz22_1, hfz22_2⟩ := ybc BK213.out) | (refine goesL_ (some 21) rfl rfl Try.func97 (by kernel_rfl) rfl #[.agg #[.int .i64 a0_0, .slice A0_1 l0_1.length c0_1, .int .i64 a0_2], .slice A2 l2.length c2] rfl ymd ?_; (with_reducible refine (spec_l4Holds.calls k a0_0 _ _ l0_1 a0_2 _ _ l2 false _ ?side1 ?side2 ?side3 ?side4 A6.out).mono ?_); (case side1 => exact Kd.C_kept_now HR0_1.out (by repeat (first | (with_reducible first | exact HK.out | apply Kept.alloc | apply Kept.drewN | apply Kept.drew | refine Kept.setCell ?_ (.inr GW213.out) _) | exact HK.out))); (case side2 => exact HC0_1.out); (case side3 => exact Kd.C_kept_now HR2.out (by repeat (first | (with_reducible first | exact HK.out | apply Kept.alloc | apply Kept.drewN | apply Kept.drew | refine Kept.setCell ?_ (.inr GW213.out) _) | exact HK.out))); (case side4 => exact HC2.out); rintro e w23 ⟨rfl, hb⟩; refine ⟨_, rfl, ?_⟩; replace HO3 := yam (Kd.R_below (Kd.Yz HO3.out) hb); replace BK213 := yam (blk_below (g := gb213) (o := .cells #[.int .i64 a0_0, .slice A0_1 l0_1.length c0_1, .int .i64 a0_2] 67 (0, 0)) (ybz BK213.out) hb); replace HK := yam (Kept.below (S := (fun k_ => P3_ k_)) (by repeat (first | (with_reducible first | exact HK.out | apply Kept.alloc | apply Kept.drewN | apply Kept.drew | refine Kept.setCell ?_ (.inr GW213.out) _) | exact HK.out)) hb); replace HB := yam (below_step yhb hb); (try clear hb); (try clear hb2); (try clear hk); (try clear hi)))
   first | go_end0 | ((try simp only [Exit.inBlock, Exit.then]); refine bodyPost_ret (results_none rfl _ _ _) rfl ?_)
   exact ⟨yer, yka HO3.out, yhb, by repeat (first | (with_reducible first | exact HK.out | apply Kept.alloc | apply Kept.drewN | apply Kept.drew | refine Kept.setCell ?_ (.inr GW213.out) _) | exact HK.out)⟩
  subst c7
  have H1 : (spec_l4Ways.l0 k l2 l3 (l2.length : Int) 0) = some r := by rw [if_pos rfl] at H; exact H
  clear H
  have H := H1
  clear H1
  have H' := yam H
  clear H
  go_enter Try.func90, Try.ntmps90
  go_wp2_with (first | (refine ybe 4 #[.int .i64 a0_0, .slice A0_1 l0_1.length c0_1, .int .i64 a0_2] 67 ?_; intro gb213 hg w8 hbox hb; replace HO3 := yam (Kd.R_below (Kd.Yz HO3.out) hb); have BK213 := yam (hbox); have GW213 := yam ((by rw [hg]; exact (by first | exact HK.out.1 | exact (show Kept w _ (fun k_ => P3_ k_) from by repeat (first | (with_reducible first | exact HK.out | apply Kept.alloc | apply Kept.drewN | apply Kept.drew) | exact HK.out)).1) : w.heap.size ≤ gb213)); replace HK := yam (Kept.below (S := (fun k_ => P3_ k_)) (by repeat (first | (with_reducible first | exact HK.out | apply Kept.alloc | apply Kept.drewN | apply Kept.drew) | exact HK.out)) hb); have GE213 := yam ((by rw [hg]; exact (below_size (yez HB.out)) : w0.heap.size ≤ gb213)); replace HB := yam (below_step (yez HB.out) hb); clear hb hbox hg; obtain ⟨hcz9_0, hcz9_1, hcz9_2, hfz9_0, hfz9_1, hfz9_2⟩ := ybc BK213.out) | (refine goesL_ (some 21) rfl rfl Try.func97 (by kernel_rfl) rfl #[.agg #[.int .i64 a0_0, .slice A0_1 l0_1.length c0_1, .int .i64 a0_2], .slice A2 l2.length c2] rfl ymd ?_; (with_reducible refine (spec_l4Holds.calls k a0_0 _ _ l0_1 a0_2 _ _ l2 true _ ?side1 ?side2 ?side3 ?side4 A6.out).mono ?_); (case side1 => exact Kd.C_kept_now HR0_1.out (by repeat (first | (with_reducible first | exact HK.out | apply Kept.alloc | apply Kept.drewN | apply Kept.drew | refine Kept.setCell ?_ (.inr GW213.out) _) | exact HK.out))); (case side2 => exact HC0_1.out); (case side3 => exact Kd.C_kept_now HR2.out (by repeat (first | (with_reducible first | exact HK.out | apply Kept.alloc | apply Kept.drewN | apply Kept.drew | refine Kept.setCell ?_ (.inr GW213.out) _) | exact HK.out))); (case side4 => exact HC2.out); rintro e w10 ⟨rfl, hb⟩; refine ⟨_, rfl, ?_⟩; replace HO3 := yam (Kd.R_below (Kd.Yz HO3.out) hb); replace BK213 := yam (blk_below (g := gb213) (o := .cells #[.int .i64 a0_0, .slice A0_1 l0_1.length c0_1, .int .i64 a0_2] 67 (0, 0)) (ybz BK213.out) hb); replace HK := yam (Kept.below (S := (fun k_ => P3_ k_)) (by repeat (first | (with_reducible first | exact HK.out | apply Kept.alloc | apply Kept.drewN | apply Kept.drew | refine Kept.setCell ?_ (.inr GW213.out) _) | exact HK.out)) hb); replace HB := yam (below_step yhb hb); (try clear hb); (try clear hb2); (try clear hk); (try clear hi)))
  go_loopg [9] k (fun kq v9 w' => ∃ (x3_1 : List Int) (x9_1 : Int), v9 = .int .i64 x9_1 ∧ Aside0 (spec_l4Ways.l0 kq l2 x3_1 (l2.length : Int) x9_1 = some r) ∧ Aside0 (kq ≤ k) ∧ Aside0 (Kd.R (Kd.int .i64) 3 w' w0.heap.size (fun k_ => (P3_ k_ ∨ w.heap.size ≤ k_)) u9000_ x3_1) ∧ Aside0 (w'.heap[gb213]? = some (.cells #[.int .i64 a0_0, (.slice A0_1 l0_1.length c0_1), .int .i64 a0_2] 67 (0, 0))) ∧ Aside0 (Kept w w' (fun k_ => P3_ k_)) ∧ Aside0 (Below w0.heap.size w0 w'))
  case atStart => exact ⟨(l3), (0), yeq, H', ⟨Nat.le_refl _⟩, ⟨yka HO3.out⟩, ⟨by (with_reducible repeat (first | refine ybn ?_ _ | refine ybd ?_ | refine yba ?_ _)); exact BK213.out⟩, ⟨by repeat (first | (with_reducible first | exact HK.out | apply Kept.alloc | apply Kept.drewN | apply Kept.drew | refine Kept.setCell ?_ (.inr GW213.out) _) | exact HK.out)⟩, ⟨yhb⟩⟩
  case round =>
   clear H'
   try clear c1
   try clear c2
   try clear p2
   try clear c5
   try clear c5b0
   try clear c5b1
   try clear c5b2
   try clear c7
   try clear c9
   try clear hcz9_0
   try clear hcz9_1
   try clear hcz9_2
   try clear hfz9_0
   try clear hfz9_1
   try clear hfz9_2
   obtain ⟨x3_1, x9_1, rfl, HA, HK1, HO_3, BK213, HK, HB⟩ := hrel
   cases gk with
   | zero => exact absurd HA.out (by simp [spec_l4Ways.l0])
   | succ k1 =>
    have H := HA.out
    clear HA
    simp only [spec_l4Ways.l0] at H
    by_cases c11 : x9_1 < (l2.length : Int)
    rotate_left
    ·rw [if_neg c11] at H
     have c11b0 : decide (x9_1 < (l2.length : Int)) = false := decide_eq_false c11
     clear c11
     obtain rfl := Option.some.inj H
     go_wp2
     first | go_end0 | ((try simp only [Exit.inBlock, Exit.then]); refine bodyPost_ret (results_none rfl _ _ _) rfl ?_)
     exact ⟨yer, yka HO_3.out, yhb, by repeat (first | (with_reducible first | exact HK.out | apply Kept.alloc | apply Kept.drewN | apply Kept.drew | refine Kept.setCell ?_ (.inr GW213.out) _) | exact HK.out)⟩
    rw [if_pos c11] at H
    have c11b0 : decide (x9_1 < (l2.length : Int)) = true := decide_eq_true c11
    clear c11
    replace H := yif H
    obtain ⟨c12b0, H⟩ := H
    replace H := yif H
    obtain ⟨c13b0, H⟩ := H
    replace H := yif H
    obtain ⟨c14b0, H⟩ := H
    replace H := yig H
    obtain ⟨c15, H⟩ := H
    have c15b0 := eq_true c15
    have c15b1 : decide (0 ≤ (rd l2 x9_1)) = true := decide_eq_true c15
    clear c15
    obtain ⟨ji16, hji16⟩ : ∃ j_ : Int, (shl .i64 1 (rd l2 x9_1)) = j_ := ⟨_, rfl⟩
    replace H : (spec_l4Ways.l0 k1 l2 (x3_1.set (x9_1 : Int).toNat (Go.bits .or .i64 (rd x3_1 x9_1) (ji16))) (l2.length : Int) (wrap64 (x9_1 + 1))) = some r := by first | (rw [hji16] at H; exact H) | (simp only [hji16] at H ⊢; exact H)
    have hji16_ : (IntKind.i64.wrap (1 * 2 ^ min (rd l2 x9_1).toNat 64)) = ji16 := hji16
    have hji16z : (rd l2 x9_1) ≤ 64 → (IntKind.i64.wrap (1 * 2 ^ (rd l2 x9_1).toNat)) = ji16 := shl_small hji16
    have hji16u : (IntKind.i64.wrap (2 ^ min (rd l2 x9_1).toNat 64)) = ji16 := by have h_ := hji16_; rw [Int.one_mul] at h_; exact h_
    have hji16v : (rd l2 x9_1) ≤ 64 → (IntKind.i64.wrap (2 ^ (rd l2 x9_1).toNat)) = ji16 := fun hle_ => by have h_ := hji16z hle_; rw [Int.one_mul] at h_; exact h_
    have hji16y : (wrap64 (1 * 2 ^ min (rd l2 x9_1).toNat 64)) = ji16 := (i64_w _).symm.trans hji16_
    have hji16x : (rd l2 x9_1) ≤ 64 → (wrap64 (1 * 2 ^ (rd l2 x9_1).toNat)) = ji16 := fun h_ => (i64_w _).symm.trans (hji16z h_)
    obtain ⟨y217, hy217⟩ : ∃ y_ : List Int, y_ = (x3_1.set (x9_1 : Int).toNat (Go.bits .or .i64 (rd x3_1 x9_1) (ji16))) := ⟨_, rfl⟩
    replace H : (spec_l4Ways.l0 k1 l2 y217 (l2.length : Int) (wrap64 (x9_1 + 1))) = some r := by first | (rw [hy217]; with_reducible exact H) | (have H2_ := (Option.bind_some _ _).symm.trans H; rw [hy217]; with_reducible exact H2_) | (have H2_ := (Option.bind_some _ _).symm.trans H; with_reducible exact H2_) | with_reducible exact H | (rw [hy217]; exact H) | exact H
    have Ny217 := yam hy217
    clear hy217
    have H' := yam H
    clear H
    try go_wp2
    replace HO_3 := yam (Kd.Yd HO_3.out)
    replace BK213 := yam (ybd BK213.out)
    replace HK := yam (Kept.drew HK.out)
    replace HB := yam (yed HB.out)
    obtain ⟨Ao19, co19, eo19⟩ := Kd.R_slice HO_3.out
    (first | subst eo19 | (injection eo19 with f1_ f2_ f3_; have f4_ := f1_.symm; have f5_ := f3_.symm; clear f1_ f2_ f3_; subst f4_; subst f5_))
    have p215 : 0 ≤ (x9_1 : Int) := ydt
    have q215 : x9_1 < (x3_1.length : Int) := ydt
    obtain ⟨ad215, e215, hx215_0⟩ := Kd.at_int (Kd.Yr HO_3.out).2.2 x9_1 p215 q215
    cases e215
    replace p215 := eq_true p215
    replace q215 := eq_true q215
    have p216 : 0 ≤ (x9_1 : Int) := ydt
    have q216 : x9_1 < (l2.length : Int) := ydt
    obtain ⟨ad216, e216, hx216_0⟩ := Kd.at_int (Kd.C_kept_now HR2.out HK.out) x9_1 p216 q216
    have hw216_0 := hx216_0
    cases e216
    replace p216 := eq_true p216
    replace q216 := eq_true q216
    have p17 : 0 ≤ (x9_1 : Int) := ydt
    have q17 : (x9_1 : Int) < ((x3_1.length : Int) : Int) := ydt
    obtain ⟨go17, co17, eo17, gb17, gl17, cl17, HG17⟩ := Kd.R_form HO_3.out (by omega)
    (first | cases eo17 | (injection eo17 with ea_ en_ ec_; (first | subst ea_ | (injection ea_ with ea_; subst ea_)); subst ec_; clear en_))
    have GB17 := yam gb17
    have GG17 := yam HG17
    clear gb17 gl17 HG17
    have HMgo17 := yam (show (P3_ go17 ∨ w.heap.size ≤ go17) from (HO_3.out.1 _ rfl))
    (first | simp only [add_plain] at hx215_0 | skip)
    obtain ⟨hx17_0, hf17_0⟩ := Kd.R_celln 0 HO_3.out (x9_1 : Int) p17 q17
    replace p17 := eq_true p17
    replace q17 := eq_true q17
    have HP20 := Kd.R_putn HO_3.out (x9_1 : Int) (Go.bits .or .i64 (rd x3_1 x9_1) (ji16))
    rw [← Ny217.out] at HP20
    have HQ20 := yam HP20
    clear HP20
    refine start_ (n := 14) (S := fun w' => w'.cell? ⟨go17, (x9_1).toNat, none⟩ = some (.int .i64 (rd x3_1 x9_1)) ∧ w'.cell? (ad216.add (x9_1).toNat) = some (.int .i64 (rd l2 x9_1))) (ds := [13]) #[false, false, false, false, false, false, false, false, false, false, false, false, false, false] (by kernel_rfl) rfl rfl ⟨hx215_0, (Kd.foot_int (HR2.out _ (by repeat (first | exact HK.out | apply Kept.alloc | apply Kept.drewN | apply Kept.drew | refine Kept.setCell ?_ HMgo17.out _))) x9_1 (of_eq_true p216) (of_eq_true q216))⟩ (fun hHeld => ?_); refine with_tabW spec_l4Ways.tab7 spec_l4Ways.bits7 (fun HT_ HW_ => ?_)
    generalize wr.drew = w18 at HO_3 BK213 HK HB GG17 HQ20 hf17_0 hx17_0 hx215_0 hx216_0 hHeld ⊢
    refine yvp 0 27 (yvb 14 1) HT_.out ?_
    refine yvp 1 28 (yvb 14 3) HT_.out ?_
    refine yvp 2 29 (yvb 14 7) HT_.out ?_
    refine yvp 3 30 (yvb 14 15) HT_.out ?_
    refine yvp 4 31 (yvb 14 31) HT_.out ?_
    refine yvp 6 33 (yvb 14 95) HT_.out ?_
    refine yvp 7 34 (yvb 14 223) HT_.out ?_
    refine yvp 8 35 (yvb 14 479) HT_.out ?_
    refine yvt 5 32 (yvb 14 511) HT_.out HW_.out hHeld ?_
    refine yvt 9 36 (yvb 14 1023) HT_.out HW_.out hHeld ?_
    refine yvp 10 37 (yvb 14 2047) HT_.out ?_
    refine yvp 11 38 (yvb 14 4095) HT_.out ?_
    refine yvp 12 39 (yvb 14 8191) HT_.out ?_
    refine last_ (i := 13) (N := none) #[true, true, true, true, true, true, true, true, true, true, true, true, true, true] rfl rfl (one_of HT_.out (by kernel_rfl)) (by decide) (fun K hK => ?_)
    refine skip_ (w1 := ?_) (by rfl) rfl ?_ ?_
    rotate_left
    ·go_simp
     rfl
    refine hK.out _ _ ?_
    clear hK K
    refine done_ (done_of HT_.out (by kernel_rfl)) ?_
    try go_wp2
    go_roundg k1
    case measure => have := HK1.out; omega
    case rel => exact ⟨(y217), (wrap64 (x9_1 + 1)), yeq, H', ⟨by have := HK1.out; omega⟩, ⟨yka HQ20.out⟩, ⟨by (with_reducible repeat (first | refine ybn ?_ _ | refine ybd ?_ | refine yba ?_ _)); refine blk_far ?_ (by have h_ := Kd.R_ne HO_3.out BK213.out (by decide); intro e_; exact h_ (by rw [e_]; rfl)) _; (with_reducible repeat (first | refine ybn ?_ _ | refine ybd ?_ | refine yba ?_ _)); exact BK213.out⟩, ⟨by repeat (first | (with_reducible first | exact HK.out | apply Kept.alloc | apply Kept.drewN | apply Kept.drew | refine Kept.setCell ?_ HMgo17.out _ | refine Kept.setCell ?_ (.inr GW213.out) _) | exact HK.out)⟩, ⟨yhb⟩⟩
 rw [if_neg c5] at H
 have c5b0 : ((l2.length : Int) == (l0_1.length : Int)) = false := beq_eq_false_iff_ne.mpr c5
 have c5b1 : ((l2.length : Int) != (l0_1.length : Int)) = true := bne_iff_ne.mpr c5
 have c5b2 : (l2.length == l0_1.length) = false := by first | simpa using c5 | (simp at c5 ⊢; omega)
 by_cases c24 : 0 ≤ (l2.length : Int)
 rotate_left
 ·rw [if_neg c24] at H
  exact absurd H (by simp)

 rw [if_pos c24] at H
 have c24b0 : decide (0 ≤ (l2.length : Int)) = true := decide_eq_true c24
 have c24b1 : decide (0 ≤ l2.length) = true := decide_eq_true (by omega)
 clear c24
 replace H := yig H
 obtain ⟨c25, H⟩ := H
 have c25b0 : decide ((l2.length : Int) < (l0_1.length : Int)) = true := decide_eq_true c25
 have c25b1 : decide (l2.length < l0_1.length) = true := decide_eq_true (Int.ofNat_lt.mp c25)
 clear c25
 replace H := yif H
 obtain ⟨c26b0, H⟩ := H
 replace H := yif H
 obtain ⟨c27b0, H⟩ := H
 replace H := Option.bind_eq_some_iff.mp H
 obtain ⟨t220, A280, H⟩ := H
 try dsimp only at H
 have A28 := yam A280
 clear A280
 have H' := yam H
 clear H
 go_enter Try.func90, Try.ntmps90
 go_wp2_with (first | (refine ybe 4 #[.int .i64 a0_0, .slice A0_1 l0_1.length c0_1, .int .i64 a0_2] 67 ?_; intro gb213 hg w29 hbox hb; replace HO3 := yam (Kd.R_below (Kd.Yz HO3.out) hb); have BK213 := yam (hbox); have GW213 := yam ((by rw [hg]; exact (by first | exact HK.out.1 | exact (show Kept w _ (fun k_ => P3_ k_) from by repeat (first | (with_reducible first | exact HK.out | apply Kept.alloc | apply Kept.drewN | apply Kept.drew) | exact HK.out)).1) : w.heap.size ≤ gb213)); replace HK := yam (Kept.below (S := (fun k_ => P3_ k_)) (by repeat (first | (with_reducible first | exact HK.out | apply Kept.alloc | apply Kept.drewN | apply Kept.drew) | exact HK.out)) hb); have GE213 := yam ((by rw [hg]; exact (below_size (yez HB.out)) : w0.heap.size ≤ gb213)); replace HB := yam (below_step (yez HB.out) hb); clear hb hbox hg; obtain ⟨hcz30_0, hcz30_1, hcz30_2, hfz30_0, hfz30_1, hfz30_2⟩ := ybc BK213.out; have p218 : 0 ≤ ((l2.length : Int) : Int) := ydt; have q218 : (l2.length : Int) < (l0_1.length : Int) := ydt; obtain ⟨ad218, e218, hx218_0⟩ := Kd.at_int (Kd.C_kept_now HR0_1.out HK.out) (l2.length : Int) p218 q218; cases e218; (try simp only [Go.IntWalk.toNatUp] at hx218_0); replace p218 := eq_true p218; replace q218 := eq_true q218; have p219 : 0 ≤ ((rd l0_1 (l2.length : Int)) : Int) := ydt; have q219 : (rd l0_1 (l2.length : Int)) < (l1.length : Int) := ydt; obtain ⟨ad219, e219, hx219_0⟩ := Kd.at_int (Kd.C_kept_now HR1.out HK.out) (rd l0_1 (l2.length : Int)) p219 q219; cases e219; (try simp only [Go.IntWalk.toNatUp] at hx219_0); replace p219 := eq_true p219; replace q219 := eq_true q219) | (refine goesL_ (some 48) rfl rfl Try.func72 (by kernel_rfl) rfl #[.int .i64 (rd l1 (rd l0_1 (l2.length : Int)))] rfl ymd ?_; (with_reducible refine (spec_MaskValues.calls k (rd l1 (rd l0_1 (l2.length : Int))) t220 _ A28.out).mono ?_); rintro e w31 ⟨v221, rfl, ho0, hb⟩; refine ⟨_, rfl, ?_⟩; have HO222 := yam (Kd.R_lower (Kd.Yw (Kd.R_newM (M := fun k_ => (P3_ k_ ∨ w.heap.size ≤ k_)) ho0 (by first | exact HK.out.1 | exact (show Kept w _ (fun k_ => P3_ k_) from by repeat (first | (with_reducible first | exact HK.out | apply Kept.alloc | apply Kept.drewN | apply Kept.drew | refine Kept.setCell ?_ (.inr GW213.out) _) | exact HK.out)).1) (fun k_ h_ => .inr h_)) (Kd.R_lt (Kd.Yz HO3.out))) (below_size yhb)); replace HO3 := yam (Kd.Ye (Kd.Yz HO3.out) (Kd.Yb ho0) hb); replace BK213 := yam (blk_below (g := gb213) (o := .cells #[.int .i64 a0_0, .slice (some ad218) l0_1.length c0_1, .int .i64 a0_2] 67 (0, 0)) (ybz BK213.out) hb); replace HK := yam (Kept.below (S := (fun k_ => P3_ k_)) (by repeat (first | (with_reducible first | exact HK.out | apply Kept.alloc | apply Kept.drewN | apply Kept.drew | refine Kept.setCell ?_ (.inr GW213.out) _) | exact HK.out)) hb); replace HB := yam (below_step yhb hb); (try clear hb); (try clear hb2); (try clear hk); (try clear hi); (try clear ho0)))
 go_loopg [11] k (fun kq v11 w' => ∃ (x3_1 : List Int) (x11_1 : Int), v11 = .int .i64 x11_1 ∧ Aside0 (spec_l4Ways.l1 kq l1 l2 x3_1 t220 x11_1 a0_0 l0_1 a0_2 = some r) ∧ Aside0 (kq ≤ k) ∧ Aside0 (Kd.R (Kd.int .i64) 3 w' w0.heap.size (fun k_ => (P3_ k_ ∨ w.heap.size ≤ k_) ∧ some k_ ≠ (v221 : Value).ownBlock) u9000_ x3_1) ∧ Aside0 (Kd.R (Kd.int .i64) 3 w' w0.heap.size (fun k_ => (P3_ k_ ∨ w.heap.size ≤ k_) ∧ some k_ ≠ (u9000_ : Value).ownBlock) v221 t220) ∧ Aside0 (w'.heap[gb213]? = some (.cells #[.int .i64 a0_0, (.slice (some ad218) l0_1.length c0_1), .int .i64 a0_2] 67 (0, 0))) ∧ Aside0 (Kept w w' (fun k_ => P3_ k_)) ∧ Aside0 (Below w0.heap.size w0 w'))
 case atStart => exact ⟨(l3), (0), yeq, H', ⟨Nat.le_refl _⟩, ⟨yka HO3.out⟩, ⟨by (with_reducible repeat (first | apply Kd.Ya | apply Kd.Yn | apply Kd.Yd)); exact Kd.R_mono HO222.out (fun _ hk => ⟨hk.1.1, hk.2⟩)⟩, ⟨by (with_reducible repeat (first | refine ybn ?_ _ | refine ybd ?_ | refine yba ?_ _)); exact BK213.out⟩, ⟨by repeat (first | (with_reducible first | exact HK.out | apply Kept.alloc | apply Kept.drewN | apply Kept.drew | refine Kept.setCell ?_ (.inr GW213.out) _) | exact HK.out)⟩, ⟨yhb⟩⟩
 case round =>
  clear H'
  try clear c1
  try clear p1
  try clear q1
  try clear hx1
  try clear c2
  try clear p2
  try clear q2
  try clear hx2
  try clear c5
  try clear c5b0
  try clear c5b1
  try clear c5b2
  try clear p6
  try clear c7
  try clear c9
  try clear c11
  try clear c11b0
  try clear c12
  try clear c12b0
  try clear c13
  try clear c13b0
  try clear c14
  try clear c14b0
  try clear c15
  try clear c15b0
  try clear c15b1
  try clear p17
  try clear q17
  try clear hx17
  try clear hf17
  try clear p21
  try clear q21
  try clear hx21
  try clear c24
  try clear c24b0
  try clear c24b1
  try clear c25
  try clear c25b0
  try clear c25b1
  try clear c26
  try clear c26b0
  try clear c27
  try clear c27b0
  try clear hcz22_0
  try clear hcz22_1
  try clear hcz22_2
  try clear hcz30_0
  try clear hcz30_1
  try clear hcz30_2
  try clear hcz9_0
  try clear hcz9_1
  try clear hcz9_2
  try clear hfz22_0
  try clear hfz22_1
  try clear hfz22_2
  try clear hfz30_0
  try clear hfz30_1
  try clear hfz30_2
  try clear hfz9_0
  try clear hfz9_1
  try clear hfz9_2
  try clear hx17_0
  try clear hx215_0
  try clear hx216_0
  try clear hx218_0
  try clear hx219_0
  try clear p17
  try clear p2
  try clear p215
  try clear p216
  try clear p218
  try clear p219
  try clear q17
  try clear q215
  try clear q216
  try clear q218
  try clear q219
  obtain ⟨x3_1, x11_1, rfl, HA, HK1, HO_3, HO_10, BK213, HK, HB⟩ := hrel
  cases gk with
  | zero => exact absurd HA.out (by simp [spec_l4Ways.l1])
  | succ k1 =>
   have H := HA.out
   clear HA
   simp only [spec_l4Ways.l1] at H
   by_cases c32 : x11_1 < (t220.length : Int)
   rotate_left
   ·rw [if_neg c32] at H
    have c32b0 : decide (x11_1 < (t220.length : Int)) = false := decide_eq_false c32
    clear c32
    obtain rfl := Option.some.inj H
    obtain ⟨Ao50, co50, eo50⟩ := Kd.R_slice HO_10.out
    subst eo50
    go_wp2
    first | go_end0 | ((try simp only [Exit.inBlock, Exit.then]); refine bodyPost_ret (results_none rfl _ _ _) rfl ?_)
    exact ⟨yer, by (with_reducible repeat (first | apply Kd.Ya | apply Kd.Yn | apply Kd.Yd)); exact Kd.R_mono HO_3.out (fun _ hk => hk.1), yhb, by repeat (first | (with_reducible first | exact HK.out | apply Kept.alloc | apply Kept.drewN | apply Kept.drew | refine Kept.setCell ?_ (.inr GW213.out) _) | exact HK.out)⟩
   rw [if_pos c32] at H
   have c32b0 : decide (x11_1 < (t220.length : Int)) = true := decide_eq_true c32
   clear c32
   obtain ⟨y223, hy223⟩ : ∃ y_ : List Int, y_ = (([] : List Int)) := ⟨_, rfl⟩
   replace H : (if y223.length + l2.length < 17592186044416 then ((some (y223 ++ l2 : List Int)).bind fun y226 => (if 0 ≤ x11_1 then ((some (([rd t220 x11_1] : List Int) : List Int)).bind fun y230 => (if y226.length + y230.length < 17592186044416 then ((spec_l4Ways.f k1 a0_0 l0_1 a0_2 l1 (y226 ++ y230) x3_1).bind fun t236 => (spec_l4Ways.l1 k1 l1 l2 t236 t220 (wrap64 (x11_1 + 1)) a0_0 l0_1 a0_2)) else (none))) else (none))) else (none)) = some r := by first | (rw [hy223]; with_reducible exact H) | (have H2_ := (Option.bind_some _ _).symm.trans H; rw [hy223]; with_reducible exact H2_) | (have H2_ := (Option.bind_some _ _).symm.trans H; with_reducible exact H2_) | with_reducible exact H | (rw [hy223]; exact H) | exact H
   have Ny223 := yam hy223
   clear hy223
   replace H := yig H
   obtain ⟨c33, H⟩ := H
   have LMc33 := yam c33
   clear c33
   obtain ⟨y226, hy226⟩ : ∃ y_ : List Int, y_ = (y223 ++ l2) := ⟨_, rfl⟩
   replace H : (if 0 ≤ x11_1 then ((some (([rd t220 x11_1] : List Int) : List Int)).bind fun y230 => (if y226.length + y230.length < 17592186044416 then ((spec_l4Ways.f k1 a0_0 l0_1 a0_2 l1 (y226 ++ y230) x3_1).bind fun t236 => (spec_l4Ways.l1 k1 l1 l2 t236 t220 (wrap64 (x11_1 + 1)) a0_0 l0_1 a0_2)) else (none))) else (none)) = some r := by first | (rw [hy226]; with_reducible exact H) | (have H2_ := (Option.bind_some _ _).symm.trans H; rw [hy226]; with_reducible exact H2_) | (have H2_ := (Option.bind_some _ _).symm.trans H; with_reducible exact H2_) | with_reducible exact H | (rw [hy226]; exact H) | exact H
   have Ny226 := yam hy226
   clear hy226
   replace H := yif H
   obtain ⟨c34b0, H⟩ := H
   obtain ⟨y230, hy230⟩ : ∃ y_ : List Int, y_ = (([rd t220 x11_1] : List Int)) := ⟨_, rfl⟩
   replace H : (if y226.length + y230.length < 17592186044416 then ((spec_l4Ways.f k1 a0_0 l0_1 a0_2 l1 (y226 ++ y230) x3_1).bind fun t236 => (spec_l4Ways.l1 k1 l1 l2 t236 t220 (wrap64 (x11_1 + 1)) a0_0 l0_1 a0_2)) else (none)) = some r := by first | (rw [hy230]; with_reducible exact H) | (have H2_ := (Option.bind_some _ _).symm.trans H; rw [hy230]; with_reducible exact H2_) | (have H2_ := (Option.bind_some _ _).symm.trans H; with_reducible exact H2_) | with_reducible exact H | (rw [hy230]; exact H) | exact H
   have Ny230 := yam hy230
   clear hy230
   replace H := yig H
   obtain ⟨c35, H⟩ := H
   have LMc35 := yam c35
   clear c35
   obtain ⟨y233, hy233⟩ : ∃ y_ : List Int, y_ = (y226 ++ y230) := ⟨_, rfl⟩
   replace H : ((spec_l4Ways.f k1 a0_0 l0_1 a0_2 l1 y233 x3_1).bind fun t236 => (spec_l4Ways.l1 k1 l1 l2 t236 t220 (wrap64 (x11_1 + 1)) a0_0 l0_1 a0_2)) = some r := by first | (rw [hy233]; with_reducible exact H) | (have H2_ := (Option.bind_some _ _).symm.trans H; rw [hy233]; with_reducible exact H2_) | (have H2_ := (Option.bind_some _ _).symm.trans H; with_reducible exact H2_) | with_reducible exact H | (rw [hy233]; exact H) | exact H
   have Ny233 := yam hy233
   clear hy233
   replace H := Option.bind_eq_some_iff.mp H
   obtain ⟨t236, A360, H⟩ := H
   try dsimp only at H
   have A36 := yam A360
   clear A360
   have H' := yam H
   clear H
   obtain ⟨Ao37, co37, eo37⟩ := Kd.R_slice HO_10.out
   subst eo37
   obtain ⟨Ao38, co38, eo38⟩ := Kd.R_slice HO_3.out
   subst eo38
   try go_wp2
   replace HO_3 := yam (Kd.Yd HO_3.out)
   replace HO_10 := yam (Kd.Yd HO_10.out)
   replace BK213 := yam (ybd BK213.out)
   replace HK := yam (Kept.drew HK.out)
   replace HB := yam (yed HB.out)
   have p229 : 0 ≤ (x11_1 : Int) := ydt
   have q229 : x11_1 < (t220.length : Int) := ydt
   obtain ⟨ad229, e229, hx229_0⟩ := Kd.at_int (Kd.Yr HO_10.out).2.2 x11_1 p229 q229
   cases e229
   replace p229 := eq_true p229
   replace q229 := eq_true q229
   refine start_ (n := 13) (S := fun w' => w'.cell? ⟨gb213, 0, none⟩ = some (.int .i64 a0_0) ∧ w'.cell? ⟨gb213, 1, none⟩ = some (.slice (some ad218) l0_1.length c0_1) ∧ w'.cell? ⟨gb213, 2, none⟩ = some (.int .i64 a0_2) ∧ w'.cell? (ad229.add (x11_1).toNat) = some (.int .i64 (rd t220 x11_1))) (ds := []) #[false, false, false, false, false, false, false, false, false, false, false, false, false] (by kernel_rfl) rfl rfl ⟨(blk_cell BK213.out 0).trans rfl, (blk_cell BK213.out 1).trans rfl, (blk_cell BK213.out 2).trans rfl, hx229_0⟩ (fun hHeld => ?_); refine with_tabW spec_l4Ways.tab12 spec_l4Ways.bits12 (fun HT_ HW_ => ?_)
   generalize wr.drew = w39 at HO_3 HO_10 BK213 HK HB hx229_0 hHeld ⊢
   refine yvp 1 56 (yvb 13 2) HT_.out ?_
   refine yvp 3 58 (yvb 13 10) HT_.out ?_
   refine yvp 5 60 (yvb 13 42) HT_.out ?_
   refine yvp 6 61 (yvb 13 106) HT_.out ?_
   refine yvp 7 62 (yvb 13 234) HT_.out ?_
   refine yvp 11 66 (yvb 13 2282) HT_.out ?_
   refine yvt 0 55 (yvb 13 2283) HT_.out HW_.out hHeld ?_
   refine yvt 8 63 (yvb 13 2539) HT_.out HW_.out hHeld ?_
   refine join_ (σ := Value × Value × Value) 2 #[true, true, true, true, true, true, true, true, true, true, false, true, false] (fun s_ => [(57, s_.1), (59, s_.2.1), (64, s_.2.2)]) (fun s_ w' => (w'.cell? ⟨gb213, 0, none⟩ = some (.int .i64 a0_0) ∧ w'.cell? ⟨gb213, 1, none⟩ = some (.slice (some ad218) l0_1.length c0_1) ∧ w'.cell? ⟨gb213, 2, none⟩ = some (.int .i64 a0_2) ∧ w'.cell? (ad229.add (x11_1).toNat) = some (.int .i64 (rd t220 x11_1))) ∧ (Kd.R (Kd.int .i64) 3 w' w0.heap.size (fun k_ => (P3_ k_ ∨ w.heap.size ≤ k_) ∧ some k_ ≠ (s_.2.2 : Value).ownBlock ∧ some k_ ≠ (.slice (some ad229) t220.length co37 : Value).ownBlock ∧ some k_ ≠ (.slice Ao38 x3_1.length co38 : Value).ownBlock) s_.2.1 y226) ∧ (Kd.R (Kd.int .i64) 3 w' w0.heap.size (fun k_ => (P3_ k_ ∨ w.heap.size ≤ k_) ∧ some k_ ≠ (s_.2.1 : Value).ownBlock ∧ some k_ ≠ (.slice (some ad229) t220.length co37 : Value).ownBlock ∧ some k_ ≠ (.slice Ao38 x3_1.length co38 : Value).ownBlock) s_.2.2 y230) ∧ (Kd.R (Kd.int .i64) 3 w' w0.heap.size (fun k_ => (P3_ k_ ∨ w.heap.size ≤ k_) ∧ some k_ ≠ (s_.2.1 : Value).ownBlock ∧ some k_ ≠ (s_.2.2 : Value).ownBlock ∧ some k_ ≠ (.slice Ao38 x3_1.length co38 : Value).ownBlock) (.slice (some ad229) t220.length co37) t220) ∧ (Kd.R (Kd.int .i64) 3 w' w0.heap.size (fun k_ => (P3_ k_ ∨ w.heap.size ≤ k_) ∧ some k_ ≠ (s_.2.1 : Value).ownBlock ∧ some k_ ≠ (s_.2.2 : Value).ownBlock ∧ some k_ ≠ (.slice (some ad229) t220.length co37 : Value).ownBlock) (.slice Ao38 x3_1.length co38) x3_1) ∧ (w'.heap[gb213]? = some (.cells #[.int .i64 a0_0, .slice (some ad218) l0_1.length c0_1, .int .i64 a0_2] 67 (0, 0))) ∧ (Kept w w' (fun k_ => P3_ k_)) ∧ (Below w0.heap.size w0 w')) ?_ ?_
   rotate_left
   ·intro hCont
    refine two_ (i := 2) (j := 9) (Ni := some 57) (Nj := some 64) #[true, true, true, true, false, true, true, true, true, false, false, true, false] #[true, true, false, true, false, true, true, true, true, true, false, true, false] rfl rfl rfl rfl (two_of HT_.out (by kernel_rfl)) (by decide) (by decide) (fun K hK => ?_) (fun K hK => ?_)
    ·skip
     refine Kd.R_lit_step (Kd.int .i64) _ 3 ?hg (N := 57) ?hd (xs := ([] : List Int)) (inner := []) (ok := fun _ => True) (okp := fun _ => True) ?hr ?hp (fun _ hk => hk) trivial (Below.refl _ _) (Nat.le_refl _) (by simp) ?_; (case hd => rfl); (case hg => rfl); (case hr => first | (go_simp; done) | (go_simp; rfl)); (case hp => exact (Reps.none _ _))
     intro v224 w40 ho41 hb hg_ hnew_
     have HS3_ := (hb.cell (World.block_lt_of_cell? _ _ (hHeld.2.2.2))).trans (hHeld.2.2.2)
     clear hg_ hnew_
     (first | rw [← Ny223.out] at ho41 | (simp only [Int.reduceToNat] at ho41; rw [← Ny223.out] at ho41))
     have HO225 := yam (Kd.R_lower (Kd.Yw (Kd.Yw (Kd.R_newM (M := fun k_ => (P3_ k_ ∨ w.heap.size ≤ k_)) ho41 (by first | exact HK.out.1 | exact (show Kept w _ (fun k_ => P3_ k_) from by repeat (first | (with_reducible first | exact HK.out | apply Kept.alloc | apply Kept.drewN | apply Kept.drew | refine Kept.setCell ?_ (.inr GW213.out) _) | exact HK.out)).1) (fun k_ h_ => .inr h_)) (Kd.R_lt (Kd.Yz HO_3.out))) (Kd.R_lt (Kd.Yz HO_10.out))) (below_size yhb))
     replace HO_3 := yam (Kd.Ye (Kd.Yz HO_3.out) (Kd.Yb ho41) hb)
     replace HO_10 := yam (Kd.Ye (Kd.Yz HO_10.out) (Kd.Yb ho41) hb)
     replace BK213 := yam (blk_below (g := gb213) (o := .cells #[.int .i64 a0_0, .slice (some ad218) l0_1.length c0_1, .int .i64 a0_2] 67 (0, 0)) (ybz BK213.out) hb)
     replace HK := yam (Kept.below (S := (fun k_ => P3_ k_)) (by repeat (first | (with_reducible first | exact HK.out | apply Kept.alloc | apply Kept.drewN | apply Kept.drew | refine Kept.setCell ?_ (.inr GW213.out) _) | exact HK.out)) hb)
     replace HB := yam (below_step yhb hb)
     clear hb ho41
     refine hK.out _ _ ⟨(blk_cell BK213.out 0).trans rfl, (blk_cell BK213.out 1).trans rfl, (blk_cell BK213.out 2).trans rfl, HS3_⟩ (fun hHeld => ?_)
     clear hK K
     refine norm_ (a' := ?_) ?_ ?_
     rotate_left
     ·show Act.put _ (some 57) _ = _
      simp only [Act.put, yps, i64_w, i32_w]
      rfl
     refine two_ (i := 4) (j := 9) (Ni := some 59) (Nj := some 64) #[true, true, true, true, true, true, true, true, true, false, false, true, false] #[true, true, true, true, false, true, true, true, true, true, false, true, false] rfl rfl rfl rfl (two_of HT_.out (by kernel_rfl)) (by decide) (by decide) (fun K hK => ?_) (fun K hK => ?_)
     ·skip
      refine Kd.R_append_rows_step (Kd.int .i64) (w0 := w0) w0.heap.size (by rfl) (.tmp 57) (.tmp 58) 22 3 (.int .i64 0) 8 rfl Try.underlying22 info3 rfl (by decide) (by omega) v224 y223 l2 _ _ _ (fun k_ => (P3_ k_ ∨ w.heap.size ≤ k_) ∧ some k_ ≠ (.slice Ao38 x3_1.length co38 : Value).ownBlock ∧ some k_ ≠ (.slice (some ad229) t220.length co37 : Value).ownBlock) (fun _ => False) rfl rfl ?aO ?aR (fun _ _ h => h) (fun _ h => h.elim) ?aF ?aB ?aS ?aL ?_
      (case aR => exact Kd.C_kept_now HR2.out (by repeat (first | (with_reducible first | exact HK.out | apply Kept.alloc | apply Kept.drewN | apply Kept.drew | refine Kept.setCell ?_ (.inr GW213.out) _) | exact HK.out)))
      (case aB => exact yhb)
      (case aF => exact (fun k_ hk => ⟨(.inr (Nat.le_trans (by first | exact HK.out.1 | exact (show Kept w _ (fun k_ => P3_ k_) from by repeat (first | (with_reducible first | exact HK.out | apply Kept.alloc | apply Kept.drewN | apply Kept.drew | refine Kept.setCell ?_ (.inr GW213.out) _) | exact HK.out)).1) hk)), Kd.fresh' (Kd.R_lt (Kd.Yz HO_3.out)) k_ hk, Kd.fresh' (Kd.R_lt (Kd.Yz HO_10.out)) k_ hk⟩))
      (case aO => exact (by (with_reducible repeat (first | apply Kd.Ya | apply Kd.Yn | apply Kd.Yd)); exact Kd.R_mono HO225.out (fun _ hk => ⟨hk.1.1.1, ⟨hk.1.2, hk.2⟩⟩)))
      (case aS => exact (below_size yhb))
      (case aL => have := LMc33.out; omega)
      intro v227 w42 ho hb hg hat
      have HS3_ := cell_grown hg (hHeld.2.2.2) (by first | (rw [add_block]; exact (fun e_ => (by have h_ := HO225.out.1 _ e_.symm; simp [Value.ownBlock] at h_))) | (show some (Addr.add _ _).block ≠ _; rw [add_block]; exact (fun e_ => (by have h_ := HO225.out.1 _ e_.symm; simp [Value.ownBlock] at h_))) | exact (fun e_ => (by have h_ := HO225.out.1 _ e_.symm; simp [Value.ownBlock] at h_)))
      rw [← Ny226.out] at ho
      replace HO_3 := yam (Kd.R_after (ok := (fun k_ => (P3_ k_ ∨ w.heap.size ≤ k_) ∧ some k_ ≠ (.slice (some ad229) t220.length co37 : Value).ownBlock)) (Kd.Yz HO_3.out) hg hat)
      replace HO_10 := yam (Kd.R_after (ok := (fun k_ => (P3_ k_ ∨ w.heap.size ≤ k_) ∧ some k_ ≠ (.slice Ao38 x3_1.length co38 : Value).ownBlock)) (Kd.Yz HO_10.out) hg hat)
      replace BK213 := yam (blk_grown (g := gb213) (o := .cells #[.int .i64 a0_0, .slice (some ad218) l0_1.length c0_1, .int .i64 a0_2] 67 (0, 0)) (ybz BK213.out) hg (Kd.R_ne HO225.out BK213.out (by decide)))
      replace HB := yam (hb)
      replace HK := yam (Kept.of_grown (S := (fun k_ => P3_ k_)) hg (by repeat (first | (with_reducible first | exact HK.out | apply Kept.alloc | apply Kept.drewN | apply Kept.drew | refine Kept.setCell ?_ (.inr GW213.out) _) | exact HK.out)) (fun k_ e_ => (HO225.out.1 k_ e_).1.1.1))
      have HO228 := yam (ho)
      clear HO225
      clear ho hb hg hat
      refine hK.out _ _ ⟨(blk_cell BK213.out 0).trans rfl, (blk_cell BK213.out 1).trans rfl, (blk_cell BK213.out 2).trans rfl, HS3_⟩ (fun hHeld => ?_)
      clear hK K
      refine norm_ (a' := ?_) ?_ ?_
      rotate_left
      ·show Act.put _ (some 59) _ = _
       simp only [Act.put, yps, i64_w, i32_w]
       rfl
      refine one_ (i := 9) (N := some 64) #[true, true, true, true, true, true, true, true, true, true, false, true, false] rfl rfl (one_of HT_.out (by kernel_rfl)) (by decide) (fun K hK => ?_)
      refine Kd.R_lit_step (Kd.int .i64) _ 3 ?hg (N := 64) ?hd (xs := ([rd t220 x11_1] : List Int)) (inner := [.int .i64 (rd t220 x11_1)]) (ok := fun _ => True) (okp := fun _ => True) ?hr ?hp (fun _ hk => hk) trivial (Below.refl _ _) (Nat.le_refl _) (by simp) ?_; (case hd => rfl); (case hg => rfl); (case hr => first | (go_simp; done) | (go_simp; rfl)); (case hp => exact (Reps.one (show Kd.M (Kd.int .i64) _ _ _ (rd t220 x11_1) [.int .i64 (rd t220 x11_1)] from rfl) (Reps.none _ _)))
      intro v231 w43 ho44 hb hg_ hnew_
      have HS3_ := (hb.cell (World.block_lt_of_cell? _ _ (hHeld.2.2.2))).trans (hHeld.2.2.2)
      clear hg_ hnew_
      (first | rw [← Ny230.out] at ho44 | (simp only [Int.reduceToNat] at ho44; rw [← Ny230.out] at ho44))
      have HO232 := yam (Kd.R_lower (Kd.Yw (Kd.Yw (Kd.Yw (Kd.R_newM (M := fun k_ => (P3_ k_ ∨ w.heap.size ≤ k_)) ho44 (by first | exact HK.out.1 | exact (show Kept w _ (fun k_ => P3_ k_) from by repeat (first | (with_reducible first | exact HK.out | apply Kept.alloc | apply Kept.drewN | apply Kept.drew | refine Kept.setCell ?_ (.inr GW213.out) _) | exact HK.out)).1) (fun k_ h_ => .inr h_)) (Kd.R_lt (Kd.Yz HO_3.out))) (Kd.R_lt (Kd.Yz HO_10.out))) (Kd.R_lt (Kd.Yz HO228.out))) (below_size yhb))
      replace HO_3 := yam (Kd.Ye (Kd.Yz HO_3.out) (Kd.Yb ho44) hb)
      replace HO_10 := yam (Kd.Ye (Kd.Yz HO_10.out) (Kd.Yb ho44) hb)
      replace HO228 := yam (Kd.Ye (Kd.Yz HO228.out) (Kd.Yb ho44) hb)
      replace BK213 := yam (blk_below (g := gb213) (o := .cells #[.int .i64 a0_0, .slice (some ad218) l0_1.length c0_1, .int .i64 a0_2] 67 (0, 0)) (ybz BK213.out) hb)
      replace HK := yam (Kept.below (S := (fun k_ => P3_ k_)) (by repeat (first | (with_reducible first | exact HK.out | apply Kept.alloc | apply Kept.drewN | apply Kept.drew | refine Kept.setCell ?_ (.inr GW213.out) _) | exact HK.out)) hb)
      replace HB := yam (below_step yhb hb)
      clear hb ho44
      refine hK.out _ _ ⟨(blk_cell BK213.out 0).trans rfl, (blk_cell BK213.out 1).trans rfl, (blk_cell BK213.out 2).trans rfl, HS3_⟩ (fun hHeld => ?_)
      clear hK K
      refine norm_ (a' := ?_) ?_ ?_
      rotate_left
      ·show Act.put _ (some 64) _ = _
       simp only [Act.put, yps, i64_w, i32_w]
       rfl
      exact norm_ (by simp only [putAll, Act.put, yps]) (hCont (v224, v227, v231) _ ⟨hHeld, (by (with_reducible repeat (first | apply Kd.Ya | apply Kd.Yn | apply Kd.Yd)); exact Kd.R_mono HO228.out (fun _ hk => ⟨hk.1.1, ⟨hk.2, ⟨hk.1.2.2, hk.1.2.1⟩⟩⟩)), (by (with_reducible repeat (first | apply Kd.Ya | apply Kd.Yn | apply Kd.Yd)); exact Kd.R_mono HO232.out (fun _ hk => ⟨hk.1.1.1.1, ⟨hk.2, ⟨hk.1.2, hk.1.1.2⟩⟩⟩)), (by (with_reducible repeat (first | apply Kd.Ya | apply Kd.Yn | apply Kd.Yd)); exact Kd.R_mono HO_10.out (fun _ hk => ⟨hk.1.1.1, ⟨hk.1.2, ⟨hk.2, hk.1.1.2⟩⟩⟩)), (by (with_reducible repeat (first | apply Kd.Ya | apply Kd.Yn | apply Kd.Yd)); exact Kd.R_mono HO_3.out (fun _ hk => ⟨hk.1.1.1, ⟨hk.1.2, ⟨hk.2, hk.1.1.2⟩⟩⟩)), (ybz BK213.out), (by repeat (first | (with_reducible first | exact HK.out | apply Kept.alloc | apply Kept.drewN | apply Kept.drew | refine Kept.setCell ?_ (.inr GW213.out) _) | exact HK.out)), yhb⟩)
     ·skip
      refine Kd.R_lit_step (Kd.int .i64) _ 3 ?hg (N := 64) ?hd (xs := ([rd t220 x11_1] : List Int)) (inner := [.int .i64 (rd t220 x11_1)]) (ok := fun _ => True) (okp := fun _ => True) ?hr ?hp (fun _ hk => hk) trivial (Below.refl _ _) (Nat.le_refl _) (by simp) ?_; (case hd => rfl); (case hg => rfl); (case hr => first | (go_simp; done) | (go_simp; rfl)); (case hp => exact (Reps.one (show Kd.M (Kd.int .i64) _ _ _ (rd t220 x11_1) [.int .i64 (rd t220 x11_1)] from rfl) (Reps.none _ _)))
      intro v231 w42 ho43 hb hg_ hnew_
      have HS3_ := (hb.cell (World.block_lt_of_cell? _ _ (hHeld.2.2.2))).trans (hHeld.2.2.2)
      clear hg_ hnew_
      (first | rw [← Ny230.out] at ho43 | (simp only [Int.reduceToNat] at ho43; rw [← Ny230.out] at ho43))
      have HO232 := yam (Kd.R_lower (Kd.Yw (Kd.Yw (Kd.Yw (Kd.R_newM (M := fun k_ => (P3_ k_ ∨ w.heap.size ≤ k_)) ho43 (by first | exact HK.out.1 | exact (show Kept w _ (fun k_ => P3_ k_) from by repeat (first | (with_reducible first | exact HK.out | apply Kept.alloc | apply Kept.drewN | apply Kept.drew | refine Kept.setCell ?_ (.inr GW213.out) _) | exact HK.out)).1) (fun k_ h_ => .inr h_)) (Kd.R_lt (Kd.Yz HO_3.out))) (Kd.R_lt (Kd.Yz HO_10.out))) (Kd.R_lt (Kd.Yz HO225.out))) (below_size yhb))
      replace HO_3 := yam (Kd.Ye (Kd.Yz HO_3.out) (Kd.Yb ho43) hb)
      replace HO_10 := yam (Kd.Ye (Kd.Yz HO_10.out) (Kd.Yb ho43) hb)
      replace HO225 := yam (Kd.Ye (Kd.Yz HO225.out) (Kd.Yb ho43) hb)
      replace BK213 := yam (blk_below (g := gb213) (o := .cells #[.int .i64 a0_0, .slice (some ad218) l0_1.length c0_1, .int .i64 a0_2] 67 (0, 0)) (ybz BK213.out) hb)
      replace HK := yam (Kept.below (S := (fun k_ => P3_ k_)) (by repeat (first | (with_reducible first | exact HK.out | apply Kept.alloc | apply Kept.drewN | apply Kept.drew | refine Kept.setCell ?_ (.inr GW213.out) _) | exact HK.out)) hb)
      replace HB := yam (below_step yhb hb)
      clear hb ho43
      refine hK.out _ _ ⟨(blk_cell BK213.out 0).trans rfl, (blk_cell BK213.out 1).trans rfl, (blk_cell BK213.out 2).trans rfl, HS3_⟩ (fun hHeld => ?_)
      clear hK K
      refine norm_ (a' := ?_) ?_ ?_
      rotate_left
      ·show Act.put _ (some 64) _ = _
       simp only [Act.put, yps, i64_w, i32_w]
       rfl
      refine one_ (i := 4) (N := some 59) #[true, true, true, true, true, true, true, true, true, true, false, true, false] rfl rfl (one_of HT_.out (by kernel_rfl)) (by decide) (fun K hK => ?_)
      refine Kd.R_append_rows_step (Kd.int .i64) (w0 := w0) w0.heap.size (by rfl) (.tmp 57) (.tmp 58) 22 3 (.int .i64 0) 8 rfl Try.underlying22 info3 rfl (by decide) (by omega) v224 y223 l2 _ _ _ (fun k_ => (P3_ k_ ∨ w.heap.size ≤ k_) ∧ some k_ ≠ (.slice Ao38 x3_1.length co38 : Value).ownBlock ∧ some k_ ≠ (.slice (some ad229) t220.length co37 : Value).ownBlock ∧ some k_ ≠ (v231 : Value).ownBlock) (fun _ => False) rfl rfl ?aO ?aR (fun _ _ h => h) (fun _ h => h.elim) ?aF ?aB ?aS ?aL ?_
      (case aR => exact Kd.C_kept_now HR2.out (by repeat (first | (with_reducible first | exact HK.out | apply Kept.alloc | apply Kept.drewN | apply Kept.drew | refine Kept.setCell ?_ (.inr GW213.out) _) | exact HK.out)))
      (case aB => exact yhb)
      (case aF => exact (fun k_ hk => ⟨(.inr (Nat.le_trans (by first | exact HK.out.1 | exact (show Kept w _ (fun k_ => P3_ k_) from by repeat (first | (with_reducible first | exact HK.out | apply Kept.alloc | apply Kept.drewN | apply Kept.drew | refine Kept.setCell ?_ (.inr GW213.out) _) | exact HK.out)).1) hk)), Kd.fresh' (Kd.R_lt (Kd.Yz HO_3.out)) k_ hk, Kd.fresh' (Kd.R_lt (Kd.Yz HO_10.out)) k_ hk, Kd.fresh' (Kd.R_lt (Kd.Yz HO232.out)) k_ hk⟩))
      (case aO => exact (by (with_reducible repeat (first | apply Kd.Ya | apply Kd.Yn | apply Kd.Yd)); exact Kd.R_mono HO225.out (fun _ hk => ⟨hk.1.1.1.1, ⟨hk.1.1.2, ⟨hk.1.2, hk.2⟩⟩⟩)))
      (case aS => exact (below_size yhb))
      (case aL => have := LMc33.out; omega)
      intro v227 w44 ho hb hg hat
      have HS3_ := cell_grown hg (hHeld.2.2.2) (by first | (rw [add_block]; exact (fun e_ => (by have h_ := HO225.out.1 _ e_.symm; simp [Value.ownBlock] at h_))) | (show some (Addr.add _ _).block ≠ _; rw [add_block]; exact (fun e_ => (by have h_ := HO225.out.1 _ e_.symm; simp [Value.ownBlock] at h_))) | exact (fun e_ => (by have h_ := HO225.out.1 _ e_.symm; simp [Value.ownBlock] at h_)))
      rw [← Ny226.out] at ho
      replace HO_3 := yam (Kd.R_after (ok := (fun k_ => (P3_ k_ ∨ w.heap.size ≤ k_) ∧ some k_ ≠ (.slice (some ad229) t220.length co37 : Value).ownBlock ∧ some k_ ≠ (v231 : Value).ownBlock)) (by (with_reducible repeat (first | apply Kd.Ya | apply Kd.Yn | apply Kd.Yd)); exact Kd.R_mono HO_3.out (fun _ hk => ⟨⟨hk.1.1.1, ⟨hk.1.1.2, hk.2⟩⟩, hk.1.2⟩)) hg hat)
      replace HO_10 := yam (Kd.R_after (ok := (fun k_ => (P3_ k_ ∨ w.heap.size ≤ k_) ∧ some k_ ≠ (.slice Ao38 x3_1.length co38 : Value).ownBlock ∧ some k_ ≠ (v231 : Value).ownBlock)) (by (with_reducible repeat (first | apply Kd.Ya | apply Kd.Yn | apply Kd.Yd)); exact Kd.R_mono HO_10.out (fun _ hk => ⟨⟨hk.1.1.1, ⟨hk.1.1.2, hk.2⟩⟩, hk.1.2⟩)) hg hat)
      replace BK213 := yam (blk_grown (g := gb213) (o := .cells #[.int .i64 a0_0, .slice (some ad218) l0_1.length c0_1, .int .i64 a0_2] 67 (0, 0)) (ybz BK213.out) hg (Kd.R_ne HO225.out BK213.out (by decide)))
      replace HO232 := yam (Kd.R_after (ok := (fun k_ => (P3_ k_ ∨ w.heap.size ≤ k_) ∧ some k_ ≠ (.slice Ao38 x3_1.length co38 : Value).ownBlock ∧ some k_ ≠ (.slice (some ad229) t220.length co37 : Value).ownBlock)) (by (with_reducible repeat (first | apply Kd.Ya | apply Kd.Yn | apply Kd.Yd)); exact Kd.R_mono HO232.out (fun _ hk => ⟨⟨hk.1.1.1.1, ⟨hk.1.1.2, hk.1.2⟩⟩, hk.2⟩)) hg hat)
      replace HB := yam (hb)
      replace HK := yam (Kept.of_grown (S := (fun k_ => P3_ k_)) hg (by repeat (first | (with_reducible first | exact HK.out | apply Kept.alloc | apply Kept.drewN | apply Kept.drew | refine Kept.setCell ?_ (.inr GW213.out) _) | exact HK.out)) (fun k_ e_ => (HO225.out.1 k_ e_).1.1.1.1))
      have HO228 := yam (ho)
      clear HO225
      clear ho hb hg hat
      refine hK.out _ _ ⟨(blk_cell BK213.out 0).trans rfl, (blk_cell BK213.out 1).trans rfl, (blk_cell BK213.out 2).trans rfl, HS3_⟩ (fun hHeld => ?_)
      clear hK K
      refine norm_ (a' := ?_) ?_ ?_
      rotate_left
      ·show Act.put _ (some 59) _ = _
       simp only [Act.put, yps, i64_w, i32_w]
       rfl
      exact norm_ (by simp only [putAll, Act.put, yps]) (hCont (v224, v227, v231) _ ⟨hHeld, (by (with_reducible repeat (first | apply Kd.Ya | apply Kd.Yn | apply Kd.Yd)); exact Kd.R_mono HO228.out (fun _ hk => ⟨hk.1, ⟨hk.2.2.2, ⟨hk.2.2.1, hk.2.1⟩⟩⟩)), (by (with_reducible repeat (first | apply Kd.Ya | apply Kd.Yn | apply Kd.Yd)); exact Kd.R_mono HO232.out (fun _ hk => ⟨hk.1.1, ⟨hk.2, ⟨hk.1.2.2, hk.1.2.1⟩⟩⟩)), (by (with_reducible repeat (first | apply Kd.Ya | apply Kd.Yn | apply Kd.Yd)); exact Kd.R_mono HO_10.out (fun _ hk => ⟨hk.1.1, ⟨hk.2, ⟨hk.1.2.2, hk.1.2.1⟩⟩⟩)), (by (with_reducible repeat (first | apply Kd.Ya | apply Kd.Yn | apply Kd.Yd)); exact Kd.R_mono HO_3.out (fun _ hk => ⟨hk.1.1, ⟨hk.2, ⟨hk.1.2.2, hk.1.2.1⟩⟩⟩)), (ybz BK213.out), (by repeat (first | (with_reducible first | exact HK.out | apply Kept.alloc | apply Kept.drewN | apply Kept.drew | refine Kept.setCell ?_ (.inr GW213.out) _) | exact HK.out)), yhb⟩)
    ·skip
     refine Kd.R_lit_step (Kd.int .i64) _ 3 ?hg (N := 64) ?hd (xs := ([rd t220 x11_1] : List Int)) (inner := [.int .i64 (rd t220 x11_1)]) (ok := fun _ => True) (okp := fun _ => True) ?hr ?hp (fun _ hk => hk) trivial (Below.refl _ _) (Nat.le_refl _) (by simp) ?_; (case hd => rfl); (case hg => rfl); (case hr => first | (go_simp; done) | (go_simp; rfl)); (case hp => exact (Reps.one (show Kd.M (Kd.int .i64) _ _ _ (rd t220 x11_1) [.int .i64 (rd t220 x11_1)] from rfl) (Reps.none _ _)))
     intro v231 w40 ho41 hb hg_ hnew_
     have HS3_ := (hb.cell (World.block_lt_of_cell? _ _ (hHeld.2.2.2))).trans (hHeld.2.2.2)
     clear hg_ hnew_
     (first | rw [← Ny230.out] at ho41 | (simp only [Int.reduceToNat] at ho41; rw [← Ny230.out] at ho41))
     have HO232 := yam (Kd.R_lower (Kd.Yw (Kd.Yw (Kd.R_newM (M := fun k_ => (P3_ k_ ∨ w.heap.size ≤ k_)) ho41 (by first | exact HK.out.1 | exact (show Kept w _ (fun k_ => P3_ k_) from by repeat (first | (with_reducible first | exact HK.out | apply Kept.alloc | apply Kept.drewN | apply Kept.drew | refine Kept.setCell ?_ (.inr GW213.out) _) | exact HK.out)).1) (fun k_ h_ => .inr h_)) (Kd.R_lt (Kd.Yz HO_3.out))) (Kd.R_lt (Kd.Yz HO_10.out))) (below_size yhb))
     replace HO_3 := yam (Kd.Ye (Kd.Yz HO_3.out) (Kd.Yb ho41) hb)
     replace HO_10 := yam (Kd.Ye (Kd.Yz HO_10.out) (Kd.Yb ho41) hb)
     replace BK213 := yam (blk_below (g := gb213) (o := .cells #[.int .i64 a0_0, .slice (some ad218) l0_1.length c0_1, .int .i64 a0_2] 67 (0, 0)) (ybz BK213.out) hb)
     replace HK := yam (Kept.below (S := (fun k_ => P3_ k_)) (by repeat (first | (with_reducible first | exact HK.out | apply Kept.alloc | apply Kept.drewN | apply Kept.drew | refine Kept.setCell ?_ (.inr GW213.out) _) | exact HK.out)) hb)
     replace HB := yam (below_step yhb hb)
     clear hb ho41
     refine hK.out _ _ ⟨(blk_cell BK213.out 0).trans rfl, (blk_cell BK213.out 1).trans rfl, (blk_cell BK213.out 2).trans rfl, HS3_⟩ (fun hHeld => ?_)
     clear hK K
     refine norm_ (a' := ?_) ?_ ?_
     rotate_left
     ·show Act.put _ (some 64) _ = _
      simp only [Act.put, yps, i64_w, i32_w]
      rfl
     refine one_ (i := 2) (N := some 57) #[true, true, true, true, false, true, true, true, true, true, false, true, false] rfl rfl (one_of HT_.out (by kernel_rfl)) (by decide) (fun K hK => ?_)
     refine Kd.R_lit_step (Kd.int .i64) _ 3 ?hg (N := 57) ?hd (xs := ([] : List Int)) (inner := []) (ok := fun _ => True) (okp := fun _ => True) ?hr ?hp (fun _ hk => hk) trivial (Below.refl _ _) (Nat.le_refl _) (by simp) ?_; (case hd => rfl); (case hg => rfl); (case hr => first | (go_simp; done) | (go_simp; rfl)); (case hp => exact (Reps.none _ _))
     intro v224 w42 ho43 hb hg_ hnew_
     have HS3_ := (hb.cell (World.block_lt_of_cell? _ _ (hHeld.2.2.2))).trans (hHeld.2.2.2)
     clear hg_ hnew_
     (first | rw [← Ny223.out] at ho43 | (simp only [Int.reduceToNat] at ho43; rw [← Ny223.out] at ho43))
     have HO225 := yam (Kd.R_lower (Kd.Yw (Kd.Yw (Kd.Yw (Kd.R_newM (M := fun k_ => (P3_ k_ ∨ w.heap.size ≤ k_)) ho43 (by first | exact HK.out.1 | exact (show Kept w _ (fun k_ => P3_ k_) from by repeat (first | (with_reducible first | exact HK.out | apply Kept.alloc | apply Kept.drewN | apply Kept.drew | refine Kept.setCell ?_ (.inr GW213.out) _) | exact HK.out)).1) (fun k_ h_ => .inr h_)) (Kd.R_lt (Kd.Yz HO_3.out))) (Kd.R_lt (Kd.Yz HO_10.out))) (Kd.R_lt (Kd.Yz HO232.out))) (below_size yhb))
     replace HO_3 := yam (Kd.Ye (Kd.Yz HO_3.out) (Kd.Yb ho43) hb)
     replace HO_10 := yam (Kd.Ye (Kd.Yz HO_10.out) (Kd.Yb ho43) hb)
     replace HO232 := yam (Kd.Ye (Kd.Yz HO232.out) (Kd.Yb ho43) hb)
     replace BK213 := yam (blk_below (g := gb213) (o := .cells #[.int .i64 a0_0, .slice (some ad218) l0_1.length c0_1, .int .i64 a0_2] 67 (0, 0)) (ybz BK213.out) hb)
     replace HK := yam (Kept.below (S := (fun k_ => P3_ k_)) (by repeat (first | (with_reducible first | exact HK.out | apply Kept.alloc | apply Kept.drewN | apply Kept.drew | refine Kept.setCell ?_ (.inr GW213.out) _) | exact HK.out)) hb)
     replace HB := yam (below_step yhb hb)
     clear hb ho43
     refine hK.out _ _ ⟨(blk_cell BK213.out 0).trans rfl, (blk_cell BK213.out 1).trans rfl, (blk_cell BK213.out 2).trans rfl, HS3_⟩ (fun hHeld => ?_)
     clear hK K
     refine norm_ (a' := ?_) ?_ ?_
     rotate_left
     ·show Act.put _ (some 57) _ = _
      simp only [Act.put, yps, i64_w, i32_w]
      rfl
     refine one_ (i := 4) (N := some 59) #[true, true, true, true, true, true, true, true, true, true, false, true, false] rfl rfl (one_of HT_.out (by kernel_rfl)) (by decide) (fun K hK => ?_)
     refine Kd.R_append_rows_step (Kd.int .i64) (w0 := w0) w0.heap.size (by rfl) (.tmp 57) (.tmp 58) 22 3 (.int .i64 0) 8 rfl Try.underlying22 info3 rfl (by decide) (by omega) v224 y223 l2 _ _ _ (fun k_ => (P3_ k_ ∨ w.heap.size ≤ k_) ∧ some k_ ≠ (.slice Ao38 x3_1.length co38 : Value).ownBlock ∧ some k_ ≠ (.slice (some ad229) t220.length co37 : Value).ownBlock ∧ some k_ ≠ (v231 : Value).ownBlock) (fun _ => False) rfl rfl ?aO ?aR (fun _ _ h => h) (fun _ h => h.elim) ?aF ?aB ?aS ?aL ?_
     (case aR => exact Kd.C_kept_now HR2.out (by repeat (first | (with_reducible first | exact HK.out | apply Kept.alloc | apply Kept.drewN | apply Kept.drew | refine Kept.setCell ?_ (.inr GW213.out) _) | exact HK.out)))
     (case aB => exact yhb)
     (case aF => exact (fun k_ hk => ⟨(.inr (Nat.le_trans (by first | exact HK.out.1 | exact (show Kept w _ (fun k_ => P3_ k_) from by repeat (first | (with_reducible first | exact HK.out | apply Kept.alloc | apply Kept.drewN | apply Kept.drew | refine Kept.setCell ?_ (.inr GW213.out) _) | exact HK.out)).1) hk)), Kd.fresh' (Kd.R_lt (Kd.Yz HO_3.out)) k_ hk, Kd.fresh' (Kd.R_lt (Kd.Yz HO_10.out)) k_ hk, Kd.fresh' (Kd.R_lt (Kd.Yz HO232.out)) k_ hk⟩))
     (case aO => exact (by (with_reducible repeat (first | apply Kd.Ya | apply Kd.Yn | apply Kd.Yd)); exact Kd.R_mono HO225.out (fun _ hk => ⟨hk.1.1.1.1, ⟨hk.1.1.2, ⟨hk.1.2, hk.2⟩⟩⟩)))
     (case aS => exact (below_size yhb))
     (case aL => have := LMc33.out; omega)
     intro v227 w44 ho hb hg hat
     have HS3_ := cell_grown hg (hHeld.2.2.2) (by first | (rw [add_block]; exact (fun e_ => (by have h_ := HO225.out.1 _ e_.symm; simp [Value.ownBlock] at h_))) | (show some (Addr.add _ _).block ≠ _; rw [add_block]; exact (fun e_ => (by have h_ := HO225.out.1 _ e_.symm; simp [Value.ownBlock] at h_))) | exact (fun e_ => (by have h_ := HO225.out.1 _ e_.symm; simp [Value.ownBlock] at h_)))
     rw [← Ny226.out] at ho
     replace HO_3 := yam (Kd.R_after (ok := (fun k_ => (P3_ k_ ∨ w.heap.size ≤ k_) ∧ some k_ ≠ (.slice (some ad229) t220.length co37 : Value).ownBlock ∧ some k_ ≠ (v231 : Value).ownBlock)) (by (with_reducible repeat (first | apply Kd.Ya | apply Kd.Yn | apply Kd.Yd)); exact Kd.R_mono HO_3.out (fun _ hk => ⟨⟨hk.1.1.1, ⟨hk.1.1.2, hk.1.2⟩⟩, hk.2⟩)) hg hat)
     replace HO_10 := yam (Kd.R_after (ok := (fun k_ => (P3_ k_ ∨ w.heap.size ≤ k_) ∧ some k_ ≠ (.slice Ao38 x3_1.length co38 : Value).ownBlock ∧ some k_ ≠ (v231 : Value).ownBlock)) (by (with_reducible repeat (first | apply Kd.Ya | apply Kd.Yn | apply Kd.Yd)); exact Kd.R_mono HO_10.out (fun _ hk => ⟨⟨hk.1.1.1, ⟨hk.1.1.2, hk.1.2⟩⟩, hk.2⟩)) hg hat)
     replace BK213 := yam (blk_grown (g := gb213) (o := .cells #[.int .i64 a0_0, .slice (some ad218) l0_1.length c0_1, .int .i64 a0_2] 67 (0, 0)) (ybz BK213.out) hg (Kd.R_ne HO225.out BK213.out (by decide)))
     replace HO232 := yam (Kd.R_after (ok := (fun k_ => (P3_ k_ ∨ w.heap.size ≤ k_) ∧ some k_ ≠ (.slice Ao38 x3_1.length co38 : Value).ownBlock ∧ some k_ ≠ (.slice (some ad229) t220.length co37 : Value).ownBlock)) (by (with_reducible repeat (first | apply Kd.Ya | apply Kd.Yn | apply Kd.Yd)); exact Kd.R_mono HO232.out (fun _ hk => ⟨⟨hk.1.1.1.1, ⟨hk.1.1.2, hk.1.2⟩⟩, hk.2⟩)) hg hat)
     replace HB := yam (hb)
     replace HK := yam (Kept.of_grown (S := (fun k_ => P3_ k_)) hg (by repeat (first | (with_reducible first | exact HK.out | apply Kept.alloc | apply Kept.drewN | apply Kept.drew | refine Kept.setCell ?_ (.inr GW213.out) _) | exact HK.out)) (fun k_ e_ => (HO225.out.1 k_ e_).1.1.1.1))
     have HO228 := yam (ho)
     clear HO225
     clear ho hb hg hat
     refine hK.out _ _ ⟨(blk_cell BK213.out 0).trans rfl, (blk_cell BK213.out 1).trans rfl, (blk_cell BK213.out 2).trans rfl, HS3_⟩ (fun hHeld => ?_)
     clear hK K
     refine norm_ (a' := ?_) ?_ ?_
     rotate_left
     ·show Act.put _ (some 59) _ = _
      simp only [Act.put, yps, i64_w, i32_w]
      rfl
     exact norm_ (by simp only [putAll, Act.put, yps]) (hCont (v224, v227, v231) _ ⟨hHeld, (by (with_reducible repeat (first | apply Kd.Ya | apply Kd.Yn | apply Kd.Yd)); exact Kd.R_mono HO228.out (fun _ hk => ⟨hk.1, ⟨hk.2.2.2, ⟨hk.2.2.1, hk.2.1⟩⟩⟩)), (by (with_reducible repeat (first | apply Kd.Ya | apply Kd.Yn | apply Kd.Yd)); exact Kd.R_mono HO232.out (fun _ hk => ⟨hk.1.1, ⟨hk.2, ⟨hk.1.2.2, hk.1.2.1⟩⟩⟩)), (by (with_reducible repeat (first | apply Kd.Ya | apply Kd.Yn | apply Kd.Yd)); exact Kd.R_mono HO_10.out (fun _ hk => ⟨hk.1.1, ⟨hk.2, ⟨hk.1.2.2, hk.1.2.1⟩⟩⟩)), (by (with_reducible repeat (first | apply Kd.Ya | apply Kd.Yn | apply Kd.Yd)); exact Kd.R_mono HO_3.out (fun _ hk => ⟨hk.1.1, ⟨hk.2, ⟨hk.1.2.2, hk.1.2.1⟩⟩⟩)), (ybz BK213.out), (by repeat (first | (with_reducible first | exact HK.out | apply Kept.alloc | apply Kept.drewN | apply Kept.drew | refine Kept.setCell ?_ (.inr GW213.out) _) | exact HK.out)), yhb⟩)
   rintro ⟨v224, v227, v231⟩ w45 ⟨hS_, h0_, h1_, h2_, h3_, h4_, h5_, h6_⟩
   have HO228 : Aside0 (Kd.R (Kd.int .i64) 3 w45 w0.heap.size (fun k_ => (P3_ k_ ∨ w.heap.size ≤ k_) ∧ some k_ ≠ (v231 : Value).ownBlock ∧ some k_ ≠ (.slice (some ad229) t220.length co37 : Value).ownBlock ∧ some k_ ≠ (.slice Ao38 x3_1.length co38 : Value).ownBlock) v227 y226) := ⟨h0_⟩
   have HO232 : Aside0 (Kd.R (Kd.int .i64) 3 w45 w0.heap.size (fun k_ => (P3_ k_ ∨ w.heap.size ≤ k_) ∧ some k_ ≠ (v227 : Value).ownBlock ∧ some k_ ≠ (.slice (some ad229) t220.length co37 : Value).ownBlock ∧ some k_ ≠ (.slice Ao38 x3_1.length co38 : Value).ownBlock) v231 y230) := ⟨h1_⟩
   replace HO_10 : Aside0 (Kd.R (Kd.int .i64) 3 w45 w0.heap.size (fun k_ => (P3_ k_ ∨ w.heap.size ≤ k_) ∧ some k_ ≠ (v227 : Value).ownBlock ∧ some k_ ≠ (v231 : Value).ownBlock ∧ some k_ ≠ (.slice Ao38 x3_1.length co38 : Value).ownBlock) (.slice (some ad229) t220.length co37) t220) := ⟨h2_⟩
   replace HO_3 : Aside0 (Kd.R (Kd.int .i64) 3 w45 w0.heap.size (fun k_ => (P3_ k_ ∨ w.heap.size ≤ k_) ∧ some k_ ≠ (v227 : Value).ownBlock ∧ some k_ ≠ (v231 : Value).ownBlock ∧ some k_ ≠ (.slice (some ad229) t220.length co37 : Value).ownBlock) (.slice Ao38 x3_1.length co38) x3_1) := ⟨h3_⟩
   replace BK213 : Aside0 (w45.heap[gb213]? = some (.cells #[.int .i64 a0_0, .slice (some ad218) l0_1.length c0_1, .int .i64 a0_2] 67 (0, 0))) := ⟨h4_⟩
   replace HK : Aside0 (Kept w w45 (fun k_ => P3_ k_)) := ⟨h5_⟩
   replace HB : Aside0 (Below w0.heap.size w0 w45) := ⟨h6_⟩
   clear h0_ h1_ h2_ h3_ h4_ h5_ h6_
   have hHeld : w45.cell? ⟨gb213, 0, none⟩ = some (.int .i64 a0_0) ∧ w45.cell? ⟨gb213, 1, none⟩ = some (.slice (some ad218) l0_1.length c0_1) ∧ w45.cell? ⟨gb213, 2, none⟩ = some (.int .i64 a0_2) ∧ w45.cell? (ad229.add (x11_1).toNat) = some (.int .i64 (rd t220 x11_1)) := hS_
   obtain ⟨Ao47, co47, eo47⟩ := Kd.R_slice HO232.out
   (first | subst eo47 | (injection eo47 with f1_ f2_ f3_; have f4_ := f1_.symm; have f5_ := f3_.symm; clear f1_ f2_ f3_; subst f4_; subst f5_))
   refine norm_ (a' := ?_) ?_ ?_
   rotate_left
   ·simp only [putAll, Act.put, yps]
    rfl
   refine one_ (i := 10) (N := some 65) #[true, true, true, true, true, true, true, true, true, true, true, true, false] rfl rfl (one_of HT_.out (by kernel_rfl)) (by decide) (fun K hK => ?_)
   refine Kd.R_append_rows_step (Kd.int .i64) (w0 := w0) w0.heap.size (by rfl) (.tmp 59) (.tmp 64) 22 3 (.int .i64 0) 8 rfl Try.underlying22 info3 rfl (by decide) (by omega) v227 y226 y230 _ _ _ (fun k_ => (P3_ k_ ∨ w.heap.size ≤ k_) ∧ some k_ ≠ (.slice Ao38 x3_1.length co38 : Value).ownBlock ∧ some k_ ≠ (.slice (some ad229) t220.length co37 : Value).ownBlock ∧ some k_ ≠ (.slice Ao47 y230.length co47 : Value).ownBlock) (fun _ => False) rfl rfl ?aO ?aR (fun _ _ h => h) (fun _ h => h.elim) ?aF ?aB ?aS ?aL ?_
   (case aR => repeat (first | exact (Kd.Yr HO232.out).2.2 | (with_reducible refine Kd.C_alloc ?_ _) | (with_reducible refine Kd.C_drewN ?_ _) | (with_reducible refine Kd.C_drew ?_)))
   (case aB => exact yhb)
   (case aF => exact (fun k_ hk => ⟨(.inr (Nat.le_trans (by first | exact HK.out.1 | exact (show Kept w _ (fun k_ => P3_ k_) from by repeat (first | (with_reducible first | exact HK.out | apply Kept.alloc | apply Kept.drewN | apply Kept.drew | refine Kept.setCell ?_ (.inr GW213.out) _) | exact HK.out)).1) hk)), Kd.fresh' (Kd.R_lt (Kd.Yz HO_3.out)) k_ hk, Kd.fresh' (Kd.R_lt (Kd.Yz HO_10.out)) k_ hk, Kd.fresh' (Kd.R_lt (Kd.Yz HO232.out)) k_ hk⟩))
   (case aO => exact (by (with_reducible repeat (first | apply Kd.Ya | apply Kd.Yn | apply Kd.Yd)); exact Kd.R_mono HO228.out (fun _ hk => ⟨hk.1, ⟨hk.2.2.2, ⟨hk.2.2.1, hk.2.1⟩⟩⟩)))
   (case aS => exact (below_size yhb))
   (case aL => have := LMc35.out; omega)
   intro v234 w46 ho hb hg hat
   have HS3_ := cell_grown hg (hHeld.2.2.2) (by first | (rw [add_block]; exact (fun e_ => (by have h_ := HO228.out.1 _ e_.symm; simp [Value.ownBlock] at h_))) | (show some (Addr.add _ _).block ≠ _; rw [add_block]; exact (fun e_ => (by have h_ := HO228.out.1 _ e_.symm; simp [Value.ownBlock] at h_))) | exact (fun e_ => (by have h_ := HO228.out.1 _ e_.symm; simp [Value.ownBlock] at h_)))
   rw [← Ny233.out] at ho
   replace HO_3 := yam (Kd.R_after (ok := (fun k_ => (P3_ k_ ∨ w.heap.size ≤ k_) ∧ some k_ ≠ (.slice (some ad229) t220.length co37 : Value).ownBlock ∧ some k_ ≠ (.slice Ao47 y230.length co47 : Value).ownBlock)) (by (with_reducible repeat (first | apply Kd.Ya | apply Kd.Yn | apply Kd.Yd)); exact Kd.R_mono HO_3.out (fun _ hk => ⟨⟨hk.1, ⟨hk.2.2.2, hk.2.2.1⟩⟩, hk.2.1⟩)) hg hat)
   replace HO_10 := yam (Kd.R_after (ok := (fun k_ => (P3_ k_ ∨ w.heap.size ≤ k_) ∧ some k_ ≠ (.slice Ao38 x3_1.length co38 : Value).ownBlock ∧ some k_ ≠ (.slice Ao47 y230.length co47 : Value).ownBlock)) (by (with_reducible repeat (first | apply Kd.Ya | apply Kd.Yn | apply Kd.Yd)); exact Kd.R_mono HO_10.out (fun _ hk => ⟨⟨hk.1, ⟨hk.2.2.2, hk.2.2.1⟩⟩, hk.2.1⟩)) hg hat)
   replace BK213 := yam (blk_grown (g := gb213) (o := .cells #[.int .i64 a0_0, .slice (some ad218) l0_1.length c0_1, .int .i64 a0_2] 67 (0, 0)) (ybz BK213.out) hg (Kd.R_ne HO228.out BK213.out (by decide)))
   replace HO232 := yam (Kd.R_after (ok := (fun k_ => (P3_ k_ ∨ w.heap.size ≤ k_) ∧ some k_ ≠ (.slice Ao38 x3_1.length co38 : Value).ownBlock ∧ some k_ ≠ (.slice (some ad229) t220.length co37 : Value).ownBlock)) (by (with_reducible repeat (first | apply Kd.Ya | apply Kd.Yn | apply Kd.Yd)); exact Kd.R_mono HO232.out (fun _ hk => ⟨⟨hk.1, ⟨hk.2.2.2, hk.2.2.1⟩⟩, hk.2.1⟩)) hg hat)
   replace HB := yam (hb)
   replace HK := yam (Kept.of_grown (S := (fun k_ => P3_ k_)) hg (by repeat (first | (with_reducible first | exact HK.out | apply Kept.alloc | apply Kept.drewN | apply Kept.drew | refine Kept.setCell ?_ (.inr GW213.out) _) | exact HK.out)) (fun k_ e_ => (HO228.out.1 k_ e_).1))
   have HO235 := yam (ho)
   clear HO228
   clear ho hb hg hat
   obtain ⟨Ao48, co48, eo48⟩ := Kd.R_slice HO235.out
   (first | subst eo48 | (injection eo48 with f1_ f2_ f3_; have f4_ := f1_.symm; have f5_ := f3_.symm; clear f1_ f2_ f3_; subst f4_; subst f5_))
   refine hK.out _ _ ⟨(blk_cell BK213.out 0).trans rfl, (blk_cell BK213.out 1).trans rfl, (blk_cell BK213.out 2).trans rfl, HS3_⟩ (fun hHeld => ?_)
   clear hK K
   refine norm_ (a' := ?_) ?_ ?_
   rotate_left
   ·show Act.put _ (some 65) _ = _
    simp only [Act.put, yps, i64_w, i32_w]
    rfl
   refine one_ (i := 12) (N := some 67) #[true, true, true, true, true, true, true, true, true, true, true, true, true] rfl rfl (one_of HT_.out (by kernel_rfl)) (by decide) (fun K hK => ?_)
   refine goes_ Try.func90 (by kernel_rfl) rfl #[.agg #[.int .i64 a0_0, .slice (some ad218) l0_1.length c0_1, .int .i64 a0_2], .slice (some ad219) l1.length c1, .slice Ao48 y233.length co48, .slice Ao38 x3_1.length co38] (by rfl) rfl rfl ymd ?_
   with_reducible refine (ih k1 (by have := HK1.out; omega) a0_0 _ _ l0_1 a0_2 _ _ l1 _ _ y233 (fun k_ => some k_ = (.slice Ao38 x3_1.length co38 : Value).ownBlock) (.slice Ao38 x3_1.length co38) x3_1 t236 w0 _ ?side1 ?side2 ?side3 ?side4 ?side5 ?side6 ?side7 ?side8 A36.out).mono ?_
   (case side1 => repeat (first | (with_reducible first | exact HB.out | apply yea | apply yen | apply yed | refine below_set ?_ GE213.out) | exact HB.out))
   (case side2 => exact Kd.C_kept_call HR0_1.out (by repeat (first | (with_reducible first | exact HK.out | apply Kept.alloc | apply Kept.drewN | apply Kept.drew | refine Kept.setCell ?_ (.inr GW213.out) _) | exact HK.out)) (fun k_ hs_ => (fun e_ => (HO_3.out.1 k_ e_.symm).1.1) hs_))
   (case side3 => exact HC0_1.out)
   (case side4 => exact Kd.C_kept_call HR1.out (by repeat (first | (with_reducible first | exact HK.out | apply Kept.alloc | apply Kept.drewN | apply Kept.drew | refine Kept.setCell ?_ (.inr GW213.out) _) | exact HK.out)) (fun k_ hs_ => (fun e_ => (HO_3.out.1 k_ e_.symm).1.1) hs_))
   (case side5 => exact HC1.out)
   (case side6 => exact Kd.C_kept_own (HO235.out) (fun k_ hk_ hs_ => (hk_.2.1) hs_))
   (case side7 => exact (Kd.Yr HO235.out).2.1)
   (case side8 => exact Kd.R_tight rfl HO_3.out)
   rintro e w49 ⟨rfl, hy0, hb, hkp⟩
   have HS3_ := cell_kept (hHeld.2.2.2) hkp (by first | (rw [add_block]; exact (fun hs_ => (((HO_10.out).1 _ rfl).1.2.1) hs_)) | (show ¬ _; simp only [add_block]; exact (fun hs_ => (((HO_10.out).1 _ rfl).1.2.1) hs_)) | exact (fun hs_ => (((HO_10.out).1 _ rfl).1.2.1) hs_))
   refine ⟨_, rfl, ?_⟩
   replace HO_10 := yam (Kd.R_mono (ok' := fun k_ => (P3_ k_ ∨ w.heap.size ≤ k_) ∧ some k_ ≠ (.slice Ao38 x3_1.length co38 : Value).ownBlock ∧ some k_ ≠ (.slice Ao47 y230.length co47 : Value).ownBlock ∧ some k_ ≠ (.slice Ao48 y233.length co48 : Value).ownBlock) (Kd.R_keptB (HO_10.out) hkp (fun k_ hk_ hs_ => (hk_.1.2.1) hs_)) (fun k_ hk_ => ⟨hk_.1.1.1, hk_.1.1.2.1, hk_.1.1.2.2, hk_.1.2⟩))
   replace BK213 := yam (blk_kept (ybz BK213.out) hkp (fun hs_ => (fun e_ => (Kd.R_ne HO_3.out BK213.out (by decide)) e_) hs_))
   replace HO232 := yam (Kd.R_mono (ok' := fun k_ => (P3_ k_ ∨ w.heap.size ≤ k_) ∧ some k_ ≠ (.slice Ao38 x3_1.length co38 : Value).ownBlock ∧ some k_ ≠ (.slice (some ad229) t220.length co37 : Value).ownBlock ∧ some k_ ≠ (.slice Ao48 y233.length co48 : Value).ownBlock) (Kd.R_keptB (HO232.out) hkp (fun k_ hk_ hs_ => (hk_.1.2.1) hs_)) (fun k_ hk_ => ⟨hk_.1.1.1, hk_.1.1.2.1, hk_.1.1.2.2, hk_.1.2⟩))
   replace HO235 := yam (Kd.R_mono (ok' := fun k_ => (P3_ k_ ∨ w.heap.size ≤ k_) ∧ some k_ ≠ (.slice Ao38 x3_1.length co38 : Value).ownBlock ∧ some k_ ≠ (.slice (some ad229) t220.length co37 : Value).ownBlock ∧ some k_ ≠ (.slice Ao47 y230.length co47 : Value).ownBlock) (Kd.R_keptB (HO235.out) hkp (fun k_ hk_ hs_ => (hk_.2.1) hs_)) (fun k_ hk_ => ⟨hk_.1.1, hk_.1.2.1, hk_.1.2.2.1, hk_.1.2.2.2⟩))
   replace HK := yam (Kept.then_ (S := (fun k_ => P3_ k_)) (by repeat (first | (with_reducible first | exact HK.out | apply Kept.alloc | apply Kept.drewN | apply Kept.drew | refine Kept.setCell ?_ (.inr GW213.out) _) | exact HK.out)) hkp (fun k_ hs_ => (fun e_ => (HO_3.out.1 k_ e_.symm).1.1) hs_))
   replace HO_3 := yam (Kd.R_reok rfl hy0 (fun k_ e_ => HO_3.out.1 k_ e_))
   replace HB := yam (hb)
   (try clear hb)
   (try clear hkp)
   (try clear hy0)
   refine hK.out _ _ ⟨(blk_cell BK213.out 0).trans rfl, (blk_cell BK213.out 1).trans rfl, (blk_cell BK213.out 2).trans rfl, HS3_⟩ (fun hHeld => ?_)
   clear hK K
   refine norm_ (a' := ?_) ?_ ?_
   rotate_left
   ·show Act.put _ (some 67) _ = _
    simp only [Act.put, yps, i64_w, i32_w]
    rfl
   refine done_ (done_of HT_.out (by kernel_rfl)) ?_
   try go_wp2
   go_roundg k1
   case measure => have := HK1.out; omega
   case rel => exact ⟨(t236), (wrap64 (x11_1 + 1)), yeq, H', ⟨by have := HK1.out; omega⟩, ⟨by (with_reducible repeat (first | apply Kd.Ya | apply Kd.Yn | apply Kd.Yd)); exact Kd.R_mono HO_3.out (fun _ hk => ⟨hk.1.1, hk.1.2.1⟩)⟩, ⟨by (with_reducible repeat (first | apply Kd.Ya | apply Kd.Yn | apply Kd.Yd)); exact Kd.R_mono HO_10.out (fun _ hk => ⟨hk.1, hk.2.1⟩)⟩, ⟨by (with_reducible repeat (first | refine ybn ?_ _ | refine ybd ?_ | refine yba ?_ _)); exact BK213.out⟩, ⟨by repeat (first | (with_reducible first | exact HK.out | apply Kept.alloc | apply Kept.drewN | apply Kept.drew | refine Kept.setCell ?_ (.inr GW213.out) _) | exact HK.out)⟩, ⟨yhb⟩⟩
end Go.Proofs.Ytdemlminhkhonaa.P
