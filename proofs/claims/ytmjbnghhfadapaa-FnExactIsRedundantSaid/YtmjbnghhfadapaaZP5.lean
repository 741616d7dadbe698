/- The machine's side: each Go function as a plain Lean function and the proof that the machine's call does what that function says; written by this session's own program over the kit's print. -/
import Derived.Test.YtmjbnghhfadapaaZP1
import Derived.Test.YtmjbnghhfadapaaZP4
namespace Go.Proofs.Ytmjbnghhfadapaa.P
open Go.RowKit Go.Proofs.YtmjbnghhfadapaaW.PrintWords Go.Proofs.YtmjbnghhfadapaaW.PrintLast Go.Proofs.YtmjbnghhfadapaaW.PrintMore
attribute [local go_sem] max2_int min2_int max_two min_two max_three min_three max_four min_four   -- for this text's walks alone
set_option linter.unusedVariables false
set_option linter.unusedSimpArgs false
mutual
def impl_RuleValid.l0 : Nat → Int → List Int → Int → Int → Int → List Int → Int → Option (Bool)
 | 0, _, _, _, _, _, _, _ => none
 | k + 1, x1, x12, x13, x14, x144000, x144001, x144002 => if x14 < x13 then (if 0 ≤ x14 then (if x14 < (x12.length : Int) then (if (rd x12 x14) < 0 then (some false) else (if (rd x12 x14) ≥ (wrap64 (x1 * x1)) then (some false) else (if x14 ≤ (x144001.length : Int) then ((slices_Contains_int_int.f k (x144001.take (x14 : Int).toNat) (rd x12 x14)).bind fun t147 => (if t147 = true then (some false) else (impl_RuleValid.l0 k x1 x12 x13 (wrap64 (x14 + 1)) x144000 x144001 x144002))) else (none)))) else (none)) else (none)) else (if x144000 = 1 then (if (x144001.length : Int) ≥ 2 then (if (x144001.length : Int) ≤ 4 then (some (x144002 == 0)) else (some false)) else (some false)) else (if x144000 = 2 then (impl_RuleValid.j1 k x1 (x144001.length : Int) x144000 (x144000 == 2) x144000 x144001 x144002) else (impl_RuleValid.j1 k x1 (x144001.length : Int) x144000 (x144000 == 3) x144000 x144001 x144002)))
def impl_RuleValid.j1 : Nat → Int → Int → Int → Bool → Int → List Int → Int → Option (Bool)
 | 0, _, _, _, _, _, _, _ => none
 | k + 1, x1, x7, x41, x55, x144000, x144001, x144002 => if x55 = true then (if x7 ≥ 1 then (if x7 ≤ 4 then (if x144002 ≥ 1 then (some (decide (x144002 ≤ (wrap64 ((wrap64 ((wrap64 (x1 * x1)) * x1)) * x1))))) else (some false)) else (some false)) else (some false)) else (if x41 = 4 then (if x7 = 2 then (some (x144002 == 0)) else (some false)) else (if x41 = 5 then (if x7 = 2 then (if x144002 ≥ 0 then (some (decide (x144002 < x1))) else (some false)) else (some false)) else (some false)))
end
def impl_RuleValid.f (k : Nat) (a0_0 : Int) (l0_1 : List Int) (a0_2 : Int) (a1 : Int) : Option (Bool) := (impl_sizeOk.f a1).bind fun t144 => (if t144 = true then (impl_RuleValid.l0 k a1 l0_1 (l0_1.length : Int) 0 a0_0 l0_1 a0_2) else (some false))
set_option maxHeartbeats 8000000 in
set_option maxRecDepth 100000 in
theorem impl_RuleValid.calls (k : Nat) (a0_0 : Int) (A0_1 : Option Addr) (c0_1 : Nat) (l0_1 : List Int) (a0_2 : Int) (a1 : Int) (r : Bool) (w : World) (hr0_1 : Kd.C (Kd.int .i64) w A0_1 l0_1.length l0_1) (hc0_1 : l0_1.length ≤ c0_1) (h : impl_RuleValid.f k a0_0 l0_1 a0_2 a1 = some r) :
  Calls Try.prog 81 #[.agg #[.int .i64 a0_0, .slice A0_1 l0_1.length c0_1, .int .i64 a0_2], .int .i64 a1] w fun e w' => e = .returned (.bool r) ∧ Below w.heap.size w w' := by
 have hu73 := Try.underlying73
 have HR0_1 := yam hr0_1
 have HC0_1 := yam hc0_1
 clear hr0_1 hc0_1
 have HB := yam (Below.refl w.heap.size w)
 have H : ((impl_sizeOk.f a1).bind fun t144 => (if t144 = true then (impl_RuleValid.l0 k a1 l0_1 (l0_1.length : Int) 0 a0_0 l0_1 a0_2) else (some false))) = some r := h
 clear h
 replace H := Option.bind_eq_some_iff.mp H
 obtain ⟨t144, A30, H⟩ := H
 try dsimp only at H
 have A3 := yam A30
 clear A30
 by_cases c4 : t144 = true
 rotate_left
 ·replace c4 := Bool.eq_false_iff.mpr c4
  subst c4
  have H1 : (some false) = some r := by rw [if_neg (show ¬ (false = true) by decide)] at H; exact H
  clear H
  have H := H1
  clear H1
  obtain rfl := Option.some.inj H
  go_enter Try.func81, Try.ntmps81
  go_wp2_with (first | (refine ybe 2 #[.int .i64 a0_0, .slice A0_1 l0_1.length c0_1, .int .i64 a0_2] 73 ?_; intro gb143 hg w43 hbox hb; have n0_ := yam (below_step (yez HB.out) hb); have n1_ := yam (hbox); have n2_ := yam ((by rw [hg]; exact (below_size (yez HB.out)) : w.heap.size ≤ gb143)); have n3_ := n2_; clear HB; have HB := n0_; have BK143 := n1_; have GW143 := n2_; have GE143 := n3_; clear n0_ n1_ n2_ n3_; clear hb hbox hg) | (refine goesL_ (some 9) rfl rfl Try.func44 (by kernel_rfl) rfl #[.int .i64 a1] rfl ymd ?_; (with_reducible refine (impl_sizeOk.calls a1 false _ A3.out).mono ?_); rintro e w' ⟨rfl, ⟨nd, rfl⟩⟩; refine ⟨_, rfl, ?_⟩))
  go_ret
  exact ⟨yer, yhb⟩

 subst c4
 have H1 : (impl_RuleValid.l0 k a1 l0_1 (l0_1.length : Int) 0 a0_0 l0_1 a0_2) = some r := by rw [if_pos rfl] at H; exact H
 clear H
 have H := H1
 clear H1
 have H' := yam H
 clear H
 go_enter Try.func81, Try.ntmps81
 go_wp2_with (first | (refine ybe 2 #[.int .i64 a0_0, .slice A0_1 l0_1.length c0_1, .int .i64 a0_2] 73 ?_; intro gb143 hg w5 hbox hb; have n0_ := yam (below_step (yez HB.out) hb); have n1_ := yam (hbox); have n2_ := yam ((by rw [hg]; exact (below_size (yez HB.out)) : w.heap.size ≤ gb143)); have n3_ := n2_; clear HB; have HB := n0_; have BK143 := n1_; have GW143 := n2_; have GE143 := n3_; clear n0_ n1_ n2_ n3_; clear hb hbox hg) | (refine goesL_ (some 9) rfl rfl Try.func44 (by kernel_rfl) rfl #[.int .i64 a1] rfl ymd ?_; (with_reducible refine (impl_sizeOk.calls a1 true _ A3.out).mono ?_); rintro e w' ⟨rfl, ⟨nd, rfl⟩⟩; refine ⟨_, rfl, ?_⟩; obtain ⟨hcz6_0, hcz6_1, hcz6_2, hfz6_0, hfz6_1, hfz6_2⟩ := ybc BK143.out))
 go_loopg [14] k (fun kq v14 w' => ∃ (x14_1 : Int), v14 = .int .i64 x14_1 ∧ Aside0 (impl_RuleValid.l0 kq a1 l0_1 (l0_1.length : Int) x14_1 a0_0 l0_1 a0_2 = some r) ∧ Aside0 (kq ≤ k) ∧ Aside0 (w'.heap[gb143]? = some (.cells #[.int .i64 a0_0, (.slice A0_1 l0_1.length c0_1), .int .i64 a0_2] 73 (0, 0))) ∧ Aside0 (Below w.heap.size w w'))
 case atStart => exact ⟨(0), yeq, H', ⟨Nat.le_refl _⟩, ⟨by (with_reducible repeat (first | refine ybn ?_ _ | refine ybd ?_ | refine yba ?_ _)); exact BK143.out⟩, ⟨yhb⟩⟩
 case round =>
  clear H'
  try clear p2
  try clear c4
  try clear hcz6_0
  try clear hcz6_1
  try clear hcz6_2
  try clear hfz6_0
  try clear hfz6_1
  try clear hfz6_2
  obtain ⟨x14_1, rfl, HA, HK1, BK143, HB⟩ := hrel
  cases gk with
  | zero => exact absurd HA.out (by simp [impl_RuleValid.l0])
  | succ k1 =>
   have H := HA.out
   clear HA
   simp only [impl_RuleValid.l0] at H
   by_cases c7 : x14_1 < (l0_1.length : Int)
   ·rw [if_pos c7] at H
    have c7b0 : decide (x14_1 < (l0_1.length : Int)) = true := decide_eq_true c7
    clear c7
    replace H := yif H
    obtain ⟨c8b0, H⟩ := H
    replace H := yif H
    obtain ⟨c9b0, H⟩ := H
    by_cases c10 : (rd l0_1 x14_1) < 0
    ·rw [if_pos c10] at H
     have c10b0 : decide ((rd l0_1 x14_1) < 0) = true := decide_eq_true c10
     clear c10
     obtain rfl := Option.some.inj H
     have p145 : 0 ≤ (x14_1 : Int) := ydt
     have q145 : x14_1 < (l0_1.length : Int) := ydt
     obtain ⟨ad145, e145, hx145_0⟩ := Kd.at_int HR0_1.out x14_1 p145 q145
     cases e145
     replace hx145_0 := ybx HB.out hx145_0
     replace p145 := eq_true p145
     replace q145 := eq_true q145
     go_wp2
     go_ret
     exact ⟨yer, yhb⟩
    rw [if_neg c10] at H
    have c10b0 : decide ((rd l0_1 x14_1) < 0) = false := decide_eq_false c10
    clear c10
    by_cases c11 : (rd l0_1 x14_1) ≥ (wrap64 (a1 * a1))
    ·rw [if_pos c11] at H
     have c11b0 : decide ((wrap64 (a1 * a1)) ≤ (rd l0_1 x14_1)) = true := decide_eq_true c11
     clear c11
     obtain rfl := Option.some.inj H
     have p145 : 0 ≤ (x14_1 : Int) := ydt
     have q145 : x14_1 < (l0_1.length : Int) := ydt
     obtain ⟨ad145, e145, hx145_0⟩ := Kd.at_int HR0_1.out x14_1 p145 q145
     cases e145
     replace hx145_0 := ybx HB.out hx145_0
     replace p145 := eq_true p145
     replace q145 := eq_true q145
     go_wp2
     go_ret
     exact ⟨yer, yhb⟩
    rw [if_neg c11] at H
    have c11b0 : decide ((wrap64 (a1 * a1)) ≤ (rd l0_1 x14_1)) = false := decide_eq_false c11
    clear c11
    have c12b0 := eq_true (ydt : 0 ≤ x14_1)
    replace H := yig H
    obtain ⟨c13, H⟩ := H
    have c13b0 := eq_true c13
    have c13b1 : decide (x14_1 ≤ (l0_1.length : Int)) = true := decide_eq_true c13
    clear c13
    replace H := Option.bind_eq_some_iff.mp H
    obtain ⟨t147, A140, H⟩ := H
    try dsimp only at H
    have A14 := yam A140
    clear A140
    by_cases c15 : t147 = true
    ·subst c15
     have H1 : (some false) = some r := by rw [if_pos rfl] at H; exact H
     clear H
     have H := H1
     clear H1
     obtain rfl := Option.some.inj H
     have p145 : 0 ≤ (x14_1 : Int) := ydt
     have q145 : x14_1 < (l0_1.length : Int) := ydt
     obtain ⟨ad145, e145, hx145_0⟩ := Kd.at_int HR0_1.out x14_1 p145 q145
     cases e145
     replace hx145_0 := ybx HB.out hx145_0
     replace p145 := eq_true p145
     replace q145 := eq_true q145
     obtain ⟨hcz16_0, hcz16_1, hcz16_2, hfz16_0, hfz16_1, hfz16_2⟩ := ybc BK143.out
     obtain ⟨i017, hi017, _, hsz17, _⟩ := info_parts info3
     obtain ⟨hcut17, hA17, hC17⟩ := print_take_of (P := Try.prog) (Value.int .i64) 0 22 3 .i64 Try.underlying22 hi017 hsz17 (some ad145) c0_1 l0_1 x14_1 (ydt) (ydt) HC0_1.out
     have hl17_ : (l0_1.take (x14_1 : Int).toNat).length = (x14_1 : Int).toNat := by
      have e0_ : 0 ≤ (x14_1 : Int) := ydt
      have e1_ : (x14_1 : Int) ≤ (l0_1.length : Int) := ydt
      rw [List.length_take]; omega
     have HR146 := yam (Kd.C_of_reads (h1 := fun _ => rfl) (hA17 _ (Kd.reads_of_C HR0_1.out)))
     have HC146 := yam hC17
     clear hA17 hC17 hi017 hsz17
     go_wp2_with (first | (go_at_call 89; (first | (with_reducible refine (slices_Contains_int_int.calls k1 _ _ (l0_1.take (x14_1 : Int).toNat) (rd l0_1 x14_1) true _ ?side1 ?side2 A14.out).mono ?_) | (rw [← hl17_]; (with_reducible refine (slices_Contains_int_int.calls k1 _ _ (l0_1.take (x14_1 : Int).toNat) (rd l0_1 x14_1) true _ ?side1 ?side2 A14.out).mono ?_))); (case side1 => exact Kd.Cz ((Kd.C_below HR146.out HB.out))); (case side2 => exact HC146.out); rintro e w' ⟨rfl, ⟨nd, rfl⟩⟩))
     go_ret
     exact ⟨yer, yhb⟩
    replace c15 := Bool.eq_false_iff.mpr c15
    subst c15
    have H1 : (impl_RuleValid.l0 k1 a1 l0_1 (l0_1.length : Int) (wrap64 (x14_1 + 1)) a0_0 l0_1 a0_2) = some r := by rw [if_neg (show ¬ (false = true) by decide)] at H; exact H
    clear H
    have H := H1
    clear H1
    have H' := yam H
    clear H
    have p145 : 0 ≤ (x14_1 : Int) := ydt
    have q145 : x14_1 < (l0_1.length : Int) := ydt
    obtain ⟨ad145, e145, hx145_0⟩ := Kd.at_int HR0_1.out x14_1 p145 q145
    cases e145
    replace hx145_0 := ybx HB.out hx145_0
    replace p145 := eq_true p145
    replace q145 := eq_true q145
    obtain ⟨hcz18_0, hcz18_1, hcz18_2, hfz18_0, hfz18_1, hfz18_2⟩ := ybc BK143.out
    obtain ⟨i019, hi019, _, hsz19, _⟩ := info_parts info3
    obtain ⟨hcut19, hA19, hC19⟩ := print_take_of (P := Try.prog) (Value.int .i64) 0 22 3 .i64 Try.underlying22 hi019 hsz19 (some ad145) c0_1 l0_1 x14_1 (ydt) (ydt) HC0_1.out
    have hl19_ : (l0_1.take (x14_1 : Int).toNat).length = (x14_1 : Int).toNat := by
     have e0_ : 0 ≤ (x14_1 : Int) := ydt
     have e1_ : (x14_1 : Int) ≤ (l0_1.length : Int) := ydt
     rw [List.length_take]; omega
    have HR146 := yam (Kd.C_of_reads (h1 := fun _ => rfl) (hA19 _ (Kd.reads_of_C HR0_1.out)))
    have HC146 := yam hC19
    clear hA19 hC19 hi019 hsz19
    go_wp2_with (first | (go_at_call 89; (first | (with_reducible refine (slices_Contains_int_int.calls k1 _ _ (l0_1.take (x14_1 : Int).toNat) (rd l0_1 x14_1) false _ ?side1 ?side2 A14.out).mono ?_) | (rw [← hl19_]; (with_reducible refine (slices_Contains_int_int.calls k1 _ _ (l0_1.take (x14_1 : Int).toNat) (rd l0_1 x14_1) false _ ?side1 ?side2 A14.out).mono ?_))); (case side1 => exact Kd.Cz ((Kd.C_below HR146.out HB.out))); (case side2 => exact HC146.out); rintro e w' ⟨rfl, ⟨nd, rfl⟩⟩))
    go_roundg k1
    case measure => have := HK1.out; omega
    case rel => exact ⟨(wrap64 (x14_1 + 1)), yeq, H', ⟨by have := HK1.out; omega⟩, ⟨by (with_reducible repeat (first | refine ybn ?_ _ | refine ybd ?_ | refine yba ?_ _)); exact BK143.out⟩, ⟨yhb⟩⟩
   rw [if_neg c7] at H
   have c7b0 : decide (x14_1 < (l0_1.length : Int)) = false := decide_eq_false c7
   clear c7
   by_cases c20 : a0_0 = 1
   ·rw [if_pos c20] at H
    have c20b0 : (a0_0 == 1) = true := beq_iff_eq.mpr c20
    have c20b1 : (a0_0 != 1) = false := bne_eq_false_iff_eq.mpr c20
    clear c20
    by_cases c21 : (l0_1.length : Int) ≥ 2
    rotate_left
    ·rw [if_neg c21] at H
     have c21b0 : decide (2 ≤ (l0_1.length : Int)) = false := decide_eq_false c21
     have c21b1 : decide (2 ≤ l0_1.length) = false := decide_eq_false (by omega)
     clear c21
     obtain rfl := Option.some.inj H
     obtain ⟨hcz25_0, hcz25_1, hcz25_2, hfz25_0, hfz25_1, hfz25_2⟩ := ybc BK143.out
     go_wp2
     go_ret
     exact ⟨yer, yhb⟩
    rw [if_pos c21] at H
    have c21b0 : decide (2 ≤ (l0_1.length : Int)) = true := decide_eq_true c21
    have c21b1 : decide (2 ≤ l0_1.length) = true := decide_eq_true (by omega)
    clear c21
    by_cases c22 : (l0_1.length : Int) ≤ 4
    ·rw [if_pos c22] at H
     have c22b0 : decide ((l0_1.length : Int) ≤ 4) = true := decide_eq_true c22
     have c22b1 : decide (l0_1.length ≤ 4) = true := decide_eq_true (by omega)
     clear c22
     obtain rfl := Option.some.inj H
     obtain ⟨hcz23_0, hcz23_1, hcz23_2, hfz23_0, hfz23_1, hfz23_2⟩ := ybc BK143.out
     go_wp2
     go_ret
     exact ⟨yer, yhb⟩
    rw [if_neg c22] at H
    have c22b0 : decide ((l0_1.length : Int) ≤ 4) = false := decide_eq_false c22
    have c22b1 : decide (l0_1.length ≤ 4) = false := decide_eq_false (by omega)
    clear c22
    obtain rfl := Option.some.inj H
    obtain ⟨hcz24_0, hcz24_1, hcz24_2, hfz24_0, hfz24_1, hfz24_2⟩ := ybc BK143.out
    go_wp2
    go_ret
    exact ⟨yer, yhb⟩
   rw [if_neg c20] at H
   have c20b0 : (a0_0 == 1) = false := beq_eq_false_iff_ne.mpr c20
   have c20b1 : (a0_0 != 1) = true := bne_iff_ne.mpr c20
   have HC26 := yam H
   clear H
   obtain ⟨hcz27_0, hcz27_1, hcz27_2, hfz27_0, hfz27_1, hfz27_2⟩ := ybc BK143.out
   go_upto_if 55 with (fail)
   go_cut [55] (fun v55 wc => ∃ (kq : Nat) (x55_25 : Bool), v55 = .bool x55_25 ∧ Aside0 (impl_RuleValid.j1 kq a1 (l0_1.length : Int) a0_0 x55_25 a0_0 l0_1 a0_2 = some r) ∧ Aside0 (kq ≤ k1) ∧ Aside0 (wc.heap[gb143]? = some (.cells #[.int .i64 a0_0, (.slice A0_1 l0_1.length c0_1), .int .i64 a0_2] 73 (0, 0))) ∧ Aside0 (Below w.heap.size w wc))
   case first =>
    have H := HC26.out
    clear HC26
    by_cases c28 : a0_0 = 2
    rotate_left
    ·rw [if_neg c28] at H
     have c28b0 : (a0_0 == 2) = false := beq_eq_false_iff_ne.mpr c28
     have c28b1 : (a0_0 != 2) = true := bne_iff_ne.mpr c28
     (first | rw [c28b0] | (simp only [i64_w, i32_w]; rw [c28b0]) | skip)
     have H' := yam H
     clear H
     go_wp2
     go_meet
     case rel => exact ⟨_, ((a0_0 == 3)), yeq, H', ⟨by have := HK1.out; first | omega | exact Nat.le_refl _⟩, ⟨by (with_reducible repeat (first | refine ybn ?_ _ | refine ybd ?_ | refine yba ?_ _)); exact BK143.out⟩, ⟨yhb⟩⟩
    rw [if_pos c28] at H
    have c28b0 : (a0_0 == 2) = true := beq_iff_eq.mpr c28
    have c28b1 : (a0_0 != 2) = false := bne_eq_false_iff_eq.mpr c28
    clear c28
    (first | rw [c28b0] | (simp only [i64_w, i32_w]; rw [c28b0]) | skip)
    have H' := yam H
    clear H
    go_wp2
    go_meet
    case rel => exact ⟨_, ((a0_0 == 2)), yeq, H', ⟨by have := HK1.out; first | omega | exact Nat.le_refl _⟩, ⟨by (with_reducible repeat (first | refine ybn ?_ _ | refine ybd ?_ | refine yba ?_ _)); exact BK143.out⟩, ⟨yhb⟩⟩
   case rest =>
    clear HC26
    try clear c1
    try clear p1
    try clear q1
    try clear hx1
    try clear c2
    try clear p2
    try clear c4
    try clear p6
    try clear c7
    try clear c7b0
    try clear c8
    try clear c8b0
    try clear c9
    try clear c9b0
    try clear c10
    try clear c10b0
    try clear c11
    try clear c11b0
    try clear c12
    try clear c12b0
    try clear c13
    try clear c13b0
    try clear c13b1
    try clear p14
    try clear q14
    try clear hx14
    try clear c15
    try clear c20
    try clear c20b0
    try clear c20b1
    try clear c21
    try clear c21b0
    try clear c21b1
    try clear c22
    try clear c22b0
    try clear c22b1
    try clear c28
    try clear c28b0
    try clear c28b1
    try clear hcz16_0
    try clear hcz16_1
    try clear hcz16_2
    try clear hcz18_0
    try clear hcz18_1
    try clear hcz18_2
    try clear hcz23_0
    try clear hcz23_1
    try clear hcz23_2
    try clear hcz24_0
    try clear hcz24_1
    try clear hcz24_2
    try clear hcz25_0
    try clear hcz25_1
    try clear hcz25_2
    try clear hcz27_0
    try clear hcz27_1
    try clear hcz27_2
    try clear hcz6_0
    try clear hcz6_1
    try clear hcz6_2
    try clear hfz16_0
    try clear hfz16_1
    try clear hfz16_2
    try clear hfz18_0
    try clear hfz18_1
    try clear hfz18_2
    try clear hfz23_0
    try clear hfz23_1
    try clear hfz23_2
    try clear hfz24_0
    try clear hfz24_1
    try clear hfz24_2
    try clear hfz25_0
    try clear hfz25_1
    try clear hfz25_2
    try clear hfz27_0
    try clear hfz27_1
    try clear hfz27_2
    try clear hfz6_0
    try clear hfz6_1
    try clear hfz6_2
    try clear hx145_0
    try clear p145
    try clear p2
    try clear q145
    obtain ⟨kq, x55_25, rfl, HA, HJ25, BK143, HB⟩ := hcut
    cases kq with
    | zero => exact absurd HA.out (by simp [impl_RuleValid.j1])
    | succ kj25 =>
     have H := HA.out
     clear HA
     simp only [impl_RuleValid.j1] at H
     by_cases c29 : x55_25 = true
     ·subst c29
      have H1 : (if (l0_1.length : Int) ≥ 1 then (if (l0_1.length : Int) ≤ 4 then (if a0_2 ≥ 1 then (some (decide (a0_2 ≤ (wrap64 ((wrap64 ((wrap64 (a1 * a1)) * a1)) * a1))))) else (some false)) else (some false)) else (some false)) = some r := by rw [if_pos rfl] at H; exact H
      clear H
      have H := H1
      clear H1
      by_cases c30 : (l0_1.length : Int) ≥ 1
      rotate_left
      ·rw [if_neg c30] at H
       have c30b0 : decide (1 ≤ (l0_1.length : Int)) = false := decide_eq_false c30
       have c30b1 : decide (1 ≤ l0_1.length) = false := decide_eq_false (by omega)
       clear c30
       obtain rfl := Option.some.inj H
       go_wp2
       go_ret
       exact ⟨yer, yhb⟩
      rw [if_pos c30] at H
      have c30b0 : decide (1 ≤ (l0_1.length : Int)) = true := decide_eq_true c30
      have c30b1 : decide (1 ≤ l0_1.length) = true := decide_eq_true (by omega)
      clear c30
      by_cases c31 : (l0_1.length : Int) ≤ 4
      rotate_left
      ·rw [if_neg c31] at H
       have c31b0 : decide ((l0_1.length : Int) ≤ 4) = false := decide_eq_false c31
       have c31b1 : decide (l0_1.length ≤ 4) = false := decide_eq_false (by omega)
       clear c31
       obtain rfl := Option.some.inj H
       go_wp2
       go_ret
       exact ⟨yer, yhb⟩
      rw [if_pos c31] at H
      have c31b0 : decide ((l0_1.length : Int) ≤ 4) = true := decide_eq_true c31
      have c31b1 : decide (l0_1.length ≤ 4) = true := decide_eq_true (by omega)
      clear c31
      by_cases c32 : a0_2 ≥ 1
      ·rw [if_pos c32] at H
       have c32b0 : decide (1 ≤ a0_2) = true := decide_eq_true c32
       clear c32
       obtain rfl := Option.some.inj H
       obtain ⟨hcz33_0, hcz33_1, hcz33_2, hfz33_0, hfz33_1, hfz33_2⟩ := ybc BK143.out
       go_wp2
       go_ret
       exact ⟨yer, yhb⟩
      rw [if_neg c32] at H
      have c32b0 : decide (1 ≤ a0_2) = false := decide_eq_false c32
      clear c32
      obtain rfl := Option.some.inj H
      obtain ⟨hcz34_0, hcz34_1, hcz34_2, hfz34_0, hfz34_1, hfz34_2⟩ := ybc BK143.out
      go_wp2
      go_ret
      exact ⟨yer, yhb⟩
     replace c29 := Bool.eq_false_iff.mpr c29
     subst c29
     have H1 : (if a0_0 = 4 then (if (l0_1.length : Int) = 2 then (some (a0_2 == 0)) else (some false)) else (if a0_0 = 5 then (if (l0_1.length : Int) = 2 then (if a0_2 ≥ 0 then (some (decide (a0_2 < a1))) else (some false)) else (some false)) else (some false))) = some r := by rw [if_neg (show ¬ (false = true) by decide)] at H; exact H
     clear H
     have H := H1
     clear H1
     by_cases c35 : a0_0 = 4
     ·rw [if_pos c35] at H
      have c35b0 : (a0_0 == 4) = true := beq_iff_eq.mpr c35
      have c35b1 : (a0_0 != 4) = false := bne_eq_false_iff_eq.mpr c35
      clear c35
      by_cases c36 : (l0_1.length : Int) = 2
      rotate_left
      ·rw [if_neg c36] at H
       have c36b0 : ((l0_1.length : Int) == 2) = false := beq_eq_false_iff_ne.mpr c36
       have c36b1 : ((l0_1.length : Int) != 2) = true := bne_iff_ne.mpr c36
       obtain rfl := Option.some.inj H
       go_wp2
       go_ret
       exact ⟨yer, yhb⟩
      rw [if_pos c36] at H
      have c36b0 : ((l0_1.length : Int) == 2) = true := beq_iff_eq.mpr c36
      have c36b1 : ((l0_1.length : Int) != 2) = false := bne_eq_false_iff_eq.mpr c36
      clear c36
      obtain rfl := Option.some.inj H
      obtain ⟨hcz37_0, hcz37_1, hcz37_2, hfz37_0, hfz37_1, hfz37_2⟩ := ybc BK143.out
      go_wp2
      go_ret
      exact ⟨yer, yhb⟩
     rw [if_neg c35] at H
     have c35b0 : (a0_0 == 4) = false := beq_eq_false_iff_ne.mpr c35
     have c35b1 : (a0_0 != 4) = true := bne_iff_ne.mpr c35
     by_cases c38 : a0_0 = 5
     rotate_left
     ·rw [if_neg c38] at H
      have c38b0 : (a0_0 == 5) = false := beq_eq_false_iff_ne.mpr c38
      have c38b1 : (a0_0 != 5) = true := bne_iff_ne.mpr c38
      obtain rfl := Option.some.inj H
      go_wp2
      go_ret
      exact ⟨yer, yhb⟩
     rw [if_pos c38] at H
     have c38b0 : (a0_0 == 5) = true := beq_iff_eq.mpr c38
     have c38b1 : (a0_0 != 5) = false := bne_eq_false_iff_eq.mpr c38
     clear c38
     by_cases c39 : (l0_1.length : Int) = 2
     rotate_left
     ·rw [if_neg c39] at H
      have c39b0 : ((l0_1.length : Int) == 2) = false := beq_eq_false_iff_ne.mpr c39
      have c39b1 : ((l0_1.length : Int) != 2) = true := bne_iff_ne.mpr c39
      obtain rfl := Option.some.inj H
      go_wp2
      go_ret
      exact ⟨yer, yhb⟩
     rw [if_pos c39] at H
     have c39b0 : ((l0_1.length : Int) == 2) = true := beq_iff_eq.mpr c39
     have c39b1 : ((l0_1.length : Int) != 2) = false := bne_eq_false_iff_eq.mpr c39
     clear c39
     by_cases c40 : a0_2 ≥ 0
     ·rw [if_pos c40] at H
      have c40b0 : decide (0 ≤ a0_2) = true := decide_eq_true c40
      clear c40
      obtain rfl := Option.some.inj H
      obtain ⟨hcz41_0, hcz41_1, hcz41_2, hfz41_0, hfz41_1, hfz41_2⟩ := ybc BK143.out
      go_wp2
      go_ret
      exact ⟨yer, yhb⟩
     rw [if_neg c40] at H
     have c40b0 : decide (0 ≤ a0_2) = false := decide_eq_false c40
     clear c40
     obtain rfl := Option.some.inj H
     obtain ⟨hcz42_0, hcz42_1, hcz42_2, hfz42_0, hfz42_1, hfz42_2⟩ := ybc BK143.out
     go_wp2
     go_ret
     exact ⟨yer, yhb⟩
mutual
def impl_PuzzleValid.j0 : Nat → Bool → Int → List Int → List (S73) → Option (Bool)
 | 0, _, _, _, _ => none
 | k + 1, x16, x149000, x149001, x149002 => if x16 = true then (some false) else (impl_PuzzleValid.l0 k x149002 (x149002.length : Int) 0 x149000 x149001 x149002)
def impl_PuzzleValid.l0 : Nat → List (S73) → Int → Int → Int → List Int → List (S73) → Option (Bool)
 | 0, _, _, _, _, _, _ => none
 | k + 1, x18, x19, x20, x149000, x149001, x149002 => if x20 < x19 then (if 0 ≤ x20 then (if x20 < (x18.length : Int) then ((impl_RuleValid.f k ((rd_T73 x18 x20).f0) ((rd_T73 x18 x20).f1) ((rd_T73 x18 x20).f2) x149000).bind fun t152 => (if t152 = true then (impl_PuzzleValid.l0 k x18 x19 (wrap64 (x20 + 1)) x149000 x149001 x149002) else (some false))) else (none)) else (none)) else (some true)
end
def impl_PuzzleValid.f (k : Nat) (a0_0 : Int) (l0_1 : List Int) (l0_2 : List (S73)) : Option (Bool) := (impl_GridValid.f k l0_1 a0_0).bind fun t149 => (if t149 = true then (impl_PuzzleValid.j0 k (decide ((l0_2.length : Int) > 20)) a0_0 l0_1 l0_2) else (impl_PuzzleValid.j0 k true a0_0 l0_1 l0_2))
set_option maxHeartbeats 8000000 in
set_option maxRecDepth 100000 in
theorem impl_PuzzleValid.calls (k : Nat) (a0_0 : Int) (A0_1 : Option Addr) (c0_1 : Nat) (l0_1 : List Int) (A0_2 : Option Addr) (c0_2 : Nat) (l0_2 : List (S73)) (r : Bool) (w : World) (hr0_1 : Kd.C (Kd.int .i64) w A0_1 l0_1.length l0_1) (hc0_1 : l0_1.length ≤ c0_1) (hr0_2 : Kd.C k73 w A0_2 l0_2.length l0_2) (hc0_2 : l0_2.length ≤ c0_2) (h : impl_PuzzleValid.f k a0_0 l0_1 l0_2 = some r) :
  Calls Try.prog 64 #[.agg #[.int .i64 a0_0, .slice A0_1 l0_1.length c0_1, .slice A0_2 l0_2.length c0_2]] w fun e w' => e = .returned (.bool r) ∧ Below w.heap.size w w' := by
 have hu37 := Try.underlying37
 have hu73 := Try.underlying73
 have HR0_1 := yam hr0_1
 have HC0_1 := yam hc0_1
 clear hr0_1 hc0_1
 have HR0_2 := yam hr0_2
 have HC0_2 := yam hc0_2
 clear hr0_2 hc0_2
 have HB := yam (Below.refl w.heap.size w)
 have H : ((impl_GridValid.f k l0_1 a0_0).bind fun t149 => (if t149 = true then (impl_PuzzleValid.j0 k (decide ((l0_2.length : Int) > 20)) a0_0 l0_1 l0_2) else (impl_PuzzleValid.j0 k true a0_0 l0_1 l0_2))) = some r := h
 clear h
 have HC2 := yam H
 clear H
 go_enter Try.func64, Try.ntmps64
 go_upto_region 1 with (first | ((with_reducible refine gate_dst (N := 1) rfl ?_); (try (refine gate_guard (by rfl) ?_; dsimp only)); refine ybe 1 #[.int .i64 a0_0, .slice A0_1 l0_1.length c0_1, .slice A0_2 l0_2.length c0_2] 37 ?_; intro gb148 hg w3 hbox hb; have n0_ := yam (below_step (yez HB.out) hb); have n1_ := yam (hbox); have n2_ := yam ((by rw [hg]; exact (below_size (yez HB.out)) : w.heap.size ≤ gb148)); have n3_ := n2_; clear HB; have HB := n0_; have BK148 := n1_; have GW148 := n2_; have GE148 := n3_; clear n0_ n1_ n2_ n3_; clear hb hbox hg))
 (try simp only [Act.put, yps])
 go_cut [16] (fun v16 wc => ∃ (kq : Nat) (x16_1 : Bool), v16 = .bool x16_1 ∧ Aside0 (impl_PuzzleValid.j0 kq x16_1 a0_0 l0_1 l0_2 = some r) ∧ Aside0 (kq ≤ k) ∧ Aside0 (wc.heap[gb148]? = some (.cells #[.int .i64 a0_0, (.slice A0_1 l0_1.length c0_1), (.slice A0_2 l0_2.length c0_2)] 37 (0, 0))) ∧ Aside0 (Below w.heap.size w wc))
 case first =>
  have H := HC2.out
  clear HC2
  replace H := Option.bind_eq_some_iff.mp H
  obtain ⟨t149, A40, H⟩ := H
  try dsimp only at H
  have A4 := yam A40
  clear A40
  by_cases c5 : t149 = true
  ·subst c5
   have H1 : (impl_PuzzleValid.j0 k (decide ((l0_2.length : Int) > 20)) a0_0 l0_1 l0_2) = some r := by rw [if_pos rfl] at H; exact H
   clear H
   have H := H1
   clear H1
   have H' := yam H
   clear H
   obtain ⟨hcz6_0, hcz6_1, hcz6_2, hfz6_0, hfz6_1, hfz6_2⟩ := ybc BK148.out
   go_wp2_with (first | (refine goesL_ (some 9) rfl rfl Try.func76 (by kernel_rfl) rfl #[.slice A0_1 l0_1.length c0_1, .int .i64 a0_0] rfl ymd ?_; (with_reducible refine (impl_GridValid.calls k _ _ l0_1 a0_0 true _ ?side1 ?side2 A4.out).mono ?_); (case side1 => exact Kd.Cz ((Kd.C_below HR0_1.out HB.out))); (case side2 => exact HC0_1.out); rintro e w' ⟨rfl, ⟨nd, rfl⟩⟩; refine ⟨_, rfl, ?_⟩))
   go_meet
   case rel => exact ⟨_, (decide ((l0_2.length : Int) > 20)), yeq, H', ⟨by first | omega | exact Nat.le_refl _⟩, ⟨by (with_reducible repeat (first | refine ybn ?_ _ | refine ybd ?_ | refine yba ?_ _)); exact BK148.out⟩, ⟨yhb⟩⟩
  replace c5 := Bool.eq_false_iff.mpr c5
  subst c5
  have H1 : (impl_PuzzleValid.j0 k true a0_0 l0_1 l0_2) = some r := by rw [if_neg (show ¬ (false = true) by decide)] at H; exact H
  clear H
  have H := H1
  clear H1
  have H' := yam H
  clear H
  obtain ⟨hcz7_0, hcz7_1, hcz7_2, hfz7_0, hfz7_1, hfz7_2⟩ := ybc BK148.out
  go_wp2_with (first | (refine goesL_ (some 9) rfl rfl Try.func76 (by kernel_rfl) rfl #[.slice A0_1 l0_1.length c0_1, .int .i64 a0_0] rfl ymd ?_; (with_reducible refine (impl_GridValid.calls k _ _ l0_1 a0_0 false _ ?side1 ?side2 A4.out).mono ?_); (case side1 => exact Kd.Cz ((Kd.C_below HR0_1.out HB.out))); (case side2 => exact HC0_1.out); rintro e w' ⟨rfl, ⟨nd, rfl⟩⟩; refine ⟨_, rfl, ?_⟩))
  go_meet
  case rel => exact ⟨_, (true), yeq, H', ⟨by first | omega | exact Nat.le_refl _⟩, ⟨by (with_reducible repeat (first | refine ybn ?_ _ | refine ybd ?_ | refine yba ?_ _)); exact BK148.out⟩, ⟨yhb⟩⟩
 case rest =>
  clear HC2
  try clear p2
  try clear c5
  try clear c6
  try clear c7
  try clear hcz6_0
  try clear hcz6_1
  try clear hcz6_2
  try clear hcz7_0
  try clear hcz7_1
  try clear hcz7_2
  try clear hfz6_0
  try clear hfz6_1
  try clear hfz6_2
  try clear hfz7_0
  try clear hfz7_1
  try clear hfz7_2
  obtain ⟨kq, x16_1, rfl, HA, HJ1, BK148, HB⟩ := hcut
  cases kq with
  | zero => exact absurd HA.out (by simp [impl_PuzzleValid.j0])
  | succ kj1 =>
   have H := HA.out
   clear HA
   simp only [impl_PuzzleValid.j0] at H
   by_cases c8 : x16_1 = true
   ·subst c8
    have H1 : (some false) = some r := by rw [if_pos rfl] at H; exact H
    clear H
    have H := H1
    clear H1
    obtain rfl := Option.some.inj H
    go_wp2
    go_ret
    exact ⟨yer, yhb⟩
   replace c8 := Bool.eq_false_iff.mpr c8
   subst c8
   have H1 : (impl_PuzzleValid.l0 kj1 l0_2 (l0_2.length : Int) 0 a0_0 l0_1 l0_2) = some r := by rw [if_neg (show ¬ (false = true) by decide)] at H; exact H
   clear H
   have H := H1
   clear H1
   have H' := yam H
   clear H
   obtain ⟨hcz9_0, hcz9_1, hcz9_2, hfz9_0, hfz9_1, hfz9_2⟩ := ybc BK148.out
   go_wp2
   go_loopg [20] kj1 (fun kq v20 w' => ∃ (x20_2 : Int), v20 = .int .i64 x20_2 ∧ Aside0 (impl_PuzzleValid.l0 kq l0_2 (l0_2.length : Int) x20_2 a0_0 l0_1 l0_2 = some r) ∧ Aside0 (kq ≤ kj1) ∧ Aside0 (w'.heap[gb148]? = some (.cells #[.int .i64 a0_0, (.slice A0_1 l0_1.length c0_1), (.slice A0_2 l0_2.length c0_2)] 37 (0, 0))) ∧ Aside0 (Below w.heap.size w w'))
   case atStart => exact ⟨(0), yeq, H', ⟨Nat.le_refl _⟩, ⟨by (with_reducible repeat (first | refine ybn ?_ _ | refine ybd ?_ | refine yba ?_ _)); exact BK148.out⟩, ⟨yhb⟩⟩
   case round =>
    clear H'
    try clear p2
    try clear c5
    try clear c6
    try clear c7
    try clear c8
    try clear hcz6_0
    try clear hcz6_1
    try clear hcz6_2
    try clear hcz7_0
    try clear hcz7_1
    try clear hcz7_2
    try clear hcz9_0
    try clear hcz9_1
    try clear hcz9_2
    try clear hfz6_0
    try clear hfz6_1
    try clear hfz6_2
    try clear hfz7_0
    try clear hfz7_1
    try clear hfz7_2
    try clear hfz9_0
    try clear hfz9_1
    try clear hfz9_2
    try clear p2
    obtain ⟨x20_2, rfl, HA, HK2, BK148, HB⟩ := hrel
    cases gk with
    | zero => exact absurd HA.out (by simp [impl_PuzzleValid.l0])
    | succ k2 =>
     have H := HA.out
     clear HA
     simp only [impl_PuzzleValid.l0] at H
     by_cases c10 : x20_2 < (l0_2.length : Int)
     rotate_left
     ·rw [if_neg c10] at H
      have c10b0 : decide (x20_2 < (l0_2.length : Int)) = false := decide_eq_false c10
      clear c10
      obtain rfl := Option.some.inj H
      go_wp2
      go_ret
      exact ⟨yer, yhb⟩

     rw [if_pos c10] at H
     have c10b0 : decide (x20_2 < (l0_2.length : Int)) = true := decide_eq_true c10
     clear c10
     replace H := yif H
     obtain ⟨c11b0, H⟩ := H
     replace H := yif H
     obtain ⟨c12b0, H⟩ := H
     replace H := Option.bind_eq_some_iff.mp H
     obtain ⟨t152, A130, H⟩ := H
     try dsimp only at H
     have A13 := yam A130
     clear A130
     by_cases c14 : t152 = true
     rotate_left
     ·replace c14 := Bool.eq_false_iff.mpr c14
      subst c14
      have H1 : (some false) = some r := by rw [if_neg (show ¬ (false = true) by decide)] at H; exact H
      clear H
      have H := H1
      clear H1
      obtain rfl := Option.some.inj H
      have p150 : 0 ≤ (x20_2 : Int) := ydt
      have q150 : x20_2 < (l0_2.length : Int) := ydt
      obtain ⟨ad150, A150_1, c150_1, e150, hx150_0, hx150_1, hx150_2, hl150_1, hi150_1⟩ := at_T73 HR0_2.out x20_2 p150 q150
      cases e150
      replace hx150_0 := ybx HB.out hx150_0
      replace hx150_1 := ybx HB.out hx150_1
      replace hx150_2 := ybx HB.out hx150_2
      have HR150_1 := yam hi150_1
      have HC150_1 := yam hl150_1
      clear hi150_1 hl150_1
      replace p150 := eq_true p150
      replace q150 := eq_true q150
      go_wp2_with (first | ((with_reducible refine gate_dst (N := 4) rfl ?_); (try (refine gate_guard (by rfl) ?_; dsimp only)); refine ybe 4 #[.int .i64 0, .slice none 0 0, .int .i64 0] 73 ?_; intro gb151 hg w20 hbox hb; have n0_ := yam (blk_below (g := gb148) (o := .cells #[.int .i64 a0_0, .slice A0_1 l0_1.length c0_1, .slice (some ad150) l0_2.length c0_2] 37 (0, 0)) (ybz BK148.out) hb); have n1_ := yam (below_step yhb hb); have n2_ := yam (hbox); have n3_ := yam ((by rw [hg]; exact (below_size yhb) : w.heap.size ≤ gb151)); have n4_ := n3_; have n5_ := yam ((by rw [hg]; exact Nat.ne_of_lt (blk_lt (g := gb148) (o := .cells #[.int .i64 a0_0, .slice A0_1 l0_1.length c0_1, .slice (some ad150) l0_2.length c0_2] 37 (0, 0)) (ybz BK148.out)) : gb148 ≠ gb151)); have n6_ := yam ((by rw [hg]; exact Nat.ne_of_gt (blk_lt (g := gb148) (o := .cells #[.int .i64 a0_0, .slice A0_1 l0_1.length c0_1, .slice (some ad150) l0_2.length c0_2] 37 (0, 0)) (ybz BK148.out)) : gb151 ≠ gb148)); clear BK148; clear HB; have BK148 := n0_; have HB := n1_; have BK151 := n2_; have GW151 := n3_; have GE151 := n4_; have NB148_151 := n5_; have NB151_148 := n6_; clear n0_ n1_ n2_ n3_ n4_ n5_ n6_; clear hb hbox hg; have hnb21 := NB151_148.out; have hnc21 := NB148_151.out; obtain ⟨hcz22_0, hcz22_1, hcz22_2, hfz22_0, hfz22_1, hfz22_2⟩ := ybc BK151.out; obtain ⟨hcz23_0, hcz23_1, hcz23_2, hfz23_0, hfz23_1, hfz23_2⟩ := ybc BK148.out) | (refine goesL_ (some 27) rfl rfl Try.func81 (by kernel_rfl) rfl #[.agg #[.int .i64 ((rd_T73 l0_2 x20_2).f0), .slice A150_1 ((rd_T73 l0_2 x20_2).f1).length c150_1, .int .i64 ((rd_T73 l0_2 x20_2).f2)], .int .i64 a0_0] rfl ymd ?_; (with_reducible refine (impl_RuleValid.calls k2 ((rd_T73 l0_2 x20_2).f0) _ _ ((rd_T73 l0_2 x20_2).f1) ((rd_T73 l0_2 x20_2).f2) a0_0 false _ ?side1 ?side2 A13.out).mono ?_); (case side1 => exact Kd.C_below HR150_1.out yhb); (case side2 => exact HC150_1.out); rintro e w24 ⟨rfl, hb⟩; refine ⟨_, rfl, ?_⟩; have n0_ := yam (blk_below (g := gb148) (o := .cells #[.int .i64 a0_0, .slice A0_1 l0_1.length c0_1, .slice (some ad150) l0_2.length c0_2] 37 (0, 0)) (by (with_reducible repeat (first | refine ybn ?_ _ | refine ybd ?_ | refine yba ?_ _)); refine blk_far ?_ NB148_151.out _; (with_reducible repeat (first | refine ybn ?_ _ | refine ybd ?_ | refine yba ?_ _)); refine blk_far ?_ NB148_151.out _; (with_reducible repeat (first | refine ybn ?_ _ | refine ybd ?_ | refine yba ?_ _)); refine blk_far ?_ NB148_151.out _; (with_reducible repeat (first | refine ybn ?_ _ | refine ybd ?_ | refine yba ?_ _)); exact BK148.out) hb); have n1_ := yam (blk_below (g := gb151) (o := .cells #[.int .i64 ((rd_T73 l0_2 x20_2).f0), .slice A150_1 ((rd_T73 l0_2 x20_2).f1).length c150_1, .int .i64 ((rd_T73 l0_2 x20_2).f2)] 73 (0, 0)) (by (with_reducible repeat (first | refine ybn ?_ _ | refine ybd ?_ | refine yba ?_ _)); refine blk_put (cs := #[.int .i64 ((rd_T73 l0_2 x20_2).f0), .slice A150_1 ((rd_T73 l0_2 x20_2).f1).length c150_1, .int .i64 0]) ?_ 2 _ rfl; (with_reducible repeat (first | refine ybn ?_ _ | refine ybd ?_ | refine yba ?_ _)); refine blk_put (cs := #[.int .i64 ((rd_T73 l0_2 x20_2).f0), .slice none 0 0, .int .i64 0]) ?_ 1 _ rfl; (with_reducible repeat (first | refine ybn ?_ _ | refine ybd ?_ | refine yba ?_ _)); refine blk_put (cs := #[.int .i64 0, .slice none 0 0, .int .i64 0]) ?_ 0 _ rfl; (with_reducible repeat (first | refine ybn ?_ _ | refine ybd ?_ | refine yba ?_ _)); exact BK151.out) hb); have n2_ := yam (below_step yhb hb); clear BK148; clear BK151; clear HB; have BK148 := n0_; have BK151 := n1_; have HB := n2_; clear n0_ n1_ n2_; (try clear hb); (try clear hb2); (try clear hk); (try clear hi)))
      go_ret
      exact ⟨yer, yhb⟩
     subst c14
     have H1 : (impl_PuzzleValid.l0 k2 l0_2 (l0_2.length : Int) (wrap64 (x20_2 + 1)) a0_0 l0_1 l0_2) = some r := by rw [if_pos rfl] at H; exact H
     clear H
     have H := H1
     clear H1
     have H' := yam H
     clear H
     have p150 : 0 ≤ (x20_2 : Int) := ydt
     have q150 : x20_2 < (l0_2.length : Int) := ydt
     obtain ⟨ad150, A150_1, c150_1, e150, hx150_0, hx150_1, hx150_2, hl150_1, hi150_1⟩ := at_T73 HR0_2.out x20_2 p150 q150
     cases e150
     replace hx150_0 := ybx HB.out hx150_0
     replace hx150_1 := ybx HB.out hx150_1
     replace hx150_2 := ybx HB.out hx150_2
     have HR150_1 := yam hi150_1
     have HC150_1 := yam hl150_1
     clear hi150_1 hl150_1
     replace p150 := eq_true p150
     replace q150 := eq_true q150
     go_wp2_with (first | ((with_reducible refine gate_dst (N := 4) rfl ?_); (try (refine gate_guard (by rfl) ?_; dsimp only)); refine ybe 4 #[.int .i64 0, .slice none 0 0, .int .i64 0] 73 ?_; intro gb151 hg w15 hbox hb; have n0_ := yam (blk_below (g := gb148) (o := .cells #[.int .i64 a0_0, .slice A0_1 l0_1.length c0_1, .slice (some ad150) l0_2.length c0_2] 37 (0, 0)) (ybz BK148.out) hb); have n1_ := yam (below_step yhb hb); have n2_ := yam (hbox); have n3_ := yam ((by rw [hg]; exact (below_size yhb) : w.heap.size ≤ gb151)); have n4_ := n3_; have n5_ := yam ((by rw [hg]; exact Nat.ne_of_lt (blk_lt (g := gb148) (o := .cells #[.int .i64 a0_0, .slice A0_1 l0_1.length c0_1, .slice (some ad150) l0_2.length c0_2] 37 (0, 0)) (ybz BK148.out)) : gb148 ≠ gb151)); have n6_ := yam ((by rw [hg]; exact Nat.ne_of_gt (blk_lt (g := gb148) (o := .cells #[.int .i64 a0_0, .slice A0_1 l0_1.length c0_1, .slice (some ad150) l0_2.length c0_2] 37 (0, 0)) (ybz BK148.out)) : gb151 ≠ gb148)); clear BK148; clear HB; have BK148 := n0_; have HB := n1_; have BK151 := n2_; have GW151 := n3_; have GE151 := n4_; have NB148_151 := n5_; have NB151_148 := n6_; clear n0_ n1_ n2_ n3_ n4_ n5_ n6_; clear hb hbox hg; have hnb16 := NB151_148.out; have hnc16 := NB148_151.out; obtain ⟨hcz17_0, hcz17_1, hcz17_2, hfz17_0, hfz17_1, hfz17_2⟩ := ybc BK151.out; obtain ⟨hcz18_0, hcz18_1, hcz18_2, hfz18_0, hfz18_1, hfz18_2⟩ := ybc BK148.out) | (refine goesL_ (some 27) rfl rfl Try.func81 (by kernel_rfl) rfl #[.agg #[.int .i64 ((rd_T73 l0_2 x20_2).f0), .slice A150_1 ((rd_T73 l0_2 x20_2).f1).length c150_1, .int .i64 ((rd_T73 l0_2 x20_2).f2)], .int .i64 a0_0] rfl ymd ?_; (with_reducible refine (impl_RuleValid.calls k2 ((rd_T73 l0_2 x20_2).f0) _ _ ((rd_T73 l0_2 x20_2).f1) ((rd_T73 l0_2 x20_2).f2) a0_0 true _ ?side1 ?side2 A13.out).mono ?_); (case side1 => exact Kd.C_below HR150_1.out yhb); (case side2 => exact HC150_1.out); rintro e w19 ⟨rfl, hb⟩; refine ⟨_, rfl, ?_⟩; have n0_ := yam (blk_below (g := gb148) (o := .cells #[.int .i64 a0_0, .slice A0_1 l0_1.length c0_1, .slice (some ad150) l0_2.length c0_2] 37 (0, 0)) (by (with_reducible repeat (first | refine ybn ?_ _ | refine ybd ?_ | refine yba ?_ _)); refine blk_far ?_ NB148_151.out _; (with_reducible repeat (first | refine ybn ?_ _ | refine ybd ?_ | refine yba ?_ _)); refine blk_far ?_ NB148_151.out _; (with_reducible repeat (first | refine ybn ?_ _ | refine ybd ?_ | refine yba ?_ _)); refine blk_far ?_ NB148_151.out _; (with_reducible repeat (first | refine ybn ?_ _ | refine ybd ?_ | refine yba ?_ _)); exact BK148.out) hb); have n1_ := yam (blk_below (g := gb151) (o := .cells #[.int .i64 ((rd_T73 l0_2 x20_2).f0), .slice A150_1 ((rd_T73 l0_2 x20_2).f1).length c150_1, .int .i64 ((rd_T73 l0_2 x20_2).f2)] 73 (0, 0)) (by (with_reducible repeat (first | refine ybn ?_ _ | refine ybd ?_ | refine yba ?_ _)); refine blk_put (cs := #[.int .i64 ((rd_T73 l0_2 x20_2).f0), .slice A150_1 ((rd_T73 l0_2 x20_2).f1).length c150_1, .int .i64 0]) ?_ 2 _ rfl; (with_reducible repeat (first | refine ybn ?_ _ | refine ybd ?_ | refine yba ?_ _)); refine blk_put (cs := #[.int .i64 ((rd_T73 l0_2 x20_2).f0), .slice none 0 0, .int .i64 0]) ?_ 1 _ rfl; (with_reducible repeat (first | refine ybn ?_ _ | refine ybd ?_ | refine yba ?_ _)); refine blk_put (cs := #[.int .i64 0, .slice none 0 0, .int .i64 0]) ?_ 0 _ rfl; (with_reducible repeat (first | refine ybn ?_ _ | refine ybd ?_ | refine yba ?_ _)); exact BK151.out) hb); have n2_ := yam (below_step yhb hb); clear BK148; clear BK151; clear HB; have BK148 := n0_; have BK151 := n1_; have HB := n2_; clear n0_ n1_ n2_; (try clear hb); (try clear hb2); (try clear hk); (try clear hi)))
     go_roundg k2
     case measure => have := HJ1.out; have := HK2.out; omega
     case rel => exact ⟨(wrap64 (x20_2 + 1)), yeq, H', ⟨by have := HJ1.out; have := HK2.out; omega⟩, ⟨by (with_reducible repeat (first | refine ybn ?_ _ | refine ybd ?_ | refine yba ?_ _)); exact BK148.out⟩, ⟨yhb⟩⟩
def slices_Clone_int_int.f (l0 : List Int) : Option (List Int) := if l0.length < 17592186044416 then some l0 else none
set_option maxHeartbeats 8000000 in
set_option maxRecDepth 100000 in
theorem slices_Clone_int_int.calls (A0 : Option Addr) (c0 : Nat) (l0 : List Int) (r : List Int) (w : World) (hr0 : Kd.C (Kd.int .i64) w A0 l0.length l0) (hc0 : l0.length ≤ c0) (h : slices_Clone_int_int.f l0 = some r) :
  Calls Try.prog 47 #[.slice A0 l0.length c0] w fun e w' => ∃ v0_ : Value, e = .returned (v0_) ∧ Kd.R (Kd.int .i64) 3 w' w.heap.size (fun _ => True) v0_ r ∧ Below w.heap.size w w' := by
 have hcl : l0 = r ∧ l0.length < 17592186044416 := by
  unfold slices_Clone_int_int.f at h
  by_cases hc : l0.length < 17592186044416
  ·rw [if_pos hc] at h; exact ⟨Option.some.inj h, hc⟩
  ·rw [if_neg hc] at h; exact absurd h (by simp)
 clear h
 obtain ⟨rfl, hlim⟩ := hcl
 have HR0 := yam hr0
 have HC0 := yam hc0
 have HLM := yam hlim
 clear hr0 hc0 hlim
 have HB := yam (Below.refl w.heap.size w)
 have hnil := fun (W : World) (A : Option Addr) (n c : Nat) => Lib.run_eql_slice_nil (P := Try.prog) W 22 3 A n c 0 0 Try.underlying22
 cases A0 with
 | none =>
  have hl : l0 = [] := by
   cases l0 with
   | nil => rfl
   | cons x t =>
    obtain ⟨ad, e, _⟩ := Kd.at_int HR0.out 0 (by decide) (by simp only [List.length_cons]; omega)
    cases e
  subst hl
  go_enter Try.func47, Try.ntmps47
  go_wp2
  go_ret
  exact ⟨.slice none 0 0, rfl, Kd.R_nil _ _ _ _ _, Below.refl _ _⟩
 | some ad =>
  obtain ⟨y361, hy361⟩ : ∃ y_ : List Int, y_ = (([] : List Int)) := ⟨_, rfl⟩
  have Ny361 := yam hy361
  clear hy361
  go_enter Try.func47, Try.ntmps47
  go_wp2_with (first | ((with_reducible refine gate_dst (N := 5) rfl ?_); refine Kd.R_lit (Kd.int .i64) _ 3 ?hg (N := 5) ?hd (xs := ([] : List Int)) (inner := []) (ok := fun _ => True) (okp := fun _ => True) ?hr ?hp (fun _ hk => hk) trivial (Below.refl _ _) (Nat.le_refl _) (by simp) ?_; (case hd => rfl); (case hg => rfl); (case hr => first | (go_simp; done) | (go_simp; rfl)); (case hp => exact (Reps.none _ _)); intro v362 w3 ho4 hb hg_ hnew_; clear hg_ hnew_; rw [← Ny361.out] at ho4; have n0_ := yam (Kd.R_lower ho4 (below_size (by repeat (first | (with_reducible first | exact HB.out | apply below_alloc | apply pw_below_drewN | apply below_drew1) | exact HB.out)))); have n1_ := yam (below_step (by repeat (first | (with_reducible first | exact HB.out | apply below_alloc | apply pw_below_drewN | apply below_drew1) | exact HB.out)) hb); clear HB; have HO363 := n0_; have HB := n1_; clear n0_ n1_; clear hb ho4) | ((with_reducible refine gate_builtin (b := .append) (xs := #[.tmp 5, .tmp 6]) rfl ?_); at_builtin; refine Kd.R_append_rows (Kd.int .i64) (w0 := w) w.heap.size rfl (.tmp 5) (.tmp 6) 22 3 (.int .i64 0) 8 rfl Try.underlying22 info3 rfl (by decide) (by omega) v362 y361 l0 _ _ _ (fun _ => True) (fun _ => False) rfl rfl ?aO ?aR (fun _ _ h => h) (fun _ h => h.elim) ?aF ?aB ?aS ?aL ?_; (case aR => repeat (first | exact (Kd.C_below HR0.out HB.out) | (with_reducible refine Kd.C_alloc ?_ _) | (with_reducible refine Kd.C_drewN ?_ _) | (with_reducible refine Kd.C_drew ?_))); (case aB => exact (by repeat (first | (with_reducible first | exact HB.out | apply below_alloc | apply pw_below_drewN | apply below_drew1) | exact HB.out))); (case aF => exact (fun _ _ => trivial)); (case aO => exact (by (with_reducible repeat (first | apply Kd.R_alloc | apply Kd.R_drewN | apply Kd.R_drew)); exact HO363.out)); (case aS => exact (below_size (by repeat (first | (with_reducible first | exact HB.out | apply below_alloc | apply pw_below_drewN | apply below_drew1) | exact HB.out)))); (case aL => have := HLM.out; rw [Ny361.out]; simp only [List.length_nil]; omega); intro v365 w5 ho hb hg hat; rw [Ny361.out, List.nil_append] at ho; have n0_ := yam (hb); have n1_ := yam (ho); clear HB; clear HO363; have HB := n0_; have HO366 := n1_; clear n0_ n1_; clear ho hb hg hat))
  go_ret
  exact ⟨_, rfl, by (with_reducible repeat (first | apply Kd.R_alloc | apply Kd.R_drewN | apply Kd.R_drew)); exact HO366.out, by repeat (first | (with_reducible first | exact HB.out | apply below_alloc | apply pw_below_drewN | apply below_drew1) | exact HB.out)⟩
mutual
def impl_LineCells.j0 : Nat → Int → Int → Bool → Option (List Int)
 | 0, _, _, _ => none
 | k + 1, x0, x1, x19 => if x19 = true then (some ([] : List Int)) else (if 0 ≤ x0 then (if (x0 : Int).toNat ≤ 35184372088832 then (impl_LineCells.l0 k x0 x1 (([] : List Int)) x0 0) else (none)) else (none))
def impl_LineCells.l0 : Nat → Int → Int → List Int → Int → Int → Option (List Int)
 | 0, _, _, _, _, _ => none
 | k + 1, x0, x1, x5, x22, x23 => if x23 < x22 then (if x1 < x0 then (if x5.length < 17592186044416 then (impl_LineCells.l0 k x0 x1 (x5 ++ [wrap64 ((wrap64 (x1 * x0)) + x23)]) x22 (wrap64 (x23 + 1))) else (none)) else (if x5.length < 17592186044416 then (impl_LineCells.l0 k x0 x1 (x5 ++ [wrap64 ((wrap64 ((wrap64 (x23 * x0)) + x1)) - x0)]) x22 (wrap64 (x23 + 1))) else (none))) else (some x5)
end
def impl_LineCells.f (k : Nat) (a0 : Int) (a1 : Int) : Option (List Int) := (impl_sizeOk.f a0).bind fun t131 => (if t131 = true then (if a1 < 0 then (impl_LineCells.j0 k a0 a1 true) else (impl_LineCells.j0 k a0 a1 (decide (a1 ≥ (wrap64 (2 * a0)))))) else (impl_LineCells.j0 k a0 a1 true))
theorem impl_LineCells.mono_l : ∀ k, (∀ y0 y1 y2, LeO (impl_LineCells.j0 k y0 y1 y2) (impl_LineCells.j0 (k + 1) y0 y1 y2)) ∧ (∀ y0 y1 y2 y3 y4, LeO (impl_LineCells.l0 k y0 y1 y2 y3 y4) (impl_LineCells.l0 (k + 1) y0 y1 y2 y3 y4))
 | 0 => ⟨fun _ _ _ r h => by simp [impl_LineCells.j0] at h, fun _ _ _ _ _ r h => by simp [impl_LineCells.l0] at h⟩
 | k + 1 => by
  obtain ⟨ih0, ih1⟩ := impl_LineCells.mono_l k
  refine ⟨?_, ?_⟩
  ·intro y0 y1 y2
   unfold impl_LineCells.j0
   repeat' first
   | (with_reducible exact ih0 _ _ _)
   | (with_reducible exact ih1 _ _ _ _ _)
   | (with_reducible exact LeO.refl _)
   | (with_reducible exact LeO.none _)
   | (with_reducible refine LeO.ite ?_ ?_)
   | (with_reducible refine LeO.bind ?_ (fun _ => ?_))
   | exact ih0 _ _ _
   | exact ih1 _ _ _ _ _
   | exact LeO.none _
   | refine LeO.ite ?_ ?_
   | refine LeO.bind ?_ (fun _ => ?_)
  ·intro y0 y1 y2 y3 y4
   unfold impl_LineCells.l0
   repeat' first
   | (with_reducible exact ih0 _ _ _)
   | (with_reducible exact ih1 _ _ _ _ _)
   | (with_reducible exact LeO.refl _)
   | (with_reducible exact LeO.none _)
   | (with_reducible refine LeO.ite ?_ ?_)
   | (with_reducible refine LeO.bind ?_ (fun _ => ?_))
   | exact ih0 _ _ _
   | exact ih1 _ _ _ _ _
   | exact LeO.none _
   | refine LeO.ite ?_ ?_
   | refine LeO.bind ?_ (fun _ => ?_)
theorem impl_LineCells.mono : ∀ a0 a1 k, LeO (impl_LineCells.f k a0 a1) (impl_LineCells.f (k + 1) a0 a1) := by
 intro a0 a1 k
 obtain ⟨ih0, ih1⟩ := impl_LineCells.mono_l k
 unfold impl_LineCells.f
 repeat' first
   | (with_reducible exact ih0 _ _ _)
   | (with_reducible exact ih1 _ _ _ _ _)
   | (with_reducible exact LeO.refl _)
   | (with_reducible exact LeO.none _)
   | (with_reducible refine LeO.ite ?_ ?_)
   | (with_reducible refine LeO.bind ?_ (fun _ => ?_))
   | exact ih0 _ _ _
   | exact ih1 _ _ _ _ _
   | exact LeO.none _
   | refine LeO.ite ?_ ?_
   | refine LeO.bind ?_ (fun _ => ?_)
set_option maxHeartbeats 8000000 in
set_option maxRecDepth 100000 in
theorem impl_LineCells.calls (k : Nat) (a0 : Int) (a1 : Int) (r : List Int) (w : World) (h : impl_LineCells.f k a0 a1 = some r) :
  Calls Try.prog 77 #[.int .i64 a0, .int .i64 a1] w fun e w' => ∃ v0_ : Value, e = .returned (v0_) ∧ Kd.R (Kd.int .i64) 3 w' w.heap.size (fun _ => True) v0_ r ∧ Below w.heap.size w w' := by
 have HB := yam (Below.refl w.heap.size w)
 have H : ((impl_sizeOk.f a0).bind fun t131 => (if t131 = true then (if a1 < 0 then (impl_LineCells.j0 k a0 a1 true) else (impl_LineCells.j0 k a0 a1 (decide (a1 ≥ (wrap64 (2 * a0)))))) else (impl_LineCells.j0 k a0 a1 true))) = some r := h
 clear h
 have HC3 := yam H
 clear H
 go_enter Try.func77, Try.ntmps77
 go_upto_region 1 with (fail)
 go_cut [19] (fun v19 wc => ∃ (kq : Nat) (x19_2 : Bool), v19 = .bool x19_2 ∧ Aside0 (impl_LineCells.j0 kq a0 a1 x19_2 = some r) ∧ Aside0 (kq ≤ k) ∧ Aside0 (Below w.heap.size w wc))
 case first =>
  have H := HC3.out
  clear HC3
  replace H := Option.bind_eq_some_iff.mp H
  obtain ⟨t131, A40, H⟩ := H
  try dsimp only at H
  have A4 := yam A40
  clear A40
  by_cases c5 : t131 = true
  rotate_left
  ·replace c5 := Bool.eq_false_iff.mpr c5
   subst c5
   have H1 : (impl_LineCells.j0 k a0 a1 true) = some r := by rw [if_neg (show ¬ (false = true) by decide)] at H; exact H
   clear H
   have H := H1
   clear H1
   have H' := yam H
   clear H
   go_wp2_with (first | (refine goesL_ (some 8) rfl rfl Try.func44 (by kernel_rfl) rfl #[.int .i64 a0] rfl ymd ?_; (with_reducible refine (impl_sizeOk.calls a0 false _ A4.out).mono ?_); rintro e w' ⟨rfl, ⟨nd, rfl⟩⟩; refine ⟨_, rfl, ?_⟩))
   go_meet
   case rel => exact ⟨_, (true), yeq, H', ⟨by first | omega | exact Nat.le_refl _⟩, ⟨yhb⟩⟩
  subst c5
  have H1 : (if a1 < 0 then (impl_LineCells.j0 k a0 a1 true) else (impl_LineCells.j0 k a0 a1 (decide (a1 ≥ (wrap64 (2 * a0)))))) = some r := by rw [if_pos rfl] at H; exact H
  clear H
  have H := H1
  clear H1
  by_cases c6 : a1 < 0
  ·rw [if_pos c6] at H
   have c6b0 : decide (a1 < 0) = true := decide_eq_true c6
   clear c6
   (first | rw [c6b0] | (simp only [i64_w, i32_w]; rw [c6b0]) | skip)
   have H' := yam H
   clear H
   go_wp2_with (first | (refine goesL_ (some 8) rfl rfl Try.func44 (by kernel_rfl) rfl #[.int .i64 a0] rfl ymd ?_; (with_reducible refine (impl_sizeOk.calls a0 true _ A4.out).mono ?_); rintro e w' ⟨rfl, ⟨nd, rfl⟩⟩; refine ⟨_, rfl, ?_⟩))
   go_meet
   case rel => exact ⟨_, (true), yeq, H', ⟨by first | omega | exact Nat.le_refl _⟩, ⟨yhb⟩⟩
  rw [if_neg c6] at H
  have c6b0 : decide (a1 < 0) = false := decide_eq_false c6
  clear c6
  (first | rw [c6b0] | (simp only [i64_w, i32_w]; rw [c6b0]) | skip)
  have H' := yam H
  clear H
  go_wp2_with (first | (refine goesL_ (some 8) rfl rfl Try.func44 (by kernel_rfl) rfl #[.int .i64 a0] rfl ymd ?_; (with_reducible refine (impl_sizeOk.calls a0 true _ A4.out).mono ?_); rintro e w' ⟨rfl, ⟨nd, rfl⟩⟩; refine ⟨_, rfl, ?_⟩))
  go_meet
  case rel => exact ⟨_, (decide (a1 ≥ (wrap64 (2 * a0)))), yeq, H', ⟨by first | omega | exact Nat.le_refl _⟩, ⟨yhb⟩⟩
 case rest =>
  clear HC3
  try clear p2
  try clear c4
  try clear c5
  try clear c6
  try clear c6b0
  try clear p6
  obtain ⟨kq, x19_2, rfl, HA, HJ2, HB⟩ := hcut
  cases kq with
  | zero => exact absurd HA.out (by simp [impl_LineCells.j0])
  | succ kj2 =>
   have H := HA.out
   clear HA
   simp only [impl_LineCells.j0] at H
   by_cases c7 : x19_2 = true
   ·subst c7
    have H1 : (some ([] : List Int)) = some r := by rw [if_pos rfl] at H; exact H
    clear H
    have H := H1
    clear H1
    obtain rfl := Option.some.inj H
    go_wp2
    go_ret
    exact ⟨_, yer, by first | exact Kd.R_nil _ _ _ _ _ | exact Kd.N_nil _ _ _ _ _ | exact Kd.V_nil _ _ _ _ _ | exact Kd.Q_nil _ _ _ _ _ | exact Kd.S_nil _ _ _ _ _, yhb⟩
   replace c7 := Bool.eq_false_iff.mpr c7
   subst c7
   have H1 : (if 0 ≤ a0 then (if (a0 : Int).toNat ≤ 35184372088832 then (impl_LineCells.l0 kj2 a0 a1 (([] : List Int)) a0 0) else (none)) else (none)) = some r := by rw [if_neg (show ¬ (false = true) by decide)] at H; exact H
   clear H
   have H := H1
   clear H1
   by_cases c8 : 0 ≤ a0
   rotate_left
   ·rw [if_neg c8] at H
    exact absurd H (by simp)

   rw [if_pos c8] at H
   have c8b0 := eq_true c8
   have c8b1 : decide (0 ≤ a0) = true := decide_eq_true c8
   clear c8
   replace H := yig H
   obtain ⟨c9, H⟩ := H
   have c9b0 := eq_true c9
   have c9b1 : decide ((a0 : Int).toNat ≤ 35184372088832) = true := decide_eq_true c9
   clear c9
   obtain ⟨y132, hy132⟩ : ∃ y_ : List Int, y_ = (([] : List Int)) := ⟨_, rfl⟩
   replace H : (impl_LineCells.l0 kj2 a0 a1 y132 a0 0) = some r := by first | (rw [hy132]; with_reducible exact H) | (have H2_ := (Option.bind_some _ _).symm.trans H; rw [hy132]; with_reducible exact H2_) | (have H2_ := (Option.bind_some _ _).symm.trans H; with_reducible exact H2_) | with_reducible exact H | (rw [hy132]; exact H) | exact H
   have Ny132 := yam hy132
   clear hy132
   have H' := yam H
   clear H
   go_wp2_with (first | ((with_reducible refine gate_dst (N := 21) rfl ?_); refine Kd.R_make_cap (Kd.int .i64) _ 3 rfl (N := 21) rfl 22 _ _ rfl a0 rfl rfl Try.underlying22 (.int .i64 0) 8 info3 rfl (by decide) (by omega) (ok := fun _ => True) trivial (ydt) (Nat.le_trans (Nat.mul_le_mul_right _ (ydt : a0.toNat ≤ 35184372088832)) (by omega)) (Below.refl _ _) (Nat.le_refl _) ?_; intro v133 w10 ho11 hb hg_ hnew_; clear hg_ hnew_; (first | rw [← Ny132.out] at ho11 | (simp only [Int.reduceToNat] at ho11; rw [← Ny132.out] at ho11)); have n0_ := yam (Kd.R_lower ho11 (below_size (yez HB.out))); have n1_ := yam (below_step (yez HB.out) hb); clear HB; have HO134 := n0_; have HB := n1_; clear n0_ n1_; clear hb ho11))
   go_loopg [5, 23] kj2 (fun kq v5 v23 w' => ∃ (x5_2 : List Int) (x23_2 : Int), v23 = .int .i64 x23_2 ∧ Aside0 (impl_LineCells.l0 kq a0 a1 x5_2 a0 x23_2 = some r) ∧ Aside0 (kq ≤ kj2) ∧ Aside0 (Kd.R (Kd.int .i64) 3 w' w.heap.size (fun _ => True) v5 x5_2) ∧ Aside0 (Below w.heap.size w w'))
   case atStart => exact ⟨(y132), (0), yeq, H', ⟨Nat.le_refl _⟩, ⟨yka HO134.out⟩, ⟨yhb⟩⟩
   case round =>
    clear H'
    try clear p2
    try clear c4
    try clear c5
    try clear c6
    try clear c6b0
    try clear p6
    try clear c7
    try clear c8
    try clear c8b0
    try clear c8b1
    try clear c9
    try clear c9b0
    try clear c9b1
    try clear p2
    try clear p6
    obtain ⟨x5_2, x23_2, rfl, HA, HK2, HO_5, HB⟩ := hrel
    cases gk with
    | zero => exact absurd HA.out (by simp [impl_LineCells.l0])
    | succ k2 =>
     have H := HA.out
     clear HA
     simp only [impl_LineCells.l0] at H
     by_cases c12 : x23_2 < a0
     rotate_left
     ·rw [if_neg c12] at H
      have c12b0 : decide (x23_2 < a0) = false := decide_eq_false c12
      clear c12
      obtain rfl := Option.some.inj H
      go_wp2
      go_ret
      exact ⟨_, yer, yka HO_5.out, yhb⟩
     rw [if_pos c12] at H
     have c12b0 : decide (x23_2 < a0) = true := decide_eq_true c12
     clear c12
     by_cases c13 : a1 < a0
     ·rw [if_pos c13] at H
      have c13b0 : decide (a1 < a0) = true := decide_eq_true c13
      clear c13
      replace H := yig H
      obtain ⟨c14, H⟩ := H
      have LMc14 := yam c14
      clear c14
      obtain ⟨y135, hy135⟩ : ∃ y_ : List Int, y_ = (x5_2 ++ [wrap64 ((wrap64 (a1 * a0)) + x23_2)]) := ⟨_, rfl⟩
      replace H : (impl_LineCells.l0 k2 a0 a1 y135 a0 (wrap64 (x23_2 + 1))) = some r := by first | (rw [hy135]; with_reducible exact H) | (have H2_ := (Option.bind_some _ _).symm.trans H; rw [hy135]; with_reducible exact H2_) | (have H2_ := (Option.bind_some _ _).symm.trans H; with_reducible exact H2_) | with_reducible exact H | (rw [hy135]; exact H) | exact H
      have Ny135 := yam hy135
      clear hy135
      have H' := yam H
      clear H
      go_wp2_with (first | ((with_reducible refine gate_builtin (b := .append) (xs := #[.tmp 29, .tmp 35]) rfl ?_); at_builtin; refine Kd.R_append (Kd.int .i64) (w0 := w) w.heap.size rfl (.tmp 29) (.tmp 35) 22 3 (.int .i64 0) 8 rfl Try.underlying22 info3 rfl (by decide) (by omega) u5 x5_2 (wrap64 ((wrap64 (a1 * a0)) + x23_2)) [.int .i64 (wrap64 ((wrap64 (a1 * a0)) + x23_2))] (fun _ => True) (fun _ => False) rfl rfl ?aP (fun _ hk => hk.elim) ?aF ?aO ?aB ?aS ?aL ?_; (case aP => exact rfl); (case aB => exact (yez HB.out)); (case aF => exact (fun _ _ => trivial)); (case aO => exact (Kd.Yz HO_5.out)); (case aS => exact (below_size (yez HB.out))); (case aL => have := LMc14.out; omega); intro v136 w15 ho hb hg hat; rw [← Ny135.out] at ho; have n0_ := yam (hb); have n1_ := yam (ho); clear HB; clear HO_5; have HB := n0_; have HO137 := n1_; clear n0_ n1_; clear ho hb hg hat))
      go_roundg k2
      case measure => have := HJ2.out; have := HK2.out; omega
      case rel => exact ⟨(y135), (wrap64 (x23_2 + 1)), yeq, H', ⟨by have := HJ2.out; have := HK2.out; omega⟩, ⟨yka HO137.out⟩, ⟨yhb⟩⟩
     rw [if_neg c13] at H
     have c13b0 : decide (a1 < a0) = false := decide_eq_false c13
     clear c13
     replace H := yig H
     obtain ⟨c16, H⟩ := H
     have LMc16 := yam c16
     clear c16
     obtain ⟨y138, hy138⟩ : ∃ y_ : List Int, y_ = (x5_2 ++ [wrap64 ((wrap64 ((wrap64 (x23_2 * a0)) + a1)) - a0)]) := ⟨_, rfl⟩
     replace H : (impl_LineCells.l0 k2 a0 a1 y138 a0 (wrap64 (x23_2 + 1))) = some r := by first | (rw [hy138]; with_reducible exact H) | (have H2_ := (Option.bind_some _ _).symm.trans H; rw [hy138]; with_reducible exact H2_) | (have H2_ := (Option.bind_some _ _).symm.trans H; with_reducible exact H2_) | with_reducible exact H | (rw [hy138]; exact H) | exact H
     have Ny138 := yam hy138
     clear hy138
     have H' := yam H
     clear H
     go_wp2_with (first | ((with_reducible refine gate_builtin (b := .append) (xs := #[.tmp 37, .tmp 45]) rfl ?_); at_builtin; refine Kd.R_append (Kd.int .i64) (w0 := w) w.heap.size rfl (.tmp 37) (.tmp 45) 22 3 (.int .i64 0) 8 rfl Try.underlying22 info3 rfl (by decide) (by omega) u5 x5_2 (wrap64 ((wrap64 ((wrap64 (x23_2 * a0)) + a1)) - a0)) [.int .i64 (wrap64 ((wrap64 ((wrap64 (x23_2 * a0)) + a1)) - a0))] (fun _ => True) (fun _ => False) rfl rfl ?aP (fun _ hk => hk.elim) ?aF ?aO ?aB ?aS ?aL ?_; (case aP => exact rfl); (case aB => exact (yez HB.out)); (case aF => exact (fun _ _ => trivial)); (case aO => exact (Kd.Yz HO_5.out)); (case aS => exact (below_size (yez HB.out))); (case aL => have := LMc16.out; omega); intro v139 w17 ho hb hg hat; rw [← Ny138.out] at ho; have n0_ := yam (hb); have n1_ := yam (ho); clear HB; clear HO_5; have HB := n0_; have HO140 := n1_; clear n0_ n1_; clear ho hb hg hat))
     go_roundg k2
     case measure => have := HJ2.out; have := HK2.out; omega
     case rel => exact ⟨(y138), (wrap64 (x23_2 + 1)), yeq, H', ⟨by have := HJ2.out; have := HK2.out; omega⟩, ⟨yka HO140.out⟩, ⟨yhb⟩⟩
theorem impl_LineCells.nil (a0 a1 : Int) (w : World) (hb : ¬ (2 ≤ a0 ∧ a0 ≤ 4 ∧ 0 ≤ a1 ∧ a1 < 2 * a0)) :
  Calls Try.prog 77 #[.int .i64 a0, .int .i64 a1] w fun e w' => e = .returned (.slice none 0 0) ∧ Drawn0 w w' := by
 by_cases hs : 2 ≤ a0 ∧ a0 ≤ 4
 ·have hf : impl_sizeOk.f a0 = some true := by
   unfold impl_sizeOk.f; rw [if_pos (show a0 ≥ 2 from hs.1), decide_eq_true hs.2]
  have h2 := hs.1
  have h4 := hs.2
  by_cases h0 : a1 < 0
  ·have h0b : decide (a1 < 0) = true := decide_eq_true h0
   clear hb hs
   go_enter Try.func77, Try.ntmps77
   go_wp2_with (first | (go_at_call 44; (with_reducible refine (impl_sizeOk.calls a0 true _ hf).mono ?_); rintro e w' ⟨rfl, ⟨nd, rfl⟩⟩))
   go_ret
   exact ⟨rfl, by repeat (first | exact Drawn0.refl _ | apply Drawn0.step)⟩
  ·have h0b : decide (a1 < 0) = false := decide_eq_false h0
   have h1 : 2 * a0 ≤ a1 := by omega
   have h1b : decide (2 * a0 ≤ a1) = true := decide_eq_true h1
   clear hb hs
   go_enter Try.func77, Try.ntmps77
   go_wp2_with (first | (go_at_call 44; (with_reducible refine (impl_sizeOk.calls a0 true _ hf).mono ?_); rintro e w' ⟨rfl, ⟨nd, rfl⟩⟩))
   go_ret
   exact ⟨rfl, by repeat (first | exact Drawn0.refl _ | apply Drawn0.step)⟩
 ·have hf : impl_sizeOk.f a0 = some false := by
   unfold impl_sizeOk.f
   by_cases h2 : a0 ≥ 2
   ·rw [if_pos h2, decide_eq_false (by omega)]
   ·rw [if_neg h2]
  clear hb hs
  go_enter Try.func77, Try.ntmps77
  go_wp2_with (first | (go_at_call 44; (with_reducible refine (impl_sizeOk.calls a0 false _ hf).mono ?_); rintro e w' ⟨rfl, ⟨nd, rfl⟩⟩))
  go_ret
  exact ⟨rfl, by repeat (first | exact Drawn0.refl _ | apply Drawn0.step)⟩
mutual
def impl_SquareFits.l0 : Nat → List Int → Int → Int → Option (Bool)
 | 0, _, _, _ => none
 | k + 1, x0, x1, x15 => if x15 < (wrap64 (2 * x1)) then ((impl_LineCells.f k x1 x15).bind fun t => (impl_SquareFits.l1 k x0 x1 x15 t [false, false, false, false, false] 0)) else (some true)
def impl_SquareFits.l1 : Nat → List Int → Int → Int → List Int → List Bool → Int → Option (Bool)
 | 0, _, _, _, _, _, _ => none
 | k + 1, x0, x1, x15, x21, x6, x23 => if x23 < (x21.length : Int) then (if 0 ≤ x23 then (if 0 ≤ (rd x21 x23) then (if (rd x21 x23) < (x0.length : Int) then (if 0 ≤ (rd x0 (rd x21 x23)) then (if (rd x0 (rd x21 x23)) < (x6.length : Int) then (if (rd x0 (rd x21 x23)) > 0 then (if (rdOf false x6 (rd x0 (rd x21 x23))) = true then (some false) else (impl_SquareFits.l1 k x0 x1 x15 x21 (x6.set (rd x0 (rd x21 x23)).toNat true) (wrap64 (x23 + 1)))) else (impl_SquareFits.l1 k x0 x1 x15 x21 (x6.set (rd x0 (rd x21 x23)).toNat true) (wrap64 (x23 + 1)))) else (none)) else (none)) else (none)) else (none)) else (none)) else (impl_SquareFits.l0 k x0 x1 (wrap64 (x15 + 1)))
end
def impl_SquareFits.f (k : Nat) (l0 : List Int) (a1 : Int) : Option (Bool) := (impl_GridValid.f k l0 a1).bind fun t => (if t = true then (impl_SquareFits.l0 k l0 a1 0) else (some false))
set_option maxHeartbeats 8000000 in
set_option maxRecDepth 100000 in
theorem impl_SquareFits.calls (k : Nat) (A0 : Option Addr) (c0 : Nat) (l0 : List Int) (a1 : Int) (r : Bool) (w : World) (hr0 : Kd.C (Kd.int .i64) w A0 l0.length l0) (hc0 : l0.length ≤ c0) (h : impl_SquareFits.f k l0 a1 = some r) :
  Calls Try.prog 52 #[.slice A0 l0.length c0, .int .i64 a1] w fun e w' => e = .returned (.bool r) ∧ Below w.heap.size w w' := by
 have HR0 := yam hr0
 have HC0 := yam hc0
 clear hr0 hc0
 have HB := yam (Below.refl w.heap.size w)
 have H : ((impl_GridValid.f k l0 a1).bind fun t => (if t = true then (impl_SquareFits.l0 k l0 a1 0) else (some false))) = some r := h
 clear h
 replace H := Option.bind_eq_some_iff.mp H
 obtain ⟨t1, A10, H⟩ := H
 replace H : (if t1 = true then (impl_SquareFits.l0 k l0 a1 0) else (some false)) = some r := H
 have A1 := yam A10
 clear A10
 by_cases c1 : t1 = true
 ·subst c1
  rw [if_pos rfl] at H
  have H' := yam H
  clear H
  go_enter Try.func52, Try.ntmps52
  go_wp2_with (first | (go_at_call 76; (with_reducible refine (impl_GridValid.calls k _ _ l0 a1 true _ HR0.out HC0.out A1.out).mono ?_); rintro e w' ⟨rfl, ⟨nd, rfl⟩⟩))
  go_loopg [5, 15] k (fun kq v5 v15 w' => ∃ (x15 : Int), v15 = .int .i64 x15 ∧ Aside0 (impl_SquareFits.l0 kq l0 a1 x15 = some r) ∧ Aside0 (kq ≤ k) ∧ Aside0 (Below w.heap.size w w'))
  case atStart => exact ⟨0, rfl, H', ⟨Nat.le_refl _⟩, ⟨by repeat (first | (with_reducible first | exact HB.out | apply below_alloc | apply pw_below_drewN | apply below_drew1) | exact HB.out)⟩⟩
  case round =>
   clear H' HB
   obtain ⟨x15, rfl, HA, HK1, HB⟩ := hrel
   cases gk with
   | zero => exact absurd HA.out (by simp [impl_SquareFits.l0])
   | succ k1 =>
    have H := HA.out
    clear HA
    simp only [impl_SquareFits.l0] at H
    by_cases c3 : x15 < (wrap64 (2 * a1))
    ·rw [if_pos c3] at H
     have c3b0 : decide (x15 < (wrap64 (2 * a1))) = true := decide_eq_true c3
     clear c3
     replace H := Option.bind_eq_some_iff.mp H
     obtain ⟨t4, A40, H⟩ := H
     replace H : (impl_SquareFits.l1 k1 l0 a1 x15 t4 [false, false, false, false, false] 0) = some r := H
     have A4 := yam A40
     clear A40
     have H' := yam H
     clear H
     have hsz := HB.out.size
     have HG := yam hsz
     clear hsz
     obtain ⟨wo, rfl⟩ : ∃ wo : World, wo = wr := ⟨_, rfl⟩
     have HO6 := yam (arr5_new wo w.heap.size HG.out 86)
     have HB2 := yam (below_alloc HB.out (.cells #[.bool false, .bool false, .bool false, .bool false, .bool false] 86))
     go_wp2_with (first | (refine goesL_ (some 21) rfl rfl Try.func77 (by kernel_rfl) rfl #[.int .i64 a1, .int .i64 x15] rfl yma ?_; (with_reducible refine (impl_LineCells.calls k1 a1 x15 t4 _ A4.out).mono ?_); rintro e w5 ⟨v116, rfl, ho0, hb⟩; refine ⟨_, rfl, ?_⟩; obtain ⟨Ao14, co14, eo14⟩ := Kd.R_slice ho0; subst eo14; have HO21 := yam (show Kd.R (Kd.int .i64) 3 w5 w.heap.size (fun k_ => k_ ≠ wo.heap.size) (.slice Ao14 t4.length co14) t4 from Kd.R_lower (Kd.R_mono (Kd.R_bound ho0) (fun k_ hk_ => Nat.ne_of_gt (Nat.lt_of_lt_of_le (below_alloc_size wo _) hk_.2.1))) (below_size HB2.out)); have n2_ := yam (Kd.R_below HO6.out hb); clear HO6; have HO6 := n2_; have n1_ := yam (below_step HB2.out hb); clear HB HB2 n2_; have HB := n1_; clear n1_ hb ho0))
     go_loopg [8, 23] k1 (fun kq v8 v23 w' => ∃ (x6 : List Bool) (x23 : Int), v23 = .int .i64 x23 ∧ Aside0 (impl_SquareFits.l1 kq l0 a1 x15 t4 x6 x23 = some r) ∧ Aside0 (kq ≤ k1) ∧ Aside0 (Kd.R Kd.bool 86 w' w.heap.size (fun _ => True) (.slice (some ⟨wo.heap.size, 0, none⟩) x6.length 5) x6) ∧ Aside0 (x6.length = 5) ∧ Aside0 (Kd.R (Kd.int .i64) 3 w' w.heap.size (fun k_ => k_ ≠ wo.heap.size) (.slice Ao14 t4.length co14) t4) ∧ Aside0 (Below w.heap.size w w'))
     case atStart => exact ⟨_, 0, rfl, H', ⟨Nat.le_refl _⟩, HO6, ⟨rfl⟩, HO21, HB⟩
     case round =>
      clear H' HO6 HO21 HB
      obtain ⟨x6, x23, rfl, HA, HK2, HO6, HL6, HO21, HB⟩ := hrel
      cases gk with
      | zero => exact absurd HA.out (by simp [impl_SquareFits.l1])
      | succ k2 =>
       have H := HA.out
       clear HA
       simp only [impl_SquareFits.l1] at H
       by_cases c6 : x23 < (t4.length : Int)
       ·rw [if_pos c6] at H
        have c6b0 : decide (x23 < (t4.length : Int)) = true := decide_eq_true c6
        clear c6
        by_cases c7 : 0 ≤ x23
        ·rw [if_pos c7] at H
         have c7b0 : decide (0 ≤ x23) = true := decide_eq_true c7
         clear c7
         by_cases c8 : 0 ≤ (rd t4 x23)
         ·rw [if_pos c8] at H
          have c8b0 : decide (0 ≤ (rd t4 x23)) = true := decide_eq_true c8
          clear c8
          by_cases c9 : (rd t4 x23) < (l0.length : Int)
          ·rw [if_pos c9] at H
           have c9b0 : decide ((rd t4 x23) < (l0.length : Int)) = true := decide_eq_true c9
           clear c9
           by_cases c10 : 0 ≤ (rd l0 (rd t4 x23))
           ·rw [if_pos c10] at H
            have c10b0 : decide (0 ≤ (rd l0 (rd t4 x23))) = true := decide_eq_true c10
            clear c10
            by_cases c11 : (rd l0 (rd t4 x23)) < (x6.length : Int)
            ·rw [if_pos c11] at H
             have p118 : 0 ≤ (x23 : Int) := ydt
             have q118 : x23 < (t4.length : Int) := ydt
             obtain ⟨ad118, e118, hx118_0⟩ := Kd.at_int (Kd.R_reads' HO21.out).2.2 x23 p118 q118
             cases e118
             replace p118 := eq_true p118
             replace q118 := eq_true q118
             have p119 : 0 ≤ ((rd t4 x23) : Int) := ydt
             have q119 : (rd t4 x23) < (l0.length : Int) := ydt
             obtain ⟨ad119, e119, hx119_0⟩ := Kd.at_int HR0.out (rd t4 x23) p119 q119
             cases e119
             replace hx119_0 := ybx HB.out hx119_0
             replace p119 := eq_true p119
             replace q119 := eq_true q119
             have p120 : 0 ≤ (rd l0 (rd t4 x23)) := ydt
             have q120 : (rd l0 (rd t4 x23)) < 5 := by have := HL6.out; omega
             obtain ⟨hc120, hf120⟩ := Kd.R_cell false HO6.out (rd l0 (rd t4 x23)) p120 c11
             clear c11
             have p121 := eq_true p120
             have q121 := eq_true q120
             have q122 : decide ((rd l0 (rd t4 x23)) < 5) = true := decide_eq_true q120
             by_cases c12 : (rd l0 (rd t4 x23)) > 0
             ·rw [if_pos c12] at H
              have c12b0 : decide (0 < (rd l0 (rd t4 x23))) = true := decide_eq_true c12
              clear c12
              by_cases c13 : rdOf false x6 (rd l0 (rd t4 x23)) = true
              ·rw [if_pos c13] at H
               obtain rfl := Option.some.inj H
               go_wp2
               go_ret
               exact ⟨rfl, HB.out⟩
              ·rw [if_neg c13] at H
               have c13b0 : rdOf false x6 (rd l0 (rd t4 x23)) = false := eq_false_of_ne_true c13
               clear c13
               have H' := yam H
               clear H
               go_wp2
               go_roundg k2
               case measure => have := HK1.out; have := HK2.out; omega
               case rel =>
                have hput := Kd.R_put HO6.out (rd l0 (rd t4 x23)) true
                refine ⟨_, _, rfl, H', ⟨by have := HK1.out; have := HK2.out; omega⟩, ⟨?_⟩, ⟨by rw [List.length_set]; exact HL6.out⟩, ⟨Kd.R_grown HO21.out hput.2 (fun k_ hk_ e_ => hk_ (Option.some.inj e_))⟩, ⟨below_set HB.out HG.out⟩⟩
                rw [List.length_set]
                exact hput.1
             ·rw [if_neg c12] at H
              have c12b0 : decide (0 < (rd l0 (rd t4 x23))) = false := decide_eq_false c12
              clear c12
              have H' := yam H
              clear H
              go_wp2
              go_roundg k2
              case measure => have := HK1.out; have := HK2.out; omega
              case rel =>
               have hput := Kd.R_put HO6.out (rd l0 (rd t4 x23)) true
               refine ⟨_, _, rfl, H', ⟨by have := HK1.out; have := HK2.out; omega⟩, ⟨?_⟩, ⟨by rw [List.length_set]; exact HL6.out⟩, ⟨Kd.R_grown HO21.out hput.2 (fun k_ hk_ e_ => hk_ (Option.some.inj e_))⟩, ⟨below_set HB.out HG.out⟩⟩
               rw [List.length_set]
               exact hput.1
            ·rw [if_neg c11] at H
             exact absurd H (by simp)
           ·rw [if_neg c10] at H
            exact absurd H (by simp)
          ·rw [if_neg c9] at H
           exact absurd H (by simp)
         ·rw [if_neg c8] at H
          exact absurd H (by simp)
        ·rw [if_neg c7] at H
         exact absurd H (by simp)
       ·rw [if_neg c6] at H
        have c6b0 : decide (x23 < (t4.length : Int)) = false := decide_eq_false c6
        clear c6
        have H' := yam H
        clear H
        go_wp2
        go_roundg k2
        case measure => have := HK1.out; have := HK2.out; omega
        case rel => exact ⟨(wrap64 (x15 + 1)), rfl, H', ⟨by have := HK1.out; have := HK2.out; omega⟩, HB⟩
    ·rw [if_neg c3] at H
     have c3b0 : decide (x15 < (wrap64 (2 * a1))) = false := decide_eq_false c3
     clear c3
     obtain rfl := Option.some.inj H
     go_wp2
     go_ret
     exact ⟨rfl, HB.out⟩
 ·rw [if_neg c1] at H
  obtain rfl := Option.some.inj H
  obtain rfl : t1 = false := eq_false_of_ne_true c1
  clear c1
  go_enter Try.func52, Try.ntmps52
  go_wp2_with (first | (go_at_call 76; (with_reducible refine (impl_GridValid.calls k _ _ l0 a1 false _ HR0.out HC0.out A1.out).mono ?_); rintro e w' ⟨rfl, ⟨nd, rfl⟩⟩))
  go_ret
  exact ⟨rfl, by repeat (first | (with_reducible first | exact HB.out | apply below_alloc | apply pw_below_drewN | apply below_drew1) | exact HB.out)⟩
def impl_allValues.f (a0 : Int) : Option (Int) := if 0 ≤ (wrap64 (a0 + 1)) then (some (wrap64 ((shl .i64 1 (wrap64 (a0 + 1))) - 2))) else (none)
set_option maxHeartbeats 8000000 in
set_option maxRecDepth 100000 in
theorem impl_allValues.calls (a0 : Int) (r : Int) (w : World) (h : impl_allValues.f a0 = some r) :
  Calls Try.prog 91 #[.int .i64 a0] w fun e w' => e = .returned (.int .i64 r) ∧ Drawn0 w w' := by
 have H : (if 0 ≤ (wrap64 (a0 + 1)) then (some (wrap64 ((shl .i64 1 (wrap64 (a0 + 1))) - 2))) else (none)) = some r := h
 clear h
 obtain ⟨ji2, hji2⟩ : ∃ j_ : Int, (wrap64 (a0 + 1)) = j_ := ⟨_, rfl⟩
 replace H : (if 0 ≤ (ji2) then (some (wrap64 ((shl .i64 1 (ji2)) - 2))) else (none)) = some r := by first | (rw [hji2] at H; exact H) | (simp only [hji2] at H ⊢; exact H)
 have hji2w : (IntKind.i64.wrap (a0 + 1)) = ji2 := (i64_w _).trans hji2
 by_cases c3 : 0 ≤ (ji2)
 rotate_left
 ·rw [if_neg c3] at H
  exact absurd H (by simp)

 rw [if_pos c3] at H
 have c3b0 := eq_true c3
 have c3b1 : decide (0 ≤ (ji2)) = true := decide_eq_true c3
 clear c3
 obtain ⟨ji4, hji4⟩ : ∃ j_ : Int, (shl .i64 1 (ji2)) = j_ := ⟨_, rfl⟩
 replace H : (some (wrap64 ((ji4) - 2))) = some r := by first | (rw [hji4] at H; exact H) | (simp only [hji4] at H ⊢; exact H)
 have hji4_ : (IntKind.i64.wrap (1 * 2 ^ min (ji2).toNat 64)) = ji4 := hji4
 have hji4z : (ji2) ≤ 64 → (IntKind.i64.wrap (1 * 2 ^ (ji2).toNat)) = ji4 := shl_small hji4
 have hji4u : (IntKind.i64.wrap (2 ^ min (ji2).toNat 64)) = ji4 := by have h_ := hji4_; rw [Int.one_mul] at h_; exact h_
 have hji4v : (ji2) ≤ 64 → (IntKind.i64.wrap (2 ^ (ji2).toNat)) = ji4 := fun hle_ => by have h_ := hji4z hle_; rw [Int.one_mul] at h_; exact h_
 have hji4y : (wrap64 (1 * 2 ^ min (ji2).toNat 64)) = ji4 := (i64_w _).symm.trans hji4_
 have hji4x : (ji2) ≤ 64 → (wrap64 (1 * 2 ^ (ji2).toNat)) = ji4 := fun h_ => (i64_w _).symm.trans (hji4z h_)
 obtain rfl := Option.some.inj H
 go_enter Try.func91, Try.ntmps91
 go_wp2
 go_ret
 exact ⟨by first | rfl | (simp; done) | (simp only [← hji2, ← hji4] <;> (first | rfl | simp)) | (simp [*]; done), by repeat (first | exact Drawn0.refl _ | apply Drawn0.step)⟩
def impl_valuesHold.l0 : Nat → List Int → Int → Int → List Int → Int → Int → Int → List Int → Int → Option (Bool)
 | 0, _, _, _, _, _, _, _, _, _ => none
 | k + 1, x1, x5, x6, x9, x10, x11, x154000, x154001, x154002 => if x11 < x10 then (if 0 ≤ x11 then (if x11 < (x9.length : Int) then (if x154000 = 1 then (if x11 ≤ (x1.length : Int) then ((slices_Contains_int_int.f k (x1.take (x11 : Int).toNat) (rd x9 x11)).bind fun t156 => (if t156 = true then (some false) else (impl_valuesHold.l0 k x1 (wrap64 (x5 + (rd x9 x11))) (wrap64 (x6 * (rd x9 x11))) x9 x10 (wrap64 (x11 + 1)) x154000 x154001 x154002))) else (none)) else (impl_valuesHold.l0 k x1 (wrap64 (x5 + (rd x9 x11))) (wrap64 (x6 * (rd x9 x11))) x9 x10 (wrap64 (x11 + 1)) x154000 x154001 x154002)) else (none)) else (none)) else (if x154000 = 2 then (some (x5 == x154002)) else (if x154000 = 3 then (some (x6 == x154002)) else (if x154000 = 4 then (if 0 < (x1.length : Int) then (if 1 < (x1.length : Int) then (some (decide ((rd x1 0) < (rd x1 1)))) else (none)) else (none)) else (if x154000 = 5 then (if 0 < (x1.length : Int) then (if 1 < (x1.length : Int) then (some ((mx (wrap64 ((rd x1 0) - (rd x1 1))) (wrap64 ((rd x1 1) - (rd x1 0)))) == x154002)) else (none)) else (none)) else (some true)))))
def impl_valuesHold.f (k : Nat) (a0_0 : Int) (l0_1 : List Int) (a0_2 : Int) (l1 : List Int) : Option (Bool) := impl_valuesHold.l0 k l1 0 1 l1 (l1.length : Int) 0 a0_0 l0_1 a0_2
set_option maxHeartbeats 8000000 in
set_option maxRecDepth 100000 in
theorem impl_valuesHold.calls (k : Nat) (a0_0 : Int) (A0_1 : Option Addr) (c0_1 : Nat) (l0_1 : List Int) (a0_2 : Int) (A1 : Option Addr) (c1 : Nat) (l1 : List Int) (r : Bool) (w : World) (hr0_1 : Kd.C (Kd.int .i64) w A0_1 l0_1.length l0_1) (hc0_1 : l0_1.length ≤ c0_1) (hr1 : Kd.C (Kd.int .i64) w A1 l1.length l1) (hc1 : l1.length ≤ c1) (h : impl_valuesHold.f k a0_0 l0_1 a0_2 l1 = some r) :
  Calls Try.prog 82 #[.agg #[.int .i64 a0_0, .slice A0_1 l0_1.length c0_1, .int .i64 a0_2], .slice A1 l1.length c1] w fun e w' => e = .returned (.bool r) ∧ Below w.heap.size w w' := by
 have hu73 := Try.underlying73
 have HR0_1 := yam hr0_1
 have HC0_1 := yam hc0_1
 clear hr0_1 hc0_1
 have HR1 := yam hr1
 have HC1 := yam hc1
 clear hr1 hc1
 have HB := yam (Below.refl w.heap.size w)
 have H : (impl_valuesHold.l0 k l1 0 1 l1 (l1.length : Int) 0 a0_0 l0_1 a0_2) = some r := h
 clear h
 have H' := yam H
 clear H
 go_enter Try.func82, Try.ntmps82
 go_wp2_with (first | (refine ybe 2 #[.int .i64 a0_0, .slice A0_1 l0_1.length c0_1, .int .i64 a0_2] 73 ?_; intro gb153 hg w3 hbox hb; have n0_ := yam (below_step (yez HB.out) hb); have n1_ := yam (hbox); have n2_ := yam ((by rw [hg]; exact (below_size (yez HB.out)) : w.heap.size ≤ gb153)); have n3_ := n2_; clear HB; have HB := n0_; have BK153 := n1_; have GW153 := n2_; have GE153 := n3_; clear n0_ n1_ n2_ n3_; clear hb hbox hg))
 repeat (go_quiet (first | (refine ybe 2 #[.int .i64 a0_0, .slice A0_1 l0_1.length c0_1, .int .i64 a0_2] 73 ?_; intro gb153 hg w3 hbox hb; have n0_ := yam (below_step (yez HB.out) hb); have n1_ := yam (hbox); have n2_ := yam ((by rw [hg]; exact (below_size (yez HB.out)) : w.heap.size ≤ gb153)); have n3_ := n2_; clear HB; have HB := n0_; have BK153 := n1_; have GW153 := n2_; have GE153 := n3_; clear n0_ n1_ n2_ n3_; clear hb hbox hg)); try go_wp2_with (first | (refine ybe 2 #[.int .i64 a0_0, .slice A0_1 l0_1.length c0_1, .int .i64 a0_2] 73 ?_; intro gb153 hg w3 hbox hb; have n0_ := yam (below_step (yez HB.out) hb); have n1_ := yam (hbox); have n2_ := yam ((by rw [hg]; exact (below_size (yez HB.out)) : w.heap.size ≤ gb153)); have n3_ := n2_; clear HB; have HB := n0_; have BK153 := n1_; have GW153 := n2_; have GE153 := n3_; clear n0_ n1_ n2_ n3_; clear hb hbox hg)))
 go_loopg [5, 6, 11] k (fun kq v5 v6 v11 w' => ∃ (x5_1 : Int) (x6_1 : Int) (x11_1 : Int), v5 = .int .i64 x5_1 ∧ v6 = .int .i64 x6_1 ∧ v11 = .int .i64 x11_1 ∧ Aside0 (impl_valuesHold.l0 kq l1 x5_1 x6_1 l1 (l1.length : Int) x11_1 a0_0 l0_1 a0_2 = some r) ∧ Aside0 (kq ≤ k) ∧ Aside0 (w'.heap[gb153]? = some (.cells #[.int .i64 a0_0, (.slice A0_1 l0_1.length c0_1), .int .i64 a0_2] 73 (0, 0))) ∧ Aside0 (Below w.heap.size w w'))
 case atStart => exact ⟨(0), (1), (0), yeq, yeq, yeq, H', ⟨Nat.le_refl _⟩, ⟨by (with_reducible repeat (first | refine ybn ?_ _ | refine ybd ?_ | refine yba ?_ _)); exact BK153.out⟩, ⟨yhb⟩⟩
 case round =>
  clear H'
  try clear c1
  try clear p2
  obtain ⟨x5_1, x6_1, x11_1, rfl, rfl, rfl, HA, HK1, BK153, HB⟩ := hrel
  cases gk with
  | zero => exact absurd HA.out (by simp [impl_valuesHold.l0])
  | succ k1 =>
   have H := HA.out
   clear HA
   simp only [impl_valuesHold.l0] at H
   by_cases c4 : x11_1 < (l1.length : Int)
   rotate_left
   ·rw [if_neg c4] at H
    have c4b0 : decide (x11_1 < (l1.length : Int)) = false := decide_eq_false c4
    clear c4
    by_cases c17 : a0_0 = 2
    ·rw [if_pos c17] at H
     have c17b0 : (a0_0 == 2) = true := beq_iff_eq.mpr c17
     have c17b1 : (a0_0 != 2) = false := bne_eq_false_iff_eq.mpr c17
     clear c17
     obtain rfl := Option.some.inj H
     obtain ⟨hcz18_0, hcz18_1, hcz18_2, hfz18_0, hfz18_1, hfz18_2⟩ := ybc BK153.out
     go_wp2
     repeat (go_quiet (fail); try go_wp2)
     go_ret
     exact ⟨yer, yhb⟩
    rw [if_neg c17] at H
    have c17b0 : (a0_0 == 2) = false := beq_eq_false_iff_ne.mpr c17
    have c17b1 : (a0_0 != 2) = true := bne_iff_ne.mpr c17
    by_cases c19 : a0_0 = 3
    ·rw [if_pos c19] at H
     have c19b0 : (a0_0 == 3) = true := beq_iff_eq.mpr c19
     have c19b1 : (a0_0 != 3) = false := bne_eq_false_iff_eq.mpr c19
     clear c19
     obtain rfl := Option.some.inj H
     obtain ⟨hcz20_0, hcz20_1, hcz20_2, hfz20_0, hfz20_1, hfz20_2⟩ := ybc BK153.out
     go_wp2
     repeat (go_quiet (fail); try go_wp2)
     go_ret
     exact ⟨yer, yhb⟩
    rw [if_neg c19] at H
    have c19b0 : (a0_0 == 3) = false := beq_eq_false_iff_ne.mpr c19
    have c19b1 : (a0_0 != 3) = true := bne_iff_ne.mpr c19
    by_cases c21 : a0_0 = 4
    ·rw [if_pos c21] at H
     have c21b0 : (a0_0 == 4) = true := beq_iff_eq.mpr c21
     have c21b1 : (a0_0 != 4) = false := bne_eq_false_iff_eq.mpr c21
     clear c21
     replace H := yig H
     obtain ⟨c22, H⟩ := H
     have c22b0 : decide (0 < (l1.length : Int)) = true := decide_eq_true c22
     have c22b1 : decide (0 < l1.length) = true := decide_eq_true (by omega)
     clear c22
     replace H := yig H
     obtain ⟨c23, H⟩ := H
     have c23b0 : decide (1 < (l1.length : Int)) = true := decide_eq_true c23
     have c23b1 : decide (1 < l1.length) = true := decide_eq_true (by omega)
     clear c23
     obtain rfl := Option.some.inj H
     obtain ⟨hcz24_0, hcz24_1, hcz24_2, hfz24_0, hfz24_1, hfz24_2⟩ := ybc BK153.out
     have p157 : 0 ≤ (0 : Int) := (by omega)
     have q157 : 0 < (l1.length : Int) := ydt
     obtain ⟨ad157, e157, hx157_0⟩ := Kd.at_int HR1.out 0 p157 q157
     cases e157
     have qi157 : (0 < l1.length) = True := eq_true (by omega)
     (try rw [show ((0 : Int)).toNat = 0 from rfl] at hx157_0)
     (try rw [Addr.add_zero'] at hx157_0)
     replace hx157_0 := ybx HB.out hx157_0
     replace p157 := eq_true p157
     replace q157 := eq_true q157
     have p158 : 0 ≤ (1 : Int) := (by omega)
     have q158 : 1 < (l1.length : Int) := ydt
     obtain ⟨ad158, e158, hx158_0⟩ := Kd.at_int HR1.out 1 p158 q158
     obtain rfl : ad157 = ad158 := (by injection e158)
     (try simp only [show (1 : Int).toNat = 1 from rfl, Nat.reduceMul, Nat.reduceEqDiff, Go.Addr.add, ↓reduceIte] at hx158_0)
     have qi158 : (1 < l1.length) = True := eq_true (by omega)
     (try rw [show ((1 : Int)).toNat = 1 from rfl] at hx158_0)
     replace hx158_0 := ybx HB.out hx158_0
     replace p158 := eq_true p158
     replace q158 := eq_true q158
     go_wp2
     repeat (go_quiet (fail); try go_wp2)
     go_ret
     exact ⟨yer, yhb⟩
    rw [if_neg c21] at H
    have c21b0 : (a0_0 == 4) = false := beq_eq_false_iff_ne.mpr c21
    have c21b1 : (a0_0 != 4) = true := bne_iff_ne.mpr c21
    by_cases c25 : a0_0 = 5
    rotate_left
    ·rw [if_neg c25] at H
     have c25b0 : (a0_0 == 5) = false := beq_eq_false_iff_ne.mpr c25
     have c25b1 : (a0_0 != 5) = true := bne_iff_ne.mpr c25
     obtain rfl := Option.some.inj H
     obtain ⟨hcz30_0, hcz30_1, hcz30_2, hfz30_0, hfz30_1, hfz30_2⟩ := ybc BK153.out
     go_wp2
     repeat (go_quiet (fail); try go_wp2)
     go_ret
     exact ⟨yer, yhb⟩

    rw [if_pos c25] at H
    have c25b0 : (a0_0 == 5) = true := beq_iff_eq.mpr c25
    have c25b1 : (a0_0 != 5) = false := bne_eq_false_iff_eq.mpr c25
    clear c25
    replace H := yig H
    obtain ⟨c26, H⟩ := H
    have c26b0 : decide (0 < (l1.length : Int)) = true := decide_eq_true c26
    have c26b1 : decide (0 < l1.length) = true := decide_eq_true (by omega)
    clear c26
    replace H := yig H
    obtain ⟨c27, H⟩ := H
    have c27b0 : decide (1 < (l1.length : Int)) = true := decide_eq_true c27
    have c27b1 : decide (1 < l1.length) = true := decide_eq_true (by omega)
    clear c27
    obtain ⟨ji28, hji28⟩ : ∃ j_ : Int, (mx (wrap64 ((rd l1 0) - (rd l1 1))) (wrap64 ((rd l1 1) - (rd l1 0)))) = j_ := ⟨_, rfl⟩
    replace H : (some ((ji28) == a0_2)) = some r := by first | (rw [hji28] at H; exact H) | (simp only [hji28] at H ⊢; exact H)
    have hji28_ : (if (wrap64 ((rd l1 0) - (rd l1 1))) < (wrap64 ((rd l1 1) - (rd l1 0))) then (wrap64 ((rd l1 1) - (rd l1 0))) else (wrap64 ((rd l1 0) - (rd l1 1)))) = ji28 := hji28
    obtain rfl := Option.some.inj H
    obtain ⟨hcz29_0, hcz29_1, hcz29_2, hfz29_0, hfz29_1, hfz29_2⟩ := ybc BK153.out
    have p159 : 0 ≤ (0 : Int) := (by omega)
    have q159 : 0 < (l1.length : Int) := ydt
    obtain ⟨ad159, e159, hx159_0⟩ := Kd.at_int HR1.out 0 p159 q159
    cases e159
    have qi159 : (0 < l1.length) = True := eq_true (by omega)
    (try rw [show ((0 : Int)).toNat = 0 from rfl] at hx159_0)
    (try rw [Addr.add_zero'] at hx159_0)
    replace hx159_0 := ybx HB.out hx159_0
    replace p159 := eq_true p159
    replace q159 := eq_true q159
    have p160 : 0 ≤ (1 : Int) := (by omega)
    have q160 : 1 < (l1.length : Int) := ydt
    obtain ⟨ad160, e160, hx160_0⟩ := Kd.at_int HR1.out 1 p160 q160
    obtain rfl : ad159 = ad160 := (by injection e160)
    (try simp only [show (1 : Int).toNat = 1 from rfl, Nat.reduceMul, Nat.reduceEqDiff, Go.Addr.add, ↓reduceIte] at hx160_0)
    have qi160 : (1 < l1.length) = True := eq_true (by omega)
    (try rw [show ((1 : Int)).toNat = 1 from rfl] at hx160_0)
    replace hx160_0 := ybx HB.out hx160_0
    replace p160 := eq_true p160
    replace q160 := eq_true q160
    have p161 : 0 ≤ (1 : Int) := (by omega)
    have q161 : 1 < (l1.length : Int) := ydt
    obtain ⟨ad161, e161, hx161_0⟩ := Kd.at_int HR1.out 1 p161 q161
    obtain rfl : ad159 = ad161 := (by injection e161)
    (try simp only [show (1 : Int).toNat = 1 from rfl, Nat.reduceMul, Nat.reduceEqDiff, Go.Addr.add, ↓reduceIte] at hx161_0)
    have qi161 : (1 < l1.length) = True := eq_true (by omega)
    (try rw [show ((1 : Int)).toNat = 1 from rfl] at hx161_0)
    replace hx161_0 := ybx HB.out hx161_0
    replace p161 := eq_true p161
    replace q161 := eq_true q161
    have p162 : 0 ≤ (0 : Int) := (by omega)
    have q162 : 0 < (l1.length : Int) := ydt
    obtain ⟨ad162, e162, hx162_0⟩ := Kd.at_int HR1.out 0 p162 q162
    obtain rfl : ad159 = ad162 := (by injection e162)
    have qi162 : (0 < l1.length) = True := eq_true (by omega)
    (try rw [show ((0 : Int)).toNat = 0 from rfl] at hx162_0)
    (try rw [Addr.add_zero'] at hx162_0)
    replace hx162_0 := ybx HB.out hx162_0
    replace p162 := eq_true p162
    replace q162 := eq_true q162
    go_wp2
    repeat (go_quiet (fail); try go_wp2)
    go_ret
    exact ⟨by first | rfl | (simp [errW_none, errW_some] <;> rfl) | (simp only [← hji28]; first | rfl | (simp [errW_none, errW_some] <;> rfl)) | (simp [*, errW_none, errW_some] <;> rfl), yhb⟩
   rw [if_pos c4] at H
   have c4b0 : decide (x11_1 < (l1.length : Int)) = true := decide_eq_true c4
   clear c4
   replace H := yif H
   obtain ⟨c5b0, H⟩ := H
   replace H := yif H
   obtain ⟨c6b0, H⟩ := H
   by_cases c7 : a0_0 = 1
   rotate_left
   ·rw [if_neg c7] at H
    have c7b0 : (a0_0 == 1) = false := beq_eq_false_iff_ne.mpr c7
    have c7b1 : (a0_0 != 1) = true := bne_iff_ne.mpr c7
    have H' := yam H
    clear H
    have p154 : 0 ≤ (x11_1 : Int) := ydt
    have q154 : x11_1 < (l1.length : Int) := ydt
    obtain ⟨ad154, e154, hx154_0⟩ := Kd.at_int HR1.out x11_1 p154 q154
    cases e154
    replace hx154_0 := ybx HB.out hx154_0
    replace p154 := eq_true p154
    replace q154 := eq_true q154
    obtain ⟨hcz16_0, hcz16_1, hcz16_2, hfz16_0, hfz16_1, hfz16_2⟩ := ybc BK153.out
    go_wp2
    repeat (go_quiet (fail); try go_wp2)
    go_roundg k1
    case measure => have := HK1.out; omega
    case rel => exact ⟨(wrap64 (x5_1 + (rd l1 x11_1))), (wrap64 (x6_1 * (rd l1 x11_1))), (wrap64 (x11_1 + 1)), yeq, yeq, yeq, H', ⟨by have := HK1.out; omega⟩, ⟨by (with_reducible repeat (first | refine ybn ?_ _ | refine ybd ?_ | refine yba ?_ _)); exact BK153.out⟩, ⟨yhb⟩⟩
   rw [if_pos c7] at H
   have c7b0 : (a0_0 == 1) = true := beq_iff_eq.mpr c7
   have c7b1 : (a0_0 != 1) = false := bne_eq_false_iff_eq.mpr c7
   clear c7
   have c8b0 := eq_true (ydt : 0 ≤ x11_1)
   replace H := yig H
   obtain ⟨c9, H⟩ := H
   have c9b0 := eq_true c9
   have c9b1 : decide (x11_1 ≤ (l1.length : Int)) = true := decide_eq_true c9
   clear c9
   replace H := Option.bind_eq_some_iff.mp H
   obtain ⟨t156, A100, H⟩ := H
   try dsimp only at H
   have A10 := yam A100
   clear A100
   by_cases c11 : t156 = true
   ·subst c11
    have H1 : (some false) = some r := by rw [if_pos rfl] at H; exact H
    clear H
    have H := H1
    clear H1
    obtain rfl := Option.some.inj H
    have p154 : 0 ≤ (x11_1 : Int) := ydt
    have q154 : x11_1 < (l1.length : Int) := ydt
    obtain ⟨ad154, e154, hx154_0⟩ := Kd.at_int HR1.out x11_1 p154 q154
    cases e154
    replace hx154_0 := ybx HB.out hx154_0
    replace p154 := eq_true p154
    replace q154 := eq_true q154
    obtain ⟨hcz12_0, hcz12_1, hcz12_2, hfz12_0, hfz12_1, hfz12_2⟩ := ybc BK153.out
    obtain ⟨i013, hi013, _, hsz13, _⟩ := info_parts info3
    obtain ⟨hcut13, hA13, hC13⟩ := print_take_of (P := Try.prog) (Value.int .i64) 0 22 3 .i64 Try.underlying22 hi013 hsz13 (some ad154) c1 l1 x11_1 (ydt) (ydt) HC1.out
    have hl13_ : (l1.take (x11_1 : Int).toNat).length = (x11_1 : Int).toNat := by
     have e0_ : 0 ≤ (x11_1 : Int) := ydt
     have e1_ : (x11_1 : Int) ≤ (l1.length : Int) := ydt
     rw [List.length_take]; omega
    have HR155 := yam (Kd.C_of_reads (h1 := fun _ => rfl) (hA13 _ (Kd.reads_of_C HR1.out)))
    have HC155 := yam hC13
    clear hA13 hC13 hi013 hsz13
    go_wp2_with (first | (go_at_call 89; (first | (with_reducible refine (slices_Contains_int_int.calls k1 _ _ (l1.take (x11_1 : Int).toNat) (rd l1 x11_1) true _ ?side1 ?side2 A10.out).mono ?_) | (rw [← hl13_]; (with_reducible refine (slices_Contains_int_int.calls k1 _ _ (l1.take (x11_1 : Int).toNat) (rd l1 x11_1) true _ ?side1 ?side2 A10.out).mono ?_))); (case side1 => exact Kd.Cz ((Kd.C_below HR155.out HB.out))); (case side2 => exact HC155.out); rintro e w' ⟨rfl, ⟨nd, rfl⟩⟩; (try first | exact ⟨rfl, _, World.drewN_drewN _ _ _⟩ | exact ⟨rfl, _, Eq.trans (World.drewN_drewN _ _ _) (congrArg (World.drewN _) (Nat.add_assoc _ _ _))⟩)))
    repeat (go_quiet (first | (go_at_call 89; (first | (with_reducible refine (slices_Contains_int_int.calls k1 _ _ (l1.take (x11_1 : Int).toNat) (rd l1 x11_1) true _ ?side1 ?side2 A10.out).mono ?_) | (rw [← hl13_]; (with_reducible refine (slices_Contains_int_int.calls k1 _ _ (l1.take (x11_1 : Int).toNat) (rd l1 x11_1) true _ ?side1 ?side2 A10.out).mono ?_))); (case side1 => exact Kd.Cz ((Kd.C_below HR155.out HB.out))); (case side2 => exact HC155.out); rintro e w' ⟨rfl, ⟨nd, rfl⟩⟩; (try first | exact ⟨rfl, _, World.drewN_drewN _ _ _⟩ | exact ⟨rfl, _, Eq.trans (World.drewN_drewN _ _ _) (congrArg (World.drewN _) (Nat.add_assoc _ _ _))⟩))); try go_wp2_with (first | (go_at_call 89; (first | (with_reducible refine (slices_Contains_int_int.calls k1 _ _ (l1.take (x11_1 : Int).toNat) (rd l1 x11_1) true _ ?side1 ?side2 A10.out).mono ?_) | (rw [← hl13_]; (with_reducible refine (slices_Contains_int_int.calls k1 _ _ (l1.take (x11_1 : Int).toNat) (rd l1 x11_1) true _ ?side1 ?side2 A10.out).mono ?_))); (case side1 => exact Kd.Cz ((Kd.C_below HR155.out HB.out))); (case side2 => exact HC155.out); rintro e w' ⟨rfl, ⟨nd, rfl⟩⟩; (try first | exact ⟨rfl, _, World.drewN_drewN _ _ _⟩ | exact ⟨rfl, _, Eq.trans (World.drewN_drewN _ _ _) (congrArg (World.drewN _) (Nat.add_assoc _ _ _))⟩))))
    go_ret
    exact ⟨yer, yhb⟩
   replace c11 := Bool.eq_false_iff.mpr c11
   subst c11
   have H1 : (impl_valuesHold.l0 k1 l1 (wrap64 (x5_1 + (rd l1 x11_1))) (wrap64 (x6_1 * (rd l1 x11_1))) l1 (l1.length : Int) (wrap64 (x11_1 + 1)) a0_0 l0_1 a0_2) = some r := by rw [if_neg (show ¬ (false = true) by decide)] at H; exact H
   clear H
   have H := H1
   clear H1
   have H' := yam H
   clear H
   have p154 : 0 ≤ (x11_1 : Int) := ydt
   have q154 : x11_1 < (l1.length : Int) := ydt
   obtain ⟨ad154, e154, hx154_0⟩ := Kd.at_int HR1.out x11_1 p154 q154
   cases e154
   replace hx154_0 := ybx HB.out hx154_0
   replace p154 := eq_true p154
   replace q154 := eq_true q154
   obtain ⟨hcz14_0, hcz14_1, hcz14_2, hfz14_0, hfz14_1, hfz14_2⟩ := ybc BK153.out
   obtain ⟨i015, hi015, _, hsz15, _⟩ := info_parts info3
   obtain ⟨hcut15, hA15, hC15⟩ := print_take_of (P := Try.prog) (Value.int .i64) 0 22 3 .i64 Try.underlying22 hi015 hsz15 (some ad154) c1 l1 x11_1 (ydt) (ydt) HC1.out
   have hl15_ : (l1.take (x11_1 : Int).toNat).length = (x11_1 : Int).toNat := by
    have e0_ : 0 ≤ (x11_1 : Int) := ydt
    have e1_ : (x11_1 : Int) ≤ (l1.length : Int) := ydt
    rw [List.length_take]; omega
   have HR155 := yam (Kd.C_of_reads (h1 := fun _ => rfl) (hA15 _ (Kd.reads_of_C HR1.out)))
   have HC155 := yam hC15
   clear hA15 hC15 hi015 hsz15
   go_wp2_with (first | (go_at_call 89; (first | (with_reducible refine (slices_Contains_int_int.calls k1 _ _ (l1.take (x11_1 : Int).toNat) (rd l1 x11_1) false _ ?side1 ?side2 A10.out).mono ?_) | (rw [← hl15_]; (with_reducible refine (slices_Contains_int_int.calls k1 _ _ (l1.take (x11_1 : Int).toNat) (rd l1 x11_1) false _ ?side1 ?side2 A10.out).mono ?_))); (case side1 => exact Kd.Cz ((Kd.C_below HR155.out HB.out))); (case side2 => exact HC155.out); rintro e w' ⟨rfl, ⟨nd, rfl⟩⟩; (try first | exact ⟨rfl, _, World.drewN_drewN _ _ _⟩ | exact ⟨rfl, _, Eq.trans (World.drewN_drewN _ _ _) (congrArg (World.drewN _) (Nat.add_assoc _ _ _))⟩)))
   repeat (go_quiet (first | (go_at_call 89; (first | (with_reducible refine (slices_Contains_int_int.calls k1 _ _ (l1.take (x11_1 : Int).toNat) (rd l1 x11_1) false _ ?side1 ?side2 A10.out).mono ?_) | (rw [← hl15_]; (with_reducible refine (slices_Contains_int_int.calls k1 _ _ (l1.take (x11_1 : Int).toNat) (rd l1 x11_1) false _ ?side1 ?side2 A10.out).mono ?_))); (case side1 => exact Kd.Cz ((Kd.C_below HR155.out HB.out))); (case side2 => exact HC155.out); rintro e w' ⟨rfl, ⟨nd, rfl⟩⟩; (try first | exact ⟨rfl, _, World.drewN_drewN _ _ _⟩ | exact ⟨rfl, _, Eq.trans (World.drewN_drewN _ _ _) (congrArg (World.drewN _) (Nat.add_assoc _ _ _))⟩))); try go_wp2_with (first | (go_at_call 89; (first | (with_reducible refine (slices_Contains_int_int.calls k1 _ _ (l1.take (x11_1 : Int).toNat) (rd l1 x11_1) false _ ?side1 ?side2 A10.out).mono ?_) | (rw [← hl15_]; (with_reducible refine (slices_Contains_int_int.calls k1 _ _ (l1.take (x11_1 : Int).toNat) (rd l1 x11_1) false _ ?side1 ?side2 A10.out).mono ?_))); (case side1 => exact Kd.Cz ((Kd.C_below HR155.out HB.out))); (case side2 => exact HC155.out); rintro e w' ⟨rfl, ⟨nd, rfl⟩⟩; (try first | exact ⟨rfl, _, World.drewN_drewN _ _ _⟩ | exact ⟨rfl, _, Eq.trans (World.drewN_drewN _ _ _) (congrArg (World.drewN _) (Nat.add_assoc _ _ _))⟩))))
   go_roundg k1
   case measure => have := HK1.out; omega
   case rel => exact ⟨(wrap64 (x5_1 + (rd l1 x11_1))), (wrap64 (x6_1 * (rd l1 x11_1))), (wrap64 (x11_1 + 1)), yeq, yeq, yeq, H', ⟨by have := HK1.out; omega⟩, ⟨by (with_reducible repeat (first | refine ybn ?_ _ | refine ybd ?_ | refine yba ?_ _)); exact BK153.out⟩, ⟨yhb⟩⟩
def impl_ruleMasks.orFrom (vals : List Int) : Nat → Int → List Int → List Int
 | 0, _, out => out
 | d + 1, i, out => impl_ruleMasks.orFrom vals d (i + 1) (out.set i.toNat (Go.bits .or .i64 (rd out i) (shl .i64 1 (rd vals i))))
def impl_ruleMasks.tryV (f : List Int → List Int → Option (List Int × List Int)) (m : Int) (i : Nat) : Nat → Int → List Int → List Int → Option (List Int × List Int)
 | 0, _, vals, out => some (vals, out)
 | n + 1, v, vals, out => if Go.bits .and .i64 (shr .i64 m v) 1 = 1 then (f (vals.set i v) out).bind fun t => impl_ruleMasks.tryV f m i n (v + 1) t.1 t.2 else impl_ruleMasks.tryV f m i n (v + 1) vals out
def impl_ruleMasks.try_ (k : Nat) (a0_0 : Int) (l0_1 : List Int) (a0_2 : Int) (own : List Int) : Nat → List Int → List Int → Option (List Int × List Int)
 | 0, vals, out => (impl_valuesHold.f k a0_0 l0_1 a0_2 vals).bind fun b => if b = true then (if ∀ x ∈ vals, 0 ≤ x then some (vals, impl_ruleMasks.orFrom vals own.length 0 out) else none) else some (vals, out)
 | d + 1, vals, out => impl_ruleMasks.tryV (impl_ruleMasks.try_ k a0_0 l0_1 a0_2 own d) (rd own ((own.length : Int) - (d + 1 : Nat))) ((own.length : Int) - (d + 1 : Nat)).toNat 4 1 vals out
def impl_ruleMasks.Boxes (W : World) (gown gr gval gout gtry gv go cv cu : Nat) (Ao : Option Addr) (co n : Nat) (a0_0 : Int) (Ac : Option Addr) (cc nc : Nat) (a0_2 : Int) : Prop :=
 W.heap[gown]? = some (.cells #[.slice Ao n co] 22 (0, 0)) ∧ W.heap[gr]? = some (.cells #[.int .i64 a0_0, .slice Ac nc cc, .int .i64 a0_2] 73 (0, 0)) ∧ W.heap[gval]? = some (.cells #[.slice (some ⟨gv, 0, none⟩) n cv] 22 (0, 0)) ∧ W.heap[gout]? = some (.cells #[.slice (some ⟨go, 0, none⟩) n cu] 22 (0, 0)) ∧ W.heap[gtry]? = some (.cells #[.func (.func 95) #[] #[.pointer (some ⟨gown, 0, none⟩), .pointer (some ⟨gr, 0, none⟩), .pointer (some ⟨gval, 0, none⟩), .pointer (some ⟨gout, 0, none⟩), .pointer (some ⟨gtry, 0, none⟩)]] 93 (0, 0))
theorem impl_ruleMasks.Boxes.below {W W1 : World} {gown gr gval gout gtry gv go cv cu : Nat} {Ao : Option Addr} {co n : Nat} {a0_0 : Int} {Ac : Option Addr} {cc nc : Nat} {a0_2 : Int} (h : impl_ruleMasks.Boxes W gown gr gval gout gtry gv go cv cu Ao co n a0_0 Ac cc nc a0_2) (hb : Below W.heap.size W W1) : impl_ruleMasks.Boxes W1 gown gr gval gout gtry gv go cv cu Ao co n a0_0 Ac cc nc a0_2 :=
 ⟨blk_below h.1 hb, blk_below h.2.1 hb, blk_below h.2.2.1 hb, blk_below h.2.2.2.1 hb, blk_below h.2.2.2.2 hb⟩
theorem impl_ruleMasks.Boxes.drewN {W : World} {gown gr gval gout gtry gv go cv cu : Nat} {Ao : Option Addr} {co n : Nat} {a0_0 : Int} {Ac : Option Addr} {cc nc : Nat} {a0_2 : Int} (h : impl_ruleMasks.Boxes W gown gr gval gout gtry gv go cv cu Ao co n a0_0 Ac cc nc a0_2) (m : Nat) : impl_ruleMasks.Boxes (W.drewN m) gown gr gval gout gtry gv go cv cu Ao co n a0_0 Ac cc nc a0_2 := h
theorem impl_ruleMasks.Boxes.grown {W W1 : World} {gown gr gval gout gtry gv go cv cu : Nat} {Ao : Option Addr} {co n : Nat} {a0_0 : Int} {Ac : Option Addr} {cc nc : Nat} {a0_2 : Int} (h : impl_ruleMasks.Boxes W gown gr gval gout gtry gv go cv cu Ao co n a0_0 Ac cc nc a0_2) {α : Type} {d : Kd α} {base : Nat} {ok : Nat → Prop} {v : Value} {xs : List α} (ho : d.R 3 W base ok v xs) (hg : W.grownBy W1 v.ownBlock) : impl_ruleMasks.Boxes W1 gown gr gval gout gtry gv go cv cu Ao co n a0_0 Ac cc nc a0_2 :=
 ⟨blk_grown h.1 hg (Kd.R_ne ho h.1 (by decide)), blk_grown h.2.1 hg (Kd.R_ne ho h.2.1 (by decide)), blk_grown h.2.2.1 hg (Kd.R_ne ho h.2.2.1 (by decide)), blk_grown h.2.2.2.1 hg (Kd.R_ne ho h.2.2.2.1 (by decide)), blk_grown h.2.2.2.2 hg (Kd.R_ne ho h.2.2.2.2 (by decide))⟩
theorem impl_ruleMasks.R_other {W W1 : World} {base : Nat} {g g2 : Nat} {n c n2 c2 : Nat} {xs : List Int} (h : Kd.R (Kd.int .i64) 3 W base (fun k => k = g) (.slice (some ⟨g, 0, none⟩) n c) xs) (hne : g ≠ g2) (hg : W.grownBy W1 (some g2)) : Kd.R (Kd.int .i64) 3 W1 base (fun k => k = g) (.slice (some ⟨g, 0, none⟩) n c) xs :=
 Kd.R_mono (Kd.R_after (v := .slice (some ⟨g2, 0, none⟩) n2 c2) (v1 := .slice (some ⟨g2, 0, none⟩) n2 c2) (ok := fun k => k = g) (Kd.R_mono h (fun k hk => ⟨hk, by subst hk; simpa [Value.ownBlock] using hne⟩)) hg (.inl rfl)) (fun k hk => hk.1)
set_option maxHeartbeats 8000000 in
set_option maxRecDepth 100000 in
theorem impl_ruleMasks.clo (k : Nat) (a0_0 : Int) (Ac : Option Addr) (cc : Nat) (l0_1 : List Int) (a0_2 : Int) (Ao : Option Addr) (co : Nat) (own : List Int) (gown gr gval gout gtry gv go cv cu : Nat) (w0 : World) (hne : gv ≠ go) (hbv : w0.heap.size ≤ gv) (hbo : w0.heap.size ≤ go) (hrC : Kd.C (Kd.int .i64) w0 Ac l0_1.length l0_1) (hcC : l0_1.length ≤ cc) (hrO : Kd.C (Kd.int .i64) w0 Ao own.length own) :
  ∀ (d : Nat) (a : Int) (vals out vals' out' : List Int) (w : World) (_ : (own.length : Int) - d = a) (_ : d ≤ own.length) (_ : own.length ≤ 100000) (_ : vals.length = own.length) (_ : out.length = own.length) (_ : Kd.R (Kd.int .i64) 3 w w0.heap.size (fun k => k = gv) (.slice (some ⟨gv, 0, none⟩) own.length cv) vals) (_ : Kd.R (Kd.int .i64) 3 w w0.heap.size (fun k => k = go) (.slice (some ⟨go, 0, none⟩) own.length cu) out) (_ : impl_ruleMasks.Boxes w gown gr gval gout gtry gv go cv cu Ao co own.length a0_0 Ac cc l0_1.length a0_2) (_ : Below w0.heap.size w0 w) (_ : impl_ruleMasks.try_ k a0_0 l0_1 a0_2 own d vals out = some (vals', out')),
  Calls Try.prog 95 #[.int .i64 a, .pointer (some ⟨gown, 0, none⟩), .pointer (some ⟨gr, 0, none⟩), .pointer (some ⟨gval, 0, none⟩), .pointer (some ⟨gout, 0, none⟩), .pointer (some ⟨gtry, 0, none⟩)] w fun e w' => e = .returned (.tuple #[]) ∧ vals'.length = own.length ∧ out'.length = own.length ∧ Kd.R (Kd.int .i64) 3 w' w0.heap.size (fun k => k = gv) (.slice (some ⟨gv, 0, none⟩) own.length cv) vals' ∧ Kd.R (Kd.int .i64) 3 w' w0.heap.size (fun k => k = go) (.slice (some ⟨go, 0, none⟩) own.length cu) out' ∧ impl_ruleMasks.Boxes w' gown gr gval gout gtry gv go cv cu Ao co own.length a0_0 Ac cc l0_1.length a0_2 ∧ Below w0.heap.size w0 w' := by
 intro d
 have HRC := yam hrC
 have HCC := yam hcC
 have HRO := yam hrO
 clear hrC hcC hrO
 induction d with
 | zero =>
  intro a vals out vals' out' w ha hd hn hlv hlo hV hO hX hB h
  have ha0 : a = (own.length : Int) := by omega
  have hae : (a == (own.length : Int)) = true := beq_iff_eq.mpr ha0
  clear ha ha0 hd
  have HN := yam hn
  have HLV := yam hlv
  have HLO := yam hlo
  have HV := yam hV
  have HO := yam hO
  have HX := yam hX
  have HB := yam hB
  clear hn hlv hlo hV hO hB
  unfold impl_ruleMasks.try_ at h
  obtain ⟨b, hb, h⟩ := Option.bind_eq_some_iff.1 h
  have HVH := yam hb
  have H := yam h
  clear hb h
  have hcO : w.cell? ⟨gown, 0, none⟩ = some (.slice Ao own.length co) := (blk_cell hX.1 0).trans rfl
  have hcR0 : w.cell? ⟨gr, 0, none⟩ = some (.int .i64 a0_0) := (blk_cell hX.2.1 0).trans rfl
  have hcR1 : w.cell? ⟨gr, 1, none⟩ = some (.slice Ac l0_1.length cc) := (blk_cell hX.2.1 1).trans rfl
  have hcR2 : w.cell? ⟨gr, 2, none⟩ = some (.int .i64 a0_2) := (blk_cell hX.2.1 2).trans rfl
  have hcV : w.cell? ⟨gval, 0, none⟩ = some (.slice (some ⟨gv, 0, none⟩) own.length cv) := (blk_cell hX.2.2.1 0).trans rfl
  clear hX
  cases b with
  | false =>
   have H2 := H.out
   simp only [Bool.false_eq_true, if_false, Option.some.injEq, Prod.mk.injEq] at H2
   obtain ⟨rfl, rfl⟩ := H2
   clear H
   go_enter Try.func95, Try.ntmps95
   go_wp2_with (first | (refine goesL_ (some 16) rfl rfl Try.func82 (by kernel_rfl) rfl #[.agg #[.int .i64 a0_0, .slice Ac l0_1.length cc, .int .i64 a0_2], .slice (some ⟨gv, 0, none⟩) vals.length cv] rfl (by (try simp only [List.map_toArray, List.map_cons, List.map_nil]); rw [HLV.out]; rfl) ?_; (with_reducible refine (impl_valuesHold.calls k a0_0 _ _ l0_1 a0_2 _ _ vals false _ (Kd.C_below HRC.out HB.out) HCC.out (Kd.R_reads' HV.out).2.2 (by rw [HLV.out]; exact (Kd.R_reads' HV.out).2.1) HVH.out).mono ?_); rintro e w' ⟨rfl, hb⟩; refine ⟨_, rfl, ?_⟩; have n0_ := yam (Kd.R_below HV.out hb); have n1_ := yam (Kd.R_below HO.out hb); have n2_ := yam (impl_ruleMasks.Boxes.below HX.out hb); have n3_ := yam (below_step HB.out hb); clear HV HO HX HB hb hcO hcR0 hcR1 hcR2 hcV; have HV := n0_; have HO := n1_; have HX := n2_; have HB := n3_; clear n0_ n1_ n2_ n3_))
   first | go_end0 | ((try simp only [Exit.inBlock, Exit.then]); refine bodyPost_ret (results_none rfl _ _ _) rfl ?_)
   exact ⟨rfl, HLV.out, HLO.out, HV.out, HO.out, HX.out, HB.out⟩
  | true =>
   have H2 := H.out
   simp only [if_true] at H2
   by_cases hpos : ∀ x ∈ vals, 0 ≤ x
   ·rw [if_pos hpos] at H2
    simp only [Option.some.injEq, Prod.mk.injEq] at H2
    obtain ⟨rfl, rfl⟩ := H2
    clear H
    have HP := yam hpos
    clear hpos
    go_enter Try.func95, Try.ntmps95
    go_wp2_with (first | (refine goesL_ (some 16) rfl rfl Try.func82 (by kernel_rfl) rfl #[.agg #[.int .i64 a0_0, .slice Ac l0_1.length cc, .int .i64 a0_2], .slice (some ⟨gv, 0, none⟩) vals.length cv] rfl (by (try simp only [List.map_toArray, List.map_cons, List.map_nil]); rw [HLV.out]; rfl) ?_; (with_reducible refine (impl_valuesHold.calls k a0_0 _ _ l0_1 a0_2 _ _ vals true _ (Kd.C_below HRC.out HB.out) HCC.out (Kd.R_reads' HV.out).2.2 (by rw [HLV.out]; exact (Kd.R_reads' HV.out).2.1) HVH.out).mono ?_); rintro e w' ⟨rfl, hb⟩; refine ⟨_, rfl, ?_⟩; have n0_ := yam (Kd.R_below HV.out hb); have n1_ := yam (Kd.R_below HO.out hb); have n2_ := yam (impl_ruleMasks.Boxes.below HX.out hb); have n3_ := yam (below_step HB.out hb); clear HV HO HX HB hb hcO hcR0 hcR1 hcR2 hcV; have HV := n0_; have HO := n1_; have HX := n2_; have HB := n3_; clear n0_ n1_ n2_ n3_; have hcV := (blk_cell HX.out.2.2.1 0).trans (rfl : _ = some (Value.slice (some ⟨gv, 0, none⟩) own.length cv))))
    go_loopg [19] own.length (fun kq v19 w' => ∃ (x : Int) (o : List Int), v19 = .int .i64 x ∧ Aside0 (0 ≤ x ∧ x + (kq : Int) = (own.length : Int)) ∧ Aside0 (impl_ruleMasks.orFrom vals own.length 0 out = impl_ruleMasks.orFrom vals kq x o) ∧ Aside0 (o.length = own.length) ∧ Aside0 (Kd.R (Kd.int .i64) 3 w' w0.heap.size (fun k => k = gv) (.slice (some ⟨gv, 0, none⟩) own.length cv) vals) ∧ Aside0 (Kd.R (Kd.int .i64) 3 w' w0.heap.size (fun k => k = go) (.slice (some ⟨go, 0, none⟩) own.length cu) o) ∧ Aside0 (impl_ruleMasks.Boxes w' gown gr gval gout gtry gv go cv cu Ao co own.length a0_0 Ac cc l0_1.length a0_2) ∧ Aside0 (Below w0.heap.size w0 w'))
    case atStart => exact ⟨0, out, rfl, ⟨by omega⟩, ⟨rfl⟩, HLO, HV, HO, HX, HB⟩
    case round =>
     clear hcV HV HO HX HB HLO
     obtain ⟨x, o, rfl, HK, HE, HLO, HV, HO, HX, HB⟩ := hrel
     cases gk with
     | zero =>
      have h1b : decide ((x : Int) < (own.length : Int)) = false := decide_eq_false (by have := HK.out; omega)
      go_wp2
      first | go_end0 | ((try simp only [Exit.inBlock, Exit.then]); refine bodyPost_ret (results_none rfl _ _ _) rfl ?_)
      have HE2 := HE.out
      unfold impl_ruleMasks.orFrom at HE2
      exact ⟨rfl, HLV.out, by rw [HE.out]; exact HLO.out, HV.out, by rw [HE.out]; exact HO.out, HX.out, HB.out⟩
     | succ k1 =>
      have h0 : 0 ≤ x := HK.out.1
      have h1 : x < (own.length : Int) := by have := HK.out.2; omega
      have h1b : decide ((x : Int) < (own.length : Int)) = true := decide_eq_true h1
      have hcU := (blk_cell HX.out.2.2.2.1 0).trans (rfl : _ = some (Value.slice (some ⟨go, 0, none⟩) own.length cu))
      obtain ⟨hxV0, hfV⟩ := Kd.R_celln 0 HV.out x h0 h1
      obtain ⟨hxO0, hfO⟩ := Kd.R_celln 0 HO.out x h0 h1
      have hxV := hxV0.trans (rfl : _ = some (Value.int .i64 (rd vals x)))
      have hxO := hxO0.trans (rfl : _ = some (Value.int .i64 (rd o x)))
      clear hxV0 hxO0
      have hpv : 0 ≤ rd vals x := HP.out _ (by
       have hl := HLV.out
       obtain ⟨n, rfl⟩ := Int.eq_ofNat_of_zero_le h0
       have hn : n < vals.length := by omega
       have e : rd vals (n : Int) = vals[n] := by simp [rd, hn]
       rw [e]; exact List.getElem_mem hn)
      have hpvb : decide (0 ≤ rd vals x) = true := decide_eq_true hpv
      have HES : impl_ruleMasks.orFrom vals (k1 + 1) x o = impl_ruleMasks.orFrom vals k1 (x + 1) (o.set x.toNat (Go.bits .or .i64 (rd o x) (shl .i64 1 (rd vals x)))) := rfl
      obtain ⟨ji, hji⟩ : ∃ j_ : Int, (shl .i64 1 (rd vals x)) = j_ := ⟨_, rfl⟩
      rw [hji] at HES
      have hji_ : (IntKind.i64.wrap (1 * 2 ^ min (rd vals x).toNat 64)) = ji := hji
      have hjiu : (IntKind.i64.wrap (2 ^ min (rd vals x).toNat 64)) = ji := by have h_ := hji_; rw [Int.one_mul] at h_; exact h_
      have hjiy : (wrap64 (1 * 2 ^ min (rd vals x).toNat 64)) = ji := (i64_w _).symm.trans hji_
      have hjiw : (wrap64 (2 ^ min (rd vals x).toNat 64)) = ji := (i64_w _).symm.trans hjiu
      have HES2 := yam HES
      clear HES hji
      have HPO := yam (Kd.R_putg HO.out x (Go.bits .or .i64 (rd o x) ji))
      have hnw : wrap64 (x + 1) = x + 1 := by have := HN.out; unfold wrap64; omega
      have hnw2 : IntKind.i64.wrap (x + 1) = x + 1 := by rw [i64_w]; exact hnw
      have p0 := eq_true h0
      have p1 := eq_true h1
      have p2 := eq_true hpv
      clear h0 h1 hpv
      go_wp2
      refine start_ (n := 9) (S := fun w' => w'.cell? ⟨gout, 0, none⟩ = some (.slice (some ⟨go, 0, none⟩) own.length cu) ∧ w'.cell? ⟨go, (x : Int).toNat, none⟩ = some (.int .i64 (rd o x))) (ds := [8]) #[false, false, false, false, false, false, false, false, false] (by kernel_rfl) rfl rfl ⟨hcU, hxO⟩ (fun hHeld => ?_)
      refine pure_ (i := 1) (N := some 25) (v := ?_) (a' := ?_) #[false, true, false, false, false, false, false, false, false] rfl rfl (by kernel_rfl) (fun _ _ _ h => h) (Or.inl ⟨by rfl, ?_⟩) ?_ ?_
      rotate_left
      ·intro w'
       go_simp
       with_reducible rfl
      rotate_left
      ·simp only [Act.put, List.setIfInBounds_toArray, List.set_cons_zero, List.set_cons_succ, i64_w, i32_w]
       rfl
      refine pure_ (i := 4) (N := some 28) (v := ?_) (a' := ?_) #[false, true, false, false, true, false, false, false, false] rfl rfl (by kernel_rfl) (fun _ _ _ h => h) (Or.inl ⟨by rfl, ?_⟩) ?_ ?_
      rotate_left
      ·intro w'
       go_simp
       with_reducible rfl
      rotate_left
      ·simp only [Act.put, List.setIfInBounds_toArray, List.set_cons_zero, List.set_cons_succ, i64_w, i32_w]
       rfl
      refine pure_ (i := 5) (N := some 29) (v := ?_) (a' := ?_) #[false, true, false, false, true, true, false, false, false] rfl rfl (by kernel_rfl) (fun _ _ _ h => h) (Or.inl ⟨by rfl, ?_⟩) ?_ ?_
      rotate_left
      ·intro w'
       go_simp
       with_reducible rfl
      rotate_left
      ·simp only [Act.put, List.setIfInBounds_toArray, List.set_cons_zero, List.set_cons_succ, i64_w, i32_w]
       rfl
      refine take_ (i := 0) (N := some 24) (v := ?_) (a' := ?_) #[true, true, false, false, true, true, false, false, false] rfl rfl (by kernel_rfl) (fun _ _ _ h => h) (Or.inl ⟨by rfl, ?_⟩) hHeld ?_ ?_
      rotate_left
      ·rintro w' ⟨s0, s1⟩
       go_simp
       with_reducible rfl
      rotate_left
      ·simp only [Act.put, List.setIfInBounds_toArray, List.set_cons_zero, List.set_cons_succ, i64_w, i32_w]
       rfl
      refine pure_ (i := 2) (N := some 26) (v := ?_) (a' := ?_) #[true, true, true, false, true, true, false, false, false] rfl rfl (by kernel_rfl) (fun _ _ _ h => h) (Or.inl ⟨by rfl, ?_⟩) ?_ ?_
      rotate_left
      ·intro w'
       go_simp
       with_reducible rfl
      rotate_left
      ·simp only [Act.put, List.setIfInBounds_toArray, List.set_cons_zero, List.set_cons_succ, i64_w, i32_w]
       rfl
      refine take_ (i := 3) (N := some 27) (v := ?_) (a' := ?_) #[true, true, true, true, true, true, false, false, false] rfl rfl (by kernel_rfl) (fun _ _ _ h => h) (Or.inl ⟨by rfl, ?_⟩) hHeld ?_ ?_
      rotate_left
      ·rintro w' ⟨s0, s1⟩
       go_simp
       with_reducible rfl
      rotate_left
      ·simp only [Act.put, List.setIfInBounds_toArray, List.set_cons_zero, List.set_cons_succ, i64_w, i32_w]
       rfl
      refine pure_ (i := 6) (N := some 30) (v := ?_) (a' := ?_) #[true, true, true, true, true, true, true, false, false] rfl rfl (by kernel_rfl) (fun _ _ _ h => h) (Or.inl ⟨by rfl, ?_⟩) ?_ ?_
      rotate_left
      ·intro w'
       go_simp
       with_reducible rfl
      rotate_left
      ·simp only [Act.put, List.setIfInBounds_toArray, List.set_cons_zero, List.set_cons_succ, i64_w, i32_w]
       rfl
      refine pure_ (i := 7) (N := some 31) (v := ?_) (a' := ?_) #[true, true, true, true, true, true, true, true, false] rfl rfl (by kernel_rfl) (fun _ _ _ h => h) (Or.inl ⟨by rfl, ?_⟩) ?_ ?_
      rotate_left
      ·intro w'
       go_simp
       with_reducible rfl
      rotate_left
      ·simp only [Act.put, List.setIfInBounds_toArray, List.set_cons_zero, List.set_cons_succ, i64_w, i32_w]
       rfl
      refine last_ (i := 8) (N := none) #[true, true, true, true, true, true, true, true, true] rfl rfl (by kernel_rfl) (by decide) (fun K hK => ?_)
      refine skip_ (w1 := ?_) (by rfl) rfl ?_ ?_
      rotate_left
      ·go_simp
       rfl
      refine hK.out _ _ ?_
      clear hK K
      refine done_ (by kernel_rfl) ?_
      go_wp2
      go_roundg k1
      case measure => omega
      case rel => exact ⟨x + 1, o.set x.toNat (Go.bits .or .i64 (rd o x) ji), by first | rfl | (rw [hnw]) | (rw [hnw2]), ⟨by have := HK.out; omega⟩, ⟨by rw [HE.out]; exact HES2.out⟩, ⟨by rw [List.length_set]; exact HLO.out⟩, ⟨Kd.R_drew (impl_ruleMasks.R_other (n2 := own.length) (c2 := own.length) HV.out hne HPO.out.2)⟩, ⟨Kd.R_drew HPO.out.1⟩, ⟨(impl_ruleMasks.Boxes.grown HX.out HO.out HPO.out.2).drewN 1⟩, ⟨below_drew1 (below_set HB.out hbo)⟩⟩
   ·rw [if_neg hpos] at H2
    exact absurd H2 (by simp)
 | succ d ih =>
  intro a vals out vals' out' w ha hd hn hlv hlo hV hO hX hB h
  have ha1 : ¬ a = (own.length : Int) := by omega
  have hae : (a == (own.length : Int)) = false := beq_eq_false_iff_ne.mpr ha1
  have HA := yam (show (own.length : Int) - (d + 1 : Nat) = a ∧ 0 ≤ a ∧ a < (own.length : Int) from ⟨ha, by omega, by omega⟩)
  have HD := yam (show d ≤ own.length by omega)
  have HN := yam hn
  have HLV := yam hlv
  have HLO := yam hlo
  have HV := yam hV
  have HO := yam hO
  have HX := yam hX
  have HB := yam hB
  unfold impl_ruleMasks.try_ at h
  rw [ha] at h
  have H := yam h
  have hcO : w.cell? ⟨gown, 0, none⟩ = some (.slice Ao own.length co) := (blk_cell hX.1 0).trans rfl
  clear ha ha1 hd hn hlv hlo hV hO hX hB h
  have IH := yam ih
  clear ih
  go_enter Try.func95, Try.ntmps95
  go_wp2
  go_loopg [9] 4 (fun kq v9 w' => ∃ (x : Int) (vs o : List Int), v9 = .int .i64 x ∧ Aside0 (1 ≤ x ∧ x + (kq : Int) = 5) ∧ Aside0 (impl_ruleMasks.tryV (impl_ruleMasks.try_ k a0_0 l0_1 a0_2 own d) (rd own a) a.toNat kq x vs o = some (vals', out')) ∧ Aside0 (vs.length = own.length) ∧ Aside0 (o.length = own.length) ∧ Aside0 (Kd.R (Kd.int .i64) 3 w' w0.heap.size (fun k => k = gv) (.slice (some ⟨gv, 0, none⟩) own.length cv) vs) ∧ Aside0 (Kd.R (Kd.int .i64) 3 w' w0.heap.size (fun k => k = go) (.slice (some ⟨go, 0, none⟩) own.length cu) o) ∧ Aside0 (impl_ruleMasks.Boxes w' gown gr gval gout gtry gv go cv cu Ao co own.length a0_0 Ac cc l0_1.length a0_2) ∧ Aside0 (Below w0.heap.size w0 w'))
  case atStart => exact ⟨1, vals, out, rfl, ⟨by omega⟩, H, HLV, HLO, HV, HO, HX, HB⟩
  case round =>
   clear hcO HV HO HX HB HLO HLV H
   obtain ⟨x, vs, o, rfl, HK, HE, HLV, HLO, HV, HO, HX, HB⟩ := hrel
   cases gk with
   | zero =>
    have h1b : decide ((x : Int) ≤ 4) = false := decide_eq_false (by have := HK.out; omega)
    have HE2 := HE.out
    unfold impl_ruleMasks.tryV at HE2
    simp only [Option.some.injEq, Prod.mk.injEq] at HE2
    obtain ⟨rfl, rfl⟩ := HE2
    go_wp2
    first | go_end0 | ((try simp only [Exit.inBlock, Exit.then]); refine bodyPost_ret (results_none rfl _ _ _) rfl ?_)
    exact ⟨rfl, HLV.out, HLO.out, HV.out, HO.out, HX.out, HB.out⟩
   | succ k1 =>
    have h1b : decide ((x : Int) ≤ 4) = true := decide_eq_true (by have := HK.out; omega)
    have h0 : 0 ≤ a := HA.out.2.1
    have h1 : a < (own.length : Int) := HA.out.2.2
    have hx0 : 0 ≤ x := by have := HK.out; omega
    have hcO := (blk_cell HX.out.1 0).trans (rfl : _ = some (Value.slice Ao own.length co))
    obtain ⟨ad, eA, hxA⟩ := Kd.at_int (Kd.C_below HRO.out HB.out) a h0 h1
    have hnw : wrap64 (x + 1) = x + 1 := by have := HK.out; unfold wrap64; omega
    have hnw2 : IntKind.i64.wrap (x + 1) = x + 1 := by rw [i64_w]; exact hnw
    have p0 := eq_true h0
    have p1 := eq_true h1
    have p2 := eq_true hx0
    have p2b : decide (0 ≤ x) = true := decide_eq_true hx0
    have HE2 := HE.out
    rw [impl_ruleMasks.tryV] at HE2
    obtain ⟨ji, hji⟩ : ∃ j_ : Int, (shr .i64 (rd own a) x) = j_ := ⟨_, rfl⟩
    rw [hji] at HE2
    have hji_ : ((rd own a) / 2 ^ min x.toNat 64) = ji := hji
    clear hji
    by_cases hbit : Go.bits .and .i64 ji 1 = 1
    ·rw [if_pos hbit] at HE2
     obtain ⟨⟨t1, t2⟩, hT, HE3⟩ := Option.bind_eq_some_iff.1 HE2
     have hbb : (Go.bits .and .i64 ji 1 == 1) = true := beq_iff_eq.mpr hbit
     have HT := yam hT
     have HE4 := yam HE3
     have hcV := (blk_cell HX.out.2.2.1 0).trans (rfl : _ = some (Value.slice (some ⟨gv, 0, none⟩) own.length cv))
     obtain ⟨hxV, hfV⟩ := Kd.R_celln 0 HV.out a h0 h1
     have HPV := yam (Kd.R_putg HV.out a x)
     have HX2 := yam (impl_ruleMasks.Boxes.grown HX.out HV.out HPV.out.2)
     have HO2 := yam (impl_ruleMasks.R_other (n2 := own.length) (c2 := own.length) HO.out (fun e => hne e.symm) HPV.out.2)
     have HB2 := yam (below_set (j := a.toNat) (v := .int .i64 x) HB.out hbv)
     have hcT := (blk_cell HX2.out.2.2.2.2 0).trans (rfl : _ = some (Value.func (.func 95) #[] #[.pointer (some ⟨gown, 0, none⟩), .pointer (some ⟨gr, 0, none⟩), .pointer (some ⟨gval, 0, none⟩), .pointer (some ⟨gout, 0, none⟩), .pointer (some ⟨gtry, 0, none⟩)]))
     have haw : wrap64 (a + 1) = a + 1 := by have := HN.out; unfold wrap64; omega
     have haw2 : IntKind.i64.wrap (a + 1) = a + 1 := by rw [i64_w]; exact haw
     clear h0 h1 hx0 HE2 HE3 hT hbit HE
     cases eA
     go_wp2_with (first | (go_at_call 95; (refine (IH.out (a + 1) (vs.set a.toNat x) o t1 t2 _ (by have := HA.out.1; omega) HD.out HN.out (by rw [List.length_set]; exact HLV.out) HLO.out HPV.out.1 HO2.out HX2.out HB2.out HT.out).mono ?_); rintro e w' ⟨rfl, HL1, HL2, hV, hO, hX, hB⟩; have HV3 := yam hV; have HO3 := yam hO; have HX3 := yam hX; have HB3 := yam hB; have HLV3 := yam HL1; have HLO3 := yam HL2; clear hV hO hX hB HL1 HL2))
     go_roundg k1
     case measure => omega
     case rel => exact ⟨x + 1, t1, t2, by first | rfl | (rw [hnw]) | (rw [hnw2]), ⟨by have := HK.out; omega⟩, HE4, HLV3, HLO3, HV3, HO3, HX3, HB3⟩
    ·rw [if_neg hbit] at HE2
     have hbb : (Go.bits .and .i64 ji 1 == 1) = false := beq_eq_false_iff_ne.mpr hbit
     have HE4 := yam HE2
     clear h0 h1 hx0 HE2 hbit HE
     cases eA
     go_wp2
     go_roundg k1
     case measure => omega
     case rel => exact ⟨x + 1, vs, o, by first | rfl | (rw [hnw]) | (rw [hnw2]), ⟨by have := HK.out; omega⟩, HE4, HLV, HLO, HV, HO, HX, HB⟩
theorem impl_ruleMasks.newBox (W : World) (z v : Value) (t : TypeId) : Below W.heap.size W ((W.alloc (.cells #[z] t)).setCell ⟨W.heap.size, 0, none⟩ v) ∧ ((W.alloc (.cells #[z] t)).setCell ⟨W.heap.size, 0, none⟩ v).heap[W.heap.size]? = some (.cells #[v] t (0, 0)) ∧ (W.alloc (.cells #[z] t)).cell? ⟨W.heap.size, 0, none⟩ = some z ∧ (W.alloc (.cells #[z] t)).frozen? ⟨W.heap.size, 0, none⟩ = false :=
 ⟨below_set (below_alloc (Below.refl _ _) _) (Nat.le_refl _), by simpa using blk_set (heap_alloc_new W (.cells #[z] t)) 0 v, (blk_cell (heap_alloc_new W (.cells #[z] t)) 0).trans rfl, blk_frozen (heap_alloc_new W (.cells #[z] t)) 0⟩
def impl_ruleMasks.f (k : Nat) (a0_0 : Int) (l0_1 : List Int) (a0_2 : Int) (l1 : List Int) : Option (List Int) :=
 if 0 < l1.length ∧ l1.length ≤ 100000 then (impl_ruleMasks.try_ k a0_0 l0_1 a0_2 l1 l1.length (List.replicate l1.length 0) (List.replicate l1.length 0)).bind fun t => some t.2 else none
set_option maxHeartbeats 8000000 in
set_option maxRecDepth 100000 in
theorem impl_ruleMasks.calls (k : Nat) (a0_0 : Int) (A0_1 : Option Addr) (c0_1 : Nat) (l0_1 : List Int) (a0_2 : Int) (A1 : Option Addr) (c1 : Nat) (l1 : List Int) (r : List Int) (w : World) (hr0_1 : Kd.C (Kd.int .i64) w A0_1 l0_1.length l0_1) (hc0_1 : l0_1.length ≤ c0_1) (hr1 : Kd.C (Kd.int .i64) w A1 l1.length l1) (hc1 : l1.length ≤ c1) (h : impl_ruleMasks.f k a0_0 l0_1 a0_2 l1 = some r) :
  Calls Try.prog 92 #[.agg #[.int .i64 a0_0, .slice A0_1 l0_1.length c0_1, .int .i64 a0_2], .slice A1 l1.length c1] w fun e w' => ∃ v0_ : Value, e = .returned (v0_) ∧ Kd.R (Kd.int .i64) 3 w' w.heap.size (fun _ => True) v0_ r ∧ Below w.heap.size w w' := by
 unfold impl_ruleMasks.f at h
 by_cases hc : 0 < l1.length ∧ l1.length ≤ 100000
 ·rw [if_pos hc] at h
  obtain ⟨⟨t1, t2⟩, hT, h⟩ := Option.bind_eq_some_iff.1 h
  obtain rfl := Option.some.inj h
  have HT := yam hT
  have HN := yam hc
  have HR0 := yam hr0_1
  have HC0 := yam hc0_1
  have HR1 := yam hr1
  have hu32 := Try.underlying73
  clear h hT hc hr0_1 hc0_1 hr1 hc1
  have HB := yam (Below.refl w.heap.size w)
  go_enter Try.func92, Try.ntmps92
  go_upto_region 1 with (first
   | (refine ybe 2 #[.int .i64 a0_0, .slice A0_1 l0_1.length c0_1, .int .i64 a0_2] 73 ?_; intro gr hg w5 hbox hb; have n0_ := yam (below_step HB.out hb); have BR := yam hbox; clear HB; have HB := n0_; clear n0_ hb hbox hg)
   | (refine ybe 3 #[.slice A1 l1.length c1] 22 ?_; intro gown hg w6 hbox hb; have n0_ := yam (below_step HB.out hb); have BO := yam hbox; have n1_ := yam (blk_below BR.out hb); clear HB BR; have HB := n0_; have BR := n1_; clear n0_ n1_ hb hbox hg))
  (try simp only [Act.put, List.setIfInBounds_toArray, List.set_cons_zero, List.set_cons_succ])
  have hcO := (blk_cell BO.out 0).trans (rfl : _ = some (Value.slice A1 l1.length c1))
  go_upto_region 2 with (first
   | ((with_reducible refine gate_dst (N := 10) rfl ?_); refine Kd.R_make (Kd.int .i64) _ 3 rfl (N := 10) rfl 22 _ _ rfl (l1.length : Int) rfl rfl Try.underlying22 (.int .i64 0) 8 info3 rfl (by decide) (by omega) 0 (ok := fun _ => True) (okp := fun _ => False) rfl (fun _ hk => hk.elim) trivial (by omega) (by have := HN.out; omega) (Below.refl _ _) (Nat.le_refl _) ?_; intro v10 w10 ho10 hb hg_ hnew_; clear hg_ hnew_; obtain ⟨go, cu, e10, _, _, _⟩ := Kd.R_form ho10 (by have := HN.out; simp; omega); simp only [List.length_replicate, Int.toNat_natCast] at e10 ho10; subst e10; have n0_ := yam (below_step HB.out hb); have n1_ := yam (blk_below BR.out hb); have n2_ := yam (blk_below BO.out hb); have n3_ := yam (Kd.R_lower ho10 (below_size HB.out)); clear HB BR BO hcO ho10 hb; have HB := n0_; have BR := n1_; have BO := n2_; have HO := n3_; clear n0_ n1_ n2_ n3_; have hcz := (impl_ruleMasks.newBox w10 (.slice none 0 0) (.int .i64 0) 22).2.2.1; have hfz := (impl_ruleMasks.newBox w10 (.slice none 0 0) (.int .i64 0) 22).2.2.2))
  have n0_ := yam (show Below w.heap.size w (w10.alloc (Obj.cells #[Value.slice (some ⟨go, 0, none⟩) l1.length cu] 22)) from below_alloc HB.out _)
  have n1_ := yam (show (w10.alloc (Obj.cells #[Value.slice (some ⟨go, 0, none⟩) l1.length cu] 22)).heap[gr]? = _ from blk_alloc BR.out _)
  have n2_ := yam (show (w10.alloc (Obj.cells #[Value.slice (some ⟨go, 0, none⟩) l1.length cu] 22)).heap[gown]? = _ from blk_alloc BO.out _)
  have n3_ := yam (show Kd.R (Kd.int .i64) 3 (w10.alloc (Obj.cells #[Value.slice (some ⟨go, 0, none⟩) l1.length cu] 22)) w.heap.size _ _ _ from Kd.R_alloc HO.out _)
  have n4_ := yam (show (w10.alloc (Obj.cells #[Value.slice (some ⟨go, 0, none⟩) l1.length cu] 22)).heap[w10.heap.size]? = _ from heap_alloc_new w10 _)
  clear HB BR BO HO hcz hfz
  have HB := n0_
  have BR := n1_
  have BO := n2_
  have HO := n3_
  have BU := n4_
  clear n0_ n1_ n2_ n3_ n4_
  generalize w10.alloc (Obj.cells #[Value.slice (some ⟨go, 0, none⟩) l1.length cu] 22) = W1 at HB BR BO HO BU ⊢
  generalize w10.heap.size = gout at BU ⊢
  have hcO := (blk_cell BO.out 0).trans (rfl : _ = some (Value.slice A1 l1.length c1))
  go_upto_region 3 with (first
   | ((with_reducible refine gate_dst (N := 13) rfl ?_); refine Kd.R_make (Kd.int .i64) _ 3 rfl (N := 13) rfl 22 _ _ rfl (l1.length : Int) rfl rfl Try.underlying22 (.int .i64 0) 8 info3 rfl (by decide) (by omega) 0 (ok := fun _ => True) (okp := fun _ => False) rfl (fun _ hk => hk.elim) trivial (by omega) (by have := HN.out; omega) (Below.refl _ _) (Nat.le_refl _) ?_; intro v13 w13 ho13 hb hg_ hnew_; clear hg_; obtain ⟨gv, cv, e13, _, _, _⟩ := Kd.R_form ho13 (by have := HN.out; simp; omega); simp only [List.length_replicate, Int.toNat_natCast] at e13 ho13; subst e13; have HNE := yam (show go < W1.heap.size ∧ W1.heap.size ≤ gv from ⟨Kd.R_lt HO.out go rfl, by obtain ⟨b_, e_, l_⟩ := hnew_; simp [Value.ownBlock] at e_; omega⟩); have n0_ := yam (below_step HB.out hb); have n1_ := yam (blk_below BR.out hb); have n2_ := yam (blk_below BO.out hb); have n3_ := yam (Kd.R_lower ho13 (below_size HB.out)); have n4_ := yam (Kd.R_below HO.out hb); have n5_ := yam (blk_below BU.out hb); clear HB BR BO HO BU hcO ho13 hb hnew_; have HB := n0_; have BR := n1_; have BO := n2_; have HV := n3_; have HO := n4_; have BU := n5_; clear n0_ n1_ n2_ n3_ n4_ n5_; have hcz := (impl_ruleMasks.newBox w13 (.slice none 0 0) (.int .i64 0) 22).2.2.1; have hfz := (impl_ruleMasks.newBox w13 (.slice none 0 0) (.int .i64 0) 22).2.2.2))
  have n0_ := yam (show Below w.heap.size w (w13.alloc (Obj.cells #[Value.slice (some ⟨gv, 0, none⟩) l1.length cv] 22)) from below_alloc HB.out _)
  have n1_ := yam (show (w13.alloc (Obj.cells #[Value.slice (some ⟨gv, 0, none⟩) l1.length cv] 22)).heap[gr]? = _ from blk_alloc BR.out _)
  have n2_ := yam (show (w13.alloc (Obj.cells #[Value.slice (some ⟨gv, 0, none⟩) l1.length cv] 22)).heap[gown]? = _ from blk_alloc BO.out _)
  have n3_ := yam (show Kd.R (Kd.int .i64) 3 (w13.alloc (Obj.cells #[Value.slice (some ⟨gv, 0, none⟩) l1.length cv] 22)) w.heap.size _ _ _ from Kd.R_alloc HO.out _)
  have n4_ := yam (show (w13.alloc (Obj.cells #[Value.slice (some ⟨gv, 0, none⟩) l1.length cv] 22)).heap[gout]? = _ from blk_alloc BU.out _)
  have n5_ := yam (show (w13.alloc (Obj.cells #[Value.slice (some ⟨gv, 0, none⟩) l1.length cv] 22)).heap[w13.heap.size]? = _ from heap_alloc_new w13 _)
  have n6_ := yam (show Kd.R (Kd.int .i64) 3 (w13.alloc (Obj.cells #[Value.slice (some ⟨gv, 0, none⟩) l1.length cv] 22)) w.heap.size _ _ _ from Kd.R_alloc HV.out _)
  clear HB BR BO HO BU HV hcz hfz
  have HB := n0_
  have BR := n1_
  have BO := n2_
  have HO := n3_
  have BU := n4_
  have BV := n5_
  have HV := n6_
  clear n0_ n1_ n2_ n3_ n4_ n5_ n6_
  generalize w13.alloc (Obj.cells #[Value.slice (some ⟨gv, 0, none⟩) l1.length cv] 22) = W2 at HB BR BO HO BU BV HV ⊢
  generalize w13.heap.size = gval at BV ⊢
  have hcz := (impl_ruleMasks.newBox W2 .nilFunc (.int .i64 0) 93).2.2.1
  have hfz := (impl_ruleMasks.newBox W2 .nilFunc (.int .i64 0) 93).2.2.2
  have hsf := fun (a : Addr) (c : Array Value) (w : World) => run_store Try.prog w a (.func (.func 95) #[] c) .plain rfl
  go_upto_region 5 with (fail)
  clear hsf
  clear hcz hfz
  have n0_ := yam (show Below w.heap.size w (W2.alloc (Obj.cells #[(Value.func (.func 95) #[] #[.pointer (some ⟨gown, 0, none⟩), .pointer (some ⟨gr, 0, none⟩), .pointer (some ⟨gval, 0, none⟩), .pointer (some ⟨gout, 0, none⟩), .pointer (some ⟨W2.heap.size, 0, none⟩)])] 93)) from below_alloc HB.out _)
  have n3_ := yam (show Kd.R (Kd.int .i64) 3 (W2.alloc (Obj.cells #[(Value.func (.func 95) #[] #[.pointer (some ⟨gown, 0, none⟩), .pointer (some ⟨gr, 0, none⟩), .pointer (some ⟨gval, 0, none⟩), .pointer (some ⟨gout, 0, none⟩), .pointer (some ⟨W2.heap.size, 0, none⟩)])] 93)) w.heap.size (fun k_ => k_ = go) _ _ from Kd.R_alloc (Kd.R_mono (Kd.R_tight rfl HO.out) (fun k_ hk_ => by simpa [Value.ownBlock] using hk_)) _)
  have n6_ := yam (show Kd.R (Kd.int .i64) 3 (W2.alloc (Obj.cells #[(Value.func (.func 95) #[] #[.pointer (some ⟨gown, 0, none⟩), .pointer (some ⟨gr, 0, none⟩), .pointer (some ⟨gval, 0, none⟩), .pointer (some ⟨gout, 0, none⟩), .pointer (some ⟨W2.heap.size, 0, none⟩)])] 93)) w.heap.size (fun k_ => k_ = gv) _ _ from Kd.R_alloc (Kd.R_mono (Kd.R_tight rfl HV.out) (fun k_ hk_ => by simpa [Value.ownBlock] using hk_)) _)
  have n7_ := yam (show impl_ruleMasks.Boxes (W2.alloc (Obj.cells #[(Value.func (.func 95) #[] #[.pointer (some ⟨gown, 0, none⟩), .pointer (some ⟨gr, 0, none⟩), .pointer (some ⟨gval, 0, none⟩), .pointer (some ⟨gout, 0, none⟩), .pointer (some ⟨W2.heap.size, 0, none⟩)])] 93)) gown gr gval gout W2.heap.size gv go cv cu A1 c1 l1.length a0_0 A0_1 c0_1 l0_1.length a0_2 from ⟨blk_alloc BO.out _, blk_alloc BR.out _, blk_alloc BV.out _, blk_alloc BU.out _, heap_alloc_new W2 _⟩)
  have gv0 := Kd.R_base HV.out gv rfl
  have go0 := Kd.R_base HO.out go rfl
  clear HB HO HV BR BO BU BV
  have HB := n0_
  have HO := n3_
  have HV := n6_
  have HX := n7_
  clear n0_ n3_ n6_ n7_
  generalize (W2.alloc (Obj.cells #[(Value.func (.func 95) #[] #[.pointer (some ⟨gown, 0, none⟩), .pointer (some ⟨gr, 0, none⟩), .pointer (some ⟨gval, 0, none⟩), .pointer (some ⟨gout, 0, none⟩), .pointer (some ⟨W2.heap.size, 0, none⟩)])] 93)) = W3 at HB HO HV HX ⊢
  generalize W2.heap.size = gtry at HX ⊢
  have hcT := (blk_cell HX.out.2.2.2.2 0).trans (rfl : _ = some (Value.func (.func 95) #[] #[.pointer (some ⟨gown, 0, none⟩), .pointer (some ⟨gr, 0, none⟩), .pointer (some ⟨gval, 0, none⟩), .pointer (some ⟨gout, 0, none⟩), .pointer (some ⟨gtry, 0, none⟩)]))
  go_wp2_with (first | (go_at_call 95; (refine (impl_ruleMasks.clo k a0_0 A0_1 c0_1 l0_1 a0_2 A1 c1 l1 gown gr gval gout gtry gv go cv cu w (by have := HNE.out; omega) gv0 go0 HR0.out HC0.out HR1.out l1.length 0 (List.replicate l1.length 0) (List.replicate l1.length 0) t1 t2 _ (by omega) (Nat.le_refl _) HN.out.2 (by simp) (by simp) HV.out HO.out HX.out HB.out HT.out).mono ?_); rintro e w' ⟨rfl, HL1, HL2, hV, hO, hX, hB⟩; clear HV HO HX HB hcT hV HL1; have HO := yam hO; have HB := yam hB; have HL := yam HL2; have hcU := (blk_cell hX.2.2.2.1 0).trans (rfl : _ = some (Value.slice (some ⟨go, 0, none⟩) l1.length cu)); clear hO hB hX HL2))
  go_ret
  exact ⟨_, rfl, Kd.R_mono HO.out (fun _ _ => trivial), HB.out⟩
 ·rw [if_neg hc] at h; cases h
def impl_canHold.l0 : Nat → List Int → Int → List Int → List Int → Int → Int → Int → List Int → Int → Option (Bool)
 | 0, _, _, _, _, _, _, _, _, _ => none
 | k + 1, x1, x2, x7, x12, x13, x14, x164000, x164001, x164002 => if x14 < x13 then (if 0 ≤ x14 then (if x14 < (x12.length : Int) then (if 0 ≤ (rd x12 x14) then (if (rd x12 x14) < (x1.length : Int) then (if (rd x1 (rd x12 x14)) > 0 then (if 0 ≤ (rd x1 (rd x12 x14)) then (if x7.length < 17592186044416 then (impl_canHold.l0 k x1 x2 (x7 ++ [shl .i64 1 (rd x1 (rd x12 x14))]) x12 x13 (wrap64 (x14 + 1)) x164000 x164001 x164002) else (none)) else (none)) else ((impl_allValues.f x2).bind fun t173 => (if x7.length < 17592186044416 then (impl_canHold.l0 k x1 x2 (x7 ++ [t173]) x12 x13 (wrap64 (x14 + 1)) x164000 x164001 x164002) else (none)))) else (none)) else (none)) else (none)) else (none)) else ((impl_ruleMasks.f k x164000 x164001 x164002 x7).bind fun t177 => (if 0 < (t177.length : Int) then (some ((rd t177 0) != 0)) else (none)))
def impl_canHold.f (k : Nat) (a0_0 : Int) (l0_1 : List Int) (a0_2 : Int) (l1 : List Int) (a2 : Int) : Option (Bool) := impl_canHold.l0 k l1 a2 (([] : List Int)) l0_1 (l0_1.length : Int) 0 a0_0 l0_1 a0_2
set_option maxHeartbeats 8000000 in
set_option maxRecDepth 100000 in
theorem impl_canHold.calls (k : Nat) (a0_0 : Int) (A0_1 : Option Addr) (c0_1 : Nat) (l0_1 : List Int) (a0_2 : Int) (A1 : Option Addr) (c1 : Nat) (l1 : List Int) (a2 : Int) (r : Bool) (w : World) (hr0_1 : Kd.C (Kd.int .i64) w A0_1 l0_1.length l0_1) (hc0_1 : l0_1.length ≤ c0_1) (hr1 : Kd.C (Kd.int .i64) w A1 l1.length l1) (hc1 : l1.length ≤ c1) (h : impl_canHold.f k a0_0 l0_1 a0_2 l1 a2 = some r) :
  Calls Try.prog 88 #[.agg #[.int .i64 a0_0, .slice A0_1 l0_1.length c0_1, .int .i64 a0_2], .slice A1 l1.length c1, .int .i64 a2] w fun e w' => e = .returned (.bool r) ∧ Below w.heap.size w w' := by
 have hu73 := Try.underlying73
 have HR0_1 := yam hr0_1
 have HC0_1 := yam hc0_1
 clear hr0_1 hc0_1
 have HR1 := yam hr1
 have HC1 := yam hc1
 clear hr1 hc1
 have HB := yam (Below.refl w.heap.size w)
 have H : (impl_canHold.l0 k l1 a2 (([] : List Int)) l0_1 (l0_1.length : Int) 0 a0_0 l0_1 a0_2) = some r := h
 clear h
 obtain ⟨y164, hy164⟩ : ∃ y_ : List Int, y_ = (([] : List Int)) := ⟨_, rfl⟩
 replace H : (impl_canHold.l0 k l1 a2 y164 l0_1 (l0_1.length : Int) 0 a0_0 l0_1 a0_2) = some r := by first | (rw [hy164]; with_reducible exact H) | (have H2_ := (Option.bind_some _ _).symm.trans H; rw [hy164]; with_reducible exact H2_) | (have H2_ := (Option.bind_some _ _).symm.trans H; with_reducible exact H2_) | with_reducible exact H | (rw [hy164]; exact H) | exact H
 have Ny164 := yam hy164
 clear hy164
 have H' := yam H
 clear H
 go_enter Try.func88, Try.ntmps88
 go_wp2_with (first | (refine ybe 3 #[.int .i64 a0_0, .slice A0_1 l0_1.length c0_1, .int .i64 a0_2] 73 ?_; intro gb163 hg w4 hbox hb; have n0_ := yam (below_step (yez HB.out) hb); have n1_ := yam (hbox); have n2_ := yam ((by rw [hg]; exact (below_size (yez HB.out)) : w.heap.size ≤ gb163)); have n3_ := n2_; clear HB; have HB := n0_; have BK163 := n1_; have GW163 := n2_; have GE163 := n3_; clear n0_ n1_ n2_ n3_; clear hb hbox hg) | ((with_reducible refine gate_dst (N := 10) rfl ?_); refine Kd.R_lit (Kd.int .i64) _ 3 ?hg (N := 10) ?hd (xs := ([] : List Int)) (inner := []) (ok := fun _ => True) (okp := fun _ => True) ?hr ?hp (fun _ hk => hk) trivial (Below.refl _ _) (Nat.le_refl _) (by simp) ?_; (case hd => rfl); (case hg => rfl); (case hr => first | (go_simp; done) | (go_simp; rfl)); (case hp => exact (Reps.none _ _)); intro v165 w5 ho6 hb hg_ hnew_; clear hg_ hnew_; (first | rw [← Ny164.out] at ho6 | (simp only [Int.reduceToNat] at ho6; rw [← Ny164.out] at ho6)); have n0_ := yam (Kd.R_lower ho6 (below_size yhb)); have n1_ := yam (blk_below (g := gb163) (o := .cells #[.int .i64 a0_0, .slice A0_1 l0_1.length c0_1, .int .i64 a0_2] 73 (0, 0)) (ybz BK163.out) hb); have n2_ := yam (below_step yhb hb); clear BK163; clear HB; have HO166 := n0_; have BK163 := n1_; have HB := n2_; clear n0_ n1_ n2_; clear hb ho6; obtain ⟨hcz7_0, hcz7_1, hcz7_2, hfz7_0, hfz7_1, hfz7_2⟩ := ybc BK163.out))
 go_loopg [7, 14] k (fun kq v7 v14 w' => ∃ (x7_1 : List Int) (x14_1 : Int), v14 = .int .i64 x14_1 ∧ Aside0 (impl_canHold.l0 kq l1 a2 x7_1 l0_1 (l0_1.length : Int) x14_1 a0_0 l0_1 a0_2 = some r) ∧ Aside0 (kq ≤ k) ∧ Aside0 (Kd.R (Kd.int .i64) 3 w' w.heap.size (fun _ => True) v7 x7_1) ∧ Aside0 (w'.heap[gb163]? = some (.cells #[.int .i64 a0_0, (.slice A0_1 l0_1.length c0_1), .int .i64 a0_2] 73 (0, 0))) ∧ Aside0 (Below w.heap.size w w'))
 case atStart => exact ⟨(y164), (0), yeq, H', ⟨Nat.le_refl _⟩, ⟨yka HO166.out⟩, ⟨by (with_reducible repeat (first | refine ybn ?_ _ | refine ybd ?_ | refine yba ?_ _)); exact BK163.out⟩, ⟨yhb⟩⟩
 case round =>
  clear H'
  try clear c1
  try clear p2
  try clear hcz7_0
  try clear hcz7_1
  try clear hcz7_2
  try clear hfz7_0
  try clear hfz7_1
  try clear hfz7_2
  obtain ⟨x7_1, x14_1, rfl, HA, HK1, HO_7, BK163, HB⟩ := hrel
  cases gk with
  | zero => exact absurd HA.out (by simp [impl_canHold.l0])
  | succ k1 =>
   have H := HA.out
   clear HA
   simp only [impl_canHold.l0] at H
   by_cases c8 : x14_1 < (l0_1.length : Int)
   rotate_left
   ·rw [if_neg c8] at H
    have c8b0 : decide (x14_1 < (l0_1.length : Int)) = false := decide_eq_false c8
    clear c8
    replace H := Option.bind_eq_some_iff.mp H
    obtain ⟨t177, A210, H⟩ := H
    try dsimp only at H
    have A21 := yam A210
    clear A210
    by_cases c22 : 0 < (t177.length : Int)
    rotate_left
    ·rw [if_neg c22] at H
     exact absurd H (by simp)

    rw [if_pos c22] at H
    have c22b0 : decide (0 < (t177.length : Int)) = true := decide_eq_true c22
    have c22b1 : decide (0 < t177.length) = true := decide_eq_true (by omega)
    clear c22
    obtain rfl := Option.some.inj H
    obtain ⟨hcz23_0, hcz23_1, hcz23_2, hfz23_0, hfz23_1, hfz23_2⟩ := ybc BK163.out
    obtain ⟨Ao24, co24, eo24⟩ := Kd.R_slice HO_7.out
    subst eo24
    go_wp2_with (first | (refine goesL_ (some 39) rfl rfl Try.func92 (by kernel_rfl) rfl #[.agg #[.int .i64 a0_0, .slice A0_1 l0_1.length c0_1, .int .i64 a0_2], .slice Ao24 x7_1.length co24] rfl ymd ?_; (with_reducible refine (impl_ruleMasks.calls k1 a0_0 _ _ l0_1 a0_2 _ _ x7_1 t177 _ ?side1 ?side2 ?side3 ?side4 A21.out).mono ?_); (case side1 => exact Kd.Cz ((Kd.C_below HR0_1.out HB.out))); (case side2 => exact HC0_1.out); (case side3 => repeat (first | exact (Kd.Yr HO_7.out).2.2 | (with_reducible refine Kd.C_alloc ?_ _) | (with_reducible refine Kd.C_drewN ?_ _) | (with_reducible refine Kd.C_drew ?_))); (case side4 => exact (Kd.Yr HO_7.out).2.1); rintro e w25 ⟨v178, rfl, ho0, hb⟩; refine ⟨_, rfl, ?_⟩; have n0_ := yam (Kd.Ye (Kd.Yz HO_7.out) (Kd.Yb ho0) hb); have n1_ := yam (Kd.R_lower (Kd.Yw ho0 (Kd.R_lt (Kd.Yz HO_7.out))) (below_size yhb)); have n2_ := yam (blk_below (g := gb163) (o := .cells #[.int .i64 a0_0, .slice A0_1 l0_1.length c0_1, .int .i64 a0_2] 73 (0, 0)) (ybz BK163.out) hb); have n3_ := yam (below_step yhb hb); clear HO_7; clear BK163; clear HB; have HO_7 := n0_; have HO179 := n1_; have BK163 := n2_; have HB := n3_; clear n0_ n1_ n2_ n3_; (try clear hb); (try clear hb2); (try clear hk); (try clear hi); (try clear ho0); obtain ⟨Ao26, co26, eo26⟩ := Kd.R_slice HO179.out; subst eo26; have p180 : 0 ≤ (0 : Int) := (by omega); have q180 : 0 < (t177.length : Int) := ydt; obtain ⟨ad180, e180, hx180_0⟩ := Kd.at_int (Kd.Yr HO179.out).2.2 0 p180 q180; cases e180; have qi180 : (0 < t177.length) = True := eq_true (by omega); (try rw [show ((0 : Int)).toNat = 0 from rfl] at hx180_0); (try rw [Addr.add_zero'] at hx180_0); replace p180 := eq_true p180; replace q180 := eq_true q180))
    go_ret
    exact ⟨yer, yhb⟩
   rw [if_pos c8] at H
   have c8b0 : decide (x14_1 < (l0_1.length : Int)) = true := decide_eq_true c8
   clear c8
   replace H := yif H
   obtain ⟨c9b0, H⟩ := H
   replace H := yif H
   obtain ⟨c10b0, H⟩ := H
   replace H := yif H
   obtain ⟨c11b0, H⟩ := H
   replace H := yif H
   obtain ⟨c12b0, H⟩ := H
   by_cases c13 : (rd l1 (rd l0_1 x14_1)) > 0
   rotate_left
   ·rw [if_neg c13] at H
    have c13b0 : decide (0 < (rd l1 (rd l0_1 x14_1))) = false := decide_eq_false c13
    clear c13
    replace H := Option.bind_eq_some_iff.mp H
    obtain ⟨t173, A180, H⟩ := H
    try dsimp only at H
    have A18 := yam A180
    clear A180
    replace H := yig H
    obtain ⟨c19, H⟩ := H
    have LMc19 := yam c19
    clear c19
    obtain ⟨y174, hy174⟩ : ∃ y_ : List Int, y_ = (x7_1 ++ [t173]) := ⟨_, rfl⟩
    replace H : (impl_canHold.l0 k1 l1 a2 y174 l0_1 (l0_1.length : Int) (wrap64 (x14_1 + 1)) a0_0 l0_1 a0_2) = some r := by first | (rw [hy174]; with_reducible exact H) | (have H2_ := (Option.bind_some _ _).symm.trans H; rw [hy174]; with_reducible exact H2_) | (have H2_ := (Option.bind_some _ _).symm.trans H; with_reducible exact H2_) | with_reducible exact H | (rw [hy174]; exact H) | exact H
    have Ny174 := yam hy174
    clear hy174
    have H' := yam H
    clear H
    have p167 : 0 ≤ (x14_1 : Int) := ydt
    have q167 : x14_1 < (l0_1.length : Int) := ydt
    obtain ⟨ad167, e167, hx167_0⟩ := Kd.at_int HR0_1.out x14_1 p167 q167
    cases e167
    replace hx167_0 := ybx HB.out hx167_0
    replace p167 := eq_true p167
    replace q167 := eq_true q167
    have p168 : 0 ≤ ((rd l0_1 x14_1) : Int) := ydt
    have q168 : (rd l0_1 x14_1) < (l1.length : Int) := ydt
    obtain ⟨ad168, e168, hx168_0⟩ := Kd.at_int HR1.out (rd l0_1 x14_1) p168 q168
    cases e168
    replace hx168_0 := ybx HB.out hx168_0
    replace p168 := eq_true p168
    replace q168 := eq_true q168
    go_wp2_with (first | (refine goesL_ (some 33) rfl rfl Try.func91 (by kernel_rfl) rfl #[.int .i64 a2] rfl ymd ?_; (with_reducible refine (impl_allValues.calls a2 t173 _ A18.out).mono ?_); rintro e w' ⟨rfl, ⟨nd, rfl⟩⟩; refine ⟨_, rfl, ?_⟩) | ((with_reducible refine gate_builtin (b := .append) (xs := #[.tmp 31, .tmp 34]) rfl ?_); at_builtin; refine Kd.R_append (Kd.int .i64) (w0 := w) w.heap.size rfl (.tmp 31) (.tmp 34) 22 3 (.int .i64 0) 8 rfl Try.underlying22 info3 rfl (by decide) (by omega) u7 x7_1 t173 [.int .i64 t173] (fun _ => True) (fun _ => False) rfl rfl ?aP (fun _ hk => hk.elim) ?aF ?aO ?aB ?aS ?aL ?_; (case aP => exact rfl); (case aB => exact yhb); (case aF => exact (fun _ _ => trivial)); (case aO => exact (Kd.Yz HO_7.out)); (case aS => exact (below_size yhb)); (case aL => have := LMc19.out; omega); intro v175 w20 ho hb hg hat; rw [← Ny174.out] at ho; have n0_ := yam (blk_grown (g := gb163) (o := .cells #[.int .i64 a0_0, .slice (some ad167) l0_1.length c0_1, .int .i64 a0_2] 73 (0, 0)) (ybz BK163.out) hg (Kd.R_ne HO_7.out BK163.out (by decide))); have n1_ := yam (hb); have n2_ := yam (ho); clear BK163; clear HB; clear HO_7; have BK163 := n0_; have HB := n1_; have HO176 := n2_; clear n0_ n1_ n2_; clear ho hb hg hat))
    go_roundg k1
    case measure => have := HK1.out; omega
    case rel => exact ⟨(y174), (wrap64 (x14_1 + 1)), yeq, H', ⟨by have := HK1.out; omega⟩, ⟨yka HO176.out⟩, ⟨by (with_reducible repeat (first | refine ybn ?_ _ | refine ybd ?_ | refine yba ?_ _)); exact BK163.out⟩, ⟨yhb⟩⟩
   rw [if_pos c13] at H
   have c13b0 : decide (0 < (rd l1 (rd l0_1 x14_1))) = true := decide_eq_true c13
   clear c13
   replace H := yig H
   obtain ⟨c14, H⟩ := H
   have c14b0 := eq_true c14
   have c14b1 : decide (0 ≤ (rd l1 (rd l0_1 x14_1))) = true := decide_eq_true c14
   clear c14
   obtain ⟨ji15, hji15⟩ : ∃ j_ : Int, (shl .i64 1 (rd l1 (rd l0_1 x14_1))) = j_ := ⟨_, rfl⟩
   replace H : (if x7_1.length < 17592186044416 then (impl_canHold.l0 k1 l1 a2 (x7_1 ++ [ji15]) l0_1 (l0_1.length : Int) (wrap64 (x14_1 + 1)) a0_0 l0_1 a0_2) else (none)) = some r := by first | (rw [hji15] at H; exact H) | (simp only [hji15] at H ⊢; exact H)
   have hji15_ : (IntKind.i64.wrap (1 * 2 ^ min (rd l1 (rd l0_1 x14_1)).toNat 64)) = ji15 := hji15
   have hji15z : (rd l1 (rd l0_1 x14_1)) ≤ 64 → (IntKind.i64.wrap (1 * 2 ^ (rd l1 (rd l0_1 x14_1)).toNat)) = ji15 := shl_small hji15
   have hji15u : (IntKind.i64.wrap (2 ^ min (rd l1 (rd l0_1 x14_1)).toNat 64)) = ji15 := by have h_ := hji15_; rw [Int.one_mul] at h_; exact h_
   have hji15v : (rd l1 (rd l0_1 x14_1)) ≤ 64 → (IntKind.i64.wrap (2 ^ (rd l1 (rd l0_1 x14_1)).toNat)) = ji15 := fun hle_ => by have h_ := hji15z hle_; rw [Int.one_mul] at h_; exact h_
   have hji15y : (wrap64 (1 * 2 ^ min (rd l1 (rd l0_1 x14_1)).toNat 64)) = ji15 := (i64_w _).symm.trans hji15_
   have hji15x : (rd l1 (rd l0_1 x14_1)) ≤ 64 → (wrap64 (1 * 2 ^ (rd l1 (rd l0_1 x14_1)).toNat)) = ji15 := fun h_ => (i64_w _).symm.trans (hji15z h_)
   replace H := yig H
   obtain ⟨c16, H⟩ := H
   have LMc16 := yam c16
   clear c16
   obtain ⟨y170, hy170⟩ : ∃ y_ : List Int, y_ = (x7_1 ++ [ji15]) := ⟨_, rfl⟩
   replace H : (impl_canHold.l0 k1 l1 a2 y170 l0_1 (l0_1.length : Int) (wrap64 (x14_1 + 1)) a0_0 l0_1 a0_2) = some r := by first | (rw [hy170]; with_reducible exact H) | (have H2_ := (Option.bind_some _ _).symm.trans H; rw [hy170]; with_reducible exact H2_) | (have H2_ := (Option.bind_some _ _).symm.trans H; with_reducible exact H2_) | with_reducible exact H | (rw [hy170]; exact H) | exact H
   have Ny170 := yam hy170
   clear hy170
   have H' := yam H
   clear H
   have p167 : 0 ≤ (x14_1 : Int) := ydt
   have q167 : x14_1 < (l0_1.length : Int) := ydt
   obtain ⟨ad167, e167, hx167_0⟩ := Kd.at_int HR0_1.out x14_1 p167 q167
   cases e167
   replace hx167_0 := ybx HB.out hx167_0
   replace p167 := eq_true p167
   replace q167 := eq_true q167
   have p168 : 0 ≤ ((rd l0_1 x14_1) : Int) := ydt
   have q168 : (rd l0_1 x14_1) < (l1.length : Int) := ydt
   obtain ⟨ad168, e168, hx168_0⟩ := Kd.at_int HR1.out (rd l0_1 x14_1) p168 q168
   cases e168
   replace hx168_0 := ybx HB.out hx168_0
   replace p168 := eq_true p168
   replace q168 := eq_true q168
   have p169 : 0 ≤ ((rd l0_1 x14_1) : Int) := ydt
   have q169 : (rd l0_1 x14_1) < (l1.length : Int) := ydt
   obtain ⟨ad169, e169, hx169_0⟩ := Kd.at_int HR1.out (rd l0_1 x14_1) p169 q169
   obtain rfl : ad168 = ad169 := (by injection e169)
   replace hx169_0 := ybx HB.out hx169_0
   replace p169 := eq_true p169
   replace q169 := eq_true q169
   go_wp2_with (first | ((with_reducible refine gate_builtin (b := .append) (xs := #[.tmp 23, .tmp 29]) rfl ?_); at_builtin; refine Kd.R_append (Kd.int .i64) (w0 := w) w.heap.size rfl (.tmp 23) (.tmp 29) 22 3 (.int .i64 0) 8 rfl Try.underlying22 info3 rfl (by decide) (by omega) u7 x7_1 ji15 [.int .i64 ji15] (fun _ => True) (fun _ => False) rfl rfl ?aP (fun _ hk => hk.elim) ?aF ?aO ?aB ?aS ?aL ?_; (case aP => exact rfl); (case aB => exact yhb); (case aF => exact (fun _ _ => trivial)); (case aO => exact (Kd.Yz HO_7.out)); (case aS => exact (below_size yhb)); (case aL => have := LMc16.out; omega); intro v171 w17 ho hb hg hat; rw [← Ny170.out] at ho; have n0_ := yam (blk_grown (g := gb163) (o := .cells #[.int .i64 a0_0, .slice (some ad167) l0_1.length c0_1, .int .i64 a0_2] 73 (0, 0)) (ybz BK163.out) hg (Kd.R_ne HO_7.out BK163.out (by decide))); have n1_ := yam (hb); have n2_ := yam (ho); clear BK163; clear HB; clear HO_7; have BK163 := n0_; have HB := n1_; have HO172 := n2_; clear n0_ n1_ n2_; clear ho hb hg hat))
   go_roundg k1
   case measure => have := HK1.out; omega
   case rel => exact ⟨(y170), (wrap64 (x14_1 + 1)), yeq, H', ⟨by have := HK1.out; omega⟩, ⟨yka HO172.out⟩, ⟨by (with_reducible repeat (first | refine ybn ?_ _ | refine ybd ?_ | refine yba ?_ _)); exact BK163.out⟩, ⟨yhb⟩⟩
end Go.Proofs.Ytmjbnghhfadapaa.P
