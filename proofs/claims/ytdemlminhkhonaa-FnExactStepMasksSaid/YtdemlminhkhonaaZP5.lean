/- The machine's side: each Go function as a plain Lean function and the proof that the machine's call does what that function says; written by this session's own program over the kit's print. -/
import Derived.Test.YtdemlminhkhonaaZP1
import Derived.Test.YtdemlminhkhonaaZP4
namespace Go.Proofs.Ytdemlminhkhonaa.P
open Go.RowKit Go.Proofs.YtdemlminhkhonaaW.PrintWords Go.Proofs.YtdemlminhkhonaaW.PrintLast Go.Proofs.YtdemlminhkhonaaW.PrintMore
attribute [local go_sem] max2_int min2_int max_two min_two max_three min_three max_four min_four   -- for this text's walks alone
set_option linter.unusedVariables false
set_option linter.unusedSimpArgs false
def slices_Index_int_int.l0 : Nat → List Int → Int → Int → Int → Option (Int)
 | 0, _, _, _, _ => none
 | k + 1, x0, x1, x7, x8 => if x8 < x7 then (if 0 ≤ x8 then (if x8 < (x0.length : Int) then (if x1 = (rd x0 x8) then (some x8) else (slices_Index_int_int.l0 k x0 x1 x7 (wrap64 (x8 + 1)))) else (none)) else (none)) else (some (-1))
def slices_Index_int_int.f (k : Nat) (l0 : List Int) (a1 : Int) : Option (Int) := slices_Index_int_int.l0 k l0 a1 (l0.length : Int) 0
set_option maxHeartbeats 8000000 in
set_option maxRecDepth 100000 in
theorem slices_Index_int_int.calls (k : Nat) (A0 : Option Addr) (c0 : Nat) (l0 : List Int) (a1 : Int) (r : Int) (w : World) (hr0 : Kd.C (Kd.int .i64) w A0 l0.length l0) (hc0 : l0.length ≤ c0) (h : slices_Index_int_int.f k l0 a1 = some r) :
  Calls Try.prog 92 #[.slice A0 l0.length c0, .int .i64 a1] w fun e w' => e = .returned (.int .i64 r) ∧ Drawn0 w w' := by
 have HR0 := yam hr0
 have HC0 := yam hc0
 clear hr0 hc0
 have H : (slices_Index_int_int.l0 k l0 a1 (l0.length : Int) 0) = some r := h
 clear h
 have H' := yam H
 clear H
 go_enter Try.func92, Try.ntmps92
 go_wp2
 go_loopg [8] k (fun kq v8 w' => ∃ (x8_1 : Int), v8 = .int .i64 x8_1 ∧ Aside0 (slices_Index_int_int.l0 kq l0 a1 (l0.length : Int) x8_1 = some r) ∧ Aside0 (kq ≤ k) ∧ Drawn0 w w')
 case atStart => exact ⟨(0), yeq, H', ⟨Nat.le_refl _⟩, by repeat (first | exact Drawn0.refl _ | apply Drawn0.step)⟩
 case round =>
  clear H'
  try clear p2
  obtain ⟨x8_1, rfl, HA, HK1, ⟨m1, rfl⟩⟩ := hrel
  cases gk with
  | zero => exact absurd HA.out (by simp [slices_Index_int_int.l0])
  | succ k1 =>
   have H := HA.out
   clear HA
   simp only [slices_Index_int_int.l0] at H
   by_cases c3 : x8_1 < (l0.length : Int)
   rotate_left
   ·rw [if_neg c3] at H
    have c3b0 : decide (x8_1 < (l0.length : Int)) = false := decide_eq_false c3
    clear c3
    obtain rfl := Option.some.inj H
    go_wp2
    go_ret
    exact ⟨yeq, by repeat (first | exact Drawn0.refl _ | apply Drawn0.step)⟩

   rw [if_pos c3] at H
   have c3b0 : decide (x8_1 < (l0.length : Int)) = true := decide_eq_true c3
   clear c3
   replace H := yif H
   obtain ⟨c4b0, H⟩ := H
   replace H := yif H
   obtain ⟨c5b0, H⟩ := H
   by_cases c6 : a1 = (rd l0 x8_1)
   ·rw [if_pos c6] at H
    have c6b0 : (a1 == (rd l0 x8_1)) = true := beq_iff_eq.mpr c6
    have c6b1 : (a1 != (rd l0 x8_1)) = false := bne_eq_false_iff_eq.mpr c6
    clear c6
    obtain rfl := Option.some.inj H
    have p375 : 0 ≤ (x8_1 : Int) := ydt
    have q375 : x8_1 < (l0.length : Int) := ydt
    obtain ⟨ad375, e375, hx375_0⟩ := Kd.at_int HR0.out x8_1 p375 q375
    cases e375
    replace p375 := eq_true p375
    replace q375 := eq_true q375
    go_wp2
    go_ret
    exact ⟨yeq, by repeat (first | exact Drawn0.refl _ | apply Drawn0.step)⟩
   rw [if_neg c6] at H
   have c6b0 : (a1 == (rd l0 x8_1)) = false := beq_eq_false_iff_ne.mpr c6
   have c6b1 : (a1 != (rd l0 x8_1)) = true := bne_iff_ne.mpr c6
   have H' := yam H
   clear H
   have p375 : 0 ≤ (x8_1 : Int) := ydt
   have q375 : x8_1 < (l0.length : Int) := ydt
   obtain ⟨ad375, e375, hx375_0⟩ := Kd.at_int HR0.out x8_1 p375 q375
   cases e375
   replace p375 := eq_true p375
   replace q375 := eq_true q375
   go_wp2
   go_roundg k1
   case measure => have := HK1.out; omega
   case rel => exact ⟨(wrap64 (x8_1 + 1)), yeq, H', ⟨by have := HK1.out; omega⟩, by repeat (first | exact Drawn0.refl _ | apply Drawn0.step)⟩
def slices_Contains_int_int.f (k : Nat) (l0 : List Int) (a1 : Int) : Option (Bool) := (slices_Index_int_int.f k l0 a1).bind fun t376 => (some (decide (t376 ≥ 0)))
set_option maxHeartbeats 8000000 in
set_option maxRecDepth 100000 in
theorem slices_Contains_int_int.calls (k : Nat) (A0 : Option Addr) (c0 : Nat) (l0 : List Int) (a1 : Int) (r : Bool) (w : World) (hr0 : Kd.C (Kd.int .i64) w A0 l0.length l0) (hc0 : l0.length ≤ c0) (h : slices_Contains_int_int.f k l0 a1 = some r) :
  Calls Try.prog 85 #[.slice A0 l0.length c0, .int .i64 a1] w fun e w' => e = .returned (.bool r) ∧ Drawn0 w w' := by
 have HR0 := yam hr0
 have HC0 := yam hc0
 clear hr0 hc0
 have H : ((slices_Index_int_int.f k l0 a1).bind fun t376 => (some (decide (t376 ≥ 0)))) = some r := h
 clear h
 replace H := Option.bind_eq_some_iff.mp H
 obtain ⟨t376, A30, H⟩ := H
 try dsimp only at H
 have A3 := yam A30
 clear A30
 obtain rfl := Option.some.inj H
 go_enter Try.func85, Try.ntmps85
 go_wp2_with (first | (refine goesL_ (some 7) rfl rfl Try.func92 (by kernel_rfl) rfl #[.slice A0 l0.length c0, .int .i64 a1] rfl ymd ?_; (with_reducible refine (slices_Index_int_int.calls k _ _ l0 a1 t376 _ ?side1 ?side2 A3.out).mono ?_); (case side1 => exact Kd.Cz (HR0.out)); (case side2 => exact HC0.out); rintro e w' ⟨rfl, ⟨nd, rfl⟩⟩; refine ⟨_, rfl, ?_⟩))
 go_ret
 exact ⟨yeq, by repeat (first | exact Drawn0.refl _ | apply Drawn0.step)⟩
mutual
def impl_RuleValid.l0 : Nat → Int → List Int → Int → Int → Int → List Int → Int → Option (Bool)
 | 0, _, _, _, _, _, _, _ => none
 | k + 1, x1, x12, x13, x14, x378000, x378001, x378002 => if x14 < x13 then (if 0 ≤ x14 then (if x14 < (x12.length : Int) then (if (rd x12 x14) < 0 then (some false) else (if (rd x12 x14) ≥ (wrap64 (x1 * x1)) then (some false) else (if x14 ≤ (x378001.length : Int) then ((slices_Contains_int_int.f k (x378001.take (x14 : Int).toNat) (rd x12 x14)).bind fun t381 => (if t381 = true then (some false) else (impl_RuleValid.l0 k x1 x12 x13 (wrap64 (x14 + 1)) x378000 x378001 x378002))) else (none)))) else (none)) else (none)) else (if x378000 = 1 then (if (x378001.length : Int) ≥ 2 then (if (x378001.length : Int) ≤ 4 then (some (x378002 == 0)) else (some false)) else (some false)) else (if x378000 = 2 then (impl_RuleValid.j1 k x1 (x378001.length : Int) x378000 (x378000 == 2) x378000 x378001 x378002) else (impl_RuleValid.j1 k x1 (x378001.length : Int) x378000 (x378000 == 3) x378000 x378001 x378002)))
def impl_RuleValid.j1 : Nat → Int → Int → Int → Bool → Int → List Int → Int → Option (Bool)
 | 0, _, _, _, _, _, _, _ => none
 | k + 1, x1, x7, x41, x55, x378000, x378001, x378002 => if x55 = true then (if x7 ≥ 1 then (if x7 ≤ 4 then (if x378002 ≥ 1 then (some (decide (x378002 ≤ (wrap64 ((wrap64 ((wrap64 (x1 * x1)) * x1)) * x1))))) else (some false)) else (some false)) else (some false)) else (if x41 = 4 then (if x7 = 2 then (some (x378002 == 0)) else (some false)) else (if x41 = 5 then (if x7 = 2 then (if x378002 ≥ 0 then (some (decide (x378002 < x1))) else (some false)) else (some false)) else (some false)))
end
def impl_RuleValid.f (k : Nat) (a0_0 : Int) (l0_1 : List Int) (a0_2 : Int) (a1 : Int) : Option (Bool) := (impl_sizeOk.f a1).bind fun t378 => (if t378 = true then (impl_RuleValid.l0 k a1 l0_1 (l0_1.length : Int) 0 a0_0 l0_1 a0_2) else (some false))
set_option maxHeartbeats 8000000 in
set_option maxRecDepth 100000 in
theorem impl_RuleValid.calls (k : Nat) (a0_0 : Int) (A0_1 : Option Addr) (c0_1 : Nat) (l0_1 : List Int) (a0_2 : Int) (a1 : Int) (r : Bool) (w : World) (hr0_1 : Kd.C (Kd.int .i64) w A0_1 l0_1.length l0_1) (hc0_1 : l0_1.length ≤ c0_1) (h : impl_RuleValid.f k a0_0 l0_1 a0_2 a1 = some r) :
  Calls Try.prog 70 #[.agg #[.int .i64 a0_0, .slice A0_1 l0_1.length c0_1, .int .i64 a0_2], .int .i64 a1] w fun e w' => e = .returned (.bool r) ∧ Below w.heap.size w w' := by
 have hu67 := Try.underlying67
 have HR0_1 := yam hr0_1
 have HC0_1 := yam hc0_1
 clear hr0_1 hc0_1
 have HB := yam (Below.refl w.heap.size w)
 have H : ((impl_sizeOk.f a1).bind fun t378 => (if t378 = true then (impl_RuleValid.l0 k a1 l0_1 (l0_1.length : Int) 0 a0_0 l0_1 a0_2) else (some false))) = some r := h
 clear h
 replace H := Option.bind_eq_some_iff.mp H
 obtain ⟨t378, A30, H⟩ := H
 try dsimp only at H
 have A3 := yam A30
 clear A30
 by_cases c4 : t378 = true
 rotate_left
 ·replace c4 := Bool.eq_false_iff.mpr c4
  subst c4
  have H1 : (some false) = some r := by rw [if_neg (show ¬ (false = true) by decide)] at H; exact H
  clear H
  have H := H1
  clear H1
  obtain rfl := Option.some.inj H
  go_enter Try.func70, Try.ntmps70
  go_wp2_with (first | (refine ybe 2 #[.int .i64 a0_0, .slice A0_1 l0_1.length c0_1, .int .i64 a0_2] 67 ?_; intro gb377 hg w43 hbox hb; have n0_ := yam (below_step (yez HB.out) hb); have n1_ := yam (hbox); have n2_ := yam ((by rw [hg]; exact (below_size (yez HB.out)) : w.heap.size ≤ gb377)); have n3_ := n2_; clear HB; have HB := n0_; have BK377 := n1_; have GW377 := n2_; have GE377 := n3_; clear n0_ n1_ n2_ n3_; clear hb hbox hg) | (refine goesL_ (some 9) rfl rfl Try.func84 (by kernel_rfl) rfl #[.int .i64 a1] rfl ymd ?_; (with_reducible refine (impl_sizeOk.calls a1 false _ A3.out).mono ?_); rintro e w' ⟨rfl, ⟨nd, rfl⟩⟩; refine ⟨_, rfl, ?_⟩))
  go_ret
  exact ⟨yer, yhb⟩

 subst c4
 have H1 : (impl_RuleValid.l0 k a1 l0_1 (l0_1.length : Int) 0 a0_0 l0_1 a0_2) = some r := by rw [if_pos rfl] at H; exact H
 clear H
 have H := H1
 clear H1
 have H' := yam H
 clear H
 go_enter Try.func70, Try.ntmps70
 go_wp2_with (first | (refine ybe 2 #[.int .i64 a0_0, .slice A0_1 l0_1.length c0_1, .int .i64 a0_2] 67 ?_; intro gb377 hg w5 hbox hb; have n0_ := yam (below_step (yez HB.out) hb); have n1_ := yam (hbox); have n2_ := yam ((by rw [hg]; exact (below_size (yez HB.out)) : w.heap.size ≤ gb377)); have n3_ := n2_; clear HB; have HB := n0_; have BK377 := n1_; have GW377 := n2_; have GE377 := n3_; clear n0_ n1_ n2_ n3_; clear hb hbox hg) | (refine goesL_ (some 9) rfl rfl Try.func84 (by kernel_rfl) rfl #[.int .i64 a1] rfl ymd ?_; (with_reducible refine (impl_sizeOk.calls a1 true _ A3.out).mono ?_); rintro e w' ⟨rfl, ⟨nd, rfl⟩⟩; refine ⟨_, rfl, ?_⟩; obtain ⟨hcz6_0, hcz6_1, hcz6_2, hfz6_0, hfz6_1, hfz6_2⟩ := ybc BK377.out))
 go_loopg [14] k (fun kq v14 w' => ∃ (x14_1 : Int), v14 = .int .i64 x14_1 ∧ Aside0 (impl_RuleValid.l0 kq a1 l0_1 (l0_1.length : Int) x14_1 a0_0 l0_1 a0_2 = some r) ∧ Aside0 (kq ≤ k) ∧ Aside0 (w'.heap[gb377]? = some (.cells #[.int .i64 a0_0, (.slice A0_1 l0_1.length c0_1), .int .i64 a0_2] 67 (0, 0))) ∧ Aside0 (Below w.heap.size w w'))
 case atStart => exact ⟨(0), yeq, H', ⟨Nat.le_refl _⟩, ⟨by (with_reducible repeat (first | refine ybn ?_ _ | refine ybd ?_ | refine yba ?_ _)); exact BK377.out⟩, ⟨yhb⟩⟩
 case round =>
  clear H'
  try clear p2
  try clear c4
  try clear hcz6_0
  try clear hcz6_1
  try clear hcz6_2
  try clear hfz6_0
  try clear hfz6_1
  try clear hfz6_2
  obtain ⟨x14_1, rfl, HA, HK1, BK377, HB⟩ := hrel
  cases gk with
  | zero => exact absurd HA.out (by simp [impl_RuleValid.l0])
  | succ k1 =>
   have H := HA.out
   clear HA
   simp only [impl_RuleValid.l0] at H
   by_cases c7 : x14_1 < (l0_1.length : Int)
   ·rw [if_pos c7] at H
    have c7b0 : decide (x14_1 < (l0_1.length : Int)) = true := decide_eq_true c7
    clear c7
    replace H := yif H
    obtain ⟨c8b0, H⟩ := H
    replace H := yif H
    obtain ⟨c9b0, H⟩ := H
    by_cases c10 : (rd l0_1 x14_1) < 0
    ·rw [if_pos c10] at H
     have c10b0 : decide ((rd l0_1 x14_1) < 0) = true := decide_eq_true c10
     clear c10
     obtain rfl := Option.some.inj H
     have p379 : 0 ≤ (x14_1 : Int) := ydt
     have q379 : x14_1 < (l0_1.length : Int) := ydt
     obtain ⟨ad379, e379, hx379_0⟩ := Kd.at_int HR0_1.out x14_1 p379 q379
     cases e379
     replace hx379_0 := ybx HB.out hx379_0
     replace p379 := eq_true p379
     replace q379 := eq_true q379
     go_wp2
     go_ret
     exact ⟨yer, yhb⟩
    rw [if_neg c10] at H
    have c10b0 : decide ((rd l0_1 x14_1) < 0) = false := decide_eq_false c10
    clear c10
    by_cases c11 : (rd l0_1 x14_1) ≥ (wrap64 (a1 * a1))
    ·rw [if_pos c11] at H
     have c11b0 : decide ((wrap64 (a1 * a1)) ≤ (rd l0_1 x14_1)) = true := decide_eq_true c11
     clear c11
     obtain rfl := Option.some.inj H
     have p379 : 0 ≤ (x14_1 : Int) := ydt
     have q379 : x14_1 < (l0_1.length : Int) := ydt
     obtain ⟨ad379, e379, hx379_0⟩ := Kd.at_int HR0_1.out x14_1 p379 q379
     cases e379
     replace hx379_0 := ybx HB.out hx379_0
     replace p379 := eq_true p379
     replace q379 := eq_true q379
     go_wp2
     go_ret
     exact ⟨yer, yhb⟩
    rw [if_neg c11] at H
    have c11b0 : decide ((wrap64 (a1 * a1)) ≤ (rd l0_1 x14_1)) = false := decide_eq_false c11
    clear c11
    have c12b0 := eq_true (ydt : 0 ≤ x14_1)
    replace H := yig H
    obtain ⟨c13, H⟩ := H
    have c13b0 := eq_true c13
    have c13b1 : decide (x14_1 ≤ (l0_1.length : Int)) = true := decide_eq_true c13
    clear c13
    replace H := Option.bind_eq_some_iff.mp H
    obtain ⟨t381, A140, H⟩ := H
    try dsimp only at H
    have A14 := yam A140
    clear A140
    by_cases c15 : t381 = true
    ·subst c15
     have H1 : (some false) = some r := by rw [if_pos rfl] at H; exact H
     clear H
     have H := H1
     clear H1
     obtain rfl := Option.some.inj H
     have p379 : 0 ≤ (x14_1 : Int) := ydt
     have q379 : x14_1 < (l0_1.length : Int) := ydt
     obtain ⟨ad379, e379, hx379_0⟩ := Kd.at_int HR0_1.out x14_1 p379 q379
     cases e379
     replace hx379_0 := ybx HB.out hx379_0
     replace p379 := eq_true p379
     replace q379 := eq_true q379
     obtain ⟨hcz16_0, hcz16_1, hcz16_2, hfz16_0, hfz16_1, hfz16_2⟩ := ybc BK377.out
     obtain ⟨i017, hi017, _, hsz17, _⟩ := info_parts info3
     obtain ⟨hcut17, hA17, hC17⟩ := print_take_of (P := Try.prog) (Value.int .i64) 0 22 3 .i64 Try.underlying22 hi017 hsz17 (some ad379) c0_1 l0_1 x14_1 (ydt) (ydt) HC0_1.out
     have hl17_ : (l0_1.take (x14_1 : Int).toNat).length = (x14_1 : Int).toNat := by
      have e0_ : 0 ≤ (x14_1 : Int) := ydt
      have e1_ : (x14_1 : Int) ≤ (l0_1.length : Int) := ydt
      rw [List.length_take]; omega
     have HR380 := yam (Kd.C_of_reads (h1 := fun _ => rfl) (hA17 _ (Kd.reads_of_C HR0_1.out)))
     have HC380 := yam hC17
     clear hA17 hC17 hi017 hsz17
     go_wp2_with (first | (go_at_call 85; (first | (with_reducible refine (slices_Contains_int_int.calls k1 _ _ (l0_1.take (x14_1 : Int).toNat) (rd l0_1 x14_1) true _ ?side1 ?side2 A14.out).mono ?_) | (rw [← hl17_]; (with_reducible refine (slices_Contains_int_int.calls k1 _ _ (l0_1.take (x14_1 : Int).toNat) (rd l0_1 x14_1) true _ ?side1 ?side2 A14.out).mono ?_))); (case side1 => exact Kd.Cz ((Kd.C_below HR380.out HB.out))); (case side2 => exact HC380.out); rintro e w' ⟨rfl, ⟨nd, rfl⟩⟩))
     go_ret
     exact ⟨yer, yhb⟩
    replace c15 := Bool.eq_false_iff.mpr c15
    subst c15
    have H1 : (impl_RuleValid.l0 k1 a1 l0_1 (l0_1.length : Int) (wrap64 (x14_1 + 1)) a0_0 l0_1 a0_2) = some r := by rw [if_neg (show ¬ (false = true) by decide)] at H; exact H
    clear H
    have H := H1
    clear H1
    have H' := yam H
    clear H
    have p379 : 0 ≤ (x14_1 : Int) := ydt
    have q379 : x14_1 < (l0_1.length : Int) := ydt
    obtain ⟨ad379, e379, hx379_0⟩ := Kd.at_int HR0_1.out x14_1 p379 q379
    cases e379
    replace hx379_0 := ybx HB.out hx379_0
    replace p379 := eq_true p379
    replace q379 := eq_true q379
    obtain ⟨hcz18_0, hcz18_1, hcz18_2, hfz18_0, hfz18_1, hfz18_2⟩ := ybc BK377.out
    obtain ⟨i019, hi019, _, hsz19, _⟩ := info_parts info3
    obtain ⟨hcut19, hA19, hC19⟩ := print_take_of (P := Try.prog) (Value.int .i64) 0 22 3 .i64 Try.underlying22 hi019 hsz19 (some ad379) c0_1 l0_1 x14_1 (ydt) (ydt) HC0_1.out
    have hl19_ : (l0_1.take (x14_1 : Int).toNat).length = (x14_1 : Int).toNat := by
     have e0_ : 0 ≤ (x14_1 : Int) := ydt
     have e1_ : (x14_1 : Int) ≤ (l0_1.length : Int) := ydt
     rw [List.length_take]; omega
    have HR380 := yam (Kd.C_of_reads (h1 := fun _ => rfl) (hA19 _ (Kd.reads_of_C HR0_1.out)))
    have HC380 := yam hC19
    clear hA19 hC19 hi019 hsz19
    go_wp2_with (first | (go_at_call 85; (first | (with_reducible refine (slices_Contains_int_int.calls k1 _ _ (l0_1.take (x14_1 : Int).toNat) (rd l0_1 x14_1) false _ ?side1 ?side2 A14.out).mono ?_) | (rw [← hl19_]; (with_reducible refine (slices_Contains_int_int.calls k1 _ _ (l0_1.take (x14_1 : Int).toNat) (rd l0_1 x14_1) false _ ?side1 ?side2 A14.out).mono ?_))); (case side1 => exact Kd.Cz ((Kd.C_below HR380.out HB.out))); (case side2 => exact HC380.out); rintro e w' ⟨rfl, ⟨nd, rfl⟩⟩))
    go_roundg k1
    case measure => have := HK1.out; omega
    case rel => exact ⟨(wrap64 (x14_1 + 1)), yeq, H', ⟨by have := HK1.out; omega⟩, ⟨by (with_reducible repeat (first | refine ybn ?_ _ | refine ybd ?_ | refine yba ?_ _)); exact BK377.out⟩, ⟨yhb⟩⟩
   rw [if_neg c7] at H
   have c7b0 : decide (x14_1 < (l0_1.length : Int)) = false := decide_eq_false c7
   clear c7
   by_cases c20 : a0_0 = 1
   ·rw [if_pos c20] at H
    have c20b0 : (a0_0 == 1) = true := beq_iff_eq.mpr c20
    have c20b1 : (a0_0 != 1) = false := bne_eq_false_iff_eq.mpr c20
    clear c20
    by_cases c21 : (l0_1.length : Int) ≥ 2
    rotate_left
    ·rw [if_neg c21] at H
     have c21b0 : decide (2 ≤ (l0_1.length : Int)) = false := decide_eq_false c21
     have c21b1 : decide (2 ≤ l0_1.length) = false := decide_eq_false (by omega)
     clear c21
     obtain rfl := Option.some.inj H
     obtain ⟨hcz25_0, hcz25_1, hcz25_2, hfz25_0, hfz25_1, hfz25_2⟩ := ybc BK377.out
     go_wp2
     go_ret
     exact ⟨yer, yhb⟩
    rw [if_pos c21] at H
    have c21b0 : decide (2 ≤ (l0_1.length : Int)) = true := decide_eq_true c21
    have c21b1 : decide (2 ≤ l0_1.length) = true := decide_eq_true (by omega)
    clear c21
    by_cases c22 : (l0_1.length : Int) ≤ 4
    ·rw [if_pos c22] at H
     have c22b0 : decide ((l0_1.length : Int) ≤ 4) = true := decide_eq_true c22
     have c22b1 : decide (l0_1.length ≤ 4) = true := decide_eq_true (by omega)
     clear c22
     obtain rfl := Option.some.inj H
     obtain ⟨hcz23_0, hcz23_1, hcz23_2, hfz23_0, hfz23_1, hfz23_2⟩ := ybc BK377.out
     go_wp2
     go_ret
     exact ⟨yer, yhb⟩
    rw [if_neg c22] at H
    have c22b0 : decide ((l0_1.length : Int) ≤ 4) = false := decide_eq_false c22
    have c22b1 : decide (l0_1.length ≤ 4) = false := decide_eq_false (by omega)
    clear c22
    obtain rfl := Option.some.inj H
    obtain ⟨hcz24_0, hcz24_1, hcz24_2, hfz24_0, hfz24_1, hfz24_2⟩ := ybc BK377.out
    go_wp2
    go_ret
    exact ⟨yer, yhb⟩
   rw [if_neg c20] at H
   have c20b0 : (a0_0 == 1) = false := beq_eq_false_iff_ne.mpr c20
   have c20b1 : (a0_0 != 1) = true := bne_iff_ne.mpr c20
   have HC26 := yam H
   clear H
   obtain ⟨hcz27_0, hcz27_1, hcz27_2, hfz27_0, hfz27_1, hfz27_2⟩ := ybc BK377.out
   go_upto_if 55 with (fail)
   go_cut [55] (fun v55 wc => ∃ (kq : Nat) (x55_25 : Bool), v55 = .bool x55_25 ∧ Aside0 (impl_RuleValid.j1 kq a1 (l0_1.length : Int) a0_0 x55_25 a0_0 l0_1 a0_2 = some r) ∧ Aside0 (kq ≤ k1) ∧ Aside0 (wc.heap[gb377]? = some (.cells #[.int .i64 a0_0, (.slice A0_1 l0_1.length c0_1), .int .i64 a0_2] 67 (0, 0))) ∧ Aside0 (Below w.heap.size w wc))
   case first =>
    have H := HC26.out
    clear HC26
    by_cases c28 : a0_0 = 2
    rotate_left
    ·rw [if_neg c28] at H
     have c28b0 : (a0_0 == 2) = false := beq_eq_false_iff_ne.mpr c28
     have c28b1 : (a0_0 != 2) = true := bne_iff_ne.mpr c28
     (first | rw [c28b0] | (simp only [i64_w, i32_w]; rw [c28b0]) | skip)
     have H' := yam H
     clear H
     go_wp2
     go_meet
     case rel => exact ⟨_, ((a0_0 == 3)), yeq, H', ⟨by have := HK1.out; first | omega | exact Nat.le_refl _⟩, ⟨by (with_reducible repeat (first | refine ybn ?_ _ | refine ybd ?_ | refine yba ?_ _)); exact BK377.out⟩, ⟨yhb⟩⟩
    rw [if_pos c28] at H
    have c28b0 : (a0_0 == 2) = true := beq_iff_eq.mpr c28
    have c28b1 : (a0_0 != 2) = false := bne_eq_false_iff_eq.mpr c28
    clear c28
    (first | rw [c28b0] | (simp only [i64_w, i32_w]; rw [c28b0]) | skip)
    have H' := yam H
    clear H
    go_wp2
    go_meet
    case rel => exact ⟨_, ((a0_0 == 2)), yeq, H', ⟨by have := HK1.out; first | omega | exact Nat.le_refl _⟩, ⟨by (with_reducible repeat (first | refine ybn ?_ _ | refine ybd ?_ | refine yba ?_ _)); exact BK377.out⟩, ⟨yhb⟩⟩
   case rest =>
    clear HC26
    try clear c1
    try clear c2
    try clear p2
    try clear p3
    try clear q3
    try clear hx3
    try clear c4
    try clear p6
    try clear c7
    try clear c7b0
    try clear c8
    try clear c8b0
    try clear c9
    try clear c9b0
    try clear c10
    try clear c10b0
    try clear c11
    try clear c11b0
    try clear c12
    try clear c12b0
    try clear c13
    try clear c13b0
    try clear c13b1
    try clear c15
    try clear c20
    try clear c20b0
    try clear c20b1
    try clear c21
    try clear c21b0
    try clear c21b1
    try clear c22
    try clear c22b0
    try clear c22b1
    try clear c28
    try clear c28b0
    try clear c28b1
    try clear hcz16_0
    try clear hcz16_1
    try clear hcz16_2
    try clear hcz18_0
    try clear hcz18_1
    try clear hcz18_2
    try clear hcz23_0
    try clear hcz23_1
    try clear hcz23_2
    try clear hcz24_0
    try clear hcz24_1
    try clear hcz24_2
    try clear hcz25_0
    try clear hcz25_1
    try clear hcz25_2
    try clear hcz27_0
    try clear hcz27_1
    try clear hcz27_2
    try clear hcz6_0
    try clear hcz6_1
    try clear hcz6_2
    try clear hfz16_0
    try clear hfz16_1
    try clear hfz16_2
    try clear hfz18_0
    try clear hfz18_1
    try clear hfz18_2
    try clear hfz23_0
    try clear hfz23_1
    try clear hfz23_2
    try clear hfz24_0
    try clear hfz24_1
    try clear hfz24_2
    try clear hfz25_0
    try clear hfz25_1
    try clear hfz25_2
    try clear hfz27_0
    try clear hfz27_1
    try clear hfz27_2
    try clear hfz6_0
    try clear hfz6_1
    try clear hfz6_2
    try clear hx379_0
    try clear p2
    try clear p379
    try clear q379
    obtain ⟨kq, x55_25, rfl, HA, HJ25, BK377, HB⟩ := hcut
    cases kq with
    | zero => exact absurd HA.out (by simp [impl_RuleValid.j1])
    | succ kj25 =>
     have H := HA.out
     clear HA
     simp only [impl_RuleValid.j1] at H
     by_cases c29 : x55_25 = true
     ·subst c29
      have H1 : (if (l0_1.length : Int) ≥ 1 then (if (l0_1.length : Int) ≤ 4 then (if a0_2 ≥ 1 then (some (decide (a0_2 ≤ (wrap64 ((wrap64 ((wrap64 (a1 * a1)) * a1)) * a1))))) else (some false)) else (some false)) else (some false)) = some r := by rw [if_pos rfl] at H; exact H
      clear H
      have H := H1
      clear H1
      by_cases c30 : (l0_1.length : Int) ≥ 1
      rotate_left
      ·rw [if_neg c30] at H
       have c30b0 : decide (1 ≤ (l0_1.length : Int)) = false := decide_eq_false c30
       have c30b1 : decide (1 ≤ l0_1.length) = false := decide_eq_false (by omega)
       clear c30
       obtain rfl := Option.some.inj H
       go_wp2
       go_ret
       exact ⟨yer, yhb⟩
      rw [if_pos c30] at H
      have c30b0 : decide (1 ≤ (l0_1.length : Int)) = true := decide_eq_true c30
      have c30b1 : decide (1 ≤ l0_1.length) = true := decide_eq_true (by omega)
      clear c30
      by_cases c31 : (l0_1.length : Int) ≤ 4
      rotate_left
      ·rw [if_neg c31] at H
       have c31b0 : decide ((l0_1.length : Int) ≤ 4) = false := decide_eq_false c31
       have c31b1 : decide (l0_1.length ≤ 4) = false := decide_eq_false (by omega)
       clear c31
       obtain rfl := Option.some.inj H
       go_wp2
       go_ret
       exact ⟨yer, yhb⟩
      rw [if_pos c31] at H
      have c31b0 : decide ((l0_1.length : Int) ≤ 4) = true := decide_eq_true c31
      have c31b1 : decide (l0_1.length ≤ 4) = true := decide_eq_true (by omega)
      clear c31
      by_cases c32 : a0_2 ≥ 1
      ·rw [if_pos c32] at H
       have c32b0 : decide (1 ≤ a0_2) = true := decide_eq_true c32
       clear c32
       obtain rfl := Option.some.inj H
       obtain ⟨hcz33_0, hcz33_1, hcz33_2, hfz33_0, hfz33_1, hfz33_2⟩ := ybc BK377.out
       go_wp2
       go_ret
       exact ⟨yer, yhb⟩
      rw [if_neg c32] at H
      have c32b0 : decide (1 ≤ a0_2) = false := decide_eq_false c32
      clear c32
      obtain rfl := Option.some.inj H
      obtain ⟨hcz34_0, hcz34_1, hcz34_2, hfz34_0, hfz34_1, hfz34_2⟩ := ybc BK377.out
      go_wp2
      go_ret
      exact ⟨yer, yhb⟩
     replace c29 := Bool.eq_false_iff.mpr c29
     subst c29
     have H1 : (if a0_0 = 4 then (if (l0_1.length : Int) = 2 then (some (a0_2 == 0)) else (some false)) else (if a0_0 = 5 then (if (l0_1.length : Int) = 2 then (if a0_2 ≥ 0 then (some (decide (a0_2 < a1))) else (some false)) else (some false)) else (some false))) = some r := by rw [if_neg (show ¬ (false = true) by decide)] at H; exact H
     clear H
     have H := H1
     clear H1
     by_cases c35 : a0_0 = 4
     ·rw [if_pos c35] at H
      have c35b0 : (a0_0 == 4) = true := beq_iff_eq.mpr c35
      have c35b1 : (a0_0 != 4) = false := bne_eq_false_iff_eq.mpr c35
      clear c35
      by_cases c36 : (l0_1.length : Int) = 2
      rotate_left
      ·rw [if_neg c36] at H
       have c36b0 : ((l0_1.length : Int) == 2) = false := beq_eq_false_iff_ne.mpr c36
       have c36b1 : ((l0_1.length : Int) != 2) = true := bne_iff_ne.mpr c36
       obtain rfl := Option.some.inj H
       go_wp2
       go_ret
       exact ⟨yer, yhb⟩
      rw [if_pos c36] at H
      have c36b0 : ((l0_1.length : Int) == 2) = true := beq_iff_eq.mpr c36
      have c36b1 : ((l0_1.length : Int) != 2) = false := bne_eq_false_iff_eq.mpr c36
      clear c36
      obtain rfl := Option.some.inj H
      obtain ⟨hcz37_0, hcz37_1, hcz37_2, hfz37_0, hfz37_1, hfz37_2⟩ := ybc BK377.out
      go_wp2
      go_ret
      exact ⟨yer, yhb⟩
     rw [if_neg c35] at H
     have c35b0 : (a0_0 == 4) = false := beq_eq_false_iff_ne.mpr c35
     have c35b1 : (a0_0 != 4) = true := bne_iff_ne.mpr c35
     by_cases c38 : a0_0 = 5
     rotate_left
     ·rw [if_neg c38] at H
      have c38b0 : (a0_0 == 5) = false := beq_eq_false_iff_ne.mpr c38
      have c38b1 : (a0_0 != 5) = true := bne_iff_ne.mpr c38
      obtain rfl := Option.some.inj H
      go_wp2
      go_ret
      exact ⟨yer, yhb⟩
     rw [if_pos c38] at H
     have c38b0 : (a0_0 == 5) = true := beq_iff_eq.mpr c38
     have c38b1 : (a0_0 != 5) = false := bne_eq_false_iff_eq.mpr c38
     clear c38
     by_cases c39 : (l0_1.length : Int) = 2
     rotate_left
     ·rw [if_neg c39] at H
      have c39b0 : ((l0_1.length : Int) == 2) = false := beq_eq_false_iff_ne.mpr c39
      have c39b1 : ((l0_1.length : Int) != 2) = true := bne_iff_ne.mpr c39
      obtain rfl := Option.some.inj H
      go_wp2
      go_ret
      exact ⟨yer, yhb⟩
     rw [if_pos c39] at H
     have c39b0 : ((l0_1.length : Int) == 2) = true := beq_iff_eq.mpr c39
     have c39b1 : ((l0_1.length : Int) != 2) = false := bne_eq_false_iff_eq.mpr c39
     clear c39
     by_cases c40 : a0_2 ≥ 0
     ·rw [if_pos c40] at H
      have c40b0 : decide (0 ≤ a0_2) = true := decide_eq_true c40
      clear c40
      obtain rfl := Option.some.inj H
      obtain ⟨hcz41_0, hcz41_1, hcz41_2, hfz41_0, hfz41_1, hfz41_2⟩ := ybc BK377.out
      go_wp2
      go_ret
      exact ⟨yer, yhb⟩
     rw [if_neg c40] at H
     have c40b0 : decide (0 ≤ a0_2) = false := decide_eq_false c40
     clear c40
     obtain rfl := Option.some.inj H
     obtain ⟨hcz42_0, hcz42_1, hcz42_2, hfz42_0, hfz42_1, hfz42_2⟩ := ybc BK377.out
     go_wp2
     go_ret
     exact ⟨yer, yhb⟩
mutual
def impl_PuzzleValid.j0 : Nat → Bool → Int → List Int → List (S67) → Option (Bool)
 | 0, _, _, _, _ => none
 | k + 1, x16, x383000, x383001, x383002 => if x16 = true then (some false) else (impl_PuzzleValid.l0 k x383002 (x383002.length : Int) 0 x383000 x383001 x383002)
def impl_PuzzleValid.l0 : Nat → List (S67) → Int → Int → Int → List Int → List (S67) → Option (Bool)
 | 0, _, _, _, _, _, _ => none
 | k + 1, x18, x19, x20, x383000, x383001, x383002 => if x20 < x19 then (if 0 ≤ x20 then (if x20 < (x18.length : Int) then ((impl_RuleValid.f k ((rd_T67 x18 x20).f0) ((rd_T67 x18 x20).f1) ((rd_T67 x18 x20).f2) x383000).bind fun t386 => (if t386 = true then (impl_PuzzleValid.l0 k x18 x19 (wrap64 (x20 + 1)) x383000 x383001 x383002) else (some false))) else (none)) else (none)) else (some true)
end
def impl_PuzzleValid.f (k : Nat) (a0_0 : Int) (l0_1 : List Int) (l0_2 : List (S67)) : Option (Bool) := (impl_GridValid.f k l0_1 a0_0).bind fun t383 => (if t383 = true then (impl_PuzzleValid.j0 k (decide ((l0_2.length : Int) > 20)) a0_0 l0_1 l0_2) else (impl_PuzzleValid.j0 k true a0_0 l0_1 l0_2))
set_option maxHeartbeats 8000000 in
set_option maxRecDepth 100000 in
theorem impl_PuzzleValid.calls (k : Nat) (a0_0 : Int) (A0_1 : Option Addr) (c0_1 : Nat) (l0_1 : List Int) (A0_2 : Option Addr) (c0_2 : Nat) (l0_2 : List (S67)) (r : Bool) (w : World) (hr0_1 : Kd.C (Kd.int .i64) w A0_1 l0_1.length l0_1) (hc0_1 : l0_1.length ≤ c0_1) (hr0_2 : Kd.C k67 w A0_2 l0_2.length l0_2) (hc0_2 : l0_2.length ≤ c0_2) (h : impl_PuzzleValid.f k a0_0 l0_1 l0_2 = some r) :
  Calls Try.prog 36 #[.agg #[.int .i64 a0_0, .slice A0_1 l0_1.length c0_1, .slice A0_2 l0_2.length c0_2]] w fun e w' => e = .returned (.bool r) ∧ Below w.heap.size w w' := by
 have hu30 := Try.underlying30
 have hu67 := Try.underlying67
 have HR0_1 := yam hr0_1
 have HC0_1 := yam hc0_1
 clear hr0_1 hc0_1
 have HR0_2 := yam hr0_2
 have HC0_2 := yam hc0_2
 clear hr0_2 hc0_2
 have HB := yam (Below.refl w.heap.size w)
 have H : ((impl_GridValid.f k l0_1 a0_0).bind fun t383 => (if t383 = true then (impl_PuzzleValid.j0 k (decide ((l0_2.length : Int) > 20)) a0_0 l0_1 l0_2) else (impl_PuzzleValid.j0 k true a0_0 l0_1 l0_2))) = some r := h
 clear h
 have HC2 := yam H
 clear H
 go_enter Try.func36, Try.ntmps36
 go_upto_region 1 with (first | ((with_reducible refine gate_dst (N := 1) rfl ?_); (try (refine gate_guard (by rfl) ?_; dsimp only)); refine ybe 1 #[.int .i64 a0_0, .slice A0_1 l0_1.length c0_1, .slice A0_2 l0_2.length c0_2] 30 ?_; intro gb382 hg w3 hbox hb; have n0_ := yam (below_step (yez HB.out) hb); have n1_ := yam (hbox); have n2_ := yam ((by rw [hg]; exact (below_size (yez HB.out)) : w.heap.size ≤ gb382)); have n3_ := n2_; clear HB; have HB := n0_; have BK382 := n1_; have GW382 := n2_; have GE382 := n3_; clear n0_ n1_ n2_ n3_; clear hb hbox hg))
 (try simp only [Act.put, yps])
 go_cut [16] (fun v16 wc => ∃ (kq : Nat) (x16_1 : Bool), v16 = .bool x16_1 ∧ Aside0 (impl_PuzzleValid.j0 kq x16_1 a0_0 l0_1 l0_2 = some r) ∧ Aside0 (kq ≤ k) ∧ Aside0 (wc.heap[gb382]? = some (.cells #[.int .i64 a0_0, (.slice A0_1 l0_1.length c0_1), (.slice A0_2 l0_2.length c0_2)] 30 (0, 0))) ∧ Aside0 (Below w.heap.size w wc))
 case first =>
  have H := HC2.out
  clear HC2
  replace H := Option.bind_eq_some_iff.mp H
  obtain ⟨t383, A40, H⟩ := H
  try dsimp only at H
  have A4 := yam A40
  clear A40
  by_cases c5 : t383 = true
  ·subst c5
   have H1 : (impl_PuzzleValid.j0 k (decide ((l0_2.length : Int) > 20)) a0_0 l0_1 l0_2) = some r := by rw [if_pos rfl] at H; exact H
   clear H
   have H := H1
   clear H1
   have H' := yam H
   clear H
   obtain ⟨hcz6_0, hcz6_1, hcz6_2, hfz6_0, hfz6_1, hfz6_2⟩ := ybc BK382.out
   go_wp2_with (first | (refine goesL_ (some 9) rfl rfl Try.func69 (by kernel_rfl) rfl #[.slice A0_1 l0_1.length c0_1, .int .i64 a0_0] rfl ymd ?_; (with_reducible refine (impl_GridValid.calls k _ _ l0_1 a0_0 true _ ?side1 ?side2 A4.out).mono ?_); (case side1 => exact Kd.Cz ((Kd.C_below HR0_1.out HB.out))); (case side2 => exact HC0_1.out); rintro e w' ⟨rfl, ⟨nd, rfl⟩⟩; refine ⟨_, rfl, ?_⟩))
   go_meet
   case rel => exact ⟨_, (decide ((l0_2.length : Int) > 20)), yeq, H', ⟨by first | omega | exact Nat.le_refl _⟩, ⟨by (with_reducible repeat (first | refine ybn ?_ _ | refine ybd ?_ | refine yba ?_ _)); exact BK382.out⟩, ⟨yhb⟩⟩
  replace c5 := Bool.eq_false_iff.mpr c5
  subst c5
  have H1 : (impl_PuzzleValid.j0 k true a0_0 l0_1 l0_2) = some r := by rw [if_neg (show ¬ (false = true) by decide)] at H; exact H
  clear H
  have H := H1
  clear H1
  have H' := yam H
  clear H
  obtain ⟨hcz7_0, hcz7_1, hcz7_2, hfz7_0, hfz7_1, hfz7_2⟩ := ybc BK382.out
  go_wp2_with (first | (refine goesL_ (some 9) rfl rfl Try.func69 (by kernel_rfl) rfl #[.slice A0_1 l0_1.length c0_1, .int .i64 a0_0] rfl ymd ?_; (with_reducible refine (impl_GridValid.calls k _ _ l0_1 a0_0 false _ ?side1 ?side2 A4.out).mono ?_); (case side1 => exact Kd.Cz ((Kd.C_below HR0_1.out HB.out))); (case side2 => exact HC0_1.out); rintro e w' ⟨rfl, ⟨nd, rfl⟩⟩; refine ⟨_, rfl, ?_⟩))
  go_meet
  case rel => exact ⟨_, (true), yeq, H', ⟨by first | omega | exact Nat.le_refl _⟩, ⟨by (with_reducible repeat (first | refine ybn ?_ _ | refine ybd ?_ | refine yba ?_ _)); exact BK382.out⟩, ⟨yhb⟩⟩
 case rest =>
  clear HC2
  try clear p2
  try clear c3
  try clear c5
  try clear c6
  try clear hcz6_0
  try clear hcz6_1
  try clear hcz6_2
  try clear hcz7_0
  try clear hcz7_1
  try clear hcz7_2
  try clear hfz6_0
  try clear hfz6_1
  try clear hfz6_2
  try clear hfz7_0
  try clear hfz7_1
  try clear hfz7_2
  obtain ⟨kq, x16_1, rfl, HA, HJ1, BK382, HB⟩ := hcut
  cases kq with
  | zero => exact absurd HA.out (by simp [impl_PuzzleValid.j0])
  | succ kj1 =>
   have H := HA.out
   clear HA
   simp only [impl_PuzzleValid.j0] at H
   by_cases c8 : x16_1 = true
   ·subst c8
    have H1 : (some false) = some r := by rw [if_pos rfl] at H; exact H
    clear H
    have H := H1
    clear H1
    obtain rfl := Option.some.inj H
    go_wp2
    go_ret
    exact ⟨yer, yhb⟩
   replace c8 := Bool.eq_false_iff.mpr c8
   subst c8
   have H1 : (impl_PuzzleValid.l0 kj1 l0_2 (l0_2.length : Int) 0 a0_0 l0_1 l0_2) = some r := by rw [if_neg (show ¬ (false = true) by decide)] at H; exact H
   clear H
   have H := H1
   clear H1
   have H' := yam H
   clear H
   obtain ⟨hcz9_0, hcz9_1, hcz9_2, hfz9_0, hfz9_1, hfz9_2⟩ := ybc BK382.out
   go_wp2
   go_loopg [20] kj1 (fun kq v20 w' => ∃ (x20_2 : Int), v20 = .int .i64 x20_2 ∧ Aside0 (impl_PuzzleValid.l0 kq l0_2 (l0_2.length : Int) x20_2 a0_0 l0_1 l0_2 = some r) ∧ Aside0 (kq ≤ kj1) ∧ Aside0 (w'.heap[gb382]? = some (.cells #[.int .i64 a0_0, (.slice A0_1 l0_1.length c0_1), (.slice A0_2 l0_2.length c0_2)] 30 (0, 0))) ∧ Aside0 (Below w.heap.size w w'))
   case atStart => exact ⟨(0), yeq, H', ⟨Nat.le_refl _⟩, ⟨by (with_reducible repeat (first | refine ybn ?_ _ | refine ybd ?_ | refine yba ?_ _)); exact BK382.out⟩, ⟨yhb⟩⟩
   case round =>
    clear H'
    try clear p2
    try clear c3
    try clear c5
    try clear c6
    try clear c8
    try clear hcz6_0
    try clear hcz6_1
    try clear hcz6_2
    try clear hcz7_0
    try clear hcz7_1
    try clear hcz7_2
    try clear hcz9_0
    try clear hcz9_1
    try clear hcz9_2
    try clear hfz6_0
    try clear hfz6_1
    try clear hfz6_2
    try clear hfz7_0
    try clear hfz7_1
    try clear hfz7_2
    try clear hfz9_0
    try clear hfz9_1
    try clear hfz9_2
    try clear p2
    obtain ⟨x20_2, rfl, HA, HK2, BK382, HB⟩ := hrel
    cases gk with
    | zero => exact absurd HA.out (by simp [impl_PuzzleValid.l0])
    | succ k2 =>
     have H := HA.out
     clear HA
     simp only [impl_PuzzleValid.l0] at H
     by_cases c10 : x20_2 < (l0_2.length : Int)
     rotate_left
     ·rw [if_neg c10] at H
      have c10b0 : decide (x20_2 < (l0_2.length : Int)) = false := decide_eq_false c10
      clear c10
      obtain rfl := Option.some.inj H
      go_wp2
      go_ret
      exact ⟨yer, yhb⟩

     rw [if_pos c10] at H
     have c10b0 : decide (x20_2 < (l0_2.length : Int)) = true := decide_eq_true c10
     clear c10
     replace H := yif H
     obtain ⟨c11b0, H⟩ := H
     replace H := yif H
     obtain ⟨c12b0, H⟩ := H
     replace H := Option.bind_eq_some_iff.mp H
     obtain ⟨t386, A130, H⟩ := H
     try dsimp only at H
     have A13 := yam A130
     clear A130
     by_cases c14 : t386 = true
     rotate_left
     ·replace c14 := Bool.eq_false_iff.mpr c14
      subst c14
      have H1 : (some false) = some r := by rw [if_neg (show ¬ (false = true) by decide)] at H; exact H
      clear H
      have H := H1
      clear H1
      obtain rfl := Option.some.inj H
      have p384 : 0 ≤ (x20_2 : Int) := ydt
      have q384 : x20_2 < (l0_2.length : Int) := ydt
      obtain ⟨ad384, A384_1, c384_1, e384, hx384_0, hx384_1, hx384_2, hl384_1, hi384_1⟩ := at_T67 HR0_2.out x20_2 p384 q384
      cases e384
      replace hx384_0 := ybx HB.out hx384_0
      replace hx384_1 := ybx HB.out hx384_1
      replace hx384_2 := ybx HB.out hx384_2
      have HR384_1 := yam hi384_1
      have HC384_1 := yam hl384_1
      clear hi384_1 hl384_1
      replace p384 := eq_true p384
      replace q384 := eq_true q384
      go_wp2_with (first | ((with_reducible refine gate_dst (N := 4) rfl ?_); (try (refine gate_guard (by rfl) ?_; dsimp only)); refine ybe 4 #[.int .i64 0, .slice none 0 0, .int .i64 0] 67 ?_; intro gb385 hg w20 hbox hb; have n0_ := yam (blk_below (g := gb382) (o := .cells #[.int .i64 a0_0, .slice A0_1 l0_1.length c0_1, .slice (some ad384) l0_2.length c0_2] 30 (0, 0)) (ybz BK382.out) hb); have n1_ := yam (below_step yhb hb); have n2_ := yam (hbox); have n3_ := yam ((by rw [hg]; exact (below_size yhb) : w.heap.size ≤ gb385)); have n4_ := n3_; have n5_ := yam ((by rw [hg]; exact Nat.ne_of_lt (blk_lt (g := gb382) (o := .cells #[.int .i64 a0_0, .slice A0_1 l0_1.length c0_1, .slice (some ad384) l0_2.length c0_2] 30 (0, 0)) (ybz BK382.out)) : gb382 ≠ gb385)); have n6_ := yam ((by rw [hg]; exact Nat.ne_of_gt (blk_lt (g := gb382) (o := .cells #[.int .i64 a0_0, .slice A0_1 l0_1.length c0_1, .slice (some ad384) l0_2.length c0_2] 30 (0, 0)) (ybz BK382.out)) : gb385 ≠ gb382)); clear BK382; clear HB; have BK382 := n0_; have HB := n1_; have BK385 := n2_; have GW385 := n3_; have GE385 := n4_; have NB382_385 := n5_; have NB385_382 := n6_; clear n0_ n1_ n2_ n3_ n4_ n5_ n6_; clear hb hbox hg; have hnb21 := NB385_382.out; have hnc21 := NB382_385.out; obtain ⟨hcz22_0, hcz22_1, hcz22_2, hfz22_0, hfz22_1, hfz22_2⟩ := ybc BK385.out; obtain ⟨hcz23_0, hcz23_1, hcz23_2, hfz23_0, hfz23_1, hfz23_2⟩ := ybc BK382.out) | (refine goesL_ (some 27) rfl rfl Try.func70 (by kernel_rfl) rfl #[.agg #[.int .i64 ((rd_T67 l0_2 x20_2).f0), .slice A384_1 ((rd_T67 l0_2 x20_2).f1).length c384_1, .int .i64 ((rd_T67 l0_2 x20_2).f2)], .int .i64 a0_0] rfl ymd ?_; (with_reducible refine (impl_RuleValid.calls k2 ((rd_T67 l0_2 x20_2).f0) _ _ ((rd_T67 l0_2 x20_2).f1) ((rd_T67 l0_2 x20_2).f2) a0_0 false _ ?side1 ?side2 A13.out).mono ?_); (case side1 => exact Kd.C_below HR384_1.out yhb); (case side2 => exact HC384_1.out); rintro e w24 ⟨rfl, hb⟩; refine ⟨_, rfl, ?_⟩; replace BK382 := yam (blk_below (g := gb382) (o := .cells #[.int .i64 a0_0, .slice A0_1 l0_1.length c0_1, .slice (some ad384) l0_2.length c0_2] 30 (0, 0)) (by (with_reducible repeat (first | refine ybn ?_ _ | refine ybd ?_ | refine yba ?_ _)); refine blk_far ?_ NB382_385.out _; (with_reducible repeat (first | refine ybn ?_ _ | refine ybd ?_ | refine yba ?_ _)); refine blk_far ?_ NB382_385.out _; (with_reducible repeat (first | refine ybn ?_ _ | refine ybd ?_ | refine yba ?_ _)); refine blk_far ?_ NB382_385.out _; (with_reducible repeat (first | refine ybn ?_ _ | refine ybd ?_ | refine yba ?_ _)); exact BK382.out) hb); replace BK385 := yam (blk_below (g := gb385) (o := .cells #[.int .i64 ((rd_T67 l0_2 x20_2).f0), .slice A384_1 ((rd_T67 l0_2 x20_2).f1).length c384_1, .int .i64 ((rd_T67 l0_2 x20_2).f2)] 67 (0, 0)) (by (with_reducible repeat (first | refine ybn ?_ _ | refine ybd ?_ | refine yba ?_ _)); refine blk_put (cs := #[.int .i64 ((rd_T67 l0_2 x20_2).f0), .slice A384_1 ((rd_T67 l0_2 x20_2).f1).length c384_1, .int .i64 0]) ?_ 2 _ rfl; (with_reducible repeat (first | refine ybn ?_ _ | refine ybd ?_ | refine yba ?_ _)); refine blk_put (cs := #[.int .i64 ((rd_T67 l0_2 x20_2).f0), .slice none 0 0, .int .i64 0]) ?_ 1 _ rfl; (with_reducible repeat (first | refine ybn ?_ _ | refine ybd ?_ | refine yba ?_ _)); refine blk_put (cs := #[.int .i64 0, .slice none 0 0, .int .i64 0]) ?_ 0 _ rfl; (with_reducible repeat (first | refine ybn ?_ _ | refine ybd ?_ | refine yba ?_ _)); exact BK385.out) hb); replace HB := yam (below_step yhb hb); (try clear hb); (try clear hb2); (try clear hk); (try clear hi)))
      go_ret
      exact ⟨yer, yhb⟩
     subst c14
     have H1 : (impl_PuzzleValid.l0 k2 l0_2 (l0_2.length : Int) (wrap64 (x20_2 + 1)) a0_0 l0_1 l0_2) = some r := by rw [if_pos rfl] at H; exact H
     clear H
     have H := H1
     clear H1
     have H' := yam H
     clear H
     have p384 : 0 ≤ (x20_2 : Int) := ydt
     have q384 : x20_2 < (l0_2.length : Int) := ydt
     obtain ⟨ad384, A384_1, c384_1, e384, hx384_0, hx384_1, hx384_2, hl384_1, hi384_1⟩ := at_T67 HR0_2.out x20_2 p384 q384
     cases e384
     replace hx384_0 := ybx HB.out hx384_0
     replace hx384_1 := ybx HB.out hx384_1
     replace hx384_2 := ybx HB.out hx384_2
     have HR384_1 := yam hi384_1
     have HC384_1 := yam hl384_1
     clear hi384_1 hl384_1
     replace p384 := eq_true p384
     replace q384 := eq_true q384
     go_wp2_with (first | ((with_reducible refine gate_dst (N := 4) rfl ?_); (try (refine gate_guard (by rfl) ?_; dsimp only)); refine ybe 4 #[.int .i64 0, .slice none 0 0, .int .i64 0] 67 ?_; intro gb385 hg w15 hbox hb; have n0_ := yam (blk_below (g := gb382) (o := .cells #[.int .i64 a0_0, .slice A0_1 l0_1.length c0_1, .slice (some ad384) l0_2.length c0_2] 30 (0, 0)) (ybz BK382.out) hb); have n1_ := yam (below_step yhb hb); have n2_ := yam (hbox); have n3_ := yam ((by rw [hg]; exact (below_size yhb) : w.heap.size ≤ gb385)); have n4_ := n3_; have n5_ := yam ((by rw [hg]; exact Nat.ne_of_lt (blk_lt (g := gb382) (o := .cells #[.int .i64 a0_0, .slice A0_1 l0_1.length c0_1, .slice (some ad384) l0_2.length c0_2] 30 (0, 0)) (ybz BK382.out)) : gb382 ≠ gb385)); have n6_ := yam ((by rw [hg]; exact Nat.ne_of_gt (blk_lt (g := gb382) (o := .cells #[.int .i64 a0_0, .slice A0_1 l0_1.length c0_1, .slice (some ad384) l0_2.length c0_2] 30 (0, 0)) (ybz BK382.out)) : gb385 ≠ gb382)); clear BK382; clear HB; have BK382 := n0_; have HB := n1_; have BK385 := n2_; have GW385 := n3_; have GE385 := n4_; have NB382_385 := n5_; have NB385_382 := n6_; clear n0_ n1_ n2_ n3_ n4_ n5_ n6_; clear hb hbox hg; have hnb16 := NB385_382.out; have hnc16 := NB382_385.out; obtain ⟨hcz17_0, hcz17_1, hcz17_2, hfz17_0, hfz17_1, hfz17_2⟩ := ybc BK385.out; obtain ⟨hcz18_0, hcz18_1, hcz18_2, hfz18_0, hfz18_1, hfz18_2⟩ := ybc BK382.out) | (refine goesL_ (some 27) rfl rfl Try.func70 (by kernel_rfl) rfl #[.agg #[.int .i64 ((rd_T67 l0_2 x20_2).f0), .slice A384_1 ((rd_T67 l0_2 x20_2).f1).length c384_1, .int .i64 ((rd_T67 l0_2 x20_2).f2)], .int .i64 a0_0] rfl ymd ?_; (with_reducible refine (impl_RuleValid.calls k2 ((rd_T67 l0_2 x20_2).f0) _ _ ((rd_T67 l0_2 x20_2).f1) ((rd_T67 l0_2 x20_2).f2) a0_0 true _ ?side1 ?side2 A13.out).mono ?_); (case side1 => exact Kd.C_below HR384_1.out yhb); (case side2 => exact HC384_1.out); rintro e w19 ⟨rfl, hb⟩; refine ⟨_, rfl, ?_⟩; replace BK382 := yam (blk_below (g := gb382) (o := .cells #[.int .i64 a0_0, .slice A0_1 l0_1.length c0_1, .slice (some ad384) l0_2.length c0_2] 30 (0, 0)) (by (with_reducible repeat (first | refine ybn ?_ _ | refine ybd ?_ | refine yba ?_ _)); refine blk_far ?_ NB382_385.out _; (with_reducible repeat (first | refine ybn ?_ _ | refine ybd ?_ | refine yba ?_ _)); refine blk_far ?_ NB382_385.out _; (with_reducible repeat (first | refine ybn ?_ _ | refine ybd ?_ | refine yba ?_ _)); refine blk_far ?_ NB382_385.out _; (with_reducible repeat (first | refine ybn ?_ _ | refine ybd ?_ | refine yba ?_ _)); exact BK382.out) hb); replace BK385 := yam (blk_below (g := gb385) (o := .cells #[.int .i64 ((rd_T67 l0_2 x20_2).f0), .slice A384_1 ((rd_T67 l0_2 x20_2).f1).length c384_1, .int .i64 ((rd_T67 l0_2 x20_2).f2)] 67 (0, 0)) (by (with_reducible repeat (first | refine ybn ?_ _ | refine ybd ?_ | refine yba ?_ _)); refine blk_put (cs := #[.int .i64 ((rd_T67 l0_2 x20_2).f0), .slice A384_1 ((rd_T67 l0_2 x20_2).f1).length c384_1, .int .i64 0]) ?_ 2 _ rfl; (with_reducible repeat (first | refine ybn ?_ _ | refine ybd ?_ | refine yba ?_ _)); refine blk_put (cs := #[.int .i64 ((rd_T67 l0_2 x20_2).f0), .slice none 0 0, .int .i64 0]) ?_ 1 _ rfl; (with_reducible repeat (first | refine ybn ?_ _ | refine ybd ?_ | refine yba ?_ _)); refine blk_put (cs := #[.int .i64 0, .slice none 0 0, .int .i64 0]) ?_ 0 _ rfl; (with_reducible repeat (first | refine ybn ?_ _ | refine ybd ?_ | refine yba ?_ _)); exact BK385.out) hb); replace HB := yam (below_step yhb hb); (try clear hb); (try clear hb2); (try clear hk); (try clear hi)))
     go_roundg k2
     case measure => have := HJ1.out; have := HK2.out; omega
     case rel => exact ⟨(wrap64 (x20_2 + 1)), yeq, H', ⟨by have := HJ1.out; have := HK2.out; omega⟩, ⟨by (with_reducible repeat (first | refine ybn ?_ _ | refine ybd ?_ | refine yba ?_ _)); exact BK382.out⟩, ⟨yhb⟩⟩
def impl_allValues.f (a0 : Int) : Option (Int) := if 0 ≤ (wrap64 (a0 + 1)) then (some (wrap64 ((shl .i64 1 (wrap64 (a0 + 1))) - 2))) else (none)
set_option maxHeartbeats 8000000 in
set_option maxRecDepth 100000 in
theorem impl_allValues.calls (a0 : Int) (r : Int) (w : World) (h : impl_allValues.f a0 = some r) :
  Calls Try.prog 73 #[.int .i64 a0] w fun e w' => e = .returned (.int .i64 r) ∧ Drawn0 w w' := by
 have H : (if 0 ≤ (wrap64 (a0 + 1)) then (some (wrap64 ((shl .i64 1 (wrap64 (a0 + 1))) - 2))) else (none)) = some r := h
 clear h
 obtain ⟨ji2, hji2⟩ : ∃ j_ : Int, (wrap64 (a0 + 1)) = j_ := ⟨_, rfl⟩
 replace H : (if 0 ≤ (ji2) then (some (wrap64 ((shl .i64 1 (ji2)) - 2))) else (none)) = some r := by first | (rw [hji2] at H; exact H) | (simp only [hji2] at H ⊢; exact H)
 have hji2w : (IntKind.i64.wrap (a0 + 1)) = ji2 := (i64_w _).trans hji2
 by_cases c3 : 0 ≤ (ji2)
 rotate_left
 ·rw [if_neg c3] at H
  exact absurd H (by simp)

 rw [if_pos c3] at H
 have c3b0 := eq_true c3
 have c3b1 : decide (0 ≤ (ji2)) = true := decide_eq_true c3
 clear c3
 obtain ⟨ji4, hji4⟩ : ∃ j_ : Int, (shl .i64 1 (ji2)) = j_ := ⟨_, rfl⟩
 replace H : (some (wrap64 ((ji4) - 2))) = some r := by first | (rw [hji4] at H; exact H) | (simp only [hji4] at H ⊢; exact H)
 have hji4_ : (IntKind.i64.wrap (1 * 2 ^ min (ji2).toNat 64)) = ji4 := hji4
 have hji4z : (ji2) ≤ 64 → (IntKind.i64.wrap (1 * 2 ^ (ji2).toNat)) = ji4 := shl_small hji4
 have hji4u : (IntKind.i64.wrap (2 ^ min (ji2).toNat 64)) = ji4 := by have h_ := hji4_; rw [Int.one_mul] at h_; exact h_
 have hji4v : (ji2) ≤ 64 → (IntKind.i64.wrap (2 ^ (ji2).toNat)) = ji4 := fun hle_ => by have h_ := hji4z hle_; rw [Int.one_mul] at h_; exact h_
 have hji4y : (wrap64 (1 * 2 ^ min (ji2).toNat 64)) = ji4 := (i64_w _).symm.trans hji4_
 have hji4x : (ji2) ≤ 64 → (wrap64 (1 * 2 ^ (ji2).toNat)) = ji4 := fun h_ => (i64_w _).symm.trans (hji4z h_)
 obtain rfl := Option.some.inj H
 go_enter Try.func73, Try.ntmps73
 go_wp2
 go_ret
 exact ⟨by first | rfl | (simp; done) | (simp only [← hji2, ← hji4] <;> (first | rfl | simp)) | (simp [*]; done), by repeat (first | exact Drawn0.refl _ | apply Drawn0.step)⟩
def impl_StartMasks.l0 : Nat → List Int → List Int → Int → Int → Int → List Int → List (S67) → Option (List Int)
 | 0, _, _, _, _, _, _, _ => none
 | k + 1, x3, x14, x15, x16, x388000, x388001, x388002 => if x16 < x15 then (if 0 ≤ x16 then (if x16 < (x14.length : Int) then ((impl_allValues.f x388000).bind fun t393 => (if x16 < (x3.length : Int) then ((some (x3.set (x16 : Int).toNat t393 : List Int)).bind fun y394 => (if (rd x14 x16) > 0 then (if 0 ≤ (rd x14 x16) then (impl_StartMasks.l0 k (y394.set (x16 : Int).toNat (shl .i64 1 (rd x14 x16))) x14 x15 (wrap64 (x16 + 1)) x388000 x388001 x388002) else (none)) else (impl_StartMasks.l0 k y394 x14 x15 (wrap64 (x16 + 1)) x388000 x388001 x388002))) else (none))) else (none)) else (none)) else (some x3)
def impl_StartMasks.f (k : Nat) (a0_0 : Int) (l0_1 : List Int) (l0_2 : List (S67)) : Option (List Int) := (impl_PuzzleValid.f k a0_0 l0_1 l0_2).bind fun t388 => (if t388 = true then (if 0 ≤ (l0_1.length : Int) then (if ((l0_1.length : Int) : Int).toNat ≤ 35184372088832 then (impl_StartMasks.l0 k (List.replicate ((l0_1.length : Int) : Int).toNat 0) l0_1 (l0_1.length : Int) 0 a0_0 l0_1 l0_2) else (none)) else (none)) else (some ([] : List Int)))
set_option maxHeartbeats 8000000 in
set_option maxRecDepth 100000 in
theorem impl_StartMasks.calls (k : Nat) (a0_0 : Int) (A0_1 : Option Addr) (c0_1 : Nat) (l0_1 : List Int) (A0_2 : Option Addr) (c0_2 : Nat) (l0_2 : List (S67)) (r : List Int) (w : World) (hr0_1 : Kd.C (Kd.int .i64) w A0_1 l0_1.length l0_1) (hc0_1 : l0_1.length ≤ c0_1) (hr0_2 : Kd.C k67 w A0_2 l0_2.length l0_2) (hc0_2 : l0_2.length ≤ c0_2) (h : impl_StartMasks.f k a0_0 l0_1 l0_2 = some r) :
  Calls Try.prog 43 #[.agg #[.int .i64 a0_0, .slice A0_1 l0_1.length c0_1, .slice A0_2 l0_2.length c0_2]] w fun e w' => ∃ v0_ : Value, e = .returned (v0_) ∧ Kd.R (Kd.int .i64) 3 w' w.heap.size (fun _ => True) v0_ r ∧ Below w.heap.size w w' := by
 have hu30 := Try.underlying30
 have HR0_1 := yam hr0_1
 have HC0_1 := yam hc0_1
 clear hr0_1 hc0_1
 have HR0_2 := yam hr0_2
 have HC0_2 := yam hc0_2
 clear hr0_2 hc0_2
 have HB := yam (Below.refl w.heap.size w)
 have H : ((impl_PuzzleValid.f k a0_0 l0_1 l0_2).bind fun t388 => (if t388 = true then (if 0 ≤ (l0_1.length : Int) then (if ((l0_1.length : Int) : Int).toNat ≤ 35184372088832 then (impl_StartMasks.l0 k (List.replicate ((l0_1.length : Int) : Int).toNat 0) l0_1 (l0_1.length : Int) 0 a0_0 l0_1 l0_2) else (none)) else (none)) else (some ([] : List Int)))) = some r := h
 clear h
 replace H := Option.bind_eq_some_iff.mp H
 obtain ⟨t388, A20, H⟩ := H
 try dsimp only at H
 have A2 := yam A20
 clear A20
 by_cases c3 : t388 = true
 rotate_left
 ·replace c3 := Bool.eq_false_iff.mpr c3
  subst c3
  have H1 : (some ([] : List Int)) = some r := by rw [if_neg (show ¬ (false = true) by decide)] at H; exact H
  clear H
  have H := H1
  clear H1
  obtain rfl := Option.some.inj H
  go_enter Try.func43, Try.ntmps43
  go_wp2_with (first | (refine ybe 1 #[.int .i64 a0_0, .slice A0_1 l0_1.length c0_1, .slice A0_2 l0_2.length c0_2] 30 ?_; intro gb387 hg w31 hbox hb; have n0_ := yam (below_step (yez HB.out) hb); have n1_ := yam (hbox); have n2_ := yam ((by rw [hg]; exact (below_size (yez HB.out)) : w.heap.size ≤ gb387)); have n3_ := n2_; clear HB; have HB := n0_; have BK387 := n1_; have GW387 := n2_; have GE387 := n3_; clear n0_ n1_ n2_ n3_; clear hb hbox hg; obtain ⟨hcz32_0, hcz32_1, hcz32_2, hfz32_0, hfz32_1, hfz32_2⟩ := ybc BK387.out) | (refine goesL_ (some 7) rfl rfl Try.func36 (by kernel_rfl) rfl #[.agg #[.int .i64 a0_0, .slice A0_1 l0_1.length c0_1, .slice A0_2 l0_2.length c0_2]] rfl ymd ?_; (with_reducible refine (impl_PuzzleValid.calls k a0_0 _ _ l0_1 _ _ l0_2 false _ ?side1 ?side2 ?side3 ?side4 A2.out).mono ?_); (case side1 => exact Kd.Cz ((Kd.C_below HR0_1.out HB.out))); (case side2 => exact HC0_1.out); (case side3 => exact Kd.Cz ((Kd.C_below HR0_2.out HB.out))); (case side4 => exact HC0_2.out); rintro e w33 ⟨rfl, hb⟩; refine ⟨_, rfl, ?_⟩; replace BK387 := yam (blk_below (g := gb387) (o := .cells #[.int .i64 a0_0, .slice A0_1 l0_1.length c0_1, .slice A0_2 l0_2.length c0_2] 30 (0, 0)) (ybz BK387.out) hb); replace HB := yam (below_step yhb hb); (try clear hb); (try clear hb2); (try clear hk); (try clear hi)))
  go_ret
  exact ⟨_, yer, by first | exact Kd.R_nil _ _ _ _ _ | exact Kd.N_nil _ _ _ _ _ | exact Kd.V_nil _ _ _ _ _ | exact Kd.Q_nil _ _ _ _ _ | exact Kd.S_nil _ _ _ _ _, yhb⟩

 subst c3
 have H1 : (if 0 ≤ (l0_1.length : Int) then (if ((l0_1.length : Int) : Int).toNat ≤ 35184372088832 then (impl_StartMasks.l0 k (List.replicate ((l0_1.length : Int) : Int).toNat 0) l0_1 (l0_1.length : Int) 0 a0_0 l0_1 l0_2) else (none)) else (none)) = some r := by rw [if_pos rfl] at H; exact H
 clear H
 have H := H1
 clear H1
 replace H := yig H
 obtain ⟨c4, H⟩ := H
 have c4b0 := eq_true c4
 have c4b1 : decide (0 ≤ (l0_1.length : Int)) = true := decide_eq_true c4
 clear c4
 replace H := yig H
 obtain ⟨c5, H⟩ := H
 have c5b0 := eq_true c5
 have c5b1 : decide (((l0_1.length : Int) : Int).toNat ≤ 35184372088832) = true := decide_eq_true c5
 clear c5
 obtain ⟨y389, hy389⟩ : ∃ y_ : List Int, y_ = (List.replicate ((l0_1.length : Int) : Int).toNat 0) := ⟨_, rfl⟩
 replace H : (impl_StartMasks.l0 k y389 l0_1 (l0_1.length : Int) 0 a0_0 l0_1 l0_2) = some r := by first | (rw [hy389]; with_reducible exact H) | (have H2_ := (Option.bind_some _ _).symm.trans H; rw [hy389]; with_reducible exact H2_) | (have H2_ := (Option.bind_some _ _).symm.trans H; with_reducible exact H2_) | with_reducible exact H | (rw [hy389]; exact H) | exact H
 have Ny389 := yam hy389
 clear hy389
 have H' := yam H
 clear H
 go_enter Try.func43, Try.ntmps43
 go_wp2_with (first | (refine ybe 1 #[.int .i64 a0_0, .slice A0_1 l0_1.length c0_1, .slice A0_2 l0_2.length c0_2] 30 ?_; intro gb387 hg w6 hbox hb; have n0_ := yam (below_step (yez HB.out) hb); have n1_ := yam (hbox); have n2_ := yam ((by rw [hg]; exact (below_size (yez HB.out)) : w.heap.size ≤ gb387)); have n3_ := n2_; clear HB; have HB := n0_; have BK387 := n1_; have GW387 := n2_; have GE387 := n3_; clear n0_ n1_ n2_ n3_; clear hb hbox hg; obtain ⟨hcz7_0, hcz7_1, hcz7_2, hfz7_0, hfz7_1, hfz7_2⟩ := ybc BK387.out) | (refine goesL_ (some 7) rfl rfl Try.func36 (by kernel_rfl) rfl #[.agg #[.int .i64 a0_0, .slice A0_1 l0_1.length c0_1, .slice A0_2 l0_2.length c0_2]] rfl ymd ?_; (with_reducible refine (impl_PuzzleValid.calls k a0_0 _ _ l0_1 _ _ l0_2 true _ ?side1 ?side2 ?side3 ?side4 A2.out).mono ?_); (case side1 => exact Kd.Cz ((Kd.C_below HR0_1.out HB.out))); (case side2 => exact HC0_1.out); (case side3 => exact Kd.Cz ((Kd.C_below HR0_2.out HB.out))); (case side4 => exact HC0_2.out); rintro e w8 ⟨rfl, hb⟩; refine ⟨_, rfl, ?_⟩; replace BK387 := yam (blk_below (g := gb387) (o := .cells #[.int .i64 a0_0, .slice A0_1 l0_1.length c0_1, .slice A0_2 l0_2.length c0_2] 30 (0, 0)) (ybz BK387.out) hb); replace HB := yam (below_step yhb hb); (try clear hb); (try clear hb2); (try clear hk); (try clear hi); obtain ⟨hcz9_0, hcz9_1, hcz9_2, hfz9_0, hfz9_1, hfz9_2⟩ := ybc BK387.out) | ((with_reducible refine gate_dst (N := 12) rfl ?_); refine Kd.R_make (Kd.int .i64) _ 3 rfl (N := 12) rfl 22 _ _ rfl (l0_1.length : Int) rfl rfl Try.underlying22 (.int .i64 0) 8 info3 rfl (by decide) (by omega) 0 (ok := fun _ => True) (okp := fun _ => True) rfl (fun _ hk => hk) trivial (ydt) (Nat.le_trans (Nat.mul_le_mul_right _ (ydt : (l0_1.length : Int).toNat ≤ 35184372088832)) (by omega)) (Below.refl _ _) (Nat.le_refl _) ?_; intro v390 w10 ho11 hb hg_ hnew_; clear hg_ hnew_; (first | rw [← Ny389.out] at ho11 | (simp only [Int.reduceToNat] at ho11; rw [← Ny389.out] at ho11)); have HO391 := yam (Kd.R_lower ho11 (below_size yhb)); replace BK387 := yam (blk_below (g := gb387) (o := .cells #[.int .i64 a0_0, .slice A0_1 l0_1.length c0_1, .slice A0_2 l0_2.length c0_2] 30 (0, 0)) (ybz BK387.out) hb); replace HB := yam (below_step yhb hb); clear hb ho11; obtain ⟨hcz12_0, hcz12_1, hcz12_2, hfz12_0, hfz12_1, hfz12_2⟩ := ybc BK387.out))
 go_loopg [16] k (fun kq v16 w' => ∃ (x3_1 : List Int) (x16_1 : Int), v16 = .int .i64 x16_1 ∧ Aside0 (impl_StartMasks.l0 kq x3_1 l0_1 (l0_1.length : Int) x16_1 a0_0 l0_1 l0_2 = some r) ∧ Aside0 (kq ≤ k) ∧ Aside0 (Kd.R (Kd.int .i64) 3 w' w.heap.size (fun _ => True) v390 x3_1) ∧ Aside0 (w'.heap[gb387]? = some (.cells #[.int .i64 a0_0, (.slice A0_1 l0_1.length c0_1), (.slice A0_2 l0_2.length c0_2)] 30 (0, 0))) ∧ Aside0 (Below w.heap.size w w'))
 case atStart => exact ⟨(y389), (0), yeq, H', ⟨Nat.le_refl _⟩, ⟨yka HO391.out⟩, ⟨by (with_reducible repeat (first | refine ybn ?_ _ | refine ybd ?_ | refine yba ?_ _)); exact BK387.out⟩, ⟨yhb⟩⟩
 case round =>
  clear H'
  try clear p2
  try clear c3
  try clear c4
  try clear c4b0
  try clear c4b1
  try clear c5
  try clear c5b0
  try clear c5b1
  try clear hcz12_0
  try clear hcz12_1
  try clear hcz12_2
  try clear hcz7_0
  try clear hcz7_1
  try clear hcz7_2
  try clear hcz9_0
  try clear hcz9_1
  try clear hcz9_2
  try clear hfz12_0
  try clear hfz12_1
  try clear hfz12_2
  try clear hfz7_0
  try clear hfz7_1
  try clear hfz7_2
  try clear hfz9_0
  try clear hfz9_1
  try clear hfz9_2
  obtain ⟨x3_1, x16_1, rfl, HA, HK1, HO_3, BK387, HB⟩ := hrel
  cases gk with
  | zero => exact absurd HA.out (by simp [impl_StartMasks.l0])
  | succ k1 =>
   have H := HA.out
   clear HA
   simp only [impl_StartMasks.l0] at H
   by_cases c13 : x16_1 < (l0_1.length : Int)
   rotate_left
   ·rw [if_neg c13] at H
    have c13b0 : decide (x16_1 < (l0_1.length : Int)) = false := decide_eq_false c13
    clear c13
    obtain rfl := Option.some.inj H
    go_wp2
    go_ret
    exact ⟨_, yer, yka HO_3.out, yhb⟩
   rw [if_pos c13] at H
   have c13b0 : decide (x16_1 < (l0_1.length : Int)) = true := decide_eq_true c13
   clear c13
   replace H := yif H
   obtain ⟨c14b0, H⟩ := H
   replace H := yif H
   obtain ⟨c15b0, H⟩ := H
   replace H := Option.bind_eq_some_iff.mp H
   obtain ⟨t393, A160, H⟩ := H
   try dsimp only at H
   have A16 := yam A160
   clear A160
   replace H := yif H
   obtain ⟨c17b0, H⟩ := H
   obtain ⟨y394, hy394⟩ : ∃ y_ : List Int, y_ = (x3_1.set (x16_1 : Int).toNat t393) := ⟨_, rfl⟩
   replace H : (if (rd l0_1 x16_1) > 0 then (if 0 ≤ (rd l0_1 x16_1) then (impl_StartMasks.l0 k1 (y394.set (x16_1 : Int).toNat (shl .i64 1 (rd l0_1 x16_1))) l0_1 (l0_1.length : Int) (wrap64 (x16_1 + 1)) a0_0 l0_1 l0_2) else (none)) else (impl_StartMasks.l0 k1 y394 l0_1 (l0_1.length : Int) (wrap64 (x16_1 + 1)) a0_0 l0_1 l0_2)) = some r := by first | (rw [hy394]; with_reducible exact H) | (have H2_ := (Option.bind_some _ _).symm.trans H; rw [hy394]; with_reducible exact H2_) | (have H2_ := (Option.bind_some _ _).symm.trans H; with_reducible exact H2_) | with_reducible exact H | (rw [hy394]; exact H) | exact H
   have Ny394 := yam hy394
   clear hy394
   by_cases c19 : (rd l0_1 x16_1) > 0
   rotate_left
   ·rw [if_neg c19] at H
    have c19b0 : decide (0 < (rd l0_1 x16_1)) = false := decide_eq_false c19
    clear c19
    have H' := yam H
    clear H
    have p392 : 0 ≤ (x16_1 : Int) := ydt
    have q392 : x16_1 < (l0_1.length : Int) := ydt
    obtain ⟨ad392, e392, hx392_0⟩ := Kd.at_int HR0_1.out x16_1 p392 q392
    cases e392
    replace hx392_0 := ybx HB.out hx392_0
    replace p392 := eq_true p392
    replace q392 := eq_true q392
    obtain ⟨hcz28_0, hcz28_1, hcz28_2, hfz28_0, hfz28_1, hfz28_2⟩ := ybc BK387.out
    go_wp2_with (first | (refine goesL_ (some 25) rfl rfl Try.func73 (by kernel_rfl) rfl #[.int .i64 a0_0] rfl ymd ?_; (with_reducible refine (impl_allValues.calls a0_0 t393 _ A16.out).mono ?_); rintro e w' ⟨rfl, ⟨nd, rfl⟩⟩; refine ⟨_, rfl, ?_⟩; (try (rw [drewN_self wr]; generalize hq_ : World.drewN wr _ = wr; replace HO_3 : Aside0 (Kd.R (Kd.int .i64) 3 wr w.heap.size (fun _ => True) v390 x3_1) := ⟨by rw [← hq_]; exact (Kd.Yz HO_3.out)⟩; replace BK387 : Aside0 (wr.heap[gb387]? = some (.cells #[.int .i64 a0_0, .slice (some ad392) l0_1.length c0_1, .slice A0_2 l0_2.length c0_2] 30 (0, 0))) := ⟨by rw [← hq_]; exact (ybz BK387.out)⟩; replace HB : Aside0 (Below w.heap.size w wr) := ⟨by rw [← hq_]; exact yhb⟩; clear hq_)); have p18 : 0 ≤ (x16_1 : Int) := ydt; have q18 : (x16_1 : Int) < ((x3_1.length : Int) : Int) := ydt; obtain ⟨go18, co18, eo18, gb18, gl18, cl18, HG18⟩ := Kd.R_form HO_3.out (by omega); (first | cases eo18 | (injection eo18 with ea_ en_ ec_; (first | subst ea_ | (injection ea_ with ea_; subst ea_)); subst ec_; clear en_)); have GB18 := yam gb18; have GG18 := yam HG18; clear gb18 gl18 HG18; obtain ⟨hx18_0, hf18_0⟩ := Kd.R_celln 0 HO_3.out (x16_1 : Int) p18 q18; replace p18 := eq_true p18; replace q18 := eq_true q18; obtain ⟨hy29_, hz29_⟩ := Kd.R_celln 0 HO_3.out (x16_1 : Int) (ydt) (ydt); have HP29 := Kd.R_putg HO_3.out (x16_1 : Int) t393) | ((with_reducible refine gate_store (t := 3) (p := 26) rfl ?_); refine store_event (t := 3) (p := 26) (v := ?vo_w30) (w1 := (wr.setCell ⟨go18, (x16_1 : Int).toNat, none⟩ (.int .i64 t393))) ?hg ?ho ?hn ?hr ?_; (case ho => rfl); (case hg => rfl); (case hn => rfl); (case hr => first | (go_simp; done) | (go_simp; rfl)); intro w30 hw; have hg : wr.grownBy w30 (some go18) := (by rw [hw]; exact HP29.2); have hp_ : Kd.R (Kd.int .i64) 3 w30 w.heap.size (fun _ => True) (.slice (some ⟨go18, 0, none⟩) x3_1.length co18) y394 := (by rw [hw, Ny394.out]; exact HP29.1); clear HP29; replace BK387 := yam (blk_grown (g := gb387) (o := .cells #[.int .i64 a0_0, .slice (some ad392) l0_1.length c0_1, .slice A0_2 l0_2.length c0_2] 30 (0, 0)) (ybz BK387.out) hg (Kd.R_ne HO_3.out BK387.out (by decide))); replace HO_3 := yam (hp_); replace HB := yam ((by rw [hw]; exact below_set (HB.out) GB18.out : Below w.heap.size w w30)); clear hg hw hp_))
    go_roundg k1
    case measure => have := HK1.out; omega
    case rel => exact ⟨(y394), (wrap64 (x16_1 + 1)), yeq, H', ⟨by have := HK1.out; omega⟩, ⟨yka HO_3.out⟩, ⟨by (with_reducible repeat (first | refine ybn ?_ _ | refine ybd ?_ | refine yba ?_ _)); exact BK387.out⟩, ⟨yhb⟩⟩
   rw [if_pos c19] at H
   have c19b0 : decide (0 < (rd l0_1 x16_1)) = true := decide_eq_true c19
   clear c19
   replace H := yig H
   obtain ⟨c20, H⟩ := H
   have c20b0 := eq_true c20
   have c20b1 : decide (0 ≤ (rd l0_1 x16_1)) = true := decide_eq_true c20
   clear c20
   obtain ⟨ji21, hji21⟩ : ∃ j_ : Int, (shl .i64 1 (rd l0_1 x16_1)) = j_ := ⟨_, rfl⟩
   replace H : (impl_StartMasks.l0 k1 (y394.set (x16_1 : Int).toNat (ji21)) l0_1 (l0_1.length : Int) (wrap64 (x16_1 + 1)) a0_0 l0_1 l0_2) = some r := by first | (rw [hji21] at H; exact H) | (simp only [hji21] at H ⊢; exact H)
   (try rw [hji21] at A16)
   have hji21_ : (IntKind.i64.wrap (1 * 2 ^ min (rd l0_1 x16_1).toNat 64)) = ji21 := hji21
   have hji21z : (rd l0_1 x16_1) ≤ 64 → (IntKind.i64.wrap (1 * 2 ^ (rd l0_1 x16_1).toNat)) = ji21 := shl_small hji21
   have hji21u : (IntKind.i64.wrap (2 ^ min (rd l0_1 x16_1).toNat 64)) = ji21 := by have h_ := hji21_; rw [Int.one_mul] at h_; exact h_
   have hji21v : (rd l0_1 x16_1) ≤ 64 → (IntKind.i64.wrap (2 ^ (rd l0_1 x16_1).toNat)) = ji21 := fun hle_ => by have h_ := hji21z hle_; rw [Int.one_mul] at h_; exact h_
   have hji21y : (wrap64 (1 * 2 ^ min (rd l0_1 x16_1).toNat 64)) = ji21 := (i64_w _).symm.trans hji21_
   have hji21x : (rd l0_1 x16_1) ≤ 64 → (wrap64 (1 * 2 ^ (rd l0_1 x16_1).toNat)) = ji21 := fun h_ => (i64_w _).symm.trans (hji21z h_)
   obtain ⟨y395, hy395⟩ : ∃ y_ : List Int, y_ = (y394.set (x16_1 : Int).toNat (ji21)) := ⟨_, rfl⟩
   replace H : (impl_StartMasks.l0 k1 y395 l0_1 (l0_1.length : Int) (wrap64 (x16_1 + 1)) a0_0 l0_1 l0_2) = some r := by first | (rw [hy395]; with_reducible exact H) | (have H2_ := (Option.bind_some _ _).symm.trans H; rw [hy395]; with_reducible exact H2_) | (have H2_ := (Option.bind_some _ _).symm.trans H; with_reducible exact H2_) | with_reducible exact H | (rw [hy395]; exact H) | exact H
   have Ny395 := yam hy395
   clear hy395
   have H' := yam H
   clear H
   have p392 : 0 ≤ (x16_1 : Int) := ydt
   have q392 : x16_1 < (l0_1.length : Int) := ydt
   obtain ⟨ad392, e392, hx392_0⟩ := Kd.at_int HR0_1.out x16_1 p392 q392
   cases e392
   replace hx392_0 := ybx HB.out hx392_0
   replace p392 := eq_true p392
   replace q392 := eq_true q392
   obtain ⟨hcz23_0, hcz23_1, hcz23_2, hfz23_0, hfz23_1, hfz23_2⟩ := ybc BK387.out
   go_wp2_with (first | (refine goesL_ (some 25) rfl rfl Try.func73 (by kernel_rfl) rfl #[.int .i64 a0_0] rfl ymd ?_; (with_reducible refine (impl_allValues.calls a0_0 t393 _ A16.out).mono ?_); rintro e w' ⟨rfl, ⟨nd, rfl⟩⟩; refine ⟨_, rfl, ?_⟩; (try (rw [drewN_self wr]; generalize hq_ : World.drewN wr _ = wr; replace HO_3 : Aside0 (Kd.R (Kd.int .i64) 3 wr w.heap.size (fun _ => True) v390 x3_1) := ⟨by rw [← hq_]; exact (Kd.Yz HO_3.out)⟩; replace BK387 : Aside0 (wr.heap[gb387]? = some (.cells #[.int .i64 a0_0, .slice (some ad392) l0_1.length c0_1, .slice A0_2 l0_2.length c0_2] 30 (0, 0))) := ⟨by rw [← hq_]; exact (ybz BK387.out)⟩; replace HB : Aside0 (Below w.heap.size w wr) := ⟨by rw [← hq_]; exact yhb⟩; clear hq_)); have p18 : 0 ≤ (x16_1 : Int) := ydt; have q18 : (x16_1 : Int) < ((x3_1.length : Int) : Int) := ydt; obtain ⟨go18, co18, eo18, gb18, gl18, cl18, HG18⟩ := Kd.R_form HO_3.out (by omega); (first | cases eo18 | (injection eo18 with ea_ en_ ec_; (first | subst ea_ | (injection ea_ with ea_; subst ea_)); subst ec_; clear en_)); have GB18 := yam gb18; have GG18 := yam HG18; clear gb18 gl18 HG18; obtain ⟨hx18_0, hf18_0⟩ := Kd.R_celln 0 HO_3.out (x16_1 : Int) p18 q18; replace p18 := eq_true p18; replace q18 := eq_true q18; obtain ⟨hy24_, hz24_⟩ := Kd.R_celln 0 HO_3.out (x16_1 : Int) (ydt) (ydt); have HP24 := Kd.R_putg HO_3.out (x16_1 : Int) t393) | ((with_reducible refine gate_store (t := 3) (p := 26) rfl ?_); refine store_event (t := 3) (p := 26) (v := ?vo_w25) (w1 := (wr.setCell ⟨go18, (x16_1 : Int).toNat, none⟩ (.int .i64 t393))) ?hg ?ho ?hn ?hr ?_; (case ho => rfl); (case hg => rfl); (case hn => rfl); (case hr => first | (go_simp; done) | (go_simp; rfl)); intro w25 hw; have hg : wr.grownBy w25 (some go18) := (by rw [hw]; exact HP24.2); have hp_ : Kd.R (Kd.int .i64) 3 w25 w.heap.size (fun _ => True) (.slice (some ⟨go18, 0, none⟩) x3_1.length co18) y394 := (by rw [hw, Ny394.out]; exact HP24.1); clear HP24; replace BK387 := yam (blk_grown (g := gb387) (o := .cells #[.int .i64 a0_0, .slice (some ad392) l0_1.length c0_1, .slice A0_2 l0_2.length c0_2] 30 (0, 0)) (ybz BK387.out) hg (Kd.R_ne HO_3.out BK387.out (by decide))); replace HO_3 := yam (hp_); replace HB := yam ((by rw [hw]; exact below_set (HB.out) GB18.out : Below w.heap.size w w25)); clear hg hw hp_; have p22 : 0 ≤ (x16_1 : Int) := ydt; have q22 : (x16_1 : Int) < ((x3_1.length : Int) : Int) := ydt; obtain ⟨hx22_0, hf22_0⟩ := Kd.R_celln 0 HO_3.out (x16_1 : Int) p22 q22; replace p22 := eq_true p22; replace q22 := eq_true q22; obtain ⟨hy26_, hz26_⟩ := Kd.R_celln 0 HO_3.out (x16_1 : Int) (ydt) (ydt); have HP26 := Kd.R_putg HO_3.out (x16_1 : Int) ji21) | ((with_reducible refine gate_store (t := 3) (p := 33) rfl ?_); refine store_event (t := 3) (p := 33) (v := ?vo_w27) (w1 := (w25.setCell ⟨go18, (x16_1 : Int).toNat, none⟩ (.int .i64 ji21))) ?hg ?ho ?hn ?hr ?_; (case ho => rfl); (case hg => rfl); (case hn => rfl); (case hr => first | (go_simp; done) | (go_simp; rfl)); intro w27 hw; have hg : w25.grownBy w27 (some go18) := (by rw [hw]; exact HP26.2); have hp_ : Kd.R (Kd.int .i64) 3 w27 w.heap.size (fun _ => True) (.slice (some ⟨go18, 0, none⟩) x3_1.length co18) y395 := (by rw [hw, Ny395.out]; exact HP26.1); clear HP26; replace BK387 := yam (blk_grown (g := gb387) (o := .cells #[.int .i64 a0_0, .slice (some ad392) l0_1.length c0_1, .slice A0_2 l0_2.length c0_2] 30 (0, 0)) (ybz BK387.out) hg (Kd.R_ne HO_3.out BK387.out (by decide))); replace HO_3 := yam (hp_); replace HB := yam ((by rw [hw]; exact below_set (HB.out) GB18.out : Below w.heap.size w w27)); clear hg hw hp_))
   go_roundg k1
   case measure => have := HK1.out; omega
   case rel => exact ⟨(y395), (wrap64 (x16_1 + 1)), yeq, H', ⟨by have := HK1.out; omega⟩, ⟨yka HO_3.out⟩, ⟨by (with_reducible repeat (first | refine ybn ?_ _ | refine ybd ?_ | refine yba ?_ _)); exact BK387.out⟩, ⟨yhb⟩⟩
theorem impl_StartMasks.nil (k : Nat) (a0_0 : Int) (A0_1 : Option Addr) (c0_1 : Nat) (l0_1 : List Int) (A0_2 : Option Addr) (c0_2 : Nat) (l0_2 : List S67) (w : World) (hr0_1 : Kd.C (Kd.int .i64) w A0_1 l0_1.length l0_1) (hc0_1 : l0_1.length ≤ c0_1) (hr0_2 : Kd.C k67 w A0_2 l0_2.length l0_2) (hc0_2 : l0_2.length ≤ c0_2) (h : impl_PuzzleValid.f k a0_0 l0_1 l0_2 = some false) :
  Calls Try.prog 43 #[.agg #[.int .i64 a0_0, .slice A0_1 l0_1.length c0_1, .slice A0_2 l0_2.length c0_2]] w fun e w' => e = .returned (.slice none 0 0) ∧ Below w.heap.size w w' := by
 have HF := yam h
 have HR1 := yam hr0_1
 have HC1 := yam hc0_1
 have HR2 := yam hr0_2
 have HC2 := yam hc0_2
 have hu := Try.underlying30
 clear h hr0_1 hc0_1 hr0_2 hc0_2
 go_enter Try.func43, Try.ntmps43
 go_wp2_with (first
  | (refine ybe 1 #[.int .i64 a0_0, .slice A0_1 l0_1.length c0_1, .slice A0_2 l0_2.length c0_2] 30 ?_; intro gP hg w3 hbox hb; have BgP := yam hbox; have HW := yam hb; clear hg hbox hb; have hp0 : w3.cell? ⟨gP, 0, none⟩ = some (.int .i64 a0_0) := (blk_cell BgP.out 0).trans rfl; have hp1 : w3.cell? ⟨gP, 1, none⟩ = some (.slice A0_1 l0_1.length c0_1) := (blk_cell BgP.out 1).trans rfl; have hp2 : w3.cell? ⟨gP, 2, none⟩ = some (.slice A0_2 l0_2.length c0_2) := (blk_cell BgP.out 2).trans rfl)
  | (refine goesL_ (some 7) rfl rfl Try.func36 (by kernel_rfl) rfl #[.agg #[.int .i64 a0_0, .slice A0_1 l0_1.length c0_1, .slice A0_2 l0_2.length c0_2]] rfl yma ?_; (with_reducible refine (impl_PuzzleValid.calls k a0_0 _ _ l0_1 _ _ l0_2 false w3 (Kd.C_below HR1.out HW.out) HC1.out (Kd.C_below HR2.out HW.out) HC2.out HF.out).mono ?_); rintro e w4 ⟨rfl, hb⟩; refine ⟨_, rfl, ?_⟩; have HX := yam (below_step HW.out hb); clear hb hp0 hp1 hp2))
 go_ret
 exact ⟨rfl, HX.out⟩
mutual
def impl_MasksValid.j0 : Nat → List Int → Int → Bool → Option (Bool)
 | 0, _, _, _ => none
 | k + 1, x0, x1, x17 => if x17 = true then (some false) else (impl_MasksValid.l0 k x1 x0 (x0.length : Int) 0)
def impl_MasksValid.l0 : Nat → Int → List Int → Int → Int → Option (Bool)
 | 0, _, _, _, _ => none
 | k + 1, x1, x18, x19, x20 => if x20 < x19 then (if 0 ≤ x20 then (if x20 < (x18.length : Int) then (if (rd x18 x20) < 0 then (some false) else ((impl_allValues.f x1).bind fun t398 => (if (Go.bits .andNot .i64 (rd x18 x20) t398) = 0 then (impl_MasksValid.l0 k x1 x18 x19 (wrap64 (x20 + 1))) else (some false)))) else (none)) else (none)) else (some true)
end
def impl_MasksValid.f (k : Nat) (l0 : List Int) (a1 : Int) : Option (Bool) := (impl_sizeOk.f a1).bind fun t396 => (if t396 = true then (impl_MasksValid.j0 k l0 a1 ((l0.length : Int) != (wrap64 (a1 * a1)))) else (impl_MasksValid.j0 k l0 a1 true))
set_option maxHeartbeats 8000000 in
set_option maxRecDepth 100000 in
theorem impl_MasksValid.calls (k : Nat) (A0 : Option Addr) (c0 : Nat) (l0 : List Int) (a1 : Int) (r : Bool) (w : World) (hr0 : Kd.C (Kd.int .i64) w A0 l0.length l0) (hc0 : l0.length ≤ c0) (h : impl_MasksValid.f k l0 a1 = some r) :
  Calls Try.prog 63 #[.slice A0 l0.length c0, .int .i64 a1] w fun e w' => e = .returned (.bool r) ∧ Drawn0 w w' := by
 have HR0 := yam hr0
 have HC0 := yam hc0
 clear hr0 hc0
 have H : ((impl_sizeOk.f a1).bind fun t396 => (if t396 = true then (impl_MasksValid.j0 k l0 a1 ((l0.length : Int) != (wrap64 (a1 * a1)))) else (impl_MasksValid.j0 k l0 a1 true))) = some r := h
 clear h
 have HC3 := yam H
 clear H
 go_enter Try.func63, Try.ntmps63
 go_upto_region 1 with (fail)
 go_cut [17] (fun v17 wc => ∃ (kq : Nat) (x17_2 : Bool), v17 = .bool x17_2 ∧ Aside0 (impl_MasksValid.j0 kq l0 a1 x17_2 = some r) ∧ Aside0 (kq ≤ k) ∧ Drawn0 w wc)
 case first =>
  have H := HC3.out
  clear HC3
  replace H := Option.bind_eq_some_iff.mp H
  obtain ⟨t396, A40, H⟩ := H
  try dsimp only at H
  have A4 := yam A40
  clear A40
  by_cases c5 : t396 = true
  ·subst c5
   have H1 : (impl_MasksValid.j0 k l0 a1 ((l0.length : Int) != (wrap64 (a1 * a1)))) = some r := by rw [if_pos rfl] at H; exact H
   clear H
   have H := H1
   clear H1
   have H' := yam H
   clear H
   go_wp2_with (first | (refine goesL_ (some 8) rfl rfl Try.func84 (by kernel_rfl) rfl #[.int .i64 a1] rfl ymd ?_; (with_reducible refine (impl_sizeOk.calls a1 true _ A4.out).mono ?_); rintro e w' ⟨rfl, ⟨nd, rfl⟩⟩; refine ⟨_, rfl, ?_⟩))
   go_meet
   case rel => exact ⟨_, (((l0.length : Int) != (wrap64 (a1 * a1)))), yeq, H', ⟨by first | omega | exact Nat.le_refl _⟩, by repeat (first | exact Drawn0.refl _ | apply Drawn0.step)⟩
  replace c5 := Bool.eq_false_iff.mpr c5
  subst c5
  have H1 : (impl_MasksValid.j0 k l0 a1 true) = some r := by rw [if_neg (show ¬ (false = true) by decide)] at H; exact H
  clear H
  have H := H1
  clear H1
  have H' := yam H
  clear H
  go_wp2_with (first | (refine goesL_ (some 8) rfl rfl Try.func84 (by kernel_rfl) rfl #[.int .i64 a1] rfl ymd ?_; (with_reducible refine (impl_sizeOk.calls a1 false _ A4.out).mono ?_); rintro e w' ⟨rfl, ⟨nd, rfl⟩⟩; refine ⟨_, rfl, ?_⟩))
  go_meet
  case rel => exact ⟨_, (true), yeq, H', ⟨by first | omega | exact Nat.le_refl _⟩, by repeat (first | exact Drawn0.refl _ | apply Drawn0.step)⟩
 case rest =>
  clear HC3
  try clear p2
  try clear c5
  obtain ⟨kq, x17_2, rfl, HA, HJ2, ⟨mc2, rfl⟩⟩ := hcut
  cases kq with
  | zero => exact absurd HA.out (by simp [impl_MasksValid.j0])
  | succ kj2 =>
   have H := HA.out
   clear HA
   simp only [impl_MasksValid.j0] at H
   by_cases c6 : x17_2 = true
   ·subst c6
    have H1 : (some false) = some r := by rw [if_pos rfl] at H; exact H
    clear H
    have H := H1
    clear H1
    obtain rfl := Option.some.inj H
    go_wp2
    go_ret
    exact ⟨yeq, by repeat (first | exact Drawn0.refl _ | apply Drawn0.step)⟩
   replace c6 := Bool.eq_false_iff.mpr c6
   subst c6
   have H1 : (impl_MasksValid.l0 kj2 a1 l0 (l0.length : Int) 0) = some r := by rw [if_neg (show ¬ (false = true) by decide)] at H; exact H
   clear H
   have H := H1
   clear H1
   have H' := yam H
   clear H
   go_wp2
   go_loopg [20] kj2 (fun kq v20 w' => ∃ (x20_2 : Int), v20 = .int .i64 x20_2 ∧ Aside0 (impl_MasksValid.l0 kq a1 l0 (l0.length : Int) x20_2 = some r) ∧ Aside0 (kq ≤ kj2) ∧ Drawn0 w w')
   case atStart => exact ⟨(0), yeq, H', ⟨Nat.le_refl _⟩, by repeat (first | exact Drawn0.refl _ | apply Drawn0.step)⟩
   case round =>
    clear H'
    try clear c2
    try clear p2
    try clear c5
    try clear c6
    try clear p6
    try clear p2
    obtain ⟨x20_2, rfl, HA, HK2, ⟨m2, rfl⟩⟩ := hrel
    cases gk with
    | zero => exact absurd HA.out (by simp [impl_MasksValid.l0])
    | succ k2 =>
     have H := HA.out
     clear HA
     simp only [impl_MasksValid.l0] at H
     by_cases c7 : x20_2 < (l0.length : Int)
     rotate_left
     ·rw [if_neg c7] at H
      have c7b0 : decide (x20_2 < (l0.length : Int)) = false := decide_eq_false c7
      clear c7
      obtain rfl := Option.some.inj H
      go_wp2
      go_ret
      exact ⟨yeq, by repeat (first | exact Drawn0.refl _ | apply Drawn0.step)⟩

     rw [if_pos c7] at H
     have c7b0 : decide (x20_2 < (l0.length : Int)) = true := decide_eq_true c7
     clear c7
     replace H := yif H
     obtain ⟨c8b0, H⟩ := H
     replace H := yif H
     obtain ⟨c9b0, H⟩ := H
     by_cases c10 : (rd l0 x20_2) < 0
     ·rw [if_pos c10] at H
      have c10b0 : decide ((rd l0 x20_2) < 0) = true := decide_eq_true c10
      clear c10
      obtain rfl := Option.some.inj H
      have p397 : 0 ≤ (x20_2 : Int) := ydt
      have q397 : x20_2 < (l0.length : Int) := ydt
      obtain ⟨ad397, e397, hx397_0⟩ := Kd.at_int HR0.out x20_2 p397 q397
      cases e397
      replace p397 := eq_true p397
      replace q397 := eq_true q397
      go_wp2
      go_ret
      exact ⟨yeq, by repeat (first | exact Drawn0.refl _ | apply Drawn0.step)⟩
     rw [if_neg c10] at H
     have c10b0 : decide ((rd l0 x20_2) < 0) = false := decide_eq_false c10
     clear c10
     replace H := Option.bind_eq_some_iff.mp H
     obtain ⟨t398, A110, H⟩ := H
     try dsimp only at H
     have A11 := yam A110
     clear A110
     by_cases c12 : (Go.bits .andNot .i64 (rd l0 x20_2) t398) = 0
     rotate_left
     ·rw [if_neg c12] at H
      have c12b0 : ((Go.bits .andNot .i64 (rd l0 x20_2) t398) == 0) = false := beq_eq_false_iff_ne.mpr c12
      have c12b1 : ((Go.bits .andNot .i64 (rd l0 x20_2) t398) != 0) = true := bne_iff_ne.mpr c12
      obtain rfl := Option.some.inj H
      have p397 : 0 ≤ (x20_2 : Int) := ydt
      have q397 : x20_2 < (l0.length : Int) := ydt
      obtain ⟨ad397, e397, hx397_0⟩ := Kd.at_int HR0.out x20_2 p397 q397
      cases e397
      replace p397 := eq_true p397
      replace q397 := eq_true q397
      go_wp2_with (first | (go_at_call 73; (with_reducible refine (impl_allValues.calls a1 t398 _ A11.out).mono ?_); rintro e w' ⟨rfl, ⟨nd, rfl⟩⟩))
      go_ret
      exact ⟨yeq, by repeat (first | exact Drawn0.refl _ | apply Drawn0.step)⟩
     rw [if_pos c12] at H
     have c12b0 : ((Go.bits .andNot .i64 (rd l0 x20_2) t398) == 0) = true := beq_iff_eq.mpr c12
     have c12b1 : ((Go.bits .andNot .i64 (rd l0 x20_2) t398) != 0) = false := bne_eq_false_iff_eq.mpr c12
     clear c12
     have H' := yam H
     clear H
     have p397 : 0 ≤ (x20_2 : Int) := ydt
     have q397 : x20_2 < (l0.length : Int) := ydt
     obtain ⟨ad397, e397, hx397_0⟩ := Kd.at_int HR0.out x20_2 p397 q397
     cases e397
     replace p397 := eq_true p397
     replace q397 := eq_true q397
     go_wp2_with (first | (go_at_call 73; (with_reducible refine (impl_allValues.calls a1 t398 _ A11.out).mono ?_); rintro e w' ⟨rfl, ⟨nd, rfl⟩⟩))
     go_roundg k2
     case measure => have := HJ2.out; have := HK2.out; omega
     case rel => exact ⟨(wrap64 (x20_2 + 1)), yeq, H', ⟨by have := HJ2.out; have := HK2.out; omega⟩, by repeat (first | exact Drawn0.refl _ | apply Drawn0.step)⟩
def slices_Clone_int_int.f (l0 : List Int) : Option (List Int) := if l0.length < 17592186044416 then some l0 else none
set_option maxHeartbeats 8000000 in
set_option maxRecDepth 100000 in
theorem slices_Clone_int_int.calls (A0 : Option Addr) (c0 : Nat) (l0 : List Int) (r : List Int) (w : World) (hr0 : Kd.C (Kd.int .i64) w A0 l0.length l0) (hc0 : l0.length ≤ c0) (h : slices_Clone_int_int.f l0 = some r) :
  Calls Try.prog 64 #[.slice A0 l0.length c0] w fun e w' => ∃ v0_ : Value, e = .returned (v0_) ∧ Kd.R (Kd.int .i64) 3 w' w.heap.size (fun _ => True) v0_ r ∧ Below w.heap.size w w' := by
 have hcl : l0 = r ∧ l0.length < 17592186044416 := by
  unfold slices_Clone_int_int.f at h
  by_cases hc : l0.length < 17592186044416
  ·rw [if_pos hc] at h; exact ⟨Option.some.inj h, hc⟩
  ·rw [if_neg hc] at h; exact absurd h (by simp)
 clear h
 obtain ⟨rfl, hlim⟩ := hcl
 have HR0 := yam hr0
 have HC0 := yam hc0
 have HLM := yam hlim
 clear hr0 hc0 hlim
 have HB := yam (Below.refl w.heap.size w)
 have hnil := fun (W : World) (A : Option Addr) (n c : Nat) => Lib.run_eql_slice_nil (P := Try.prog) W 22 3 A n c 0 0 Try.underlying22
 cases A0 with
 | none =>
  have hl : l0 = [] := by
   cases l0 with
   | nil => rfl
   | cons x t =>
    obtain ⟨ad, e, _⟩ := Kd.at_int HR0.out 0 (by decide) (by simp only [List.length_cons]; omega)
    cases e
  subst hl
  go_enter Try.func64, Try.ntmps64
  go_wp2
  go_ret
  exact ⟨.slice none 0 0, rfl, Kd.R_nil _ _ _ _ _, Below.refl _ _⟩
 | some ad =>
  obtain ⟨y361, hy361⟩ : ∃ y_ : List Int, y_ = (([] : List Int)) := ⟨_, rfl⟩
  have Ny361 := yam hy361
  clear hy361
  go_enter Try.func64, Try.ntmps64
  go_wp2_with (first | ((with_reducible refine gate_dst (N := 5) rfl ?_); refine Kd.R_lit (Kd.int .i64) _ 3 ?hg (N := 5) ?hd (xs := ([] : List Int)) (inner := []) (ok := fun _ => True) (okp := fun _ => True) ?hr ?hp (fun _ hk => hk) trivial (Below.refl _ _) (Nat.le_refl _) (by simp) ?_; (case hd => rfl); (case hg => rfl); (case hr => first | (go_simp; done) | (go_simp; rfl)); (case hp => exact (Reps.none _ _)); intro v362 w3 ho4 hb hg_ hnew_; clear hg_ hnew_; rw [← Ny361.out] at ho4; have HO363 := yam (Kd.R_lower ho4 (below_size (by repeat (first | (with_reducible first | exact HB.out | apply below_alloc | apply pw_below_drewN | apply below_drew1) | exact HB.out)))); replace HB := yam (below_step (by repeat (first | (with_reducible first | exact HB.out | apply below_alloc | apply pw_below_drewN | apply below_drew1) | exact HB.out)) hb); clear hb ho4) | ((with_reducible refine gate_builtin (b := .append) (xs := #[.tmp 5, .tmp 6]) rfl ?_); at_builtin; refine Kd.R_append_rows (Kd.int .i64) (w0 := w) w.heap.size rfl (.tmp 5) (.tmp 6) 22 3 (.int .i64 0) 8 rfl Try.underlying22 info3 rfl (by decide) (by omega) v362 y361 l0 _ _ _ (fun _ => True) (fun _ => False) rfl rfl ?aO ?aR (fun _ _ h => h) (fun _ h => h.elim) ?aF ?aB ?aS ?aL ?_; (case aR => repeat (first | exact (Kd.C_below HR0.out HB.out) | (with_reducible refine Kd.C_alloc ?_ _) | (with_reducible refine Kd.C_drewN ?_ _) | (with_reducible refine Kd.C_drew ?_))); (case aB => exact (by repeat (first | (with_reducible first | exact HB.out | apply below_alloc | apply pw_below_drewN | apply below_drew1) | exact HB.out))); (case aF => exact (fun _ _ => trivial)); (case aO => exact (by (with_reducible repeat (first | apply Kd.R_alloc | apply Kd.R_drewN | apply Kd.R_drew)); exact HO363.out)); (case aS => exact (below_size (by repeat (first | (with_reducible first | exact HB.out | apply below_alloc | apply pw_below_drewN | apply below_drew1) | exact HB.out)))); (case aL => have := HLM.out; rw [Ny361.out]; simp only [List.length_nil]; omega); intro v365 w5 ho hb hg hat; rw [Ny361.out, List.nil_append] at ho; replace HB := yam (hb); have HO366 := yam (ho); clear HO363; clear ho hb hg hat))
  go_ret
  exact ⟨_, rfl, by (with_reducible repeat (first | apply Kd.R_alloc | apply Kd.R_drewN | apply Kd.R_drew)); exact HO366.out, by repeat (first | (with_reducible first | exact HB.out | apply below_alloc | apply pw_below_drewN | apply below_drew1) | exact HB.out)⟩
def impl_onlyValue.l0 : Nat → Int → Int → Option (Int)
 | 0, _, _ => none
 | k + 1, x0, x3 => if x3 ≤ 4 then (if 0 ≤ x3 then (if x0 = (shl .i64 1 x3) then (some x3) else (impl_onlyValue.l0 k x0 (wrap64 (x3 + 1)))) else (none)) else (some 0)
def impl_onlyValue.f (k : Nat) (a0 : Int) : Option (Int) := impl_onlyValue.l0 k a0 1
theorem impl_onlyValue.mono_l : ∀ k, (∀ y0 y1, LeO (impl_onlyValue.l0 k y0 y1) (impl_onlyValue.l0 (k + 1) y0 y1))
 | 0 => fun _ _ r h => by simp [impl_onlyValue.l0] at h
 | k + 1 => by
  have ih0 := impl_onlyValue.mono_l k
  ·intro y0 y1
   unfold impl_onlyValue.l0
   repeat' first
   | (with_reducible exact ih0 _ _)
   | (with_reducible exact LeO.refl _)
   | (with_reducible exact LeO.none _)
   | (with_reducible refine LeO.ite ?_ ?_)
   | (with_reducible refine LeO.bind ?_ (fun _ => ?_))
   | exact ih0 _ _
   | exact LeO.none _
   | refine LeO.ite ?_ ?_
   | refine LeO.bind ?_ (fun _ => ?_)
theorem impl_onlyValue.mono : ∀ a0 k, LeO (impl_onlyValue.f k a0) (impl_onlyValue.f (k + 1) a0) := by
 intro a0 k
 have ih0 := impl_onlyValue.mono_l k
 unfold impl_onlyValue.f
 repeat' first
   | (with_reducible exact ih0 _ _)
   | (with_reducible exact LeO.refl _)
   | (with_reducible exact LeO.none _)
   | (with_reducible refine LeO.ite ?_ ?_)
   | (with_reducible refine LeO.bind ?_ (fun _ => ?_))
   | exact ih0 _ _
   | exact LeO.none _
   | refine LeO.ite ?_ ?_
   | refine LeO.bind ?_ (fun _ => ?_)
set_option maxHeartbeats 8000000 in
set_option maxRecDepth 100000 in
theorem impl_onlyValue.calls (k : Nat) (a0 : Int) (r : Int) (w : World) (h : impl_onlyValue.f k a0 = some r) :
  Calls Try.prog 79 #[.int .i64 a0] w fun e w' => e = .returned (.int .i64 r) ∧ Drawn0 w w' := by
 have H : (impl_onlyValue.l0 k a0 1) = some r := h
 clear h
 have H' := yam H
 clear H
 go_enter Try.func79, Try.ntmps79
 go_wp2
 go_loopg [3] k (fun kq v3 w' => ∃ (x3_1 : Int), v3 = .int .i64 x3_1 ∧ Aside0 (impl_onlyValue.l0 kq a0 x3_1 = some r) ∧ Aside0 (kq ≤ k) ∧ Drawn0 w w')
 case atStart => exact ⟨(1), yeq, H', ⟨Nat.le_refl _⟩, by repeat (first | exact Drawn0.refl _ | apply Drawn0.step)⟩
 case round =>
  clear H'
  obtain ⟨x3_1, rfl, HA, HK1, ⟨m1, rfl⟩⟩ := hrel
  cases gk with
  | zero => exact absurd HA.out (by simp [impl_onlyValue.l0])
  | succ k1 =>
   have H := HA.out
   clear HA
   simp only [impl_onlyValue.l0] at H
   by_cases c2 : x3_1 ≤ 4
   rotate_left
   ·rw [if_neg c2] at H
    have c2b0 : decide (x3_1 ≤ 4) = false := decide_eq_false c2
    clear c2
    obtain rfl := Option.some.inj H
    go_wp2
    go_ret
    exact ⟨yeq, by repeat (first | exact Drawn0.refl _ | apply Drawn0.step)⟩

   rw [if_pos c2] at H
   have c2b0 : decide (x3_1 ≤ 4) = true := decide_eq_true c2
   clear c2
   replace H := yig H
   obtain ⟨c3, H⟩ := H
   have c3b0 := eq_true c3
   have c3b1 : decide (0 ≤ x3_1) = true := decide_eq_true c3
   clear c3
   obtain ⟨ji4, hji4⟩ : ∃ j_ : Int, (shl .i64 1 x3_1) = j_ := ⟨_, rfl⟩
   replace H : (if a0 = (ji4) then (some x3_1) else (impl_onlyValue.l0 k1 a0 (wrap64 (x3_1 + 1)))) = some r := by first | (rw [hji4] at H; exact H) | (simp only [hji4] at H ⊢; exact H)
   have hji4_ : (IntKind.i64.wrap (1 * 2 ^ min x3_1.toNat 64)) = ji4 := hji4
   have hji4z : x3_1 ≤ 64 → (IntKind.i64.wrap (1 * 2 ^ x3_1.toNat)) = ji4 := shl_small hji4
   have hji4u : (IntKind.i64.wrap (2 ^ min x3_1.toNat 64)) = ji4 := by have h_ := hji4_; rw [Int.one_mul] at h_; exact h_
   have hji4v : x3_1 ≤ 64 → (IntKind.i64.wrap (2 ^ x3_1.toNat)) = ji4 := fun hle_ => by have h_ := hji4z hle_; rw [Int.one_mul] at h_; exact h_
   have hji4y : (wrap64 (1 * 2 ^ min x3_1.toNat 64)) = ji4 := (i64_w _).symm.trans hji4_
   have hji4x : x3_1 ≤ 64 → (wrap64 (1 * 2 ^ x3_1.toNat)) = ji4 := fun h_ => (i64_w _).symm.trans (hji4z h_)
   by_cases c5 : a0 = (ji4)
   ·rw [if_pos c5] at H
    have c5b0 : (a0 == (ji4)) = true := beq_iff_eq.mpr c5
    have c5b1 : (a0 != (ji4)) = false := bne_eq_false_iff_eq.mpr c5
    clear c5
    obtain rfl := Option.some.inj H
    go_wp2
    go_ret
    exact ⟨by first | rfl | (simp; done) | (simp only [← hji4] <;> (first | rfl | simp)) | (simp [*]; done), by repeat (first | exact Drawn0.refl _ | apply Drawn0.step)⟩
   rw [if_neg c5] at H
   have c5b0 : (a0 == (ji4)) = false := beq_eq_false_iff_ne.mpr c5
   have c5b1 : (a0 != (ji4)) = true := bne_iff_ne.mpr c5
   have H' := yam H
   clear H
   go_wp2
   go_roundg k1
   case measure => have := HK1.out; omega
   case rel => exact ⟨(wrap64 (x3_1 + 1)), yeq, H', ⟨by have := HK1.out; omega⟩, by repeat (first | exact Drawn0.refl _ | apply Drawn0.step)⟩
mutual
def impl_NarrowSingles.l0 : Nat → Int → List Int → List Int → Int → Int → Option (List Int)
 | 0, _, _, _, _, _ => none
 | k + 1, x1, x5, x17, x18, x19 => if x19 < x18 then (if 0 ≤ x19 then (if x19 < (x17.length : Int) then ((impl_onlyValue.f k (rd x17 x19)).bind fun t404 => (if t404 = 0 then (impl_NarrowSingles.l0 k x1 x5 x17 x18 (wrap64 (x19 + 1))) else (impl_NarrowSingles.l1 k x1 x5 x19 (rd x17 x19) x17 x18 x19 x1 0))) else (none)) else (none)) else (some x5)
def impl_NarrowSingles.l1 : Nat → Int → List Int → Int → Int → List Int → Int → Int → Int → Int → Option (List Int)
 | 0, _, _, _, _, _, _, _, _, _ => none
 | k + 1, x1, x5, x6, x7, x17, x18, x19, x27, x28 => if x28 < x27 then (if x1 = 0 then (none) else ((some (([wrap64 ((wrap64 ((wrap64 (Int.tdiv x6 x1)) * x1)) + x28), wrap64 ((wrap64 (x28 * x1)) + (Int.tmod x6 x1))] : List Int) : List Int)).bind fun y405 => (impl_NarrowSingles.l2 k x1 x5 x6 x7 x17 x18 x19 x27 x28 y405 (y405.length : Int) 0))) else (impl_NarrowSingles.l0 k x1 x5 x17 x18 (wrap64 (x19 + 1)))
def impl_NarrowSingles.l2 : Nat → Int → List Int → Int → Int → List Int → Int → Int → Int → Int → List Int → Int → Int → Option (List Int)
 | 0, _, _, _, _, _, _, _, _, _, _, _, _ => none
 | k + 1, x1, x5, x6, x7, x17, x18, x19, x27, x28, x45, x46, x47 => if x47 < x46 then (if 0 ≤ x47 then (if x47 < (x45.length : Int) then (if (rd x45 x47) = x6 then (impl_NarrowSingles.l2 k x1 x5 x6 x7 x17 x18 x19 x27 x28 x45 x46 (wrap64 (x47 + 1))) else (if 0 ≤ (rd x45 x47) then (if (rd x45 x47) < (x5.length : Int) then (impl_NarrowSingles.l2 k x1 (x5.set ((rd x45 x47) : Int).toNat (Go.bits .andNot .i64 (rd x5 (rd x45 x47)) x7)) x6 x7 x17 x18 x19 x27 x28 x45 x46 (wrap64 (x47 + 1))) else (none)) else (none))) else (none)) else (none)) else (impl_NarrowSingles.l1 k x1 x5 x6 x7 x17 x18 x19 x27 (wrap64 (x28 + 1)))
end
def impl_NarrowSingles.f (k : Nat) (l0 : List Int) (a1 : Int) : Option (List Int) := (impl_MasksValid.f k l0 a1).bind fun t399 => (if t399 = true then ((slices_Clone_int_int.f l0).bind fun t400 => (impl_NarrowSingles.l0 k a1 t400 l0 (l0.length : Int) 0)) else (some ([] : List Int)))
def impl_NarrowSingles.T11 : Bool × List (List Nat × List Nat) := (true, [([], []), ([], []), ([0, 1], [0, 1]), ([], []), ([2, 3], [2, 3]), ([], []), ([4, 5], [4, 5]), ([], []), ([], []), ([7, 8], [7, 8]), ([], []), ([], []), ([10, 11], [10, 11]), ([9, 12], [9, 12]), ([6, 13], [6, 13]), ([14], [14]), ([], [])])
def impl_NarrowSingles.B11 : List Nat := [0, 0, 3, 0, 15, 0, 63, 0, 0, 384, 0, 0, 3072, 8064, 16383, 32767, 0]
theorem impl_NarrowSingles.tab11 : rtab .any (opsOf Try.f58 11) = impl_NarrowSingles.T11 := by kernel_rfl
theorem impl_NarrowSingles.bits11 : waitsOk impl_NarrowSingles.T11.2 impl_NarrowSingles.B11 = true := by kernel_rfl
set_option maxHeartbeats 8000000 in
set_option maxRecDepth 100000 in
theorem impl_NarrowSingles.calls (k : Nat) (A0 : Option Addr) (c0 : Nat) (l0 : List Int) (a1 : Int) (r : List Int) (w : World) (hr0 : Kd.C (Kd.int .i64) w A0 l0.length l0) (hc0 : l0.length ≤ c0) (h : impl_NarrowSingles.f k l0 a1 = some r) :
  Calls Try.prog 58 #[.slice A0 l0.length c0, .int .i64 a1] w fun e w' => ∃ v0_ : Value, e = .returned (v0_) ∧ Kd.R (Kd.int .i64) 3 w' w.heap.size (fun _ => True) v0_ r ∧ Below w.heap.size w w' := by
 have HR0 := yam hr0
 have HC0 := yam hc0
 clear hr0 hc0
 have HB := yam (Below.refl w.heap.size w)
 have H : ((impl_MasksValid.f k l0 a1).bind fun t399 => (if t399 = true then ((slices_Clone_int_int.f l0).bind fun t400 => (impl_NarrowSingles.l0 k a1 t400 l0 (l0.length : Int) 0)) else (some ([] : List Int)))) = some r := h
 clear h
 replace H := Option.bind_eq_some_iff.mp H
 obtain ⟨t399, A30, H⟩ := H
 try dsimp only at H
 have A3 := yam A30
 clear A30
 by_cases c4 : t399 = true
 rotate_left
 ·replace c4 := Bool.eq_false_iff.mpr c4
  subst c4
  have H1 : (some ([] : List Int)) = some r := by rw [if_neg (show ¬ (false = true) by decide)] at H; exact H
  clear H
  have H := H1
  clear H1
  obtain rfl := Option.some.inj H
  go_enter Try.func58, Try.ntmps58
  go_wp2_with (first | (refine goesL_ (some 13) rfl rfl Try.func63 (by kernel_rfl) rfl #[.slice A0 l0.length c0, .int .i64 a1] rfl ymd ?_; (with_reducible refine (impl_MasksValid.calls k _ _ l0 a1 false _ ?side1 ?side2 A3.out).mono ?_); (case side1 => exact Kd.Cz (HR0.out)); (case side2 => exact HC0.out); rintro e w' ⟨rfl, ⟨nd, rfl⟩⟩; refine ⟨_, rfl, ?_⟩))
  go_ret
  exact ⟨_, yer, by first | exact Kd.R_nil _ _ _ _ _ | exact Kd.N_nil _ _ _ _ _ | exact Kd.V_nil _ _ _ _ _ | exact Kd.Q_nil _ _ _ _ _ | exact Kd.S_nil _ _ _ _ _, yhb⟩

 subst c4
 have H1 : ((slices_Clone_int_int.f l0).bind fun t400 => (impl_NarrowSingles.l0 k a1 t400 l0 (l0.length : Int) 0)) = some r := by rw [if_pos rfl] at H; exact H
 clear H
 have H := H1
 clear H1
 replace H := Option.bind_eq_some_iff.mp H
 obtain ⟨t400, A50, H⟩ := H
 try dsimp only at H
 have A5 := yam A50
 clear A50
 have H' := yam H
 clear H
 go_enter Try.func58, Try.ntmps58
 go_wp2_with (first | (refine goesL_ (some 13) rfl rfl Try.func63 (by kernel_rfl) rfl #[.slice A0 l0.length c0, .int .i64 a1] rfl ymd ?_; (with_reducible refine (impl_MasksValid.calls k _ _ l0 a1 true _ ?side1 ?side2 A3.out).mono ?_); (case side1 => exact Kd.Cz (HR0.out)); (case side2 => exact HC0.out); rintro e w' ⟨rfl, ⟨nd, rfl⟩⟩; refine ⟨_, rfl, ?_⟩) | (refine goesL_ (some 16) rfl rfl Try.func64 (by kernel_rfl) rfl #[.slice A0 l0.length c0] rfl ymd ?_; (with_reducible refine (slices_Clone_int_int.calls _ _ l0 t400 _ ?side1 ?side2 A5.out).mono ?_); (case side1 => exact Kd.Cz (HR0.out)); (case side2 => exact HC0.out); rintro e w6 ⟨v401, rfl, ho0, hb⟩; refine ⟨_, rfl, ?_⟩; have HO402 := yam (Kd.R_lower ho0 (below_size (yez HB.out))); replace HB := yam (below_step (yez HB.out) hb); (try clear hb); (try clear hb2); (try clear hk); (try clear hi); (try clear ho0)))
 go_loopg [19] k (fun kq v19 w' => ∃ (x5_1 : List Int) (x19_1 : Int), v19 = .int .i64 x19_1 ∧ Aside0 (impl_NarrowSingles.l0 kq a1 x5_1 l0 (l0.length : Int) x19_1 = some r) ∧ Aside0 (kq ≤ k) ∧ Aside0 (Kd.R (Kd.int .i64) 3 w' w.heap.size (fun _ => True) v401 x5_1) ∧ Aside0 (Below w.heap.size w w'))
 case atStart => exact ⟨(t400), (0), yeq, H', ⟨Nat.le_refl _⟩, ⟨yka HO402.out⟩, ⟨yhb⟩⟩
 case round =>
  clear H'
  try clear p2
  try clear c4
  try clear c5
  try clear c6
  obtain ⟨x5_1, x19_1, rfl, HA, HK1, HO_5, HB⟩ := hrel
  cases gk with
  | zero => exact absurd HA.out (by simp [impl_NarrowSingles.l0])
  | succ k1 =>
   have H := HA.out
   clear HA
   simp only [impl_NarrowSingles.l0] at H
   by_cases c7 : x19_1 < (l0.length : Int)
   rotate_left
   ·rw [if_neg c7] at H
    have c7b0 : decide (x19_1 < (l0.length : Int)) = false := decide_eq_false c7
    clear c7
    obtain rfl := Option.some.inj H
    go_wp2
    go_ret
    exact ⟨_, yer, yka HO_5.out, yhb⟩
   rw [if_pos c7] at H
   have c7b0 : decide (x19_1 < (l0.length : Int)) = true := decide_eq_true c7
   clear c7
   replace H := yif H
   obtain ⟨c8b0, H⟩ := H
   replace H := yif H
   obtain ⟨c9b0, H⟩ := H
   replace H := Option.bind_eq_some_iff.mp H
   obtain ⟨t404, A100, H⟩ := H
   try dsimp only at H
   have A10 := yam A100
   clear A100
   by_cases c11 : t404 = 0
   ·rw [if_pos c11] at H
    have c11b0 : (t404 == 0) = true := beq_iff_eq.mpr c11
    have c11b1 : (t404 != 0) = false := bne_eq_false_iff_eq.mpr c11
    clear c11
    have H' := yam H
    clear H
    have p403 : 0 ≤ (x19_1 : Int) := ydt
    have q403 : x19_1 < (l0.length : Int) := ydt
    obtain ⟨ad403, e403, hx403_0⟩ := Kd.at_int HR0.out x19_1 p403 q403
    cases e403
    replace hx403_0 := ybx HB.out hx403_0
    replace p403 := eq_true p403
    replace q403 := eq_true q403
    go_wp2_with (first | (refine goesL_ (some 25) rfl rfl Try.func79 (by kernel_rfl) rfl #[.int .i64 (rd l0 x19_1)] rfl ymd ?_; (with_reducible refine (impl_onlyValue.calls k1 (rd l0 x19_1) t404 _ A10.out).mono ?_); rintro e w' ⟨rfl, ⟨nd, rfl⟩⟩; refine ⟨_, rfl, ?_⟩))
    go_roundg k1
    case measure => have := HK1.out; omega
    case rel => exact ⟨(x5_1), (wrap64 (x19_1 + 1)), yeq, H', ⟨by have := HK1.out; omega⟩, ⟨yka HO_5.out⟩, ⟨yhb⟩⟩
   rw [if_neg c11] at H
   have c11b0 : (t404 == 0) = false := beq_eq_false_iff_ne.mpr c11
   have c11b1 : (t404 != 0) = true := bne_iff_ne.mpr c11
   have H' := yam H
   clear H
   have p403 : 0 ≤ (x19_1 : Int) := ydt
   have q403 : x19_1 < (l0.length : Int) := ydt
   obtain ⟨ad403, e403, hx403_0⟩ := Kd.at_int HR0.out x19_1 p403 q403
   cases e403
   replace hx403_0 := ybx HB.out hx403_0
   replace p403 := eq_true p403
   replace q403 := eq_true q403
   go_wp2_with (first | (refine goesL_ (some 25) rfl rfl Try.func79 (by kernel_rfl) rfl #[.int .i64 (rd l0 x19_1)] rfl ymd ?_; (with_reducible refine (impl_onlyValue.calls k1 (rd l0 x19_1) t404 _ A10.out).mono ?_); rintro e w' ⟨rfl, ⟨nd, rfl⟩⟩; refine ⟨_, rfl, ?_⟩))
   go_loopg [28] k1 (fun kq v28 w' => ∃ (x5_2 : List Int) (x28_2 : Int), v28 = .int .i64 x28_2 ∧ Aside0 (impl_NarrowSingles.l1 kq a1 x5_2 x19_1 (rd l0 x19_1) l0 (l0.length : Int) x19_1 a1 x28_2 = some r) ∧ Aside0 (kq ≤ k1) ∧ Aside0 (Kd.R (Kd.int .i64) 3 w' w.heap.size (fun _ => True) v401 x5_2) ∧ Aside0 (Below w.heap.size w w'))
   case atStart => exact ⟨(x5_1), (0), yeq, H', ⟨Nat.le_refl _⟩, ⟨yka HO_5.out⟩, ⟨yhb⟩⟩
   case round =>
    clear H'
    try clear c1
    try clear p2
    try clear c4
    try clear p4
    try clear q4
    try clear hx4
    try clear c5
    try clear c6
    try clear p6
    try clear c7
    try clear c7b0
    try clear c8
    try clear c8b0
    try clear c9
    try clear c9b0
    try clear c11
    try clear c11b0
    try clear c11b1
    try clear hx403_0
    try clear p2
    try clear p403
    try clear q403
    obtain ⟨x5_2, x28_2, rfl, HA, HK2, HO_5, HB⟩ := hrel
    cases gk with
    | zero => exact absurd HA.out (by simp [impl_NarrowSingles.l1])
    | succ k2 =>
     have H := HA.out
     clear HA
     simp only [impl_NarrowSingles.l1] at H
     by_cases c12 : x28_2 < a1
     rotate_left
     ·rw [if_neg c12] at H
      have c12b0 : decide (x28_2 < a1) = false := decide_eq_false c12
      clear c12
      have H' := yam H
      clear H
      go_wp2
      go_roundg k2
      case measure => have := HK1.out; have := HK2.out; omega
      case rel => exact ⟨(x5_2), (wrap64 (x19_1 + 1)), yeq, H', ⟨by have := HK1.out; have := HK2.out; omega⟩, ⟨yka HO_5.out⟩, ⟨yhb⟩⟩
     rw [if_pos c12] at H
     have c12b0 : decide (x28_2 < a1) = true := decide_eq_true c12
     clear c12
     by_cases c13 : a1 = 0
     ·rw [if_pos c13] at H
      exact absurd H (by simp)
     rw [if_neg c13] at H
     have c13b0 : (a1 == 0) = false := beq_eq_false_iff_ne.mpr c13
     have c13b1 : (a1 != 0) = true := bne_iff_ne.mpr c13
     obtain ⟨y405, hy405⟩ : ∃ y_ : List Int, y_ = (([wrap64 ((wrap64 ((wrap64 (Int.tdiv x19_1 a1)) * a1)) + x28_2), wrap64 ((wrap64 (x28_2 * a1)) + (Int.tmod x19_1 a1))] : List Int)) := ⟨_, rfl⟩
     replace H : (impl_NarrowSingles.l2 k2 a1 x5_2 x19_1 (rd l0 x19_1) l0 (l0.length : Int) x19_1 a1 x28_2 y405 (y405.length : Int) 0) = some r := by first | (rw [hy405]; with_reducible exact H) | (have H2_ := (Option.bind_some _ _).symm.trans H; rw [hy405]; with_reducible exact H2_) | (have H2_ := (Option.bind_some _ _).symm.trans H; with_reducible exact H2_) | with_reducible exact H | (rw [hy405]; exact H) | exact H
     have Ny405 := yam hy405
     clear hy405
     have H' := yam H
     clear H
     try go_wp2
     replace HO_5 := yam (Kd.Yd HO_5.out)
     replace HB := yam (yed HB.out)
     refine start_ (n := 17) (S := fun w' => True) (ds := []) #[false, false, false, false, false, false, false, false, false, false, false, false, false, false, false, false, false] (by kernel_rfl) rfl rfl trivial (fun hHeld => ?_); refine with_tabW impl_NarrowSingles.tab11 impl_NarrowSingles.bits11 (fun HT_ HW_ => ?_)
     generalize wr.drew = w14 at HO_5 HB hHeld ⊢
     refine yvp 0 31 (yvb 17 1) HT_.out ?_
     refine yvp 1 32 (yvb 17 3) HT_.out ?_
     refine yvp 2 33 (yvb 17 7) HT_.out ?_
     refine yvp 3 34 (yvb 17 15) HT_.out ?_
     refine yvp 4 35 (yvb 17 31) HT_.out ?_
     refine yvp 5 36 (yvb 17 63) HT_.out ?_
     refine yvp 6 37 (yvb 17 127) HT_.out ?_
     refine yvp 7 38 (yvb 17 255) HT_.out ?_
     refine yvp 8 39 (yvb 17 511) HT_.out ?_
     refine yvp 9 40 (yvb 17 1023) HT_.out ?_
     refine yvp 10 41 (yvb 17 2047) HT_.out ?_
     refine yvp 11 42 (yvb 17 4095) HT_.out ?_
     refine yvp 12 43 (yvb 17 8191) HT_.out ?_
     refine yvp 13 44 (yvb 17 16383) HT_.out ?_
     refine yvp 16 47 (yvb 17 81919) HT_.out ?_
     refine one_ (i := 14) (N := some 45) #[true, true, true, true, true, true, true, true, true, true, true, true, true, true, true, false, true] rfl rfl (one_of HT_.out (by kernel_rfl)) (by decide) (fun K hK => ?_)
     refine Kd.R_lit_step (Kd.int .i64) _ 3 ?hg (N := 45) ?hd (xs := ([wrap64 ((wrap64 ((wrap64 (Int.tdiv x19_1 a1)) * a1)) + x28_2), wrap64 ((wrap64 (x28_2 * a1)) + (Int.tmod x19_1 a1))] : List Int)) (inner := [.int .i64 (wrap64 ((wrap64 ((wrap64 (Int.tdiv x19_1 a1)) * a1)) + x28_2)), .int .i64 (wrap64 ((wrap64 (x28_2 * a1)) + (Int.tmod x19_1 a1)))]) (ok := fun _ => True) (okp := fun _ => True) ?hr ?hp (fun _ hk => hk) trivial (Below.refl _ _) (Nat.le_refl _) (by simp) ?_; (case hd => rfl); (case hg => rfl); (case hr => first | (go_simp; done) | (go_simp; rfl)); (case hp => exact (Reps.one (show Kd.M (Kd.int .i64) _ _ _ (wrap64 ((wrap64 ((wrap64 (Int.tdiv x19_1 a1)) * a1)) + x28_2)) [.int .i64 (wrap64 ((wrap64 ((wrap64 (Int.tdiv x19_1 a1)) * a1)) + x28_2))] from rfl) (Reps.one (show Kd.M (Kd.int .i64) _ _ _ (wrap64 ((wrap64 (x28_2 * a1)) + (Int.tmod x19_1 a1))) [.int .i64 (wrap64 ((wrap64 (x28_2 * a1)) + (Int.tmod x19_1 a1)))] from rfl) (Reps.none _ _))))
     intro v406 w15 ho16 hb hg_ hnew_
     clear hg_ hnew_
     (first | rw [← Ny405.out] at ho16 | (simp only [Int.reduceToNat] at ho16; rw [← Ny405.out] at ho16))
     have HO407 := yam (Kd.R_lower (Kd.Yw ho16 (Kd.R_lt (Kd.Yz HO_5.out))) (below_size (yez HB.out)))
     replace HO_5 := yam (Kd.Ye (Kd.Yz HO_5.out) (Kd.Yb ho16) hb)
     replace HB := yam (below_step (yez HB.out) hb)
     clear hb ho16
     obtain ⟨Ao17, co17, eo17⟩ := Kd.R_slice HO407.out
     (first | subst eo17 | (injection eo17 with f1_ f2_ f3_; have f4_ := f1_.symm; have f5_ := f3_.symm; clear f1_ f2_ f3_; subst f4_; subst f5_))
     refine hK.out _ _ trivial (fun hHeld => ?_)
     clear hK K
     refine norm_ (a' := ?_) ?_ ?_
     rotate_left
     ·show Act.put _ (some 45) _ = _
      simp only [Act.put, yps, i64_w, i32_w]
      rfl
     refine yvp 15 46 (yvb 17 131071) HT_.out ?_
     refine done_ (done_of HT_.out (by kernel_rfl)) ?_
     try go_wp2
     go_loopg [47] k2 (fun kq v47 w' => ∃ (x5_3 : List Int) (x47_3 : Int), v47 = .int .i64 x47_3 ∧ Aside0 (impl_NarrowSingles.l2 kq a1 x5_3 x19_1 (rd l0 x19_1) l0 (l0.length : Int) x19_1 a1 x28_2 y405 (y405.length : Int) x47_3 = some r) ∧ Aside0 (kq ≤ k2) ∧ Aside0 (Kd.R (Kd.int .i64) 3 w' w.heap.size (fun k_ => some k_ ≠ ((.slice Ao17 y405.length co17) : Value).ownBlock) v401 x5_3) ∧ Aside0 (Kd.R (Kd.int .i64) 3 w' w.heap.size (fun k_ => some k_ ≠ (v401 : Value).ownBlock) (.slice Ao17 y405.length co17) y405) ∧ Aside0 (Below w.heap.size w w'))
     case atStart => exact ⟨(x5_2), (0), yeq, H', ⟨Nat.le_refl _⟩, ⟨by (with_reducible repeat (first | apply Kd.Ya | apply Kd.Yn | apply Kd.Yd)); exact Kd.R_mono HO_5.out (fun _ hk => hk.2)⟩, ⟨by (with_reducible repeat (first | apply Kd.Ya | apply Kd.Yn | apply Kd.Yd)); exact Kd.R_mono HO407.out (fun _ hk => hk.2)⟩, ⟨yhb⟩⟩
     case round =>
      clear H'
      try clear c1
      try clear p2
      try clear c4
      try clear p4
      try clear q4
      try clear hx4
      try clear c5
      try clear c6
      try clear p6
      try clear c7
      try clear c7b0
      try clear c8
      try clear c8b0
      try clear c9
      try clear c9b0
      try clear c11
      try clear c11b0
      try clear c11b1
      try clear c12
      try clear c12b0
      try clear c13
      try clear c13b0
      try clear c13b1
      try clear hx403_0
      try clear p2
      try clear p4
      try clear p403
      try clear p6
      try clear q4
      try clear q403
      obtain ⟨x5_3, x47_3, rfl, HA, HK3, HO_5, HO_45, HB⟩ := hrel
      cases gk with
      | zero => exact absurd HA.out (by simp [impl_NarrowSingles.l2])
      | succ k3 =>
       have H := HA.out
       clear HA
       simp only [impl_NarrowSingles.l2] at H
       by_cases c18 : x47_3 < (y405.length : Int)
       rotate_left
       ·rw [if_neg c18] at H
        have c18b0 : decide (x47_3 < (y405.length : Int)) = false := decide_eq_false c18
        clear c18
        have H' := yam H
        clear H
        go_wp2
        go_roundg k3
        case measure => have := HK1.out; have := HK2.out; have := HK3.out; omega
        case rel => exact ⟨(x5_3), (wrap64 (x28_2 + 1)), yeq, H', ⟨by have := HK1.out; have := HK2.out; have := HK3.out; omega⟩, ⟨by (with_reducible repeat (first | apply Kd.Ya | apply Kd.Yn | apply Kd.Yd)); exact Kd.R_mono HO_5.out (fun _ hk => trivial)⟩, ⟨yhb⟩⟩
       rw [if_pos c18] at H
       have c18b0 : decide (x47_3 < (y405.length : Int)) = true := decide_eq_true c18
       clear c18
       replace H := yif H
       obtain ⟨c19b0, H⟩ := H
       replace H := yif H
       obtain ⟨c20b0, H⟩ := H
       by_cases c21 : (rd y405 x47_3) = x19_1
       ·rw [if_pos c21] at H
        have c21b0 : ((rd y405 x47_3) == x19_1) = true := beq_iff_eq.mpr c21
        have c21b1 : ((rd y405 x47_3) != x19_1) = false := bne_eq_false_iff_eq.mpr c21
        clear c21
        have H' := yam H
        clear H
        have p408 : 0 ≤ (x47_3 : Int) := ydt
        have q408 : x47_3 < (y405.length : Int) := ydt
        obtain ⟨ad408, e408, hx408_0⟩ := Kd.at_int (Kd.Yr HO_45.out).2.2 x47_3 p408 q408
        cases e408
        replace p408 := eq_true p408
        replace q408 := eq_true q408
        go_wp2
        go_roundg k3
        case measure => have := HK1.out; have := HK2.out; have := HK3.out; omega
        case rel => exact ⟨(x5_3), (wrap64 (x47_3 + 1)), yeq, H', ⟨by have := HK1.out; have := HK2.out; have := HK3.out; omega⟩, ⟨yka HO_5.out⟩, ⟨yka HO_45.out⟩, ⟨yhb⟩⟩
       rw [if_neg c21] at H
       have c21b0 : ((rd y405 x47_3) == x19_1) = false := beq_eq_false_iff_ne.mpr c21
       have c21b1 : ((rd y405 x47_3) != x19_1) = true := bne_iff_ne.mpr c21
       replace H := yif H
       obtain ⟨c22b0, H⟩ := H
       replace H := yif H
       obtain ⟨c23b0, H⟩ := H
       obtain ⟨y410, hy410⟩ : ∃ y_ : List Int, y_ = (x5_3.set ((rd y405 x47_3) : Int).toNat (Go.bits .andNot .i64 (rd x5_3 (rd y405 x47_3)) (rd l0 x19_1))) := ⟨_, rfl⟩
       replace H : (impl_NarrowSingles.l2 k3 a1 y410 x19_1 (rd l0 x19_1) l0 (l0.length : Int) x19_1 a1 x28_2 y405 (y405.length : Int) (wrap64 (x47_3 + 1))) = some r := by first | (rw [hy410]; with_reducible exact H) | (have H2_ := (Option.bind_some _ _).symm.trans H; rw [hy410]; with_reducible exact H2_) | (have H2_ := (Option.bind_some _ _).symm.trans H; with_reducible exact H2_) | with_reducible exact H | (rw [hy410]; exact H) | exact H
       have Ny410 := yam hy410
       clear hy410
       have H' := yam H
       clear H
       have p408 : 0 ≤ (x47_3 : Int) := ydt
       have q408 : x47_3 < (y405.length : Int) := ydt
       obtain ⟨ad408, e408, hx408_0⟩ := Kd.at_int (Kd.Yr HO_45.out).2.2 x47_3 p408 q408
       cases e408
       replace p408 := eq_true p408
       replace q408 := eq_true q408
       obtain ⟨Ao25, co25, eo25⟩ := Kd.R_slice HO_5.out
       subst eo25
       have p409 : 0 ≤ ((rd y405 x47_3) : Int) := ydt
       have q409 : (rd y405 x47_3) < (x5_3.length : Int) := ydt
       obtain ⟨ad409, e409, hx409_0⟩ := Kd.at_int (Kd.Yr HO_5.out).2.2 (rd y405 x47_3) p409 q409
       cases e409
       replace p409 := eq_true p409
       replace q409 := eq_true q409
       have p24 : 0 ≤ ((rd y405 x47_3) : Int) := ydt
       have q24 : ((rd y405 x47_3) : Int) < ((x5_3.length : Int) : Int) := ydt
       obtain ⟨go24, co24, eo24, gb24, gl24, cl24, HG24⟩ := Kd.R_form HO_5.out (by omega)
       (first | cases eo24 | (injection eo24 with ea_ en_ ec_; (first | subst ea_ | (injection ea_ with ea_; subst ea_)); subst ec_; clear en_))
       have GB24 := yam gb24
       have GG24 := yam HG24
       clear gb24 gl24 HG24
       (first | simp only [add_plain] at hx409_0 | skip)
       obtain ⟨hx24_0, hf24_0⟩ := Kd.R_celln 0 HO_5.out ((rd y405 x47_3) : Int) p24 q24
       replace p24 := eq_true p24
       replace q24 := eq_true q24
       have HP26 := Kd.R_putg HO_5.out ((rd y405 x47_3) : Int) (Go.bits .andNot .i64 (rd x5_3 (rd y405 x47_3)) (rd l0 x19_1))
       go_wp2_with (first | ((with_reducible refine gate_store (t := 3) (p := 60) rfl ?_); refine store_event (t := 3) (p := 60) (v := ?vo_w27) (w1 := (wr.setCell ⟨go24, ((rd y405 x47_3) : Int).toNat, none⟩ (.int .i64 (Go.bits .andNot .i64 (rd x5_3 (rd y405 x47_3)) (rd l0 x19_1))))) ?hg ?ho ?hn ?hr ?_; (case ho => rfl); (case hg => rfl); (case hn => rfl); (case hr => first | (go_simp; done) | (go_simp; rfl)); intro w27 hw; have hg : wr.grownBy w27 (some go24) := (by rw [hw]; exact HP26.2); have hp_ : Kd.R (Kd.int .i64) 3 w27 w.heap.size (fun k_ => some k_ ≠ (.slice (some ad408) y405.length co17 : Value).ownBlock) (.slice (some ⟨go24, 0, none⟩) x5_3.length co25) y410 := (by rw [hw, Ny410.out]; exact HP26.1); clear HP26; replace HO_5 := yam (hp_); replace HO_45 := yam (Kd.R_after (v := (.slice (some ⟨go24, 0, none⟩) x5_3.length co25)) (v1 := (.slice (some ⟨go24, 0, none⟩) x5_3.length co25)) (ok := (fun _ => True)) (by (with_reducible repeat (first | apply Kd.Ya | apply Kd.Yn | apply Kd.Yd)); exact Kd.R_mono HO_45.out (fun _ hk => ⟨trivial, hk⟩)) hg (.inl rfl)); replace HB := yam ((by rw [hw]; exact below_set (HB.out) GB24.out : Below w.heap.size w w27)); clear hg hw hp_))
       go_roundg k3
       case measure => have := HK1.out; have := HK2.out; have := HK3.out; omega
       case rel => exact ⟨(y410), (wrap64 (x47_3 + 1)), yeq, H', ⟨by have := HK1.out; have := HK2.out; have := HK3.out; omega⟩, ⟨yka HO_5.out⟩, ⟨by (with_reducible repeat (first | apply Kd.Ya | apply Kd.Yn | apply Kd.Yd)); exact Kd.R_mono HO_45.out (fun _ hk => hk.2)⟩, ⟨yhb⟩⟩
mutual
def impl_LineCells.j0 : Nat → Int → Int → Bool → Option (List Int)
 | 0, _, _, _ => none
 | k + 1, x0, x1, x19 => if x19 = true then (some ([] : List Int)) else (if 0 ≤ x0 then (if (x0 : Int).toNat ≤ 35184372088832 then (impl_LineCells.l0 k x0 x1 (([] : List Int)) x0 0) else (none)) else (none))
def impl_LineCells.l0 : Nat → Int → Int → List Int → Int → Int → Option (List Int)
 | 0, _, _, _, _, _ => none
 | k + 1, x0, x1, x5, x22, x23 => if x23 < x22 then (if x1 < x0 then (if x5.length < 17592186044416 then (impl_LineCells.l0 k x0 x1 (x5 ++ [wrap64 ((wrap64 (x1 * x0)) + x23)]) x22 (wrap64 (x23 + 1))) else (none)) else (if x5.length < 17592186044416 then (impl_LineCells.l0 k x0 x1 (x5 ++ [wrap64 ((wrap64 ((wrap64 (x23 * x0)) + x1)) - x0)]) x22 (wrap64 (x23 + 1))) else (none))) else (some x5)
end
def impl_LineCells.f (k : Nat) (a0 : Int) (a1 : Int) : Option (List Int) := (impl_sizeOk.f a0).bind fun t411 => (if t411 = true then (if a1 < 0 then (impl_LineCells.j0 k a0 a1 true) else (impl_LineCells.j0 k a0 a1 (decide (a1 ≥ (wrap64 (2 * a0)))))) else (impl_LineCells.j0 k a0 a1 true))
theorem impl_LineCells.mono_l : ∀ k, (∀ y0 y1 y2, LeO (impl_LineCells.j0 k y0 y1 y2) (impl_LineCells.j0 (k + 1) y0 y1 y2)) ∧ (∀ y0 y1 y2 y3 y4, LeO (impl_LineCells.l0 k y0 y1 y2 y3 y4) (impl_LineCells.l0 (k + 1) y0 y1 y2 y3 y4))
 | 0 => ⟨fun _ _ _ r h => by simp [impl_LineCells.j0] at h, fun _ _ _ _ _ r h => by simp [impl_LineCells.l0] at h⟩
 | k + 1 => by
  obtain ⟨ih0, ih1⟩ := impl_LineCells.mono_l k
  refine ⟨?_, ?_⟩
  ·intro y0 y1 y2
   unfold impl_LineCells.j0
   repeat' first
   | (with_reducible exact ih0 _ _ _)
   | (with_reducible exact ih1 _ _ _ _ _)
   | (with_reducible exact LeO.refl _)
   | (with_reducible exact LeO.none _)
   | (with_reducible refine LeO.ite ?_ ?_)
   | (with_reducible refine LeO.bind ?_ (fun _ => ?_))
   | exact ih0 _ _ _
   | exact ih1 _ _ _ _ _
   | exact LeO.none _
   | refine LeO.ite ?_ ?_
   | refine LeO.bind ?_ (fun _ => ?_)
  ·intro y0 y1 y2 y3 y4
   unfold impl_LineCells.l0
   repeat' first
   | (with_reducible exact ih0 _ _ _)
   | (with_reducible exact ih1 _ _ _ _ _)
   | (with_reducible exact LeO.refl _)
   | (with_reducible exact LeO.none _)
   | (with_reducible refine LeO.ite ?_ ?_)
   | (with_reducible refine LeO.bind ?_ (fun _ => ?_))
   | exact ih0 _ _ _
   | exact ih1 _ _ _ _ _
   | exact LeO.none _
   | refine LeO.ite ?_ ?_
   | refine LeO.bind ?_ (fun _ => ?_)
theorem impl_LineCells.mono : ∀ a0 a1 k, LeO (impl_LineCells.f k a0 a1) (impl_LineCells.f (k + 1) a0 a1) := by
 intro a0 a1 k
 obtain ⟨ih0, ih1⟩ := impl_LineCells.mono_l k
 unfold impl_LineCells.f
 repeat' first
   | (with_reducible exact ih0 _ _ _)
   | (with_reducible exact ih1 _ _ _ _ _)
   | (with_reducible exact LeO.refl _)
   | (with_reducible exact LeO.none _)
   | (with_reducible refine LeO.ite ?_ ?_)
   | (with_reducible refine LeO.bind ?_ (fun _ => ?_))
   | exact ih0 _ _ _
   | exact ih1 _ _ _ _ _
   | exact LeO.none _
   | refine LeO.ite ?_ ?_
   | refine LeO.bind ?_ (fun _ => ?_)
set_option maxHeartbeats 8000000 in
set_option maxRecDepth 100000 in
theorem impl_LineCells.calls (k : Nat) (a0 : Int) (a1 : Int) (r : List Int) (w : World) (h : impl_LineCells.f k a0 a1 = some r) :
  Calls Try.prog 82 #[.int .i64 a0, .int .i64 a1] w fun e w' => ∃ v0_ : Value, e = .returned (v0_) ∧ Kd.R (Kd.int .i64) 3 w' w.heap.size (fun _ => True) v0_ r ∧ Below w.heap.size w w' := by
 have HB := yam (Below.refl w.heap.size w)
 have H : ((impl_sizeOk.f a0).bind fun t411 => (if t411 = true then (if a1 < 0 then (impl_LineCells.j0 k a0 a1 true) else (impl_LineCells.j0 k a0 a1 (decide (a1 ≥ (wrap64 (2 * a0)))))) else (impl_LineCells.j0 k a0 a1 true))) = some r := h
 clear h
 have HC3 := yam H
 clear H
 go_enter Try.func82, Try.ntmps82
 go_upto_region 1 with (fail)
 go_cut [19] (fun v19 wc => ∃ (kq : Nat) (x19_2 : Bool), v19 = .bool x19_2 ∧ Aside0 (impl_LineCells.j0 kq a0 a1 x19_2 = some r) ∧ Aside0 (kq ≤ k) ∧ Aside0 (Below w.heap.size w wc))
 case first =>
  have H := HC3.out
  clear HC3
  replace H := Option.bind_eq_some_iff.mp H
  obtain ⟨t411, A40, H⟩ := H
  try dsimp only at H
  have A4 := yam A40
  clear A40
  by_cases c5 : t411 = true
  rotate_left
  ·replace c5 := Bool.eq_false_iff.mpr c5
   subst c5
   have H1 : (impl_LineCells.j0 k a0 a1 true) = some r := by rw [if_neg (show ¬ (false = true) by decide)] at H; exact H
   clear H
   have H := H1
   clear H1
   have H' := yam H
   clear H
   go_wp2_with (first | (refine goesL_ (some 8) rfl rfl Try.func84 (by kernel_rfl) rfl #[.int .i64 a0] rfl ymd ?_; (with_reducible refine (impl_sizeOk.calls a0 false _ A4.out).mono ?_); rintro e w' ⟨rfl, ⟨nd, rfl⟩⟩; refine ⟨_, rfl, ?_⟩))
   go_meet
   case rel => exact ⟨_, (true), yeq, H', ⟨by first | omega | exact Nat.le_refl _⟩, ⟨yhb⟩⟩
  subst c5
  have H1 : (if a1 < 0 then (impl_LineCells.j0 k a0 a1 true) else (impl_LineCells.j0 k a0 a1 (decide (a1 ≥ (wrap64 (2 * a0)))))) = some r := by rw [if_pos rfl] at H; exact H
  clear H
  have H := H1
  clear H1
  by_cases c6 : a1 < 0
  ·rw [if_pos c6] at H
   have c6b0 : decide (a1 < 0) = true := decide_eq_true c6
   clear c6
   (first | rw [c6b0] | (simp only [i64_w, i32_w]; rw [c6b0]) | skip)
   have H' := yam H
   clear H
   go_wp2_with (first | (refine goesL_ (some 8) rfl rfl Try.func84 (by kernel_rfl) rfl #[.int .i64 a0] rfl ymd ?_; (with_reducible refine (impl_sizeOk.calls a0 true _ A4.out).mono ?_); rintro e w' ⟨rfl, ⟨nd, rfl⟩⟩; refine ⟨_, rfl, ?_⟩))
   go_meet
   case rel => exact ⟨_, (true), yeq, H', ⟨by first | omega | exact Nat.le_refl _⟩, ⟨yhb⟩⟩
  rw [if_neg c6] at H
  have c6b0 : decide (a1 < 0) = false := decide_eq_false c6
  clear c6
  (first | rw [c6b0] | (simp only [i64_w, i32_w]; rw [c6b0]) | skip)
  have H' := yam H
  clear H
  go_wp2_with (first | (refine goesL_ (some 8) rfl rfl Try.func84 (by kernel_rfl) rfl #[.int .i64 a0] rfl ymd ?_; (with_reducible refine (impl_sizeOk.calls a0 true _ A4.out).mono ?_); rintro e w' ⟨rfl, ⟨nd, rfl⟩⟩; refine ⟨_, rfl, ?_⟩))
  go_meet
  case rel => exact ⟨_, (decide (a1 ≥ (wrap64 (2 * a0)))), yeq, H', ⟨by first | omega | exact Nat.le_refl _⟩, ⟨yhb⟩⟩
 case rest =>
  clear HC3
  try clear p2
  try clear c5
  try clear c6
  try clear c6b0
  try clear p6
  obtain ⟨kq, x19_2, rfl, HA, HJ2, HB⟩ := hcut
  cases kq with
  | zero => exact absurd HA.out (by simp [impl_LineCells.j0])
  | succ kj2 =>
   have H := HA.out
   clear HA
   simp only [impl_LineCells.j0] at H
   by_cases c7 : x19_2 = true
   ·subst c7
    have H1 : (some ([] : List Int)) = some r := by rw [if_pos rfl] at H; exact H
    clear H
    have H := H1
    clear H1
    obtain rfl := Option.some.inj H
    go_wp2
    go_ret
    exact ⟨_, yer, by first | exact Kd.R_nil _ _ _ _ _ | exact Kd.N_nil _ _ _ _ _ | exact Kd.V_nil _ _ _ _ _ | exact Kd.Q_nil _ _ _ _ _ | exact Kd.S_nil _ _ _ _ _, yhb⟩
   replace c7 := Bool.eq_false_iff.mpr c7
   subst c7
   have H1 : (if 0 ≤ a0 then (if (a0 : Int).toNat ≤ 35184372088832 then (impl_LineCells.l0 kj2 a0 a1 (([] : List Int)) a0 0) else (none)) else (none)) = some r := by rw [if_neg (show ¬ (false = true) by decide)] at H; exact H
   clear H
   have H := H1
   clear H1
   by_cases c8 : 0 ≤ a0
   rotate_left
   ·rw [if_neg c8] at H
    exact absurd H (by simp)

   rw [if_pos c8] at H
   have c8b0 := eq_true c8
   have c8b1 : decide (0 ≤ a0) = true := decide_eq_true c8
   clear c8
   replace H := yig H
   obtain ⟨c9, H⟩ := H
   have c9b0 := eq_true c9
   have c9b1 : decide ((a0 : Int).toNat ≤ 35184372088832) = true := decide_eq_true c9
   clear c9
   obtain ⟨y412, hy412⟩ : ∃ y_ : List Int, y_ = (([] : List Int)) := ⟨_, rfl⟩
   replace H : (impl_LineCells.l0 kj2 a0 a1 y412 a0 0) = some r := by first | (rw [hy412]; with_reducible exact H) | (have H2_ := (Option.bind_some _ _).symm.trans H; rw [hy412]; with_reducible exact H2_) | (have H2_ := (Option.bind_some _ _).symm.trans H; with_reducible exact H2_) | with_reducible exact H | (rw [hy412]; exact H) | exact H
   have Ny412 := yam hy412
   clear hy412
   have H' := yam H
   clear H
   go_wp2_with (first | ((with_reducible refine gate_dst (N := 21) rfl ?_); refine Kd.R_make_cap (Kd.int .i64) _ 3 rfl (N := 21) rfl 22 _ _ rfl a0 rfl rfl Try.underlying22 (.int .i64 0) 8 info3 rfl (by decide) (by omega) (ok := fun _ => True) trivial (ydt) (Nat.le_trans (Nat.mul_le_mul_right _ (ydt : a0.toNat ≤ 35184372088832)) (by omega)) (Below.refl _ _) (Nat.le_refl _) ?_; intro v413 w10 ho11 hb hg_ hnew_; clear hg_ hnew_; (first | rw [← Ny412.out] at ho11 | (simp only [Int.reduceToNat] at ho11; rw [← Ny412.out] at ho11)); have HO414 := yam (Kd.R_lower ho11 (below_size (yez HB.out))); replace HB := yam (below_step (yez HB.out) hb); clear hb ho11))
   go_loopg [5, 23] kj2 (fun kq v5 v23 w' => ∃ (x5_2 : List Int) (x23_2 : Int), v23 = .int .i64 x23_2 ∧ Aside0 (impl_LineCells.l0 kq a0 a1 x5_2 a0 x23_2 = some r) ∧ Aside0 (kq ≤ kj2) ∧ Aside0 (Kd.R (Kd.int .i64) 3 w' w.heap.size (fun _ => True) v5 x5_2) ∧ Aside0 (Below w.heap.size w w'))
   case atStart => exact ⟨(y412), (0), yeq, H', ⟨Nat.le_refl _⟩, ⟨yka HO414.out⟩, ⟨yhb⟩⟩
   case round =>
    clear H'
    try clear p2
    try clear c5
    try clear c6
    try clear c6b0
    try clear p6
    try clear c7
    try clear c8
    try clear c8b0
    try clear c8b1
    try clear c9
    try clear c9b0
    try clear c9b1
    try clear p2
    try clear p6
    obtain ⟨x5_2, x23_2, rfl, HA, HK2, HO_5, HB⟩ := hrel
    cases gk with
    | zero => exact absurd HA.out (by simp [impl_LineCells.l0])
    | succ k2 =>
     have H := HA.out
     clear HA
     simp only [impl_LineCells.l0] at H
     by_cases c12 : x23_2 < a0
     rotate_left
     ·rw [if_neg c12] at H
      have c12b0 : decide (x23_2 < a0) = false := decide_eq_false c12
      clear c12
      obtain rfl := Option.some.inj H
      go_wp2
      go_ret
      exact ⟨_, yer, yka HO_5.out, yhb⟩
     rw [if_pos c12] at H
     have c12b0 : decide (x23_2 < a0) = true := decide_eq_true c12
     clear c12
     by_cases c13 : a1 < a0
     ·rw [if_pos c13] at H
      have c13b0 : decide (a1 < a0) = true := decide_eq_true c13
      clear c13
      replace H := yig H
      obtain ⟨c14, H⟩ := H
      have LMc14 := yam c14
      clear c14
      obtain ⟨y415, hy415⟩ : ∃ y_ : List Int, y_ = (x5_2 ++ [wrap64 ((wrap64 (a1 * a0)) + x23_2)]) := ⟨_, rfl⟩
      replace H : (impl_LineCells.l0 k2 a0 a1 y415 a0 (wrap64 (x23_2 + 1))) = some r := by first | (rw [hy415]; with_reducible exact H) | (have H2_ := (Option.bind_some _ _).symm.trans H; rw [hy415]; with_reducible exact H2_) | (have H2_ := (Option.bind_some _ _).symm.trans H; with_reducible exact H2_) | with_reducible exact H | (rw [hy415]; exact H) | exact H
      have Ny415 := yam hy415
      clear hy415
      have H' := yam H
      clear H
      go_wp2_with (first | ((with_reducible refine gate_builtin (b := .append) (xs := #[.tmp 29, .tmp 35]) rfl ?_); at_builtin; refine Kd.R_append (Kd.int .i64) (w0 := w) w.heap.size rfl (.tmp 29) (.tmp 35) 22 3 (.int .i64 0) 8 rfl Try.underlying22 info3 rfl (by decide) (by omega) u5 x5_2 (wrap64 ((wrap64 (a1 * a0)) + x23_2)) [.int .i64 (wrap64 ((wrap64 (a1 * a0)) + x23_2))] (fun _ => True) (fun _ => False) rfl rfl ?aP (fun _ hk => hk.elim) ?aF ?aO ?aB ?aS ?aL ?_; (case aP => exact rfl); (case aB => exact (yez HB.out)); (case aF => exact (fun _ _ => trivial)); (case aO => exact (Kd.Yz HO_5.out)); (case aS => exact (below_size (yez HB.out))); (case aL => have := LMc14.out; omega); intro v416 w15 ho hb hg hat; rw [← Ny415.out] at ho; replace HB := yam (hb); have HO417 := yam (ho); clear HO_5; clear ho hb hg hat))
      go_roundg k2
      case measure => have := HJ2.out; have := HK2.out; omega
      case rel => exact ⟨(y415), (wrap64 (x23_2 + 1)), yeq, H', ⟨by have := HJ2.out; have := HK2.out; omega⟩, ⟨yka HO417.out⟩, ⟨yhb⟩⟩
     rw [if_neg c13] at H
     have c13b0 : decide (a1 < a0) = false := decide_eq_false c13
     clear c13
     replace H := yig H
     obtain ⟨c16, H⟩ := H
     have LMc16 := yam c16
     clear c16
     obtain ⟨y418, hy418⟩ : ∃ y_ : List Int, y_ = (x5_2 ++ [wrap64 ((wrap64 ((wrap64 (x23_2 * a0)) + a1)) - a0)]) := ⟨_, rfl⟩
     replace H : (impl_LineCells.l0 k2 a0 a1 y418 a0 (wrap64 (x23_2 + 1))) = some r := by first | (rw [hy418]; with_reducible exact H) | (have H2_ := (Option.bind_some _ _).symm.trans H; rw [hy418]; with_reducible exact H2_) | (have H2_ := (Option.bind_some _ _).symm.trans H; with_reducible exact H2_) | with_reducible exact H | (rw [hy418]; exact H) | exact H
     have Ny418 := yam hy418
     clear hy418
     have H' := yam H
     clear H
     go_wp2_with (first | ((with_reducible refine gate_builtin (b := .append) (xs := #[.tmp 37, .tmp 45]) rfl ?_); at_builtin; refine Kd.R_append (Kd.int .i64) (w0 := w) w.heap.size rfl (.tmp 37) (.tmp 45) 22 3 (.int .i64 0) 8 rfl Try.underlying22 info3 rfl (by decide) (by omega) u5 x5_2 (wrap64 ((wrap64 ((wrap64 (x23_2 * a0)) + a1)) - a0)) [.int .i64 (wrap64 ((wrap64 ((wrap64 (x23_2 * a0)) + a1)) - a0))] (fun _ => True) (fun _ => False) rfl rfl ?aP (fun _ hk => hk.elim) ?aF ?aO ?aB ?aS ?aL ?_; (case aP => exact rfl); (case aB => exact (yez HB.out)); (case aF => exact (fun _ _ => trivial)); (case aO => exact (Kd.Yz HO_5.out)); (case aS => exact (below_size (yez HB.out))); (case aL => have := LMc16.out; omega); intro v419 w17 ho hb hg hat; rw [← Ny418.out] at ho; replace HB := yam (hb); have HO420 := yam (ho); clear HO_5; clear ho hb hg hat))
     go_roundg k2
     case measure => have := HJ2.out; have := HK2.out; omega
     case rel => exact ⟨(y418), (wrap64 (x23_2 + 1)), yeq, H', ⟨by have := HJ2.out; have := HK2.out; omega⟩, ⟨yka HO420.out⟩, ⟨yhb⟩⟩
mutual
def impl_NarrowHidden.l0 : Nat → List Int → Int → List Int → Int → Int → Option (List Int)
 | 0, _, _, _, _, _ => none
 | k + 1, x0, x1, x5, x19, x20 => if x20 < x19 then (impl_NarrowHidden.l1 k x0 x1 x5 x20 1 x19 x20) else (some x5)
def impl_NarrowHidden.l1 : Nat → List Int → Int → List Int → Int → Int → Int → Int → Option (List Int)
 | 0, _, _, _, _, _, _, _ => none
 | k + 1, x0, x1, x5, x6, x7, x19, x20 => if x7 ≤ x1 then ((impl_LineCells.f k x1 x6).bind fun t425 => (impl_NarrowHidden.l2 k x0 x1 x5 x6 x7 0 0 x19 x20 t425 (t425.length : Int) 0)) else (impl_NarrowHidden.l0 k x0 x1 x5 x19 (wrap64 (x20 + 1)))
def impl_NarrowHidden.l2 : Nat → List Int → Int → List Int → Int → Int → Int → Int → Int → Int → List Int → Int → Int → Option (List Int)
 | 0, _, _, _, _, _, _, _, _, _, _, _, _ => none
 | k + 1, x0, x1, x5, x6, x7, x8, x9, x19, x20, x30, x31, x32 => if x32 < x31 then (if 0 ≤ x32 then (if x32 < (x30.length : Int) then (if 0 ≤ (rd x30 x32) then (if (rd x30 x32) < (x0.length : Int) then (if 0 ≤ x7 then (if (Go.bits .and .i64 (shr .i64 (rd x0 (rd x30 x32)) x7) 1) = 1 then (impl_NarrowHidden.l2 k x0 x1 x5 x6 x7 (rd x30 x32) (wrap64 (x9 + 1)) x19 x20 x30 x31 (wrap64 (x32 + 1))) else (impl_NarrowHidden.l2 k x0 x1 x5 x6 x7 x8 x9 x19 x20 x30 x31 (wrap64 (x32 + 1)))) else (none)) else (none)) else (none)) else (none)) else (none)) else (if x9 = 1 then (if 0 ≤ x8 then (if x8 < (x5.length : Int) then (if 0 ≤ x7 then (impl_NarrowHidden.l1 k x0 x1 (x5.set (x8 : Int).toNat (Go.bits .and .i64 (rd x5 x8) (shl .i64 1 x7))) x6 (wrap64 (x7 + 1)) x19 x20) else (none)) else (none)) else (none)) else (impl_NarrowHidden.l1 k x0 x1 x5 x6 (wrap64 (x7 + 1)) x19 x20))
end
def impl_NarrowHidden.f (k : Nat) (l0 : List Int) (a1 : Int) : Option (List Int) := (impl_MasksValid.f k l0 a1).bind fun t421 => (if t421 = true then ((slices_Clone_int_int.f l0).bind fun t422 => (impl_NarrowHidden.l0 k l0 a1 t422 (wrap64 (2 * a1)) 0)) else (some ([] : List Int)))
def impl_NarrowHidden.T19 : Bool × List (List Nat × List Nat) := (true, [([], []), ([], []), ([0, 1], [0, 1]), ([2], [2]), ([], []), ([4], [4]), ([3, 5], [3, 5]), ([0, 1, 0, 1, 2, 3, 4, 5, 6], [0, 1]), ([7, 6, 0, 1, 2, 3, 4, 5, 6], [6, 7])])
def impl_NarrowHidden.B19 : List Nat := [0, 0, 3, 7, 0, 16, 63, 127, 255]
theorem impl_NarrowHidden.tab19 : rtab .any (opsOf Try.f59 19) = impl_NarrowHidden.T19 := by kernel_rfl
theorem impl_NarrowHidden.bits19 : waitsOk impl_NarrowHidden.T19.2 impl_NarrowHidden.B19 = true := by kernel_rfl
set_option maxHeartbeats 8000000 in
set_option maxRecDepth 100000 in
theorem impl_NarrowHidden.calls (k : Nat) (A0 : Option Addr) (c0 : Nat) (l0 : List Int) (a1 : Int) (r : List Int) (w : World) (hr0 : Kd.C (Kd.int .i64) w A0 l0.length l0) (hc0 : l0.length ≤ c0) (h : impl_NarrowHidden.f k l0 a1 = some r) :
  Calls Try.prog 59 #[.slice A0 l0.length c0, .int .i64 a1] w fun e w' => ∃ v0_ : Value, e = .returned (v0_) ∧ Kd.R (Kd.int .i64) 3 w' w.heap.size (fun _ => True) v0_ r ∧ Below w.heap.size w w' := by
 have HR0 := yam hr0
 have HC0 := yam hc0
 clear hr0 hc0
 have HB := yam (Below.refl w.heap.size w)
 have H : ((impl_MasksValid.f k l0 a1).bind fun t421 => (if t421 = true then ((slices_Clone_int_int.f l0).bind fun t422 => (impl_NarrowHidden.l0 k l0 a1 t422 (wrap64 (2 * a1)) 0)) else (some ([] : List Int)))) = some r := h
 clear h
 replace H := Option.bind_eq_some_iff.mp H
 obtain ⟨t421, A30, H⟩ := H
 try dsimp only at H
 have A3 := yam A30
 clear A30
 by_cases c4 : t421 = true
 rotate_left
 ·replace c4 := Bool.eq_false_iff.mpr c4
  subst c4
  have H1 : (some ([] : List Int)) = some r := by rw [if_neg (show ¬ (false = true) by decide)] at H; exact H
  clear H
  have H := H1
  clear H1
  obtain rfl := Option.some.inj H
  go_enter Try.func59, Try.ntmps59
  go_wp2_with (first | (refine goesL_ (some 14) rfl rfl Try.func63 (by kernel_rfl) rfl #[.slice A0 l0.length c0, .int .i64 a1] rfl ymd ?_; (with_reducible refine (impl_MasksValid.calls k _ _ l0 a1 false _ ?side1 ?side2 A3.out).mono ?_); (case side1 => exact Kd.Cz (HR0.out)); (case side2 => exact HC0.out); rintro e w' ⟨rfl, ⟨nd, rfl⟩⟩; refine ⟨_, rfl, ?_⟩))
  go_ret
  exact ⟨_, yer, by first | exact Kd.R_nil _ _ _ _ _ | exact Kd.N_nil _ _ _ _ _ | exact Kd.V_nil _ _ _ _ _ | exact Kd.Q_nil _ _ _ _ _ | exact Kd.S_nil _ _ _ _ _, yhb⟩

 subst c4
 have H1 : ((slices_Clone_int_int.f l0).bind fun t422 => (impl_NarrowHidden.l0 k l0 a1 t422 (wrap64 (2 * a1)) 0)) = some r := by rw [if_pos rfl] at H; exact H
 clear H
 have H := H1
 clear H1
 replace H := Option.bind_eq_some_iff.mp H
 obtain ⟨t422, A50, H⟩ := H
 try dsimp only at H
 have A5 := yam A50
 clear A50
 have H' := yam H
 clear H
 go_enter Try.func59, Try.ntmps59
 go_wp2_with (first | (refine goesL_ (some 14) rfl rfl Try.func63 (by kernel_rfl) rfl #[.slice A0 l0.length c0, .int .i64 a1] rfl ymd ?_; (with_reducible refine (impl_MasksValid.calls k _ _ l0 a1 true _ ?side1 ?side2 A3.out).mono ?_); (case side1 => exact Kd.Cz (HR0.out)); (case side2 => exact HC0.out); rintro e w' ⟨rfl, ⟨nd, rfl⟩⟩; refine ⟨_, rfl, ?_⟩) | (refine goesL_ (some 17) rfl rfl Try.func64 (by kernel_rfl) rfl #[.slice A0 l0.length c0] rfl ymd ?_; (with_reducible refine (slices_Clone_int_int.calls _ _ l0 t422 _ ?side1 ?side2 A5.out).mono ?_); (case side1 => exact Kd.Cz (HR0.out)); (case side2 => exact HC0.out); rintro e w6 ⟨v423, rfl, ho0, hb⟩; refine ⟨_, rfl, ?_⟩; have HO424 := yam (Kd.R_lower ho0 (below_size (yez HB.out))); replace HB := yam (below_step (yez HB.out) hb); (try clear hb); (try clear hb2); (try clear hk); (try clear hi); (try clear ho0)))
 go_loopg [20] k (fun kq v20 w' => ∃ (x5_1 : List Int) (x20_1 : Int), v20 = .int .i64 x20_1 ∧ Aside0 (impl_NarrowHidden.l0 kq l0 a1 x5_1 (wrap64 (2 * a1)) x20_1 = some r) ∧ Aside0 (kq ≤ k) ∧ Aside0 (Kd.R (Kd.int .i64) 3 w' w.heap.size (fun _ => True) v423 x5_1) ∧ Aside0 (Below w.heap.size w w'))
 case atStart => exact ⟨(t422), (0), yeq, H', ⟨Nat.le_refl _⟩, ⟨yka HO424.out⟩, ⟨yhb⟩⟩
 case round =>
  clear H'
  try clear p2
  try clear c4
  try clear c5
  try clear c6
  try clear p6
  obtain ⟨x5_1, x20_1, rfl, HA, HK1, HO_5, HB⟩ := hrel
  cases gk with
  | zero => exact absurd HA.out (by simp [impl_NarrowHidden.l0])
  | succ k1 =>
   have H := HA.out
   clear HA
   simp only [impl_NarrowHidden.l0] at H
   by_cases c7 : x20_1 < (wrap64 (2 * a1))
   rotate_left
   ·rw [if_neg c7] at H
    have c7b0 : decide (x20_1 < (wrap64 (2 * a1))) = false := decide_eq_false c7
    clear c7
    obtain rfl := Option.some.inj H
    go_wp2
    go_ret
    exact ⟨_, yer, yka HO_5.out, yhb⟩
   rw [if_pos c7] at H
   have c7b0 : decide (x20_1 < (wrap64 (2 * a1))) = true := decide_eq_true c7
   clear c7
   have H' := yam H
   clear H
   go_wp2
   go_loopg [7] k1 (fun kq v7 w' => ∃ (x5_2 : List Int) (x7_2 : Int), v7 = .int .i64 x7_2 ∧ Aside0 (impl_NarrowHidden.l1 kq l0 a1 x5_2 x20_1 x7_2 (wrap64 (2 * a1)) x20_1 = some r) ∧ Aside0 (kq ≤ k1) ∧ Aside0 (Kd.R (Kd.int .i64) 3 w' w.heap.size (fun _ => True) v423 x5_2) ∧ Aside0 (Below w.heap.size w w'))
   case atStart => exact ⟨(x5_1), (1), yeq, H', ⟨Nat.le_refl _⟩, ⟨yka HO_5.out⟩, ⟨yhb⟩⟩
   case round =>
    clear H'
    try clear p2
    try clear c4
    try clear c5
    try clear c6
    try clear p6
    try clear c7
    try clear c7b0
    try clear p2
    try clear p6
    obtain ⟨x5_2, x7_2, rfl, HA, HK2, HO_5, HB⟩ := hrel
    cases gk with
    | zero => exact absurd HA.out (by simp [impl_NarrowHidden.l1])
    | succ k2 =>
     have H := HA.out
     clear HA
     simp only [impl_NarrowHidden.l1] at H
     by_cases c8 : x7_2 ≤ a1
     rotate_left
     ·rw [if_neg c8] at H
      have c8b0 : decide (x7_2 ≤ a1) = false := decide_eq_false c8
      clear c8
      have H' := yam H
      clear H
      go_wp2
      go_roundg k2
      case measure => have := HK1.out; have := HK2.out; omega
      case rel => exact ⟨(x5_2), (wrap64 (x20_1 + 1)), yeq, H', ⟨by have := HK1.out; have := HK2.out; omega⟩, ⟨yka HO_5.out⟩, ⟨yhb⟩⟩
     rw [if_pos c8] at H
     have c8b0 : decide (x7_2 ≤ a1) = true := decide_eq_true c8
     clear c8
     replace H := Option.bind_eq_some_iff.mp H
     obtain ⟨t425, A90, H⟩ := H
     try dsimp only at H
     have A9 := yam A90
     clear A90
     have H' := yam H
     clear H
     go_wp2_with (first | (refine goesL_ (some 30) rfl rfl Try.func82 (by kernel_rfl) rfl #[.int .i64 a1, .int .i64 x20_1] rfl ymd ?_; (with_reducible refine (impl_LineCells.calls k2 a1 x20_1 t425 _ A9.out).mono ?_); rintro e w10 ⟨v426, rfl, ho0, hb⟩; refine ⟨_, rfl, ?_⟩; have HO427 := yam (Kd.R_lower (Kd.Yw ho0 (Kd.R_lt (Kd.Yz HO_5.out))) (below_size (yez HB.out))); replace HO_5 := yam (Kd.Ye (Kd.Yz HO_5.out) (Kd.Yb ho0) hb); replace HB := yam (below_step (yez HB.out) hb); (try clear hb); (try clear hb2); (try clear hk); (try clear hi); (try clear ho0); obtain ⟨Ao11, co11, eo11⟩ := Kd.R_slice HO427.out; subst eo11))
     go_loopg [8, 9, 32] k2 (fun kq v8 v9 v32 w' => ∃ (x8_3 : Int) (x9_3 : Int) (x32_3 : Int), v8 = .int .i64 x8_3 ∧ v9 = .int .i64 x9_3 ∧ v32 = .int .i64 x32_3 ∧ Aside0 (impl_NarrowHidden.l2 kq l0 a1 x5_2 x20_1 x7_2 x8_3 x9_3 (wrap64 (2 * a1)) x20_1 t425 (t425.length : Int) x32_3 = some r) ∧ Aside0 (kq ≤ k2) ∧ Aside0 (Kd.R (Kd.int .i64) 3 w' w.heap.size (fun k_ => some k_ ≠ ((.slice Ao11 t425.length co11) : Value).ownBlock) v423 x5_2) ∧ Aside0 (Kd.R (Kd.int .i64) 3 w' w.heap.size (fun k_ => some k_ ≠ (v423 : Value).ownBlock) (.slice Ao11 t425.length co11) t425) ∧ Aside0 (Below w.heap.size w w'))
     case atStart => exact ⟨(0), (0), (0), yeq, yeq, yeq, H', ⟨Nat.le_refl _⟩, ⟨by (with_reducible repeat (first | apply Kd.Ya | apply Kd.Yn | apply Kd.Yd)); exact Kd.R_mono HO_5.out (fun _ hk => hk.2)⟩, ⟨by (with_reducible repeat (first | apply Kd.Ya | apply Kd.Yn | apply Kd.Yd)); exact Kd.R_mono HO427.out (fun _ hk => hk.2)⟩, ⟨yhb⟩⟩
     case round =>
      clear H'
      try clear p2
      try clear c4
      try clear c5
      try clear c6
      try clear p6
      try clear c7
      try clear c7b0
      try clear c8
      try clear c8b0
      try clear p2
      try clear p6
      obtain ⟨x8_3, x9_3, x32_3, rfl, rfl, rfl, HA, HK3, HO_5, HO_30, HB⟩ := hrel
      cases gk with
      | zero => exact absurd HA.out (by simp [impl_NarrowHidden.l2])
      | succ k3 =>
       have H := HA.out
       clear HA
       simp only [impl_NarrowHidden.l2] at H
       by_cases c12 : x32_3 < (t425.length : Int)
       ·rw [if_pos c12] at H
        have c12b0 : decide (x32_3 < (t425.length : Int)) = true := decide_eq_true c12
        clear c12
        replace H := yif H
        obtain ⟨c13b0, H⟩ := H
        replace H := yif H
        obtain ⟨c14b0, H⟩ := H
        replace H := yif H
        obtain ⟨c15b0, H⟩ := H
        replace H := yif H
        obtain ⟨c16b0, H⟩ := H
        replace H := yig H
        obtain ⟨c17, H⟩ := H
        have c17b0 := eq_true c17
        have c17b1 : decide (0 ≤ x7_2) = true := decide_eq_true c17
        clear c17
        obtain ⟨ji18, hji18⟩ : ∃ j_ : Int, (shr .i64 (rd l0 (rd t425 x32_3)) x7_2) = j_ := ⟨_, rfl⟩
        replace H : (if (Go.bits .and .i64 (ji18) 1) = 1 then (impl_NarrowHidden.l2 k3 l0 a1 x5_2 x20_1 x7_2 (rd t425 x32_3) (wrap64 (x9_3 + 1)) (wrap64 (2 * a1)) x20_1 t425 (t425.length : Int) (wrap64 (x32_3 + 1))) else (impl_NarrowHidden.l2 k3 l0 a1 x5_2 x20_1 x7_2 x8_3 x9_3 (wrap64 (2 * a1)) x20_1 t425 (t425.length : Int) (wrap64 (x32_3 + 1)))) = some r := by first | (rw [hji18] at H; exact H) | (simp only [hji18] at H ⊢; exact H)
        have hji18_ : ((rd l0 (rd t425 x32_3)) / 2 ^ min x7_2.toNat 64) = ji18 := hji18
        have hji18z : x7_2 ≤ 64 → ((rd l0 (rd t425 x32_3)) / 2 ^ x7_2.toNat) = ji18 := shr_small hji18
        by_cases c19 : (Go.bits .and .i64 (ji18) 1) = 1
        rotate_left
        ·rw [if_neg c19] at H
         have c19b0 : ((Go.bits .and .i64 (ji18) 1) == 1) = false := beq_eq_false_iff_ne.mpr c19
         have c19b1 : ((Go.bits .and .i64 (ji18) 1) != 1) = true := bne_iff_ne.mpr c19
         have H' := yam H
         clear H
         have p428 : 0 ≤ (x32_3 : Int) := ydt
         have q428 : x32_3 < (t425.length : Int) := ydt
         obtain ⟨ad428, e428, hx428_0⟩ := Kd.at_int (Kd.Yr HO_30.out).2.2 x32_3 p428 q428
         cases e428
         replace p428 := eq_true p428
         replace q428 := eq_true q428
         have p429 : 0 ≤ ((rd t425 x32_3) : Int) := ydt
         have q429 : (rd t425 x32_3) < (l0.length : Int) := ydt
         obtain ⟨ad429, e429, hx429_0⟩ := Kd.at_int HR0.out (rd t425 x32_3) p429 q429
         cases e429
         replace hx429_0 := ybx HB.out hx429_0
         replace p429 := eq_true p429
         replace q429 := eq_true q429
         go_wp2
         go_roundg k3
         case measure => have := HK1.out; have := HK2.out; have := HK3.out; omega
         case rel => exact ⟨(x8_3), (x9_3), (wrap64 (x32_3 + 1)), yeq, yeq, yeq, H', ⟨by have := HK1.out; have := HK2.out; have := HK3.out; omega⟩, ⟨yka HO_5.out⟩, ⟨yka HO_30.out⟩, ⟨yhb⟩⟩
        rw [if_pos c19] at H
        have c19b0 : ((Go.bits .and .i64 (ji18) 1) == 1) = true := beq_iff_eq.mpr c19
        have c19b1 : ((Go.bits .and .i64 (ji18) 1) != 1) = false := bne_eq_false_iff_eq.mpr c19
        clear c19
        have H' := yam H
        clear H
        have p428 : 0 ≤ (x32_3 : Int) := ydt
        have q428 : x32_3 < (t425.length : Int) := ydt
        obtain ⟨ad428, e428, hx428_0⟩ := Kd.at_int (Kd.Yr HO_30.out).2.2 x32_3 p428 q428
        cases e428
        replace p428 := eq_true p428
        replace q428 := eq_true q428
        have p429 : 0 ≤ ((rd t425 x32_3) : Int) := ydt
        have q429 : (rd t425 x32_3) < (l0.length : Int) := ydt
        obtain ⟨ad429, e429, hx429_0⟩ := Kd.at_int HR0.out (rd t425 x32_3) p429 q429
        cases e429
        replace hx429_0 := ybx HB.out hx429_0
        replace p429 := eq_true p429
        replace q429 := eq_true q429
        go_wp2
        go_roundg k3
        case measure => have := HK1.out; have := HK2.out; have := HK3.out; omega
        case rel => exact ⟨(rd t425 x32_3), (wrap64 (x9_3 + 1)), (wrap64 (x32_3 + 1)), yeq, yeq, yeq, H', ⟨by have := HK1.out; have := HK2.out; have := HK3.out; omega⟩, ⟨yka HO_5.out⟩, ⟨yka HO_30.out⟩, ⟨yhb⟩⟩
       rw [if_neg c12] at H
       have c12b0 : decide (x32_3 < (t425.length : Int)) = false := decide_eq_false c12
       clear c12
       by_cases c20 : x9_3 = 1
       rotate_left
       ·rw [if_neg c20] at H
        have c20b0 : (x9_3 == 1) = false := beq_eq_false_iff_ne.mpr c20
        have c20b1 : (x9_3 != 1) = true := bne_iff_ne.mpr c20
        have H' := yam H
        clear H
        go_wp2
        go_roundg k3
        case measure => have := HK1.out; have := HK2.out; have := HK3.out; omega
        case rel => exact ⟨(x5_2), (wrap64 (x7_2 + 1)), yeq, H', ⟨by have := HK1.out; have := HK2.out; have := HK3.out; omega⟩, ⟨by (with_reducible repeat (first | apply Kd.Ya | apply Kd.Yn | apply Kd.Yd)); exact Kd.R_mono HO_5.out (fun _ hk => trivial)⟩, ⟨yhb⟩⟩
       rw [if_pos c20] at H
       have c20b0 : (x9_3 == 1) = true := beq_iff_eq.mpr c20
       have c20b1 : (x9_3 != 1) = false := bne_eq_false_iff_eq.mpr c20
       clear c20
       replace H := yif H
       obtain ⟨c21b0, H⟩ := H
       replace H := yif H
       obtain ⟨c22b0, H⟩ := H
       replace H := yig H
       obtain ⟨c23, H⟩ := H
       have c23b0 := eq_true c23
       have c23b1 : decide (0 ≤ x7_2) = true := decide_eq_true c23
       clear c23
       obtain ⟨ji24, hji24⟩ : ∃ j_ : Int, (shl .i64 1 x7_2) = j_ := ⟨_, rfl⟩
       replace H : (impl_NarrowHidden.l1 k3 l0 a1 (x5_2.set (x8_3 : Int).toNat (Go.bits .and .i64 (rd x5_2 x8_3) (ji24))) x20_1 (wrap64 (x7_2 + 1)) (wrap64 (2 * a1)) x20_1) = some r := by first | (rw [hji24] at H; exact H) | (simp only [hji24] at H ⊢; exact H)
       have hji24_ : (IntKind.i64.wrap (1 * 2 ^ min x7_2.toNat 64)) = ji24 := hji24
       have hji24z : x7_2 ≤ 64 → (IntKind.i64.wrap (1 * 2 ^ x7_2.toNat)) = ji24 := shl_small hji24
       have hji24u : (IntKind.i64.wrap (2 ^ min x7_2.toNat 64)) = ji24 := by have h_ := hji24_; rw [Int.one_mul] at h_; exact h_
       have hji24v : x7_2 ≤ 64 → (IntKind.i64.wrap (2 ^ x7_2.toNat)) = ji24 := fun hle_ => by have h_ := hji24z hle_; rw [Int.one_mul] at h_; exact h_
       have hji24y : (wrap64 (1 * 2 ^ min x7_2.toNat 64)) = ji24 := (i64_w _).symm.trans hji24_
       have hji24x : x7_2 ≤ 64 → (wrap64 (1 * 2 ^ x7_2.toNat)) = ji24 := fun h_ => (i64_w _).symm.trans (hji24z h_)
       obtain ⟨y431, hy431⟩ : ∃ y_ : List Int, y_ = (x5_2.set (x8_3 : Int).toNat (Go.bits .and .i64 (rd x5_2 x8_3) (ji24))) := ⟨_, rfl⟩
       replace H : (impl_NarrowHidden.l1 k3 l0 a1 y431 x20_1 (wrap64 (x7_2 + 1)) (wrap64 (2 * a1)) x20_1) = some r := by first | (rw [hy431]; with_reducible exact H) | (have H2_ := (Option.bind_some _ _).symm.trans H; rw [hy431]; with_reducible exact H2_) | (have H2_ := (Option.bind_some _ _).symm.trans H; with_reducible exact H2_) | with_reducible exact H | (rw [hy431]; exact H) | exact H
       have Ny431 := yam hy431
       clear hy431
       have H' := yam H
       clear H
       try go_wp2
       replace HO_5 := yam (Kd.Yd HO_5.out)
       replace HO_30 := yam (Kd.Yd HO_30.out)
       replace HB := yam (yed HB.out)
       obtain ⟨Ao27, co27, eo27⟩ := Kd.R_slice HO_5.out
       (first | subst eo27 | (injection eo27 with f1_ f2_ f3_; have f4_ := f1_.symm; have f5_ := f3_.symm; clear f1_ f2_ f3_; subst f4_; subst f5_))
       have p430 : 0 ≤ (x8_3 : Int) := ydt
       have q430 : x8_3 < (x5_2.length : Int) := ydt
       obtain ⟨ad430, e430, hx430_0⟩ := Kd.at_int (Kd.Yr HO_5.out).2.2 x8_3 p430 q430
       cases e430
       replace p430 := eq_true p430
       replace q430 := eq_true q430
       have p25 : 0 ≤ (x8_3 : Int) := ydt
       have q25 : (x8_3 : Int) < ((x5_2.length : Int) : Int) := ydt
       obtain ⟨go25, co25, eo25, gb25, gl25, cl25, HG25⟩ := Kd.R_form HO_5.out (by omega)
       (first | cases eo25 | (injection eo25 with ea_ en_ ec_; (first | subst ea_ | (injection ea_ with ea_; subst ea_)); subst ec_; clear en_))
       have GB25 := yam gb25
       have GG25 := yam HG25
       clear gb25 gl25 HG25
       (first | simp only [add_plain] at hx430_0 | skip)
       obtain ⟨hx25_0, hf25_0⟩ := Kd.R_celln 0 HO_5.out (x8_3 : Int) p25 q25
       replace p25 := eq_true p25
       replace q25 := eq_true q25
       have HP28 := Kd.R_putn HO_5.out (x8_3 : Int) (Go.bits .and .i64 (rd x5_2 x8_3) (ji24))
       rw [← Ny431.out] at HP28
       have HQ28 := yam HP28
       clear HP28
       refine start_ (n := 9) (S := fun w' => w'.cell? ⟨go25, (x8_3).toNat, none⟩ = some (.int .i64 (rd x5_2 x8_3))) (ds := [8]) #[false, false, false, false, false, false, false, false, false] (by kernel_rfl) rfl rfl (hx430_0) (fun hHeld => ?_); refine with_tabW impl_NarrowHidden.tab19 impl_NarrowHidden.bits19 (fun HT_ HW_ => ?_)
       generalize wr.drew = w26 at HO_5 HO_30 HB GG25 HQ28 hf25_0 hx25_0 hx430_0 hHeld ⊢
       refine yvp 0 50 (yvb 9 1) HT_.out ?_
       refine yvp 1 51 (yvb 9 3) HT_.out ?_
       refine yvp 2 52 (yvb 9 7) HT_.out ?_
       refine yvp 4 54 (yvb 9 23) HT_.out ?_
       refine yvp 5 55 (yvb 9 55) HT_.out ?_
       refine yvt 3 53 (yvb 9 63) HT_.out HW_.out hHeld ?_
       refine yvp 6 56 (yvb 9 127) HT_.out ?_
       refine yvp 7 57 (yvb 9 255) HT_.out ?_
       refine last_ (i := 8) (N := none) #[true, true, true, true, true, true, true, true, true] rfl rfl (one_of HT_.out (by kernel_rfl)) (by decide) (fun K hK => ?_)
       refine skip_ (w1 := ?_) (by rfl) rfl ?_ ?_
       rotate_left
       ·go_simp
        rfl
       refine hK.out _ _ ?_
       clear hK K
       refine done_ (done_of HT_.out (by kernel_rfl)) ?_
       try go_wp2
       go_roundg k3
       case measure => have := HK1.out; have := HK2.out; have := HK3.out; omega
       case rel => exact ⟨(y431), (wrap64 (x7_2 + 1)), yeq, H', ⟨by have := HK1.out; have := HK2.out; have := HK3.out; omega⟩, ⟨by (with_reducible repeat (first | apply Kd.Ya | apply Kd.Yn | apply Kd.Yd)); exact Kd.R_mono HQ28.out (fun _ hk => trivial)⟩, ⟨yhb⟩⟩
end Go.Proofs.Ytdemlminhkhonaa.P
