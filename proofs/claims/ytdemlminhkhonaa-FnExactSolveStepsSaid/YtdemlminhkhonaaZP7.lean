/- The machine's side: each Go function as a plain Lean function and the proof that the machine's call does what that function says; written by this session's own program over the kit's print. -/
import Derived.Test.YtdemlminhkhonaaZP1
import Derived.Test.YtdemlminhkhonaaZP5
import Derived.Test.YtdemlminhkhonaaZP6
namespace Go.Proofs.Ytdemlminhkhonaa.P
open Go.RowKit Go.Proofs.YtdemlminhkhonaaW.PrintWords Go.Proofs.YtdemlminhkhonaaW.PrintLast Go.Proofs.YtdemlminhkhonaaW.PrintMore
attribute [local go_sem] max2_int min2_int max_two min_two max_three min_three max_four min_four   -- for this text's walks alone
set_option linter.unusedVariables false
set_option linter.unusedSimpArgs false
mutual
def impl_NarrowRules.j0 : Nat → List Int → Bool → Int → List Int → List (S67) → Option (List Int)
 | 0, _, _, _, _, _ => none
 | k + 1, x1, x19, x479000, x479001, x479002 => if x19 = true then (some ([] : List Int)) else ((slices_Clone_int_int.f x1).bind fun t481 => (impl_NarrowRules.l0 k t481 x479002 (x479002.length : Int) 0 x479000 x479001 x479002))
def impl_NarrowRules.l0 : Nat → List Int → List (S67) → Int → Int → Int → List Int → List (S67) → Option (List Int)
 | 0, _, _, _, _, _, _, _ => none
 | k + 1, x5, x23, x24, x25, x479000, x479001, x479002 => if x25 < x24 then (if 0 ≤ x25 then (if x25 < (x23.length : Int) then ((impl_RuleMasks.f k ((rd_T67 x23 x25).f0) ((rd_T67 x23 x25).f1) ((rd_T67 x23 x25).f2) x5 x479000).bind fun t486 => (impl_NarrowRules.l1 k x5 x23 x24 x25 t486 (t486.length : Int) 0 x479000 x479001 x479002 ((rd_T67 x23 x25).f0) ((rd_T67 x23 x25).f1) ((rd_T67 x23 x25).f2))) else (none)) else (none)) else (some x5)
def impl_NarrowRules.l1 : Nat → List Int → List (S67) → Int → Int → List Int → Int → Int → Int → List Int → List (S67) → Int → List Int → Int → Option (List Int)
 | 0, _, _, _, _, _, _, _, _, _, _, _, _, _ => none
 | k + 1, x5, x23, x24, x25, x33, x34, x35, x479000, x479001, x479002, x486000, x486001, x486002 => if x35 < x34 then (if 0 ≤ x35 then (if x35 < (x33.length : Int) then (if x35 < (x486001.length : Int) then (if 0 ≤ (rd x486001 x35) then (if (rd x486001 x35) < (x5.length : Int) then (impl_NarrowRules.l1 k (x5.set ((rd x486001 x35) : Int).toNat (rd x33 x35)) x23 x24 x25 x33 x34 (wrap64 (x35 + 1)) x479000 x479001 x479002 x486000 x486001 x486002) else (none)) else (none)) else (none)) else (none)) else (none)) else (impl_NarrowRules.l0 k x5 x23 x24 (wrap64 (x25 + 1)) x479000 x479001 x479002)
end
def impl_NarrowRules.f (k : Nat) (a0_0 : Int) (l0_1 : List Int) (l0_2 : List (S67)) (l1 : List Int) : Option (List Int) := (impl_PuzzleValid.f k a0_0 l0_1 l0_2).bind fun t479 => (if t479 = true then ((impl_MasksValid.f k l1 a0_0).bind fun t480 => (impl_NarrowRules.j0 k l1 (!t480) a0_0 l0_1 l0_2)) else (impl_NarrowRules.j0 k l1 true a0_0 l0_1 l0_2))
set_option maxHeartbeats 8000000 in
set_option maxRecDepth 100000 in
theorem impl_NarrowRules.calls (k : Nat) (a0_0 : Int) (A0_1 : Option Addr) (c0_1 : Nat) (l0_1 : List Int) (A0_2 : Option Addr) (c0_2 : Nat) (l0_2 : List (S67)) (A1 : Option Addr) (c1 : Nat) (l1 : List Int) (r : List Int) (w : World) (hr0_1 : Kd.C (Kd.int .i64) w A0_1 l0_1.length l0_1) (hc0_1 : l0_1.length ≤ c0_1) (hr0_2 : Kd.C k67 w A0_2 l0_2.length l0_2) (hc0_2 : l0_2.length ≤ c0_2) (hr1 : Kd.C (Kd.int .i64) w A1 l1.length l1) (hc1 : l1.length ≤ c1) (h : impl_NarrowRules.f k a0_0 l0_1 l0_2 l1 = some r) :
  Calls Try.prog 61 #[.agg #[.int .i64 a0_0, .slice A0_1 l0_1.length c0_1, .slice A0_2 l0_2.length c0_2], .slice A1 l1.length c1] w fun e w' => ∃ v0_ : Value, e = .returned (v0_) ∧ Kd.R (Kd.int .i64) 3 w' w.heap.size (fun _ => True) v0_ r ∧ Below w.heap.size w w' := by
 have hu30 := Try.underlying30
 have hu67 := Try.underlying67
 have HR0_1 := yam hr0_1
 have HC0_1 := yam hc0_1
 clear hr0_1 hc0_1
 have HR0_2 := yam hr0_2
 have HC0_2 := yam hc0_2
 clear hr0_2 hc0_2
 have HR1 := yam hr1
 have HC1 := yam hc1
 clear hr1 hc1
 have HB := yam (Below.refl w.heap.size w)
 have H : ((impl_PuzzleValid.f k a0_0 l0_1 l0_2).bind fun t479 => (if t479 = true then ((impl_MasksValid.f k l1 a0_0).bind fun t480 => (impl_NarrowRules.j0 k l1 (!t480) a0_0 l0_1 l0_2)) else (impl_NarrowRules.j0 k l1 true a0_0 l0_1 l0_2))) = some r := h
 clear h
 have HC3 := yam H
 clear H
 go_enter Try.func61, Try.ntmps61
 go_upto_region 1 with (first | (refine ybe 2 #[.int .i64 a0_0, .slice A0_1 l0_1.length c0_1, .slice A0_2 l0_2.length c0_2] 30 ?_; intro gb478 hg w4 hbox hb; have n0_ := yam (below_step (yez HB.out) hb); have n1_ := yam (hbox); have n2_ := yam ((by rw [hg]; exact (below_size (yez HB.out)) : w.heap.size ≤ gb478)); have n3_ := n2_; clear HB; have HB := n0_; have BK478 := n1_; have GW478 := n2_; have GE478 := n3_; clear n0_ n1_ n2_ n3_; clear hb hbox hg))
 (try simp only [Act.put, yps])
 go_cut [19] (fun v19 wc => ∃ (kq : Nat) (x19_2 : Bool), v19 = .bool x19_2 ∧ Aside0 (impl_NarrowRules.j0 kq l1 x19_2 a0_0 l0_1 l0_2 = some r) ∧ Aside0 (kq ≤ k) ∧ Aside0 (wc.heap[gb478]? = some (.cells #[.int .i64 a0_0, (.slice A0_1 l0_1.length c0_1), (.slice A0_2 l0_2.length c0_2)] 30 (0, 0))) ∧ Aside0 (Below w.heap.size w wc))
 case first =>
  have H := HC3.out
  clear HC3
  replace H := Option.bind_eq_some_iff.mp H
  obtain ⟨t479, A50, H⟩ := H
  try dsimp only at H
  have A5 := yam A50
  clear A50
  by_cases c6 : t479 = true
  rotate_left
  ·replace c6 := Bool.eq_false_iff.mpr c6
   subst c6
   have H1 : (impl_NarrowRules.j0 k l1 true a0_0 l0_1 l0_2) = some r := by rw [if_neg (show ¬ (false = true) by decide)] at H; exact H
   clear H
   have H := H1
   clear H1
   have H' := yam H
   clear H
   obtain ⟨hcz11_0, hcz11_1, hcz11_2, hfz11_0, hfz11_1, hfz11_2⟩ := ybc BK478.out
   go_wp2_with (first | (refine goesL_ (some 11) rfl rfl Try.func36 (by kernel_rfl) rfl #[.agg #[.int .i64 a0_0, .slice A0_1 l0_1.length c0_1, .slice A0_2 l0_2.length c0_2]] rfl ymd ?_; (with_reducible refine (impl_PuzzleValid.calls k a0_0 _ _ l0_1 _ _ l0_2 false _ ?side1 ?side2 ?side3 ?side4 A5.out).mono ?_); (case side1 => exact Kd.Cz ((Kd.C_below HR0_1.out HB.out))); (case side2 => exact HC0_1.out); (case side3 => exact Kd.Cz ((Kd.C_below HR0_2.out HB.out))); (case side4 => exact HC0_2.out); rintro e w12 ⟨rfl, hb⟩; refine ⟨_, rfl, ?_⟩; have n0_ := yam (blk_below (g := gb478) (o := .cells #[.int .i64 a0_0, .slice A0_1 l0_1.length c0_1, .slice A0_2 l0_2.length c0_2] 30 (0, 0)) (ybz BK478.out) hb); have n1_ := yam (below_step yhb hb); clear BK478; clear HB; have BK478 := n0_; have HB := n1_; clear n0_ n1_; (try clear hb); (try clear hb2); (try clear hk); (try clear hi)))
   go_meet
   case rel => exact ⟨_, (true), yeq, H', ⟨by first | omega | exact Nat.le_refl _⟩, ⟨by (with_reducible repeat (first | refine ybn ?_ _ | refine ybd ?_ | refine yba ?_ _)); exact BK478.out⟩, ⟨yhb⟩⟩
  subst c6
  have H1 : ((impl_MasksValid.f k l1 a0_0).bind fun t480 => (impl_NarrowRules.j0 k l1 (!t480) a0_0 l0_1 l0_2)) = some r := by rw [if_pos rfl] at H; exact H
  clear H
  have H := H1
  clear H1
  replace H := Option.bind_eq_some_iff.mp H
  obtain ⟨t480, A70, H⟩ := H
  try dsimp only at H
  have A7 := yam A70
  clear A70
  have H' := yam H
  clear H
  obtain ⟨hcz8_0, hcz8_1, hcz8_2, hfz8_0, hfz8_1, hfz8_2⟩ := ybc BK478.out
  go_wp2_with (first | (refine goesL_ (some 11) rfl rfl Try.func36 (by kernel_rfl) rfl #[.agg #[.int .i64 a0_0, .slice A0_1 l0_1.length c0_1, .slice A0_2 l0_2.length c0_2]] rfl ymd ?_; (with_reducible refine (impl_PuzzleValid.calls k a0_0 _ _ l0_1 _ _ l0_2 true _ ?side1 ?side2 ?side3 ?side4 A5.out).mono ?_); (case side1 => exact Kd.Cz ((Kd.C_below HR0_1.out HB.out))); (case side2 => exact HC0_1.out); (case side3 => exact Kd.Cz ((Kd.C_below HR0_2.out HB.out))); (case side4 => exact HC0_2.out); rintro e w9 ⟨rfl, hb⟩; refine ⟨_, rfl, ?_⟩; have n0_ := yam (blk_below (g := gb478) (o := .cells #[.int .i64 a0_0, .slice A0_1 l0_1.length c0_1, .slice A0_2 l0_2.length c0_2] 30 (0, 0)) (ybz BK478.out) hb); have n1_ := yam (below_step yhb hb); clear BK478; clear HB; have BK478 := n0_; have HB := n1_; clear n0_ n1_; (try clear hb); (try clear hb2); (try clear hk); (try clear hi); obtain ⟨hcz10_0, hcz10_1, hcz10_2, hfz10_0, hfz10_1, hfz10_2⟩ := ybc BK478.out) | (go_at_call 63; (with_reducible refine (impl_MasksValid.calls k _ _ l1 a0_0 t480 _ ?side1 ?side2 A7.out).mono ?_); (case side1 => exact Kd.Cz ((Kd.C_below HR1.out HB.out))); (case side2 => exact HC1.out); rintro e w' ⟨rfl, ⟨nd, rfl⟩⟩))
  go_meet
  case rel => exact ⟨_, (!t480), yeq, H', ⟨by first | omega | exact Nat.le_refl _⟩, ⟨by (with_reducible repeat (first | refine ybn ?_ _ | refine ybd ?_ | refine yba ?_ _)); exact BK478.out⟩, ⟨yhb⟩⟩
 case rest =>
  clear HC3
  try clear c1
  try clear p2
  try clear c3
  try clear c6
  try clear hcz10_0
  try clear hcz10_1
  try clear hcz10_2
  try clear hcz11_0
  try clear hcz11_1
  try clear hcz11_2
  try clear hcz8_0
  try clear hcz8_1
  try clear hcz8_2
  try clear hfz10_0
  try clear hfz10_1
  try clear hfz10_2
  try clear hfz11_0
  try clear hfz11_1
  try clear hfz11_2
  try clear hfz8_0
  try clear hfz8_1
  try clear hfz8_2
  obtain ⟨kq, x19_2, rfl, HA, HJ2, BK478, HB⟩ := hcut
  cases kq with
  | zero => exact absurd HA.out (by simp [impl_NarrowRules.j0])
  | succ kj2 =>
   have H := HA.out
   clear HA
   simp only [impl_NarrowRules.j0] at H
   by_cases c13 : x19_2 = true
   ·subst c13
    have H1 : (some ([] : List Int)) = some r := by rw [if_pos rfl] at H; exact H
    clear H
    have H := H1
    clear H1
    obtain rfl := Option.some.inj H
    go_wp2
    go_ret
    exact ⟨_, yer, by first | exact Kd.R_nil _ _ _ _ _ | exact Kd.N_nil _ _ _ _ _ | exact Kd.V_nil _ _ _ _ _ | exact Kd.Q_nil _ _ _ _ _ | exact Kd.S_nil _ _ _ _ _, yhb⟩
   replace c13 := Bool.eq_false_iff.mpr c13
   subst c13
   have H1 : ((slices_Clone_int_int.f l1).bind fun t481 => (impl_NarrowRules.l0 kj2 t481 l0_2 (l0_2.length : Int) 0 a0_0 l0_1 l0_2)) = some r := by rw [if_neg (show ¬ (false = true) by decide)] at H; exact H
   clear H
   have H := H1
   clear H1
   replace H := Option.bind_eq_some_iff.mp H
   obtain ⟨t481, A140, H⟩ := H
   try dsimp only at H
   have A14 := yam A140
   clear A140
   have H' := yam H
   clear H
   go_wp2_with (first | (refine goesL_ (some 21) rfl rfl Try.func64 (by kernel_rfl) rfl #[.slice A1 l1.length c1] rfl ymd ?_; (with_reducible refine (slices_Clone_int_int.calls _ _ l1 t481 _ ?side1 ?side2 A14.out).mono ?_); (case side1 => exact Kd.Cz ((Kd.C_below HR1.out HB.out))); (case side2 => exact HC1.out); rintro e w15 ⟨v482, rfl, ho0, hb⟩; refine ⟨_, rfl, ?_⟩; have n0_ := yam (Kd.R_lower ho0 (below_size yhb)); have n1_ := yam (blk_below (g := gb478) (o := .cells #[.int .i64 a0_0, .slice A0_1 l0_1.length c0_1, .slice A0_2 l0_2.length c0_2] 30 (0, 0)) (ybz BK478.out) hb); have n2_ := yam (below_step yhb hb); clear BK478; clear HB; have HO483 := n0_; have BK478 := n1_; have HB := n2_; clear n0_ n1_ n2_; (try clear hb); (try clear hb2); (try clear hk); (try clear hi); (try clear ho0); obtain ⟨hcz16_0, hcz16_1, hcz16_2, hfz16_0, hfz16_1, hfz16_2⟩ := ybc BK478.out))
   go_loopg [25] kj2 (fun kq v25 w' => ∃ (x5_2 : List Int) (x25_2 : Int), v25 = .int .i64 x25_2 ∧ Aside0 (impl_NarrowRules.l0 kq x5_2 l0_2 (l0_2.length : Int) x25_2 a0_0 l0_1 l0_2 = some r) ∧ Aside0 (kq ≤ kj2) ∧ Aside0 (Kd.R (Kd.int .i64) 3 w' w.heap.size (fun _ => True) v482 x5_2) ∧ Aside0 (w'.heap[gb478]? = some (.cells #[.int .i64 a0_0, (.slice A0_1 l0_1.length c0_1), (.slice A0_2 l0_2.length c0_2)] 30 (0, 0))) ∧ Aside0 (Below w.heap.size w w'))
   case atStart => exact ⟨(t481), (0), yeq, H', ⟨Nat.le_refl _⟩, ⟨yka HO483.out⟩, ⟨by (with_reducible repeat (first | refine ybn ?_ _ | refine ybd ?_ | refine yba ?_ _)); exact BK478.out⟩, ⟨yhb⟩⟩
   case round =>
    clear H'
    try clear c1
    try clear p2
    try clear c3
    try clear c6
    try clear c13
    try clear hcz10_0
    try clear hcz10_1
    try clear hcz10_2
    try clear hcz11_0
    try clear hcz11_1
    try clear hcz11_2
    try clear hcz16_0
    try clear hcz16_1
    try clear hcz16_2
    try clear hcz8_0
    try clear hcz8_1
    try clear hcz8_2
    try clear hfz10_0
    try clear hfz10_1
    try clear hfz10_2
    try clear hfz11_0
    try clear hfz11_1
    try clear hfz11_2
    try clear hfz16_0
    try clear hfz16_1
    try clear hfz16_2
    try clear hfz8_0
    try clear hfz8_1
    try clear hfz8_2
    try clear p2
    obtain ⟨x5_2, x25_2, rfl, HA, HK2, HO_5, BK478, HB⟩ := hrel
    cases gk with
    | zero => exact absurd HA.out (by simp [impl_NarrowRules.l0])
    | succ k2 =>
     have H := HA.out
     clear HA
     simp only [impl_NarrowRules.l0] at H
     by_cases c17 : x25_2 < (l0_2.length : Int)
     rotate_left
     ·rw [if_neg c17] at H
      have c17b0 : decide (x25_2 < (l0_2.length : Int)) = false := decide_eq_false c17
      clear c17
      obtain rfl := Option.some.inj H
      go_wp2
      go_ret
      exact ⟨_, yer, yka HO_5.out, yhb⟩

     rw [if_pos c17] at H
     have c17b0 : decide (x25_2 < (l0_2.length : Int)) = true := decide_eq_true c17
     clear c17
     replace H := yif H
     obtain ⟨c18b0, H⟩ := H
     replace H := yif H
     obtain ⟨c19b0, H⟩ := H
     replace H := Option.bind_eq_some_iff.mp H
     obtain ⟨t486, A200, H⟩ := H
     try dsimp only at H
     have A20 := yam A200
     clear A200
     have H' := yam H
     clear H
     have p484 : 0 ≤ (x25_2 : Int) := ydt
     have q484 : x25_2 < (l0_2.length : Int) := ydt
     obtain ⟨ad484, A484_1, c484_1, e484, hx484_0, hx484_1, hx484_2, hl484_1, hi484_1⟩ := at_T67 HR0_2.out x25_2 p484 q484
     cases e484
     replace hx484_0 := ybx HB.out hx484_0
     replace hx484_1 := ybx HB.out hx484_1
     replace hx484_2 := ybx HB.out hx484_2
     have HR484_1 := yam hi484_1
     have HC484_1 := yam hl484_1
     clear hi484_1 hl484_1
     replace p484 := eq_true p484
     replace q484 := eq_true q484
     go_wp2_with (first | (refine ybe 7 #[.int .i64 0, .slice none 0 0, .int .i64 0] 67 ?_; intro gb485 hg w21 hbox hb; have n0_ := yam (Kd.R_below (Kd.Yz HO_5.out) hb); have n1_ := yam (blk_below (g := gb478) (o := .cells #[.int .i64 a0_0, .slice A0_1 l0_1.length c0_1, .slice (some ad484) l0_2.length c0_2] 30 (0, 0)) (ybz BK478.out) hb); have n2_ := yam (below_step yhb hb); have n3_ := yam (hbox); have n4_ := yam ((by rw [hg]; exact (below_size yhb) : w.heap.size ≤ gb485)); have n5_ := n4_; have n6_ := yam ((by rw [hg]; exact Nat.ne_of_lt (blk_lt (g := gb478) (o := .cells #[.int .i64 a0_0, .slice A0_1 l0_1.length c0_1, .slice (some ad484) l0_2.length c0_2] 30 (0, 0)) (ybz BK478.out)) : gb478 ≠ gb485)); have n7_ := yam ((by rw [hg]; exact Nat.ne_of_gt (blk_lt (g := gb478) (o := .cells #[.int .i64 a0_0, .slice A0_1 l0_1.length c0_1, .slice (some ad484) l0_2.length c0_2] 30 (0, 0)) (ybz BK478.out)) : gb485 ≠ gb478)); clear HO_5; clear BK478; clear HB; have HO_5 := n0_; have BK478 := n1_; have HB := n2_; have BK485 := n3_; have GW485 := n4_; have GE485 := n5_; have NB478_485 := n6_; have NB485_478 := n7_; clear n0_ n1_ n2_ n3_ n4_ n5_ n6_ n7_; clear hb hbox hg; have hnb22 := NB485_478.out; have hnc22 := NB478_485.out; obtain ⟨hcz23_0, hcz23_1, hcz23_2, hfz23_0, hfz23_1, hfz23_2⟩ := ybc BK485.out; obtain ⟨hcz24_0, hcz24_1, hcz24_2, hfz24_0, hfz24_1, hfz24_2⟩ := ybc BK478.out; obtain ⟨Ao25, co25, eo25⟩ := Kd.R_slice HO_5.out; subst eo25) | (refine goesL_ (some 33) rfl rfl Try.func83 (by kernel_rfl) rfl #[.agg #[.int .i64 ((rd_T67 l0_2 x25_2).f0), .slice A484_1 ((rd_T67 l0_2 x25_2).f1).length c484_1, .int .i64 ((rd_T67 l0_2 x25_2).f2)], .slice Ao25 x5_2.length co25, .int .i64 a0_0] rfl ymd ?_; (with_reducible refine (impl_RuleMasks.calls k2 ((rd_T67 l0_2 x25_2).f0) _ _ ((rd_T67 l0_2 x25_2).f1) ((rd_T67 l0_2 x25_2).f2) _ _ x5_2 a0_0 t486 _ ?side1 ?side2 ?side3 ?side4 A20.out).mono ?_); (case side1 => exact Kd.C_below HR484_1.out yhb); (case side2 => exact HC484_1.out); (case side3 => refine (Kd.Yr (e := 3) (base := w.heap.size) (ok := fun k_ => True) (n := x5_2.length) (c := co25) ?_).2.2; exact (by (with_reducible repeat (first | apply Kd.Ya | apply Kd.Yn | apply Kd.Yd)); exact (Kd.R_mono (Kd.R_far (p := ⟨gb485, 2, none⟩) (Kd.R_far (p := ⟨gb485, 1, none⟩) (Kd.R_far (p := ⟨gb485, 0, none⟩) (Kd.R_types HO_5.out BK485.out (by decide)) (fun _ hk => hk.2) (.int .i64 ((rd_T67 l0_2 x25_2).f0))) (fun _ hk => hk.2) (.slice A484_1 ((rd_T67 l0_2 x25_2).f1).length c484_1)) (fun _ hk => hk.2) (.int .i64 ((rd_T67 l0_2 x25_2).f2))) (fun _ h_ => h_.1)))); (case side4 => exact (Kd.Yr HO_5.out).2.1); rintro e w26 ⟨v487, rfl, ho0, hb⟩; refine ⟨_, rfl, ?_⟩; have n0_ := yam (Kd.Ye (by (with_reducible repeat (first | apply Kd.Ya | apply Kd.Yn | apply Kd.Yd)); exact (Kd.R_mono (Kd.R_far (p := ⟨gb485, 2, none⟩) (Kd.R_far (p := ⟨gb485, 1, none⟩) (Kd.R_far (p := ⟨gb485, 0, none⟩) (Kd.R_types HO_5.out BK485.out (by decide)) (fun _ hk => hk.2) (.int .i64 ((rd_T67 l0_2 x25_2).f0))) (fun _ hk => hk.2) (.slice A484_1 ((rd_T67 l0_2 x25_2).f1).length c484_1)) (fun _ hk => hk.2) (.int .i64 ((rd_T67 l0_2 x25_2).f2))) (fun _ h_ => h_.1))) (Kd.Yb ho0) hb); have n1_ := yam (Kd.R_lower (Kd.Yw ho0 (Kd.R_lt (by (with_reducible repeat (first | apply Kd.Ya | apply Kd.Yn | apply Kd.Yd)); exact (Kd.R_mono (Kd.R_far (p := ⟨gb485, 2, none⟩) (Kd.R_far (p := ⟨gb485, 1, none⟩) (Kd.R_far (p := ⟨gb485, 0, none⟩) (Kd.R_types HO_5.out BK485.out (by decide)) (fun _ hk => hk.2) (.int .i64 ((rd_T67 l0_2 x25_2).f0))) (fun _ hk => hk.2) (.slice A484_1 ((rd_T67 l0_2 x25_2).f1).length c484_1)) (fun _ hk => hk.2) (.int .i64 ((rd_T67 l0_2 x25_2).f2))) (fun _ h_ => h_.1))))) (below_size yhb)); have n2_ := yam (blk_below (g := gb478) (o := .cells #[.int .i64 a0_0, .slice A0_1 l0_1.length c0_1, .slice (some ad484) l0_2.length c0_2] 30 (0, 0)) (by (with_reducible repeat (first | refine ybn ?_ _ | refine ybd ?_ | refine yba ?_ _)); refine blk_far ?_ NB478_485.out _; (with_reducible repeat (first | refine ybn ?_ _ | refine ybd ?_ | refine yba ?_ _)); refine blk_far ?_ NB478_485.out _; (with_reducible repeat (first | refine ybn ?_ _ | refine ybd ?_ | refine yba ?_ _)); refine blk_far ?_ NB478_485.out _; (with_reducible repeat (first | refine ybn ?_ _ | refine ybd ?_ | refine yba ?_ _)); exact BK478.out) hb); have n3_ := yam (blk_below (g := gb485) (o := .cells #[.int .i64 ((rd_T67 l0_2 x25_2).f0), .slice A484_1 ((rd_T67 l0_2 x25_2).f1).length c484_1, .int .i64 ((rd_T67 l0_2 x25_2).f2)] 67 (0, 0)) (by (with_reducible repeat (first | refine ybn ?_ _ | refine ybd ?_ | refine yba ?_ _)); refine blk_put (cs := #[.int .i64 ((rd_T67 l0_2 x25_2).f0), .slice A484_1 ((rd_T67 l0_2 x25_2).f1).length c484_1, .int .i64 0]) ?_ 2 _ rfl; (with_reducible repeat (first | refine ybn ?_ _ | refine ybd ?_ | refine yba ?_ _)); refine blk_put (cs := #[.int .i64 ((rd_T67 l0_2 x25_2).f0), .slice none 0 0, .int .i64 0]) ?_ 1 _ rfl; (with_reducible repeat (first | refine ybn ?_ _ | refine ybd ?_ | refine yba ?_ _)); refine blk_put (cs := #[.int .i64 0, .slice none 0 0, .int .i64 0]) ?_ 0 _ rfl; (with_reducible repeat (first | refine ybn ?_ _ | refine ybd ?_ | refine yba ?_ _)); exact BK485.out) hb); have n4_ := yam (below_step yhb hb); clear HO_5; clear BK478; clear BK485; clear HB; have HO_5 := n0_; have HO488 := n1_; have BK478 := n2_; have BK485 := n3_; have HB := n4_; clear n0_ n1_ n2_ n3_ n4_; (try clear hb); (try clear hb2); (try clear hk); (try clear hi); (try clear ho0); obtain ⟨Ao27, co27, eo27⟩ := Kd.R_slice HO488.out; subst eo27))
     go_loopg [35] k2 (fun kq v35 w' => ∃ (x5_3 : List Int) (x35_3 : Int), v35 = .int .i64 x35_3 ∧ Aside0 (impl_NarrowRules.l1 kq x5_3 l0_2 (l0_2.length : Int) x25_2 t486 (t486.length : Int) x35_3 a0_0 l0_1 l0_2 ((rd_T67 l0_2 x25_2).f0) ((rd_T67 l0_2 x25_2).f1) ((rd_T67 l0_2 x25_2).f2) = some r) ∧ Aside0 (kq ≤ k2) ∧ Aside0 (Kd.R (Kd.int .i64) 3 w' w.heap.size (fun k_ => some k_ ≠ ((.slice Ao27 t486.length co27) : Value).ownBlock) (.slice Ao25 x5_2.length co25) x5_3) ∧ Aside0 (Kd.R (Kd.int .i64) 3 w' w.heap.size (fun k_ => some k_ ≠ ((.slice Ao25 x5_2.length co25) : Value).ownBlock) (.slice Ao27 t486.length co27) t486) ∧ Aside0 (w'.heap[gb478]? = some (.cells #[.int .i64 a0_0, (.slice A0_1 l0_1.length c0_1), (.slice (some ad484) l0_2.length c0_2)] 30 (0, 0))) ∧ Aside0 (w'.heap[gb485]? = some (.cells #[.int .i64 ((rd_T67 l0_2 x25_2).f0), (.slice A484_1 ((rd_T67 l0_2 x25_2).f1).length c484_1), .int .i64 ((rd_T67 l0_2 x25_2).f2)] 67 (0, 0))) ∧ Aside0 (Below w.heap.size w w'))
     case atStart => exact ⟨(x5_2), (0), yeq, H', ⟨Nat.le_refl _⟩, ⟨by (with_reducible repeat (first | apply Kd.Ya | apply Kd.Yn | apply Kd.Yd)); exact Kd.R_mono HO_5.out (fun _ hk => hk.2)⟩, ⟨by (with_reducible repeat (first | apply Kd.Ya | apply Kd.Yn | apply Kd.Yd)); exact Kd.R_mono HO488.out (fun _ hk => hk.2)⟩, ⟨by (with_reducible repeat (first | refine ybn ?_ _ | refine ybd ?_ | refine yba ?_ _)); exact BK478.out⟩, ⟨by (with_reducible repeat (first | refine ybn ?_ _ | refine ybd ?_ | refine yba ?_ _)); exact BK485.out⟩, ⟨yhb⟩⟩
     case round =>
      clear H'
      try clear c1
      try clear c2
      try clear p2
      try clear c3
      try clear c4
      try clear p4
      try clear q4
      try clear hx4
      try clear c6
      try clear c8
      try clear c13
      try clear c17
      try clear c17b0
      try clear c18
      try clear c18b0
      try clear c19
      try clear c19b0
      try clear c22
      try clear hcz10_0
      try clear hcz10_1
      try clear hcz10_2
      try clear hcz11_0
      try clear hcz11_1
      try clear hcz11_2
      try clear hcz16_0
      try clear hcz16_1
      try clear hcz16_2
      try clear hcz23_0
      try clear hcz23_1
      try clear hcz23_2
      try clear hcz24_0
      try clear hcz24_1
      try clear hcz24_2
      try clear hcz8_0
      try clear hcz8_1
      try clear hcz8_2
      try clear hfz10_0
      try clear hfz10_1
      try clear hfz10_2
      try clear hfz11_0
      try clear hfz11_1
      try clear hfz11_2
      try clear hfz16_0
      try clear hfz16_1
      try clear hfz16_2
      try clear hfz23_0
      try clear hfz23_1
      try clear hfz23_2
      try clear hfz24_0
      try clear hfz24_1
      try clear hfz24_2
      try clear hfz8_0
      try clear hfz8_1
      try clear hfz8_2
      try clear hx484_0
      try clear hx484_1
      try clear hx484_2
      try clear p2
      try clear p484
      try clear q484
      obtain ⟨x5_3, x35_3, rfl, HA, HK3, HO_5, HO_33, BK478, BK485, HB⟩ := hrel
      have hl5_3 := (Kd.Yr HO_5.out).1
      rw [hl5_3] at HO_5
      (try simp only [hl5_3])
      (try simp only [hl5_3] at BK478)
      (try simp only [hl5_3] at BK485)
      (try simp only [hl5_3] at HO_33)
      cases gk with
      | zero => exact absurd HA.out (by simp [impl_NarrowRules.l1])
      | succ k3 =>
       have H := HA.out
       clear HA
       simp only [impl_NarrowRules.l1] at H
       by_cases c28 : x35_3 < (t486.length : Int)
       rotate_left
       ·rw [if_neg c28] at H
        have c28b0 : decide (x35_3 < (t486.length : Int)) = false := decide_eq_false c28
        clear c28
        have H' := yam H
        clear H
        go_wp2
        (try simp only [← hl5_3])
        go_roundg k3
        case measure => have := HJ2.out; have := HK2.out; have := HK3.out; omega
        case rel => exact ⟨(x5_3), (wrap64 (x25_2 + 1)), yeq, H', ⟨by have := HJ2.out; have := HK2.out; have := HK3.out; omega⟩, ⟨by (try simp only [hl5_3]); (with_reducible repeat (first | apply Kd.Ya | apply Kd.Yn | apply Kd.Yd)); exact Kd.R_mono HO_5.out (fun _ hk => trivial)⟩, ⟨by (try simp only [hl5_3]); (with_reducible repeat (first | refine ybn ?_ _ | refine ybd ?_ | refine yba ?_ _)); exact BK478.out⟩, ⟨yhb⟩⟩
       rw [if_pos c28] at H
       have c28b0 : decide (x35_3 < (t486.length : Int)) = true := decide_eq_true c28
       clear c28
       replace H := yif H
       obtain ⟨c29b0, H⟩ := H
       replace H := yif H
       obtain ⟨c30b0, H⟩ := H
       replace H := yif H
       obtain ⟨c31b0, H⟩ := H
       replace H := yif H
       obtain ⟨c32b0, H⟩ := H
       replace H := yif H
       obtain ⟨c33b0, H⟩ := H
       obtain ⟨y491, hy491⟩ : ∃ y_ : List Int, y_ = (x5_3.set ((rd ((rd_T67 l0_2 x25_2).f1) x35_3) : Int).toNat (rd t486 x35_3)) := ⟨_, rfl⟩
       replace H : (impl_NarrowRules.l1 k3 y491 l0_2 (l0_2.length : Int) x25_2 t486 (t486.length : Int) (wrap64 (x35_3 + 1)) a0_0 l0_1 l0_2 ((rd_T67 l0_2 x25_2).f0) ((rd_T67 l0_2 x25_2).f1) ((rd_T67 l0_2 x25_2).f2)) = some r := by first | (rw [hy491]; with_reducible exact H) | (have H2_ := (Option.bind_some _ _).symm.trans H; rw [hy491]; with_reducible exact H2_) | (have H2_ := (Option.bind_some _ _).symm.trans H; with_reducible exact H2_) | with_reducible exact H | (rw [hy491]; exact H) | exact H
       have Ny491 := yam hy491
       clear hy491
       have H' := yam H
       clear H
       have p489 : 0 ≤ (x35_3 : Int) := ydt
       have q489 : x35_3 < (t486.length : Int) := ydt
       obtain ⟨ad489, e489, hx489_0⟩ := Kd.at_int (Kd.Yr HO_33.out).2.2 x35_3 p489 q489
       cases e489
       replace p489 := eq_true p489
       replace q489 := eq_true q489
       have hnb35 := NB485_478.out
       have hnc35 := NB478_485.out
       obtain ⟨hcz36_0, hcz36_1, hcz36_2, hfz36_0, hfz36_1, hfz36_2⟩ := ybc BK485.out
       have p490 : 0 ≤ (x35_3 : Int) := ydt
       have q490 : x35_3 < (((rd_T67 l0_2 x25_2).f1).length : Int) := ydt
       obtain ⟨ad490, e490, hx490_0⟩ := Kd.at_int HR484_1.out x35_3 p490 q490
       cases e490
       replace hx490_0 := ybx HB.out hx490_0
       replace p490 := eq_true p490
       replace q490 := eq_true q490
       have p34 : 0 ≤ ((rd ((rd_T67 l0_2 x25_2).f1) x35_3) : Int) := ydt
       have q34 : ((rd ((rd_T67 l0_2 x25_2).f1) x35_3) : Int) < ((x5_3.length : Int) : Int) := ydt
       obtain ⟨go34, co34, eo34, gb34, gl34, cl34, HG34⟩ := Kd.R_form HO_5.out (by omega)
       (first | cases eo34 | (injection eo34 with ea_ en_ ec_; (first | subst ea_ | (injection ea_ with ea_; subst ea_)); subst ec_; clear en_))
       have GB34 := yam gb34
       have GG34 := yam HG34
       clear gb34 gl34 HG34
       obtain ⟨hx34_0, hf34_0⟩ := Kd.R_celln 0 HO_5.out ((rd ((rd_T67 l0_2 x25_2).f1) x35_3) : Int) p34 q34
       replace p34 := eq_true p34
       replace q34 := eq_true q34
       have HP37 := Kd.R_putg HO_5.out ((rd ((rd_T67 l0_2 x25_2).f1) x35_3) : Int) (rd t486 x35_3)
       go_wp2_with (first | ((with_reducible refine gate_store (t := 3) (p := 47) rfl ?_); refine store_event (t := 3) (p := 47) (v := ?vo_w38) (w1 := (wr.setCell ⟨go34, ((rd ((rd_T67 l0_2 x25_2).f1) x35_3) : Int).toNat, none⟩ (.int .i64 (rd t486 x35_3)))) ?hg ?ho ?hn ?hr ?_; (case ho => rfl); (case hg => rfl); (case hn => rfl); (case hr => first | (go_simp; done) | (go_simp; rfl)); intro w38 hw; have hg : wr.grownBy w38 (some go34) := (by rw [hw]; exact HP37.2); have hp_ : Kd.R (Kd.int .i64) 3 w38 w.heap.size (fun k_ => some k_ ≠ (.slice (some ad489) t486.length co27 : Value).ownBlock) (.slice (some ⟨go34, 0, none⟩) x5_3.length co25) y491 := (by rw [hw, Ny491.out]; exact HP37.1); clear HP37; have n0_ := yam (hp_); have n1_ := yam (Kd.R_after (v := (.slice (some ⟨go34, 0, none⟩) x5_3.length co25)) (v1 := (.slice (some ⟨go34, 0, none⟩) x5_3.length co25)) (ok := (fun _ => True)) (by (with_reducible repeat (first | apply Kd.Ya | apply Kd.Yn | apply Kd.Yd)); exact Kd.R_mono HO_33.out (fun _ hk => ⟨trivial, hk⟩)) hg (.inl rfl)); have n2_ := yam (blk_grown (g := gb478) (o := .cells #[.int .i64 a0_0, .slice A0_1 l0_1.length c0_1, .slice (some ad484) l0_2.length c0_2] 30 (0, 0)) (ybz BK478.out) hg (Kd.R_ne HO_5.out BK478.out (by decide))); have n3_ := yam (blk_grown (g := gb485) (o := .cells #[.int .i64 ((rd_T67 l0_2 x25_2).f0), .slice (some ad490) ((rd_T67 l0_2 x25_2).f1).length c484_1, .int .i64 ((rd_T67 l0_2 x25_2).f2)] 67 (0, 0)) (ybz BK485.out) hg (Kd.R_ne HO_5.out BK485.out (by decide))); have n4_ := yam ((by rw [hw]; exact below_set (HB.out) GB34.out : Below w.heap.size w w38)); clear HO_5; clear HO_33; clear BK478; clear BK485; clear HB; have HO_5 := n0_; have HO_33 := n1_; have BK478 := n2_; have BK485 := n3_; have HB := n4_; clear n0_ n1_ n2_ n3_ n4_; clear hg hw hp_))
       (try simp only [← hl5_3])
       go_roundg k3
       case measure => have := HJ2.out; have := HK2.out; have := HK3.out; omega
       case rel => exact ⟨(y491), (wrap64 (x35_3 + 1)), yeq, H', ⟨by have := HJ2.out; have := HK2.out; have := HK3.out; omega⟩, ⟨by (try simp only [hl5_3]); (with_reducible repeat (first | apply Kd.Ya | apply Kd.Yn | apply Kd.Yd)); exact HO_5.out⟩, ⟨by (try simp only [hl5_3]); (with_reducible repeat (first | apply Kd.Ya | apply Kd.Yn | apply Kd.Yd)); exact Kd.R_mono HO_33.out (fun _ hk => hk.2)⟩, ⟨by (try simp only [hl5_3]); (with_reducible repeat (first | refine ybn ?_ _ | refine ybd ?_ | refine yba ?_ _)); exact BK478.out⟩, ⟨by (try simp only [hl5_3]); (with_reducible repeat (first | refine ybn ?_ _ | refine ybd ?_ | refine yba ?_ _)); exact BK485.out⟩, ⟨yhb⟩⟩
def impl_NarrowBy.f (k : Nat) (a0_0 : Int) (l0_1 : List Int) (l0_2 : List (S67)) (l1 : List Int) (a2 : Int) : Option (List Int) := (impl_PuzzleValid.f k a0_0 l0_1 l0_2).bind fun t493 => (if t493 = true then (if a2 = 1 then ((impl_NarrowSingles.f k l1 a0_0).bind fun t494 => (some t494)) else (if a2 = 2 then ((impl_NarrowHidden.f k l1 a0_0).bind fun t497 => (some t497)) else (if a2 = 3 then ((impl_NarrowPairs.f k l1 a0_0).bind fun t500 => (some t500)) else (if a2 = 4 then ((impl_NarrowRules.f k a0_0 l0_1 l0_2 l1).bind fun t503 => (some t503)) else (some ([] : List Int)))))) else (some ([] : List Int)))
set_option maxHeartbeats 8000000 in
set_option maxRecDepth 100000 in
theorem impl_NarrowBy.calls (k : Nat) (a0_0 : Int) (A0_1 : Option Addr) (c0_1 : Nat) (l0_1 : List Int) (A0_2 : Option Addr) (c0_2 : Nat) (l0_2 : List (S67)) (A1 : Option Addr) (c1 : Nat) (l1 : List Int) (a2 : Int) (r : List Int) (w : World) (hr0_1 : Kd.C (Kd.int .i64) w A0_1 l0_1.length l0_1) (hc0_1 : l0_1.length ≤ c0_1) (hr0_2 : Kd.C k67 w A0_2 l0_2.length l0_2) (hc0_2 : l0_2.length ≤ c0_2) (hr1 : Kd.C (Kd.int .i64) w A1 l1.length l1) (hc1 : l1.length ≤ c1) (h : impl_NarrowBy.f k a0_0 l0_1 l0_2 l1 a2 = some r) :
  Calls Try.prog 27 #[.agg #[.int .i64 a0_0, .slice A0_1 l0_1.length c0_1, .slice A0_2 l0_2.length c0_2], .slice A1 l1.length c1, .int .i64 a2] w fun e w' => ∃ v0_ : Value, e = .returned (v0_) ∧ Kd.R (Kd.int .i64) 3 w' w.heap.size (fun _ => True) v0_ r ∧ Below w.heap.size w w' := by
 have hu30 := Try.underlying30
 have HR0_1 := yam hr0_1
 have HC0_1 := yam hc0_1
 clear hr0_1 hc0_1
 have HR0_2 := yam hr0_2
 have HC0_2 := yam hc0_2
 clear hr0_2 hc0_2
 have HR1 := yam hr1
 have HC1 := yam hc1
 clear hr1 hc1
 have HB := yam (Below.refl w.heap.size w)
 have H : ((impl_PuzzleValid.f k a0_0 l0_1 l0_2).bind fun t493 => (if t493 = true then (if a2 = 1 then ((impl_NarrowSingles.f k l1 a0_0).bind fun t494 => (some t494)) else (if a2 = 2 then ((impl_NarrowHidden.f k l1 a0_0).bind fun t497 => (some t497)) else (if a2 = 3 then ((impl_NarrowPairs.f k l1 a0_0).bind fun t500 => (some t500)) else (if a2 = 4 then ((impl_NarrowRules.f k a0_0 l0_1 l0_2 l1).bind fun t503 => (some t503)) else (some ([] : List Int)))))) else (some ([] : List Int)))) = some r := h
 clear h
 replace H := Option.bind_eq_some_iff.mp H
 obtain ⟨t493, A40, H⟩ := H
 try dsimp only at H
 have A4 := yam A40
 clear A40
 by_cases c5 : t493 = true
 rotate_left
 ·replace c5 := Bool.eq_false_iff.mpr c5
  subst c5
  have H1 : (some ([] : List Int)) = some r := by rw [if_neg (show ¬ (false = true) by decide)] at H; exact H
  clear H
  have H := H1
  clear H1
  obtain rfl := Option.some.inj H
  go_enter Try.func27, Try.ntmps27
  go_wp2_with (first | (refine ybe 3 #[.int .i64 a0_0, .slice A0_1 l0_1.length c0_1, .slice A0_2 l0_2.length c0_2] 30 ?_; intro gb492 hg w37 hbox hb; have n0_ := yam (below_step (yez HB.out) hb); have n1_ := yam (hbox); have n2_ := yam ((by rw [hg]; exact (below_size (yez HB.out)) : w.heap.size ≤ gb492)); have n3_ := n2_; clear HB; have HB := n0_; have BK492 := n1_; have GW492 := n2_; have GE492 := n3_; clear n0_ n1_ n2_ n3_; clear hb hbox hg; obtain ⟨hcz38_0, hcz38_1, hcz38_2, hfz38_0, hfz38_1, hfz38_2⟩ := ybc BK492.out) | (refine goesL_ (some 8) rfl rfl Try.func36 (by kernel_rfl) rfl #[.agg #[.int .i64 a0_0, .slice A0_1 l0_1.length c0_1, .slice A0_2 l0_2.length c0_2]] rfl ymd ?_; (with_reducible refine (impl_PuzzleValid.calls k a0_0 _ _ l0_1 _ _ l0_2 false _ ?side1 ?side2 ?side3 ?side4 A4.out).mono ?_); (case side1 => exact Kd.Cz ((Kd.C_below HR0_1.out HB.out))); (case side2 => exact HC0_1.out); (case side3 => exact Kd.Cz ((Kd.C_below HR0_2.out HB.out))); (case side4 => exact HC0_2.out); rintro e w39 ⟨rfl, hb⟩; refine ⟨_, rfl, ?_⟩; have n0_ := yam (blk_below (g := gb492) (o := .cells #[.int .i64 a0_0, .slice A0_1 l0_1.length c0_1, .slice A0_2 l0_2.length c0_2] 30 (0, 0)) (ybz BK492.out) hb); have n1_ := yam (below_step yhb hb); clear BK492; clear HB; have BK492 := n0_; have HB := n1_; clear n0_ n1_; (try clear hb); (try clear hb2); (try clear hk); (try clear hi)))
  go_ret
  exact ⟨_, yer, by first | exact Kd.R_nil _ _ _ _ _ | exact Kd.N_nil _ _ _ _ _ | exact Kd.V_nil _ _ _ _ _ | exact Kd.Q_nil _ _ _ _ _ | exact Kd.S_nil _ _ _ _ _, yhb⟩

 subst c5
 have H1 : (if a2 = 1 then ((impl_NarrowSingles.f k l1 a0_0).bind fun t494 => (some t494)) else (if a2 = 2 then ((impl_NarrowHidden.f k l1 a0_0).bind fun t497 => (some t497)) else (if a2 = 3 then ((impl_NarrowPairs.f k l1 a0_0).bind fun t500 => (some t500)) else (if a2 = 4 then ((impl_NarrowRules.f k a0_0 l0_1 l0_2 l1).bind fun t503 => (some t503)) else (some ([] : List Int)))))) = some r := by rw [if_pos rfl] at H; exact H
 clear H
 have H := H1
 clear H1
 by_cases c6 : a2 = 1
 ·rw [if_pos c6] at H
  have c6b0 : (a2 == 1) = true := beq_iff_eq.mpr c6
  have c6b1 : (a2 != 1) = false := bne_eq_false_iff_eq.mpr c6
  clear c6
  replace H := Option.bind_eq_some_iff.mp H
  obtain ⟨t494, A70, H⟩ := H
  try dsimp only at H
  have A7 := yam A70
  clear A70
  obtain rfl := Option.some.inj H
  go_enter Try.func27, Try.ntmps27
  go_wp2_with (first | (refine ybe 3 #[.int .i64 a0_0, .slice A0_1 l0_1.length c0_1, .slice A0_2 l0_2.length c0_2] 30 ?_; intro gb492 hg w8 hbox hb; have n0_ := yam (below_step (yez HB.out) hb); have n1_ := yam (hbox); have n2_ := yam ((by rw [hg]; exact (below_size (yez HB.out)) : w.heap.size ≤ gb492)); have n3_ := n2_; clear HB; have HB := n0_; have BK492 := n1_; have GW492 := n2_; have GE492 := n3_; clear n0_ n1_ n2_ n3_; clear hb hbox hg; obtain ⟨hcz9_0, hcz9_1, hcz9_2, hfz9_0, hfz9_1, hfz9_2⟩ := ybc BK492.out) | (refine goesL_ (some 8) rfl rfl Try.func36 (by kernel_rfl) rfl #[.agg #[.int .i64 a0_0, .slice A0_1 l0_1.length c0_1, .slice A0_2 l0_2.length c0_2]] rfl ymd ?_; (with_reducible refine (impl_PuzzleValid.calls k a0_0 _ _ l0_1 _ _ l0_2 true _ ?side1 ?side2 ?side3 ?side4 A4.out).mono ?_); (case side1 => exact Kd.Cz ((Kd.C_below HR0_1.out HB.out))); (case side2 => exact HC0_1.out); (case side3 => exact Kd.Cz ((Kd.C_below HR0_2.out HB.out))); (case side4 => exact HC0_2.out); rintro e w10 ⟨rfl, hb⟩; refine ⟨_, rfl, ?_⟩; have n0_ := yam (blk_below (g := gb492) (o := .cells #[.int .i64 a0_0, .slice A0_1 l0_1.length c0_1, .slice A0_2 l0_2.length c0_2] 30 (0, 0)) (ybz BK492.out) hb); have n1_ := yam (below_step yhb hb); clear BK492; clear HB; have BK492 := n0_; have HB := n1_; clear n0_ n1_; (try clear hb); (try clear hb2); (try clear hk); (try clear hi); obtain ⟨hcz11_0, hcz11_1, hcz11_2, hfz11_0, hfz11_1, hfz11_2⟩ := ybc BK492.out) | (refine goesL_ (some 16) rfl rfl Try.func58 (by kernel_rfl) rfl #[.slice A1 l1.length c1, .int .i64 a0_0] rfl ymd ?_; (with_reducible refine (impl_NarrowSingles.calls k _ _ l1 a0_0 t494 _ ?side1 ?side2 A7.out).mono ?_); (case side1 => exact Kd.Cz ((Kd.C_below HR1.out HB.out))); (case side2 => exact HC1.out); rintro e w12 ⟨v495, rfl, ho0, hb⟩; refine ⟨_, rfl, ?_⟩; have n0_ := yam (Kd.R_lower ho0 (below_size yhb)); have n1_ := yam (blk_below (g := gb492) (o := .cells #[.int .i64 a0_0, .slice A0_1 l0_1.length c0_1, .slice A0_2 l0_2.length c0_2] 30 (0, 0)) (ybz BK492.out) hb); have n2_ := yam (below_step yhb hb); clear BK492; clear HB; have HO496 := n0_; have BK492 := n1_; have HB := n2_; clear n0_ n1_ n2_; (try clear hb); (try clear hb2); (try clear hk); (try clear hi); (try clear ho0)))
  go_ret
  exact ⟨_, yer, yka HO496.out, yhb⟩
 rw [if_neg c6] at H
 have c6b0 : (a2 == 1) = false := beq_eq_false_iff_ne.mpr c6
 have c6b1 : (a2 != 1) = true := bne_iff_ne.mpr c6
 by_cases c13 : a2 = 2
 ·rw [if_pos c13] at H
  have c13b0 : (a2 == 2) = true := beq_iff_eq.mpr c13
  have c13b1 : (a2 != 2) = false := bne_eq_false_iff_eq.mpr c13
  clear c13
  replace H := Option.bind_eq_some_iff.mp H
  obtain ⟨t497, A140, H⟩ := H
  try dsimp only at H
  have A14 := yam A140
  clear A140
  obtain rfl := Option.some.inj H
  go_enter Try.func27, Try.ntmps27
  go_wp2_with (first | (refine ybe 3 #[.int .i64 a0_0, .slice A0_1 l0_1.length c0_1, .slice A0_2 l0_2.length c0_2] 30 ?_; intro gb492 hg w15 hbox hb; have n0_ := yam (below_step (yez HB.out) hb); have n1_ := yam (hbox); have n2_ := yam ((by rw [hg]; exact (below_size (yez HB.out)) : w.heap.size ≤ gb492)); have n3_ := n2_; clear HB; have HB := n0_; have BK492 := n1_; have GW492 := n2_; have GE492 := n3_; clear n0_ n1_ n2_ n3_; clear hb hbox hg; obtain ⟨hcz16_0, hcz16_1, hcz16_2, hfz16_0, hfz16_1, hfz16_2⟩ := ybc BK492.out) | (refine goesL_ (some 8) rfl rfl Try.func36 (by kernel_rfl) rfl #[.agg #[.int .i64 a0_0, .slice A0_1 l0_1.length c0_1, .slice A0_2 l0_2.length c0_2]] rfl ymd ?_; (with_reducible refine (impl_PuzzleValid.calls k a0_0 _ _ l0_1 _ _ l0_2 true _ ?side1 ?side2 ?side3 ?side4 A4.out).mono ?_); (case side1 => exact Kd.Cz ((Kd.C_below HR0_1.out HB.out))); (case side2 => exact HC0_1.out); (case side3 => exact Kd.Cz ((Kd.C_below HR0_2.out HB.out))); (case side4 => exact HC0_2.out); rintro e w17 ⟨rfl, hb⟩; refine ⟨_, rfl, ?_⟩; have n0_ := yam (blk_below (g := gb492) (o := .cells #[.int .i64 a0_0, .slice A0_1 l0_1.length c0_1, .slice A0_2 l0_2.length c0_2] 30 (0, 0)) (ybz BK492.out) hb); have n1_ := yam (below_step yhb hb); clear BK492; clear HB; have BK492 := n0_; have HB := n1_; clear n0_ n1_; (try clear hb); (try clear hb2); (try clear hk); (try clear hi); obtain ⟨hcz18_0, hcz18_1, hcz18_2, hfz18_0, hfz18_1, hfz18_2⟩ := ybc BK492.out) | (refine goesL_ (some 22) rfl rfl Try.func59 (by kernel_rfl) rfl #[.slice A1 l1.length c1, .int .i64 a0_0] rfl ymd ?_; (with_reducible refine (impl_NarrowHidden.calls k _ _ l1 a0_0 t497 _ ?side1 ?side2 A14.out).mono ?_); (case side1 => exact Kd.Cz ((Kd.C_below HR1.out HB.out))); (case side2 => exact HC1.out); rintro e w19 ⟨v498, rfl, ho0, hb⟩; refine ⟨_, rfl, ?_⟩; have n0_ := yam (Kd.R_lower ho0 (below_size yhb)); have n1_ := yam (blk_below (g := gb492) (o := .cells #[.int .i64 a0_0, .slice A0_1 l0_1.length c0_1, .slice A0_2 l0_2.length c0_2] 30 (0, 0)) (ybz BK492.out) hb); have n2_ := yam (below_step yhb hb); clear BK492; clear HB; have HO499 := n0_; have BK492 := n1_; have HB := n2_; clear n0_ n1_ n2_; (try clear hb); (try clear hb2); (try clear hk); (try clear hi); (try clear ho0)))
  go_ret
  exact ⟨_, yer, yka HO499.out, yhb⟩
 rw [if_neg c13] at H
 have c13b0 : (a2 == 2) = false := beq_eq_false_iff_ne.mpr c13
 have c13b1 : (a2 != 2) = true := bne_iff_ne.mpr c13
 by_cases c20 : a2 = 3
 ·rw [if_pos c20] at H
  have c20b0 : (a2 == 3) = true := beq_iff_eq.mpr c20
  have c20b1 : (a2 != 3) = false := bne_eq_false_iff_eq.mpr c20
  clear c20
  replace H := Option.bind_eq_some_iff.mp H
  obtain ⟨t500, A210, H⟩ := H
  try dsimp only at H
  have A21 := yam A210
  clear A210
  obtain rfl := Option.some.inj H
  go_enter Try.func27, Try.ntmps27
  go_wp2_with (first | (refine ybe 3 #[.int .i64 a0_0, .slice A0_1 l0_1.length c0_1, .slice A0_2 l0_2.length c0_2] 30 ?_; intro gb492 hg w22 hbox hb; have n0_ := yam (below_step (yez HB.out) hb); have n1_ := yam (hbox); have n2_ := yam ((by rw [hg]; exact (below_size (yez HB.out)) : w.heap.size ≤ gb492)); have n3_ := n2_; clear HB; have HB := n0_; have BK492 := n1_; have GW492 := n2_; have GE492 := n3_; clear n0_ n1_ n2_ n3_; clear hb hbox hg; obtain ⟨hcz23_0, hcz23_1, hcz23_2, hfz23_0, hfz23_1, hfz23_2⟩ := ybc BK492.out) | (refine goesL_ (some 8) rfl rfl Try.func36 (by kernel_rfl) rfl #[.agg #[.int .i64 a0_0, .slice A0_1 l0_1.length c0_1, .slice A0_2 l0_2.length c0_2]] rfl ymd ?_; (with_reducible refine (impl_PuzzleValid.calls k a0_0 _ _ l0_1 _ _ l0_2 true _ ?side1 ?side2 ?side3 ?side4 A4.out).mono ?_); (case side1 => exact Kd.Cz ((Kd.C_below HR0_1.out HB.out))); (case side2 => exact HC0_1.out); (case side3 => exact Kd.Cz ((Kd.C_below HR0_2.out HB.out))); (case side4 => exact HC0_2.out); rintro e w24 ⟨rfl, hb⟩; refine ⟨_, rfl, ?_⟩; have n0_ := yam (blk_below (g := gb492) (o := .cells #[.int .i64 a0_0, .slice A0_1 l0_1.length c0_1, .slice A0_2 l0_2.length c0_2] 30 (0, 0)) (ybz BK492.out) hb); have n1_ := yam (below_step yhb hb); clear BK492; clear HB; have BK492 := n0_; have HB := n1_; clear n0_ n1_; (try clear hb); (try clear hb2); (try clear hk); (try clear hi); obtain ⟨hcz25_0, hcz25_1, hcz25_2, hfz25_0, hfz25_1, hfz25_2⟩ := ybc BK492.out) | (refine goesL_ (some 28) rfl rfl Try.func60 (by kernel_rfl) rfl #[.slice A1 l1.length c1, .int .i64 a0_0] rfl ymd ?_; (with_reducible refine (impl_NarrowPairs.calls k _ _ l1 a0_0 t500 _ ?side1 ?side2 A21.out).mono ?_); (case side1 => exact Kd.Cz ((Kd.C_below HR1.out HB.out))); (case side2 => exact HC1.out); rintro e w26 ⟨v501, rfl, ho0, hb⟩; refine ⟨_, rfl, ?_⟩; have n0_ := yam (Kd.R_lower ho0 (below_size yhb)); have n1_ := yam (blk_below (g := gb492) (o := .cells #[.int .i64 a0_0, .slice A0_1 l0_1.length c0_1, .slice A0_2 l0_2.length c0_2] 30 (0, 0)) (ybz BK492.out) hb); have n2_ := yam (below_step yhb hb); clear BK492; clear HB; have HO502 := n0_; have BK492 := n1_; have HB := n2_; clear n0_ n1_ n2_; (try clear hb); (try clear hb2); (try clear hk); (try clear hi); (try clear ho0)))
  go_ret
  exact ⟨_, yer, yka HO502.out, yhb⟩
 rw [if_neg c20] at H
 have c20b0 : (a2 == 3) = false := beq_eq_false_iff_ne.mpr c20
 have c20b1 : (a2 != 3) = true := bne_iff_ne.mpr c20
 by_cases c27 : a2 = 4
 rotate_left
 ·rw [if_neg c27] at H
  have c27b0 : (a2 == 4) = false := beq_eq_false_iff_ne.mpr c27
  have c27b1 : (a2 != 4) = true := bne_iff_ne.mpr c27
  obtain rfl := Option.some.inj H
  go_enter Try.func27, Try.ntmps27
  go_wp2_with (first | (refine ybe 3 #[.int .i64 a0_0, .slice A0_1 l0_1.length c0_1, .slice A0_2 l0_2.length c0_2] 30 ?_; intro gb492 hg w34 hbox hb; have n0_ := yam (below_step (yez HB.out) hb); have n1_ := yam (hbox); have n2_ := yam ((by rw [hg]; exact (below_size (yez HB.out)) : w.heap.size ≤ gb492)); have n3_ := n2_; clear HB; have HB := n0_; have BK492 := n1_; have GW492 := n2_; have GE492 := n3_; clear n0_ n1_ n2_ n3_; clear hb hbox hg; obtain ⟨hcz35_0, hcz35_1, hcz35_2, hfz35_0, hfz35_1, hfz35_2⟩ := ybc BK492.out) | (refine goesL_ (some 8) rfl rfl Try.func36 (by kernel_rfl) rfl #[.agg #[.int .i64 a0_0, .slice A0_1 l0_1.length c0_1, .slice A0_2 l0_2.length c0_2]] rfl ymd ?_; (with_reducible refine (impl_PuzzleValid.calls k a0_0 _ _ l0_1 _ _ l0_2 true _ ?side1 ?side2 ?side3 ?side4 A4.out).mono ?_); (case side1 => exact Kd.Cz ((Kd.C_below HR0_1.out HB.out))); (case side2 => exact HC0_1.out); (case side3 => exact Kd.Cz ((Kd.C_below HR0_2.out HB.out))); (case side4 => exact HC0_2.out); rintro e w36 ⟨rfl, hb⟩; refine ⟨_, rfl, ?_⟩; have n0_ := yam (blk_below (g := gb492) (o := .cells #[.int .i64 a0_0, .slice A0_1 l0_1.length c0_1, .slice A0_2 l0_2.length c0_2] 30 (0, 0)) (ybz BK492.out) hb); have n1_ := yam (below_step yhb hb); clear BK492; clear HB; have BK492 := n0_; have HB := n1_; clear n0_ n1_; (try clear hb); (try clear hb2); (try clear hk); (try clear hi)))
  go_ret
  exact ⟨_, yer, by first | exact Kd.R_nil _ _ _ _ _ | exact Kd.N_nil _ _ _ _ _ | exact Kd.V_nil _ _ _ _ _ | exact Kd.Q_nil _ _ _ _ _ | exact Kd.S_nil _ _ _ _ _, yhb⟩
 rw [if_pos c27] at H
 have c27b0 : (a2 == 4) = true := beq_iff_eq.mpr c27
 have c27b1 : (a2 != 4) = false := bne_eq_false_iff_eq.mpr c27
 clear c27
 replace H := Option.bind_eq_some_iff.mp H
 obtain ⟨t503, A280, H⟩ := H
 try dsimp only at H
 have A28 := yam A280
 clear A280
 obtain rfl := Option.some.inj H
 go_enter Try.func27, Try.ntmps27
 go_wp2_with (first | (refine ybe 3 #[.int .i64 a0_0, .slice A0_1 l0_1.length c0_1, .slice A0_2 l0_2.length c0_2] 30 ?_; intro gb492 hg w29 hbox hb; have n0_ := yam (below_step (yez HB.out) hb); have n1_ := yam (hbox); have n2_ := yam ((by rw [hg]; exact (below_size (yez HB.out)) : w.heap.size ≤ gb492)); have n3_ := n2_; clear HB; have HB := n0_; have BK492 := n1_; have GW492 := n2_; have GE492 := n3_; clear n0_ n1_ n2_ n3_; clear hb hbox hg; obtain ⟨hcz30_0, hcz30_1, hcz30_2, hfz30_0, hfz30_1, hfz30_2⟩ := ybc BK492.out) | (refine goesL_ (some 8) rfl rfl Try.func36 (by kernel_rfl) rfl #[.agg #[.int .i64 a0_0, .slice A0_1 l0_1.length c0_1, .slice A0_2 l0_2.length c0_2]] rfl ymd ?_; (with_reducible refine (impl_PuzzleValid.calls k a0_0 _ _ l0_1 _ _ l0_2 true _ ?side1 ?side2 ?side3 ?side4 A4.out).mono ?_); (case side1 => exact Kd.Cz ((Kd.C_below HR0_1.out HB.out))); (case side2 => exact HC0_1.out); (case side3 => exact Kd.Cz ((Kd.C_below HR0_2.out HB.out))); (case side4 => exact HC0_2.out); rintro e w31 ⟨rfl, hb⟩; refine ⟨_, rfl, ?_⟩; have n0_ := yam (blk_below (g := gb492) (o := .cells #[.int .i64 a0_0, .slice A0_1 l0_1.length c0_1, .slice A0_2 l0_2.length c0_2] 30 (0, 0)) (ybz BK492.out) hb); have n1_ := yam (below_step yhb hb); clear BK492; clear HB; have BK492 := n0_; have HB := n1_; clear n0_ n1_; (try clear hb); (try clear hb2); (try clear hk); (try clear hi); obtain ⟨hcz32_0, hcz32_1, hcz32_2, hfz32_0, hfz32_1, hfz32_2⟩ := ybc BK492.out) | (refine goesL_ (some 33) rfl rfl Try.func61 (by kernel_rfl) rfl #[.agg #[.int .i64 a0_0, .slice A0_1 l0_1.length c0_1, .slice A0_2 l0_2.length c0_2], .slice A1 l1.length c1] rfl ymd ?_; (with_reducible refine (impl_NarrowRules.calls k a0_0 _ _ l0_1 _ _ l0_2 _ _ l1 t503 _ ?side1 ?side2 ?side3 ?side4 ?side5 ?side6 A28.out).mono ?_); (case side1 => exact Kd.Cz ((Kd.C_below HR0_1.out HB.out))); (case side2 => exact HC0_1.out); (case side3 => exact Kd.Cz ((Kd.C_below HR0_2.out HB.out))); (case side4 => exact HC0_2.out); (case side5 => exact Kd.Cz ((Kd.C_below HR1.out HB.out))); (case side6 => exact HC1.out); rintro e w33 ⟨v504, rfl, ho0, hb⟩; refine ⟨_, rfl, ?_⟩; have n0_ := yam (Kd.R_lower ho0 (below_size yhb)); have n1_ := yam (blk_below (g := gb492) (o := .cells #[.int .i64 a0_0, .slice A0_1 l0_1.length c0_1, .slice A0_2 l0_2.length c0_2] 30 (0, 0)) (ybz BK492.out) hb); have n2_ := yam (below_step yhb hb); clear BK492; clear HB; have HO505 := n0_; have BK492 := n1_; have HB := n2_; clear n0_ n1_ n2_; (try clear hb); (try clear hb2); (try clear hk); (try clear hi); (try clear ho0)))
 go_ret
 exact ⟨_, yer, yka HO505.out, yhb⟩
def slices_Equal_int_int.l0 : Nat → List Int → List Int → Int → Int → Option (Bool)
 | 0, _, _, _, _ => none
 | k + 1, x0, x1, x12, x13 => if x13 < x12 then (if 0 ≤ x13 then (if x13 < (x0.length : Int) then (if x13 < (x1.length : Int) then (if (rd x0 x13) = (rd x1 x13) then (slices_Equal_int_int.l0 k x0 x1 x12 (wrap64 (x13 + 1))) else (some false)) else (none)) else (none)) else (none)) else (some true)
def slices_Equal_int_int.f (k : Nat) (l0 : List Int) (l1 : List Int) : Option (Bool) := if (l0.length : Int) = (l1.length : Int) then (slices_Equal_int_int.l0 k l0 l1 (l0.length : Int) 0) else (some false)
set_option maxHeartbeats 8000000 in
set_option maxRecDepth 100000 in
theorem slices_Equal_int_int.calls (k : Nat) (A0 : Option Addr) (c0 : Nat) (l0 : List Int) (A1 : Option Addr) (c1 : Nat) (l1 : List Int) (r : Bool) (w : World) (hr0 : Kd.C (Kd.int .i64) w A0 l0.length l0) (hc0 : l0.length ≤ c0) (hr1 : Kd.C (Kd.int .i64) w A1 l1.length l1) (hc1 : l1.length ≤ c1) (h : slices_Equal_int_int.f k l0 l1 = some r) :
  Calls Try.prog 74 #[.slice A0 l0.length c0, .slice A1 l1.length c1] w fun e w' => e = .returned (.bool r) ∧ Drawn0 w w' := by
 have HR0 := yam hr0
 have HC0 := yam hc0
 clear hr0 hc0
 have HR1 := yam hr1
 have HC1 := yam hc1
 clear hr1 hc1
 have H : (if (l0.length : Int) = (l1.length : Int) then (slices_Equal_int_int.l0 k l0 l1 (l0.length : Int) 0) else (some false)) = some r := h
 clear h
 by_cases c3 : (l0.length : Int) = (l1.length : Int)
 rotate_left
 ·rw [if_neg c3] at H
  have c3b0 : ((l0.length : Int) == (l1.length : Int)) = false := beq_eq_false_iff_ne.mpr c3
  have c3b1 : ((l0.length : Int) != (l1.length : Int)) = true := bne_iff_ne.mpr c3
  have c3b2 : (l0.length == l1.length) = false := by first | simpa using c3 | (simp at c3 ⊢; omega)
  obtain rfl := Option.some.inj H
  go_enter Try.func74, Try.ntmps74
  go_wp2
  repeat (go_quiet (fail); try go_wp2)
  go_ret
  exact ⟨yeq, by repeat (first | exact Drawn0.refl _ | apply Drawn0.step)⟩

 rw [if_pos c3] at H
 have c3b0 : ((l0.length : Int) == (l1.length : Int)) = true := beq_iff_eq.mpr c3
 have c3b1 : ((l0.length : Int) != (l1.length : Int)) = false := bne_eq_false_iff_eq.mpr c3
 have c3b2 : (l0.length == l1.length) = true := by first | simpa using c3 | (simp at c3 ⊢; omega)
 clear c3
 have H' := yam H
 clear H
 go_enter Try.func74, Try.ntmps74
 go_wp2
 repeat (go_quiet (fail); try go_wp2)
 go_loopg [13] k (fun kq v13 w' => ∃ (x13_1 : Int), v13 = .int .i64 x13_1 ∧ Aside0 (slices_Equal_int_int.l0 kq l0 l1 (l0.length : Int) x13_1 = some r) ∧ Aside0 (kq ≤ k) ∧ Drawn0 w w')
 case atStart => exact ⟨(0), yeq, H', ⟨Nat.le_refl _⟩, by repeat (first | exact Drawn0.refl _ | apply Drawn0.step)⟩
 case round =>
  clear H'
  try clear c1
  try clear p2
  try clear c3
  try clear c3b0
  try clear c3b1
  try clear c3b2
  obtain ⟨x13_1, rfl, HA, HK1, ⟨m1, rfl⟩⟩ := hrel
  cases gk with
  | zero => exact absurd HA.out (by simp [slices_Equal_int_int.l0])
  | succ k1 =>
   have H := HA.out
   clear HA
   simp only [slices_Equal_int_int.l0] at H
   by_cases c4 : x13_1 < (l0.length : Int)
   rotate_left
   ·rw [if_neg c4] at H
    have c4b0 : decide (x13_1 < (l0.length : Int)) = false := decide_eq_false c4
    clear c4
    obtain rfl := Option.some.inj H
    go_wp2
    repeat (go_quiet (fail); try go_wp2)
    go_ret
    exact ⟨yeq, by repeat (first | exact Drawn0.refl _ | apply Drawn0.step)⟩
   rw [if_pos c4] at H
   have c4b0 : decide (x13_1 < (l0.length : Int)) = true := decide_eq_true c4
   clear c4
   replace H := yif H
   obtain ⟨c5b0, H⟩ := H
   replace H := yif H
   obtain ⟨c6b0, H⟩ := H
   replace H := yif H
   obtain ⟨c7b0, H⟩ := H
   by_cases c8 : (rd l0 x13_1) = (rd l1 x13_1)
   rotate_left
   ·rw [if_neg c8] at H
    have c8b0 : ((rd l0 x13_1) == (rd l1 x13_1)) = false := beq_eq_false_iff_ne.mpr c8
    have c8b1 : ((rd l0 x13_1) != (rd l1 x13_1)) = true := bne_iff_ne.mpr c8
    obtain rfl := Option.some.inj H
    have p506 : 0 ≤ (x13_1 : Int) := ydt
    have q506 : x13_1 < (l0.length : Int) := ydt
    obtain ⟨ad506, e506, hx506_0⟩ := Kd.at_int HR0.out x13_1 p506 q506
    cases e506
    replace p506 := eq_true p506
    replace q506 := eq_true q506
    have p507 : 0 ≤ (x13_1 : Int) := ydt
    have q507 : x13_1 < (l1.length : Int) := ydt
    obtain ⟨ad507, e507, hx507_0⟩ := Kd.at_int HR1.out x13_1 p507 q507
    cases e507
    replace p507 := eq_true p507
    replace q507 := eq_true q507
    go_wp2
    repeat (go_quiet (fail); try go_wp2)
    go_ret
    exact ⟨yeq, by repeat (first | exact Drawn0.refl _ | apply Drawn0.step)⟩
   rw [if_pos c8] at H
   have c8b0 : ((rd l0 x13_1) == (rd l1 x13_1)) = true := beq_iff_eq.mpr c8
   have c8b1 : ((rd l0 x13_1) != (rd l1 x13_1)) = false := bne_eq_false_iff_eq.mpr c8
   clear c8
   have H' := yam H
   clear H
   have p506 : 0 ≤ (x13_1 : Int) := ydt
   have q506 : x13_1 < (l0.length : Int) := ydt
   obtain ⟨ad506, e506, hx506_0⟩ := Kd.at_int HR0.out x13_1 p506 q506
   cases e506
   replace p506 := eq_true p506
   replace q506 := eq_true q506
   have p507 : 0 ≤ (x13_1 : Int) := ydt
   have q507 : x13_1 < (l1.length : Int) := ydt
   obtain ⟨ad507, e507, hx507_0⟩ := Kd.at_int HR1.out x13_1 p507 q507
   cases e507
   replace p507 := eq_true p507
   replace q507 := eq_true q507
   go_wp2
   repeat (go_quiet (fail); try go_wp2)
   go_roundg k1
   case measure => have := HK1.out; omega
   case rel => exact ⟨(wrap64 (x13_1 + 1)), yeq, H', ⟨by have := HK1.out; omega⟩, by repeat (first | exact Drawn0.refl _ | apply Drawn0.step)⟩
def impl_nextRound.l0 : Nat → List Int → Int → Int → Int → List Int → List (S67) → Option (List Int × Int)
 | 0, _, _, _, _, _, _ => none
 | k + 1, x1, x2, x8, x509000, x509001, x509002 => if x8 ≤ x2 then ((impl_NarrowBy.f k x509000 x509001 x509002 x1 x8).bind fun t509 => ((slices_Equal_int_int.f k t509 x1).bind fun t512 => (if t512 = true then (impl_nextRound.l0 k x1 x2 (wrap64 (x8 + 1)) x509000 x509001 x509002) else (some (t509, x8))))) else (some (([] : List Int), 0))
def impl_nextRound.f (k : Nat) (a0_0 : Int) (l0_1 : List Int) (l0_2 : List (S67)) (l1 : List Int) (a2 : Int) : Option (List Int × Int) := impl_nextRound.l0 k l1 a2 1 a0_0 l0_1 l0_2
set_option maxHeartbeats 8000000 in
set_option maxRecDepth 100000 in
theorem impl_nextRound.calls (k : Nat) (a0_0 : Int) (A0_1 : Option Addr) (c0_1 : Nat) (l0_1 : List Int) (A0_2 : Option Addr) (c0_2 : Nat) (l0_2 : List (S67)) (A1 : Option Addr) (c1 : Nat) (l1 : List Int) (a2 : Int) (r1 : List Int) (r2 : Int) (w : World) (hr0_1 : Kd.C (Kd.int .i64) w A0_1 l0_1.length l0_1) (hc0_1 : l0_1.length ≤ c0_1) (hr0_2 : Kd.C k67 w A0_2 l0_2.length l0_2) (hc0_2 : l0_2.length ≤ c0_2) (hr1 : Kd.C (Kd.int .i64) w A1 l1.length l1) (hc1 : l1.length ≤ c1) (h : impl_nextRound.f k a0_0 l0_1 l0_2 l1 a2 = some (r1, r2)) :
  Calls Try.prog 44 #[.agg #[.int .i64 a0_0, .slice A0_1 l0_1.length c0_1, .slice A0_2 l0_2.length c0_2], .slice A1 l1.length c1, .int .i64 a2] w fun e w' => ∃ v0_ : Value, e = .returned (.tuple #[v0_, .int .i64 r2]) ∧ Kd.R (Kd.int .i64) 3 w' w.heap.size (fun _ => True) v0_ r1 ∧ Below w.heap.size w w' := by
 have hu30 := Try.underlying30
 have HR0_1 := yam hr0_1
 have HC0_1 := yam hc0_1
 clear hr0_1 hc0_1
 have HR0_2 := yam hr0_2
 have HC0_2 := yam hc0_2
 clear hr0_2 hc0_2
 have HR1 := yam hr1
 have HC1 := yam hc1
 clear hr1 hc1
 have HB := yam (Below.refl w.heap.size w)
 have H : (impl_nextRound.l0 k l1 a2 1 a0_0 l0_1 l0_2) = some (r1, r2) := h
 clear h
 have H' := yam H
 clear H
 go_enter Try.func44, Try.ntmps44
 go_wp2_with (first | (refine ybe 3 #[.int .i64 a0_0, .slice A0_1 l0_1.length c0_1, .slice A0_2 l0_2.length c0_2] 30 ?_; intro gb508 hg w4 hbox hb; have n0_ := yam (below_step (yez HB.out) hb); have n1_ := yam (hbox); have n2_ := yam ((by rw [hg]; exact (below_size (yez HB.out)) : w.heap.size ≤ gb508)); have n3_ := n2_; clear HB; have HB := n0_; have BK508 := n1_; have GW508 := n2_; have GE508 := n3_; clear n0_ n1_ n2_ n3_; clear hb hbox hg))
 go_loopg [8] k (fun kq v8 w' => ∃ (x8_1 : Int), v8 = .int .i64 x8_1 ∧ Aside0 (impl_nextRound.l0 kq l1 a2 x8_1 a0_0 l0_1 l0_2 = some (r1, r2)) ∧ Aside0 (kq ≤ k) ∧ Aside0 (w'.heap[gb508]? = some (.cells #[.int .i64 a0_0, (.slice A0_1 l0_1.length c0_1), (.slice A0_2 l0_2.length c0_2)] 30 (0, 0))) ∧ Aside0 (Below w.heap.size w w'))
 case atStart => exact ⟨(1), yeq, H', ⟨Nat.le_refl _⟩, ⟨by (with_reducible repeat (first | refine ybn ?_ _ | refine ybd ?_ | refine yba ?_ _)); exact BK508.out⟩, ⟨yhb⟩⟩
 case round =>
  clear H'
  try clear c1
  try clear p2
  try clear c4
  obtain ⟨x8_1, rfl, HA, HK1, BK508, HB⟩ := hrel
  cases gk with
  | zero => exact absurd HA.out (by simp [impl_nextRound.l0])
  | succ k1 =>
   have H := HA.out
   clear HA
   simp only [impl_nextRound.l0] at H
   by_cases c5 : x8_1 ≤ a2
   rotate_left
   ·rw [if_neg c5] at H
    have c5b0 : decide (x8_1 ≤ a2) = false := decide_eq_false c5
    clear c5
    simp only [Option.some.injEq, Prod.mk.injEq] at H
    obtain ⟨rfl, rfl⟩ := H
    go_wp2
    go_ret2
    exact ⟨_, yer, by first | exact Kd.R_nil _ _ _ _ _ | exact Kd.N_nil _ _ _ _ _ | exact Kd.V_nil _ _ _ _ _ | exact Kd.Q_nil _ _ _ _ _ | exact Kd.S_nil _ _ _ _ _, yhb⟩

   rw [if_pos c5] at H
   have c5b0 : decide (x8_1 ≤ a2) = true := decide_eq_true c5
   clear c5
   replace H := Option.bind_eq_some_iff.mp H
   obtain ⟨t509, A60, H⟩ := H
   replace H : ((slices_Equal_int_int.f k1 t509 l1).bind fun t512 => (if t512 = true then (impl_nextRound.l0 k1 l1 a2 (wrap64 (x8_1 + 1)) a0_0 l0_1 l0_2) else (some (t509, x8_1)))) = some (r1, r2) := H
   have A6 := yam A60
   clear A60
   replace H := Option.bind_eq_some_iff.mp H
   obtain ⟨t512, A70, H⟩ := H
   replace H : (if t512 = true then (impl_nextRound.l0 k1 l1 a2 (wrap64 (x8_1 + 1)) a0_0 l0_1 l0_2) else (some (t509, x8_1))) = some (r1, r2) := H
   have A7 := yam A70
   clear A70
   by_cases c8 : t512 = true
   ·subst c8
    have H1 : (impl_nextRound.l0 k1 l1 a2 (wrap64 (x8_1 + 1)) a0_0 l0_1 l0_2) = some (r1, r2) := by rw [if_pos rfl] at H; exact H
    clear H
    have H := H1
    clear H1
    have H' := yam H
    clear H
    obtain ⟨hcz9_0, hcz9_1, hcz9_2, hfz9_0, hfz9_1, hfz9_2⟩ := ybc BK508.out
    go_wp2_with (first | (refine goesL_ (some 18) rfl rfl Try.func27 (by kernel_rfl) rfl #[.agg #[.int .i64 a0_0, .slice A0_1 l0_1.length c0_1, .slice A0_2 l0_2.length c0_2], .slice A1 l1.length c1, .int .i64 x8_1] rfl ymd ?_; (with_reducible refine (impl_NarrowBy.calls k1 a0_0 _ _ l0_1 _ _ l0_2 _ _ l1 x8_1 t509 _ ?side1 ?side2 ?side3 ?side4 ?side5 ?side6 A6.out).mono ?_); (case side1 => exact Kd.Cz ((Kd.C_below HR0_1.out HB.out))); (case side2 => exact HC0_1.out); (case side3 => exact Kd.Cz ((Kd.C_below HR0_2.out HB.out))); (case side4 => exact HC0_2.out); (case side5 => exact Kd.Cz ((Kd.C_below HR1.out HB.out))); (case side6 => exact HC1.out); rintro e w10 ⟨v510, rfl, ho0, hb⟩; refine ⟨_, rfl, ?_⟩; have n0_ := yam (Kd.R_lower ho0 (below_size yhb)); have n1_ := yam (blk_below (g := gb508) (o := .cells #[.int .i64 a0_0, .slice A0_1 l0_1.length c0_1, .slice A0_2 l0_2.length c0_2] 30 (0, 0)) (ybz BK508.out) hb); have n2_ := yam (below_step yhb hb); clear BK508; clear HB; have HO511 := n0_; have BK508 := n1_; have HB := n2_; clear n0_ n1_ n2_; (try clear hb); (try clear hb2); (try clear hk); (try clear hi); (try clear ho0); obtain ⟨Ao11, co11, eo11⟩ := Kd.R_slice HO511.out; subst eo11) | (refine goesL_ (some 21) rfl rfl Try.func74 (by kernel_rfl) rfl #[.slice Ao11 t509.length co11, .slice A1 l1.length c1] rfl ymd ?_; (with_reducible refine (slices_Equal_int_int.calls k1 _ _ t509 _ _ l1 true _ ?side1 ?side2 ?side3 ?side4 A7.out).mono ?_); (case side1 => repeat (first | exact (Kd.Yr HO511.out).2.2 | (with_reducible refine Kd.C_alloc ?_ _) | (with_reducible refine Kd.C_drewN ?_ _) | (with_reducible refine Kd.C_drew ?_))); (case side2 => exact (Kd.Yr HO511.out).2.1); (case side3 => exact Kd.Cz ((Kd.C_below HR1.out HB.out))); (case side4 => exact HC1.out); rintro e w' ⟨rfl, ⟨nd, rfl⟩⟩; refine ⟨_, rfl, ?_⟩))
    go_roundg k1
    case measure => have := HK1.out; omega
    case rel => exact ⟨(wrap64 (x8_1 + 1)), yeq, H', ⟨by have := HK1.out; omega⟩, ⟨by (with_reducible repeat (first | refine ybn ?_ _ | refine ybd ?_ | refine yba ?_ _)); exact BK508.out⟩, ⟨yhb⟩⟩
   replace c8 := Bool.eq_false_iff.mpr c8
   subst c8
   have H1 : (some (t509, x8_1)) = some (r1, r2) := by rw [if_neg (show ¬ (false = true) by decide)] at H; exact H
   clear H
   have H := H1
   clear H1
   simp only [Option.some.injEq, Prod.mk.injEq] at H
   obtain ⟨rfl, rfl⟩ := H
   obtain ⟨hcz12_0, hcz12_1, hcz12_2, hfz12_0, hfz12_1, hfz12_2⟩ := ybc BK508.out
   go_wp2_with (first | (refine goesL_ (some 18) rfl rfl Try.func27 (by kernel_rfl) rfl #[.agg #[.int .i64 a0_0, .slice A0_1 l0_1.length c0_1, .slice A0_2 l0_2.length c0_2], .slice A1 l1.length c1, .int .i64 x8_1] rfl ymd ?_; (with_reducible refine (impl_NarrowBy.calls k1 a0_0 _ _ l0_1 _ _ l0_2 _ _ l1 x8_1 t509 _ ?side1 ?side2 ?side3 ?side4 ?side5 ?side6 A6.out).mono ?_); (case side1 => exact Kd.Cz ((Kd.C_below HR0_1.out HB.out))); (case side2 => exact HC0_1.out); (case side3 => exact Kd.Cz ((Kd.C_below HR0_2.out HB.out))); (case side4 => exact HC0_2.out); (case side5 => exact Kd.Cz ((Kd.C_below HR1.out HB.out))); (case side6 => exact HC1.out); rintro e w13 ⟨v510, rfl, ho0, hb⟩; refine ⟨_, rfl, ?_⟩; have n0_ := yam (Kd.R_lower ho0 (below_size yhb)); have n1_ := yam (blk_below (g := gb508) (o := .cells #[.int .i64 a0_0, .slice A0_1 l0_1.length c0_1, .slice A0_2 l0_2.length c0_2] 30 (0, 0)) (ybz BK508.out) hb); have n2_ := yam (below_step yhb hb); clear BK508; clear HB; have HO511 := n0_; have BK508 := n1_; have HB := n2_; clear n0_ n1_ n2_; (try clear hb); (try clear hb2); (try clear hk); (try clear hi); (try clear ho0); obtain ⟨Ao14, co14, eo14⟩ := Kd.R_slice HO511.out; subst eo14) | (refine goesL_ (some 21) rfl rfl Try.func74 (by kernel_rfl) rfl #[.slice Ao14 t509.length co14, .slice A1 l1.length c1] rfl ymd ?_; (with_reducible refine (slices_Equal_int_int.calls k1 _ _ t509 _ _ l1 false _ ?side1 ?side2 ?side3 ?side4 A7.out).mono ?_); (case side1 => repeat (first | exact (Kd.Yr HO511.out).2.2 | (with_reducible refine Kd.C_alloc ?_ _) | (with_reducible refine Kd.C_drewN ?_ _) | (with_reducible refine Kd.C_drew ?_))); (case side2 => exact (Kd.Yr HO511.out).2.1); (case side3 => exact Kd.Cz ((Kd.C_below HR1.out HB.out))); (case side4 => exact HC1.out); rintro e w' ⟨rfl, ⟨nd, rfl⟩⟩; refine ⟨_, rfl, ?_⟩))
   go_ret2
   exact ⟨_, yer, yka HO511.out, yhb⟩
def impl_MasksCount.l0 : Nat → Int → List Int → Int → Int → Option (Int)
 | 0, _, _, _, _ => none
 | k + 1, x5, x12, x13, x14 => if x14 < x13 then (if 0 ≤ x14 then (if x14 < (x12.length : Int) then ((bits_OnesCount.f (IntKind.u64.wrap (rd x12 x14))).bind fun t515 => (impl_MasksCount.l0 k (wrap64 (x5 + t515)) x12 x13 (wrap64 (x14 + 1)))) else (none)) else (none)) else (some x5)
def impl_MasksCount.f (k : Nat) (l0 : List Int) (a1 : Int) : Option (Int) := (impl_MasksValid.f k l0 a1).bind fun t513 => (if t513 = true then (impl_MasksCount.l0 k 0 l0 (l0.length : Int) 0) else (some (-1)))
set_option maxHeartbeats 8000000 in
set_option maxRecDepth 100000 in
theorem impl_MasksCount.calls (k : Nat) (A0 : Option Addr) (c0 : Nat) (l0 : List Int) (a1 : Int) (r : Int) (w : World) (hr0 : Kd.C (Kd.int .i64) w A0 l0.length l0) (hc0 : l0.length ≤ c0) (h : impl_MasksCount.f k l0 a1 = some r) :
  Calls Try.prog 45 #[.slice A0 l0.length c0, .int .i64 a1] w fun e w' => e = .returned (.int .i64 r) ∧ Drawn0 w w' := by
 have HR0 := yam hr0
 have HC0 := yam hc0
 clear hr0 hc0
 have H : ((impl_MasksValid.f k l0 a1).bind fun t513 => (if t513 = true then (impl_MasksCount.l0 k 0 l0 (l0.length : Int) 0) else (some (-1)))) = some r := h
 clear h
 replace H := Option.bind_eq_some_iff.mp H
 obtain ⟨t513, A30, H⟩ := H
 try dsimp only at H
 have A3 := yam A30
 clear A30
 by_cases c4 : t513 = true
 rotate_left
 ·replace c4 := Bool.eq_false_iff.mpr c4
  subst c4
  have H1 : (some (-1)) = some r := by rw [if_neg (show ¬ (false = true) by decide)] at H; exact H
  clear H
  have H := H1
  clear H1
  obtain rfl := Option.some.inj H
  go_enter Try.func45, Try.ntmps45
  go_wp2_with (first | (refine goesL_ (some 10) rfl rfl Try.func63 (by kernel_rfl) rfl #[.slice A0 l0.length c0, .int .i64 a1] rfl ymd ?_; (with_reducible refine (impl_MasksValid.calls k _ _ l0 a1 false _ ?side1 ?side2 A3.out).mono ?_); (case side1 => exact Kd.Cz (HR0.out)); (case side2 => exact HC0.out); rintro e w' ⟨rfl, ⟨nd, rfl⟩⟩; refine ⟨_, rfl, ?_⟩))
  go_ret
  exact ⟨yeq, by repeat (first | exact Drawn0.refl _ | apply Drawn0.step)⟩

 subst c4
 have H1 : (impl_MasksCount.l0 k 0 l0 (l0.length : Int) 0) = some r := by rw [if_pos rfl] at H; exact H
 clear H
 have H := H1
 clear H1
 have H' := yam H
 clear H
 go_enter Try.func45, Try.ntmps45
 go_wp2_with (first | (refine goesL_ (some 10) rfl rfl Try.func63 (by kernel_rfl) rfl #[.slice A0 l0.length c0, .int .i64 a1] rfl ymd ?_; (with_reducible refine (impl_MasksValid.calls k _ _ l0 a1 true _ ?side1 ?side2 A3.out).mono ?_); (case side1 => exact Kd.Cz (HR0.out)); (case side2 => exact HC0.out); rintro e w' ⟨rfl, ⟨nd, rfl⟩⟩; refine ⟨_, rfl, ?_⟩))
 go_loopg [5, 14] k (fun kq v5 v14 w' => ∃ (x5_1 : Int) (x14_1 : Int), v5 = .int .i64 x5_1 ∧ v14 = .int .i64 x14_1 ∧ Aside0 (impl_MasksCount.l0 kq x5_1 l0 (l0.length : Int) x14_1 = some r) ∧ Aside0 (kq ≤ k) ∧ Drawn0 w w')
 case atStart => exact ⟨(0), (0), yeq, yeq, H', ⟨Nat.le_refl _⟩, by repeat (first | exact Drawn0.refl _ | apply Drawn0.step)⟩
 case round =>
  clear H'
  try clear p2
  try clear c4
  obtain ⟨x5_1, x14_1, rfl, rfl, HA, HK1, ⟨m1, rfl⟩⟩ := hrel
  cases gk with
  | zero => exact absurd HA.out (by simp [impl_MasksCount.l0])
  | succ k1 =>
   have H := HA.out
   clear HA
   simp only [impl_MasksCount.l0] at H
   by_cases c5 : x14_1 < (l0.length : Int)
   rotate_left
   ·rw [if_neg c5] at H
    have c5b0 : decide (x14_1 < (l0.length : Int)) = false := decide_eq_false c5
    clear c5
    obtain rfl := Option.some.inj H
    go_wp2
    go_ret
    exact ⟨yeq, by repeat (first | exact Drawn0.refl _ | apply Drawn0.step)⟩
   rw [if_pos c5] at H
   have c5b0 : decide (x14_1 < (l0.length : Int)) = true := decide_eq_true c5
   clear c5
   replace H := yif H
   obtain ⟨c6b0, H⟩ := H
   replace H := yif H
   obtain ⟨c7b0, H⟩ := H
   replace H := Option.bind_eq_some_iff.mp H
   obtain ⟨t515, A80, H⟩ := H
   try dsimp only at H
   have A8 := yam A80
   clear A80
   have H' := yam H
   clear H
   have p514 : 0 ≤ (x14_1 : Int) := ydt
   have q514 : x14_1 < (l0.length : Int) := ydt
   obtain ⟨ad514, e514, hx514_0⟩ := Kd.at_int HR0.out x14_1 p514 q514
   cases e514
   replace p514 := eq_true p514
   replace q514 := eq_true q514
   go_wp2_with (first | (refine goesL_ (some 21) rfl rfl Try.func75 (by kernel_rfl) rfl #[.int .u64 (IntKind.u64.wrap (rd l0 x14_1))] rfl ymd ?_; (with_reducible refine (bits_OnesCount.calls (IntKind.u64.wrap (rd l0 x14_1)) t515 _ A8.out).mono ?_); rintro e w' ⟨rfl, ⟨nd, rfl⟩⟩; refine ⟨_, rfl, ?_⟩))
   go_roundg k1
   case measure => have := HK1.out; omega
   case rel => exact ⟨(wrap64 (x5_1 + t515)), (wrap64 (x14_1 + 1)), yeq, yeq, H', ⟨by have := HK1.out; omega⟩, by repeat (first | exact Drawn0.refl _ | apply Drawn0.step)⟩
mutual
def impl_SolveSteps.j0 : Nat → Int → Bool → Int → List Int → List (S67) → Option ((List (S52)))
 | 0, _, _, _, _, _ => none
 | k + 1, x1, x19, x517000, x517001, x517002 => if x19 = true then (some ([] : List (S52))) else ((impl_StartMasks.f k x517000 x517001 x517002).bind fun t521 => (impl_SolveSteps.l0 k x1 (([] : List (S52))) t521 x517000 x517001 x517002))
def impl_SolveSteps.l0 : Nat → Int → List (S52) → List Int → Int → List Int → List (S67) → Option ((List (S52)))
 | 0, _, _, _, _, _, _ => none
 | k + 1, x1, x5, x6, x517000, x517001, x517002 => (impl_nextRound.f k x517000 x517001 x517002 x6 x1).bind fun bt524 => (if bt524.2 = 0 then (some x5) else ((impl_MasksCount.f k bt524.1 x517000).bind fun t528 => (if x5.length < 8796093022208 then (impl_SolveSteps.l0 k x1 (x5 ++ [(⟨bt524.2, t528⟩ : S52)]) bt524.1 x517000 x517001 x517002) else (none))))
end
def impl_SolveSteps.f (k : Nat) (a0_0 : Int) (l0_1 : List Int) (l0_2 : List (S67)) (a1 : Int) : Option ((List (S52))) := (impl_PuzzleValid.f k a0_0 l0_1 l0_2).bind fun t517 => (if t517 = true then (if a1 < 1 then (impl_SolveSteps.j0 k a1 true a0_0 l0_1 l0_2) else (impl_SolveSteps.j0 k a1 (decide (a1 > 4)) a0_0 l0_1 l0_2)) else (impl_SolveSteps.j0 k a1 true a0_0 l0_1 l0_2))
set_option maxHeartbeats 8000000 in
set_option maxRecDepth 100000 in
theorem impl_SolveSteps.calls (k : Nat) (a0_0 : Int) (A0_1 : Option Addr) (c0_1 : Nat) (l0_1 : List Int) (A0_2 : Option Addr) (c0_2 : Nat) (l0_2 : List (S67)) (a1 : Int) (r : List (S52)) (w : World) (hr0_1 : Kd.C (Kd.int .i64) w A0_1 l0_1.length l0_1) (hc0_1 : l0_1.length ≤ c0_1) (hr0_2 : Kd.C k67 w A0_2 l0_2.length l0_2) (hc0_2 : l0_2.length ≤ c0_2) (h : impl_SolveSteps.f k a0_0 l0_1 l0_2 a1 = some r) :
  Calls Try.prog 19 #[.agg #[.int .i64 a0_0, .slice A0_1 l0_1.length c0_1, .slice A0_2 l0_2.length c0_2], .int .i64 a1] w fun e w' => ∃ v0_ : Value, e = .returned (v0_) ∧ Kd.R k52 52 w' w.heap.size (fun _ => True) v0_ r ∧ Below w.heap.size w w' := by
 have hu30 := Try.underlying30
 have hu52 := Try.underlying52
 have HR0_1 := yam hr0_1
 have HC0_1 := yam hc0_1
 clear hr0_1 hc0_1
 have HR0_2 := yam hr0_2
 have HC0_2 := yam hc0_2
 clear hr0_2 hc0_2
 have HB := yam (Below.refl w.heap.size w)
 have H : ((impl_PuzzleValid.f k a0_0 l0_1 l0_2).bind fun t517 => (if t517 = true then (if a1 < 1 then (impl_SolveSteps.j0 k a1 true a0_0 l0_1 l0_2) else (impl_SolveSteps.j0 k a1 (decide (a1 > 4)) a0_0 l0_1 l0_2)) else (impl_SolveSteps.j0 k a1 true a0_0 l0_1 l0_2))) = some r := h
 clear h
 have HC3 := yam H
 clear H
 go_enter Try.func19, Try.ntmps19
 go_upto_region 1 with (first | (refine ybe 2 #[.int .i64 a0_0, .slice A0_1 l0_1.length c0_1, .slice A0_2 l0_2.length c0_2] 30 ?_; intro gb516 hg w4 hbox hb; have n0_ := yam (below_step (yez HB.out) hb); have n1_ := yam (hbox); have n2_ := yam ((by rw [hg]; exact (below_size (yez HB.out)) : w.heap.size ≤ gb516)); have n3_ := n2_; clear HB; have HB := n0_; have BK516 := n1_; have GW516 := n2_; have GE516 := n3_; clear n0_ n1_ n2_ n3_; clear hb hbox hg))
 (try simp only [Act.put, yps])
 go_cut [19] (fun v19 wc => ∃ (kq : Nat) (x19_2 : Bool), v19 = .bool x19_2 ∧ Aside0 (impl_SolveSteps.j0 kq a1 x19_2 a0_0 l0_1 l0_2 = some r) ∧ Aside0 (kq ≤ k) ∧ Aside0 (wc.heap[gb516]? = some (.cells #[.int .i64 a0_0, (.slice A0_1 l0_1.length c0_1), (.slice A0_2 l0_2.length c0_2)] 30 (0, 0))) ∧ Aside0 (Below w.heap.size w wc))
 case first =>
  have H := HC3.out
  clear HC3
  replace H := Option.bind_eq_some_iff.mp H
  obtain ⟨t517, A50, H⟩ := H
  try dsimp only at H
  have A5 := yam A50
  clear A50
  by_cases c6 : t517 = true
  rotate_left
  ·replace c6 := Bool.eq_false_iff.mpr c6
   subst c6
   have H1 : (impl_SolveSteps.j0 k a1 true a0_0 l0_1 l0_2) = some r := by rw [if_neg (show ¬ (false = true) by decide)] at H; exact H
   clear H
   have H := H1
   clear H1
   have H' := yam H
   clear H
   obtain ⟨hcz12_0, hcz12_1, hcz12_2, hfz12_0, hfz12_1, hfz12_2⟩ := ybc BK516.out
   go_wp2_with (first | (refine goesL_ (some 10) rfl rfl Try.func36 (by kernel_rfl) rfl #[.agg #[.int .i64 a0_0, .slice A0_1 l0_1.length c0_1, .slice A0_2 l0_2.length c0_2]] rfl ymd ?_; (with_reducible refine (impl_PuzzleValid.calls k a0_0 _ _ l0_1 _ _ l0_2 false _ ?side1 ?side2 ?side3 ?side4 A5.out).mono ?_); (case side1 => exact Kd.Cz ((Kd.C_below HR0_1.out HB.out))); (case side2 => exact HC0_1.out); (case side3 => exact Kd.Cz ((Kd.C_below HR0_2.out HB.out))); (case side4 => exact HC0_2.out); rintro e w13 ⟨rfl, hb⟩; refine ⟨_, rfl, ?_⟩; have n0_ := yam (blk_below (g := gb516) (o := .cells #[.int .i64 a0_0, .slice A0_1 l0_1.length c0_1, .slice A0_2 l0_2.length c0_2] 30 (0, 0)) (ybz BK516.out) hb); have n1_ := yam (below_step yhb hb); clear BK516; clear HB; have BK516 := n0_; have HB := n1_; clear n0_ n1_; (try clear hb); (try clear hb2); (try clear hk); (try clear hi)))
   go_meet
   case rel => exact ⟨_, (true), yeq, H', ⟨by first | omega | exact Nat.le_refl _⟩, ⟨by (with_reducible repeat (first | refine ybn ?_ _ | refine ybd ?_ | refine yba ?_ _)); exact BK516.out⟩, ⟨yhb⟩⟩
  subst c6
  have H1 : (if a1 < 1 then (impl_SolveSteps.j0 k a1 true a0_0 l0_1 l0_2) else (impl_SolveSteps.j0 k a1 (decide (a1 > 4)) a0_0 l0_1 l0_2)) = some r := by rw [if_pos rfl] at H; exact H
  clear H
  have H := H1
  clear H1
  by_cases c7 : a1 < 1
  ·rw [if_pos c7] at H
   have c7b0 : decide (a1 < 1) = true := decide_eq_true c7
   clear c7
   (first | rw [c7b0] | (simp only [i64_w, i32_w]; rw [c7b0]) | skip)
   have H' := yam H
   clear H
   obtain ⟨hcz8_0, hcz8_1, hcz8_2, hfz8_0, hfz8_1, hfz8_2⟩ := ybc BK516.out
   go_wp2_with (first | (refine goesL_ (some 10) rfl rfl Try.func36 (by kernel_rfl) rfl #[.agg #[.int .i64 a0_0, .slice A0_1 l0_1.length c0_1, .slice A0_2 l0_2.length c0_2]] rfl ymd ?_; (with_reducible refine (impl_PuzzleValid.calls k a0_0 _ _ l0_1 _ _ l0_2 true _ ?side1 ?side2 ?side3 ?side4 A5.out).mono ?_); (case side1 => exact Kd.Cz ((Kd.C_below HR0_1.out HB.out))); (case side2 => exact HC0_1.out); (case side3 => exact Kd.Cz ((Kd.C_below HR0_2.out HB.out))); (case side4 => exact HC0_2.out); rintro e w9 ⟨rfl, hb⟩; refine ⟨_, rfl, ?_⟩; have n0_ := yam (blk_below (g := gb516) (o := .cells #[.int .i64 a0_0, .slice A0_1 l0_1.length c0_1, .slice A0_2 l0_2.length c0_2] 30 (0, 0)) (ybz BK516.out) hb); have n1_ := yam (below_step yhb hb); clear BK516; clear HB; have BK516 := n0_; have HB := n1_; clear n0_ n1_; (try clear hb); (try clear hb2); (try clear hk); (try clear hi)))
   go_meet
   case rel => exact ⟨_, (true), yeq, H', ⟨by first | omega | exact Nat.le_refl _⟩, ⟨by (with_reducible repeat (first | refine ybn ?_ _ | refine ybd ?_ | refine yba ?_ _)); exact BK516.out⟩, ⟨yhb⟩⟩
  rw [if_neg c7] at H
  have c7b0 : decide (a1 < 1) = false := decide_eq_false c7
  clear c7
  (first | rw [c7b0] | (simp only [i64_w, i32_w]; rw [c7b0]) | skip)
  have H' := yam H
  clear H
  obtain ⟨hcz10_0, hcz10_1, hcz10_2, hfz10_0, hfz10_1, hfz10_2⟩ := ybc BK516.out
  go_wp2_with (first | (refine goesL_ (some 10) rfl rfl Try.func36 (by kernel_rfl) rfl #[.agg #[.int .i64 a0_0, .slice A0_1 l0_1.length c0_1, .slice A0_2 l0_2.length c0_2]] rfl ymd ?_; (with_reducible refine (impl_PuzzleValid.calls k a0_0 _ _ l0_1 _ _ l0_2 true _ ?side1 ?side2 ?side3 ?side4 A5.out).mono ?_); (case side1 => exact Kd.Cz ((Kd.C_below HR0_1.out HB.out))); (case side2 => exact HC0_1.out); (case side3 => exact Kd.Cz ((Kd.C_below HR0_2.out HB.out))); (case side4 => exact HC0_2.out); rintro e w11 ⟨rfl, hb⟩; refine ⟨_, rfl, ?_⟩; have n0_ := yam (blk_below (g := gb516) (o := .cells #[.int .i64 a0_0, .slice A0_1 l0_1.length c0_1, .slice A0_2 l0_2.length c0_2] 30 (0, 0)) (ybz BK516.out) hb); have n1_ := yam (below_step yhb hb); clear BK516; clear HB; have BK516 := n0_; have HB := n1_; clear n0_ n1_; (try clear hb); (try clear hb2); (try clear hk); (try clear hi)))
  go_meet
  case rel => exact ⟨_, (decide (a1 > 4)), yeq, H', ⟨by first | omega | exact Nat.le_refl _⟩, ⟨by (with_reducible repeat (first | refine ybn ?_ _ | refine ybd ?_ | refine yba ?_ _)); exact BK516.out⟩, ⟨yhb⟩⟩
 case rest =>
  clear HC3
  try clear c1
  try clear p2
  try clear c3
  try clear c6
  try clear c7
  try clear c7b0
  try clear hcz10_0
  try clear hcz10_1
  try clear hcz10_2
  try clear hcz12_0
  try clear hcz12_1
  try clear hcz12_2
  try clear hcz8_0
  try clear hcz8_1
  try clear hcz8_2
  try clear hfz10_0
  try clear hfz10_1
  try clear hfz10_2
  try clear hfz12_0
  try clear hfz12_1
  try clear hfz12_2
  try clear hfz8_0
  try clear hfz8_1
  try clear hfz8_2
  obtain ⟨kq, x19_2, rfl, HA, HJ2, BK516, HB⟩ := hcut
  cases kq with
  | zero => exact absurd HA.out (by simp [impl_SolveSteps.j0])
  | succ kj2 =>
   have H := HA.out
   clear HA
   simp only [impl_SolveSteps.j0] at H
   by_cases c14 : x19_2 = true
   ·subst c14
    have H1 : (some ([] : List (S52))) = some r := by rw [if_pos rfl] at H; exact H
    clear H
    have H := H1
    clear H1
    obtain rfl := Option.some.inj H
    go_wp2
    go_ret
    exact ⟨_, yer, by first | exact Kd.R_nil _ _ _ _ _ | exact Kd.N_nil _ _ _ _ _ | exact Kd.V_nil _ _ _ _ _ | exact Kd.Q_nil _ _ _ _ _ | exact Kd.S_nil _ _ _ _ _, yhb⟩
   replace c14 := Bool.eq_false_iff.mpr c14
   subst c14
   have H1 : ((impl_StartMasks.f kj2 a0_0 l0_1 l0_2).bind fun t521 => (impl_SolveSteps.l0 kj2 a1 (([] : List (S52))) t521 a0_0 l0_1 l0_2)) = some r := by rw [if_neg (show ¬ (false = true) by decide)] at H; exact H
   clear H
   have H := H1
   clear H1
   obtain ⟨y518, hy518⟩ : ∃ y_ : List (S52), y_ = (([] : List (S52))) := ⟨_, rfl⟩
   replace H : ((impl_StartMasks.f kj2 a0_0 l0_1 l0_2).bind fun t521 => (impl_SolveSteps.l0 kj2 a1 y518 t521 a0_0 l0_1 l0_2)) = some r := by first | (rw [hy518]; with_reducible exact H) | (have H2_ := (Option.bind_some _ _).symm.trans H; rw [hy518]; with_reducible exact H2_) | (have H2_ := (Option.bind_some _ _).symm.trans H; with_reducible exact H2_) | with_reducible exact H | (rw [hy518]; exact H) | exact H
   have Ny518 := yam hy518
   clear hy518
   replace H := Option.bind_eq_some_iff.mp H
   obtain ⟨t521, A150, H⟩ := H
   try dsimp only at H
   have A15 := yam A150
   clear A150
   have H' := yam H
   clear H
   go_wp2_with (first | ((with_reducible refine gate_dst (N := 20) rfl ?_); refine Kd.R_lit k52 _ 52 ?hg (N := 20) ?hd (xs := ([] : List (S52))) (inner := []) (ok := fun _ => True) (okp := fun _ => True) ?hr ?hp (fun _ hk => hk) trivial (Below.refl _ _) (Nat.le_refl _) (by simp) ?_; (case hd => rfl); (case hg => rfl); (case hr => first | (go_simp; done) | (go_simp; rfl)); (case hp => exact (Reps.none _ _)); intro v519 w16 ho17 hb hg_ hnew_; clear hg_ hnew_; (first | rw [← Ny518.out] at ho17 | (simp only [Int.reduceToNat] at ho17; rw [← Ny518.out] at ho17)); have n0_ := yam (Kd.R_lower ho17 (below_size yhb)); have n1_ := yam (blk_below (g := gb516) (o := .cells #[.int .i64 a0_0, .slice A0_1 l0_1.length c0_1, .slice A0_2 l0_2.length c0_2] 30 (0, 0)) (ybz BK516.out) hb); have n2_ := yam (below_step yhb hb); clear BK516; clear HB; have HO520 := n0_; have BK516 := n1_; have HB := n2_; clear n0_ n1_ n2_; clear hb ho17; obtain ⟨hcz18_0, hcz18_1, hcz18_2, hfz18_0, hfz18_1, hfz18_2⟩ := ybc BK516.out) | (refine goesL_ (some 22) rfl rfl Try.func43 (by kernel_rfl) rfl #[.agg #[.int .i64 a0_0, .slice A0_1 l0_1.length c0_1, .slice A0_2 l0_2.length c0_2]] rfl ymd ?_; (with_reducible refine (impl_StartMasks.calls kj2 a0_0 _ _ l0_1 _ _ l0_2 t521 _ ?side1 ?side2 ?side3 ?side4 A15.out).mono ?_); (case side1 => exact Kd.Cz ((Kd.C_below HR0_1.out HB.out))); (case side2 => exact HC0_1.out); (case side3 => exact Kd.Cz ((Kd.C_below HR0_2.out HB.out))); (case side4 => exact HC0_2.out); rintro e w19 ⟨v522, rfl, ho0, hb⟩; refine ⟨_, rfl, ?_⟩; have n0_ := yam (Kd.R_below (Kd.Yz HO520.out) hb); have n1_ := yam (Kd.R_lower ho0 (below_size yhb)); have n2_ := yam (blk_below (g := gb516) (o := .cells #[.int .i64 a0_0, .slice A0_1 l0_1.length c0_1, .slice A0_2 l0_2.length c0_2] 30 (0, 0)) (ybz BK516.out) hb); have n3_ := yam (below_step yhb hb); clear HO520; clear BK516; clear HB; have HO520 := n0_; have HO523 := n1_; have BK516 := n2_; have HB := n3_; clear n0_ n1_ n2_ n3_; (try clear hb); (try clear hb2); (try clear hk); (try clear hi); (try clear ho0)))
   go_loopg [5, 6] kj2 (fun kq v5 v6 w' => ∃ (x5_2 : List (S52)) (x6_2 : List Int), Aside0 (impl_SolveSteps.l0 kq a1 x5_2 x6_2 a0_0 l0_1 l0_2 = some r) ∧ Aside0 (kq ≤ kj2) ∧ Aside0 (Kd.R k52 52 w' w.heap.size (fun _ => True) v5 x5_2) ∧ Aside0 (Kd.R (Kd.int .i64) 3 w' w.heap.size (fun _ => True) v6 x6_2) ∧ Aside0 (w'.heap[gb516]? = some (.cells #[.int .i64 a0_0, (.slice A0_1 l0_1.length c0_1), (.slice A0_2 l0_2.length c0_2)] 30 (0, 0))) ∧ Aside0 (Below w.heap.size w w'))
   case atStart => exact ⟨(y518), (t521), H', ⟨Nat.le_refl _⟩, ⟨yka HO520.out⟩, ⟨yka HO523.out⟩, ⟨by (with_reducible repeat (first | refine ybn ?_ _ | refine ybd ?_ | refine yba ?_ _)); exact BK516.out⟩, ⟨yhb⟩⟩
   case round =>
    clear H'
    try clear c1
    try clear p2
    try clear c3
    try clear c4
    try clear c6
    try clear c7
    try clear c7b0
    try clear c14
    try clear c19
    try clear hcz10_0
    try clear hcz10_1
    try clear hcz10_2
    try clear hcz12_0
    try clear hcz12_1
    try clear hcz12_2
    try clear hcz18_0
    try clear hcz18_1
    try clear hcz18_2
    try clear hcz8_0
    try clear hcz8_1
    try clear hcz8_2
    try clear hfz10_0
    try clear hfz10_1
    try clear hfz10_2
    try clear hfz12_0
    try clear hfz12_1
    try clear hfz12_2
    try clear hfz18_0
    try clear hfz18_1
    try clear hfz18_2
    try clear hfz8_0
    try clear hfz8_1
    try clear hfz8_2
    try clear p2
    obtain ⟨x5_2, x6_2, HA, HK2, HO_5, HO_6, BK516, HB⟩ := hrel
    cases gk with
    | zero => exact absurd HA.out (by simp [impl_SolveSteps.l0])
    | succ k2 =>
     have H := HA.out
     clear HA
     simp only [impl_SolveSteps.l0] at H
     replace H := Option.bind_eq_some_iff.mp H
     obtain ⟨⟨t524, t527⟩, A200, H⟩ := H
     try dsimp only at H
     have A20 := yam A200
     clear A200
     by_cases c21 : t527 = 0
     ·rw [if_pos c21] at H
      have c21b0 : (t527 == 0) = true := beq_iff_eq.mpr c21
      have c21b1 : (t527 != 0) = false := bne_eq_false_iff_eq.mpr c21
      clear c21
      obtain rfl := Option.some.inj H
      obtain ⟨hcz22_0, hcz22_1, hcz22_2, hfz22_0, hfz22_1, hfz22_2⟩ := ybc BK516.out
      obtain ⟨Ao23, co23, eo23⟩ := Kd.R_slice HO_6.out
      subst eo23
      go_wp2_with (first | (refine goesL_ (some 27) rfl rfl Try.func44 (by kernel_rfl) rfl #[.agg #[.int .i64 a0_0, .slice A0_1 l0_1.length c0_1, .slice A0_2 l0_2.length c0_2], .slice Ao23 x6_2.length co23, .int .i64 a1] rfl ymd ?_; (with_reducible refine (impl_nextRound.calls k2 a0_0 _ _ l0_1 _ _ l0_2 _ _ x6_2 a1 t524 t527 _ ?side1 ?side2 ?side3 ?side4 ?side5 ?side6 A20.out).mono ?_); (case side1 => exact Kd.Cz ((Kd.C_below HR0_1.out HB.out))); (case side2 => exact HC0_1.out); (case side3 => exact Kd.Cz ((Kd.C_below HR0_2.out HB.out))); (case side4 => exact HC0_2.out); (case side5 => repeat (first | exact (Kd.Yr HO_6.out).2.2 | (with_reducible refine Kd.C_alloc ?_ _) | (with_reducible refine Kd.C_drewN ?_ _) | (with_reducible refine Kd.C_drew ?_))); (case side6 => exact (Kd.Yr HO_6.out).2.1); rintro e w24 ⟨v525, rfl, ho0, hb⟩; refine ⟨_, rfl, ?_⟩; have n0_ := yam (Kd.R_below (Kd.Yz HO_5.out) hb); have n1_ := yam (Kd.Ye (Kd.Yz HO_6.out) (Kd.Yb ho0) hb); have n2_ := yam (Kd.R_lower (Kd.Yw ho0 (Kd.R_lt (Kd.Yz HO_6.out))) (below_size yhb)); have n3_ := yam (blk_below (g := gb516) (o := .cells #[.int .i64 a0_0, .slice A0_1 l0_1.length c0_1, .slice A0_2 l0_2.length c0_2] 30 (0, 0)) (ybz BK516.out) hb); have n4_ := yam (below_step yhb hb); clear HO_5; clear HO_6; clear BK516; clear HB; have HO_5 := n0_; have HO_6 := n1_; have HO526 := n2_; have BK516 := n3_; have HB := n4_; clear n0_ n1_ n2_ n3_ n4_; (try clear hb); (try clear hb2); (try clear hk); (try clear hi); (try clear ho0)))
      go_ret
      exact ⟨_, yer, yka HO_5.out, yhb⟩
     rw [if_neg c21] at H
     have c21b0 : (t527 == 0) = false := beq_eq_false_iff_ne.mpr c21
     have c21b1 : (t527 != 0) = true := bne_iff_ne.mpr c21
     replace H := Option.bind_eq_some_iff.mp H
     obtain ⟨t528, A250, H⟩ := H
     try dsimp only at H
     have A25 := yam A250
     clear A250
     by_cases c26 : x5_2.length < 8796093022208
     rotate_left
     ·rw [if_neg c26] at H
      exact absurd H (by simp)

     rw [if_pos c26] at H
     have LMc26 := yam c26
     clear c26
     obtain ⟨y529, hy529⟩ : ∃ y_ : List (S52), y_ = (x5_2 ++ [(⟨t527, t528⟩ : S52)]) := ⟨_, rfl⟩
     replace H : (impl_SolveSteps.l0 k2 a1 y529 t524 a0_0 l0_1 l0_2) = some r := by first | (rw [hy529]; with_reducible exact H) | (have H2_ := (Option.bind_some _ _).symm.trans H; rw [hy529]; with_reducible exact H2_) | (have H2_ := (Option.bind_some _ _).symm.trans H; with_reducible exact H2_) | with_reducible exact H | (rw [hy529]; exact H) | exact H
     have Ny529 := yam hy529
     clear hy529
     have H' := yam H
     clear H
     obtain ⟨hcz27_0, hcz27_1, hcz27_2, hfz27_0, hfz27_1, hfz27_2⟩ := ybc BK516.out
     obtain ⟨Ao28, co28, eo28⟩ := Kd.R_slice HO_6.out
     subst eo28
     go_wp2_with (first | (refine goesL_ (some 27) rfl rfl Try.func44 (by kernel_rfl) rfl #[.agg #[.int .i64 a0_0, .slice A0_1 l0_1.length c0_1, .slice A0_2 l0_2.length c0_2], .slice Ao28 x6_2.length co28, .int .i64 a1] rfl ymd ?_; (with_reducible refine (impl_nextRound.calls k2 a0_0 _ _ l0_1 _ _ l0_2 _ _ x6_2 a1 t524 t527 _ ?side1 ?side2 ?side3 ?side4 ?side5 ?side6 A20.out).mono ?_); (case side1 => exact Kd.Cz ((Kd.C_below HR0_1.out HB.out))); (case side2 => exact HC0_1.out); (case side3 => exact Kd.Cz ((Kd.C_below HR0_2.out HB.out))); (case side4 => exact HC0_2.out); (case side5 => repeat (first | exact (Kd.Yr HO_6.out).2.2 | (with_reducible refine Kd.C_alloc ?_ _) | (with_reducible refine Kd.C_drewN ?_ _) | (with_reducible refine Kd.C_drew ?_))); (case side6 => exact (Kd.Yr HO_6.out).2.1); rintro e w29 ⟨v525, rfl, ho0, hb⟩; refine ⟨_, rfl, ?_⟩; have n0_ := yam (Kd.R_below (Kd.Yz HO_5.out) hb); have n1_ := yam (Kd.Ye (Kd.Yz HO_6.out) (Kd.Yb ho0) hb); have n2_ := yam (Kd.R_lower (Kd.Yw ho0 (Kd.R_lt (Kd.Yz HO_6.out))) (below_size yhb)); have n3_ := yam (blk_below (g := gb516) (o := .cells #[.int .i64 a0_0, .slice A0_1 l0_1.length c0_1, .slice A0_2 l0_2.length c0_2] 30 (0, 0)) (ybz BK516.out) hb); have n4_ := yam (below_step yhb hb); clear HO_5; clear HO_6; clear BK516; clear HB; have HO_5 := n0_; have HO_6 := n1_; have HO526 := n2_; have BK516 := n3_; have HB := n4_; clear n0_ n1_ n2_ n3_ n4_; (try clear hb); (try clear hb2); (try clear hk); (try clear hi); (try clear ho0); obtain ⟨hcz30_0, hcz30_1, hcz30_2, hfz30_0, hfz30_1, hfz30_2⟩ := ybc BK516.out; obtain ⟨Ao31, co31, eo31⟩ := Kd.R_slice HO526.out; subst eo31) | (refine goesL_ (some 39) rfl rfl Try.func45 (by kernel_rfl) rfl #[.slice Ao31 t524.length co31, .int .i64 a0_0] rfl ymd ?_; (with_reducible refine (impl_MasksCount.calls k2 _ _ t524 a0_0 t528 _ ?side1 ?side2 A25.out).mono ?_); (case side1 => repeat (first | exact (Kd.Yr HO526.out).2.2 | (with_reducible refine Kd.C_alloc ?_ _) | (with_reducible refine Kd.C_drewN ?_ _) | (with_reducible refine Kd.C_drew ?_))); (case side2 => exact (Kd.Yr HO526.out).2.1); rintro e w' ⟨rfl, ⟨nd, rfl⟩⟩; refine ⟨_, rfl, ?_⟩) | ((with_reducible refine gate_builtin (b := .append) (xs := #[.tmp 34, .tmp 41]) rfl ?_); at_builtin; refine Kd.R_append k52 (w0 := w) w.heap.size rfl (.tmp 34) (.tmp 41) 37 52 (.agg #[(.int .i64 0), (.int .i64 0)]) 16 rfl Try.underlying37 info52 rfl (by decide) (by omega) u5 x5_2 (⟨t527, t528⟩ : S52) [.int .i64 t527, .int .i64 t528] (fun _ => True) (fun _ => False) rfl rfl ?aP (fun _ hk => hk.elim) ?aF ?aO ?aB ?aS ?aL ?_; (case aP => exact k52_mkM _ _ _ (⟨t527, t528⟩ : S52)); (case aB => exact yhb); (case aF => exact (fun _ _ => trivial)); (case aO => exact (Kd.Yz HO_5.out)); (case aS => exact (below_size yhb)); (case aL => have := LMc26.out; omega); intro v530 w32 ho hb hg hat; rw [← Ny529.out] at ho; have n0_ := yam (Kd.R_over' (Kd.Yz HO_6.out) (Kd.R_typed (Kd.Yz HO_5.out)) (by decide) hg); have n1_ := yam (blk_grown (g := gb516) (o := .cells #[.int .i64 a0_0, .slice A0_1 l0_1.length c0_1, .slice A0_2 l0_2.length c0_2] 30 (0, 0)) (ybz BK516.out) hg (Kd.R_ne HO_5.out BK516.out (by decide))); have n2_ := yam (Kd.R_over' (Kd.Yz HO526.out) (Kd.R_typed (Kd.Yz HO_5.out)) (by decide) hg); have n3_ := yam (hb); have n4_ := yam (ho); clear HO_6; clear BK516; clear HO526; clear HB; clear HO_5; have HO_6 := n0_; have BK516 := n1_; have HO526 := n2_; have HB := n3_; have HO531 := n4_; clear n0_ n1_ n2_ n3_ n4_; clear ho hb hg hat))
     go_roundg k2
     case measure => have := HJ2.out; have := HK2.out; omega
     case rel => exact ⟨(y529), (t524), H', ⟨by have := HJ2.out; have := HK2.out; omega⟩, ⟨yka HO531.out⟩, ⟨by (with_reducible repeat (first | apply Kd.Ya | apply Kd.Yn | apply Kd.Yd)); exact Kd.R_mono HO526.out (fun _ hk => trivial)⟩, ⟨by (with_reducible repeat (first | refine ybn ?_ _ | refine ybd ?_ | refine yba ?_ _)); exact BK516.out⟩, ⟨yhb⟩⟩
def laws_eqIntS.l0 : Nat → List Int → List Int → Int → Option (Bool)
 | 0, _, _, _ => none
 | k + 1, x0, x1, x5 => if x5 < (x0.length : Int) then (if 0 ≤ x5 then (if x5 < (x1.length : Int) then (if (rd x0 x5) = (rd x1 x5) then (laws_eqIntS.l0 k x0 x1 (wrap64 (x5 + 1))) else (some false)) else (none)) else (none)) else (some true)
def laws_eqIntS.f (k : Nat) (l0 : List Int) (l1 : List Int) : Option (Bool) := if (l0.length : Int) = (l1.length : Int) then (laws_eqIntS.l0 k l0 l1 0) else (some false)
set_option maxHeartbeats 8000000 in
set_option maxRecDepth 100000 in
theorem laws_eqIntS.calls (k : Nat) (A0 : Option Addr) (c0 : Nat) (l0 : List Int) (A1 : Option Addr) (c1 : Nat) (l1 : List Int) (r : Bool) (w : World) (hr0 : Kd.C (Kd.int .i64) w A0 l0.length l0) (hc0 : l0.length ≤ c0) (hr1 : Kd.C (Kd.int .i64) w A1 l1.length l1) (hc1 : l1.length ≤ c1) (h : laws_eqIntS.f k l0 l1 = some r) :
  Calls Try.prog 13 #[.slice A0 l0.length c0, .slice A1 l1.length c1] w fun e w' => e = .returned (.bool r) ∧ Drawn0 w w' := by
 have HR0 := yam hr0
 have HC0 := yam hc0
 clear hr0 hc0
 have HR1 := yam hr1
 have HC1 := yam hc1
 clear hr1 hc1
 have H : (if (l0.length : Int) = (l1.length : Int) then (laws_eqIntS.l0 k l0 l1 0) else (some false)) = some r := h
 clear h
 by_cases c3 : (l0.length : Int) = (l1.length : Int)
 rotate_left
 ·rw [if_neg c3] at H
  have c3b0 : ((l0.length : Int) == (l1.length : Int)) = false := beq_eq_false_iff_ne.mpr c3
  have c3b1 : ((l0.length : Int) != (l1.length : Int)) = true := bne_iff_ne.mpr c3
  have c3b2 : (l0.length == l1.length) = false := by first | simpa using c3 | (simp at c3 ⊢; omega)
  obtain rfl := Option.some.inj H
  go_enter Try.func13, Try.ntmps13
  go_wp2
  repeat (go_quiet (fail); try go_wp2)
  go_ret
  exact ⟨yeq, by repeat (first | exact Drawn0.refl _ | apply Drawn0.step)⟩

 rw [if_pos c3] at H
 have c3b0 : ((l0.length : Int) == (l1.length : Int)) = true := beq_iff_eq.mpr c3
 have c3b1 : ((l0.length : Int) != (l1.length : Int)) = false := bne_eq_false_iff_eq.mpr c3
 have c3b2 : (l0.length == l1.length) = true := by first | simpa using c3 | (simp at c3 ⊢; omega)
 clear c3
 have H' := yam H
 clear H
 go_enter Try.func13, Try.ntmps13
 go_wp2
 repeat (go_quiet (fail); try go_wp2)
 go_loopg [5] k (fun kq v5 w' => ∃ (x5_1 : Int), v5 = .int .i64 x5_1 ∧ Aside0 (laws_eqIntS.l0 kq l0 l1 x5_1 = some r) ∧ Aside0 (kq ≤ k) ∧ Drawn0 w w')
 case atStart => exact ⟨(0), yeq, H', ⟨Nat.le_refl _⟩, by repeat (first | exact Drawn0.refl _ | apply Drawn0.step)⟩
 case round =>
  clear H'
  try clear c1
  try clear p2
  try clear c3
  try clear c3b0
  try clear c3b1
  try clear c3b2
  obtain ⟨x5_1, rfl, HA, HK1, ⟨m1, rfl⟩⟩ := hrel
  cases gk with
  | zero => exact absurd HA.out (by simp [laws_eqIntS.l0])
  | succ k1 =>
   have H := HA.out
   clear HA
   simp only [laws_eqIntS.l0] at H
   by_cases c4 : x5_1 < (l0.length : Int)
   rotate_left
   ·rw [if_neg c4] at H
    have c4b0 : decide (x5_1 < (l0.length : Int)) = false := decide_eq_false c4
    clear c4
    obtain rfl := Option.some.inj H
    go_wp2
    repeat (go_quiet (fail); try go_wp2)
    go_ret
    exact ⟨yeq, by repeat (first | exact Drawn0.refl _ | apply Drawn0.step)⟩
   rw [if_pos c4] at H
   have c4b0 : decide (x5_1 < (l0.length : Int)) = true := decide_eq_true c4
   clear c4
   replace H := yif H
   obtain ⟨c5b0, H⟩ := H
   replace H := yif H
   obtain ⟨c6b0, H⟩ := H
   by_cases c7 : (rd l0 x5_1) = (rd l1 x5_1)
   rotate_left
   ·rw [if_neg c7] at H
    have c7b0 : ((rd l0 x5_1) == (rd l1 x5_1)) = false := beq_eq_false_iff_ne.mpr c7
    have c7b1 : ((rd l0 x5_1) != (rd l1 x5_1)) = true := bne_iff_ne.mpr c7
    obtain rfl := Option.some.inj H
    have p544 : 0 ≤ (x5_1 : Int) := ydt
    have q544 : x5_1 < (l0.length : Int) := ydt
    obtain ⟨ad544, e544, hx544_0⟩ := Kd.at_int HR0.out x5_1 p544 q544
    cases e544
    replace p544 := eq_true p544
    replace q544 := eq_true q544
    have p545 : 0 ≤ (x5_1 : Int) := ydt
    have q545 : x5_1 < (l1.length : Int) := ydt
    obtain ⟨ad545, e545, hx545_0⟩ := Kd.at_int HR1.out x5_1 p545 q545
    cases e545
    replace p545 := eq_true p545
    replace q545 := eq_true q545
    go_wp2
    repeat (go_quiet (fail); try go_wp2)
    go_ret
    exact ⟨yeq, by repeat (first | exact Drawn0.refl _ | apply Drawn0.step)⟩
   rw [if_pos c7] at H
   have c7b0 : ((rd l0 x5_1) == (rd l1 x5_1)) = true := beq_iff_eq.mpr c7
   have c7b1 : ((rd l0 x5_1) != (rd l1 x5_1)) = false := bne_eq_false_iff_eq.mpr c7
   clear c7
   have H' := yam H
   clear H
   have p544 : 0 ≤ (x5_1 : Int) := ydt
   have q544 : x5_1 < (l0.length : Int) := ydt
   obtain ⟨ad544, e544, hx544_0⟩ := Kd.at_int HR0.out x5_1 p544 q544
   cases e544
   replace p544 := eq_true p544
   replace q544 := eq_true q544
   have p545 : 0 ≤ (x5_1 : Int) := ydt
   have q545 : x5_1 < (l1.length : Int) := ydt
   obtain ⟨ad545, e545, hx545_0⟩ := Kd.at_int HR1.out x5_1 p545 q545
   cases e545
   replace p545 := eq_true p545
   replace q545 := eq_true q545
   go_wp2
   repeat (go_quiet (fail); try go_wp2)
   go_roundg k1
   case measure => have := HK1.out; omega
   case rel => exact ⟨(wrap64 (x5_1 + 1)), yeq, H', ⟨by have := HK1.out; omega⟩, by repeat (first | exact Drawn0.refl _ | apply Drawn0.step)⟩
def laws_eqRule.f (k : Nat) (a0_0 : Int) (l0_1 : List Int) (a0_2 : Int) (a1_0 : Int) (l1_1 : List Int) (a1_2 : Int) : Option (Bool) := if a0_0 = a1_0 then ((laws_eqIntS.f k l0_1 l1_1).bind fun t548 => (if t548 = true then (if a0_2 = a1_2 then (some true) else (some false)) else (some false))) else (some false)
set_option maxHeartbeats 8000000 in
set_option maxRecDepth 100000 in
theorem laws_eqRule.calls (k : Nat) (a0_0 : Int) (A0_1 : Option Addr) (c0_1 : Nat) (l0_1 : List Int) (a0_2 : Int) (a1_0 : Int) (A1_1 : Option Addr) (c1_1 : Nat) (l1_1 : List Int) (a1_2 : Int) (r : Bool) (w : World) (hr0_1 : Kd.C (Kd.int .i64) w A0_1 l0_1.length l0_1) (hc0_1 : l0_1.length ≤ c0_1) (hr1_1 : Kd.C (Kd.int .i64) w A1_1 l1_1.length l1_1) (hc1_1 : l1_1.length ≤ c1_1) (h : laws_eqRule.f k a0_0 l0_1 a0_2 a1_0 l1_1 a1_2 = some r) :
  Calls Try.prog 71 #[.agg #[.int .i64 a0_0, .slice A0_1 l0_1.length c0_1, .int .i64 a0_2], .agg #[.int .i64 a1_0, .slice A1_1 l1_1.length c1_1, .int .i64 a1_2]] w fun e w' => e = .returned (.bool r) ∧ Below w.heap.size w w' := by
 have hu67 := Try.underlying67
 have HR0_1 := yam hr0_1
 have HC0_1 := yam hc0_1
 clear hr0_1 hc0_1
 have HR1_1 := yam hr1_1
 have HC1_1 := yam hc1_1
 clear hr1_1 hc1_1
 have HB := yam (Below.refl w.heap.size w)
 have H : (if a0_0 = a1_0 then ((laws_eqIntS.f k l0_1 l1_1).bind fun t548 => (if t548 = true then (if a0_2 = a1_2 then (some true) else (some false)) else (some false))) else (some false)) = some r := h
 clear h
 by_cases c3 : a0_0 = a1_0
 rotate_left
 ·rw [if_neg c3] at H
  have c3b0 : (a0_0 == a1_0) = false := beq_eq_false_iff_ne.mpr c3
  have c3b1 : (a0_0 != a1_0) = true := bne_iff_ne.mpr c3
  obtain rfl := Option.some.inj H
  go_enter Try.func71, Try.ntmps71
  go_wp2_with (first | (refine ybe 2 #[.int .i64 a0_0, .slice A0_1 l0_1.length c0_1, .int .i64 a0_2] 67 ?_; intro gb546 hg w22 hbox hb; have n0_ := yam (below_step (yez HB.out) hb); have n1_ := yam (hbox); have n2_ := yam ((by rw [hg]; exact (below_size (yez HB.out)) : w.heap.size ≤ gb546)); have n3_ := n2_; clear HB; have HB := n0_; have BK546 := n1_; have GW546 := n2_; have GE546 := n3_; clear n0_ n1_ n2_ n3_; clear hb hbox hg) | (refine ybe 3 #[.int .i64 a1_0, .slice A1_1 l1_1.length c1_1, .int .i64 a1_2] 67 ?_; intro gb547 hg w23 hbox hb; have n0_ := yam (blk_below (g := gb546) (o := .cells #[.int .i64 a0_0, .slice A0_1 l0_1.length c0_1, .int .i64 a0_2] 67 (0, 0)) (ybz BK546.out) hb); have n1_ := yam (below_step yhb hb); have n2_ := yam (hbox); have n3_ := yam ((by rw [hg]; exact (below_size yhb) : w.heap.size ≤ gb547)); have n4_ := n3_; have n5_ := yam ((by rw [hg]; exact Nat.ne_of_lt (blk_lt (g := gb546) (o := .cells #[.int .i64 a0_0, .slice A0_1 l0_1.length c0_1, .int .i64 a0_2] 67 (0, 0)) (ybz BK546.out)) : gb546 ≠ gb547)); have n6_ := yam ((by rw [hg]; exact Nat.ne_of_gt (blk_lt (g := gb546) (o := .cells #[.int .i64 a0_0, .slice A0_1 l0_1.length c0_1, .int .i64 a0_2] 67 (0, 0)) (ybz BK546.out)) : gb547 ≠ gb546)); clear BK546; clear HB; have BK546 := n0_; have HB := n1_; have BK547 := n2_; have GW547 := n3_; have GE547 := n4_; have NB546_547 := n5_; have NB547_546 := n6_; clear n0_ n1_ n2_ n3_ n4_ n5_ n6_; clear hb hbox hg; have hnb24 := NB546_547.out; have hnc24 := NB547_546.out; obtain ⟨hcz25_0, hcz25_1, hcz25_2, hfz25_0, hfz25_1, hfz25_2⟩ := ybc BK546.out; obtain ⟨hcz26_0, hcz26_1, hcz26_2, hfz26_0, hfz26_1, hfz26_2⟩ := ybc BK547.out))
  go_ret
  exact ⟨yer, yhb⟩

 rw [if_pos c3] at H
 have c3b0 : (a0_0 == a1_0) = true := beq_iff_eq.mpr c3
 have c3b1 : (a0_0 != a1_0) = false := bne_eq_false_iff_eq.mpr c3
 clear c3
 replace H := Option.bind_eq_some_iff.mp H
 obtain ⟨t548, A40, H⟩ := H
 try dsimp only at H
 have A4 := yam A40
 clear A40
 by_cases c5 : t548 = true
 rotate_left
 ·replace c5 := Bool.eq_false_iff.mpr c5
  subst c5
  have H1 : (some false) = some r := by rw [if_neg (show ¬ (false = true) by decide)] at H; exact H
  clear H
  have H := H1
  clear H1
  obtain rfl := Option.some.inj H
  go_enter Try.func71, Try.ntmps71
  go_wp2_with (first | (refine ybe 2 #[.int .i64 a0_0, .slice A0_1 l0_1.length c0_1, .int .i64 a0_2] 67 ?_; intro gb546 hg w17 hbox hb; have n0_ := yam (below_step (yez HB.out) hb); have n1_ := yam (hbox); have n2_ := yam ((by rw [hg]; exact (below_size (yez HB.out)) : w.heap.size ≤ gb546)); have n3_ := n2_; clear HB; have HB := n0_; have BK546 := n1_; have GW546 := n2_; have GE546 := n3_; clear n0_ n1_ n2_ n3_; clear hb hbox hg) | (refine ybe 3 #[.int .i64 a1_0, .slice A1_1 l1_1.length c1_1, .int .i64 a1_2] 67 ?_; intro gb547 hg w18 hbox hb; have n0_ := yam (blk_below (g := gb546) (o := .cells #[.int .i64 a0_0, .slice A0_1 l0_1.length c0_1, .int .i64 a0_2] 67 (0, 0)) (ybz BK546.out) hb); have n1_ := yam (below_step yhb hb); have n2_ := yam (hbox); have n3_ := yam ((by rw [hg]; exact (below_size yhb) : w.heap.size ≤ gb547)); have n4_ := n3_; have n5_ := yam ((by rw [hg]; exact Nat.ne_of_lt (blk_lt (g := gb546) (o := .cells #[.int .i64 a0_0, .slice A0_1 l0_1.length c0_1, .int .i64 a0_2] 67 (0, 0)) (ybz BK546.out)) : gb546 ≠ gb547)); have n6_ := yam ((by rw [hg]; exact Nat.ne_of_gt (blk_lt (g := gb546) (o := .cells #[.int .i64 a0_0, .slice A0_1 l0_1.length c0_1, .int .i64 a0_2] 67 (0, 0)) (ybz BK546.out)) : gb547 ≠ gb546)); clear BK546; clear HB; have BK546 := n0_; have HB := n1_; have BK547 := n2_; have GW547 := n3_; have GE547 := n4_; have NB546_547 := n5_; have NB547_546 := n6_; clear n0_ n1_ n2_ n3_ n4_ n5_ n6_; clear hb hbox hg; have hnb19 := NB546_547.out; have hnc19 := NB547_546.out; obtain ⟨hcz20_0, hcz20_1, hcz20_2, hfz20_0, hfz20_1, hfz20_2⟩ := ybc BK546.out; obtain ⟨hcz21_0, hcz21_1, hcz21_2, hfz21_0, hfz21_1, hfz21_2⟩ := ybc BK547.out) | (refine goesL_ (some 14) rfl rfl Try.func13 (by kernel_rfl) rfl #[.slice A0_1 l0_1.length c0_1, .slice A1_1 l1_1.length c1_1] rfl ymd ?_; (with_reducible refine (laws_eqIntS.calls k _ _ l0_1 _ _ l1_1 false _ ?side1 ?side2 ?side3 ?side4 A4.out).mono ?_); (case side1 => exact Kd.Cz ((Kd.C_below HR0_1.out HB.out))); (case side2 => exact HC0_1.out); (case side3 => exact Kd.Cz ((Kd.C_below HR1_1.out HB.out))); (case side4 => exact HC1_1.out); rintro e w' ⟨rfl, ⟨nd, rfl⟩⟩; refine ⟨_, rfl, ?_⟩))
  go_ret
  exact ⟨yer, yhb⟩
 subst c5
 have H1 : (if a0_2 = a1_2 then (some true) else (some false)) = some r := by rw [if_pos rfl] at H; exact H
 clear H
 have H := H1
 clear H1
 by_cases c6 : a0_2 = a1_2
 rotate_left
 ·rw [if_neg c6] at H
  have c6b0 : (a0_2 == a1_2) = false := beq_eq_false_iff_ne.mpr c6
  have c6b1 : (a0_2 != a1_2) = true := bne_iff_ne.mpr c6
  obtain rfl := Option.some.inj H
  go_enter Try.func71, Try.ntmps71
  go_wp2_with (first | (refine ybe 2 #[.int .i64 a0_0, .slice A0_1 l0_1.length c0_1, .int .i64 a0_2] 67 ?_; intro gb546 hg w12 hbox hb; have n0_ := yam (below_step (yez HB.out) hb); have n1_ := yam (hbox); have n2_ := yam ((by rw [hg]; exact (below_size (yez HB.out)) : w.heap.size ≤ gb546)); have n3_ := n2_; clear HB; have HB := n0_; have BK546 := n1_; have GW546 := n2_; have GE546 := n3_; clear n0_ n1_ n2_ n3_; clear hb hbox hg) | (refine ybe 3 #[.int .i64 a1_0, .slice A1_1 l1_1.length c1_1, .int .i64 a1_2] 67 ?_; intro gb547 hg w13 hbox hb; have n0_ := yam (blk_below (g := gb546) (o := .cells #[.int .i64 a0_0, .slice A0_1 l0_1.length c0_1, .int .i64 a0_2] 67 (0, 0)) (ybz BK546.out) hb); have n1_ := yam (below_step yhb hb); have n2_ := yam (hbox); have n3_ := yam ((by rw [hg]; exact (below_size yhb) : w.heap.size ≤ gb547)); have n4_ := n3_; have n5_ := yam ((by rw [hg]; exact Nat.ne_of_lt (blk_lt (g := gb546) (o := .cells #[.int .i64 a0_0, .slice A0_1 l0_1.length c0_1, .int .i64 a0_2] 67 (0, 0)) (ybz BK546.out)) : gb546 ≠ gb547)); have n6_ := yam ((by rw [hg]; exact Nat.ne_of_gt (blk_lt (g := gb546) (o := .cells #[.int .i64 a0_0, .slice A0_1 l0_1.length c0_1, .int .i64 a0_2] 67 (0, 0)) (ybz BK546.out)) : gb547 ≠ gb546)); clear BK546; clear HB; have BK546 := n0_; have HB := n1_; have BK547 := n2_; have GW547 := n3_; have GE547 := n4_; have NB546_547 := n5_; have NB547_546 := n6_; clear n0_ n1_ n2_ n3_ n4_ n5_ n6_; clear hb hbox hg; have hnb14 := NB546_547.out; have hnc14 := NB547_546.out; obtain ⟨hcz15_0, hcz15_1, hcz15_2, hfz15_0, hfz15_1, hfz15_2⟩ := ybc BK546.out; obtain ⟨hcz16_0, hcz16_1, hcz16_2, hfz16_0, hfz16_1, hfz16_2⟩ := ybc BK547.out) | (refine goesL_ (some 14) rfl rfl Try.func13 (by kernel_rfl) rfl #[.slice A0_1 l0_1.length c0_1, .slice A1_1 l1_1.length c1_1] rfl ymd ?_; (with_reducible refine (laws_eqIntS.calls k _ _ l0_1 _ _ l1_1 true _ ?side1 ?side2 ?side3 ?side4 A4.out).mono ?_); (case side1 => exact Kd.Cz ((Kd.C_below HR0_1.out HB.out))); (case side2 => exact HC0_1.out); (case side3 => exact Kd.Cz ((Kd.C_below HR1_1.out HB.out))); (case side4 => exact HC1_1.out); rintro e w' ⟨rfl, ⟨nd, rfl⟩⟩; refine ⟨_, rfl, ?_⟩))
  go_ret
  exact ⟨yer, yhb⟩
 rw [if_pos c6] at H
 have c6b0 : (a0_2 == a1_2) = true := beq_iff_eq.mpr c6
 have c6b1 : (a0_2 != a1_2) = false := bne_eq_false_iff_eq.mpr c6
 clear c6
 obtain rfl := Option.some.inj H
 go_enter Try.func71, Try.ntmps71
 go_wp2_with (first | (refine ybe 2 #[.int .i64 a0_0, .slice A0_1 l0_1.length c0_1, .int .i64 a0_2] 67 ?_; intro gb546 hg w7 hbox hb; have n0_ := yam (below_step (yez HB.out) hb); have n1_ := yam (hbox); have n2_ := yam ((by rw [hg]; exact (below_size (yez HB.out)) : w.heap.size ≤ gb546)); have n3_ := n2_; clear HB; have HB := n0_; have BK546 := n1_; have GW546 := n2_; have GE546 := n3_; clear n0_ n1_ n2_ n3_; clear hb hbox hg) | (refine ybe 3 #[.int .i64 a1_0, .slice A1_1 l1_1.length c1_1, .int .i64 a1_2] 67 ?_; intro gb547 hg w8 hbox hb; have n0_ := yam (blk_below (g := gb546) (o := .cells #[.int .i64 a0_0, .slice A0_1 l0_1.length c0_1, .int .i64 a0_2] 67 (0, 0)) (ybz BK546.out) hb); have n1_ := yam (below_step yhb hb); have n2_ := yam (hbox); have n3_ := yam ((by rw [hg]; exact (below_size yhb) : w.heap.size ≤ gb547)); have n4_ := n3_; have n5_ := yam ((by rw [hg]; exact Nat.ne_of_lt (blk_lt (g := gb546) (o := .cells #[.int .i64 a0_0, .slice A0_1 l0_1.length c0_1, .int .i64 a0_2] 67 (0, 0)) (ybz BK546.out)) : gb546 ≠ gb547)); have n6_ := yam ((by rw [hg]; exact Nat.ne_of_gt (blk_lt (g := gb546) (o := .cells #[.int .i64 a0_0, .slice A0_1 l0_1.length c0_1, .int .i64 a0_2] 67 (0, 0)) (ybz BK546.out)) : gb547 ≠ gb546)); clear BK546; clear HB; have BK546 := n0_; have HB := n1_; have BK547 := n2_; have GW547 := n3_; have GE547 := n4_; have NB546_547 := n5_; have NB547_546 := n6_; clear n0_ n1_ n2_ n3_ n4_ n5_ n6_; clear hb hbox hg; have hnb9 := NB546_547.out; have hnc9 := NB547_546.out; obtain ⟨hcz10_0, hcz10_1, hcz10_2, hfz10_0, hfz10_1, hfz10_2⟩ := ybc BK546.out; obtain ⟨hcz11_0, hcz11_1, hcz11_2, hfz11_0, hfz11_1, hfz11_2⟩ := ybc BK547.out) | (refine goesL_ (some 14) rfl rfl Try.func13 (by kernel_rfl) rfl #[.slice A0_1 l0_1.length c0_1, .slice A1_1 l1_1.length c1_1] rfl ymd ?_; (with_reducible refine (laws_eqIntS.calls k _ _ l0_1 _ _ l1_1 true _ ?side1 ?side2 ?side3 ?side4 A4.out).mono ?_); (case side1 => exact Kd.Cz ((Kd.C_below HR0_1.out HB.out))); (case side2 => exact HC0_1.out); (case side3 => exact Kd.Cz ((Kd.C_below HR1_1.out HB.out))); (case side4 => exact HC1_1.out); rintro e w' ⟨rfl, ⟨nd, rfl⟩⟩; refine ⟨_, rfl, ?_⟩))
 go_ret
 exact ⟨yer, yhb⟩
def laws_eqRuleS.l0 : Nat → List (S67) → List (S67) → Int → Option (Bool)
 | 0, _, _, _ => none
 | k + 1, x0, x1, x5 => if x5 < (x0.length : Int) then (if 0 ≤ x5 then (if x5 < (x1.length : Int) then ((laws_eqRule.f k ((rd_T67 x0 x5).f0) ((rd_T67 x0 x5).f1) ((rd_T67 x0 x5).f2) ((rd_T67 x1 x5).f0) ((rd_T67 x1 x5).f1) ((rd_T67 x1 x5).f2)).bind fun t551 => (if t551 = true then (laws_eqRuleS.l0 k x0 x1 (wrap64 (x5 + 1))) else (some false))) else (none)) else (none)) else (some true)
def laws_eqRuleS.f (k : Nat) (l0 : List (S67)) (l1 : List (S67)) : Option (Bool) := if (l0.length : Int) = (l1.length : Int) then (laws_eqRuleS.l0 k l0 l1 0) else (some false)
def laws_eqRuleS.T6 : Bool × List (List Nat × List Nat) := (true, [([], []), ([], []), ([0, 1], [0, 1]), ([2], [2]), ([], []), ([], []), ([4, 5], [4, 5]), ([6], [6]), ([3, 7], [3, 7]), ([8], [8])])
def laws_eqRuleS.B6 : List Nat := [0, 0, 3, 7, 0, 0, 48, 112, 255, 511]
theorem laws_eqRuleS.tab6 : rtab .any (opsOf Try.f37 6) = laws_eqRuleS.T6 := by kernel_rfl
theorem laws_eqRuleS.bits6 : waitsOk laws_eqRuleS.T6.2 laws_eqRuleS.B6 = true := by kernel_rfl
set_option maxHeartbeats 8000000 in
set_option maxRecDepth 100000 in
theorem laws_eqRuleS.calls (k : Nat) (A0 : Option Addr) (c0 : Nat) (l0 : List (S67)) (A1 : Option Addr) (c1 : Nat) (l1 : List (S67)) (r : Bool) (w : World) (hr0 : Kd.C k67 w A0 l0.length l0) (hc0 : l0.length ≤ c0) (hr1 : Kd.C k67 w A1 l1.length l1) (hc1 : l1.length ≤ c1) (h : laws_eqRuleS.f k l0 l1 = some r) :
  Calls Try.prog 37 #[.slice A0 l0.length c0, .slice A1 l1.length c1] w fun e w' => e = .returned (.bool r) ∧ Below w.heap.size w w' := by
 have hu67 := Try.underlying67
 have HR0 := yam hr0
 have HC0 := yam hc0
 clear hr0 hc0
 have HR1 := yam hr1
 have HC1 := yam hc1
 clear hr1 hc1
 have HB := yam (Below.refl w.heap.size w)
 have H : (if (l0.length : Int) = (l1.length : Int) then (laws_eqRuleS.l0 k l0 l1 0) else (some false)) = some r := h
 clear h
 by_cases c3 : (l0.length : Int) = (l1.length : Int)
 rotate_left
 ·rw [if_neg c3] at H
  have c3b0 : ((l0.length : Int) == (l1.length : Int)) = false := beq_eq_false_iff_ne.mpr c3
  have c3b1 : ((l0.length : Int) != (l1.length : Int)) = true := bne_iff_ne.mpr c3
  have c3b2 : (l0.length == l1.length) = false := by first | simpa using c3 | (simp at c3 ⊢; omega)
  obtain rfl := Option.some.inj H
  go_enter Try.func37, Try.ntmps37
  go_wp2
  go_ret
  exact ⟨yer, yhb⟩

 rw [if_pos c3] at H
 have c3b0 : ((l0.length : Int) == (l1.length : Int)) = true := beq_iff_eq.mpr c3
 have c3b1 : ((l0.length : Int) != (l1.length : Int)) = false := bne_eq_false_iff_eq.mpr c3
 have c3b2 : (l0.length == l1.length) = true := by first | simpa using c3 | (simp at c3 ⊢; omega)
 clear c3
 have H' := yam H
 clear H
 go_enter Try.func37, Try.ntmps37
 go_wp2
 go_loopg [5] k (fun kq v5 w' => ∃ (x5_1 : Int), v5 = .int .i64 x5_1 ∧ Aside0 (laws_eqRuleS.l0 kq l0 l1 x5_1 = some r) ∧ Aside0 (kq ≤ k) ∧ Aside0 (Below w.heap.size w w'))
 case atStart => exact ⟨(0), yeq, H', ⟨Nat.le_refl _⟩, ⟨yhb⟩⟩
 case round =>
  clear H'
  try clear c1
  try clear p2
  try clear c3
  try clear c3b0
  try clear c3b1
  try clear c3b2
  obtain ⟨x5_1, rfl, HA, HK1, HB⟩ := hrel
  cases gk with
  | zero => exact absurd HA.out (by simp [laws_eqRuleS.l0])
  | succ k1 =>
   have H := HA.out
   clear HA
   simp only [laws_eqRuleS.l0] at H
   by_cases c4 : x5_1 < (l0.length : Int)
   rotate_left
   ·rw [if_neg c4] at H
    have c4b0 : decide (x5_1 < (l0.length : Int)) = false := decide_eq_false c4
    clear c4
    obtain rfl := Option.some.inj H
    go_wp2
    go_ret
    exact ⟨yer, yhb⟩
   rw [if_pos c4] at H
   have c4b0 : decide (x5_1 < (l0.length : Int)) = true := decide_eq_true c4
   clear c4
   replace H := yif H
   obtain ⟨c5b0, H⟩ := H
   replace H := yif H
   obtain ⟨c6b0, H⟩ := H
   replace H := Option.bind_eq_some_iff.mp H
   obtain ⟨t551, A70, H⟩ := H
   try dsimp only at H
   have A7 := yam A70
   clear A70
   by_cases c8 : t551 = true
   rotate_left
   ·replace c8 := Bool.eq_false_iff.mpr c8
    subst c8
    have H1 : (some false) = some r := by rw [if_neg (show ¬ (false = true) by decide)] at H; exact H
    clear H
    have H := H1
    clear H1
    obtain rfl := Option.some.inj H
    try go_wp2
    have n0_ := yam (yed HB.out)
    clear HB
    have HB := n0_
    clear n0_
    have p549 : 0 ≤ (x5_1 : Int) := ydt
    have q549 : x5_1 < (l0.length : Int) := ydt
    obtain ⟨ad549, A549_1, c549_1, e549, hx549_0, hx549_1, hx549_2, hl549_1, hi549_1⟩ := at_T67 HR0.out x5_1 p549 q549
    have hw549_2 := hx549_2
    have hw549_1 := hx549_1
    have hw549_0 := hx549_0
    cases e549
    replace hx549_0 := ybx HB.out hx549_0
    replace hx549_1 := ybx HB.out hx549_1
    replace hx549_2 := ybx HB.out hx549_2
    have HR549_1 := yam hi549_1
    have HC549_1 := yam hl549_1
    clear hi549_1 hl549_1
    replace p549 := eq_true p549
    replace q549 := eq_true q549
    have p550 : 0 ≤ (x5_1 : Int) := ydt
    have q550 : x5_1 < (l1.length : Int) := ydt
    obtain ⟨ad550, A550_1, c550_1, e550, hx550_0, hx550_1, hx550_2, hl550_1, hi550_1⟩ := at_T67 HR1.out x5_1 p550 q550
    have hw550_2 := hx550_2
    have hw550_1 := hx550_1
    have hw550_0 := hx550_0
    cases e550
    replace hx550_0 := ybx HB.out hx550_0
    replace hx550_1 := ybx HB.out hx550_1
    replace hx550_2 := ybx HB.out hx550_2
    have HR550_1 := yam hi550_1
    have HC550_1 := yam hl550_1
    clear hi550_1 hl550_1
    replace p550 := eq_true p550
    replace q550 := eq_true q550
    refine start_ (n := 10) (S := fun w' => w'.cell? (ad549.add ((x5_1).toNat * 3)) = some (.int .i64 ((rd_T67 l0 x5_1).f0)) ∧ w'.cell? ⟨(ad549.add ((x5_1).toNat * 3)).block, (ad549.add ((x5_1).toNat * 3)).off + 1, none⟩ = some (.slice A549_1 ((rd_T67 l0 x5_1).f1).length c549_1) ∧ w'.cell? ⟨(ad549.add ((x5_1).toNat * 3)).block, (ad549.add ((x5_1).toNat * 3)).off + 2, none⟩ = some (.int .i64 ((rd_T67 l0 x5_1).f2)) ∧ w'.cell? (ad550.add ((x5_1).toNat * 3)) = some (.int .i64 ((rd_T67 l1 x5_1).f0)) ∧ w'.cell? ⟨(ad550.add ((x5_1).toNat * 3)).block, (ad550.add ((x5_1).toNat * 3)).off + 1, none⟩ = some (.slice A550_1 ((rd_T67 l1 x5_1).f1).length c550_1) ∧ w'.cell? ⟨(ad550.add ((x5_1).toNat * 3)).block, (ad550.add ((x5_1).toNat * 3)).off + 2, none⟩ = some (.int .i64 ((rd_T67 l1 x5_1).f2))) (ds := []) #[false, false, false, false, false, false, false, false, false, false] (by kernel_rfl) rfl rfl ⟨((HB.out.cell (World.block_lt_of_cell? w _ hw549_0)).trans hw549_0), ((HB.out.cell (World.block_lt_of_cell? w _ hw549_1)).trans hw549_1), ((HB.out.cell (World.block_lt_of_cell? w _ hw549_2)).trans hw549_2), ((HB.out.cell (World.block_lt_of_cell? w _ hw550_0)).trans hw550_0), ((HB.out.cell (World.block_lt_of_cell? w _ hw550_1)).trans hw550_1), ((HB.out.cell (World.block_lt_of_cell? w _ hw550_2)).trans hw550_2)⟩ (fun hHeld => ?_); refine with_tabW laws_eqRuleS.tab6 laws_eqRuleS.bits6 (fun HT_ HW_ => ?_)
    generalize wr.drew = w11 at HB HR549_1 HR550_1 hx549_0 hx549_1 hx549_2 hx550_0 hx550_1 hx550_2 hHeld ⊢
    refine yvp 0 17 (yvb 10 1) HT_.out ?_
    refine yvp 1 18 (yvb 10 3) HT_.out ?_
    refine yvp 2 19 (yvb 10 7) HT_.out ?_
    refine yvp 4 21 (yvb 10 23) HT_.out ?_
    refine yvp 5 22 (yvb 10 55) HT_.out ?_
    refine yvp 6 23 (yvb 10 119) HT_.out ?_
    refine yvt 3 20 (yvb 10 127) HT_.out HW_.out hHeld ?_
    refine yvt 7 24 (yvb 10 255) HT_.out HW_.out hHeld ?_
    refine one_ (i := 8) (N := some 25) #[true, true, true, true, true, true, true, true, true, false] rfl rfl (one_of HT_.out (by kernel_rfl)) (by decide) (fun K hK => ?_)
    refine goes_ Try.func71 (by kernel_rfl) rfl #[.agg #[.int .i64 ((rd_T67 l0 x5_1).f0), .slice A549_1 ((rd_T67 l0 x5_1).f1).length c549_1, .int .i64 ((rd_T67 l0 x5_1).f2)], .agg #[.int .i64 ((rd_T67 l1 x5_1).f0), .slice A550_1 ((rd_T67 l1 x5_1).f1).length c550_1, .int .i64 ((rd_T67 l1 x5_1).f2)]] (by rfl) rfl rfl ymd ?_
    with_reducible refine (laws_eqRule.calls k1 ((rd_T67 l0 x5_1).f0) _ _ ((rd_T67 l0 x5_1).f1) ((rd_T67 l0 x5_1).f2) ((rd_T67 l1 x5_1).f0) _ _ ((rd_T67 l1 x5_1).f1) ((rd_T67 l1 x5_1).f2) false _ ?side1 ?side2 ?side3 ?side4 A7.out).mono ?_
    (case side1 => exact Kd.Cz ((Kd.C_below HR549_1.out HB.out)))
    (case side2 => exact HC549_1.out)
    (case side3 => exact Kd.Cz ((Kd.C_below HR550_1.out HB.out)))
    (case side4 => exact HC550_1.out)
    rintro e w12 ⟨rfl, hb⟩
    refine ⟨_, rfl, ?_⟩
    have n0_ := yam (below_step (yez HB.out) hb)
    clear HB
    have HB := n0_
    clear n0_
    (try clear hb)
    (try clear hb2)
    (try clear hk)
    (try clear hi)
    refine hK.out _ _ ⟨((HB.out.cell (World.block_lt_of_cell? w _ hw549_0)).trans hw549_0), ((HB.out.cell (World.block_lt_of_cell? w _ hw549_1)).trans hw549_1), ((HB.out.cell (World.block_lt_of_cell? w _ hw549_2)).trans hw549_2), ((HB.out.cell (World.block_lt_of_cell? w _ hw550_0)).trans hw550_0), ((HB.out.cell (World.block_lt_of_cell? w _ hw550_1)).trans hw550_1), ((HB.out.cell (World.block_lt_of_cell? w _ hw550_2)).trans hw550_2)⟩ (fun hHeld => ?_)
    clear hK K
    refine norm_ (a' := ?_) ?_ ?_
    rotate_left
    ·show Act.put _ (some 25) _ = _
     simp only [Act.put, yps, i64_w, i32_w]
     rfl
    refine yvp 9 26 (yvb 10 1023) HT_.out ?_
    refine done_ (done_of HT_.out (by kernel_rfl)) ?_
    try go_wp2
    go_ret
    exact ⟨yer, yhb⟩
   subst c8
   have H1 : (laws_eqRuleS.l0 k1 l0 l1 (wrap64 (x5_1 + 1))) = some r := by rw [if_pos rfl] at H; exact H
   clear H
   have H := H1
   clear H1
   have H' := yam H
   clear H
   try go_wp2
   have n0_ := yam (yed HB.out)
   clear HB
   have HB := n0_
   clear n0_
   have p549 : 0 ≤ (x5_1 : Int) := ydt
   have q549 : x5_1 < (l0.length : Int) := ydt
   obtain ⟨ad549, A549_1, c549_1, e549, hx549_0, hx549_1, hx549_2, hl549_1, hi549_1⟩ := at_T67 HR0.out x5_1 p549 q549
   have hw549_2 := hx549_2
   have hw549_1 := hx549_1
   have hw549_0 := hx549_0
   cases e549
   replace hx549_0 := ybx HB.out hx549_0
   replace hx549_1 := ybx HB.out hx549_1
   replace hx549_2 := ybx HB.out hx549_2
   have HR549_1 := yam hi549_1
   have HC549_1 := yam hl549_1
   clear hi549_1 hl549_1
   replace p549 := eq_true p549
   replace q549 := eq_true q549
   have p550 : 0 ≤ (x5_1 : Int) := ydt
   have q550 : x5_1 < (l1.length : Int) := ydt
   obtain ⟨ad550, A550_1, c550_1, e550, hx550_0, hx550_1, hx550_2, hl550_1, hi550_1⟩ := at_T67 HR1.out x5_1 p550 q550
   have hw550_2 := hx550_2
   have hw550_1 := hx550_1
   have hw550_0 := hx550_0
   cases e550
   replace hx550_0 := ybx HB.out hx550_0
   replace hx550_1 := ybx HB.out hx550_1
   replace hx550_2 := ybx HB.out hx550_2
   have HR550_1 := yam hi550_1
   have HC550_1 := yam hl550_1
   clear hi550_1 hl550_1
   replace p550 := eq_true p550
   replace q550 := eq_true q550
   refine start_ (n := 10) (S := fun w' => w'.cell? (ad549.add ((x5_1).toNat * 3)) = some (.int .i64 ((rd_T67 l0 x5_1).f0)) ∧ w'.cell? ⟨(ad549.add ((x5_1).toNat * 3)).block, (ad549.add ((x5_1).toNat * 3)).off + 1, none⟩ = some (.slice A549_1 ((rd_T67 l0 x5_1).f1).length c549_1) ∧ w'.cell? ⟨(ad549.add ((x5_1).toNat * 3)).block, (ad549.add ((x5_1).toNat * 3)).off + 2, none⟩ = some (.int .i64 ((rd_T67 l0 x5_1).f2)) ∧ w'.cell? (ad550.add ((x5_1).toNat * 3)) = some (.int .i64 ((rd_T67 l1 x5_1).f0)) ∧ w'.cell? ⟨(ad550.add ((x5_1).toNat * 3)).block, (ad550.add ((x5_1).toNat * 3)).off + 1, none⟩ = some (.slice A550_1 ((rd_T67 l1 x5_1).f1).length c550_1) ∧ w'.cell? ⟨(ad550.add ((x5_1).toNat * 3)).block, (ad550.add ((x5_1).toNat * 3)).off + 2, none⟩ = some (.int .i64 ((rd_T67 l1 x5_1).f2))) (ds := []) #[false, false, false, false, false, false, false, false, false, false] (by kernel_rfl) rfl rfl ⟨((HB.out.cell (World.block_lt_of_cell? w _ hw549_0)).trans hw549_0), ((HB.out.cell (World.block_lt_of_cell? w _ hw549_1)).trans hw549_1), ((HB.out.cell (World.block_lt_of_cell? w _ hw549_2)).trans hw549_2), ((HB.out.cell (World.block_lt_of_cell? w _ hw550_0)).trans hw550_0), ((HB.out.cell (World.block_lt_of_cell? w _ hw550_1)).trans hw550_1), ((HB.out.cell (World.block_lt_of_cell? w _ hw550_2)).trans hw550_2)⟩ (fun hHeld => ?_); refine with_tabW laws_eqRuleS.tab6 laws_eqRuleS.bits6 (fun HT_ HW_ => ?_)
   generalize wr.drew = w9 at HB HR549_1 HR550_1 hx549_0 hx549_1 hx549_2 hx550_0 hx550_1 hx550_2 hHeld ⊢
   refine yvp 0 17 (yvb 10 1) HT_.out ?_
   refine yvp 1 18 (yvb 10 3) HT_.out ?_
   refine yvp 2 19 (yvb 10 7) HT_.out ?_
   refine yvp 4 21 (yvb 10 23) HT_.out ?_
   refine yvp 5 22 (yvb 10 55) HT_.out ?_
   refine yvp 6 23 (yvb 10 119) HT_.out ?_
   refine yvt 3 20 (yvb 10 127) HT_.out HW_.out hHeld ?_
   refine yvt 7 24 (yvb 10 255) HT_.out HW_.out hHeld ?_
   refine one_ (i := 8) (N := some 25) #[true, true, true, true, true, true, true, true, true, false] rfl rfl (one_of HT_.out (by kernel_rfl)) (by decide) (fun K hK => ?_)
   refine goes_ Try.func71 (by kernel_rfl) rfl #[.agg #[.int .i64 ((rd_T67 l0 x5_1).f0), .slice A549_1 ((rd_T67 l0 x5_1).f1).length c549_1, .int .i64 ((rd_T67 l0 x5_1).f2)], .agg #[.int .i64 ((rd_T67 l1 x5_1).f0), .slice A550_1 ((rd_T67 l1 x5_1).f1).length c550_1, .int .i64 ((rd_T67 l1 x5_1).f2)]] (by rfl) rfl rfl ymd ?_
   with_reducible refine (laws_eqRule.calls k1 ((rd_T67 l0 x5_1).f0) _ _ ((rd_T67 l0 x5_1).f1) ((rd_T67 l0 x5_1).f2) ((rd_T67 l1 x5_1).f0) _ _ ((rd_T67 l1 x5_1).f1) ((rd_T67 l1 x5_1).f2) true _ ?side1 ?side2 ?side3 ?side4 A7.out).mono ?_
   (case side1 => exact Kd.Cz ((Kd.C_below HR549_1.out HB.out)))
   (case side2 => exact HC549_1.out)
   (case side3 => exact Kd.Cz ((Kd.C_below HR550_1.out HB.out)))
   (case side4 => exact HC550_1.out)
   rintro e w10 ⟨rfl, hb⟩
   refine ⟨_, rfl, ?_⟩
   have n0_ := yam (below_step (yez HB.out) hb)
   clear HB
   have HB := n0_
   clear n0_
   (try clear hb)
   (try clear hb2)
   (try clear hk)
   (try clear hi)
   refine hK.out _ _ ⟨((HB.out.cell (World.block_lt_of_cell? w _ hw549_0)).trans hw549_0), ((HB.out.cell (World.block_lt_of_cell? w _ hw549_1)).trans hw549_1), ((HB.out.cell (World.block_lt_of_cell? w _ hw549_2)).trans hw549_2), ((HB.out.cell (World.block_lt_of_cell? w _ hw550_0)).trans hw550_0), ((HB.out.cell (World.block_lt_of_cell? w _ hw550_1)).trans hw550_1), ((HB.out.cell (World.block_lt_of_cell? w _ hw550_2)).trans hw550_2)⟩ (fun hHeld => ?_)
   clear hK K
   refine norm_ (a' := ?_) ?_ ?_
   rotate_left
   ·show Act.put _ (some 25) _ = _
    simp only [Act.put, yps, i64_w, i32_w]
    rfl
   refine yvp 9 26 (yvb 10 1023) HT_.out ?_
   refine done_ (done_of HT_.out (by kernel_rfl)) ?_
   try go_wp2
   go_roundg k1
   case measure => have := HK1.out; omega
   case rel => exact ⟨(wrap64 (x5_1 + 1)), yeq, H', ⟨by have := HK1.out; omega⟩, ⟨yhb⟩⟩
def laws_eqPuzzle.f (k : Nat) (a0_0 : Int) (l0_1 : List Int) (l0_2 : List (S67)) (a1_0 : Int) (l1_1 : List Int) (l1_2 : List (S67)) : Option (Bool) := if a0_0 = a1_0 then ((laws_eqIntS.f k l0_1 l1_1).bind fun t554 => (if t554 = true then ((laws_eqRuleS.f k l0_2 l1_2).bind fun t555 => (if t555 = true then (some true) else (some false))) else (some false))) else (some false)
set_option maxHeartbeats 8000000 in
set_option maxRecDepth 100000 in
theorem laws_eqPuzzle.calls (k : Nat) (a0_0 : Int) (A0_1 : Option Addr) (c0_1 : Nat) (l0_1 : List Int) (A0_2 : Option Addr) (c0_2 : Nat) (l0_2 : List (S67)) (a1_0 : Int) (A1_1 : Option Addr) (c1_1 : Nat) (l1_1 : List Int) (A1_2 : Option Addr) (c1_2 : Nat) (l1_2 : List (S67)) (r : Bool) (w : World) (hr0_1 : Kd.C (Kd.int .i64) w A0_1 l0_1.length l0_1) (hc0_1 : l0_1.length ≤ c0_1) (hr0_2 : Kd.C k67 w A0_2 l0_2.length l0_2) (hc0_2 : l0_2.length ≤ c0_2) (hr1_1 : Kd.C (Kd.int .i64) w A1_1 l1_1.length l1_1) (hc1_1 : l1_1.length ≤ c1_1) (hr1_2 : Kd.C k67 w A1_2 l1_2.length l1_2) (hc1_2 : l1_2.length ≤ c1_2) (h : laws_eqPuzzle.f k a0_0 l0_1 l0_2 a1_0 l1_1 l1_2 = some r) :
  Calls Try.prog 14 #[.agg #[.int .i64 a0_0, .slice A0_1 l0_1.length c0_1, .slice A0_2 l0_2.length c0_2], .agg #[.int .i64 a1_0, .slice A1_1 l1_1.length c1_1, .slice A1_2 l1_2.length c1_2]] w fun e w' => e = .returned (.bool r) ∧ Below w.heap.size w w' := by
 have hu30 := Try.underlying30
 have HR0_1 := yam hr0_1
 have HC0_1 := yam hc0_1
 clear hr0_1 hc0_1
 have HR0_2 := yam hr0_2
 have HC0_2 := yam hc0_2
 clear hr0_2 hc0_2
 have HR1_1 := yam hr1_1
 have HC1_1 := yam hc1_1
 clear hr1_1 hc1_1
 have HR1_2 := yam hr1_2
 have HC1_2 := yam hc1_2
 clear hr1_2 hc1_2
 have HB := yam (Below.refl w.heap.size w)
 have H : (if a0_0 = a1_0 then ((laws_eqIntS.f k l0_1 l1_1).bind fun t554 => (if t554 = true then ((laws_eqRuleS.f k l0_2 l1_2).bind fun t555 => (if t555 = true then (some true) else (some false))) else (some false))) else (some false)) = some r := h
 clear h
 by_cases c3 : a0_0 = a1_0
 rotate_left
 ·rw [if_neg c3] at H
  have c3b0 : (a0_0 == a1_0) = false := beq_eq_false_iff_ne.mpr c3
  have c3b1 : (a0_0 != a1_0) = true := bne_iff_ne.mpr c3
  obtain rfl := Option.some.inj H
  go_enter Try.func14, Try.ntmps14
  go_wp2_with (first | (refine ybe 2 #[.int .i64 a0_0, .slice A0_1 l0_1.length c0_1, .slice A0_2 l0_2.length c0_2] 30 ?_; intro gb552 hg w25 hbox hb; have n0_ := yam (below_step (yez HB.out) hb); have n1_ := yam (hbox); have n2_ := yam ((by rw [hg]; exact (below_size (yez HB.out)) : w.heap.size ≤ gb552)); have n3_ := n2_; clear HB; have HB := n0_; have BK552 := n1_; have GW552 := n2_; have GE552 := n3_; clear n0_ n1_ n2_ n3_; clear hb hbox hg) | (refine ybe 3 #[.int .i64 a1_0, .slice A1_1 l1_1.length c1_1, .slice A1_2 l1_2.length c1_2] 30 ?_; intro gb553 hg w26 hbox hb; have n0_ := yam (blk_below (g := gb552) (o := .cells #[.int .i64 a0_0, .slice A0_1 l0_1.length c0_1, .slice A0_2 l0_2.length c0_2] 30 (0, 0)) (ybz BK552.out) hb); have n1_ := yam (below_step yhb hb); have n2_ := yam (hbox); have n3_ := yam ((by rw [hg]; exact (below_size yhb) : w.heap.size ≤ gb553)); have n4_ := n3_; have n5_ := yam ((by rw [hg]; exact Nat.ne_of_lt (blk_lt (g := gb552) (o := .cells #[.int .i64 a0_0, .slice A0_1 l0_1.length c0_1, .slice A0_2 l0_2.length c0_2] 30 (0, 0)) (ybz BK552.out)) : gb552 ≠ gb553)); have n6_ := yam ((by rw [hg]; exact Nat.ne_of_gt (blk_lt (g := gb552) (o := .cells #[.int .i64 a0_0, .slice A0_1 l0_1.length c0_1, .slice A0_2 l0_2.length c0_2] 30 (0, 0)) (ybz BK552.out)) : gb553 ≠ gb552)); clear BK552; clear HB; have BK552 := n0_; have HB := n1_; have BK553 := n2_; have GW553 := n3_; have GE553 := n4_; have NB552_553 := n5_; have NB553_552 := n6_; clear n0_ n1_ n2_ n3_ n4_ n5_ n6_; clear hb hbox hg; have hnb27 := NB552_553.out; have hnc27 := NB553_552.out; obtain ⟨hcz28_0, hcz28_1, hcz28_2, hfz28_0, hfz28_1, hfz28_2⟩ := ybc BK552.out; obtain ⟨hcz29_0, hcz29_1, hcz29_2, hfz29_0, hfz29_1, hfz29_2⟩ := ybc BK553.out))
  go_ret
  exact ⟨yer, yhb⟩

 rw [if_pos c3] at H
 have c3b0 : (a0_0 == a1_0) = true := beq_iff_eq.mpr c3
 have c3b1 : (a0_0 != a1_0) = false := bne_eq_false_iff_eq.mpr c3
 clear c3
 replace H := Option.bind_eq_some_iff.mp H
 obtain ⟨t554, A40, H⟩ := H
 try dsimp only at H
 have A4 := yam A40
 clear A40
 by_cases c5 : t554 = true
 rotate_left
 ·replace c5 := Bool.eq_false_iff.mpr c5
  subst c5
  have H1 : (some false) = some r := by rw [if_neg (show ¬ (false = true) by decide)] at H; exact H
  clear H
  have H := H1
  clear H1
  obtain rfl := Option.some.inj H
  go_enter Try.func14, Try.ntmps14
  go_wp2_with (first | (refine ybe 2 #[.int .i64 a0_0, .slice A0_1 l0_1.length c0_1, .slice A0_2 l0_2.length c0_2] 30 ?_; intro gb552 hg w20 hbox hb; have n0_ := yam (below_step (yez HB.out) hb); have n1_ := yam (hbox); have n2_ := yam ((by rw [hg]; exact (below_size (yez HB.out)) : w.heap.size ≤ gb552)); have n3_ := n2_; clear HB; have HB := n0_; have BK552 := n1_; have GW552 := n2_; have GE552 := n3_; clear n0_ n1_ n2_ n3_; clear hb hbox hg) | (refine ybe 3 #[.int .i64 a1_0, .slice A1_1 l1_1.length c1_1, .slice A1_2 l1_2.length c1_2] 30 ?_; intro gb553 hg w21 hbox hb; have n0_ := yam (blk_below (g := gb552) (o := .cells #[.int .i64 a0_0, .slice A0_1 l0_1.length c0_1, .slice A0_2 l0_2.length c0_2] 30 (0, 0)) (ybz BK552.out) hb); have n1_ := yam (below_step yhb hb); have n2_ := yam (hbox); have n3_ := yam ((by rw [hg]; exact (below_size yhb) : w.heap.size ≤ gb553)); have n4_ := n3_; have n5_ := yam ((by rw [hg]; exact Nat.ne_of_lt (blk_lt (g := gb552) (o := .cells #[.int .i64 a0_0, .slice A0_1 l0_1.length c0_1, .slice A0_2 l0_2.length c0_2] 30 (0, 0)) (ybz BK552.out)) : gb552 ≠ gb553)); have n6_ := yam ((by rw [hg]; exact Nat.ne_of_gt (blk_lt (g := gb552) (o := .cells #[.int .i64 a0_0, .slice A0_1 l0_1.length c0_1, .slice A0_2 l0_2.length c0_2] 30 (0, 0)) (ybz BK552.out)) : gb553 ≠ gb552)); clear BK552; clear HB; have BK552 := n0_; have HB := n1_; have BK553 := n2_; have GW553 := n3_; have GE553 := n4_; have NB552_553 := n5_; have NB553_552 := n6_; clear n0_ n1_ n2_ n3_ n4_ n5_ n6_; clear hb hbox hg; have hnb22 := NB552_553.out; have hnc22 := NB553_552.out; obtain ⟨hcz23_0, hcz23_1, hcz23_2, hfz23_0, hfz23_1, hfz23_2⟩ := ybc BK552.out; obtain ⟨hcz24_0, hcz24_1, hcz24_2, hfz24_0, hfz24_1, hfz24_2⟩ := ybc BK553.out) | (refine goesL_ (some 14) rfl rfl Try.func13 (by kernel_rfl) rfl #[.slice A0_1 l0_1.length c0_1, .slice A1_1 l1_1.length c1_1] rfl ymd ?_; (with_reducible refine (laws_eqIntS.calls k _ _ l0_1 _ _ l1_1 false _ ?side1 ?side2 ?side3 ?side4 A4.out).mono ?_); (case side1 => exact Kd.Cz ((Kd.C_below HR0_1.out HB.out))); (case side2 => exact HC0_1.out); (case side3 => exact Kd.Cz ((Kd.C_below HR1_1.out HB.out))); (case side4 => exact HC1_1.out); rintro e w' ⟨rfl, ⟨nd, rfl⟩⟩; refine ⟨_, rfl, ?_⟩))
  go_ret
  exact ⟨yer, yhb⟩
 subst c5
 have H1 : ((laws_eqRuleS.f k l0_2 l1_2).bind fun t555 => (if t555 = true then (some true) else (some false))) = some r := by rw [if_pos rfl] at H; exact H
 clear H
 have H := H1
 clear H1
 replace H := Option.bind_eq_some_iff.mp H
 obtain ⟨t555, A60, H⟩ := H
 try dsimp only at H
 have A6 := yam A60
 clear A60
 by_cases c7 : t555 = true
 ·subst c7
  have H1 : (some true) = some r := by rw [if_pos rfl] at H; exact H
  clear H
  have H := H1
  clear H1
  obtain rfl := Option.some.inj H
  go_enter Try.func14, Try.ntmps14
  go_wp2_with (first | (refine ybe 2 #[.int .i64 a0_0, .slice A0_1 l0_1.length c0_1, .slice A0_2 l0_2.length c0_2] 30 ?_; intro gb552 hg w8 hbox hb; have n0_ := yam (below_step (yez HB.out) hb); have n1_ := yam (hbox); have n2_ := yam ((by rw [hg]; exact (below_size (yez HB.out)) : w.heap.size ≤ gb552)); have n3_ := n2_; clear HB; have HB := n0_; have BK552 := n1_; have GW552 := n2_; have GE552 := n3_; clear n0_ n1_ n2_ n3_; clear hb hbox hg) | (refine ybe 3 #[.int .i64 a1_0, .slice A1_1 l1_1.length c1_1, .slice A1_2 l1_2.length c1_2] 30 ?_; intro gb553 hg w9 hbox hb; have n0_ := yam (blk_below (g := gb552) (o := .cells #[.int .i64 a0_0, .slice A0_1 l0_1.length c0_1, .slice A0_2 l0_2.length c0_2] 30 (0, 0)) (ybz BK552.out) hb); have n1_ := yam (below_step yhb hb); have n2_ := yam (hbox); have n3_ := yam ((by rw [hg]; exact (below_size yhb) : w.heap.size ≤ gb553)); have n4_ := n3_; have n5_ := yam ((by rw [hg]; exact Nat.ne_of_lt (blk_lt (g := gb552) (o := .cells #[.int .i64 a0_0, .slice A0_1 l0_1.length c0_1, .slice A0_2 l0_2.length c0_2] 30 (0, 0)) (ybz BK552.out)) : gb552 ≠ gb553)); have n6_ := yam ((by rw [hg]; exact Nat.ne_of_gt (blk_lt (g := gb552) (o := .cells #[.int .i64 a0_0, .slice A0_1 l0_1.length c0_1, .slice A0_2 l0_2.length c0_2] 30 (0, 0)) (ybz BK552.out)) : gb553 ≠ gb552)); clear BK552; clear HB; have BK552 := n0_; have HB := n1_; have BK553 := n2_; have GW553 := n3_; have GE553 := n4_; have NB552_553 := n5_; have NB553_552 := n6_; clear n0_ n1_ n2_ n3_ n4_ n5_ n6_; clear hb hbox hg; have hnb10 := NB552_553.out; have hnc10 := NB553_552.out; obtain ⟨hcz11_0, hcz11_1, hcz11_2, hfz11_0, hfz11_1, hfz11_2⟩ := ybc BK552.out; obtain ⟨hcz12_0, hcz12_1, hcz12_2, hfz12_0, hfz12_1, hfz12_2⟩ := ybc BK553.out) | (refine goesL_ (some 14) rfl rfl Try.func13 (by kernel_rfl) rfl #[.slice A0_1 l0_1.length c0_1, .slice A1_1 l1_1.length c1_1] rfl ymd ?_; (with_reducible refine (laws_eqIntS.calls k _ _ l0_1 _ _ l1_1 true _ ?side1 ?side2 ?side3 ?side4 A4.out).mono ?_); (case side1 => exact Kd.Cz ((Kd.C_below HR0_1.out HB.out))); (case side2 => exact HC0_1.out); (case side3 => exact Kd.Cz ((Kd.C_below HR1_1.out HB.out))); (case side4 => exact HC1_1.out); rintro e w' ⟨rfl, ⟨nd, rfl⟩⟩; refine ⟨_, rfl, ?_⟩) | (refine goesL_ (some 20) rfl rfl Try.func37 (by kernel_rfl) rfl #[.slice A0_2 l0_2.length c0_2, .slice A1_2 l1_2.length c1_2] rfl ymd ?_; (with_reducible refine (laws_eqRuleS.calls k _ _ l0_2 _ _ l1_2 true _ ?side1 ?side2 ?side3 ?side4 A6.out).mono ?_); (case side1 => repeat (first | exact (Kd.C_below HR0_2.out yhb) | (with_reducible refine Kd.C_alloc ?_ _) | (with_reducible refine Kd.C_drewN ?_ _) | (with_reducible refine Kd.C_drew ?_))); (case side2 => exact HC0_2.out); (case side3 => repeat (first | exact (Kd.C_below HR1_2.out yhb) | (with_reducible refine Kd.C_alloc ?_ _) | (with_reducible refine Kd.C_drewN ?_ _) | (with_reducible refine Kd.C_drew ?_))); (case side4 => exact HC1_2.out); rintro e w13 ⟨rfl, hb⟩; refine ⟨_, rfl, ?_⟩; have n0_ := yam (blk_below (g := gb552) (o := .cells #[.int .i64 a0_0, .slice A0_1 l0_1.length c0_1, .slice A0_2 l0_2.length c0_2] 30 (0, 0)) (ybz BK552.out) hb); have n1_ := yam (blk_below (g := gb553) (o := .cells #[.int .i64 a1_0, .slice A1_1 l1_1.length c1_1, .slice A1_2 l1_2.length c1_2] 30 (0, 0)) (ybz BK553.out) hb); have n2_ := yam (below_step yhb hb); clear BK552; clear BK553; clear HB; have BK552 := n0_; have BK553 := n1_; have HB := n2_; clear n0_ n1_ n2_; (try clear hb); (try clear hb2); (try clear hk); (try clear hi)))
  go_ret
  exact ⟨yer, yhb⟩
 replace c7 := Bool.eq_false_iff.mpr c7
 subst c7
 have H1 : (some false) = some r := by rw [if_neg (show ¬ (false = true) by decide)] at H; exact H
 clear H
 have H := H1
 clear H1
 obtain rfl := Option.some.inj H
 go_enter Try.func14, Try.ntmps14
 go_wp2_with (first | (refine ybe 2 #[.int .i64 a0_0, .slice A0_1 l0_1.length c0_1, .slice A0_2 l0_2.length c0_2] 30 ?_; intro gb552 hg w14 hbox hb; have n0_ := yam (below_step (yez HB.out) hb); have n1_ := yam (hbox); have n2_ := yam ((by rw [hg]; exact (below_size (yez HB.out)) : w.heap.size ≤ gb552)); have n3_ := n2_; clear HB; have HB := n0_; have BK552 := n1_; have GW552 := n2_; have GE552 := n3_; clear n0_ n1_ n2_ n3_; clear hb hbox hg) | (refine ybe 3 #[.int .i64 a1_0, .slice A1_1 l1_1.length c1_1, .slice A1_2 l1_2.length c1_2] 30 ?_; intro gb553 hg w15 hbox hb; have n0_ := yam (blk_below (g := gb552) (o := .cells #[.int .i64 a0_0, .slice A0_1 l0_1.length c0_1, .slice A0_2 l0_2.length c0_2] 30 (0, 0)) (ybz BK552.out) hb); have n1_ := yam (below_step yhb hb); have n2_ := yam (hbox); have n3_ := yam ((by rw [hg]; exact (below_size yhb) : w.heap.size ≤ gb553)); have n4_ := n3_; have n5_ := yam ((by rw [hg]; exact Nat.ne_of_lt (blk_lt (g := gb552) (o := .cells #[.int .i64 a0_0, .slice A0_1 l0_1.length c0_1, .slice A0_2 l0_2.length c0_2] 30 (0, 0)) (ybz BK552.out)) : gb552 ≠ gb553)); have n6_ := yam ((by rw [hg]; exact Nat.ne_of_gt (blk_lt (g := gb552) (o := .cells #[.int .i64 a0_0, .slice A0_1 l0_1.length c0_1, .slice A0_2 l0_2.length c0_2] 30 (0, 0)) (ybz BK552.out)) : gb553 ≠ gb552)); clear BK552; clear HB; have BK552 := n0_; have HB := n1_; have BK553 := n2_; have GW553 := n3_; have GE553 := n4_; have NB552_553 := n5_; have NB553_552 := n6_; clear n0_ n1_ n2_ n3_ n4_ n5_ n6_; clear hb hbox hg; have hnb16 := NB552_553.out; have hnc16 := NB553_552.out; obtain ⟨hcz17_0, hcz17_1, hcz17_2, hfz17_0, hfz17_1, hfz17_2⟩ := ybc BK552.out; obtain ⟨hcz18_0, hcz18_1, hcz18_2, hfz18_0, hfz18_1, hfz18_2⟩ := ybc BK553.out) | (refine goesL_ (some 14) rfl rfl Try.func13 (by kernel_rfl) rfl #[.slice A0_1 l0_1.length c0_1, .slice A1_1 l1_1.length c1_1] rfl ymd ?_; (with_reducible refine (laws_eqIntS.calls k _ _ l0_1 _ _ l1_1 true _ ?side1 ?side2 ?side3 ?side4 A4.out).mono ?_); (case side1 => exact Kd.Cz ((Kd.C_below HR0_1.out HB.out))); (case side2 => exact HC0_1.out); (case side3 => exact Kd.Cz ((Kd.C_below HR1_1.out HB.out))); (case side4 => exact HC1_1.out); rintro e w' ⟨rfl, ⟨nd, rfl⟩⟩; refine ⟨_, rfl, ?_⟩) | (refine goesL_ (some 20) rfl rfl Try.func37 (by kernel_rfl) rfl #[.slice A0_2 l0_2.length c0_2, .slice A1_2 l1_2.length c1_2] rfl ymd ?_; (with_reducible refine (laws_eqRuleS.calls k _ _ l0_2 _ _ l1_2 false _ ?side1 ?side2 ?side3 ?side4 A6.out).mono ?_); (case side1 => repeat (first | exact (Kd.C_below HR0_2.out yhb) | (with_reducible refine Kd.C_alloc ?_ _) | (with_reducible refine Kd.C_drewN ?_ _) | (with_reducible refine Kd.C_drew ?_))); (case side2 => exact HC0_2.out); (case side3 => repeat (first | exact (Kd.C_below HR1_2.out yhb) | (with_reducible refine Kd.C_alloc ?_ _) | (with_reducible refine Kd.C_drewN ?_ _) | (with_reducible refine Kd.C_drew ?_))); (case side4 => exact HC1_2.out); rintro e w19 ⟨rfl, hb⟩; refine ⟨_, rfl, ?_⟩; have n0_ := yam (blk_below (g := gb552) (o := .cells #[.int .i64 a0_0, .slice A0_1 l0_1.length c0_1, .slice A0_2 l0_2.length c0_2] 30 (0, 0)) (ybz BK552.out) hb); have n1_ := yam (blk_below (g := gb553) (o := .cells #[.int .i64 a1_0, .slice A1_1 l1_1.length c1_1, .slice A1_2 l1_2.length c1_2] 30 (0, 0)) (ybz BK553.out) hb); have n2_ := yam (below_step yhb hb); clear BK552; clear BK553; clear HB; have BK552 := n0_; have BK553 := n1_; have HB := n2_; clear n0_ n1_ n2_; (try clear hb); (try clear hb2); (try clear hk); (try clear hi)))
 go_ret
 exact ⟨yer, yhb⟩
def laws_markIntS.l0 : Nat → List Int → Int → Int → Option (Int × List Int)
 | 0, _, _, _ => none
 | k + 1, x0, x1, x5 => if x5 < (x0.length : Int) then (if 0 ≤ x5 then (laws_markIntS.l0 k (x0.set (x5 : Int).toNat x1) (wrap64 (x1 + 1)) (wrap64 (x5 + 1))) else (none)) else (some (x1, x0))
def laws_markIntS.f (k : Nat) (l0 : List Int) (a1 : Int) : Option (Int × List Int) := laws_markIntS.l0 k l0 a1 0
set_option maxHeartbeats 8000000 in
set_option maxRecDepth 100000 in
theorem laws_markIntS.calls (k : Nat) (P0_ : Nat → Prop) (u9000_ : Value) (l0 : List Int) (a1 : Int) (r1 : Int) (r2 : List Int) (w0 w : World) (hB : Below w0.heap.size w0 w) (ho0 : Kd.R (Kd.int .i64) 3 w w0.heap.size P0_ u9000_ l0) (h : laws_markIntS.f k l0 a1 = some (r1, r2)) :
  Calls Try.prog 16 #[u9000_, .int .i64 a1] w fun e w' => e = .returned (.int .i64 r1) ∧ Kd.R (Kd.int .i64) 3 w' w0.heap.size (fun k_ => (P0_ k_ ∨ w.heap.size ≤ k_)) u9000_ r2 ∧ Below w0.heap.size w0 w' ∧ Kept w w' (fun k_ => P0_ k_) := by
 have HO0 := yam (show Kd.R (Kd.int .i64) 3 w w0.heap.size (fun k_ => (P0_ k_ ∨ w.heap.size ≤ k_)) u9000_ l0 from Kd.R_mono ho0 (fun k_ hk => (.inl hk)))
 have HK := yam (Kept.refl w (fun k_ => P0_ k_))
 have HW0 := yam hB.size
 have HB := yam hB
 clear hB
 have H : (laws_markIntS.l0 k l0 a1 0) = some (r1, r2) := h
 clear h
 have H' := yam H
 clear H
 go_enter Try.func16, Try.ntmps16
 go_wp2
 go_loopg [1, 5] k (fun kq v1 v5 w' => ∃ (x0_1 : List Int) (x1_1 : Int) (x5_1 : Int), v1 = .int .i64 x1_1 ∧ v5 = .int .i64 x5_1 ∧ Aside0 (laws_markIntS.l0 kq x0_1 x1_1 x5_1 = some (r1, r2)) ∧ Aside0 (kq ≤ k) ∧ Aside0 (Kd.R (Kd.int .i64) 3 w' w0.heap.size (fun k_ => (P0_ k_ ∨ w.heap.size ≤ k_)) u9000_ x0_1) ∧ Aside0 (Kept w w' (fun k_ => P0_ k_)) ∧ Aside0 (Below w0.heap.size w0 w'))
 case atStart => exact ⟨(l0), (a1), (0), yeq, yeq, H', ⟨Nat.le_refl _⟩, ⟨yka HO0.out⟩, ⟨by repeat (first | (with_reducible first | exact HK.out | apply Kept.alloc | apply Kept.drewN | apply Kept.drew) | exact HK.out)⟩, ⟨yhb⟩⟩
 case round =>
  clear H'
  try clear c1
  try clear p2
  obtain ⟨x0_1, x1_1, x5_1, rfl, rfl, HA, HK1, HO_0, HK, HB⟩ := hrel
  cases gk with
  | zero => exact absurd HA.out (by simp [laws_markIntS.l0])
  | succ k1 =>
   have H := HA.out
   clear HA
   simp only [laws_markIntS.l0] at H
   by_cases c3 : x5_1 < (x0_1.length : Int)
   rotate_left
   ·rw [if_neg c3] at H
    have c3b0 : decide (x5_1 < (x0_1.length : Int)) = false := decide_eq_false c3
    clear c3
    simp only [Option.some.injEq, Prod.mk.injEq] at H
    obtain ⟨rfl, rfl⟩ := H
    obtain ⟨Ao9, co9, eo9⟩ := Kd.R_slice HO_0.out
    subst eo9
    go_wp2
    go_ret
    exact ⟨yer, yka HO_0.out, yhb, by repeat (first | (with_reducible first | exact HK.out | apply Kept.alloc | apply Kept.drewN | apply Kept.drew) | exact HK.out)⟩

   rw [if_pos c3] at H
   have c3b0 : decide (x5_1 < (x0_1.length : Int)) = true := decide_eq_true c3
   clear c3
   replace H := yif H
   obtain ⟨c4b0, H⟩ := H
   obtain ⟨y556, hy556⟩ : ∃ y_ : List Int, y_ = (x0_1.set (x5_1 : Int).toNat x1_1) := ⟨_, rfl⟩
   replace H : (laws_markIntS.l0 k1 y556 (wrap64 (x1_1 + 1)) (wrap64 (x5_1 + 1))) = some (r1, r2) := by first | (rw [hy556]; with_reducible exact H) | (have H2_ := (Option.bind_some _ _).symm.trans H; rw [hy556]; with_reducible exact H2_) | (have H2_ := (Option.bind_some _ _).symm.trans H; with_reducible exact H2_) | with_reducible exact H | (rw [hy556]; exact H) | exact H
   have Ny556 := yam hy556
   clear hy556
   have H' := yam H
   clear H
   obtain ⟨Ao6, co6, eo6⟩ := Kd.R_slice HO_0.out
   subst eo6
   have p5 : 0 ≤ (x5_1 : Int) := ydt
   have q5 : (x5_1 : Int) < ((x0_1.length : Int) : Int) := ydt
   obtain ⟨go5, co5, eo5, gb5, gl5, cl5, HG5⟩ := Kd.R_form HO_0.out (by omega)
   (first | cases eo5 | (injection eo5 with ea_ en_ ec_; (first | subst ea_ | (injection ea_ with ea_; subst ea_)); subst ec_; clear en_))
   have GB5 := yam gb5
   have GG5 := yam HG5
   clear gb5 gl5 HG5
   have HMgo5 := yam (show (P0_ go5 ∨ w.heap.size ≤ go5) from (HO_0.out.1 _ rfl))
   obtain ⟨hx5_0, hf5_0⟩ := Kd.R_celln 0 HO_0.out (x5_1 : Int) p5 q5
   replace p5 := eq_true p5
   replace q5 := eq_true q5
   have HP7 := Kd.R_putg HO_0.out (x5_1 : Int) x1_1
   go_wp2_with (first | ((with_reducible refine gate_store (t := 3) (p := 15) rfl ?_); refine store_event (t := 3) (p := 15) (v := ?vo_w8) (w1 := (wr.setCell ⟨go5, (x5_1 : Int).toNat, none⟩ (.int .i64 x1_1))) ?hg ?ho ?hn ?hr ?_; (case ho => rfl); (case hg => rfl); (case hn => rfl); (case hr => first | (go_simp; done) | (go_simp; rfl)); intro w8 hw; have hg : wr.grownBy w8 (some go5) := (by rw [hw]; exact HP7.2); have hp_ : Kd.R (Kd.int .i64) 3 w8 w0.heap.size (fun k_ => (P0_ k_ ∨ w.heap.size ≤ k_)) (.slice (some ⟨go5, 0, none⟩) x0_1.length co6) y556 := (by rw [hw, Ny556.out]; exact HP7.1); clear HP7; have n0_ := yam (hp_); have n1_ := yam ((by rw [hw]; exact below_set (HB.out) GB5.out : Below w0.heap.size w0 w8)); have n2_ := yam (Kept.of_grown (S := (fun k_ => P0_ k_)) hg (by repeat (first | (with_reducible first | exact HK.out | apply Kept.alloc | apply Kept.drewN | apply Kept.drew) | exact HK.out)) (fun k_ e_ => (HO_0.out.1 k_ e_))); clear HO_0; clear HB; clear HK; have HO_0 := n0_; have HB := n1_; have HK := n2_; clear n0_ n1_ n2_; clear hg hw hp_))
   go_roundg k1
   case measure => have := HK1.out; omega
   case rel => exact ⟨(y556), (wrap64 (x1_1 + 1)), (wrap64 (x5_1 + 1)), yeq, yeq, H', ⟨by have := HK1.out; omega⟩, ⟨yka HO_0.out⟩, ⟨by repeat (first | (with_reducible first | exact HK.out | apply Kept.alloc | apply Kept.drewN | apply Kept.drew) | exact HK.out)⟩, ⟨yhb⟩⟩
end Go.Proofs.Ytdemlminhkhonaa.P
