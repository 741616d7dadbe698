/- The machine's side: each Go function as a plain Lean function and the proof that the machine's call does what that function says; written by this session's own program over the kit's print. -/
import Derived.Test.YtdemlminhkhonaaZP1
import Derived.Test.YtdemlminhkhonaaZP4
import Derived.Test.YtdemlminhkhonaaZP5
import Derived.Test.YtdemlminhkhonaaZP6
namespace Go.Proofs.Ytdemlminhkhonaa.P
open Go.RowKit Go.Proofs.YtdemlminhkhonaaW.PrintWords Go.Proofs.YtdemlminhkhonaaW.PrintLast Go.Proofs.YtdemlminhkhonaaW.PrintMore
attribute [local go_sem] max2_int min2_int max_two min_two max_three min_three max_four min_four   -- for this text's walks alone
set_option linter.unusedVariables false
set_option linter.unusedSimpArgs false
mutual
def impl_NarrowRules.j0 : Nat → List Int → Bool → Int → List Int → List (S67) → Option (List Int)
 | 0, _, _, _, _, _ => none
 | k + 1, x1, x19, x479000, x479001, x479002 => if x19 = true then (some ([] : List Int)) else ((slices_Clone_int_int.f x1).bind fun t481 => (impl_NarrowRules.l0 k t481 x479002 (x479002.length : Int) 0 x479000 x479001 x479002))
def impl_NarrowRules.l0 : Nat → List Int → List (S67) → Int → Int → Int → List Int → List (S67) → Option (List Int)
 | 0, _, _, _, _, _, _, _ => none
 | k + 1, x5, x23, x24, x25, x479000, x479001, x479002 => if x25 < x24 then (if 0 ≤ x25 then (if x25 < (x23.length : Int) then ((impl_RuleMasks.f k ((rd_T67 x23 x25).f0) ((rd_T67 x23 x25).f1) ((rd_T67 x23 x25).f2) x5 x479000).bind fun t486 => (impl_NarrowRules.l1 k x5 x23 x24 x25 t486 (t486.length : Int) 0 x479000 x479001 x479002 ((rd_T67 x23 x25).f0) ((rd_T67 x23 x25).f1) ((rd_T67 x23 x25).f2))) else (none)) else (none)) else (some x5)
def impl_NarrowRules.l1 : Nat → List Int → List (S67) → Int → Int → List Int → Int → Int → Int → List Int → List (S67) → Int → List Int → Int → Option (List Int)
 | 0, _, _, _, _, _, _, _, _, _, _, _, _, _ => none
 | k + 1, x5, x23, x24, x25, x33, x34, x35, x479000, x479001, x479002, x486000, x486001, x486002 => if x35 < x34 then (if 0 ≤ x35 then (if x35 < (x33.length : Int) then (if x35 < (x486001.length : Int) then (if 0 ≤ (rd x486001 x35) then (if (rd x486001 x35) < (x5.length : Int) then (impl_NarrowRules.l1 k (x5.set ((rd x486001 x35) : Int).toNat (rd x33 x35)) x23 x24 x25 x33 x34 (wrap64 (x35 + 1)) x479000 x479001 x479002 x486000 x486001 x486002) else (none)) else (none)) else (none)) else (none)) else (none)) else (impl_NarrowRules.l0 k x5 x23 x24 (wrap64 (x25 + 1)) x479000 x479001 x479002)
end
def impl_NarrowRules.f (k : Nat) (a0_0 : Int) (l0_1 : List Int) (l0_2 : List (S67)) (l1 : List Int) : Option (List Int) := (impl_PuzzleValid.f k a0_0 l0_1 l0_2).bind fun t479 => (if t479 = true then ((impl_MasksValid.f k l1 a0_0).bind fun t480 => (impl_NarrowRules.j0 k l1 (!t480) a0_0 l0_1 l0_2)) else (impl_NarrowRules.j0 k l1 true a0_0 l0_1 l0_2))
set_option maxHeartbeats 8000000 in
set_option maxRecDepth 100000 in
theorem impl_NarrowRules.calls (k : Nat) (a0_0 : Int) (A0_1 : Option Addr) (c0_1 : Nat) (l0_1 : List Int) (A0_2 : Option Addr) (c0_2 : Nat) (l0_2 : List (S67)) (A1 : Option Addr) (c1 : Nat) (l1 : List Int) (r : List Int) (w : World) (hr0_1 : Kd.C (Kd.int .i64) w A0_1 l0_1.length l0_1) (hc0_1 : l0_1.length ≤ c0_1) (hr0_2 : Kd.C k67 w A0_2 l0_2.length l0_2) (hc0_2 : l0_2.length ≤ c0_2) (hr1 : Kd.C (Kd.int .i64) w A1 l1.length l1) (hc1 : l1.length ≤ c1) (h : impl_NarrowRules.f k a0_0 l0_1 l0_2 l1 = some r) :
  Calls Try.prog 61 #[.agg #[.int .i64 a0_0, .slice A0_1 l0_1.length c0_1, .slice A0_2 l0_2.length c0_2], .slice A1 l1.length c1] w fun e w' => ∃ v0_ : Value, e = .returned (v0_) ∧ Kd.R (Kd.int .i64) 3 w' w.heap.size (fun _ => True) v0_ r ∧ Below w.heap.size w w' := by
 have hu30 := Try.underlying30
 have hu67 := Try.underlying67
 have HR0_1 := yam hr0_1
 have HC0_1 := yam hc0_1
 clear hr0_1 hc0_1
 have HR0_2 := yam hr0_2
 have HC0_2 := yam hc0_2
 clear hr0_2 hc0_2
 have HR1 := yam hr1
 have HC1 := yam hc1
 clear hr1 hc1
 have HB := yam (Below.refl w.heap.size w)
 have H : ((impl_PuzzleValid.f k a0_0 l0_1 l0_2).bind fun t479 => (if t479 = true then ((impl_MasksValid.f k l1 a0_0).bind fun t480 => (impl_NarrowRules.j0 k l1 (!t480) a0_0 l0_1 l0_2)) else (impl_NarrowRules.j0 k l1 true a0_0 l0_1 l0_2))) = some r := h
 clear h
 have HC3 := yam H
 clear H
 go_enter Try.func61, Try.ntmps61
 go_upto_region 1 with (first | (refine ybe 2 #[.int .i64 a0_0, .slice A0_1 l0_1.length c0_1, .slice A0_2 l0_2.length c0_2] 30 ?_; intro gb478 hg w4 hbox hb; have n0_ := yam (below_step (yez HB.out) hb); have n1_ := yam (hbox); have n2_ := yam ((by rw [hg]; exact (below_size (yez HB.out)) : w.heap.size ≤ gb478)); have n3_ := n2_; clear HB; have HB := n0_; have BK478 := n1_; have GW478 := n2_; have GE478 := n3_; clear n0_ n1_ n2_ n3_; clear hb hbox hg))
 (try simp only [Act.put, yps])
 go_cut [19] (fun v19 wc => ∃ (kq : Nat) (x19_2 : Bool), v19 = .bool x19_2 ∧ Aside0 (impl_NarrowRules.j0 kq l1 x19_2 a0_0 l0_1 l0_2 = some r) ∧ Aside0 (kq ≤ k) ∧ Aside0 (wc.heap[gb478]? = some (.cells #[.int .i64 a0_0, (.slice A0_1 l0_1.length c0_1), (.slice A0_2 l0_2.length c0_2)] 30 (0, 0))) ∧ Aside0 (Below w.heap.size w wc))
 case first =>
  have H := HC3.out
  clear HC3
  replace H := Option.bind_eq_some_iff.mp H
  obtain ⟨t479, A50, H⟩ := H
  try dsimp only at H
  have A5 := yam A50
  clear A50
  by_cases c6 : t479 = true
  rotate_left
  ·replace c6 := Bool.eq_false_iff.mpr c6
   subst c6
   have H1 : (impl_NarrowRules.j0 k l1 true a0_0 l0_1 l0_2) = some r := by rw [if_neg (show ¬ (false = true) by decide)] at H; exact H
   clear H
   have H := H1
   clear H1
   have H' := yam H
   clear H
   obtain ⟨hcz11_0, hcz11_1, hcz11_2, hfz11_0, hfz11_1, hfz11_2⟩ := ybc BK478.out
   go_wp2_with (first | (refine goesL_ (some 11) rfl rfl Try.func36 (by kernel_rfl) rfl #[.agg #[.int .i64 a0_0, .slice A0_1 l0_1.length c0_1, .slice A0_2 l0_2.length c0_2]] rfl ymd ?_; (with_reducible refine (impl_PuzzleValid.calls k a0_0 _ _ l0_1 _ _ l0_2 false _ ?side1 ?side2 ?side3 ?side4 A5.out).mono ?_); (case side1 => exact Kd.Cz ((Kd.C_below HR0_1.out HB.out))); (case side2 => exact HC0_1.out); (case side3 => exact Kd.Cz ((Kd.C_below HR0_2.out HB.out))); (case side4 => exact HC0_2.out); rintro e w12 ⟨rfl, hb⟩; refine ⟨_, rfl, ?_⟩; replace BK478 := yam (blk_below (g := gb478) (o := .cells #[.int .i64 a0_0, .slice A0_1 l0_1.length c0_1, .slice A0_2 l0_2.length c0_2] 30 (0, 0)) (ybz BK478.out) hb); replace HB := yam (below_step yhb hb); (try clear hb); (try clear hb2); (try clear hk); (try clear hi)))
   go_meet
   case rel => exact ⟨_, (true), yeq, H', ⟨by first | omega | exact Nat.le_refl _⟩, ⟨by (with_reducible repeat (first | refine ybn ?_ _ | refine ybd ?_ | refine yba ?_ _)); exact BK478.out⟩, ⟨yhb⟩⟩
  subst c6
  have H1 : ((impl_MasksValid.f k l1 a0_0).bind fun t480 => (impl_NarrowRules.j0 k l1 (!t480) a0_0 l0_1 l0_2)) = some r := by rw [if_pos rfl] at H; exact H
  clear H
  have H := H1
  clear H1
  replace H := Option.bind_eq_some_iff.mp H
  obtain ⟨t480, A70, H⟩ := H
  try dsimp only at H
  have A7 := yam A70
  clear A70
  have H' := yam H
  clear H
  obtain ⟨hcz8_0, hcz8_1, hcz8_2, hfz8_0, hfz8_1, hfz8_2⟩ := ybc BK478.out
  go_wp2_with (first | (refine goesL_ (some 11) rfl rfl Try.func36 (by kernel_rfl) rfl #[.agg #[.int .i64 a0_0, .slice A0_1 l0_1.length c0_1, .slice A0_2 l0_2.length c0_2]] rfl ymd ?_; (with_reducible refine (impl_PuzzleValid.calls k a0_0 _ _ l0_1 _ _ l0_2 true _ ?side1 ?side2 ?side3 ?side4 A5.out).mono ?_); (case side1 => exact Kd.Cz ((Kd.C_below HR0_1.out HB.out))); (case side2 => exact HC0_1.out); (case side3 => exact Kd.Cz ((Kd.C_below HR0_2.out HB.out))); (case side4 => exact HC0_2.out); rintro e w9 ⟨rfl, hb⟩; refine ⟨_, rfl, ?_⟩; replace BK478 := yam (blk_below (g := gb478) (o := .cells #[.int .i64 a0_0, .slice A0_1 l0_1.length c0_1, .slice A0_2 l0_2.length c0_2] 30 (0, 0)) (ybz BK478.out) hb); replace HB := yam (below_step yhb hb); (try clear hb); (try clear hb2); (try clear hk); (try clear hi); obtain ⟨hcz10_0, hcz10_1, hcz10_2, hfz10_0, hfz10_1, hfz10_2⟩ := ybc BK478.out) | (go_at_call 63; (with_reducible refine (impl_MasksValid.calls k _ _ l1 a0_0 t480 _ ?side1 ?side2 A7.out).mono ?_); (case side1 => exact Kd.Cz ((Kd.C_below HR1.out HB.out))); (case side2 => exact HC1.out); rintro e w' ⟨rfl, ⟨nd, rfl⟩⟩))
  go_meet
  case rel => exact ⟨_, (!t480), yeq, H', ⟨by first | omega | exact Nat.le_refl _⟩, ⟨by (with_reducible repeat (first | refine ybn ?_ _ | refine ybd ?_ | refine yba ?_ _)); exact BK478.out⟩, ⟨yhb⟩⟩
 case rest =>
  clear HC3
  try clear c1
  try clear p2
  try clear c3
  try clear c6
  try clear hcz10_0
  try clear hcz10_1
  try clear hcz10_2
  try clear hcz11_0
  try clear hcz11_1
  try clear hcz11_2
  try clear hcz8_0
  try clear hcz8_1
  try clear hcz8_2
  try clear hfz10_0
  try clear hfz10_1
  try clear hfz10_2
  try clear hfz11_0
  try clear hfz11_1
  try clear hfz11_2
  try clear hfz8_0
  try clear hfz8_1
  try clear hfz8_2
  obtain ⟨kq, x19_2, rfl, HA, HJ2, BK478, HB⟩ := hcut
  cases kq with
  | zero => exact absurd HA.out (by simp [impl_NarrowRules.j0])
  | succ kj2 =>
   have H := HA.out
   clear HA
   simp only [impl_NarrowRules.j0] at H
   by_cases c13 : x19_2 = true
   ·subst c13
    have H1 : (some ([] : List Int)) = some r := by rw [if_pos rfl] at H; exact H
    clear H
    have H := H1
    clear H1
    obtain rfl := Option.some.inj H
    go_wp2
    go_ret
    exact ⟨_, yer, by first | exact Kd.R_nil _ _ _ _ _ | exact Kd.N_nil _ _ _ _ _ | exact Kd.V_nil _ _ _ _ _ | exact Kd.Q_nil _ _ _ _ _ | exact Kd.S_nil _ _ _ _ _, yhb⟩
   replace c13 := Bool.eq_false_iff.mpr c13
   subst c13
   have H1 : ((slices_Clone_int_int.f l1).bind fun t481 => (impl_NarrowRules.l0 kj2 t481 l0_2 (l0_2.length : Int) 0 a0_0 l0_1 l0_2)) = some r := by rw [if_neg (show ¬ (false = true) by decide)] at H; exact H
   clear H
   have H := H1
   clear H1
   replace H := Option.bind_eq_some_iff.mp H
   obtain ⟨t481, A140, H⟩ := H
   try dsimp only at H
   have A14 := yam A140
   clear A140
   have H' := yam H
   clear H
   go_wp2_with (first | (refine goesL_ (some 21) rfl rfl Try.func64 (by kernel_rfl) rfl #[.slice A1 l1.length c1] rfl ymd ?_; (with_reducible refine (slices_Clone_int_int.calls _ _ l1 t481 _ ?side1 ?side2 A14.out).mono ?_); (case side1 => exact Kd.Cz ((Kd.C_below HR1.out HB.out))); (case side2 => exact HC1.out); rintro e w15 ⟨v482, rfl, ho0, hb⟩; refine ⟨_, rfl, ?_⟩; have HO483 := yam (Kd.R_lower ho0 (below_size yhb)); replace BK478 := yam (blk_below (g := gb478) (o := .cells #[.int .i64 a0_0, .slice A0_1 l0_1.length c0_1, .slice A0_2 l0_2.length c0_2] 30 (0, 0)) (ybz BK478.out) hb); replace HB := yam (below_step yhb hb); (try clear hb); (try clear hb2); (try clear hk); (try clear hi); (try clear ho0); obtain ⟨hcz16_0, hcz16_1, hcz16_2, hfz16_0, hfz16_1, hfz16_2⟩ := ybc BK478.out))
   go_loopg [25] kj2 (fun kq v25 w' => ∃ (x5_2 : List Int) (x25_2 : Int), v25 = .int .i64 x25_2 ∧ Aside0 (impl_NarrowRules.l0 kq x5_2 l0_2 (l0_2.length : Int) x25_2 a0_0 l0_1 l0_2 = some r) ∧ Aside0 (kq ≤ kj2) ∧ Aside0 (Kd.R (Kd.int .i64) 3 w' w.heap.size (fun _ => True) v482 x5_2) ∧ Aside0 (w'.heap[gb478]? = some (.cells #[.int .i64 a0_0, (.slice A0_1 l0_1.length c0_1), (.slice A0_2 l0_2.length c0_2)] 30 (0, 0))) ∧ Aside0 (Below w.heap.size w w'))
   case atStart => exact ⟨(t481), (0), yeq, H', ⟨Nat.le_refl _⟩, ⟨yka HO483.out⟩, ⟨by (with_reducible repeat (first | refine ybn ?_ _ | refine ybd ?_ | refine yba ?_ _)); exact BK478.out⟩, ⟨yhb⟩⟩
   case round =>
    clear H'
    try clear c1
    try clear p2
    try clear c3
    try clear c6
    try clear c13
    try clear hcz10_0
    try clear hcz10_1
    try clear hcz10_2
    try clear hcz11_0
    try clear hcz11_1
    try clear hcz11_2
    try clear hcz16_0
    try clear hcz16_1
    try clear hcz16_2
    try clear hcz8_0
    try clear hcz8_1
    try clear hcz8_2
    try clear hfz10_0
    try clear hfz10_1
    try clear hfz10_2
    try clear hfz11_0
    try clear hfz11_1
    try clear hfz11_2
    try clear hfz16_0
    try clear hfz16_1
    try clear hfz16_2
    try clear hfz8_0
    try clear hfz8_1
    try clear hfz8_2
    try clear p2
    obtain ⟨x5_2, x25_2, rfl, HA, HK2, HO_5, BK478, HB⟩ := hrel
    cases gk with
    | zero => exact absurd HA.out (by simp [impl_NarrowRules.l0])
    | succ k2 =>
     have H := HA.out
     clear HA
     simp only [impl_NarrowRules.l0] at H
     by_cases c17 : x25_2 < (l0_2.length : Int)
     rotate_left
     ·rw [if_neg c17] at H
      have c17b0 : decide (x25_2 < (l0_2.length : Int)) = false := decide_eq_false c17
      clear c17
      obtain rfl := Option.some.inj H
      go_wp2
      go_ret
      exact ⟨_, yer, yka HO_5.out, yhb⟩

     rw [if_pos c17] at H
     have c17b0 : decide (x25_2 < (l0_2.length : Int)) = true := decide_eq_true c17
     clear c17
     replace H := yif H
     obtain ⟨c18b0, H⟩ := H
     replace H := yif H
     obtain ⟨c19b0, H⟩ := H
     replace H := Option.bind_eq_some_iff.mp H
     obtain ⟨t486, A200, H⟩ := H
     try dsimp only at H
     have A20 := yam A200
     clear A200
     have H' := yam H
     clear H
     have p484 : 0 ≤ (x25_2 : Int) := ydt
     have q484 : x25_2 < (l0_2.length : Int) := ydt
     obtain ⟨ad484, A484_1, c484_1, e484, hx484_0, hx484_1, hx484_2, hl484_1, hi484_1⟩ := at_T67 HR0_2.out x25_2 p484 q484
     cases e484
     replace hx484_0 := ybx HB.out hx484_0
     replace hx484_1 := ybx HB.out hx484_1
     replace hx484_2 := ybx HB.out hx484_2
     have HR484_1 := yam hi484_1
     have HC484_1 := yam hl484_1
     clear hi484_1 hl484_1
     replace p484 := eq_true p484
     replace q484 := eq_true q484
     go_wp2_with (first | (refine ybe 7 #[.int .i64 0, .slice none 0 0, .int .i64 0] 67 ?_; intro gb485 hg w21 hbox hb; have n0_ := yam (Kd.R_below (Kd.Yz HO_5.out) hb); have n1_ := yam (blk_below (g := gb478) (o := .cells #[.int .i64 a0_0, .slice A0_1 l0_1.length c0_1, .slice (some ad484) l0_2.length c0_2] 30 (0, 0)) (ybz BK478.out) hb); have n2_ := yam (below_step yhb hb); have n3_ := yam (hbox); have n4_ := yam ((by rw [hg]; exact (below_size yhb) : w.heap.size ≤ gb485)); have n5_ := n4_; have n6_ := yam ((by rw [hg]; exact Nat.ne_of_lt (blk_lt (g := gb478) (o := .cells #[.int .i64 a0_0, .slice A0_1 l0_1.length c0_1, .slice (some ad484) l0_2.length c0_2] 30 (0, 0)) (ybz BK478.out)) : gb478 ≠ gb485)); have n7_ := yam ((by rw [hg]; exact Nat.ne_of_gt (blk_lt (g := gb478) (o := .cells #[.int .i64 a0_0, .slice A0_1 l0_1.length c0_1, .slice (some ad484) l0_2.length c0_2] 30 (0, 0)) (ybz BK478.out)) : gb485 ≠ gb478)); clear HO_5; clear BK478; clear HB; have HO_5 := n0_; have BK478 := n1_; have HB := n2_; have BK485 := n3_; have GW485 := n4_; have GE485 := n5_; have NB478_485 := n6_; have NB485_478 := n7_; clear n0_ n1_ n2_ n3_ n4_ n5_ n6_ n7_; clear hb hbox hg; have hnb22 := NB485_478.out; have hnc22 := NB478_485.out; obtain ⟨hcz23_0, hcz23_1, hcz23_2, hfz23_0, hfz23_1, hfz23_2⟩ := ybc BK485.out; obtain ⟨hcz24_0, hcz24_1, hcz24_2, hfz24_0, hfz24_1, hfz24_2⟩ := ybc BK478.out; obtain ⟨Ao25, co25, eo25⟩ := Kd.R_slice HO_5.out; subst eo25) | (refine goesL_ (some 33) rfl rfl Try.func83 (by kernel_rfl) rfl #[.agg #[.int .i64 ((rd_T67 l0_2 x25_2).f0), .slice A484_1 ((rd_T67 l0_2 x25_2).f1).length c484_1, .int .i64 ((rd_T67 l0_2 x25_2).f2)], .slice Ao25 x5_2.length co25, .int .i64 a0_0] rfl ymd ?_; (with_reducible refine (impl_RuleMasks.calls k2 ((rd_T67 l0_2 x25_2).f0) _ _ ((rd_T67 l0_2 x25_2).f1) ((rd_T67 l0_2 x25_2).f2) _ _ x5_2 a0_0 t486 _ ?side1 ?side2 ?side3 ?side4 A20.out).mono ?_); (case side1 => exact Kd.C_below HR484_1.out yhb); (case side2 => exact HC484_1.out); (case side3 => refine (Kd.Yr (e := 3) (base := w.heap.size) (ok := fun k_ => True) (n := x5_2.length) (c := co25) ?_).2.2; exact (by (with_reducible repeat (first | apply Kd.Ya | apply Kd.Yn | apply Kd.Yd)); exact (Kd.R_mono (Kd.R_far (p := ⟨gb485, 2, none⟩) (Kd.R_far (p := ⟨gb485, 1, none⟩) (Kd.R_far (p := ⟨gb485, 0, none⟩) (Kd.R_types HO_5.out BK485.out (by decide)) (fun _ hk => hk.2) (.int .i64 ((rd_T67 l0_2 x25_2).f0))) (fun _ hk => hk.2) (.slice A484_1 ((rd_T67 l0_2 x25_2).f1).length c484_1)) (fun _ hk => hk.2) (.int .i64 ((rd_T67 l0_2 x25_2).f2))) (fun _ h_ => h_.1)))); (case side4 => exact (Kd.Yr HO_5.out).2.1); rintro e w26 ⟨v487, rfl, ho0, hb⟩; refine ⟨_, rfl, ?_⟩; have HO488 := yam (Kd.R_lower (Kd.Yw ho0 (Kd.R_lt (by (with_reducible repeat (first | apply Kd.Ya | apply Kd.Yn | apply Kd.Yd)); exact (Kd.R_mono (Kd.R_far (p := ⟨gb485, 2, none⟩) (Kd.R_far (p := ⟨gb485, 1, none⟩) (Kd.R_far (p := ⟨gb485, 0, none⟩) (Kd.R_types HO_5.out BK485.out (by decide)) (fun _ hk => hk.2) (.int .i64 ((rd_T67 l0_2 x25_2).f0))) (fun _ hk => hk.2) (.slice A484_1 ((rd_T67 l0_2 x25_2).f1).length c484_1)) (fun _ hk => hk.2) (.int .i64 ((rd_T67 l0_2 x25_2).f2))) (fun _ h_ => h_.1))))) (below_size yhb)); replace HO_5 := yam (Kd.Ye (by (with_reducible repeat (first | apply Kd.Ya | apply Kd.Yn | apply Kd.Yd)); exact (Kd.R_mono (Kd.R_far (p := ⟨gb485, 2, none⟩) (Kd.R_far (p := ⟨gb485, 1, none⟩) (Kd.R_far (p := ⟨gb485, 0, none⟩) (Kd.R_types HO_5.out BK485.out (by decide)) (fun _ hk => hk.2) (.int .i64 ((rd_T67 l0_2 x25_2).f0))) (fun _ hk => hk.2) (.slice A484_1 ((rd_T67 l0_2 x25_2).f1).length c484_1)) (fun _ hk => hk.2) (.int .i64 ((rd_T67 l0_2 x25_2).f2))) (fun _ h_ => h_.1))) (Kd.Yb ho0) hb); replace BK478 := yam (blk_below (g := gb478) (o := .cells #[.int .i64 a0_0, .slice A0_1 l0_1.length c0_1, .slice (some ad484) l0_2.length c0_2] 30 (0, 0)) (by (with_reducible repeat (first | refine ybn ?_ _ | refine ybd ?_ | refine yba ?_ _)); refine blk_far ?_ NB478_485.out _; (with_reducible repeat (first | refine ybn ?_ _ | refine ybd ?_ | refine yba ?_ _)); refine blk_far ?_ NB478_485.out _; (with_reducible repeat (first | refine ybn ?_ _ | refine ybd ?_ | refine yba ?_ _)); refine blk_far ?_ NB478_485.out _; (with_reducible repeat (first | refine ybn ?_ _ | refine ybd ?_ | refine yba ?_ _)); exact BK478.out) hb); replace BK485 := yam (blk_below (g := gb485) (o := .cells #[.int .i64 ((rd_T67 l0_2 x25_2).f0), .slice A484_1 ((rd_T67 l0_2 x25_2).f1).length c484_1, .int .i64 ((rd_T67 l0_2 x25_2).f2)] 67 (0, 0)) (by (with_reducible repeat (first | refine ybn ?_ _ | refine ybd ?_ | refine yba ?_ _)); refine blk_put (cs := #[.int .i64 ((rd_T67 l0_2 x25_2).f0), .slice A484_1 ((rd_T67 l0_2 x25_2).f1).length c484_1, .int .i64 0]) ?_ 2 _ rfl; (with_reducible repeat (first | refine ybn ?_ _ | refine ybd ?_ | refine yba ?_ _)); refine blk_put (cs := #[.int .i64 ((rd_T67 l0_2 x25_2).f0), .slice none 0 0, .int .i64 0]) ?_ 1 _ rfl; (with_reducible repeat (first | refine ybn ?_ _ | refine ybd ?_ | refine yba ?_ _)); refine blk_put (cs := #[.int .i64 0, .slice none 0 0, .int .i64 0]) ?_ 0 _ rfl; (with_reducible repeat (first | refine ybn ?_ _ | refine ybd ?_ | refine yba ?_ _)); exact BK485.out) hb); replace HB := yam (below_step yhb hb); (try clear hb); (try clear hb2); (try clear hk); (try clear hi); (try clear ho0); obtain ⟨Ao27, co27, eo27⟩ := Kd.R_slice HO488.out; subst eo27))
     go_loopg [35] k2 (fun kq v35 w' => ∃ (x5_3 : List Int) (x35_3 : Int), v35 = .int .i64 x35_3 ∧ Aside0 (impl_NarrowRules.l1 kq x5_3 l0_2 (l0_2.length : Int) x25_2 t486 (t486.length : Int) x35_3 a0_0 l0_1 l0_2 ((rd_T67 l0_2 x25_2).f0) ((rd_T67 l0_2 x25_2).f1) ((rd_T67 l0_2 x25_2).f2) = some r) ∧ Aside0 (kq ≤ k2) ∧ Aside0 (Kd.R (Kd.int .i64) 3 w' w.heap.size (fun k_ => some k_ ≠ ((.slice Ao27 t486.length co27) : Value).ownBlock) (.slice Ao25 x5_2.length co25) x5_3) ∧ Aside0 (Kd.R (Kd.int .i64) 3 w' w.heap.size (fun k_ => some k_ ≠ ((.slice Ao25 x5_2.length co25) : Value).ownBlock) (.slice Ao27 t486.length co27) t486) ∧ Aside0 (w'.heap[gb478]? = some (.cells #[.int .i64 a0_0, (.slice A0_1 l0_1.length c0_1), (.slice (some ad484) l0_2.length c0_2)] 30 (0, 0))) ∧ Aside0 (w'.heap[gb485]? = some (.cells #[.int .i64 ((rd_T67 l0_2 x25_2).f0), (.slice A484_1 ((rd_T67 l0_2 x25_2).f1).length c484_1), .int .i64 ((rd_T67 l0_2 x25_2).f2)] 67 (0, 0))) ∧ Aside0 (Below w.heap.size w w'))
     case atStart => exact ⟨(x5_2), (0), yeq, H', ⟨Nat.le_refl _⟩, ⟨by (with_reducible repeat (first | apply Kd.Ya | apply Kd.Yn | apply Kd.Yd)); exact Kd.R_mono HO_5.out (fun _ hk => hk.2)⟩, ⟨by (with_reducible repeat (first | apply Kd.Ya | apply Kd.Yn | apply Kd.Yd)); exact Kd.R_mono HO488.out (fun _ hk => hk.2)⟩, ⟨by (with_reducible repeat (first | refine ybn ?_ _ | refine ybd ?_ | refine yba ?_ _)); exact BK478.out⟩, ⟨by (with_reducible repeat (first | refine ybn ?_ _ | refine ybd ?_ | refine yba ?_ _)); exact BK485.out⟩, ⟨yhb⟩⟩
     case round =>
      clear H'
      try clear c1
      try clear c2
      try clear p2
      try clear c3
      try clear c4
      try clear p4
      try clear q4
      try clear hx4
      try clear c6
      try clear c8
      try clear c13
      try clear c17
      try clear c17b0
      try clear c18
      try clear c18b0
      try clear c19
      try clear c19b0
      try clear c22
      try clear hcz10_0
      try clear hcz10_1
      try clear hcz10_2
      try clear hcz11_0
      try clear hcz11_1
      try clear hcz11_2
      try clear hcz16_0
      try clear hcz16_1
      try clear hcz16_2
      try clear hcz23_0
      try clear hcz23_1
      try clear hcz23_2
      try clear hcz24_0
      try clear hcz24_1
      try clear hcz24_2
      try clear hcz8_0
      try clear hcz8_1
      try clear hcz8_2
      try clear hfz10_0
      try clear hfz10_1
      try clear hfz10_2
      try clear hfz11_0
      try clear hfz11_1
      try clear hfz11_2
      try clear hfz16_0
      try clear hfz16_1
      try clear hfz16_2
      try clear hfz23_0
      try clear hfz23_1
      try clear hfz23_2
      try clear hfz24_0
      try clear hfz24_1
      try clear hfz24_2
      try clear hfz8_0
      try clear hfz8_1
      try clear hfz8_2
      try clear hx484_0
      try clear hx484_1
      try clear hx484_2
      try clear p2
      try clear p484
      try clear q484
      obtain ⟨x5_3, x35_3, rfl, HA, HK3, HO_5, HO_33, BK478, BK485, HB⟩ := hrel
      have hl5_3 := (Kd.Yr HO_5.out).1
      rw [hl5_3] at HO_5
      (try simp only [hl5_3])
      (try simp only [hl5_3] at BK478)
      (try simp only [hl5_3] at BK485)
      (try simp only [hl5_3] at HO_33)
      cases gk with
      | zero => exact absurd HA.out (by simp [impl_NarrowRules.l1])
      | succ k3 =>
       have H := HA.out
       clear HA
       simp only [impl_NarrowRules.l1] at H
       by_cases c28 : x35_3 < (t486.length : Int)
       rotate_left
       ·rw [if_neg c28] at H
        have c28b0 : decide (x35_3 < (t486.length : Int)) = false := decide_eq_false c28
        clear c28
        have H' := yam H
        clear H
        go_wp2
        (try simp only [← hl5_3])
        go_roundg k3
        case measure => have := HJ2.out; have := HK2.out; have := HK3.out; omega
        case rel => exact ⟨(x5_3), (wrap64 (x25_2 + 1)), yeq, H', ⟨by have := HJ2.out; have := HK2.out; have := HK3.out; omega⟩, ⟨by (try simp only [hl5_3]); (with_reducible repeat (first | apply Kd.Ya | apply Kd.Yn | apply Kd.Yd)); exact Kd.R_mono HO_5.out (fun _ hk => trivial)⟩, ⟨by (try simp only [hl5_3]); (with_reducible repeat (first | refine ybn ?_ _ | refine ybd ?_ | refine yba ?_ _)); exact BK478.out⟩, ⟨yhb⟩⟩
       rw [if_pos c28] at H
       have c28b0 : decide (x35_3 < (t486.length : Int)) = true := decide_eq_true c28
       clear c28
       replace H := yif H
       obtain ⟨c29b0, H⟩ := H
       replace H := yif H
       obtain ⟨c30b0, H⟩ := H
       replace H := yif H
       obtain ⟨c31b0, H⟩ := H
       replace H := yif H
       obtain ⟨c32b0, H⟩ := H
       replace H := yif H
       obtain ⟨c33b0, H⟩ := H
       obtain ⟨y491, hy491⟩ : ∃ y_ : List Int, y_ = (x5_3.set ((rd ((rd_T67 l0_2 x25_2).f1) x35_3) : Int).toNat (rd t486 x35_3)) := ⟨_, rfl⟩
       replace H : (impl_NarrowRules.l1 k3 y491 l0_2 (l0_2.length : Int) x25_2 t486 (t486.length : Int) (wrap64 (x35_3 + 1)) a0_0 l0_1 l0_2 ((rd_T67 l0_2 x25_2).f0) ((rd_T67 l0_2 x25_2).f1) ((rd_T67 l0_2 x25_2).f2)) = some r := by first | (rw [hy491]; with_reducible exact H) | (have H2_ := (Option.bind_some _ _).symm.trans H; rw [hy491]; with_reducible exact H2_) | (have H2_ := (Option.bind_some _ _).symm.trans H; with_reducible exact H2_) | with_reducible exact H | (rw [hy491]; exact H) | exact H
       have Ny491 := yam hy491
       clear hy491
       have H' := yam H
       clear H
       have p489 : 0 ≤ (x35_3 : Int) := ydt
       have q489 : x35_3 < (t486.length : Int) := ydt
       obtain ⟨ad489, e489, hx489_0⟩ := Kd.at_int (Kd.Yr HO_33.out).2.2 x35_3 p489 q489
       cases e489
       replace p489 := eq_true p489
       replace q489 := eq_true q489
       have hnb35 := NB485_478.out
       have hnc35 := NB478_485.out
       obtain ⟨hcz36_0, hcz36_1, hcz36_2, hfz36_0, hfz36_1, hfz36_2⟩ := ybc BK485.out
       have p490 : 0 ≤ (x35_3 : Int) := ydt
       have q490 : x35_3 < (((rd_T67 l0_2 x25_2).f1).length : Int) := ydt
       obtain ⟨ad490, e490, hx490_0⟩ := Kd.at_int HR484_1.out x35_3 p490 q490
       cases e490
       replace hx490_0 := ybx HB.out hx490_0
       replace p490 := eq_true p490
       replace q490 := eq_true q490
       have p34 : 0 ≤ ((rd ((rd_T67 l0_2 x25_2).f1) x35_3) : Int) := ydt
       have q34 : ((rd ((rd_T67 l0_2 x25_2).f1) x35_3) : Int) < ((x5_3.length : Int) : Int) := ydt
       obtain ⟨go34, co34, eo34, gb34, gl34, cl34, HG34⟩ := Kd.R_form HO_5.out (by omega)
       (first | cases eo34 | (injection eo34 with ea_ en_ ec_; (first | subst ea_ | (injection ea_ with ea_; subst ea_)); subst ec_; clear en_))
       have GB34 := yam gb34
       have GG34 := yam HG34
       clear gb34 gl34 HG34
       obtain ⟨hx34_0, hf34_0⟩ := Kd.R_celln 0 HO_5.out ((rd ((rd_T67 l0_2 x25_2).f1) x35_3) : Int) p34 q34
       replace p34 := eq_true p34
       replace q34 := eq_true q34
       have HP37 := Kd.R_putg HO_5.out ((rd ((rd_T67 l0_2 x25_2).f1) x35_3) : Int) (rd t486 x35_3)
       go_wp2_with (first | ((with_reducible refine gate_store (t := 3) (p := 47) rfl ?_); refine store_event (t := 3) (p := 47) (v := ?vo_w38) (w1 := (wr.setCell ⟨go34, ((rd ((rd_T67 l0_2 x25_2).f1) x35_3) : Int).toNat, none⟩ (.int .i64 (rd t486 x35_3)))) ?hg ?ho ?hn ?hr ?_; (case ho => rfl); (case hg => rfl); (case hn => rfl); (case hr => first | (go_simp; done) | (go_simp; rfl)); intro w38 hw; have hg : wr.grownBy w38 (some go34) := (by rw [hw]; exact HP37.2); have hp_ : Kd.R (Kd.int .i64) 3 w38 w.heap.size (fun k_ => some k_ ≠ (.slice (some ad489) t486.length co27 : Value).ownBlock) (.slice (some ⟨go34, 0, none⟩) x5_3.length co25) y491 := (by rw [hw, Ny491.out]; exact HP37.1); clear HP37; replace HO_33 := yam (Kd.R_after (v := (.slice (some ⟨go34, 0, none⟩) x5_3.length co25)) (v1 := (.slice (some ⟨go34, 0, none⟩) x5_3.length co25)) (ok := (fun _ => True)) (by (with_reducible repeat (first | apply Kd.Ya | apply Kd.Yn | apply Kd.Yd)); exact Kd.R_mono HO_33.out (fun _ hk => ⟨trivial, hk⟩)) hg (.inl rfl)); replace BK478 := yam (blk_grown (g := gb478) (o := .cells #[.int .i64 a0_0, .slice A0_1 l0_1.length c0_1, .slice (some ad484) l0_2.length c0_2] 30 (0, 0)) (ybz BK478.out) hg (Kd.R_ne HO_5.out BK478.out (by decide))); replace BK485 := yam (blk_grown (g := gb485) (o := .cells #[.int .i64 ((rd_T67 l0_2 x25_2).f0), .slice (some ad490) ((rd_T67 l0_2 x25_2).f1).length c484_1, .int .i64 ((rd_T67 l0_2 x25_2).f2)] 67 (0, 0)) (ybz BK485.out) hg (Kd.R_ne HO_5.out BK485.out (by decide))); replace HO_5 := yam (hp_); replace HB := yam ((by rw [hw]; exact below_set (HB.out) GB34.out : Below w.heap.size w w38)); clear hg hw hp_))
       (try simp only [← hl5_3])
       go_roundg k3
       case measure => have := HJ2.out; have := HK2.out; have := HK3.out; omega
       case rel => exact ⟨(y491), (wrap64 (x35_3 + 1)), yeq, H', ⟨by have := HJ2.out; have := HK2.out; have := HK3.out; omega⟩, ⟨by (try simp only [hl5_3]); (with_reducible repeat (first | apply Kd.Ya | apply Kd.Yn | apply Kd.Yd)); exact HO_5.out⟩, ⟨by (try simp only [hl5_3]); (with_reducible repeat (first | apply Kd.Ya | apply Kd.Yn | apply Kd.Yd)); exact Kd.R_mono HO_33.out (fun _ hk => hk.2)⟩, ⟨by (try simp only [hl5_3]); (with_reducible repeat (first | refine ybn ?_ _ | refine ybd ?_ | refine yba ?_ _)); exact BK478.out⟩, ⟨by (try simp only [hl5_3]); (with_reducible repeat (first | refine ybn ?_ _ | refine ybd ?_ | refine yba ?_ _)); exact BK485.out⟩, ⟨yhb⟩⟩
def impl_NarrowBy.f (k : Nat) (a0_0 : Int) (l0_1 : List Int) (l0_2 : List (S67)) (l1 : List Int) (a2 : Int) : Option (List Int) := (impl_PuzzleValid.f k a0_0 l0_1 l0_2).bind fun t493 => (if t493 = true then (if a2 = 1 then ((impl_NarrowSingles.f k l1 a0_0).bind fun t494 => (some t494)) else (if a2 = 2 then ((impl_NarrowHidden.f k l1 a0_0).bind fun t497 => (some t497)) else (if a2 = 3 then ((impl_NarrowPairs.f k l1 a0_0).bind fun t500 => (some t500)) else (if a2 = 4 then ((impl_NarrowRules.f k a0_0 l0_1 l0_2 l1).bind fun t503 => (some t503)) else (some ([] : List Int)))))) else (some ([] : List Int)))
set_option maxHeartbeats 8000000 in
set_option maxRecDepth 100000 in
theorem impl_NarrowBy.calls (k : Nat) (a0_0 : Int) (A0_1 : Option Addr) (c0_1 : Nat) (l0_1 : List Int) (A0_2 : Option Addr) (c0_2 : Nat) (l0_2 : List (S67)) (A1 : Option Addr) (c1 : Nat) (l1 : List Int) (a2 : Int) (r : List Int) (w : World) (hr0_1 : Kd.C (Kd.int .i64) w A0_1 l0_1.length l0_1) (hc0_1 : l0_1.length ≤ c0_1) (hr0_2 : Kd.C k67 w A0_2 l0_2.length l0_2) (hc0_2 : l0_2.length ≤ c0_2) (hr1 : Kd.C (Kd.int .i64) w A1 l1.length l1) (hc1 : l1.length ≤ c1) (h : impl_NarrowBy.f k a0_0 l0_1 l0_2 l1 a2 = some r) :
  Calls Try.prog 27 #[.agg #[.int .i64 a0_0, .slice A0_1 l0_1.length c0_1, .slice A0_2 l0_2.length c0_2], .slice A1 l1.length c1, .int .i64 a2] w fun e w' => ∃ v0_ : Value, e = .returned (v0_) ∧ Kd.R (Kd.int .i64) 3 w' w.heap.size (fun _ => True) v0_ r ∧ Below w.heap.size w w' := by
 have hu30 := Try.underlying30
 have HR0_1 := yam hr0_1
 have HC0_1 := yam hc0_1
 clear hr0_1 hc0_1
 have HR0_2 := yam hr0_2
 have HC0_2 := yam hc0_2
 clear hr0_2 hc0_2
 have HR1 := yam hr1
 have HC1 := yam hc1
 clear hr1 hc1
 have HB := yam (Below.refl w.heap.size w)
 have H : ((impl_PuzzleValid.f k a0_0 l0_1 l0_2).bind fun t493 => (if t493 = true then (if a2 = 1 then ((impl_NarrowSingles.f k l1 a0_0).bind fun t494 => (some t494)) else (if a2 = 2 then ((impl_NarrowHidden.f k l1 a0_0).bind fun t497 => (some t497)) else (if a2 = 3 then ((impl_NarrowPairs.f k l1 a0_0).bind fun t500 => (some t500)) else (if a2 = 4 then ((impl_NarrowRules.f k a0_0 l0_1 l0_2 l1).bind fun t503 => (some t503)) else (some ([] : List Int)))))) else (some ([] : List Int)))) = some r := h
 clear h
 replace H := Option.bind_eq_some_iff.mp H
 obtain ⟨t493, A40, H⟩ := H
 try dsimp only at H
 have A4 := yam A40
 clear A40
 by_cases c5 : t493 = true
 rotate_left
 ·replace c5 := Bool.eq_false_iff.mpr c5
  subst c5
  have H1 : (some ([] : List Int)) = some r := by rw [if_neg (show ¬ (false = true) by decide)] at H; exact H
  clear H
  have H := H1
  clear H1
  obtain rfl := Option.some.inj H
  go_enter Try.func27, Try.ntmps27
  go_wp2_with (first | (refine ybe 3 #[.int .i64 a0_0, .slice A0_1 l0_1.length c0_1, .slice A0_2 l0_2.length c0_2] 30 ?_; intro gb492 hg w37 hbox hb; have n0_ := yam (below_step (yez HB.out) hb); have n1_ := yam (hbox); have n2_ := yam ((by rw [hg]; exact (below_size (yez HB.out)) : w.heap.size ≤ gb492)); have n3_ := n2_; clear HB; have HB := n0_; have BK492 := n1_; have GW492 := n2_; have GE492 := n3_; clear n0_ n1_ n2_ n3_; clear hb hbox hg; obtain ⟨hcz38_0, hcz38_1, hcz38_2, hfz38_0, hfz38_1, hfz38_2⟩ := ybc BK492.out) | (refine goesL_ (some 8) rfl rfl Try.func36 (by kernel_rfl) rfl #[.agg #[.int .i64 a0_0, .slice A0_1 l0_1.length c0_1, .slice A0_2 l0_2.length c0_2]] rfl ymd ?_; (with_reducible refine (impl_PuzzleValid.calls k a0_0 _ _ l0_1 _ _ l0_2 false _ ?side1 ?side2 ?side3 ?side4 A4.out).mono ?_); (case side1 => exact Kd.Cz ((Kd.C_below HR0_1.out HB.out))); (case side2 => exact HC0_1.out); (case side3 => exact Kd.Cz ((Kd.C_below HR0_2.out HB.out))); (case side4 => exact HC0_2.out); rintro e w39 ⟨rfl, hb⟩; refine ⟨_, rfl, ?_⟩; replace BK492 := yam (blk_below (g := gb492) (o := .cells #[.int .i64 a0_0, .slice A0_1 l0_1.length c0_1, .slice A0_2 l0_2.length c0_2] 30 (0, 0)) (ybz BK492.out) hb); replace HB := yam (below_step yhb hb); (try clear hb); (try clear hb2); (try clear hk); (try clear hi)))
  go_ret
  exact ⟨_, yer, by first | exact Kd.R_nil _ _ _ _ _ | exact Kd.N_nil _ _ _ _ _ | exact Kd.V_nil _ _ _ _ _ | exact Kd.Q_nil _ _ _ _ _ | exact Kd.S_nil _ _ _ _ _, yhb⟩

 subst c5
 have H1 : (if a2 = 1 then ((impl_NarrowSingles.f k l1 a0_0).bind fun t494 => (some t494)) else (if a2 = 2 then ((impl_NarrowHidden.f k l1 a0_0).bind fun t497 => (some t497)) else (if a2 = 3 then ((impl_NarrowPairs.f k l1 a0_0).bind fun t500 => (some t500)) else (if a2 = 4 then ((impl_NarrowRules.f k a0_0 l0_1 l0_2 l1).bind fun t503 => (some t503)) else (some ([] : List Int)))))) = some r := by rw [if_pos rfl] at H; exact H
 clear H
 have H := H1
 clear H1
 by_cases c6 : a2 = 1
 ·rw [if_pos c6] at H
  have c6b0 : (a2 == 1) = true := beq_iff_eq.mpr c6
  have c6b1 : (a2 != 1) = false := bne_eq_false_iff_eq.mpr c6
  clear c6
  replace H := Option.bind_eq_some_iff.mp H
  obtain ⟨t494, A70, H⟩ := H
  try dsimp only at H
  have A7 := yam A70
  clear A70
  obtain rfl := Option.some.inj H
  go_enter Try.func27, Try.ntmps27
  go_wp2_with (first | (refine ybe 3 #[.int .i64 a0_0, .slice A0_1 l0_1.length c0_1, .slice A0_2 l0_2.length c0_2] 30 ?_; intro gb492 hg w8 hbox hb; have n0_ := yam (below_step (yez HB.out) hb); have n1_ := yam (hbox); have n2_ := yam ((by rw [hg]; exact (below_size (yez HB.out)) : w.heap.size ≤ gb492)); have n3_ := n2_; clear HB; have HB := n0_; have BK492 := n1_; have GW492 := n2_; have GE492 := n3_; clear n0_ n1_ n2_ n3_; clear hb hbox hg; obtain ⟨hcz9_0, hcz9_1, hcz9_2, hfz9_0, hfz9_1, hfz9_2⟩ := ybc BK492.out) | (refine goesL_ (some 8) rfl rfl Try.func36 (by kernel_rfl) rfl #[.agg #[.int .i64 a0_0, .slice A0_1 l0_1.length c0_1, .slice A0_2 l0_2.length c0_2]] rfl ymd ?_; (with_reducible refine (impl_PuzzleValid.calls k a0_0 _ _ l0_1 _ _ l0_2 true _ ?side1 ?side2 ?side3 ?side4 A4.out).mono ?_); (case side1 => exact Kd.Cz ((Kd.C_below HR0_1.out HB.out))); (case side2 => exact HC0_1.out); (case side3 => exact Kd.Cz ((Kd.C_below HR0_2.out HB.out))); (case side4 => exact HC0_2.out); rintro e w10 ⟨rfl, hb⟩; refine ⟨_, rfl, ?_⟩; replace BK492 := yam (blk_below (g := gb492) (o := .cells #[.int .i64 a0_0, .slice A0_1 l0_1.length c0_1, .slice A0_2 l0_2.length c0_2] 30 (0, 0)) (ybz BK492.out) hb); replace HB := yam (below_step yhb hb); (try clear hb); (try clear hb2); (try clear hk); (try clear hi); obtain ⟨hcz11_0, hcz11_1, hcz11_2, hfz11_0, hfz11_1, hfz11_2⟩ := ybc BK492.out) | (refine goesL_ (some 16) rfl rfl Try.func58 (by kernel_rfl) rfl #[.slice A1 l1.length c1, .int .i64 a0_0] rfl ymd ?_; (with_reducible refine (impl_NarrowSingles.calls k _ _ l1 a0_0 t494 _ ?side1 ?side2 A7.out).mono ?_); (case side1 => exact Kd.Cz ((Kd.C_below HR1.out HB.out))); (case side2 => exact HC1.out); rintro e w12 ⟨v495, rfl, ho0, hb⟩; refine ⟨_, rfl, ?_⟩; have HO496 := yam (Kd.R_lower ho0 (below_size yhb)); replace BK492 := yam (blk_below (g := gb492) (o := .cells #[.int .i64 a0_0, .slice A0_1 l0_1.length c0_1, .slice A0_2 l0_2.length c0_2] 30 (0, 0)) (ybz BK492.out) hb); replace HB := yam (below_step yhb hb); (try clear hb); (try clear hb2); (try clear hk); (try clear hi); (try clear ho0)))
  go_ret
  exact ⟨_, yer, yka HO496.out, yhb⟩
 rw [if_neg c6] at H
 have c6b0 : (a2 == 1) = false := beq_eq_false_iff_ne.mpr c6
 have c6b1 : (a2 != 1) = true := bne_iff_ne.mpr c6
 by_cases c13 : a2 = 2
 ·rw [if_pos c13] at H
  have c13b0 : (a2 == 2) = true := beq_iff_eq.mpr c13
  have c13b1 : (a2 != 2) = false := bne_eq_false_iff_eq.mpr c13
  clear c13
  replace H := Option.bind_eq_some_iff.mp H
  obtain ⟨t497, A140, H⟩ := H
  try dsimp only at H
  have A14 := yam A140
  clear A140
  obtain rfl := Option.some.inj H
  go_enter Try.func27, Try.ntmps27
  go_wp2_with (first | (refine ybe 3 #[.int .i64 a0_0, .slice A0_1 l0_1.length c0_1, .slice A0_2 l0_2.length c0_2] 30 ?_; intro gb492 hg w15 hbox hb; have n0_ := yam (below_step (yez HB.out) hb); have n1_ := yam (hbox); have n2_ := yam ((by rw [hg]; exact (below_size (yez HB.out)) : w.heap.size ≤ gb492)); have n3_ := n2_; clear HB; have HB := n0_; have BK492 := n1_; have GW492 := n2_; have GE492 := n3_; clear n0_ n1_ n2_ n3_; clear hb hbox hg; obtain ⟨hcz16_0, hcz16_1, hcz16_2, hfz16_0, hfz16_1, hfz16_2⟩ := ybc BK492.out) | (refine goesL_ (some 8) rfl rfl Try.func36 (by kernel_rfl) rfl #[.agg #[.int .i64 a0_0, .slice A0_1 l0_1.length c0_1, .slice A0_2 l0_2.length c0_2]] rfl ymd ?_; (with_reducible refine (impl_PuzzleValid.calls k a0_0 _ _ l0_1 _ _ l0_2 true _ ?side1 ?side2 ?side3 ?side4 A4.out).mono ?_); (case side1 => exact Kd.Cz ((Kd.C_below HR0_1.out HB.out))); (case side2 => exact HC0_1.out); (case side3 => exact Kd.Cz ((Kd.C_below HR0_2.out HB.out))); (case side4 => exact HC0_2.out); rintro e w17 ⟨rfl, hb⟩; refine ⟨_, rfl, ?_⟩; replace BK492 := yam (blk_below (g := gb492) (o := .cells #[.int .i64 a0_0, .slice A0_1 l0_1.length c0_1, .slice A0_2 l0_2.length c0_2] 30 (0, 0)) (ybz BK492.out) hb); replace HB := yam (below_step yhb hb); (try clear hb); (try clear hb2); (try clear hk); (try clear hi); obtain ⟨hcz18_0, hcz18_1, hcz18_2, hfz18_0, hfz18_1, hfz18_2⟩ := ybc BK492.out) | (refine goesL_ (some 22) rfl rfl Try.func59 (by kernel_rfl) rfl #[.slice A1 l1.length c1, .int .i64 a0_0] rfl ymd ?_; (with_reducible refine (impl_NarrowHidden.calls k _ _ l1 a0_0 t497 _ ?side1 ?side2 A14.out).mono ?_); (case side1 => exact Kd.Cz ((Kd.C_below HR1.out HB.out))); (case side2 => exact HC1.out); rintro e w19 ⟨v498, rfl, ho0, hb⟩; refine ⟨_, rfl, ?_⟩; have HO499 := yam (Kd.R_lower ho0 (below_size yhb)); replace BK492 := yam (blk_below (g := gb492) (o := .cells #[.int .i64 a0_0, .slice A0_1 l0_1.length c0_1, .slice A0_2 l0_2.length c0_2] 30 (0, 0)) (ybz BK492.out) hb); replace HB := yam (below_step yhb hb); (try clear hb); (try clear hb2); (try clear hk); (try clear hi); (try clear ho0)))
  go_ret
  exact ⟨_, yer, yka HO499.out, yhb⟩
 rw [if_neg c13] at H
 have c13b0 : (a2 == 2) = false := beq_eq_false_iff_ne.mpr c13
 have c13b1 : (a2 != 2) = true := bne_iff_ne.mpr c13
 by_cases c20 : a2 = 3
 ·rw [if_pos c20] at H
  have c20b0 : (a2 == 3) = true := beq_iff_eq.mpr c20
  have c20b1 : (a2 != 3) = false := bne_eq_false_iff_eq.mpr c20
  clear c20
  replace H := Option.bind_eq_some_iff.mp H
  obtain ⟨t500, A210, H⟩ := H
  try dsimp only at H
  have A21 := yam A210
  clear A210
  obtain rfl := Option.some.inj H
  go_enter Try.func27, Try.ntmps27
  go_wp2_with (first | (refine ybe 3 #[.int .i64 a0_0, .slice A0_1 l0_1.length c0_1, .slice A0_2 l0_2.length c0_2] 30 ?_; intro gb492 hg w22 hbox hb; have n0_ := yam (below_step (yez HB.out) hb); have n1_ := yam (hbox); have n2_ := yam ((by rw [hg]; exact (below_size (yez HB.out)) : w.heap.size ≤ gb492)); have n3_ := n2_; clear HB; have HB := n0_; have BK492 := n1_; have GW492 := n2_; have GE492 := n3_; clear n0_ n1_ n2_ n3_; clear hb hbox hg; obtain ⟨hcz23_0, hcz23_1, hcz23_2, hfz23_0, hfz23_1, hfz23_2⟩ := ybc BK492.out) | (refine goesL_ (some 8) rfl rfl Try.func36 (by kernel_rfl) rfl #[.agg #[.int .i64 a0_0, .slice A0_1 l0_1.length c0_1, .slice A0_2 l0_2.length c0_2]] rfl ymd ?_; (with_reducible refine (impl_PuzzleValid.calls k a0_0 _ _ l0_1 _ _ l0_2 true _ ?side1 ?side2 ?side3 ?side4 A4.out).mono ?_); (case side1 => exact Kd.Cz ((Kd.C_below HR0_1.out HB.out))); (case side2 => exact HC0_1.out); (case side3 => exact Kd.Cz ((Kd.C_below HR0_2.out HB.out))); (case side4 => exact HC0_2.out); rintro e w24 ⟨rfl, hb⟩; refine ⟨_, rfl, ?_⟩; replace BK492 := yam (blk_below (g := gb492) (o := .cells #[.int .i64 a0_0, .slice A0_1 l0_1.length c0_1, .slice A0_2 l0_2.length c0_2] 30 (0, 0)) (ybz BK492.out) hb); replace HB := yam (below_step yhb hb); (try clear hb); (try clear hb2); (try clear hk); (try clear hi); obtain ⟨hcz25_0, hcz25_1, hcz25_2, hfz25_0, hfz25_1, hfz25_2⟩ := ybc BK492.out) | (refine goesL_ (some 28) rfl rfl Try.func60 (by kernel_rfl) rfl #[.slice A1 l1.length c1, .int .i64 a0_0] rfl ymd ?_; (with_reducible refine (impl_NarrowPairs.calls k _ _ l1 a0_0 t500 _ ?side1 ?side2 A21.out).mono ?_); (case side1 => exact Kd.Cz ((Kd.C_below HR1.out HB.out))); (case side2 => exact HC1.out); rintro e w26 ⟨v501, rfl, ho0, hb⟩; refine ⟨_, rfl, ?_⟩; have HO502 := yam (Kd.R_lower ho0 (below_size yhb)); replace BK492 := yam (blk_below (g := gb492) (o := .cells #[.int .i64 a0_0, .slice A0_1 l0_1.length c0_1, .slice A0_2 l0_2.length c0_2] 30 (0, 0)) (ybz BK492.out) hb); replace HB := yam (below_step yhb hb); (try clear hb); (try clear hb2); (try clear hk); (try clear hi); (try clear ho0)))
  go_ret
  exact ⟨_, yer, yka HO502.out, yhb⟩
 rw [if_neg c20] at H
 have c20b0 : (a2 == 3) = false := beq_eq_false_iff_ne.mpr c20
 have c20b1 : (a2 != 3) = true := bne_iff_ne.mpr c20
 by_cases c27 : a2 = 4
 rotate_left
 ·rw [if_neg c27] at H
  have c27b0 : (a2 == 4) = false := beq_eq_false_iff_ne.mpr c27
  have c27b1 : (a2 != 4) = true := bne_iff_ne.mpr c27
  obtain rfl := Option.some.inj H
  go_enter Try.func27, Try.ntmps27
  go_wp2_with (first | (refine ybe 3 #[.int .i64 a0_0, .slice A0_1 l0_1.length c0_1, .slice A0_2 l0_2.length c0_2] 30 ?_; intro gb492 hg w34 hbox hb; have n0_ := yam (below_step (yez HB.out) hb); have n1_ := yam (hbox); have n2_ := yam ((by rw [hg]; exact (below_size (yez HB.out)) : w.heap.size ≤ gb492)); have n3_ := n2_; clear HB; have HB := n0_; have BK492 := n1_; have GW492 := n2_; have GE492 := n3_; clear n0_ n1_ n2_ n3_; clear hb hbox hg; obtain ⟨hcz35_0, hcz35_1, hcz35_2, hfz35_0, hfz35_1, hfz35_2⟩ := ybc BK492.out) | (refine goesL_ (some 8) rfl rfl Try.func36 (by kernel_rfl) rfl #[.agg #[.int .i64 a0_0, .slice A0_1 l0_1.length c0_1, .slice A0_2 l0_2.length c0_2]] rfl ymd ?_; (with_reducible refine (impl_PuzzleValid.calls k a0_0 _ _ l0_1 _ _ l0_2 true _ ?side1 ?side2 ?side3 ?side4 A4.out).mono ?_); (case side1 => exact Kd.Cz ((Kd.C_below HR0_1.out HB.out))); (case side2 => exact HC0_1.out); (case side3 => exact Kd.Cz ((Kd.C_below HR0_2.out HB.out))); (case side4 => exact HC0_2.out); rintro e w36 ⟨rfl, hb⟩; refine ⟨_, rfl, ?_⟩; replace BK492 := yam (blk_below (g := gb492) (o := .cells #[.int .i64 a0_0, .slice A0_1 l0_1.length c0_1, .slice A0_2 l0_2.length c0_2] 30 (0, 0)) (ybz BK492.out) hb); replace HB := yam (below_step yhb hb); (try clear hb); (try clear hb2); (try clear hk); (try clear hi)))
  go_ret
  exact ⟨_, yer, by first | exact Kd.R_nil _ _ _ _ _ | exact Kd.N_nil _ _ _ _ _ | exact Kd.V_nil _ _ _ _ _ | exact Kd.Q_nil _ _ _ _ _ | exact Kd.S_nil _ _ _ _ _, yhb⟩
 rw [if_pos c27] at H
 have c27b0 : (a2 == 4) = true := beq_iff_eq.mpr c27
 have c27b1 : (a2 != 4) = false := bne_eq_false_iff_eq.mpr c27
 clear c27
 replace H := Option.bind_eq_some_iff.mp H
 obtain ⟨t503, A280, H⟩ := H
 try dsimp only at H
 have A28 := yam A280
 clear A280
 obtain rfl := Option.some.inj H
 go_enter Try.func27, Try.ntmps27
 go_wp2_with (first | (refine ybe 3 #[.int .i64 a0_0, .slice A0_1 l0_1.length c0_1, .slice A0_2 l0_2.length c0_2] 30 ?_; intro gb492 hg w29 hbox hb; have n0_ := yam (below_step (yez HB.out) hb); have n1_ := yam (hbox); have n2_ := yam ((by rw [hg]; exact (below_size (yez HB.out)) : w.heap.size ≤ gb492)); have n3_ := n2_; clear HB; have HB := n0_; have BK492 := n1_; have GW492 := n2_; have GE492 := n3_; clear n0_ n1_ n2_ n3_; clear hb hbox hg; obtain ⟨hcz30_0, hcz30_1, hcz30_2, hfz30_0, hfz30_1, hfz30_2⟩ := ybc BK492.out) | (refine goesL_ (some 8) rfl rfl Try.func36 (by kernel_rfl) rfl #[.agg #[.int .i64 a0_0, .slice A0_1 l0_1.length c0_1, .slice A0_2 l0_2.length c0_2]] rfl ymd ?_; (with_reducible refine (impl_PuzzleValid.calls k a0_0 _ _ l0_1 _ _ l0_2 true _ ?side1 ?side2 ?side3 ?side4 A4.out).mono ?_); (case side1 => exact Kd.Cz ((Kd.C_below HR0_1.out HB.out))); (case side2 => exact HC0_1.out); (case side3 => exact Kd.Cz ((Kd.C_below HR0_2.out HB.out))); (case side4 => exact HC0_2.out); rintro e w31 ⟨rfl, hb⟩; refine ⟨_, rfl, ?_⟩; replace BK492 := yam (blk_below (g := gb492) (o := .cells #[.int .i64 a0_0, .slice A0_1 l0_1.length c0_1, .slice A0_2 l0_2.length c0_2] 30 (0, 0)) (ybz BK492.out) hb); replace HB := yam (below_step yhb hb); (try clear hb); (try clear hb2); (try clear hk); (try clear hi); obtain ⟨hcz32_0, hcz32_1, hcz32_2, hfz32_0, hfz32_1, hfz32_2⟩ := ybc BK492.out) | (refine goesL_ (some 33) rfl rfl Try.func61 (by kernel_rfl) rfl #[.agg #[.int .i64 a0_0, .slice A0_1 l0_1.length c0_1, .slice A0_2 l0_2.length c0_2], .slice A1 l1.length c1] rfl ymd ?_; (with_reducible refine (impl_NarrowRules.calls k a0_0 _ _ l0_1 _ _ l0_2 _ _ l1 t503 _ ?side1 ?side2 ?side3 ?side4 ?side5 ?side6 A28.out).mono ?_); (case side1 => exact Kd.Cz ((Kd.C_below HR0_1.out HB.out))); (case side2 => exact HC0_1.out); (case side3 => exact Kd.Cz ((Kd.C_below HR0_2.out HB.out))); (case side4 => exact HC0_2.out); (case side5 => exact Kd.Cz ((Kd.C_below HR1.out HB.out))); (case side6 => exact HC1.out); rintro e w33 ⟨v504, rfl, ho0, hb⟩; refine ⟨_, rfl, ?_⟩; have HO505 := yam (Kd.R_lower ho0 (below_size yhb)); replace BK492 := yam (blk_below (g := gb492) (o := .cells #[.int .i64 a0_0, .slice A0_1 l0_1.length c0_1, .slice A0_2 l0_2.length c0_2] 30 (0, 0)) (ybz BK492.out) hb); replace HB := yam (below_step yhb hb); (try clear hb); (try clear hb2); (try clear hk); (try clear hi); (try clear ho0)))
 go_ret
 exact ⟨_, yer, yka HO505.out, yhb⟩
def slices_Equal_int_int.l0 : Nat → List Int → List Int → Int → Int → Option (Bool)
 | 0, _, _, _, _ => none
 | k + 1, x0, x1, x12, x13 => if x13 < x12 then (if 0 ≤ x13 then (if x13 < (x0.length : Int) then (if x13 < (x1.length : Int) then (if (rd x0 x13) = (rd x1 x13) then (slices_Equal_int_int.l0 k x0 x1 x12 (wrap64 (x13 + 1))) else (some false)) else (none)) else (none)) else (none)) else (some true)
def slices_Equal_int_int.f (k : Nat) (l0 : List Int) (l1 : List Int) : Option (Bool) := if (l0.length : Int) = (l1.length : Int) then (slices_Equal_int_int.l0 k l0 l1 (l0.length : Int) 0) else (some false)
set_option maxHeartbeats 8000000 in
set_option maxRecDepth 100000 in
theorem slices_Equal_int_int.calls (k : Nat) (A0 : Option Addr) (c0 : Nat) (l0 : List Int) (A1 : Option Addr) (c1 : Nat) (l1 : List Int) (r : Bool) (w : World) (hr0 : Kd.C (Kd.int .i64) w A0 l0.length l0) (hc0 : l0.length ≤ c0) (hr1 : Kd.C (Kd.int .i64) w A1 l1.length l1) (hc1 : l1.length ≤ c1) (h : slices_Equal_int_int.f k l0 l1 = some r) :
  Calls Try.prog 74 #[.slice A0 l0.length c0, .slice A1 l1.length c1] w fun e w' => e = .returned (.bool r) ∧ Drawn0 w w' := by
 have HR0 := yam hr0
 have HC0 := yam hc0
 clear hr0 hc0
 have HR1 := yam hr1
 have HC1 := yam hc1
 clear hr1 hc1
 have H : (if (l0.length : Int) = (l1.length : Int) then (slices_Equal_int_int.l0 k l0 l1 (l0.length : Int) 0) else (some false)) = some r := h
 clear h
 by_cases c3 : (l0.length : Int) = (l1.length : Int)
 rotate_left
 ·rw [if_neg c3] at H
  have c3b0 : ((l0.length : Int) == (l1.length : Int)) = false := beq_eq_false_iff_ne.mpr c3
  have c3b1 : ((l0.length : Int) != (l1.length : Int)) = true := bne_iff_ne.mpr c3
  have c3b2 : (l0.length == l1.length) = false := by first | simpa using c3 | (simp at c3 ⊢; omega)
  obtain rfl := Option.some.inj H
  go_enter Try.func74, Try.ntmps74
  go_wp2
  repeat (go_quiet (fail); try go_wp2)
  go_ret
  exact ⟨yeq, by repeat (first | exact Drawn0.refl _ | apply Drawn0.step)⟩

 rw [if_pos c3] at H
 have c3b0 : ((l0.length : Int) == (l1.length : Int)) = true := beq_iff_eq.mpr c3
 have c3b1 : ((l0.length : Int) != (l1.length : Int)) = false := bne_eq_false_iff_eq.mpr c3
 have c3b2 : (l0.length == l1.length) = true := by first | simpa using c3 | (simp at c3 ⊢; omega)
 clear c3
 have H' := yam H
 clear H
 go_enter Try.func74, Try.ntmps74
 go_wp2
 repeat (go_quiet (fail); try go_wp2)
 go_loopg [13] k (fun kq v13 w' => ∃ (x13_1 : Int), v13 = .int .i64 x13_1 ∧ Aside0 (slices_Equal_int_int.l0 kq l0 l1 (l0.length : Int) x13_1 = some r) ∧ Aside0 (kq ≤ k) ∧ Drawn0 w w')
 case atStart => exact ⟨(0), yeq, H', ⟨Nat.le_refl _⟩, by repeat (first | exact Drawn0.refl _ | apply Drawn0.step)⟩
 case round =>
  clear H'
  try clear c1
  try clear p2
  try clear c3
  try clear c3b0
  try clear c3b1
  try clear c3b2
  obtain ⟨x13_1, rfl, HA, HK1, ⟨m1, rfl⟩⟩ := hrel
  cases gk with
  | zero => exact absurd HA.out (by simp [slices_Equal_int_int.l0])
  | succ k1 =>
   have H := HA.out
   clear HA
   simp only [slices_Equal_int_int.l0] at H
   by_cases c4 : x13_1 < (l0.length : Int)
   rotate_left
   ·rw [if_neg c4] at H
    have c4b0 : decide (x13_1 < (l0.length : Int)) = false := decide_eq_false c4
    clear c4
    obtain rfl := Option.some.inj H
    go_wp2
    repeat (go_quiet (fail); try go_wp2)
    go_ret
    exact ⟨yeq, by repeat (first | exact Drawn0.refl _ | apply Drawn0.step)⟩
   rw [if_pos c4] at H
   have c4b0 : decide (x13_1 < (l0.length : Int)) = true := decide_eq_true c4
   clear c4
   replace H := yif H
   obtain ⟨c5b0, H⟩ := H
   replace H := yif H
   obtain ⟨c6b0, H⟩ := H
   replace H := yif H
   obtain ⟨c7b0, H⟩ := H
   by_cases c8 : (rd l0 x13_1) = (rd l1 x13_1)
   rotate_left
   ·rw [if_neg c8] at H
    have c8b0 : ((rd l0 x13_1) == (rd l1 x13_1)) = false := beq_eq_false_iff_ne.mpr c8
    have c8b1 : ((rd l0 x13_1) != (rd l1 x13_1)) = true := bne_iff_ne.mpr c8
    obtain rfl := Option.some.inj H
    have p506 : 0 ≤ (x13_1 : Int) := ydt
    have q506 : x13_1 < (l0.length : Int) := ydt
    obtain ⟨ad506, e506, hx506_0⟩ := Kd.at_int HR0.out x13_1 p506 q506
    cases e506
    replace p506 := eq_true p506
    replace q506 := eq_true q506
    have p507 : 0 ≤ (x13_1 : Int) := ydt
    have q507 : x13_1 < (l1.length : Int) := ydt
    obtain ⟨ad507, e507, hx507_0⟩ := Kd.at_int HR1.out x13_1 p507 q507
    cases e507
    replace p507 := eq_true p507
    replace q507 := eq_true q507
    go_wp2
    repeat (go_quiet (fail); try go_wp2)
    go_ret
    exact ⟨yeq, by repeat (first | exact Drawn0.refl _ | apply Drawn0.step)⟩
   rw [if_pos c8] at H
   have c8b0 : ((rd l0 x13_1) == (rd l1 x13_1)) = true := beq_iff_eq.mpr c8
   have c8b1 : ((rd l0 x13_1) != (rd l1 x13_1)) = false := bne_eq_false_iff_eq.mpr c8
   clear c8
   have H' := yam H
   clear H
   have p506 : 0 ≤ (x13_1 : Int) := ydt
   have q506 : x13_1 < (l0.length : Int) := ydt
   obtain ⟨ad506, e506, hx506_0⟩ := Kd.at_int HR0.out x13_1 p506 q506
   cases e506
   replace p506 := eq_true p506
   replace q506 := eq_true q506
   have p507 : 0 ≤ (x13_1 : Int) := ydt
   have q507 : x13_1 < (l1.length : Int) := ydt
   obtain ⟨ad507, e507, hx507_0⟩ := Kd.at_int HR1.out x13_1 p507 q507
   cases e507
   replace p507 := eq_true p507
   replace q507 := eq_true q507
   go_wp2
   repeat (go_quiet (fail); try go_wp2)
   go_roundg k1
   case measure => have := HK1.out; omega
   case rel => exact ⟨(wrap64 (x13_1 + 1)), yeq, H', ⟨by have := HK1.out; omega⟩, by repeat (first | exact Drawn0.refl _ | apply Drawn0.step)⟩
def impl_nextRound.l0 : Nat → List Int → Int → Int → Int → List Int → List (S67) → Option (List Int × Int)
 | 0, _, _, _, _, _, _ => none
 | k + 1, x1, x2, x8, x509000, x509001, x509002 => if x8 ≤ x2 then ((impl_NarrowBy.f k x509000 x509001 x509002 x1 x8).bind fun t509 => ((slices_Equal_int_int.f k t509 x1).bind fun t512 => (if t512 = true then (impl_nextRound.l0 k x1 x2 (wrap64 (x8 + 1)) x509000 x509001 x509002) else (some (t509, x8))))) else (some (([] : List Int), 0))
def impl_nextRound.f (k : Nat) (a0_0 : Int) (l0_1 : List Int) (l0_2 : List (S67)) (l1 : List Int) (a2 : Int) : Option (List Int × Int) := impl_nextRound.l0 k l1 a2 1 a0_0 l0_1 l0_2
set_option maxHeartbeats 8000000 in
set_option maxRecDepth 100000 in
theorem impl_nextRound.calls (k : Nat) (a0_0 : Int) (A0_1 : Option Addr) (c0_1 : Nat) (l0_1 : List Int) (A0_2 : Option Addr) (c0_2 : Nat) (l0_2 : List (S67)) (A1 : Option Addr) (c1 : Nat) (l1 : List Int) (a2 : Int) (r1 : List Int) (r2 : Int) (w : World) (hr0_1 : Kd.C (Kd.int .i64) w A0_1 l0_1.length l0_1) (hc0_1 : l0_1.length ≤ c0_1) (hr0_2 : Kd.C k67 w A0_2 l0_2.length l0_2) (hc0_2 : l0_2.length ≤ c0_2) (hr1 : Kd.C (Kd.int .i64) w A1 l1.length l1) (hc1 : l1.length ≤ c1) (h : impl_nextRound.f k a0_0 l0_1 l0_2 l1 a2 = some (r1, r2)) :
  Calls Try.prog 44 #[.agg #[.int .i64 a0_0, .slice A0_1 l0_1.length c0_1, .slice A0_2 l0_2.length c0_2], .slice A1 l1.length c1, .int .i64 a2] w fun e w' => ∃ v0_ : Value, e = .returned (.tuple #[v0_, .int .i64 r2]) ∧ Kd.R (Kd.int .i64) 3 w' w.heap.size (fun _ => True) v0_ r1 ∧ Below w.heap.size w w' := by
 have hu30 := Try.underlying30
 have HR0_1 := yam hr0_1
 have HC0_1 := yam hc0_1
 clear hr0_1 hc0_1
 have HR0_2 := yam hr0_2
 have HC0_2 := yam hc0_2
 clear hr0_2 hc0_2
 have HR1 := yam hr1
 have HC1 := yam hc1
 clear hr1 hc1
 have HB := yam (Below.refl w.heap.size w)
 have H : (impl_nextRound.l0 k l1 a2 1 a0_0 l0_1 l0_2) = some (r1, r2) := h
 clear h
 have H' := yam H
 clear H
 go_enter Try.func44, Try.ntmps44
 go_wp2_with (first | (refine ybe 3 #[.int .i64 a0_0, .slice A0_1 l0_1.length c0_1, .slice A0_2 l0_2.length c0_2] 30 ?_; intro gb508 hg w4 hbox hb; have n0_ := yam (below_step (yez HB.out) hb); have n1_ := yam (hbox); have n2_ := yam ((by rw [hg]; exact (below_size (yez HB.out)) : w.heap.size ≤ gb508)); have n3_ := n2_; clear HB; have HB := n0_; have BK508 := n1_; have GW508 := n2_; have GE508 := n3_; clear n0_ n1_ n2_ n3_; clear hb hbox hg))
 go_loopg [8] k (fun kq v8 w' => ∃ (x8_1 : Int), v8 = .int .i64 x8_1 ∧ Aside0 (impl_nextRound.l0 kq l1 a2 x8_1 a0_0 l0_1 l0_2 = some (r1, r2)) ∧ Aside0 (kq ≤ k) ∧ Aside0 (w'.heap[gb508]? = some (.cells #[.int .i64 a0_0, (.slice A0_1 l0_1.length c0_1), (.slice A0_2 l0_2.length c0_2)] 30 (0, 0))) ∧ Aside0 (Below w.heap.size w w'))
 case atStart => exact ⟨(1), yeq, H', ⟨Nat.le_refl _⟩, ⟨by (with_reducible repeat (first | refine ybn ?_ _ | refine ybd ?_ | refine yba ?_ _)); exact BK508.out⟩, ⟨yhb⟩⟩
 case round =>
  clear H'
  try clear c1
  try clear p2
  try clear c4
  obtain ⟨x8_1, rfl, HA, HK1, BK508, HB⟩ := hrel
  cases gk with
  | zero => exact absurd HA.out (by simp [impl_nextRound.l0])
  | succ k1 =>
   have H := HA.out
   clear HA
   simp only [impl_nextRound.l0] at H
   by_cases c5 : x8_1 ≤ a2
   rotate_left
   ·rw [if_neg c5] at H
    have c5b0 : decide (x8_1 ≤ a2) = false := decide_eq_false c5
    clear c5
    simp only [Option.some.injEq, Prod.mk.injEq] at H
    obtain ⟨rfl, rfl⟩ := H
    go_wp2
    go_ret2
    exact ⟨_, yer, by first | exact Kd.R_nil _ _ _ _ _ | exact Kd.N_nil _ _ _ _ _ | exact Kd.V_nil _ _ _ _ _ | exact Kd.Q_nil _ _ _ _ _ | exact Kd.S_nil _ _ _ _ _, yhb⟩

   rw [if_pos c5] at H
   have c5b0 : decide (x8_1 ≤ a2) = true := decide_eq_true c5
   clear c5
   replace H := Option.bind_eq_some_iff.mp H
   obtain ⟨t509, A60, H⟩ := H
   replace H : ((slices_Equal_int_int.f k1 t509 l1).bind fun t512 => (if t512 = true then (impl_nextRound.l0 k1 l1 a2 (wrap64 (x8_1 + 1)) a0_0 l0_1 l0_2) else (some (t509, x8_1)))) = some (r1, r2) := H
   have A6 := yam A60
   clear A60
   replace H := Option.bind_eq_some_iff.mp H
   obtain ⟨t512, A70, H⟩ := H
   replace H : (if t512 = true then (impl_nextRound.l0 k1 l1 a2 (wrap64 (x8_1 + 1)) a0_0 l0_1 l0_2) else (some (t509, x8_1))) = some (r1, r2) := H
   have A7 := yam A70
   clear A70
   by_cases c8 : t512 = true
   ·subst c8
    have H1 : (impl_nextRound.l0 k1 l1 a2 (wrap64 (x8_1 + 1)) a0_0 l0_1 l0_2) = some (r1, r2) := by rw [if_pos rfl] at H; exact H
    clear H
    have H := H1
    clear H1
    have H' := yam H
    clear H
    obtain ⟨hcz9_0, hcz9_1, hcz9_2, hfz9_0, hfz9_1, hfz9_2⟩ := ybc BK508.out
    go_wp2_with (first | (refine goesL_ (some 18) rfl rfl Try.func27 (by kernel_rfl) rfl #[.agg #[.int .i64 a0_0, .slice A0_1 l0_1.length c0_1, .slice A0_2 l0_2.length c0_2], .slice A1 l1.length c1, .int .i64 x8_1] rfl ymd ?_; (with_reducible refine (impl_NarrowBy.calls k1 a0_0 _ _ l0_1 _ _ l0_2 _ _ l1 x8_1 t509 _ ?side1 ?side2 ?side3 ?side4 ?side5 ?side6 A6.out).mono ?_); (case side1 => exact Kd.Cz ((Kd.C_below HR0_1.out HB.out))); (case side2 => exact HC0_1.out); (case side3 => exact Kd.Cz ((Kd.C_below HR0_2.out HB.out))); (case side4 => exact HC0_2.out); (case side5 => exact Kd.Cz ((Kd.C_below HR1.out HB.out))); (case side6 => exact HC1.out); rintro e w10 ⟨v510, rfl, ho0, hb⟩; refine ⟨_, rfl, ?_⟩; have HO511 := yam (Kd.R_lower ho0 (below_size yhb)); replace BK508 := yam (blk_below (g := gb508) (o := .cells #[.int .i64 a0_0, .slice A0_1 l0_1.length c0_1, .slice A0_2 l0_2.length c0_2] 30 (0, 0)) (ybz BK508.out) hb); replace HB := yam (below_step yhb hb); (try clear hb); (try clear hb2); (try clear hk); (try clear hi); (try clear ho0); obtain ⟨Ao11, co11, eo11⟩ := Kd.R_slice HO511.out; subst eo11) | (refine goesL_ (some 21) rfl rfl Try.func74 (by kernel_rfl) rfl #[.slice Ao11 t509.length co11, .slice A1 l1.length c1] rfl ymd ?_; (with_reducible refine (slices_Equal_int_int.calls k1 _ _ t509 _ _ l1 true _ ?side1 ?side2 ?side3 ?side4 A7.out).mono ?_); (case side1 => repeat (first | exact (Kd.Yr HO511.out).2.2 | (with_reducible refine Kd.C_alloc ?_ _) | (with_reducible refine Kd.C_drewN ?_ _) | (with_reducible refine Kd.C_drew ?_))); (case side2 => exact (Kd.Yr HO511.out).2.1); (case side3 => exact Kd.Cz ((Kd.C_below HR1.out HB.out))); (case side4 => exact HC1.out); rintro e w' ⟨rfl, ⟨nd, rfl⟩⟩; refine ⟨_, rfl, ?_⟩))
    go_roundg k1
    case measure => have := HK1.out; omega
    case rel => exact ⟨(wrap64 (x8_1 + 1)), yeq, H', ⟨by have := HK1.out; omega⟩, ⟨by (with_reducible repeat (first | refine ybn ?_ _ | refine ybd ?_ | refine yba ?_ _)); exact BK508.out⟩, ⟨yhb⟩⟩
   replace c8 := Bool.eq_false_iff.mpr c8
   subst c8
   have H1 : (some (t509, x8_1)) = some (r1, r2) := by rw [if_neg (show ¬ (false = true) by decide)] at H; exact H
   clear H
   have H := H1
   clear H1
   simp only [Option.some.injEq, Prod.mk.injEq] at H
   obtain ⟨rfl, rfl⟩ := H
   obtain ⟨hcz12_0, hcz12_1, hcz12_2, hfz12_0, hfz12_1, hfz12_2⟩ := ybc BK508.out
   go_wp2_with (first | (refine goesL_ (some 18) rfl rfl Try.func27 (by kernel_rfl) rfl #[.agg #[.int .i64 a0_0, .slice A0_1 l0_1.length c0_1, .slice A0_2 l0_2.length c0_2], .slice A1 l1.length c1, .int .i64 x8_1] rfl ymd ?_; (with_reducible refine (impl_NarrowBy.calls k1 a0_0 _ _ l0_1 _ _ l0_2 _ _ l1 x8_1 t509 _ ?side1 ?side2 ?side3 ?side4 ?side5 ?side6 A6.out).mono ?_); (case side1 => exact Kd.Cz ((Kd.C_below HR0_1.out HB.out))); (case side2 => exact HC0_1.out); (case side3 => exact Kd.Cz ((Kd.C_below HR0_2.out HB.out))); (case side4 => exact HC0_2.out); (case side5 => exact Kd.Cz ((Kd.C_below HR1.out HB.out))); (case side6 => exact HC1.out); rintro e w13 ⟨v510, rfl, ho0, hb⟩; refine ⟨_, rfl, ?_⟩; have HO511 := yam (Kd.R_lower ho0 (below_size yhb)); replace BK508 := yam (blk_below (g := gb508) (o := .cells #[.int .i64 a0_0, .slice A0_1 l0_1.length c0_1, .slice A0_2 l0_2.length c0_2] 30 (0, 0)) (ybz BK508.out) hb); replace HB := yam (below_step yhb hb); (try clear hb); (try clear hb2); (try clear hk); (try clear hi); (try clear ho0); obtain ⟨Ao14, co14, eo14⟩ := Kd.R_slice HO511.out; subst eo14) | (refine goesL_ (some 21) rfl rfl Try.func74 (by kernel_rfl) rfl #[.slice Ao14 t509.length co14, .slice A1 l1.length c1] rfl ymd ?_; (with_reducible refine (slices_Equal_int_int.calls k1 _ _ t509 _ _ l1 false _ ?side1 ?side2 ?side3 ?side4 A7.out).mono ?_); (case side1 => repeat (first | exact (Kd.Yr HO511.out).2.2 | (with_reducible refine Kd.C_alloc ?_ _) | (with_reducible refine Kd.C_drewN ?_ _) | (with_reducible refine Kd.C_drew ?_))); (case side2 => exact (Kd.Yr HO511.out).2.1); (case side3 => exact Kd.Cz ((Kd.C_below HR1.out HB.out))); (case side4 => exact HC1.out); rintro e w' ⟨rfl, ⟨nd, rfl⟩⟩; refine ⟨_, rfl, ?_⟩))
   go_ret2
   exact ⟨_, yer, yka HO511.out, yhb⟩
def impl_StepMasksV.l0 : Nat → List Int → Int → Int → Int → List Int → List (S67) → Option (List Int)
 | 0, _, _, _, _, _, _ => none
 | k + 1, x5, x16, x17, x771000, x771001, x771002 => if x17 < x16 then ((impl_nextRound.f k x771000 x771001 x771002 x5 4).bind fun bt774 => (if bt774.2 = 0 then (some ([] : List Int)) else (impl_StepMasksV.l0 k bt774.1 x16 (wrap64 (x17 + 1)) x771000 x771001 x771002))) else (some x5)
def impl_StepMasksV.f (k : Nat) (a0_0 : Int) (l0_1 : List Int) (l0_2 : List (S67)) (a1 : Int) : Option (List Int) := (impl_StartMasks.f k a0_0 l0_1 l0_2).bind fun t771 => (if (t771.length : Int) = 0 then (none) else (if a1 < 0 then (some ([] : List Int)) else (impl_StepMasksV.l0 k t771 a1 0 a0_0 l0_1 l0_2)))
set_option maxHeartbeats 8000000 in
set_option maxRecDepth 100000 in
theorem impl_StepMasksV.calls (k : Nat) (a0_0 : Int) (A0_1 : Option Addr) (c0_1 : Nat) (l0_1 : List Int) (A0_2 : Option Addr) (c0_2 : Nat) (l0_2 : List (S67)) (a1 : Int) (r : List Int) (w : World) (hr0_1 : Kd.C (Kd.int .i64) w A0_1 l0_1.length l0_1) (hc0_1 : l0_1.length ≤ c0_1) (hr0_2 : Kd.C k67 w A0_2 l0_2.length l0_2) (hc0_2 : l0_2.length ≤ c0_2) (h : impl_StepMasksV.f k a0_0 l0_1 l0_2 a1 = some r) :
  Calls Try.prog 31 #[.agg #[.int .i64 a0_0, .slice A0_1 l0_1.length c0_1, .slice A0_2 l0_2.length c0_2], .int .i64 a1] w fun e w' => ∃ v0_ : Value, e = .returned (v0_) ∧ Kd.R (Kd.int .i64) 3 w' w.heap.size (fun _ => True) v0_ r ∧ Below w.heap.size w w' := by
 have hu30 := Try.underlying30
 have hnilq22 := fun (W : World) (A : Option Addr) (n c : Nat) => Lib.run_eql_slice_nil (P := Try.prog) W 22 3 A n c 0 0 Try.underlying22
 have HR0_1 := yam hr0_1
 have HC0_1 := yam hc0_1
 clear hr0_1 hc0_1
 have HR0_2 := yam hr0_2
 have HC0_2 := yam hc0_2
 clear hr0_2 hc0_2
 have HB := yam (Below.refl w.heap.size w)
 have H : ((impl_StartMasks.f k a0_0 l0_1 l0_2).bind fun t771 => (if (t771.length : Int) = 0 then (none) else (if a1 < 0 then (some ([] : List Int)) else (impl_StepMasksV.l0 k t771 a1 0 a0_0 l0_1 l0_2)))) = some r := h
 clear h
 replace H := Option.bind_eq_some_iff.mp H
 obtain ⟨t771, A30, H⟩ := H
 try dsimp only at H
 have A3 := yam A30
 clear A30
 by_cases c4 : (t771.length : Int) = 0
 ·rw [if_pos c4] at H
  exact absurd H (by simp)
 rw [if_neg c4] at H
 have c4b0 : ((t771.length : Int) == 0) = false := beq_eq_false_iff_ne.mpr c4
 have c4b1 : ((t771.length : Int) != 0) = true := bne_iff_ne.mpr c4
 have c4b2 : ¬ (t771 = []) := fun h_ => c4 (by rw [h_]; rfl)
 by_cases c5 : a1 < 0
 ·rw [if_pos c5] at H
  have c5b0 : decide (a1 < 0) = true := decide_eq_true c5
  clear c5
  obtain rfl := Option.some.inj H
  go_enter Try.func31, Try.ntmps31
  go_wp2_with (first | (refine ybe 2 #[.int .i64 a0_0, .slice A0_1 l0_1.length c0_1, .slice A0_2 l0_2.length c0_2] 30 ?_; intro gb770 hg w6 hbox hb; have n0_ := yam (below_step (yez HB.out) hb); have n1_ := yam (hbox); have n2_ := yam ((by rw [hg]; exact (below_size (yez HB.out)) : w.heap.size ≤ gb770)); have n3_ := n2_; clear HB; have HB := n0_; have BK770 := n1_; have GW770 := n2_; have GE770 := n3_; clear n0_ n1_ n2_ n3_; clear hb hbox hg; obtain ⟨hcz7_0, hcz7_1, hcz7_2, hfz7_0, hfz7_1, hfz7_2⟩ := ybc BK770.out) | (refine goesL_ (some 9) rfl rfl Try.func43 (by kernel_rfl) rfl #[.agg #[.int .i64 a0_0, .slice A0_1 l0_1.length c0_1, .slice A0_2 l0_2.length c0_2]] rfl ymd ?_; (with_reducible refine (impl_StartMasks.calls k a0_0 _ _ l0_1 _ _ l0_2 t771 _ ?side1 ?side2 ?side3 ?side4 A3.out).mono ?_); (case side1 => exact Kd.Cz ((Kd.C_below HR0_1.out HB.out))); (case side2 => exact HC0_1.out); (case side3 => exact Kd.Cz ((Kd.C_below HR0_2.out HB.out))); (case side4 => exact HC0_2.out); rintro e w8 ⟨v772, rfl, ho0, hb⟩; refine ⟨_, rfl, ?_⟩; have HO773 := yam (Kd.R_lower ho0 (below_size yhb)); replace BK770 := yam (blk_below (g := gb770) (o := .cells #[.int .i64 a0_0, .slice A0_1 l0_1.length c0_1, .slice A0_2 l0_2.length c0_2] 30 (0, 0)) (ybz BK770.out) hb); replace HB := yam (below_step yhb hb); (try clear hb); (try clear hb2); (try clear hk); (try clear hi); (try clear ho0); obtain ⟨Ao9, co9, eo9⟩ := Kd.R_slice HO773.out; subst eo9; have hnnn10 := Kd.R_isSome HO773.out (show 0 < t771.length from by omega)))
  go_ret
  exact ⟨_, yer, by first | exact Kd.R_nil _ _ _ _ _ | exact Kd.N_nil _ _ _ _ _ | exact Kd.V_nil _ _ _ _ _ | exact Kd.Q_nil _ _ _ _ _ | exact Kd.S_nil _ _ _ _ _, yhb⟩
 rw [if_neg c5] at H
 have c5b0 : decide (a1 < 0) = false := decide_eq_false c5
 clear c5
 have H' := yam H
 clear H
 go_enter Try.func31, Try.ntmps31
 go_wp2_with (first | (refine ybe 2 #[.int .i64 a0_0, .slice A0_1 l0_1.length c0_1, .slice A0_2 l0_2.length c0_2] 30 ?_; intro gb770 hg w11 hbox hb; have n0_ := yam (below_step (yez HB.out) hb); have n1_ := yam (hbox); have n2_ := yam ((by rw [hg]; exact (below_size (yez HB.out)) : w.heap.size ≤ gb770)); have n3_ := n2_; clear HB; have HB := n0_; have BK770 := n1_; have GW770 := n2_; have GE770 := n3_; clear n0_ n1_ n2_ n3_; clear hb hbox hg; obtain ⟨hcz12_0, hcz12_1, hcz12_2, hfz12_0, hfz12_1, hfz12_2⟩ := ybc BK770.out) | (refine goesL_ (some 9) rfl rfl Try.func43 (by kernel_rfl) rfl #[.agg #[.int .i64 a0_0, .slice A0_1 l0_1.length c0_1, .slice A0_2 l0_2.length c0_2]] rfl ymd ?_; (with_reducible refine (impl_StartMasks.calls k a0_0 _ _ l0_1 _ _ l0_2 t771 _ ?side1 ?side2 ?side3 ?side4 A3.out).mono ?_); (case side1 => exact Kd.Cz ((Kd.C_below HR0_1.out HB.out))); (case side2 => exact HC0_1.out); (case side3 => exact Kd.Cz ((Kd.C_below HR0_2.out HB.out))); (case side4 => exact HC0_2.out); rintro e w13 ⟨v772, rfl, ho0, hb⟩; refine ⟨_, rfl, ?_⟩; have HO773 := yam (Kd.R_lower ho0 (below_size yhb)); replace BK770 := yam (blk_below (g := gb770) (o := .cells #[.int .i64 a0_0, .slice A0_1 l0_1.length c0_1, .slice A0_2 l0_2.length c0_2] 30 (0, 0)) (ybz BK770.out) hb); replace HB := yam (below_step yhb hb); (try clear hb); (try clear hb2); (try clear hk); (try clear hi); (try clear ho0); obtain ⟨Ao14, co14, eo14⟩ := Kd.R_slice HO773.out; subst eo14; have hnnn15 := Kd.R_isSome HO773.out (show 0 < t771.length from by omega)))
 go_loopg [5, 17] k (fun kq v5 v17 w' => ∃ (x5_1 : List Int) (x17_1 : Int), v17 = .int .i64 x17_1 ∧ Aside0 (impl_StepMasksV.l0 kq x5_1 a1 x17_1 a0_0 l0_1 l0_2 = some r) ∧ Aside0 (kq ≤ k) ∧ Aside0 (Kd.R (Kd.int .i64) 3 w' w.heap.size (fun _ => True) v5 x5_1) ∧ Aside0 (w'.heap[gb770]? = some (.cells #[.int .i64 a0_0, (.slice A0_1 l0_1.length c0_1), (.slice A0_2 l0_2.length c0_2)] 30 (0, 0))) ∧ Aside0 (Below w.heap.size w w'))
 case atStart => exact ⟨(t771), (0), yeq, H', ⟨Nat.le_refl _⟩, ⟨yka HO773.out⟩, ⟨by (with_reducible repeat (first | refine ybn ?_ _ | refine ybd ?_ | refine yba ?_ _)); exact BK770.out⟩, ⟨yhb⟩⟩
 case round =>
  clear H'
  try clear p2
  try clear c3
  try clear c4
  try clear c4b0
  try clear c4b1
  try clear c4b2
  try clear c5
  try clear c5b0
  try clear hcz12_0
  try clear hcz12_1
  try clear hcz12_2
  try clear hcz7_0
  try clear hcz7_1
  try clear hcz7_2
  try clear hfz12_0
  try clear hfz12_1
  try clear hfz12_2
  try clear hfz7_0
  try clear hfz7_1
  try clear hfz7_2
  obtain ⟨x5_1, x17_1, rfl, HA, HK1, HO_5, BK770, HB⟩ := hrel
  cases gk with
  | zero => exact absurd HA.out (by simp [impl_StepMasksV.l0])
  | succ k1 =>
   have H := HA.out
   clear HA
   simp only [impl_StepMasksV.l0] at H
   by_cases c16 : x17_1 < a1
   rotate_left
   ·rw [if_neg c16] at H
    have c16b0 : decide (x17_1 < a1) = false := decide_eq_false c16
    clear c16
    obtain rfl := Option.some.inj H
    go_wp2
    go_ret
    exact ⟨_, yer, yka HO_5.out, yhb⟩

   rw [if_pos c16] at H
   have c16b0 : decide (x17_1 < a1) = true := decide_eq_true c16
   clear c16
   replace H := Option.bind_eq_some_iff.mp H
   obtain ⟨⟨t774, t777⟩, A170, H⟩ := H
   try dsimp only at H
   have A17 := yam A170
   clear A170
   by_cases c18 : t777 = 0
   ·rw [if_pos c18] at H
    have c18b0 : (t777 == 0) = true := beq_iff_eq.mpr c18
    have c18b1 : (t777 != 0) = false := bne_eq_false_iff_eq.mpr c18
    clear c18
    obtain rfl := Option.some.inj H
    obtain ⟨hcz19_0, hcz19_1, hcz19_2, hfz19_0, hfz19_1, hfz19_2⟩ := ybc BK770.out
    obtain ⟨Ao20, co20, eo20⟩ := Kd.R_slice HO_5.out
    subst eo20
    go_wp2_with (first | (refine goesL_ (some 22) rfl rfl Try.func44 (by kernel_rfl) rfl #[.agg #[.int .i64 a0_0, .slice A0_1 l0_1.length c0_1, .slice A0_2 l0_2.length c0_2], .slice Ao20 x5_1.length co20, .int .i64 4] rfl ymd ?_; (with_reducible refine (impl_nextRound.calls k1 a0_0 _ _ l0_1 _ _ l0_2 _ _ x5_1 4 t774 t777 _ ?side1 ?side2 ?side3 ?side4 ?side5 ?side6 A17.out).mono ?_); (case side1 => exact Kd.Cz ((Kd.C_below HR0_1.out HB.out))); (case side2 => exact HC0_1.out); (case side3 => exact Kd.Cz ((Kd.C_below HR0_2.out HB.out))); (case side4 => exact HC0_2.out); (case side5 => repeat (first | exact (Kd.Yr HO_5.out).2.2 | (with_reducible refine Kd.C_alloc ?_ _) | (with_reducible refine Kd.C_drewN ?_ _) | (with_reducible refine Kd.C_drew ?_))); (case side6 => exact (Kd.Yr HO_5.out).2.1); rintro e w21 ⟨v775, rfl, ho0, hb⟩; refine ⟨_, rfl, ?_⟩; have HO776 := yam (Kd.R_lower (Kd.Yw ho0 (Kd.R_lt (Kd.Yz HO_5.out))) (below_size yhb)); replace HO_5 := yam (Kd.Ye (Kd.Yz HO_5.out) (Kd.Yb ho0) hb); replace BK770 := yam (blk_below (g := gb770) (o := .cells #[.int .i64 a0_0, .slice A0_1 l0_1.length c0_1, .slice A0_2 l0_2.length c0_2] 30 (0, 0)) (ybz BK770.out) hb); replace HB := yam (below_step yhb hb); (try clear hb); (try clear hb2); (try clear hk); (try clear hi); (try clear ho0)))
    go_ret
    exact ⟨_, yer, by first | exact Kd.R_nil _ _ _ _ _ | exact Kd.N_nil _ _ _ _ _ | exact Kd.V_nil _ _ _ _ _ | exact Kd.Q_nil _ _ _ _ _ | exact Kd.S_nil _ _ _ _ _, yhb⟩
   rw [if_neg c18] at H
   have c18b0 : (t777 == 0) = false := beq_eq_false_iff_ne.mpr c18
   have c18b1 : (t777 != 0) = true := bne_iff_ne.mpr c18
   have H' := yam H
   clear H
   obtain ⟨hcz22_0, hcz22_1, hcz22_2, hfz22_0, hfz22_1, hfz22_2⟩ := ybc BK770.out
   obtain ⟨Ao23, co23, eo23⟩ := Kd.R_slice HO_5.out
   subst eo23
   go_wp2_with (first | (refine goesL_ (some 22) rfl rfl Try.func44 (by kernel_rfl) rfl #[.agg #[.int .i64 a0_0, .slice A0_1 l0_1.length c0_1, .slice A0_2 l0_2.length c0_2], .slice Ao23 x5_1.length co23, .int .i64 4] rfl ymd ?_; (with_reducible refine (impl_nextRound.calls k1 a0_0 _ _ l0_1 _ _ l0_2 _ _ x5_1 4 t774 t777 _ ?side1 ?side2 ?side3 ?side4 ?side5 ?side6 A17.out).mono ?_); (case side1 => exact Kd.Cz ((Kd.C_below HR0_1.out HB.out))); (case side2 => exact HC0_1.out); (case side3 => exact Kd.Cz ((Kd.C_below HR0_2.out HB.out))); (case side4 => exact HC0_2.out); (case side5 => repeat (first | exact (Kd.Yr HO_5.out).2.2 | (with_reducible refine Kd.C_alloc ?_ _) | (with_reducible refine Kd.C_drewN ?_ _) | (with_reducible refine Kd.C_drew ?_))); (case side6 => exact (Kd.Yr HO_5.out).2.1); rintro e w24 ⟨v775, rfl, ho0, hb⟩; refine ⟨_, rfl, ?_⟩; have HO776 := yam (Kd.R_lower (Kd.Yw ho0 (Kd.R_lt (Kd.Yz HO_5.out))) (below_size yhb)); replace HO_5 := yam (Kd.Ye (Kd.Yz HO_5.out) (Kd.Yb ho0) hb); replace BK770 := yam (blk_below (g := gb770) (o := .cells #[.int .i64 a0_0, .slice A0_1 l0_1.length c0_1, .slice A0_2 l0_2.length c0_2] 30 (0, 0)) (ybz BK770.out) hb); replace HB := yam (below_step yhb hb); (try clear hb); (try clear hb2); (try clear hk); (try clear hi); (try clear ho0)))
   go_roundg k1
   case measure => have := HK1.out; omega
   case rel => exact ⟨(t774), (wrap64 (x17_1 + 1)), yeq, H', ⟨by have := HK1.out; omega⟩, ⟨by (with_reducible repeat (first | apply Kd.Ya | apply Kd.Yn | apply Kd.Yd)); exact Kd.R_mono HO776.out (fun _ hk => trivial)⟩, ⟨by (with_reducible repeat (first | refine ybn ?_ _ | refine ybd ?_ | refine yba ?_ _)); exact BK770.out⟩, ⟨yhb⟩⟩
def impl_StepMasks.f (k : Nat) (a0_0 : Int) (l0_1 : List Int) (l0_2 : List S67) (a1 : Int) : Option (List Int) := (impl_PuzzleValid.f k a0_0 l0_1 l0_2).bind fun b => if b = true then impl_StepMasksV.f k a0_0 l0_1 l0_2 a1 else some []
set_option maxHeartbeats 8000000 in
set_option maxRecDepth 100000 in
theorem impl_StepMasks.calls (k : Nat) (a0_0 : Int) (A0_1 : Option Addr) (c0_1 : Nat) (l0_1 : List Int) (A0_2 : Option Addr) (c0_2 : Nat) (l0_2 : List S67) (a1 : Int) (r : List Int) (w : World) (hr0_1 : Kd.C (Kd.int .i64) w A0_1 l0_1.length l0_1) (hc0_1 : l0_1.length ≤ c0_1) (hr0_2 : Kd.C k67 w A0_2 l0_2.length l0_2) (hc0_2 : l0_2.length ≤ c0_2) (h : impl_StepMasks.f k a0_0 l0_1 l0_2 a1 = some r) :
  Calls Try.prog 31 #[.agg #[.int .i64 a0_0, .slice A0_1 l0_1.length c0_1, .slice A0_2 l0_2.length c0_2], .int .i64 a1] w fun e w' => ∃ v0_ : Value, e = .returned (v0_) ∧ Kd.R (Kd.int .i64) 3 w' w.heap.size (fun _ => True) v0_ r ∧ Below w.heap.size w w' := by
 unfold impl_StepMasks.f at h
 obtain ⟨b, hF, h⟩ := Option.bind_eq_some_iff.1 h
 cases b with
 | true =>
  simp only [if_true] at h
  exact impl_StepMasksV.calls k a0_0 A0_1 c0_1 l0_1 A0_2 c0_2 l0_2 a1 r w hr0_1 hc0_1 hr0_2 hc0_2 h
 | false =>
  simp only [Bool.false_eq_true, if_false] at h
  obtain rfl := Option.some.inj h
  clear h
  have HF := yam hF
  have HR1 := yam hr0_1
  have HC1 := yam hc0_1
  have HR2 := yam hr0_2
  have HC2 := yam hc0_2
  have hu := Try.underlying30
  have hnilq := fun (W : World) (A : Option Addr) (n c : Nat) => Lib.run_eql_slice_nil (P := Try.prog) W 22 3 A n c 0 0 Try.underlying22
  clear hF hr0_1 hc0_1 hr0_2 hc0_2
  go_enter Try.func31, Try.ntmps31
  go_wp2_with (first
   | (refine ybe 2 #[.int .i64 a0_0, .slice A0_1 l0_1.length c0_1, .slice A0_2 l0_2.length c0_2] 30 ?_; intro gP hg w3 hbox hb; have BgP := yam hbox; have HW := yam hb; clear hg hbox hb; have hp0 : w3.cell? ⟨gP, 0, none⟩ = some (.int .i64 a0_0) := (blk_cell BgP.out 0).trans rfl; have hp1 : w3.cell? ⟨gP, 1, none⟩ = some (.slice A0_1 l0_1.length c0_1) := (blk_cell BgP.out 1).trans rfl; have hp2 : w3.cell? ⟨gP, 2, none⟩ = some (.slice A0_2 l0_2.length c0_2) := (blk_cell BgP.out 2).trans rfl)
   | (refine goesL_ (some 9) rfl rfl Try.func43 (by kernel_rfl) rfl #[.agg #[.int .i64 a0_0, .slice A0_1 l0_1.length c0_1, .slice A0_2 l0_2.length c0_2]] rfl yma ?_; (with_reducible refine (impl_StartMasks.nil k a0_0 _ _ l0_1 _ _ l0_2 w3 (Kd.C_below HR1.out HW.out) HC1.out (Kd.C_below HR2.out HW.out) HC2.out HF.out).mono ?_); rintro e w4 ⟨rfl, hb⟩; refine ⟨_, rfl, ?_⟩; have HX := yam (below_step HW.out hb); clear hb hp0 hp1 hp2))
  go_ret
  exact ⟨_, rfl, Kd.R_nil _ _ _ _ _, HX.out⟩
def laws_FnExactStepMasks.f (k : Nat) (a0_0 : Int) (l0_1 : List Int) (l0_2 : List S65) (a1 : Int) : Option Bool := (laws_szPuzzle.f k a0_0 l0_1 l0_2 1048576).bind fun u79 => if u79 < 0 then some true else (laws_toPuzzle.f k a0_0 l0_1 l0_2).bind fun u80 => (spec_StepMasks.f k u80.1 u80.2.1 u80.2.2 a1).bind fun u81 => (laws_toPuzzle.f k a0_0 l0_1 l0_2).bind fun u82 => (impl_StepMasks.f k u82.1 u82.2.1 u82.2.2 a1).bind fun u83 => (laws_eqIntS.f k u83 u81).bind fun u84 => if u84 = true then (laws_toPuzzle.f k a0_0 l0_1 l0_2).bind fun u85 => (laws_eqPuzzle.f k u82.1 u82.2.1 u82.2.2 u85.1 u85.2.1 u85.2.2).bind fun u86 => if u86 = true then (laws_markPuzzle.f k u82.1 u82.2.1 u82.2.2 1).bind fun u87 => if u87.1 < 0 then some false else (laws_eqIntS.f k u83 u81).bind fun u88 => if u88 = true then (laws_markIntS.f k u83 1).bind fun u89 => (laws_heldIntS.f k u89.2 1).bind fun u90 => if u90 < 0 then some false else if (u90 != u89.1) = true then some false else (laws_toPuzzle.f k a0_0 l0_1 l0_2).bind fun u91 => (impl_StepMasks.f k u91.1 u91.2.1 u91.2.2 a1).bind fun u92 => (laws_eqIntS.f k u92 u81).bind fun u93 => if u93 = true then (laws_heldIntS.f k u89.2 1).bind fun u94 => if u94 < 0 then some false else if (u94 != u89.1) = true then some false else some true else some false else some false else some false else some false
set_option maxHeartbeats 8000000 in
set_option maxRecDepth 100000 in
theorem laws_FnExactStepMasks.calls (k : Nat) (a0_0 : Int) (A0_1 : Option Addr) (c0_1 : Nat) (l0_1 : List Int) (A0_2 : Option Addr) (c0_2 : Nat) (l0_2 : List S65) (a1 : Int) (_r : Bool) (w : World) (hr0_1 : Kd.C (Kd.int .i64) w A0_1 l0_1.length l0_1) (hc0_1 : l0_1.length ≤ c0_1) (hr0_2 : Kd.C k65 w A0_2 l0_2.length l0_2) (hc0_2 : l0_2.length ≤ c0_2) (h : laws_FnExactStepMasks.f k a0_0 l0_1 l0_2 a1 = some true) :
  Calls Try.prog 8 #[.agg #[.int .i64 a0_0, .slice A0_1 l0_1.length c0_1, .slice A0_2 l0_2.length c0_2], .int .i64 a1] w fun e w' => e = .returned (.bool true) ∧ Below w.heap.size w w' := by
 have HR0_1 := yam hr0_1
 have HC0_1 := yam hc0_1
 clear hr0_1 hc0_1
 have HR0_2 := yam hr0_2
 have HC0_2 := yam hc0_2
 clear hr0_2 hc0_2
 have HB := yam (Below.refl w.heap.size w)
 unfold laws_FnExactStepMasks.f at h
 replace h := Option.bind_eq_some_iff.1 h
 obtain ⟨t3, e_, h⟩ := h
 try dsimp only at h
 have E2 := yam e_
 clear e_
 by_cases q1 : t3 < 0
 ·clear h
  have b1 := decide_eq_true q1
  clear q1
  go_enter Try.func8, Try.ntmps8
  go_wp2_with (first
   | (refine ybe 2 #[.int .i64 a0_0, .slice A0_1 l0_1.length c0_1, .slice A0_2 l0_2.length c0_2] 25 ?_; intro g1 hg w1_ hbox hb; have Bg1 := yam hbox; have Gg1 := yam (show w.heap.size ≤ g1 ∧ g1 < w1_.heap.size from ⟨Nat.le_of_eq hg.symm, blk_lt hbox⟩); have Zw1_ := yam hb.size; replace HB := yam (below_step HB.out hb); obtain ⟨hzg1_0, hzg1_1, hzg1_2, -⟩ := ybc Bg1.out; clear hb hbox hg)
   | (refine goesL_ (some 15) rfl rfl Try.func9 (by kernel_rfl) rfl #[.agg #[.int .i64 a0_0, .slice A0_1 l0_1.length c0_1, .slice A0_2 l0_2.length c0_2], .int .i64 1048576] rfl yma ?_; (with_reducible refine (laws_szPuzzle.calls k a0_0 _ _ l0_1 _ _ l0_2 1048576 t3 _ (Kd.C_below HR0_1.out HB.out) HC0_1.out (Kd.C_below HR0_2.out HB.out) HC0_2.out E2.out).mono ?_); rintro e w2_ ⟨rfl, hb⟩; refine ⟨_, rfl, ?_⟩; clear Bg1; have Zw2_ := yam hb.size; replace HB := yam (below_step HB.out hb); clear hb; clear hzg1_0; clear hzg1_1; clear hzg1_2; skip))
  go_ret
  exact ⟨rfl, HB.out⟩
 rw [if_neg q1] at h
 have b1 := decide_eq_false q1
 clear q1
 replace h := Option.bind_eq_some_iff.1 h
 obtain ⟨⟨t5, t6, t10⟩, e_, h⟩ := h
 try dsimp only at h
 have E4 := yam e_
 clear e_
 replace h := Option.bind_eq_some_iff.1 h
 obtain ⟨t15, e_, h⟩ := h
 try dsimp only at h
 have E14 := yam e_
 clear e_
 replace h := Option.bind_eq_some_iff.1 h
 obtain ⟨⟨t20, t21, t25⟩, e_, h⟩ := h
 try dsimp only at h
 have E19 := yam e_
 clear e_
 replace h := Option.bind_eq_some_iff.1 h
 obtain ⟨t31, e_, h⟩ := h
 try dsimp only at h
 have E30 := yam e_
 clear e_
 replace h := Option.bind_eq_some_iff.1 h
 obtain ⟨t36, e_, h⟩ := h
 try dsimp only at h
 have E35 := yam e_
 clear e_
 by_cases q2 : t36 = true
 rotate_left
 ·rw [if_neg q2] at h
  exact absurd h (by decide)
 rw [if_pos q2] at h
 subst q2
 replace h := Option.bind_eq_some_iff.1 h
 obtain ⟨⟨t38, t39, t43⟩, e_, h⟩ := h
 try dsimp only at h
 have E37 := yam e_
 clear e_
 replace h := Option.bind_eq_some_iff.1 h
 obtain ⟨t48, e_, h⟩ := h
 try dsimp only at h
 have E47 := yam e_
 clear e_
 by_cases q3 : t48 = true
 rotate_left
 ·rw [if_neg q3] at h
  exact absurd h (by decide)
 rw [if_pos q3] at h
 subst q3
 replace h := Option.bind_eq_some_iff.1 h
 obtain ⟨⟨t50, t51, t52⟩, e_, h⟩ := h
 try dsimp only at h
 have E49 := yam e_
 clear e_
 by_cases q4 : t50 < 0
 ·rw [if_pos q4] at h
  exact absurd h (by decide)
 rw [if_neg q4] at h
 have b4 := decide_eq_false q4
 clear q4
 replace h := Option.bind_eq_some_iff.1 h
 obtain ⟨t54, e_, h⟩ := h
 try dsimp only at h
 have E53 := yam e_
 clear e_
 by_cases q5 : t54 = true
 rotate_left
 ·rw [if_neg q5] at h
  exact absurd h (by decide)
 rw [if_pos q5] at h
 subst q5
 replace h := Option.bind_eq_some_iff.1 h
 obtain ⟨⟨t56, t57⟩, e_, h⟩ := h
 try dsimp only at h
 have E55 := yam e_
 clear e_
 replace h := Option.bind_eq_some_iff.1 h
 obtain ⟨t59, e_, h⟩ := h
 try dsimp only at h
 have E58 := yam e_
 clear e_
 by_cases q6 : t59 < 0
 ·rw [if_pos q6] at h
  exact absurd h (by decide)
 rw [if_neg q6] at h
 have b6 := decide_eq_false q6
 clear q6
 by_cases q7 : (t59 != t56) = true
 ·rw [if_pos q7] at h
  exact absurd h (by decide)
 rw [if_neg q7] at h
 have b7 : (t59 != t56) = false := by simpa using q7
 have bb7 : t59 = t56 := by simpa using q7
 clear q7
 have bc7 := yam bb7
 clear bb7
 replace h := Option.bind_eq_some_iff.1 h
 obtain ⟨⟨t61, t62, t66⟩, e_, h⟩ := h
 try dsimp only at h
 have E60 := yam e_
 clear e_
 replace h := Option.bind_eq_some_iff.1 h
 obtain ⟨t71, e_, h⟩ := h
 try dsimp only at h
 have E70 := yam e_
 clear e_
 replace h := Option.bind_eq_some_iff.1 h
 obtain ⟨t76, e_, h⟩ := h
 try dsimp only at h
 have E75 := yam e_
 clear e_
 by_cases q8 : t76 = true
 rotate_left
 ·rw [if_neg q8] at h
  exact absurd h (by decide)
 rw [if_pos q8] at h
 subst q8
 replace h := Option.bind_eq_some_iff.1 h
 obtain ⟨t78, e_, h⟩ := h
 try dsimp only at h
 have E77 := yam e_
 clear e_
 by_cases q9 : t78 < 0
 ·rw [if_pos q9] at h
  exact absurd h (by decide)
 rw [if_neg q9] at h
 have b9 := decide_eq_false q9
 clear q9
 by_cases q10 : (t78 != t56) = true
 ·rw [if_pos q10] at h
  exact absurd h (by decide)
 rw [if_neg q10] at h
 have b10 : (t78 != t56) = false := by simpa using q10
 have bb10 : t78 = t56 := by simpa using q10
 clear q10
 have bc10 := yam bb10
 clear bb10
 clear h
 go_enter Try.func8, Try.ntmps8
 go_wp2_with (first
  | (refine ybe 2 #[.int .i64 a0_0, .slice A0_1 l0_1.length c0_1, .slice A0_2 l0_2.length c0_2] 25 ?_; intro g1 hg w1_ hbox hb; have Bg1 := yam hbox; have Gg1 := yam (show w.heap.size ≤ g1 ∧ g1 < w1_.heap.size from ⟨Nat.le_of_eq hg.symm, blk_lt hbox⟩); have Zw1_ := yam hb.size; replace HB := yam (below_step HB.out hb); obtain ⟨hzg1_0, hzg1_1, hzg1_2, -⟩ := ybc Bg1.out; clear hb hbox hg)
  | (refine goesL_ (some 15) rfl rfl Try.func9 (by kernel_rfl) rfl #[.agg #[.int .i64 a0_0, .slice A0_1 l0_1.length c0_1, .slice A0_2 l0_2.length c0_2], .int .i64 1048576] rfl yma ?_; (with_reducible refine (laws_szPuzzle.calls k a0_0 _ _ l0_1 _ _ l0_2 1048576 t3 _ (Kd.C_below HR0_1.out HB.out) HC0_1.out (Kd.C_below HR0_2.out HB.out) HC0_2.out E2.out).mono ?_); rintro e w2_ ⟨rfl, hb⟩; refine ⟨_, rfl, ?_⟩; replace Bg1 := yam (blk_below Bg1.out hb); have Zw2_ := yam hb.size; replace HB := yam (below_step HB.out hb); clear hb; clear hzg1_0; clear hzg1_1; clear hzg1_2; obtain ⟨hzg1_0, hzg1_1, hzg1_2, -⟩ := ybc Bg1.out; skip)
  | (refine goesL_ (some 19) rfl rfl Try.func11 (by kernel_rfl) rfl #[.agg #[.int .i64 a0_0, .slice A0_1 l0_1.length c0_1, .slice A0_2 l0_2.length c0_2]] rfl yma ?_; (with_reducible refine (laws_toPuzzle.calls k a0_0 _ _ l0_1 _ _ l0_2 t5 t6 t10 _ (Kd.C_below HR0_1.out HB.out) HC0_1.out (Kd.C_below HR0_2.out HB.out) HC0_2.out E4.out).mono ?_); rintro e w3_ ⟨v0_, v1_, rfl, ho0_, ho1_, hb⟩; refine ⟨_, rfl, ?_⟩; replace Bg1 := yam (blk_below Bg1.out hb); have O7 := yam (Kd.R_born ho0_ (below_size HB.out)); obtain ⟨A8, c9, e_⟩ := Kd.R_slice O7.out; subst e_; have O11 := yam (Kd.S_born ho1_ (below_size HB.out)); obtain ⟨A12, c13, e_⟩ := Kd.S_slice O11.out; subst e_; have Zw3_ := yam hb.size; replace HB := yam (below_step HB.out hb); clear hb ho0_ ho1_; clear hzg1_0; clear hzg1_1; clear hzg1_2; obtain ⟨hzg1_0, hzg1_1, hzg1_2, -⟩ := ybc Bg1.out; skip)
  | (refine goesL_ (some 21) rfl rfl Try.func30 (by kernel_rfl) rfl #[.agg #[.int .i64 t5, .slice A8 t6.length c9, .slice A12 t10.length c13], .int .i64 a1] rfl yma ?_; (with_reducible refine (spec_StepMasks.calls k t5 _ _ t6 _ _ t10 a1 t15 _ (Kd.R_reads' O7.out).2.2 (Kd.R_reads' O7.out).2.1 (Kd.R_reads' (Kd.S_R O11.out)).2.2 (Kd.R_reads' (Kd.S_R O11.out)).2.1 E14.out).mono ?_); rintro e w4_ ⟨v0_, rfl, ho0_, hb⟩; refine ⟨_, rfl, ?_⟩; replace Bg1 := yam (blk_below Bg1.out hb); clear O7; clear O11; have O16 := yam (Kd.R_born ho0_ (below_size HB.out)); obtain ⟨A17, c18, e_⟩ := Kd.R_slice O16.out; subst e_; have Zw4_ := yam hb.size; replace HB := yam (below_step HB.out hb); clear hb ho0_; clear hzg1_0; clear hzg1_1; clear hzg1_2; obtain ⟨hzg1_0, hzg1_1, hzg1_2, -⟩ := ybc Bg1.out; skip)
  | (refine goesL_ (some 23) rfl rfl Try.func11 (by kernel_rfl) rfl #[.agg #[.int .i64 a0_0, .slice A0_1 l0_1.length c0_1, .slice A0_2 l0_2.length c0_2]] rfl yma ?_; (with_reducible refine (laws_toPuzzle.calls k a0_0 _ _ l0_1 _ _ l0_2 t20 t21 t25 _ (Kd.C_below HR0_1.out HB.out) HC0_1.out (Kd.C_below HR0_2.out HB.out) HC0_2.out E19.out).mono ?_); rintro e w5_ ⟨v0_, v1_, rfl, ho0_, ho1_, hb⟩; refine ⟨_, rfl, ?_⟩; replace O16 := yam (Kd.R_below O16.out hb); replace Bg1 := yam (blk_below Bg1.out hb); have O22 := yam (Kd.R_born ho0_ (below_size HB.out)); obtain ⟨A23, c24, e_⟩ := Kd.R_slice O22.out; subst e_; have O26 := yam (Kd.S_born ho1_ (below_size HB.out)); obtain ⟨A27, c28, e_⟩ := Kd.S_slice O26.out; subst e_; have Zw5_ := yam hb.size; replace HB := yam (below_step HB.out hb); clear hb ho0_ ho1_; clear hzg1_0; clear hzg1_1; clear hzg1_2; skip)
  | (refine ybe 7 #[.int .i64 0, .slice none 0 0, .slice none 0 0] 30 ?_; intro g29 hg w6_ hbox hb; replace O16 := yam (Kd.R_below O16.out hb); replace O22 := yam (Kd.R_below O22.out hb); replace O26 := yam (Kd.S_below O26.out hb); replace Bg1 := yam (blk_below Bg1.out hb); have Bg29 := yam hbox; have Gg29 := yam (show w5_.heap.size ≤ g29 ∧ g29 < w6_.heap.size from ⟨Nat.le_of_eq hg.symm, blk_lt hbox⟩); have Zw6_ := yam hb.size; have Lg29 := yam (show w.heap.size ≤ g29 from Nat.le_trans (below_size HB.out) (Nat.le_of_eq hg.symm)); replace HB := yam (below_step HB.out hb); obtain ⟨hzg29_0, hzg29_1, hzg29_2, -⟩ := ybc Bg29.out; have hzfg29_0 := blk_frozen Bg29.out 0; have hzfg29_1 := blk_frozen Bg29.out 1; have hzfg29_2 := blk_frozen Bg29.out 2; clear hb hbox hg)
  | ((with_reducible refine gate_store (t := 30) (p := 7) rfl ?_); refine store_event (t := 30) (p := 7) (v := ?vog29) (w1 := ((w6_.setCell ⟨g29, 0, none⟩ (.int .i64 t20)).setCell ⟨g29, 1, none⟩ (.slice A23 t21.length c24)).setCell ⟨g29, 2, none⟩ (.slice A27 t25.length c28)) ?hg ?ho ?hn ?hr ?_; (case ho => rfl); (case hg => rfl); (case hn => rfl); (case hr => first | (go_simp; done) | (go_simp; rfl)); intro w7_ hw; have hk : Kept w6_ w7_ (fun k_ => k_ = g29) := (by rw [hw]; exact box3_kept _ _ _ _ _); have hx : w7_.heap[g29]? = some (.cells #[.int .i64 t20, .slice A23 t21.length c24, .slice A27 t25.length c28] 30 (0, 0)) := (by rw [hw]; exact box3_blk Bg29.out _ _ _); have hb : Below w.heap.size w w7_ := (by rw [hw]; exact box3_below HB.out Lg29.out _ _ _); clear hw; replace O16 := yam (Kd.R_kept O16.out hk (fun k_ h_ s_ => by have hx_ := Gg29.out; have hy_ := h_.1; have hz_ := s_; have := Zw1_.out; have := Zw2_.out; have := Zw3_.out; have := Zw4_.out; have := Zw5_.out; have := Zw6_.out; omega)); replace O22 := yam (Kd.R_kept O22.out hk (fun k_ h_ s_ => by have hx_ := Gg29.out; have hy_ := h_.1; have hz_ := s_; have := Zw1_.out; have := Zw2_.out; have := Zw3_.out; have := Zw4_.out; have := Zw5_.out; have := Zw6_.out; omega)); replace O26 := yam (Kd.S_kept O26.out hk (fun k_ h_ s_ => by have hx_ := Gg29.out; have hy_ := h_.1; have hz_ := s_; have := Zw1_.out; have := Zw2_.out; have := Zw3_.out; have := Zw4_.out; have := Zw5_.out; have := Zw6_.out; omega)); replace Bg1 := yam (blk_kept Bg1.out hk (fun s_ => by have hx_ := Gg29.out; have hy_ := Gg1.out; have hz_ := s_; have := Zw1_.out; have := Zw2_.out; have := Zw3_.out; have := Zw4_.out; have := Zw5_.out; have := Zw6_.out; omega)); replace Bg29 := yam hx; have Zw7_ := yam hk.1; replace HB := yam hb; clear hzfg29_0; clear hzfg29_1; clear hzfg29_2; clear hzg29_0; clear hzg29_1; clear hzg29_2; obtain ⟨hzg29_0, hzg29_1, hzg29_2, -⟩ := ybc Bg29.out; clear hk hx hb)
  | (refine goesL_ (some 26) rfl rfl Try.func31 (by kernel_rfl) rfl #[.agg #[.int .i64 t20, .slice A23 t21.length c24, .slice A27 t25.length c28], .int .i64 a1] rfl yma ?_; (with_reducible refine (impl_StepMasks.calls k t20 _ _ t21 _ _ t25 a1 t31 _ (Kd.R_reads' O22.out).2.2 (Kd.R_reads' O22.out).2.1 (Kd.R_reads' (Kd.S_R O26.out)).2.2 (Kd.R_reads' (Kd.S_R O26.out)).2.1 E30.out).mono ?_); rintro e w8_ ⟨v0_, rfl, ho0_, hb⟩; refine ⟨_, rfl, ?_⟩; replace O16 := yam (Kd.R_below O16.out hb); replace O22 := yam (Kd.R_below O22.out hb); replace O26 := yam (Kd.S_below O26.out hb); replace Bg1 := yam (blk_below Bg1.out hb); replace Bg29 := yam (blk_below Bg29.out hb); have O32 := yam (Kd.R_born ho0_ (below_size HB.out)); obtain ⟨A33, c34, e_⟩ := Kd.R_slice O32.out; subst e_; have Zw8_ := yam hb.size; replace HB := yam (below_step HB.out hb); clear hb ho0_; clear hzg29_0; clear hzg29_1; clear hzg29_2; skip)
  | (refine goesL_ (some 29) rfl rfl Try.func13 (by kernel_rfl) rfl #[.slice A33 t31.length c34, .slice A17 t15.length c18] rfl yma ?_; (with_reducible refine (laws_eqIntS.calls k _ _ t31 _ _ t15 true _ (Kd.R_reads' O32.out).2.2 (Kd.R_reads' O32.out).2.1 (Kd.R_reads' O16.out).2.2 (Kd.R_reads' O16.out).2.1 E35.out).mono ?_); rintro e w9_ ⟨rfl, hd⟩; refine ⟨_, rfl, ?_⟩; have hb := hd.below; clear hd; replace O16 := yam (Kd.R_below O16.out hb); replace O22 := yam (Kd.R_below O22.out hb); replace O26 := yam (Kd.S_below O26.out hb); replace O32 := yam (Kd.R_below O32.out hb); replace Bg1 := yam (blk_below Bg1.out hb); replace Bg29 := yam (blk_below Bg29.out hb); have Zw9_ := yam hb.size; replace HB := yam (below_step HB.out hb); clear hb; skip))
 refine start_ (n := 5) (S := fun w' => w'.cell? ⟨g29, 0, none⟩ = some (.int .i64 t20) ∧ w'.cell? ⟨g29, 1, none⟩ = some (.slice A23 t21.length c24) ∧ w'.cell? ⟨g29, 2, none⟩ = some (.slice A27 t25.length c28) ∧ w'.cell? ⟨g1, 0, none⟩ = some (.int .i64 a0_0) ∧ w'.cell? ⟨g1, 1, none⟩ = some (.slice A0_1 l0_1.length c0_1) ∧ w'.cell? ⟨g1, 2, none⟩ = some (.slice A0_2 l0_2.length c0_2)) (ds := []) #[false, false, false, false, false] (by kernel_rfl) rfl rfl ⟨(blk_cell Bg29.out 0).trans rfl, (blk_cell Bg29.out 1).trans rfl, (blk_cell Bg29.out 2).trans rfl, (blk_cell Bg1.out 0).trans rfl, (blk_cell Bg1.out 1).trans rfl, (blk_cell Bg1.out 2).trans rfl⟩ (fun hHeld => ?_)
 replace O16 := yam (Kd.R_drew O16.out)
 replace O22 := yam (Kd.R_drew O22.out)
 replace O26 := yam (Kd.S_drew O26.out)
 replace O32 := yam (Kd.R_drew O32.out)
 have HB_ := yam (show Below w.heap.size w w9_.drew from below_drew HB.out)
 have hdz_ := yam (show w9_.heap.size ≤ w9_.drew.heap.size from Nat.le_refl _)
 clear HB
 have HB := HB_
 clear HB_
 have n_ := yam (show w9_.drew.heap[g1]? = _ from Bg1.out)
 clear Bg1
 have Bg1 := n_
 clear n_
 have n_ := yam (show w9_.drew.heap[g29]? = _ from Bg29.out)
 clear Bg29
 have Bg29 := n_
 clear n_
 generalize w9_.drew = w10_ at hHeld HB hdz_ O16 O22 O26 O32 Bg1 Bg29 ⊢
 have Zw10_ := hdz_
 clear hdz_
 refine take_ (i := 0) (N := some 31) (v := ?_) (a' := ?_) #[true, false, false, false, false] rfl rfl (by kernel_rfl) (fun _ _ _ h => h) (Or.inl ⟨by rfl, ?_⟩) hHeld ?_ ?_
 rotate_left
 ·rintro w' ⟨s0, s1, s2, s3, s4, s5⟩
  go_simp
  with_reducible rfl
 rotate_left
 ·simp only [Act.put, yps, i64_w, i32_w]
  rfl
 refine take_ (i := 1) (N := some 32) (v := ?_) (a' := ?_) #[true, true, false, false, false] rfl rfl (by kernel_rfl) (fun _ _ _ h => h) (Or.inl ⟨by rfl, ?_⟩) hHeld ?_ ?_
 rotate_left
 ·rintro w' ⟨s0, s1, s2, s3, s4, s5⟩
  go_simp
  with_reducible rfl
 rotate_left
 ·simp only [Act.put, yps, i64_w, i32_w]
  rfl
 refine one_ (i := 2) (N := some 33) #[true, true, true, false, false] rfl rfl (by kernel_rfl) (by decide) (fun K hK => ?_)
 refine goes_ Try.func11 (by kernel_rfl) rfl #[.agg #[.int .i64 a0_0, .slice A0_1 l0_1.length c0_1, .slice A0_2 l0_2.length c0_2]] (by rfl) rfl rfl yma ?_
 with_reducible refine (laws_toPuzzle.calls k a0_0 _ _ l0_1 _ _ l0_2 t38 t39 t43 _ (Kd.C_below HR0_1.out HB.out) HC0_1.out (Kd.C_below HR0_2.out HB.out) HC0_2.out E37.out).mono ?_
 rintro e w11_ ⟨v0_, v1_, rfl, ho0_, ho1_, hb⟩
 refine ⟨_, rfl, ?_⟩
 replace O16 := yam (Kd.R_below O16.out hb)
 replace O22 := yam (Kd.R_below O22.out hb)
 replace O26 := yam (Kd.S_below O26.out hb)
 replace O32 := yam (Kd.R_below O32.out hb)
 replace Bg1 := yam (blk_below Bg1.out hb)
 replace Bg29 := yam (blk_below Bg29.out hb)
 have O40 := yam (Kd.R_born ho0_ (below_size HB.out))
 obtain ⟨A41, c42, e_⟩ := Kd.R_slice O40.out
 subst e_
 have O44 := yam (Kd.S_born ho1_ (below_size HB.out))
 obtain ⟨A45, c46, e_⟩ := Kd.S_slice O44.out
 subst e_
 have Zw11_ := yam hb.size
 replace HB := yam (below_step HB.out hb)
 clear hb ho0_ ho1_
 refine hK.out _ _ ⟨(blk_cell Bg29.out 0).trans rfl, (blk_cell Bg29.out 1).trans rfl, (blk_cell Bg29.out 2).trans rfl, (blk_cell Bg1.out 0).trans rfl, (blk_cell Bg1.out 1).trans rfl, (blk_cell Bg1.out 2).trans rfl⟩ (fun hHeld => ?_)
 clear hK K
 refine norm_ (a' := ?_) ?_ ?_
 rotate_left
 ·show Act.put _ (some 33) _ = _
  simp only [Act.put, yps, i64_w, i32_w]
  rfl
 refine one_ (i := 3) (N := some 34) #[true, true, true, true, false] rfl rfl (by kernel_rfl) (by decide) (fun K hK => ?_)
 refine goes_ Try.func14 (by kernel_rfl) rfl #[.agg #[.int .i64 t20, .slice A23 t21.length c24, .slice A27 t25.length c28], .agg #[.int .i64 t38, .slice A41 t39.length c42, .slice A45 t43.length c46]] (by rfl) rfl rfl yma ?_
 with_reducible refine (laws_eqPuzzle.calls k t20 _ _ t21 _ _ t25 t38 _ _ t39 _ _ t43 true _ (Kd.R_reads' O22.out).2.2 (Kd.R_reads' O22.out).2.1 (Kd.R_reads' (Kd.S_R O26.out)).2.2 (Kd.R_reads' (Kd.S_R O26.out)).2.1 (Kd.R_reads' O40.out).2.2 (Kd.R_reads' O40.out).2.1 (Kd.R_reads' (Kd.S_R O44.out)).2.2 (Kd.R_reads' (Kd.S_R O44.out)).2.1 E47.out).mono ?_
 rintro e w12_ ⟨rfl, hb⟩
 refine ⟨_, rfl, ?_⟩
 replace O16 := yam (Kd.R_below O16.out hb)
 replace O22 := yam (Kd.R_below O22.out hb)
 replace O26 := yam (Kd.S_below O26.out hb)
 replace O32 := yam (Kd.R_below O32.out hb)
 replace Bg1 := yam (blk_below Bg1.out hb)
 replace Bg29 := yam (blk_below Bg29.out hb)
 clear O40
 clear O44
 have Zw12_ := yam hb.size
 replace HB := yam (below_step HB.out hb)
 clear hb
 refine hK.out _ _ ⟨(blk_cell Bg29.out 0).trans rfl, (blk_cell Bg29.out 1).trans rfl, (blk_cell Bg29.out 2).trans rfl, (blk_cell Bg1.out 0).trans rfl, (blk_cell Bg1.out 1).trans rfl, (blk_cell Bg1.out 2).trans rfl⟩ (fun hHeld => ?_)
 clear hK K
 refine norm_ (a' := ?_) ?_ ?_
 rotate_left
 ·show Act.put _ (some 34) _ = _
  simp only [Act.put, yps, i64_w, i32_w]
  rfl
 refine pure_ (i := 4) (N := some 35) (v := ?_) (a' := ?_) #[true, true, true, true, true] rfl rfl (by kernel_rfl) (fun _ _ _ h => h) (Or.inl ⟨by rfl, ?_⟩) ?_ ?_
 rotate_left
 ·intro w'
  go_simp
  with_reducible rfl
 rotate_left
 ·simp only [Act.put, yps, i64_w, i32_w]
  rfl
 refine done_ (by kernel_rfl) ?_
 obtain ⟨hzg1_0, hzg1_1, hzg1_2, -⟩ := ybc Bg1.out
 obtain ⟨hzg29_0, hzg29_1, hzg29_2, -⟩ := ybc Bg29.out
 go_wp2_with (first
  | (refine goesL_ (some 38) rfl rfl Try.func15 (by kernel_rfl) rfl #[.agg #[.int .i64 t20, .slice A23 t21.length c24, .slice A27 t25.length c28], .int .i64 1] rfl yma ?_; (with_reducible refine (laws_markPuzzle.calls k t20 _ _ _ _ t21 _ _ t25 1 t50 t51 t52 w w12_ HB.out apart_own (Kd.R_tight rfl O22.out) O26.out E49.out).mono ?_); rintro e w13_ ⟨rfl, hm0_, hm1_, hb, hk⟩; refine ⟨_, rfl, ?_⟩; replace O16 := yam (Kd.R_kept O16.out hk (fun k_ h_ s_ => s_.elim (fun p_ => by have hx_ := (O22.out.1 _ p_.symm).1; have hy_ := h_.1; have := Zw1_.out; have := Zw2_.out; have := Zw3_.out; have := Zw4_.out; have := Zw5_.out; have := Zw6_.out; have := Zw7_.out; have := Zw8_.out; have := Zw9_.out; have := Zw10_.out; have := Zw11_.out; have := Zw12_.out; omega) (fun q_ => by have hx_ := q_.1; have hy_ := h_.1; have := Zw1_.out; have := Zw2_.out; have := Zw3_.out; have := Zw4_.out; have := Zw5_.out; have := Zw6_.out; have := Zw7_.out; have := Zw8_.out; have := Zw9_.out; have := Zw10_.out; have := Zw11_.out; have := Zw12_.out; omega))); replace O32 := yam (Kd.R_kept O32.out hk (fun k_ h_ s_ => s_.elim (fun p_ => by have hx_ := (O22.out.1 _ p_.symm).1; have hy_ := h_.1; have := Zw1_.out; have := Zw2_.out; have := Zw3_.out; have := Zw4_.out; have := Zw5_.out; have := Zw6_.out; have := Zw7_.out; have := Zw8_.out; have := Zw9_.out; have := Zw10_.out; have := Zw11_.out; have := Zw12_.out; omega) (fun q_ => by have hx_ := q_.1; have hy_ := h_.1; have := Zw1_.out; have := Zw2_.out; have := Zw3_.out; have := Zw4_.out; have := Zw5_.out; have := Zw6_.out; have := Zw7_.out; have := Zw8_.out; have := Zw9_.out; have := Zw10_.out; have := Zw11_.out; have := Zw12_.out; omega))); replace Bg1 := yam (blk_kept Bg1.out hk (fun s_ => s_.elim (fun p_ => by have hx_ := (O22.out.1 _ p_.symm).1; have hy_ := Gg1.out; have := Zw1_.out; have := Zw2_.out; have := Zw3_.out; have := Zw4_.out; have := Zw5_.out; have := Zw6_.out; have := Zw7_.out; have := Zw8_.out; have := Zw9_.out; have := Zw10_.out; have := Zw11_.out; have := Zw12_.out; omega) (fun q_ => by have hx_ := q_.1; have hy_ := Gg1.out; have := Zw1_.out; have := Zw2_.out; have := Zw3_.out; have := Zw4_.out; have := Zw5_.out; have := Zw6_.out; have := Zw7_.out; have := Zw8_.out; have := Zw9_.out; have := Zw10_.out; have := Zw11_.out; have := Zw12_.out; omega))); clear O22; clear O26; clear Bg29; have Zw13_ := yam hk.1; replace HB := yam hb; clear hk hb hm0_ hm1_; clear hzg1_0; clear hzg1_1; clear hzg1_2; clear hzg29_0; clear hzg29_1; clear hzg29_2; obtain ⟨hzg1_0, hzg1_1, hzg1_2, -⟩ := ybc Bg1.out; skip)
  | (go_at_call 13; (with_reducible refine (laws_eqIntS.calls k _ _ t31 _ _ t15 true _ (Kd.R_reads' O32.out).2.2 (Kd.R_reads' O32.out).2.1 (Kd.R_reads' O16.out).2.2 (Kd.R_reads' O16.out).2.1 E53.out).mono ?_); rintro e w14_ ⟨rfl, hd⟩; have hb := hd.below; clear hd; replace O16 := yam (Kd.R_below O16.out hb); replace O32 := yam (Kd.R_below O32.out hb); replace Bg1 := yam (blk_below Bg1.out hb); have Zw14_ := yam hb.size; replace HB := yam (below_step HB.out hb); clear hb; clear hzg1_0; clear hzg1_1; clear hzg1_2; obtain ⟨hzg1_0, hzg1_1, hzg1_2, -⟩ := ybc Bg1.out; skip)
  | (refine goesL_ (some 49) rfl rfl Try.func16 (by kernel_rfl) rfl #[.slice A33 t31.length c34, .int .i64 1] rfl yma ?_; (with_reducible refine (laws_markIntS.calls k _ _ t31 1 t56 t57 w w14_ HB.out (Kd.R_tight rfl O32.out) E55.out).mono ?_); rintro e w15_ ⟨rfl, hm0_, hb, hk⟩; refine ⟨_, rfl, ?_⟩; replace O16 := yam (Kd.R_kept O16.out hk (fun k_ h_ s_ => by have hx_ := (O32.out.1 _ s_.symm).1; have hy_ := h_.1; have := Zw1_.out; have := Zw2_.out; have := Zw3_.out; have := Zw4_.out; have := Zw5_.out; have := Zw6_.out; have := Zw7_.out; have := Zw8_.out; have := Zw9_.out; have := Zw10_.out; have := Zw11_.out; have := Zw12_.out; have := Zw13_.out; have := Zw14_.out; omega)); replace Bg1 := yam (blk_kept Bg1.out hk (fun s_ => by have hx_ := (O32.out.1 _ s_.symm).1; have hy_ := Gg1.out; have := Zw1_.out; have := Zw2_.out; have := Zw3_.out; have := Zw4_.out; have := Zw5_.out; have := Zw6_.out; have := Zw7_.out; have := Zw8_.out; have := Zw9_.out; have := Zw10_.out; have := Zw11_.out; have := Zw12_.out; have := Zw13_.out; have := Zw14_.out; omega)); replace O32 := yam hm0_; have Lt57 := yam (Kd.R_reads' hm0_).1.symm; have Zw15_ := yam hk.1; replace HB := yam hb; clear hk hb hm0_; clear hzg1_0; clear hzg1_1; clear hzg1_2; obtain ⟨hzg1_0, hzg1_1, hzg1_2, -⟩ := ybc Bg1.out; skip)
  | (refine goesL_ (some 52) rfl rfl Try.func17 (by kernel_rfl) rfl #[.slice A33 t57.length c34, .int .i64 1] rfl (by (try simp only [List.map_toArray, List.map_cons, List.map_nil]); first | done | rfl | (rw [Lt57.out]; rfl)) ?_; (with_reducible refine (laws_heldIntS.calls k _ _ t57 1 t59 _ (Kd.R_reads' O32.out).2.2 (by rw [Lt57.out]; exact (Kd.R_reads' O32.out).2.1) E58.out).mono ?_); rintro e w16_ ⟨rfl, hd⟩; refine ⟨_, rfl, ?_⟩; have hb := hd.below; clear hd; replace O16 := yam (Kd.R_below O16.out hb); replace O32 := yam (Kd.R_below O32.out hb); replace Bg1 := yam (blk_below Bg1.out hb); have Zw16_ := yam hb.size; replace HB := yam (below_step HB.out hb); clear hb; clear hzg1_0; clear hzg1_1; clear hzg1_2; obtain ⟨hzg1_0, hzg1_1, hzg1_2, -⟩ := ybc Bg1.out; skip)
  | (refine goesL_ (some 59) rfl rfl Try.func11 (by kernel_rfl) rfl #[.agg #[.int .i64 a0_0, .slice A0_1 l0_1.length c0_1, .slice A0_2 l0_2.length c0_2]] rfl yma ?_; (with_reducible refine (laws_toPuzzle.calls k a0_0 _ _ l0_1 _ _ l0_2 t61 t62 t66 _ (Kd.C_below HR0_1.out HB.out) HC0_1.out (Kd.C_below HR0_2.out HB.out) HC0_2.out E60.out).mono ?_); rintro e w17_ ⟨v0_, v1_, rfl, ho0_, ho1_, hb⟩; refine ⟨_, rfl, ?_⟩; replace O16 := yam (Kd.R_below O16.out hb); replace O32 := yam (Kd.R_below O32.out hb); clear Bg1; have O63 := yam (Kd.R_born ho0_ (below_size HB.out)); obtain ⟨A64, c65, e_⟩ := Kd.R_slice O63.out; subst e_; have O67 := yam (Kd.S_born ho1_ (below_size HB.out)); obtain ⟨A68, c69, e_⟩ := Kd.S_slice O67.out; subst e_; have Zw17_ := yam hb.size; replace HB := yam (below_step HB.out hb); clear hb ho0_ ho1_; clear hzg1_0; clear hzg1_1; clear hzg1_2; skip)
  | (refine goesL_ (some 61) rfl rfl Try.func31 (by kernel_rfl) rfl #[.agg #[.int .i64 t61, .slice A64 t62.length c65, .slice A68 t66.length c69], .int .i64 a1] rfl yma ?_; (with_reducible refine (impl_StepMasks.calls k t61 _ _ t62 _ _ t66 a1 t71 _ (Kd.R_reads' O63.out).2.2 (Kd.R_reads' O63.out).2.1 (Kd.R_reads' (Kd.S_R O67.out)).2.2 (Kd.R_reads' (Kd.S_R O67.out)).2.1 E70.out).mono ?_); rintro e w18_ ⟨v0_, rfl, ho0_, hb⟩; refine ⟨_, rfl, ?_⟩; replace O16 := yam (Kd.R_below O16.out hb); replace O32 := yam (Kd.R_below O32.out hb); clear O63; clear O67; have O72 := yam (Kd.R_born ho0_ (below_size HB.out)); obtain ⟨A73, c74, e_⟩ := Kd.R_slice O72.out; subst e_; have Zw18_ := yam hb.size; replace HB := yam (below_step HB.out hb); clear hb ho0_; skip)
  | (refine goesL_ (some 64) rfl rfl Try.func13 (by kernel_rfl) rfl #[.slice A73 t71.length c74, .slice A17 t15.length c18] rfl yma ?_; (with_reducible refine (laws_eqIntS.calls k _ _ t71 _ _ t15 true _ (Kd.R_reads' O72.out).2.2 (Kd.R_reads' O72.out).2.1 (Kd.R_reads' O16.out).2.2 (Kd.R_reads' O16.out).2.1 E75.out).mono ?_); rintro e w19_ ⟨rfl, hd⟩; refine ⟨_, rfl, ?_⟩; have hb := hd.below; clear hd; replace O32 := yam (Kd.R_below O32.out hb); clear O16; clear O72; have Zw19_ := yam hb.size; replace HB := yam (below_step HB.out hb); clear hb; skip)
  | (refine goesL_ (some 68) rfl rfl Try.func17 (by kernel_rfl) rfl #[.slice A33 t57.length c34, .int .i64 1] rfl (by (try simp only [List.map_toArray, List.map_cons, List.map_nil]); first | done | rfl | (rw [Lt57.out]; rfl)) ?_; (with_reducible refine (laws_heldIntS.calls k _ _ t57 1 t78 _ (Kd.R_reads' O32.out).2.2 (by rw [Lt57.out]; exact (Kd.R_reads' O32.out).2.1) E77.out).mono ?_); rintro e w20_ ⟨rfl, hd⟩; refine ⟨_, rfl, ?_⟩; have hb := hd.below; clear hd; clear O32; have Zw20_ := yam hb.size; replace HB := yam (below_step HB.out hb); clear hb; skip))
 go_ret
 exact ⟨rfl, HB.out⟩
end Go.Proofs.Ytdemlminhkhonaa.P
