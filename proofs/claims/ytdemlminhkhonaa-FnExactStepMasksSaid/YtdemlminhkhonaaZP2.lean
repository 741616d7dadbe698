/- The machine's side: each Go function as a plain Lean function and the proof that the machine's call does what that function says; written by this session's own program over the kit's print. -/
import Derived.Test.YtdemlminhkhonaaZP1
namespace Go.Proofs.Ytdemlminhkhonaa.P
open Go.RowKit Go.Proofs.YtdemlminhkhonaaW.PrintWords Go.Proofs.YtdemlminhkhonaaW.PrintLast Go.Proofs.YtdemlminhkhonaaW.PrintMore
attribute [local go_sem] max2_int min2_int max_two min_two max_three min_three max_four min_four   -- for this text's walks alone
set_option linter.unusedVariables false
set_option linter.unusedSimpArgs false
mutual
def spec_RuleValid.l0 : Nat → Int → Int → Int → List Int → Int → Option (Bool)
 | 0, _, _, _, _, _ => none
 | k + 1, x1, x5, x109000, x109001, x109002 => if x5 < (x109001.length : Int) then (if 0 ≤ x5 then ((spec_l1In.f (rd x109001 x5) 0 (wrap64 ((wrap64 (x1 * x1)) - 1))).bind fun t110 => (if t110 = true then (spec_RuleValid.l1 k x1 x5 0 x109000 x109001 x109002) else (some false))) else (none)) else ((spec_l1In.f x1 2 4).bind fun t113 => (if t113 = true then (spec_RuleValid.j2 k x1 (x109001.length : Int) (decide ((x109001.length : Int) > 4)) x109000 x109001 x109002) else (spec_RuleValid.j2 k x1 (x109001.length : Int) true x109000 x109001 x109002)))
def spec_RuleValid.l1 : Nat → Int → Int → Int → Int → List Int → Int → Option (Bool)
 | 0, _, _, _, _, _, _ => none
 | k + 1, x1, x5, x6, x109000, x109001, x109002 => if x6 < x5 then (if 0 ≤ x6 then (if x6 < (x109001.length : Int) then (if 0 ≤ x5 then (if x5 < (x109001.length : Int) then (if (rd x109001 x6) = (rd x109001 x5) then (some false) else (spec_RuleValid.l1 k x1 x5 (wrap64 (x6 + 1)) x109000 x109001 x109002)) else (none)) else (none)) else (none)) else (none)) else (spec_RuleValid.l0 k x1 (wrap64 (x5 + 1)) x109000 x109001 x109002)
def spec_RuleValid.j2 : Nat → Int → Int → Bool → Int → List Int → Int → Option (Bool)
 | 0, _, _, _, _, _, _ => none
 | k + 1, x1, x7, x51, x109000, x109001, x109002 => if x51 = true then (some false) else (if x109000 = 1 then (if x7 ≥ 2 then (some (x109002 == 0)) else (some false)) else (if x109000 = 2 then (spec_RuleValid.j3 k x1 x7 x109000 (x109000 == 2) x109000 x109001 x109002) else (spec_RuleValid.j3 k x1 x7 x109000 (x109000 == 3) x109000 x109001 x109002)))
def spec_RuleValid.j3 : Nat → Int → Int → Int → Bool → Int → List Int → Int → Option (Bool)
 | 0, _, _, _, _, _, _, _ => none
 | k + 1, x1, x7, x53, x63, x109000, x109001, x109002 => if x63 = true then (if x7 ≥ 1 then ((spec_l1In.f x109002 1 (wrap64 ((wrap64 ((wrap64 (x1 * x1)) * x1)) * x1))).bind fun t114 => (some t114)) else (some false)) else (if x53 = 4 then (if x7 = 2 then (some (x109002 == 0)) else (some false)) else (if x53 = 5 then (if x7 = 2 then ((spec_l1In.f x109002 0 (wrap64 (x1 - 1))).bind fun t115 => (some t115)) else (some false)) else (some false)))
end
def spec_RuleValid.f (k : Nat) (a0_0 : Int) (l0_1 : List Int) (a0_2 : Int) (a1 : Int) : Option (Bool) := spec_RuleValid.l0 k a1 0 a0_0 l0_1 a0_2
set_option maxHeartbeats 8000000 in
set_option maxRecDepth 100000 in
theorem spec_RuleValid.calls (k : Nat) (a0_0 : Int) (A0_1 : Option Addr) (c0_1 : Nat) (l0_1 : List Int) (a0_2 : Int) (a1 : Int) (r : Bool) (w : World) (hr0_1 : Kd.C (Kd.int .i64) w A0_1 l0_1.length l0_1) (hc0_1 : l0_1.length ≤ c0_1) (h : spec_RuleValid.f k a0_0 l0_1 a0_2 a1 = some r) :
  Calls Try.prog 66 #[.agg #[.int .i64 a0_0, .slice A0_1 l0_1.length c0_1, .int .i64 a0_2], .int .i64 a1] w fun e w' => e = .returned (.bool r) ∧ Below w.heap.size w w' := by
 have hu67 := Try.underlying67
 have HR0_1 := yam hr0_1
 have HC0_1 := yam hc0_1
 clear hr0_1 hc0_1
 have HB := yam (Below.refl w.heap.size w)
 have H : (spec_RuleValid.l0 k a1 0 a0_0 l0_1 a0_2) = some r := h
 clear h
 have H' := yam H
 clear H
 go_enter Try.func66, Try.ntmps66
 go_wp2_with (first | (refine ybe 2 #[.int .i64 a0_0, .slice A0_1 l0_1.length c0_1, .int .i64 a0_2] 67 ?_; intro gb108 hg w3 hbox hb; have n0_ := yam (below_step (yez HB.out) hb); have n1_ := yam (hbox); have n2_ := yam ((by rw [hg]; exact (below_size (yez HB.out)) : w.heap.size ≤ gb108)); have n3_ := n2_; clear HB; have HB := n0_; have BK108 := n1_; have GW108 := n2_; have GE108 := n3_; clear n0_ n1_ n2_ n3_; clear hb hbox hg))
 repeat (go_quiet (first | (refine ybe 2 #[.int .i64 a0_0, .slice A0_1 l0_1.length c0_1, .int .i64 a0_2] 67 ?_; intro gb108 hg w3 hbox hb; have n0_ := yam (below_step (yez HB.out) hb); have n1_ := yam (hbox); have n2_ := yam ((by rw [hg]; exact (below_size (yez HB.out)) : w.heap.size ≤ gb108)); have n3_ := n2_; clear HB; have HB := n0_; have BK108 := n1_; have GW108 := n2_; have GE108 := n3_; clear n0_ n1_ n2_ n3_; clear hb hbox hg)); try go_wp2_with (first | (refine ybe 2 #[.int .i64 a0_0, .slice A0_1 l0_1.length c0_1, .int .i64 a0_2] 67 ?_; intro gb108 hg w3 hbox hb; have n0_ := yam (below_step (yez HB.out) hb); have n1_ := yam (hbox); have n2_ := yam ((by rw [hg]; exact (below_size (yez HB.out)) : w.heap.size ≤ gb108)); have n3_ := n2_; clear HB; have HB := n0_; have BK108 := n1_; have GW108 := n2_; have GE108 := n3_; clear n0_ n1_ n2_ n3_; clear hb hbox hg)))
 go_loopg [5] k (fun kq v5 w' => ∃ (x5_1 : Int), v5 = .int .i64 x5_1 ∧ Aside0 (spec_RuleValid.l0 kq a1 x5_1 a0_0 l0_1 a0_2 = some r) ∧ Aside0 (kq ≤ k) ∧ Aside0 (w'.heap[gb108]? = some (.cells #[.int .i64 a0_0, (.slice A0_1 l0_1.length c0_1), .int .i64 a0_2] 67 (0, 0))) ∧ Aside0 (Below w.heap.size w w'))
 case atStart => exact ⟨(0), yeq, H', ⟨Nat.le_refl _⟩, ⟨by (with_reducible repeat (first | refine ybn ?_ _ | refine ybd ?_ | refine yba ?_ _)); exact BK108.out⟩, ⟨yhb⟩⟩
 case round =>
  clear H'
  try clear p2
  obtain ⟨x5_1, rfl, HA, HK1, BK108, HB⟩ := hrel
  cases gk with
  | zero => exact absurd HA.out (by simp [spec_RuleValid.l0])
  | succ k1 =>
   have H := HA.out
   clear HA
   simp only [spec_RuleValid.l0] at H
   by_cases c4 : x5_1 < (l0_1.length : Int)
   ·rw [if_pos c4] at H
    have c4b0 : decide (x5_1 < (l0_1.length : Int)) = true := decide_eq_true c4
    clear c4
    replace H := yif H
    obtain ⟨c5b0, H⟩ := H
    replace H := Option.bind_eq_some_iff.mp H
    obtain ⟨t110, A60, H⟩ := H
    try dsimp only at H
    have A6 := yam A60
    clear A60
    by_cases c7 : t110 = true
    rotate_left
    ·replace c7 := Bool.eq_false_iff.mpr c7
     subst c7
     have H1 : (some false) = some r := by rw [if_neg (show ¬ (false = true) by decide)] at H; exact H
     clear H
     have H := H1
     clear H1
     obtain rfl := Option.some.inj H
     obtain ⟨hcz17_0, hcz17_1, hcz17_2, hfz17_0, hfz17_1, hfz17_2⟩ := ybc BK108.out
     have p109 : 0 ≤ (x5_1 : Int) := ydt
     have q109 : x5_1 < (l0_1.length : Int) := ydt
     obtain ⟨ad109, e109, hx109_0⟩ := Kd.at_int HR0_1.out x5_1 p109 q109
     cases e109
     replace hx109_0 := ybx HB.out hx109_0
     replace p109 := eq_true p109
     replace q109 := eq_true q109
     have hwq0_ : IntKind.i64.wrap (a1 * a1) = wrap64 (a1 * a1) := i64_w _
     have hwq1_ : IntKind.i64.wrap ((wrap64 (a1 * a1)) - 1) = wrap64 ((wrap64 (a1 * a1)) - 1) := i64_w _
     go_wp2_with (first | (go_at_call 39; (with_reducible refine (spec_l1In.calls (rd l0_1 x5_1) 0 (wrap64 ((wrap64 (a1 * a1)) - 1)) false _ A6.out).mono ?_); rintro e w' ⟨rfl, ⟨nd, rfl⟩⟩; (try first | exact ⟨rfl, _, World.drewN_drewN _ _ _⟩ | exact ⟨rfl, _, Eq.trans (World.drewN_drewN _ _ _) (congrArg (World.drewN _) (Nat.add_assoc _ _ _))⟩)))
     repeat (go_quiet (first | (go_at_call 39; (with_reducible refine (spec_l1In.calls (rd l0_1 x5_1) 0 (wrap64 ((wrap64 (a1 * a1)) - 1)) false _ A6.out).mono ?_); rintro e w' ⟨rfl, ⟨nd, rfl⟩⟩; (try first | exact ⟨rfl, _, World.drewN_drewN _ _ _⟩ | exact ⟨rfl, _, Eq.trans (World.drewN_drewN _ _ _) (congrArg (World.drewN _) (Nat.add_assoc _ _ _))⟩))); try go_wp2_with (first | (go_at_call 39; (with_reducible refine (spec_l1In.calls (rd l0_1 x5_1) 0 (wrap64 ((wrap64 (a1 * a1)) - 1)) false _ A6.out).mono ?_); rintro e w' ⟨rfl, ⟨nd, rfl⟩⟩; (try first | exact ⟨rfl, _, World.drewN_drewN _ _ _⟩ | exact ⟨rfl, _, Eq.trans (World.drewN_drewN _ _ _) (congrArg (World.drewN _) (Nat.add_assoc _ _ _))⟩))))
     go_ret
     exact ⟨yer, yhb⟩
    subst c7
    have H1 : (spec_RuleValid.l1 k1 a1 x5_1 0 a0_0 l0_1 a0_2) = some r := by rw [if_pos rfl] at H; exact H
    clear H
    have H := H1
    clear H1
    have H' := yam H
    clear H
    obtain ⟨hcz8_0, hcz8_1, hcz8_2, hfz8_0, hfz8_1, hfz8_2⟩ := ybc BK108.out
    have p109 : 0 ≤ (x5_1 : Int) := ydt
    have q109 : x5_1 < (l0_1.length : Int) := ydt
    obtain ⟨ad109, e109, hx109_0⟩ := Kd.at_int HR0_1.out x5_1 p109 q109
    cases e109
    replace hx109_0 := ybx HB.out hx109_0
    replace p109 := eq_true p109
    replace q109 := eq_true q109
    have hwq0_ : IntKind.i64.wrap (a1 * a1) = wrap64 (a1 * a1) := i64_w _
    have hwq1_ : IntKind.i64.wrap ((wrap64 (a1 * a1)) - 1) = wrap64 ((wrap64 (a1 * a1)) - 1) := i64_w _
    go_wp2_with (first | (go_at_call 39; (with_reducible refine (spec_l1In.calls (rd l0_1 x5_1) 0 (wrap64 ((wrap64 (a1 * a1)) - 1)) true _ A6.out).mono ?_); rintro e w' ⟨rfl, ⟨nd, rfl⟩⟩; (try first | exact ⟨rfl, _, World.drewN_drewN _ _ _⟩ | exact ⟨rfl, _, Eq.trans (World.drewN_drewN _ _ _) (congrArg (World.drewN _) (Nat.add_assoc _ _ _))⟩)))
    repeat (go_quiet (first | (go_at_call 39; (with_reducible refine (spec_l1In.calls (rd l0_1 x5_1) 0 (wrap64 ((wrap64 (a1 * a1)) - 1)) true _ A6.out).mono ?_); rintro e w' ⟨rfl, ⟨nd, rfl⟩⟩; (try first | exact ⟨rfl, _, World.drewN_drewN _ _ _⟩ | exact ⟨rfl, _, Eq.trans (World.drewN_drewN _ _ _) (congrArg (World.drewN _) (Nat.add_assoc _ _ _))⟩))); try go_wp2_with (first | (go_at_call 39; (with_reducible refine (spec_l1In.calls (rd l0_1 x5_1) 0 (wrap64 ((wrap64 (a1 * a1)) - 1)) true _ A6.out).mono ?_); rintro e w' ⟨rfl, ⟨nd, rfl⟩⟩; (try first | exact ⟨rfl, _, World.drewN_drewN _ _ _⟩ | exact ⟨rfl, _, Eq.trans (World.drewN_drewN _ _ _) (congrArg (World.drewN _) (Nat.add_assoc _ _ _))⟩))))
    go_loopg [6] k1 (fun kq v6 w' => ∃ (x6_2 : Int), v6 = .int .i64 x6_2 ∧ Aside0 (spec_RuleValid.l1 kq a1 x5_1 x6_2 a0_0 l0_1 a0_2 = some r) ∧ Aside0 (kq ≤ k1) ∧ Aside0 (w'.heap[gb108]? = some (.cells #[.int .i64 a0_0, (.slice (some ad109) l0_1.length c0_1), .int .i64 a0_2] 67 (0, 0))) ∧ Aside0 (Below w.heap.size w w'))
    case atStart => exact ⟨(0), yeq, H', ⟨Nat.le_refl _⟩, ⟨by (with_reducible repeat (first | refine ybn ?_ _ | refine ybd ?_ | refine yba ?_ _)); exact BK108.out⟩, ⟨yhb⟩⟩
    case round =>
     clear H'
     try clear p1
     try clear q1
     try clear hx1
     try clear p2
     try clear c4
     try clear c4b0
     try clear c5
     try clear c5b0
     try clear c6
     try clear p6
     try clear c7
     try clear hcz8_0
     try clear hcz8_1
     try clear hcz8_2
     try clear hfz8_0
     try clear hfz8_1
     try clear hfz8_2
     try clear hx109_0
     try clear p109
     try clear p2
     try clear q109
     obtain ⟨x6_2, rfl, HA, HK2, BK108, HB⟩ := hrel
     cases gk with
     | zero => exact absurd HA.out (by simp [spec_RuleValid.l1])
     | succ k2 =>
      have H := HA.out
      clear HA
      simp only [spec_RuleValid.l1] at H
      by_cases c9 : x6_2 < x5_1
      rotate_left
      ·rw [if_neg c9] at H
       have c9b0 : decide (x6_2 < x5_1) = false := decide_eq_false c9
       clear c9
       have H' := yam H
       clear H
       go_wp2
       repeat (go_quiet (fail); try go_wp2)
       go_roundg k2
       case measure => have := HK1.out; have := HK2.out; omega
       case rel => exact ⟨(wrap64 (x5_1 + 1)), yeq, H', ⟨by have := HK1.out; have := HK2.out; omega⟩, ⟨by (with_reducible repeat (first | refine ybn ?_ _ | refine ybd ?_ | refine yba ?_ _)); exact BK108.out⟩, ⟨yhb⟩⟩
      rw [if_pos c9] at H
      have c9b0 : decide (x6_2 < x5_1) = true := decide_eq_true c9
      clear c9
      replace H := yif H
      obtain ⟨c10b0, H⟩ := H
      replace H := yif H
      obtain ⟨c11b0, H⟩ := H
      replace H := yif H
      obtain ⟨c12b0, H⟩ := H
      replace H := yif H
      obtain ⟨c13b0, H⟩ := H
      by_cases c14 : (rd l0_1 x6_2) = (rd l0_1 x5_1)
      ·rw [if_pos c14] at H
       have c14b0 : ((rd l0_1 x6_2) == (rd l0_1 x5_1)) = true := beq_iff_eq.mpr c14
       have c14b1 : ((rd l0_1 x6_2) != (rd l0_1 x5_1)) = false := bne_eq_false_iff_eq.mpr c14
       clear c14
       obtain rfl := Option.some.inj H
       obtain ⟨hcz15_0, hcz15_1, hcz15_2, hfz15_0, hfz15_1, hfz15_2⟩ := ybc BK108.out
       have p111 : 0 ≤ (x6_2 : Int) := ydt
       have q111 : x6_2 < (l0_1.length : Int) := ydt
       obtain ⟨ad111, e111, hx111_0⟩ := Kd.at_int HR0_1.out x6_2 p111 q111
       obtain rfl : ad109 = ad111 := (by injection e111)
       replace hx111_0 := ybx HB.out hx111_0
       replace p111 := eq_true p111
       replace q111 := eq_true q111
       have p112 : 0 ≤ (x5_1 : Int) := ydt
       have q112 : x5_1 < (l0_1.length : Int) := ydt
       obtain ⟨ad112, e112, hx112_0⟩ := Kd.at_int HR0_1.out x5_1 p112 q112
       obtain rfl : ad109 = ad112 := (by injection e112)
       replace hx112_0 := ybx HB.out hx112_0
       replace p112 := eq_true p112
       replace q112 := eq_true q112
       go_wp2
       repeat (go_quiet (fail); try go_wp2)
       go_ret
       exact ⟨yer, yhb⟩
      rw [if_neg c14] at H
      have c14b0 : ((rd l0_1 x6_2) == (rd l0_1 x5_1)) = false := beq_eq_false_iff_ne.mpr c14
      have c14b1 : ((rd l0_1 x6_2) != (rd l0_1 x5_1)) = true := bne_iff_ne.mpr c14
      have H' := yam H
      clear H
      obtain ⟨hcz16_0, hcz16_1, hcz16_2, hfz16_0, hfz16_1, hfz16_2⟩ := ybc BK108.out
      have p111 : 0 ≤ (x6_2 : Int) := ydt
      have q111 : x6_2 < (l0_1.length : Int) := ydt
      obtain ⟨ad111, e111, hx111_0⟩ := Kd.at_int HR0_1.out x6_2 p111 q111
      obtain rfl : ad109 = ad111 := (by injection e111)
      replace hx111_0 := ybx HB.out hx111_0
      replace p111 := eq_true p111
      replace q111 := eq_true q111
      have p112 : 0 ≤ (x5_1 : Int) := ydt
      have q112 : x5_1 < (l0_1.length : Int) := ydt
      obtain ⟨ad112, e112, hx112_0⟩ := Kd.at_int HR0_1.out x5_1 p112 q112
      obtain rfl : ad109 = ad112 := (by injection e112)
      replace hx112_0 := ybx HB.out hx112_0
      replace p112 := eq_true p112
      replace q112 := eq_true q112
      go_wp2
      repeat (go_quiet (fail); try go_wp2)
      go_roundg k2
      case measure => have := HK1.out; have := HK2.out; omega
      case rel => exact ⟨(wrap64 (x6_2 + 1)), yeq, H', ⟨by have := HK1.out; have := HK2.out; omega⟩, ⟨by (with_reducible repeat (first | refine ybn ?_ _ | refine ybd ?_ | refine yba ?_ _)); exact BK108.out⟩, ⟨yhb⟩⟩
   rw [if_neg c4] at H
   have c4b0 : decide (x5_1 < (l0_1.length : Int)) = false := decide_eq_false c4
   clear c4
   have HC18 := yam H
   clear H
   obtain ⟨hcz19_0, hcz19_1, hcz19_2, hfz19_0, hfz19_1, hfz19_2⟩ := ybc BK108.out
   go_upto_region 12 with (fail)
   repeat (go_quiet (fail); go_upto_region 12 with (fail))
   go_cut [51] (fun v51 wc => ∃ (kq : Nat) (x51_17 : Bool), v51 = .bool x51_17 ∧ Aside0 (spec_RuleValid.j2 kq a1 (l0_1.length : Int) x51_17 a0_0 l0_1 a0_2 = some r) ∧ Aside0 (kq ≤ k1) ∧ Aside0 (wc.heap[gb108]? = some (.cells #[.int .i64 a0_0, (.slice A0_1 l0_1.length c0_1), .int .i64 a0_2] 67 (0, 0))) ∧ Aside0 (Below w.heap.size w wc))
   case first =>
    have H := HC18.out
    clear HC18
    replace H := Option.bind_eq_some_iff.mp H
    obtain ⟨t113, A200, H⟩ := H
    try dsimp only at H
    have A20 := yam A200
    clear A200
    by_cases c21 : t113 = true
    ·subst c21
     have H1 : (spec_RuleValid.j2 k1 a1 (l0_1.length : Int) (decide ((l0_1.length : Int) > 4)) a0_0 l0_1 a0_2) = some r := by rw [if_pos rfl] at H; exact H
     clear H
     have H := H1
     clear H1
     have H' := yam H
     clear H
     go_wp2_with (first | (go_at_call 39; (with_reducible refine (spec_l1In.calls a1 2 4 true _ A20.out).mono ?_); rintro e w' ⟨rfl, ⟨nd, rfl⟩⟩; (try first | exact ⟨rfl, _, World.drewN_drewN _ _ _⟩ | exact ⟨rfl, _, Eq.trans (World.drewN_drewN _ _ _) (congrArg (World.drewN _) (Nat.add_assoc _ _ _))⟩)))
     repeat (go_quiet (first | (go_at_call 39; (with_reducible refine (spec_l1In.calls a1 2 4 true _ A20.out).mono ?_); rintro e w' ⟨rfl, ⟨nd, rfl⟩⟩; (try first | exact ⟨rfl, _, World.drewN_drewN _ _ _⟩ | exact ⟨rfl, _, Eq.trans (World.drewN_drewN _ _ _) (congrArg (World.drewN _) (Nat.add_assoc _ _ _))⟩))); try go_wp2_with (first | (go_at_call 39; (with_reducible refine (spec_l1In.calls a1 2 4 true _ A20.out).mono ?_); rintro e w' ⟨rfl, ⟨nd, rfl⟩⟩; (try first | exact ⟨rfl, _, World.drewN_drewN _ _ _⟩ | exact ⟨rfl, _, Eq.trans (World.drewN_drewN _ _ _) (congrArg (World.drewN _) (Nat.add_assoc _ _ _))⟩))))
     go_meet
     case rel => exact ⟨_, (decide ((l0_1.length : Int) > 4)), yeq, H', ⟨by have := HK1.out; first | omega | exact Nat.le_refl _⟩, ⟨by (with_reducible repeat (first | refine ybn ?_ _ | refine ybd ?_ | refine yba ?_ _)); exact BK108.out⟩, ⟨yhb⟩⟩
    replace c21 := Bool.eq_false_iff.mpr c21
    subst c21
    have H1 : (spec_RuleValid.j2 k1 a1 (l0_1.length : Int) true a0_0 l0_1 a0_2) = some r := by rw [if_neg (show ¬ (false = true) by decide)] at H; exact H
    clear H
    have H := H1
    clear H1
    have H' := yam H
    clear H
    go_wp2_with (first | (go_at_call 39; (with_reducible refine (spec_l1In.calls a1 2 4 false _ A20.out).mono ?_); rintro e w' ⟨rfl, ⟨nd, rfl⟩⟩; (try first | exact ⟨rfl, _, World.drewN_drewN _ _ _⟩ | exact ⟨rfl, _, Eq.trans (World.drewN_drewN _ _ _) (congrArg (World.drewN _) (Nat.add_assoc _ _ _))⟩)))
    repeat (go_quiet (first | (go_at_call 39; (with_reducible refine (spec_l1In.calls a1 2 4 false _ A20.out).mono ?_); rintro e w' ⟨rfl, ⟨nd, rfl⟩⟩; (try first | exact ⟨rfl, _, World.drewN_drewN _ _ _⟩ | exact ⟨rfl, _, Eq.trans (World.drewN_drewN _ _ _) (congrArg (World.drewN _) (Nat.add_assoc _ _ _))⟩))); try go_wp2_with (first | (go_at_call 39; (with_reducible refine (spec_l1In.calls a1 2 4 false _ A20.out).mono ?_); rintro e w' ⟨rfl, ⟨nd, rfl⟩⟩; (try first | exact ⟨rfl, _, World.drewN_drewN _ _ _⟩ | exact ⟨rfl, _, Eq.trans (World.drewN_drewN _ _ _) (congrArg (World.drewN _) (Nat.add_assoc _ _ _))⟩))))
    go_meet
    case rel => exact ⟨_, (true), yeq, H', ⟨by have := HK1.out; first | omega | exact Nat.le_refl _⟩, ⟨by (with_reducible repeat (first | refine ybn ?_ _ | refine ybd ?_ | refine yba ?_ _)); exact BK108.out⟩, ⟨yhb⟩⟩
   case rest =>
    clear HC18
    try clear c1
    try clear p1
    try clear q1
    try clear hx1
    try clear c2
    try clear p2
    try clear c4
    try clear c4b0
    try clear c5
    try clear c5b0
    try clear c6
    try clear p6
    try clear c7
    try clear c9
    try clear c9b0
    try clear c10
    try clear c10b0
    try clear p10
    try clear q10
    try clear hx10
    try clear c11
    try clear c11b0
    try clear p11
    try clear q11
    try clear hx11
    try clear c12
    try clear c12b0
    try clear c13
    try clear c13b0
    try clear c14
    try clear c14b0
    try clear c14b1
    try clear c21
    try clear hcz15_0
    try clear hcz15_1
    try clear hcz15_2
    try clear hcz16_0
    try clear hcz16_1
    try clear hcz16_2
    try clear hcz17_0
    try clear hcz17_1
    try clear hcz17_2
    try clear hcz19_0
    try clear hcz19_1
    try clear hcz19_2
    try clear hcz8_0
    try clear hcz8_1
    try clear hcz8_2
    try clear hfz15_0
    try clear hfz15_1
    try clear hfz15_2
    try clear hfz16_0
    try clear hfz16_1
    try clear hfz16_2
    try clear hfz17_0
    try clear hfz17_1
    try clear hfz17_2
    try clear hfz19_0
    try clear hfz19_1
    try clear hfz19_2
    try clear hfz8_0
    try clear hfz8_1
    try clear hfz8_2
    try clear hx109_0
    try clear hx111_0
    try clear hx112_0
    try clear p1
    try clear p109
    try clear p111
    try clear p112
    try clear p2
    try clear p6
    try clear q1
    try clear q109
    try clear q111
    try clear q112
    obtain ⟨kq, x51_17, rfl, HA, HJ17, BK108, HB⟩ := hcut
    cases kq with
    | zero => exact absurd HA.out (by simp [spec_RuleValid.j2])
    | succ kj17 =>
     have H := HA.out
     clear HA
     simp only [spec_RuleValid.j2] at H
     by_cases c22 : x51_17 = true
     ·subst c22
      have H1 : (some false) = some r := by rw [if_pos rfl] at H; exact H
      clear H
      have H := H1
      clear H1
      obtain rfl := Option.some.inj H
      go_wp2
      repeat (go_quiet (fail); try go_wp2)
      go_ret
      exact ⟨yer, yhb⟩
     replace c22 := Bool.eq_false_iff.mpr c22
     subst c22
     have H1 : (if a0_0 = 1 then (if (l0_1.length : Int) ≥ 2 then (some (a0_2 == 0)) else (some false)) else (if a0_0 = 2 then (spec_RuleValid.j3 kj17 a1 (l0_1.length : Int) a0_0 (a0_0 == 2) a0_0 l0_1 a0_2) else (spec_RuleValid.j3 kj17 a1 (l0_1.length : Int) a0_0 (a0_0 == 3) a0_0 l0_1 a0_2))) = some r := by rw [if_neg (show ¬ (false = true) by decide)] at H; exact H
     clear H
     have H := H1
     clear H1
     by_cases c23 : a0_0 = 1
     ·rw [if_pos c23] at H
      have c23b0 : (a0_0 == 1) = true := beq_iff_eq.mpr c23
      have c23b1 : (a0_0 != 1) = false := bne_eq_false_iff_eq.mpr c23
      clear c23
      by_cases c24 : (l0_1.length : Int) ≥ 2
      ·rw [if_pos c24] at H
       have c24b0 : decide (2 ≤ (l0_1.length : Int)) = true := decide_eq_true c24
       have c24b1 : decide (2 ≤ l0_1.length) = true := decide_eq_true (by omega)
       clear c24
       obtain rfl := Option.some.inj H
       obtain ⟨hcz25_0, hcz25_1, hcz25_2, hfz25_0, hfz25_1, hfz25_2⟩ := ybc BK108.out
       go_wp2
       repeat (go_quiet (fail); try go_wp2)
       go_ret
       exact ⟨yer, yhb⟩
      rw [if_neg c24] at H
      have c24b0 : decide (2 ≤ (l0_1.length : Int)) = false := decide_eq_false c24
      have c24b1 : decide (2 ≤ l0_1.length) = false := decide_eq_false (by omega)
      clear c24
      obtain rfl := Option.some.inj H
      obtain ⟨hcz26_0, hcz26_1, hcz26_2, hfz26_0, hfz26_1, hfz26_2⟩ := ybc BK108.out
      go_wp2
      repeat (go_quiet (fail); try go_wp2)
      go_ret
      exact ⟨yer, yhb⟩
     rw [if_neg c23] at H
     have c23b0 : (a0_0 == 1) = false := beq_eq_false_iff_ne.mpr c23
     have c23b1 : (a0_0 != 1) = true := bne_iff_ne.mpr c23
     have HC27 := yam H
     clear H
     obtain ⟨hcz28_0, hcz28_1, hcz28_2, hfz28_0, hfz28_1, hfz28_2⟩ := ybc BK108.out
     go_upto_if 63 with (fail)
     repeat (go_quiet (fail); go_upto_if 63 with (fail))
     go_cut [63] (fun v63 wc => ∃ (kq : Nat) (x63_26 : Bool), v63 = .bool x63_26 ∧ Aside0 (spec_RuleValid.j3 kq a1 (l0_1.length : Int) a0_0 x63_26 a0_0 l0_1 a0_2 = some r) ∧ Aside0 (kq ≤ kj17) ∧ Aside0 (wc.heap[gb108]? = some (.cells #[.int .i64 a0_0, (.slice A0_1 l0_1.length c0_1), .int .i64 a0_2] 67 (0, 0))) ∧ Aside0 (Below w.heap.size w wc))
     case first =>
      have H := HC27.out
      clear HC27
      by_cases c29 : a0_0 = 2
      rotate_left
      ·rw [if_neg c29] at H
       have c29b0 : (a0_0 == 2) = false := beq_eq_false_iff_ne.mpr c29
       have c29b1 : (a0_0 != 2) = true := bne_iff_ne.mpr c29
       (first | rw [c29b0] | (simp only [i64_w, i32_w]; rw [c29b0]) | skip)
       have H' := yam H
       clear H
       go_wp2
       repeat (go_quiet (fail); try go_wp2)
       go_meet
       case rel => exact ⟨_, ((a0_0 == 3)), yeq, H', ⟨by have := HK1.out; have := HJ17.out; first | omega | exact Nat.le_refl _⟩, ⟨by (with_reducible repeat (first | refine ybn ?_ _ | refine ybd ?_ | refine yba ?_ _)); exact BK108.out⟩, ⟨yhb⟩⟩
      rw [if_pos c29] at H
      have c29b0 : (a0_0 == 2) = true := beq_iff_eq.mpr c29
      have c29b1 : (a0_0 != 2) = false := bne_eq_false_iff_eq.mpr c29
      clear c29
      (first | rw [c29b0] | (simp only [i64_w, i32_w]; rw [c29b0]) | skip)
      have H' := yam H
      clear H
      go_wp2
      repeat (go_quiet (fail); try go_wp2)
      go_meet
      case rel => exact ⟨_, ((a0_0 == 2)), yeq, H', ⟨by have := HK1.out; have := HJ17.out; first | omega | exact Nat.le_refl _⟩, ⟨by (with_reducible repeat (first | refine ybn ?_ _ | refine ybd ?_ | refine yba ?_ _)); exact BK108.out⟩, ⟨yhb⟩⟩
     case rest =>
      clear HC27
      try clear c1
      try clear p1
      try clear q1
      try clear hx1
      try clear c2
      try clear p2
      try clear c4
      try clear c4b0
      try clear c5
      try clear c5b0
      try clear c6
      try clear p6
      try clear c7
      try clear c9
      try clear c9b0
      try clear c10
      try clear c10b0
      try clear p10
      try clear q10
      try clear hx10
      try clear c11
      try clear c11b0
      try clear p11
      try clear q11
      try clear hx11
      try clear c12
      try clear c12b0
      try clear c13
      try clear c13b0
      try clear c14
      try clear c14b0
      try clear c14b1
      try clear c21
      try clear c22
      try clear c23
      try clear c23b0
      try clear c23b1
      try clear c24
      try clear c24b0
      try clear c24b1
      try clear c29
      try clear c29b0
      try clear c29b1
      try clear hcz15_0
      try clear hcz15_1
      try clear hcz15_2
      try clear hcz16_0
      try clear hcz16_1
      try clear hcz16_2
      try clear hcz17_0
      try clear hcz17_1
      try clear hcz17_2
      try clear hcz19_0
      try clear hcz19_1
      try clear hcz19_2
      try clear hcz25_0
      try clear hcz25_1
      try clear hcz25_2
      try clear hcz26_0
      try clear hcz26_1
      try clear hcz26_2
      try clear hcz28_0
      try clear hcz28_1
      try clear hcz28_2
      try clear hcz8_0
      try clear hcz8_1
      try clear hcz8_2
      try clear hfz15_0
      try clear hfz15_1
      try clear hfz15_2
      try clear hfz16_0
      try clear hfz16_1
      try clear hfz16_2
      try clear hfz17_0
      try clear hfz17_1
      try clear hfz17_2
      try clear hfz19_0
      try clear hfz19_1
      try clear hfz19_2
      try clear hfz25_0
      try clear hfz25_1
      try clear hfz25_2
      try clear hfz26_0
      try clear hfz26_1
      try clear hfz26_2
      try clear hfz28_0
      try clear hfz28_1
      try clear hfz28_2
      try clear hfz8_0
      try clear hfz8_1
      try clear hfz8_2
      try clear hx109_0
      try clear hx111_0
      try clear hx112_0
      try clear p1
      try clear p10
      try clear p109
      try clear p11
      try clear p111
      try clear p112
      try clear p2
      try clear p6
      try clear q1
      try clear q10
      try clear q109
      try clear q11
      try clear q111
      try clear q112
      obtain ⟨kq, x63_26, rfl, HA, HJ26, BK108, HB⟩ := hcut
      cases kq with
      | zero => exact absurd HA.out (by simp [spec_RuleValid.j3])
      | succ kj26 =>
       have H := HA.out
       clear HA
       simp only [spec_RuleValid.j3] at H
       by_cases c30 : x63_26 = true
       ·subst c30
        have H1 : (if (l0_1.length : Int) ≥ 1 then ((spec_l1In.f a0_2 1 (wrap64 ((wrap64 ((wrap64 (a1 * a1)) * a1)) * a1))).bind fun t114 => (some t114)) else (some false)) = some r := by rw [if_pos rfl] at H; exact H
        clear H
        have H := H1
        clear H1
        by_cases c31 : (l0_1.length : Int) ≥ 1
        rotate_left
        ·rw [if_neg c31] at H
         have c31b0 : decide (1 ≤ (l0_1.length : Int)) = false := decide_eq_false c31
         have c31b1 : decide (1 ≤ l0_1.length) = false := decide_eq_false (by omega)
         clear c31
         obtain rfl := Option.some.inj H
         go_wp2
         repeat (go_quiet (fail); try go_wp2)
         go_ret
         exact ⟨yer, yhb⟩
        rw [if_pos c31] at H
        have c31b0 : decide (1 ≤ (l0_1.length : Int)) = true := decide_eq_true c31
        have c31b1 : decide (1 ≤ l0_1.length) = true := decide_eq_true (by omega)
        clear c31
        replace H := Option.bind_eq_some_iff.mp H
        obtain ⟨t114, A320, H⟩ := H
        try dsimp only at H
        have A32 := yam A320
        clear A320
        obtain rfl := Option.some.inj H
        obtain ⟨hcz33_0, hcz33_1, hcz33_2, hfz33_0, hfz33_1, hfz33_2⟩ := ybc BK108.out
        have hwq0_ : IntKind.i64.wrap (a1 * a1) = wrap64 (a1 * a1) := i64_w _
        have hwq1_ : IntKind.i64.wrap ((wrap64 (a1 * a1)) * a1) = wrap64 ((wrap64 (a1 * a1)) * a1) := i64_w _
        have hwq2_ : IntKind.i64.wrap ((wrap64 ((wrap64 (a1 * a1)) * a1)) * a1) = wrap64 ((wrap64 ((wrap64 (a1 * a1)) * a1)) * a1) := i64_w _
        go_wp2_with (first | (go_at_call 39; (with_reducible refine (spec_l1In.calls a0_2 1 (wrap64 ((wrap64 ((wrap64 (a1 * a1)) * a1)) * a1)) t114 _ A32.out).mono ?_); rintro e w' ⟨rfl, ⟨nd, rfl⟩⟩; (try first | exact ⟨rfl, _, World.drewN_drewN _ _ _⟩ | exact ⟨rfl, _, Eq.trans (World.drewN_drewN _ _ _) (congrArg (World.drewN _) (Nat.add_assoc _ _ _))⟩)))
        repeat (go_quiet (first | (go_at_call 39; (with_reducible refine (spec_l1In.calls a0_2 1 (wrap64 ((wrap64 ((wrap64 (a1 * a1)) * a1)) * a1)) t114 _ A32.out).mono ?_); rintro e w' ⟨rfl, ⟨nd, rfl⟩⟩; (try first | exact ⟨rfl, _, World.drewN_drewN _ _ _⟩ | exact ⟨rfl, _, Eq.trans (World.drewN_drewN _ _ _) (congrArg (World.drewN _) (Nat.add_assoc _ _ _))⟩))); try go_wp2_with (first | (go_at_call 39; (with_reducible refine (spec_l1In.calls a0_2 1 (wrap64 ((wrap64 ((wrap64 (a1 * a1)) * a1)) * a1)) t114 _ A32.out).mono ?_); rintro e w' ⟨rfl, ⟨nd, rfl⟩⟩; (try first | exact ⟨rfl, _, World.drewN_drewN _ _ _⟩ | exact ⟨rfl, _, Eq.trans (World.drewN_drewN _ _ _) (congrArg (World.drewN _) (Nat.add_assoc _ _ _))⟩))))
        go_ret
        exact ⟨yer, yhb⟩
       replace c30 := Bool.eq_false_iff.mpr c30
       subst c30
       have H1 : (if a0_0 = 4 then (if (l0_1.length : Int) = 2 then (some (a0_2 == 0)) else (some false)) else (if a0_0 = 5 then (if (l0_1.length : Int) = 2 then ((spec_l1In.f a0_2 0 (wrap64 (a1 - 1))).bind fun t115 => (some t115)) else (some false)) else (some false))) = some r := by rw [if_neg (show ¬ (false = true) by decide)] at H; exact H
       clear H
       have H := H1
       clear H1
       by_cases c34 : a0_0 = 4
       ·rw [if_pos c34] at H
        have c34b0 : (a0_0 == 4) = true := beq_iff_eq.mpr c34
        have c34b1 : (a0_0 != 4) = false := bne_eq_false_iff_eq.mpr c34
        clear c34
        by_cases c35 : (l0_1.length : Int) = 2
        rotate_left
        ·rw [if_neg c35] at H
         have c35b0 : ((l0_1.length : Int) == 2) = false := beq_eq_false_iff_ne.mpr c35
         have c35b1 : ((l0_1.length : Int) != 2) = true := bne_iff_ne.mpr c35
         obtain rfl := Option.some.inj H
         go_wp2
         repeat (go_quiet (fail); try go_wp2)
         go_ret
         exact ⟨yer, yhb⟩
        rw [if_pos c35] at H
        have c35b0 : ((l0_1.length : Int) == 2) = true := beq_iff_eq.mpr c35
        have c35b1 : ((l0_1.length : Int) != 2) = false := bne_eq_false_iff_eq.mpr c35
        clear c35
        obtain rfl := Option.some.inj H
        obtain ⟨hcz36_0, hcz36_1, hcz36_2, hfz36_0, hfz36_1, hfz36_2⟩ := ybc BK108.out
        go_wp2
        repeat (go_quiet (fail); try go_wp2)
        go_ret
        exact ⟨yer, yhb⟩
       rw [if_neg c34] at H
       have c34b0 : (a0_0 == 4) = false := beq_eq_false_iff_ne.mpr c34
       have c34b1 : (a0_0 != 4) = true := bne_iff_ne.mpr c34
       by_cases c37 : a0_0 = 5
       rotate_left
       ·rw [if_neg c37] at H
        have c37b0 : (a0_0 == 5) = false := beq_eq_false_iff_ne.mpr c37
        have c37b1 : (a0_0 != 5) = true := bne_iff_ne.mpr c37
        obtain rfl := Option.some.inj H
        go_wp2
        repeat (go_quiet (fail); try go_wp2)
        go_ret
        exact ⟨yer, yhb⟩

       rw [if_pos c37] at H
       have c37b0 : (a0_0 == 5) = true := beq_iff_eq.mpr c37
       have c37b1 : (a0_0 != 5) = false := bne_eq_false_iff_eq.mpr c37
       clear c37
       by_cases c38 : (l0_1.length : Int) = 2
       rotate_left
       ·rw [if_neg c38] at H
        have c38b0 : ((l0_1.length : Int) == 2) = false := beq_eq_false_iff_ne.mpr c38
        have c38b1 : ((l0_1.length : Int) != 2) = true := bne_iff_ne.mpr c38
        obtain rfl := Option.some.inj H
        go_wp2
        repeat (go_quiet (fail); try go_wp2)
        go_ret
        exact ⟨yer, yhb⟩
       rw [if_pos c38] at H
       have c38b0 : ((l0_1.length : Int) == 2) = true := beq_iff_eq.mpr c38
       have c38b1 : ((l0_1.length : Int) != 2) = false := bne_eq_false_iff_eq.mpr c38
       clear c38
       replace H := Option.bind_eq_some_iff.mp H
       obtain ⟨t115, A390, H⟩ := H
       try dsimp only at H
       have A39 := yam A390
       clear A390
       obtain rfl := Option.some.inj H
       obtain ⟨hcz40_0, hcz40_1, hcz40_2, hfz40_0, hfz40_1, hfz40_2⟩ := ybc BK108.out
       have hwq0_ : IntKind.i64.wrap (a1 - 1) = wrap64 (a1 - 1) := i64_w _
       go_wp2_with (first | (go_at_call 39; (with_reducible refine (spec_l1In.calls a0_2 0 (wrap64 (a1 - 1)) t115 _ A39.out).mono ?_); rintro e w' ⟨rfl, ⟨nd, rfl⟩⟩; (try first | exact ⟨rfl, _, World.drewN_drewN _ _ _⟩ | exact ⟨rfl, _, Eq.trans (World.drewN_drewN _ _ _) (congrArg (World.drewN _) (Nat.add_assoc _ _ _))⟩)))
       repeat (go_quiet (first | (go_at_call 39; (with_reducible refine (spec_l1In.calls a0_2 0 (wrap64 (a1 - 1)) t115 _ A39.out).mono ?_); rintro e w' ⟨rfl, ⟨nd, rfl⟩⟩; (try first | exact ⟨rfl, _, World.drewN_drewN _ _ _⟩ | exact ⟨rfl, _, Eq.trans (World.drewN_drewN _ _ _) (congrArg (World.drewN _) (Nat.add_assoc _ _ _))⟩))); try go_wp2_with (first | (go_at_call 39; (with_reducible refine (spec_l1In.calls a0_2 0 (wrap64 (a1 - 1)) t115 _ A39.out).mono ?_); rintro e w' ⟨rfl, ⟨nd, rfl⟩⟩; (try first | exact ⟨rfl, _, World.drewN_drewN _ _ _⟩ | exact ⟨rfl, _, Eq.trans (World.drewN_drewN _ _ _) (congrArg (World.drewN _) (Nat.add_assoc _ _ _))⟩))))
       go_ret
       exact ⟨yer, yhb⟩
def spec_GridValid.l0 : Nat → List Int → Int → Int → Option (Bool)
 | 0, _, _, _ => none
 | k + 1, x0, x1, x5 => if x5 < (x0.length : Int) then (if 0 ≤ x5 then ((spec_l1In.f (rd x0 x5) 0 x1).bind fun t117 => (if t117 = true then (spec_GridValid.l0 k x0 x1 (wrap64 (x5 + 1))) else (some false))) else (none)) else ((spec_l1In.f x1 2 4).bind fun t118 => (if t118 = true then (some ((x0.length : Int) == (wrap64 (x1 * x1)))) else (some false)))
def spec_GridValid.f (k : Nat) (l0 : List Int) (a1 : Int) : Option (Bool) := spec_GridValid.l0 k l0 a1 0
set_option maxHeartbeats 8000000 in
set_option maxRecDepth 100000 in
theorem spec_GridValid.calls (k : Nat) (A0 : Option Addr) (c0 : Nat) (l0 : List Int) (a1 : Int) (r : Bool) (w : World) (hr0 : Kd.C (Kd.int .i64) w A0 l0.length l0) (hc0 : l0.length ≤ c0) (h : spec_GridValid.f k l0 a1 = some r) :
  Calls Try.prog 67 #[.slice A0 l0.length c0, .int .i64 a1] w fun e w' => e = .returned (.bool r) ∧ Drawn0 w w' := by
 have HR0 := yam hr0
 have HC0 := yam hc0
 clear hr0 hc0
 have H : (spec_GridValid.l0 k l0 a1 0) = some r := h
 clear h
 have H' := yam H
 clear H
 go_enter Try.func67, Try.ntmps67
 go_wp2
 go_loopg [5] k (fun kq v5 w' => ∃ (x5_1 : Int), v5 = .int .i64 x5_1 ∧ Aside0 (spec_GridValid.l0 kq l0 a1 x5_1 = some r) ∧ Aside0 (kq ≤ k) ∧ Drawn0 w w')
 case atStart => exact ⟨(0), yeq, H', ⟨Nat.le_refl _⟩, by repeat (first | exact Drawn0.refl _ | apply Drawn0.step)⟩
 case round =>
  clear H'
  try clear p2
  obtain ⟨x5_1, rfl, HA, HK1, ⟨m1, rfl⟩⟩ := hrel
  cases gk with
  | zero => exact absurd HA.out (by simp [spec_GridValid.l0])
  | succ k1 =>
   have H := HA.out
   clear HA
   simp only [spec_GridValid.l0] at H
   by_cases c3 : x5_1 < (l0.length : Int)
   rotate_left
   ·rw [if_neg c3] at H
    have c3b0 : decide (x5_1 < (l0.length : Int)) = false := decide_eq_false c3
    clear c3
    replace H := Option.bind_eq_some_iff.mp H
    obtain ⟨t118, A70, H⟩ := H
    try dsimp only at H
    have A7 := yam A70
    clear A70
    by_cases c8 : t118 = true
    ·subst c8
     have H1 : (some ((l0.length : Int) == (wrap64 (a1 * a1)))) = some r := by rw [if_pos rfl] at H; exact H
     clear H
     have H := H1
     clear H1
     obtain rfl := Option.some.inj H
     go_wp2_with (first | (refine goesL_ (some 20) rfl rfl Try.func39 (by kernel_rfl) rfl #[.int .i64 a1, .int .i64 2, .int .i64 4] rfl ymd ?_; (with_reducible refine (spec_l1In.calls a1 2 4 true _ A7.out).mono ?_); rintro e w' ⟨rfl, ⟨nd, rfl⟩⟩; refine ⟨_, rfl, ?_⟩))
     go_ret
     exact ⟨yeq, by repeat (first | exact Drawn0.refl _ | apply Drawn0.step)⟩
    replace c8 := Bool.eq_false_iff.mpr c8
    subst c8
    have H1 : (some false) = some r := by rw [if_neg (show ¬ (false = true) by decide)] at H; exact H
    clear H
    have H := H1
    clear H1
    obtain rfl := Option.some.inj H
    go_wp2_with (first | (refine goesL_ (some 20) rfl rfl Try.func39 (by kernel_rfl) rfl #[.int .i64 a1, .int .i64 2, .int .i64 4] rfl ymd ?_; (with_reducible refine (spec_l1In.calls a1 2 4 false _ A7.out).mono ?_); rintro e w' ⟨rfl, ⟨nd, rfl⟩⟩; refine ⟨_, rfl, ?_⟩))
    go_ret
    exact ⟨yeq, by repeat (first | exact Drawn0.refl _ | apply Drawn0.step)⟩

   rw [if_pos c3] at H
   have c3b0 : decide (x5_1 < (l0.length : Int)) = true := decide_eq_true c3
   clear c3
   replace H := yif H
   obtain ⟨c4b0, H⟩ := H
   replace H := Option.bind_eq_some_iff.mp H
   obtain ⟨t117, A50, H⟩ := H
   try dsimp only at H
   have A5 := yam A50
   clear A50
   by_cases c6 : t117 = true
   rotate_left
   ·replace c6 := Bool.eq_false_iff.mpr c6
    subst c6
    have H1 : (some false) = some r := by rw [if_neg (show ¬ (false = true) by decide)] at H; exact H
    clear H
    have H := H1
    clear H1
    obtain rfl := Option.some.inj H
    have p116 : 0 ≤ (x5_1 : Int) := ydt
    have q116 : x5_1 < (l0.length : Int) := ydt
    obtain ⟨ad116, e116, hx116_0⟩ := Kd.at_int HR0.out x5_1 p116 q116
    cases e116
    replace p116 := eq_true p116
    replace q116 := eq_true q116
    go_wp2_with (first | (refine goesL_ (some 17) rfl rfl Try.func39 (by kernel_rfl) rfl #[.int .i64 (rd l0 x5_1), .int .i64 0, .int .i64 a1] rfl ymd ?_; (with_reducible refine (spec_l1In.calls (rd l0 x5_1) 0 a1 false _ A5.out).mono ?_); rintro e w' ⟨rfl, ⟨nd, rfl⟩⟩; refine ⟨_, rfl, ?_⟩))
    go_ret
    exact ⟨yeq, by repeat (first | exact Drawn0.refl _ | apply Drawn0.step)⟩
   subst c6
   have H1 : (spec_GridValid.l0 k1 l0 a1 (wrap64 (x5_1 + 1))) = some r := by rw [if_pos rfl] at H; exact H
   clear H
   have H := H1
   clear H1
   have H' := yam H
   clear H
   have p116 : 0 ≤ (x5_1 : Int) := ydt
   have q116 : x5_1 < (l0.length : Int) := ydt
   obtain ⟨ad116, e116, hx116_0⟩ := Kd.at_int HR0.out x5_1 p116 q116
   cases e116
   replace p116 := eq_true p116
   replace q116 := eq_true q116
   go_wp2_with (first | (refine goesL_ (some 17) rfl rfl Try.func39 (by kernel_rfl) rfl #[.int .i64 (rd l0 x5_1), .int .i64 0, .int .i64 a1] rfl ymd ?_; (with_reducible refine (spec_l1In.calls (rd l0 x5_1) 0 a1 true _ A5.out).mono ?_); rintro e w' ⟨rfl, ⟨nd, rfl⟩⟩; refine ⟨_, rfl, ?_⟩))
   go_roundg k1
   case measure => have := HK1.out; omega
   case rel => exact ⟨(wrap64 (x5_1 + 1)), yeq, H', ⟨by have := HK1.out; omega⟩, by repeat (first | exact Drawn0.refl _ | apply Drawn0.step)⟩
def spec_PuzzleValid.l0 : Nat → Int → Int → List Int → List (S67) → Option (Bool)
 | 0, _, _, _, _ => none
 | k + 1, x3, x120000, x120001, x120002 => if x3 < (x120002.length : Int) then (if 0 ≤ x3 then ((spec_RuleValid.f k ((rd_T67 x120002 x3).f0) ((rd_T67 x120002 x3).f1) ((rd_T67 x120002 x3).f2) x120000).bind fun t121 => (if t121 = true then (spec_PuzzleValid.l0 k (wrap64 (x3 + 1)) x120000 x120001 x120002) else (some false))) else (none)) else ((spec_GridValid.f k x120001 x120000).bind fun t122 => (if t122 = true then (some (decide ((x120002.length : Int) ≤ 20))) else (some false)))
def spec_PuzzleValid.f (k : Nat) (a0_0 : Int) (l0_1 : List Int) (l0_2 : List (S67)) : Option (Bool) := spec_PuzzleValid.l0 k 0 a0_0 l0_1 l0_2
def spec_PuzzleValid.T4 : Bool × List (List Nat × List Nat) := (true, [([], []), ([0], [0]), ([], []), ([1, 2], [1, 2]), ([3], [3]), ([], []), ([5], [5]), ([4, 6], [4, 6]), ([7], [7])])
def spec_PuzzleValid.B4 : List Nat := [0, 1, 0, 7, 15, 0, 32, 127, 255]
theorem spec_PuzzleValid.tab4 : rtab .any (opsOf Try.f34 4) = spec_PuzzleValid.T4 := by kernel_rfl
theorem spec_PuzzleValid.bits4 : waitsOk spec_PuzzleValid.T4.2 spec_PuzzleValid.B4 = true := by kernel_rfl
set_option maxHeartbeats 8000000 in
set_option maxRecDepth 100000 in
theorem spec_PuzzleValid.calls (k : Nat) (a0_0 : Int) (A0_1 : Option Addr) (c0_1 : Nat) (l0_1 : List Int) (A0_2 : Option Addr) (c0_2 : Nat) (l0_2 : List (S67)) (r : Bool) (w : World) (hr0_1 : Kd.C (Kd.int .i64) w A0_1 l0_1.length l0_1) (hc0_1 : l0_1.length ≤ c0_1) (hr0_2 : Kd.C k67 w A0_2 l0_2.length l0_2) (hc0_2 : l0_2.length ≤ c0_2) (h : spec_PuzzleValid.f k a0_0 l0_1 l0_2 = some r) :
  Calls Try.prog 34 #[.agg #[.int .i64 a0_0, .slice A0_1 l0_1.length c0_1, .slice A0_2 l0_2.length c0_2]] w fun e w' => e = .returned (.bool r) ∧ Below w.heap.size w w' := by
 have hu30 := Try.underlying30
 have hu67 := Try.underlying67
 have HR0_1 := yam hr0_1
 have HC0_1 := yam hc0_1
 clear hr0_1 hc0_1
 have HR0_2 := yam hr0_2
 have HC0_2 := yam hc0_2
 clear hr0_2 hc0_2
 have HB := yam (Below.refl w.heap.size w)
 have H : (spec_PuzzleValid.l0 k 0 a0_0 l0_1 l0_2) = some r := h
 clear h
 have H' := yam H
 clear H
 go_enter Try.func34, Try.ntmps34
 go_wp2_with (first | ((with_reducible refine gate_dst (N := 1) rfl ?_); (try (refine gate_guard (by rfl) ?_; dsimp only)); refine ybe 1 #[.int .i64 a0_0, .slice A0_1 l0_1.length c0_1, .slice A0_2 l0_2.length c0_2] 30 ?_; intro gb119 hg w2 hbox hb; have n0_ := yam (below_step (yez HB.out) hb); have n1_ := yam (hbox); have n2_ := yam ((by rw [hg]; exact (below_size (yez HB.out)) : w.heap.size ≤ gb119)); have n3_ := n2_; clear HB; have HB := n0_; have BK119 := n1_; have GW119 := n2_; have GE119 := n3_; clear n0_ n1_ n2_ n3_; clear hb hbox hg))
 go_loopg [3] k (fun kq v3 w' => ∃ (x3_1 : Int), v3 = .int .i64 x3_1 ∧ Aside0 (spec_PuzzleValid.l0 kq x3_1 a0_0 l0_1 l0_2 = some r) ∧ Aside0 (kq ≤ k) ∧ Aside0 (w'.heap[gb119]? = some (.cells #[.int .i64 a0_0, (.slice A0_1 l0_1.length c0_1), (.slice A0_2 l0_2.length c0_2)] 30 (0, 0))) ∧ Aside0 (Below w.heap.size w w'))
 case atStart => exact ⟨(0), yeq, H', ⟨Nat.le_refl _⟩, ⟨by (with_reducible repeat (first | refine ybn ?_ _ | refine ybd ?_ | refine yba ?_ _)); exact BK119.out⟩, ⟨yhb⟩⟩
 case round =>
  clear H'
  try clear p2
  obtain ⟨x3_1, rfl, HA, HK1, BK119, HB⟩ := hrel
  cases gk with
  | zero => exact absurd HA.out (by simp [spec_PuzzleValid.l0])
  | succ k1 =>
   have H := HA.out
   clear HA
   simp only [spec_PuzzleValid.l0] at H
   by_cases c3 : x3_1 < (l0_2.length : Int)
   rotate_left
   ·rw [if_neg c3] at H
    have c3b0 : decide (x3_1 < (l0_2.length : Int)) = false := decide_eq_false c3
    clear c3
    replace H := Option.bind_eq_some_iff.mp H
    obtain ⟨t122, A130, H⟩ := H
    try dsimp only at H
    have A13 := yam A130
    clear A130
    by_cases c14 : t122 = true
    ·subst c14
     have H1 : (some (decide ((l0_2.length : Int) ≤ 20))) = some r := by rw [if_pos rfl] at H; exact H
     clear H
     have H := H1
     clear H1
     obtain rfl := Option.some.inj H
     obtain ⟨hcz15_0, hcz15_1, hcz15_2, hfz15_0, hfz15_1, hfz15_2⟩ := ybc BK119.out
     go_wp2_with (first | (refine goesL_ (some 24) rfl rfl Try.func67 (by kernel_rfl) rfl #[.slice A0_1 l0_1.length c0_1, .int .i64 a0_0] rfl ymd ?_; (with_reducible refine (spec_GridValid.calls k1 _ _ l0_1 a0_0 true _ ?side1 ?side2 A13.out).mono ?_); (case side1 => exact Kd.Cz ((Kd.C_below HR0_1.out HB.out))); (case side2 => exact HC0_1.out); rintro e w' ⟨rfl, ⟨nd, rfl⟩⟩; refine ⟨_, rfl, ?_⟩))
     go_ret
     exact ⟨yer, yhb⟩
    replace c14 := Bool.eq_false_iff.mpr c14
    subst c14
    have H1 : (some false) = some r := by rw [if_neg (show ¬ (false = true) by decide)] at H; exact H
    clear H
    have H := H1
    clear H1
    obtain rfl := Option.some.inj H
    obtain ⟨hcz16_0, hcz16_1, hcz16_2, hfz16_0, hfz16_1, hfz16_2⟩ := ybc BK119.out
    go_wp2_with (first | (refine goesL_ (some 24) rfl rfl Try.func67 (by kernel_rfl) rfl #[.slice A0_1 l0_1.length c0_1, .int .i64 a0_0] rfl ymd ?_; (with_reducible refine (spec_GridValid.calls k1 _ _ l0_1 a0_0 false _ ?side1 ?side2 A13.out).mono ?_); (case side1 => exact Kd.Cz ((Kd.C_below HR0_1.out HB.out))); (case side2 => exact HC0_1.out); rintro e w' ⟨rfl, ⟨nd, rfl⟩⟩; refine ⟨_, rfl, ?_⟩))
    go_ret
    exact ⟨yer, yhb⟩

   rw [if_pos c3] at H
   have c3b0 : decide (x3_1 < (l0_2.length : Int)) = true := decide_eq_true c3
   clear c3
   replace H := yif H
   obtain ⟨c4b0, H⟩ := H
   replace H := Option.bind_eq_some_iff.mp H
   obtain ⟨t121, A50, H⟩ := H
   try dsimp only at H
   have A5 := yam A50
   clear A50
   by_cases c6 : t121 = true
   rotate_left
   ·replace c6 := Bool.eq_false_iff.mpr c6
    subst c6
    have H1 : (some false) = some r := by rw [if_neg (show ¬ (false = true) by decide)] at H; exact H
    clear H
    have H := H1
    clear H1
    obtain rfl := Option.some.inj H
    obtain ⟨hcz10_0, hcz10_1, hcz10_2, hfz10_0, hfz10_1, hfz10_2⟩ := ybc BK119.out
    try go_wp2
    replace BK119 := yam (ybd BK119.out)
    replace HB := yam (yed HB.out)
    have p120 : 0 ≤ (x3_1 : Int) := ydt
    have q120 : x3_1 < (l0_2.length : Int) := ydt
    obtain ⟨ad120, A120_1, c120_1, e120, hx120_0, hx120_1, hx120_2, hl120_1, hi120_1⟩ := at_T67 HR0_2.out x3_1 p120 q120
    have hw120_2 := hx120_2
    have hw120_1 := hx120_1
    have hw120_0 := hx120_0
    cases e120
    replace hx120_0 := ybx HB.out hx120_0
    replace hx120_1 := ybx HB.out hx120_1
    replace hx120_2 := ybx HB.out hx120_2
    have HR120_1 := yam hi120_1
    have HC120_1 := yam hl120_1
    clear hi120_1 hl120_1
    replace p120 := eq_true p120
    replace q120 := eq_true q120
    refine start_ (n := 9) (S := fun w' => w'.cell? ⟨gb119, 0, none⟩ = some (.int .i64 a0_0) ∧ w'.cell? ⟨gb119, 1, none⟩ = some (.slice A0_1 l0_1.length c0_1) ∧ w'.cell? ⟨gb119, 2, none⟩ = some (.slice (some ad120) l0_2.length c0_2) ∧ w'.cell? (ad120.add ((x3_1).toNat * 3)) = some (.int .i64 ((rd_T67 l0_2 x3_1).f0)) ∧ w'.cell? ⟨(ad120.add ((x3_1).toNat * 3)).block, (ad120.add ((x3_1).toNat * 3)).off + 1, none⟩ = some (.slice A120_1 ((rd_T67 l0_2 x3_1).f1).length c120_1) ∧ w'.cell? ⟨(ad120.add ((x3_1).toNat * 3)).block, (ad120.add ((x3_1).toNat * 3)).off + 2, none⟩ = some (.int .i64 ((rd_T67 l0_2 x3_1).f2))) (ds := []) #[false, false, false, false, false, false, false, false, false] (by kernel_rfl) rfl rfl ⟨(blk_cell BK119.out 0).trans rfl, (blk_cell BK119.out 1).trans rfl, (blk_cell BK119.out 2).trans rfl, ((HB.out.cell (World.block_lt_of_cell? w _ hw120_0)).trans hw120_0), ((HB.out.cell (World.block_lt_of_cell? w _ hw120_1)).trans hw120_1), ((HB.out.cell (World.block_lt_of_cell? w _ hw120_2)).trans hw120_2)⟩ (fun hHeld => ?_); refine with_tabW spec_PuzzleValid.tab4 spec_PuzzleValid.bits4 (fun HT_ HW_ => ?_)
    generalize wr.drew = w11 at BK119 HB HR120_1 hx120_0 hx120_1 hx120_2 hHeld ⊢
    refine yvp 0 11 (yvb 9 1) HT_.out ?_
    refine yvp 2 13 (yvb 9 5) HT_.out ?_
    refine yvp 5 16 (yvb 9 37) HT_.out ?_
    refine yvt 1 12 (yvb 9 39) HT_.out HW_.out hHeld ?_
    refine yvp 3 14 (yvb 9 47) HT_.out ?_
    refine yvt 4 15 (yvb 9 63) HT_.out HW_.out hHeld ?_
    refine yvt 6 17 (yvb 9 127) HT_.out HW_.out hHeld ?_
    refine one_ (i := 7) (N := some 18) #[true, true, true, true, true, true, true, true, false] rfl rfl (one_of HT_.out (by kernel_rfl)) (by decide) (fun K hK => ?_)
    refine goes_ Try.func66 (by kernel_rfl) rfl #[.agg #[.int .i64 ((rd_T67 l0_2 x3_1).f0), .slice A120_1 ((rd_T67 l0_2 x3_1).f1).length c120_1, .int .i64 ((rd_T67 l0_2 x3_1).f2)], .int .i64 a0_0] (by rfl) rfl rfl ymd ?_
    with_reducible refine (spec_RuleValid.calls k1 ((rd_T67 l0_2 x3_1).f0) _ _ ((rd_T67 l0_2 x3_1).f1) ((rd_T67 l0_2 x3_1).f2) a0_0 false _ ?side1 ?side2 A5.out).mono ?_
    (case side1 => exact Kd.Cz ((Kd.C_below HR120_1.out HB.out)))
    (case side2 => exact HC120_1.out)
    rintro e w12 ⟨rfl, hb⟩
    refine ⟨_, rfl, ?_⟩
    replace BK119 := yam (blk_below (g := gb119) (o := .cells #[.int .i64 a0_0, .slice A0_1 l0_1.length c0_1, .slice (some ad120) l0_2.length c0_2] 30 (0, 0)) (ybz BK119.out) hb)
    replace HB := yam (below_step yhb hb)
    (try clear hb)
    (try clear hb2)
    (try clear hk)
    (try clear hi)
    refine hK.out _ _ ⟨(blk_cell BK119.out 0).trans rfl, (blk_cell BK119.out 1).trans rfl, (blk_cell BK119.out 2).trans rfl, ((HB.out.cell (World.block_lt_of_cell? w _ hw120_0)).trans hw120_0), ((HB.out.cell (World.block_lt_of_cell? w _ hw120_1)).trans hw120_1), ((HB.out.cell (World.block_lt_of_cell? w _ hw120_2)).trans hw120_2)⟩ (fun hHeld => ?_)
    clear hK K
    refine norm_ (a' := ?_) ?_ ?_
    rotate_left
    ·show Act.put _ (some 18) _ = _
     simp only [Act.put, yps, i64_w, i32_w]
     rfl
    refine yvp 8 19 (yvb 9 511) HT_.out ?_
    refine done_ (done_of HT_.out (by kernel_rfl)) ?_
    try go_wp2
    go_ret
    exact ⟨yer, yhb⟩
   subst c6
   have H1 : (spec_PuzzleValid.l0 k1 (wrap64 (x3_1 + 1)) a0_0 l0_1 l0_2) = some r := by rw [if_pos rfl] at H; exact H
   clear H
   have H := H1
   clear H1
   have H' := yam H
   clear H
   obtain ⟨hcz7_0, hcz7_1, hcz7_2, hfz7_0, hfz7_1, hfz7_2⟩ := ybc BK119.out
   try go_wp2
   replace BK119 := yam (ybd BK119.out)
   replace HB := yam (yed HB.out)
   have p120 : 0 ≤ (x3_1 : Int) := ydt
   have q120 : x3_1 < (l0_2.length : Int) := ydt
   obtain ⟨ad120, A120_1, c120_1, e120, hx120_0, hx120_1, hx120_2, hl120_1, hi120_1⟩ := at_T67 HR0_2.out x3_1 p120 q120
   have hw120_2 := hx120_2
   have hw120_1 := hx120_1
   have hw120_0 := hx120_0
   cases e120
   replace hx120_0 := ybx HB.out hx120_0
   replace hx120_1 := ybx HB.out hx120_1
   replace hx120_2 := ybx HB.out hx120_2
   have HR120_1 := yam hi120_1
   have HC120_1 := yam hl120_1
   clear hi120_1 hl120_1
   replace p120 := eq_true p120
   replace q120 := eq_true q120
   refine start_ (n := 9) (S := fun w' => w'.cell? ⟨gb119, 0, none⟩ = some (.int .i64 a0_0) ∧ w'.cell? ⟨gb119, 1, none⟩ = some (.slice A0_1 l0_1.length c0_1) ∧ w'.cell? ⟨gb119, 2, none⟩ = some (.slice (some ad120) l0_2.length c0_2) ∧ w'.cell? (ad120.add ((x3_1).toNat * 3)) = some (.int .i64 ((rd_T67 l0_2 x3_1).f0)) ∧ w'.cell? ⟨(ad120.add ((x3_1).toNat * 3)).block, (ad120.add ((x3_1).toNat * 3)).off + 1, none⟩ = some (.slice A120_1 ((rd_T67 l0_2 x3_1).f1).length c120_1) ∧ w'.cell? ⟨(ad120.add ((x3_1).toNat * 3)).block, (ad120.add ((x3_1).toNat * 3)).off + 2, none⟩ = some (.int .i64 ((rd_T67 l0_2 x3_1).f2))) (ds := []) #[false, false, false, false, false, false, false, false, false] (by kernel_rfl) rfl rfl ⟨(blk_cell BK119.out 0).trans rfl, (blk_cell BK119.out 1).trans rfl, (blk_cell BK119.out 2).trans rfl, ((HB.out.cell (World.block_lt_of_cell? w _ hw120_0)).trans hw120_0), ((HB.out.cell (World.block_lt_of_cell? w _ hw120_1)).trans hw120_1), ((HB.out.cell (World.block_lt_of_cell? w _ hw120_2)).trans hw120_2)⟩ (fun hHeld => ?_); refine with_tabW spec_PuzzleValid.tab4 spec_PuzzleValid.bits4 (fun HT_ HW_ => ?_)
   generalize wr.drew = w8 at BK119 HB HR120_1 hx120_0 hx120_1 hx120_2 hHeld ⊢
   refine yvp 0 11 (yvb 9 1) HT_.out ?_
   refine yvp 2 13 (yvb 9 5) HT_.out ?_
   refine yvp 5 16 (yvb 9 37) HT_.out ?_
   refine yvt 1 12 (yvb 9 39) HT_.out HW_.out hHeld ?_
   refine yvp 3 14 (yvb 9 47) HT_.out ?_
   refine yvt 4 15 (yvb 9 63) HT_.out HW_.out hHeld ?_
   refine yvt 6 17 (yvb 9 127) HT_.out HW_.out hHeld ?_
   refine one_ (i := 7) (N := some 18) #[true, true, true, true, true, true, true, true, false] rfl rfl (one_of HT_.out (by kernel_rfl)) (by decide) (fun K hK => ?_)
   refine goes_ Try.func66 (by kernel_rfl) rfl #[.agg #[.int .i64 ((rd_T67 l0_2 x3_1).f0), .slice A120_1 ((rd_T67 l0_2 x3_1).f1).length c120_1, .int .i64 ((rd_T67 l0_2 x3_1).f2)], .int .i64 a0_0] (by rfl) rfl rfl ymd ?_
   with_reducible refine (spec_RuleValid.calls k1 ((rd_T67 l0_2 x3_1).f0) _ _ ((rd_T67 l0_2 x3_1).f1) ((rd_T67 l0_2 x3_1).f2) a0_0 true _ ?side1 ?side2 A5.out).mono ?_
   (case side1 => exact Kd.Cz ((Kd.C_below HR120_1.out HB.out)))
   (case side2 => exact HC120_1.out)
   rintro e w9 ⟨rfl, hb⟩
   refine ⟨_, rfl, ?_⟩
   replace BK119 := yam (blk_below (g := gb119) (o := .cells #[.int .i64 a0_0, .slice A0_1 l0_1.length c0_1, .slice (some ad120) l0_2.length c0_2] 30 (0, 0)) (ybz BK119.out) hb)
   replace HB := yam (below_step yhb hb)
   (try clear hb)
   (try clear hb2)
   (try clear hk)
   (try clear hi)
   refine hK.out _ _ ⟨(blk_cell BK119.out 0).trans rfl, (blk_cell BK119.out 1).trans rfl, (blk_cell BK119.out 2).trans rfl, ((HB.out.cell (World.block_lt_of_cell? w _ hw120_0)).trans hw120_0), ((HB.out.cell (World.block_lt_of_cell? w _ hw120_1)).trans hw120_1), ((HB.out.cell (World.block_lt_of_cell? w _ hw120_2)).trans hw120_2)⟩ (fun hHeld => ?_)
   clear hK K
   refine norm_ (a' := ?_) ?_ ?_
   rotate_left
   ·show Act.put _ (some 18) _ = _
    simp only [Act.put, yps, i64_w, i32_w]
    rfl
   refine yvp 8 19 (yvb 9 511) HT_.out ?_
   refine done_ (done_of HT_.out (by kernel_rfl)) ?_
   try go_wp2
   go_roundg k1
   case measure => have := HK1.out; omega
   case rel => exact ⟨(wrap64 (x3_1 + 1)), yeq, H', ⟨by have := HK1.out; omega⟩, ⟨by (with_reducible repeat (first | refine ybn ?_ _ | refine ybd ?_ | refine yba ?_ _)); exact BK119.out⟩, ⟨yhb⟩⟩
def spec_MasksValid.l0 : Nat → List Int → Int → Int → Option (Bool)
 | 0, _, _, _ => none
 | k + 1, x0, x1, x5 => if x5 < (x0.length : Int) then (if 0 ≤ x5 then (if 0 ≤ (wrap64 ((Go.bits .and .i64 x1 7) + 1)) then ((spec_l1In.f (rd x0 x5) 0 (wrap64 ((shl .i64 1 (wrap64 ((Go.bits .and .i64 x1 7) + 1))) - 2))).bind fun t124 => (if t124 = true then (if (Int.tmod (rd x0 x5) 2) = 0 then (spec_MasksValid.l0 k x0 x1 (wrap64 (x5 + 1))) else (some false)) else (some false))) else (none)) else (none)) else ((spec_l1In.f x1 2 4).bind fun t126 => (if t126 = true then (some ((x0.length : Int) == (wrap64 (x1 * x1)))) else (some false)))
def spec_MasksValid.f (k : Nat) (l0 : List Int) (a1 : Int) : Option (Bool) := spec_MasksValid.l0 k l0 a1 0
set_option maxHeartbeats 8000000 in
set_option maxRecDepth 100000 in
theorem spec_MasksValid.calls (k : Nat) (A0 : Option Addr) (c0 : Nat) (l0 : List Int) (a1 : Int) (r : Bool) (w : World) (hr0 : Kd.C (Kd.int .i64) w A0 l0.length l0) (hc0 : l0.length ≤ c0) (h : spec_MasksValid.f k l0 a1 = some r) :
  Calls Try.prog 53 #[.slice A0 l0.length c0, .int .i64 a1] w fun e w' => e = .returned (.bool r) ∧ Drawn0 w w' := by
 have HR0 := yam hr0
 have HC0 := yam hc0
 clear hr0 hc0
 have H : (spec_MasksValid.l0 k l0 a1 0) = some r := h
 clear h
 have H' := yam H
 clear H
 go_enter Try.func53, Try.ntmps53
 go_wp2
 repeat (go_quiet (fail); try go_wp2)
 go_loopg [5] k (fun kq v5 w' => ∃ (x5_1 : Int), v5 = .int .i64 x5_1 ∧ Aside0 (spec_MasksValid.l0 kq l0 a1 x5_1 = some r) ∧ Aside0 (kq ≤ k) ∧ Drawn0 w w')
 case atStart => exact ⟨(0), yeq, H', ⟨Nat.le_refl _⟩, by repeat (first | exact Drawn0.refl _ | apply Drawn0.step)⟩
 case round =>
  clear H'
  try clear p2
  obtain ⟨x5_1, rfl, HA, HK1, ⟨m1, rfl⟩⟩ := hrel
  cases gk with
  | zero => exact absurd HA.out (by simp [spec_MasksValid.l0])
  | succ k1 =>
   have H := HA.out
   clear HA
   simp only [spec_MasksValid.l0] at H
   by_cases c3 : x5_1 < (l0.length : Int)
   rotate_left
   ·rw [if_neg c3] at H
    have c3b0 : decide (x5_1 < (l0.length : Int)) = false := decide_eq_false c3
    clear c3
    replace H := Option.bind_eq_some_iff.mp H
    obtain ⟨t126, A110, H⟩ := H
    try dsimp only at H
    have A11 := yam A110
    clear A110
    by_cases c12 : t126 = true
    ·subst c12
     have H1 : (some ((l0.length : Int) == (wrap64 (a1 * a1)))) = some r := by rw [if_pos rfl] at H; exact H
     clear H
     have H := H1
     clear H1
     obtain rfl := Option.some.inj H
     go_wp2_with (first | (go_at_call 39; (with_reducible refine (spec_l1In.calls a1 2 4 true _ A11.out).mono ?_); rintro e w' ⟨rfl, ⟨nd, rfl⟩⟩; (try first | exact ⟨rfl, _, World.drewN_drewN _ _ _⟩ | exact ⟨rfl, _, Eq.trans (World.drewN_drewN _ _ _) (congrArg (World.drewN _) (Nat.add_assoc _ _ _))⟩)))
     repeat (go_quiet (first | (go_at_call 39; (with_reducible refine (spec_l1In.calls a1 2 4 true _ A11.out).mono ?_); rintro e w' ⟨rfl, ⟨nd, rfl⟩⟩; (try first | exact ⟨rfl, _, World.drewN_drewN _ _ _⟩ | exact ⟨rfl, _, Eq.trans (World.drewN_drewN _ _ _) (congrArg (World.drewN _) (Nat.add_assoc _ _ _))⟩))); try go_wp2_with (first | (go_at_call 39; (with_reducible refine (spec_l1In.calls a1 2 4 true _ A11.out).mono ?_); rintro e w' ⟨rfl, ⟨nd, rfl⟩⟩; (try first | exact ⟨rfl, _, World.drewN_drewN _ _ _⟩ | exact ⟨rfl, _, Eq.trans (World.drewN_drewN _ _ _) (congrArg (World.drewN _) (Nat.add_assoc _ _ _))⟩))))
     go_ret
     exact ⟨yeq, by repeat (first | exact Drawn0.refl _ | apply Drawn0.step)⟩
    replace c12 := Bool.eq_false_iff.mpr c12
    subst c12
    have H1 : (some false) = some r := by rw [if_neg (show ¬ (false = true) by decide)] at H; exact H
    clear H
    have H := H1
    clear H1
    obtain rfl := Option.some.inj H
    go_wp2_with (first | (go_at_call 39; (with_reducible refine (spec_l1In.calls a1 2 4 false _ A11.out).mono ?_); rintro e w' ⟨rfl, ⟨nd, rfl⟩⟩; (try first | exact ⟨rfl, _, World.drewN_drewN _ _ _⟩ | exact ⟨rfl, _, Eq.trans (World.drewN_drewN _ _ _) (congrArg (World.drewN _) (Nat.add_assoc _ _ _))⟩)))
    repeat (go_quiet (first | (go_at_call 39; (with_reducible refine (spec_l1In.calls a1 2 4 false _ A11.out).mono ?_); rintro e w' ⟨rfl, ⟨nd, rfl⟩⟩; (try first | exact ⟨rfl, _, World.drewN_drewN _ _ _⟩ | exact ⟨rfl, _, Eq.trans (World.drewN_drewN _ _ _) (congrArg (World.drewN _) (Nat.add_assoc _ _ _))⟩))); try go_wp2_with (first | (go_at_call 39; (with_reducible refine (spec_l1In.calls a1 2 4 false _ A11.out).mono ?_); rintro e w' ⟨rfl, ⟨nd, rfl⟩⟩; (try first | exact ⟨rfl, _, World.drewN_drewN _ _ _⟩ | exact ⟨rfl, _, Eq.trans (World.drewN_drewN _ _ _) (congrArg (World.drewN _) (Nat.add_assoc _ _ _))⟩))))
    go_ret
    exact ⟨yeq, by repeat (first | exact Drawn0.refl _ | apply Drawn0.step)⟩

   rw [if_pos c3] at H
   have c3b0 : decide (x5_1 < (l0.length : Int)) = true := decide_eq_true c3
   clear c3
   replace H := yif H
   obtain ⟨c4b0, H⟩ := H
   obtain ⟨ji5, hji5⟩ : ∃ j_ : Int, (wrap64 ((Go.bits .and .i64 a1 7) + 1)) = j_ := ⟨_, rfl⟩
   replace H : (if 0 ≤ (ji5) then ((spec_l1In.f (rd l0 x5_1) 0 (wrap64 ((shl .i64 1 (ji5)) - 2))).bind fun t124 => (if t124 = true then (if (Int.tmod (rd l0 x5_1) 2) = 0 then (spec_MasksValid.l0 k1 l0 a1 (wrap64 (x5_1 + 1))) else (some false)) else (some false))) else (none)) = some r := by first | (rw [hji5] at H; exact H) | (simp only [hji5] at H ⊢; exact H)
   have hji5w : (IntKind.i64.wrap ((Go.bits .and .i64 a1 7) + 1)) = ji5 := (i64_w _).trans hji5
   replace H := yig H
   obtain ⟨c6, H⟩ := H
   have c6b0 := eq_true c6
   have c6b1 : decide (0 ≤ (ji5)) = true := decide_eq_true c6
   clear c6
   obtain ⟨ji7, hji7⟩ : ∃ j_ : Int, (shl .i64 1 (ji5)) = j_ := ⟨_, rfl⟩
   replace H : ((spec_l1In.f (rd l0 x5_1) 0 (wrap64 ((ji7) - 2))).bind fun t124 => (if t124 = true then (if (Int.tmod (rd l0 x5_1) 2) = 0 then (spec_MasksValid.l0 k1 l0 a1 (wrap64 (x5_1 + 1))) else (some false)) else (some false))) = some r := by first | (rw [hji7] at H; exact H) | (simp only [hji7] at H ⊢; exact H)
   have hji7_ : (IntKind.i64.wrap (1 * 2 ^ min (ji5).toNat 64)) = ji7 := hji7
   have hji7z : (ji5) ≤ 64 → (IntKind.i64.wrap (1 * 2 ^ (ji5).toNat)) = ji7 := shl_small hji7
   have hji7u : (IntKind.i64.wrap (2 ^ min (ji5).toNat 64)) = ji7 := by have h_ := hji7_; rw [Int.one_mul] at h_; exact h_
   have hji7v : (ji5) ≤ 64 → (IntKind.i64.wrap (2 ^ (ji5).toNat)) = ji7 := fun hle_ => by have h_ := hji7z hle_; rw [Int.one_mul] at h_; exact h_
   have hji7y : (wrap64 (1 * 2 ^ min (ji5).toNat 64)) = ji7 := (i64_w _).symm.trans hji7_
   have hji7x : (ji5) ≤ 64 → (wrap64 (1 * 2 ^ (ji5).toNat)) = ji7 := fun h_ => (i64_w _).symm.trans (hji7z h_)
   replace H := Option.bind_eq_some_iff.mp H
   obtain ⟨t124, A80, H⟩ := H
   try dsimp only at H
   have A8 := yam A80
   clear A80
   by_cases c9 : t124 = true
   rotate_left
   ·replace c9 := Bool.eq_false_iff.mpr c9
    subst c9
    have H1 : (some false) = some r := by rw [if_neg (show ¬ (false = true) by decide)] at H; exact H
    clear H
    have H := H1
    clear H1
    obtain rfl := Option.some.inj H
    have p123 : 0 ≤ (x5_1 : Int) := ydt
    have q123 : x5_1 < (l0.length : Int) := ydt
    obtain ⟨ad123, e123, hx123_0⟩ := Kd.at_int HR0.out x5_1 p123 q123
    cases e123
    replace p123 := eq_true p123
    replace q123 := eq_true q123
    have hwq0_ : IntKind.i64.wrap ((ji7) - 2) = wrap64 ((ji7) - 2) := i64_w _
    go_wp2_with (first | (go_at_call 39; (with_reducible refine (spec_l1In.calls (rd l0 x5_1) 0 (wrap64 ((ji7) - 2)) false _ A8.out).mono ?_); rintro e w' ⟨rfl, ⟨nd, rfl⟩⟩; (try first | exact ⟨rfl, _, World.drewN_drewN _ _ _⟩ | exact ⟨rfl, _, Eq.trans (World.drewN_drewN _ _ _) (congrArg (World.drewN _) (Nat.add_assoc _ _ _))⟩)))
    repeat (go_quiet (first | (go_at_call 39; (with_reducible refine (spec_l1In.calls (rd l0 x5_1) 0 (wrap64 ((ji7) - 2)) false _ A8.out).mono ?_); rintro e w' ⟨rfl, ⟨nd, rfl⟩⟩; (try first | exact ⟨rfl, _, World.drewN_drewN _ _ _⟩ | exact ⟨rfl, _, Eq.trans (World.drewN_drewN _ _ _) (congrArg (World.drewN _) (Nat.add_assoc _ _ _))⟩))); try go_wp2_with (first | (go_at_call 39; (with_reducible refine (spec_l1In.calls (rd l0 x5_1) 0 (wrap64 ((ji7) - 2)) false _ A8.out).mono ?_); rintro e w' ⟨rfl, ⟨nd, rfl⟩⟩; (try first | exact ⟨rfl, _, World.drewN_drewN _ _ _⟩ | exact ⟨rfl, _, Eq.trans (World.drewN_drewN _ _ _) (congrArg (World.drewN _) (Nat.add_assoc _ _ _))⟩))))
    go_ret
    exact ⟨by first | rfl | (simp; done) | (simp only [← hji5, ← hji7] <;> (first | rfl | simp)) | (simp [*]; done), by repeat (first | exact Drawn0.refl _ | apply Drawn0.step)⟩
   subst c9
   have H1 : (if (Int.tmod (rd l0 x5_1) 2) = 0 then (spec_MasksValid.l0 k1 l0 a1 (wrap64 (x5_1 + 1))) else (some false)) = some r := by rw [if_pos rfl] at H; exact H
   clear H
   have H := H1
   clear H1
   by_cases c10 : (Int.tmod (rd l0 x5_1) 2) = 0
   rotate_left
   ·rw [if_neg c10] at H
    have c10b0 : ((Int.tmod (rd l0 x5_1) 2) == 0) = false := beq_eq_false_iff_ne.mpr c10
    have c10b1 : ((Int.tmod (rd l0 x5_1) 2) != 0) = true := bne_iff_ne.mpr c10
    obtain rfl := Option.some.inj H
    have p123 : 0 ≤ (x5_1 : Int) := ydt
    have q123 : x5_1 < (l0.length : Int) := ydt
    obtain ⟨ad123, e123, hx123_0⟩ := Kd.at_int HR0.out x5_1 p123 q123
    cases e123
    replace p123 := eq_true p123
    replace q123 := eq_true q123
    have hwq0_ : IntKind.i64.wrap ((ji7) - 2) = wrap64 ((ji7) - 2) := i64_w _
    go_wp2_with (first | (go_at_call 39; (with_reducible refine (spec_l1In.calls (rd l0 x5_1) 0 (wrap64 ((ji7) - 2)) true _ A8.out).mono ?_); rintro e w' ⟨rfl, ⟨nd, rfl⟩⟩; (try first | exact ⟨rfl, _, World.drewN_drewN _ _ _⟩ | exact ⟨rfl, _, Eq.trans (World.drewN_drewN _ _ _) (congrArg (World.drewN _) (Nat.add_assoc _ _ _))⟩); have p125 : 0 ≤ (x5_1 : Int) := ydt; have q125 : x5_1 < (l0.length : Int) := ydt; obtain ⟨ad125, e125, hx125_0⟩ := Kd.at_int HR0.out x5_1 p125 q125; obtain rfl : ad123 = ad125 := (by injection e125); replace p125 := eq_true p125; replace q125 := eq_true q125))
    repeat (go_quiet (first | (go_at_call 39; (with_reducible refine (spec_l1In.calls (rd l0 x5_1) 0 (wrap64 ((ji7) - 2)) true _ A8.out).mono ?_); rintro e w' ⟨rfl, ⟨nd, rfl⟩⟩; (try first | exact ⟨rfl, _, World.drewN_drewN _ _ _⟩ | exact ⟨rfl, _, Eq.trans (World.drewN_drewN _ _ _) (congrArg (World.drewN _) (Nat.add_assoc _ _ _))⟩); have p125 : 0 ≤ (x5_1 : Int) := ydt; have q125 : x5_1 < (l0.length : Int) := ydt; obtain ⟨ad125, e125, hx125_0⟩ := Kd.at_int HR0.out x5_1 p125 q125; obtain rfl : ad123 = ad125 := (by injection e125); replace p125 := eq_true p125; replace q125 := eq_true q125)); try go_wp2_with (first | (go_at_call 39; (with_reducible refine (spec_l1In.calls (rd l0 x5_1) 0 (wrap64 ((ji7) - 2)) true _ A8.out).mono ?_); rintro e w' ⟨rfl, ⟨nd, rfl⟩⟩; (try first | exact ⟨rfl, _, World.drewN_drewN _ _ _⟩ | exact ⟨rfl, _, Eq.trans (World.drewN_drewN _ _ _) (congrArg (World.drewN _) (Nat.add_assoc _ _ _))⟩); have p125 : 0 ≤ (x5_1 : Int) := ydt; have q125 : x5_1 < (l0.length : Int) := ydt; obtain ⟨ad125, e125, hx125_0⟩ := Kd.at_int HR0.out x5_1 p125 q125; obtain rfl : ad123 = ad125 := (by injection e125); replace p125 := eq_true p125; replace q125 := eq_true q125)))
    go_ret
    exact ⟨by first | rfl | (simp; done) | (simp only [← hji5, ← hji7] <;> (first | rfl | simp)) | (simp [*]; done), by repeat (first | exact Drawn0.refl _ | apply Drawn0.step)⟩
   rw [if_pos c10] at H
   have c10b0 : ((Int.tmod (rd l0 x5_1) 2) == 0) = true := beq_iff_eq.mpr c10
   have c10b1 : ((Int.tmod (rd l0 x5_1) 2) != 0) = false := bne_eq_false_iff_eq.mpr c10
   clear c10
   have H' := yam H
   clear H
   have p123 : 0 ≤ (x5_1 : Int) := ydt
   have q123 : x5_1 < (l0.length : Int) := ydt
   obtain ⟨ad123, e123, hx123_0⟩ := Kd.at_int HR0.out x5_1 p123 q123
   cases e123
   replace p123 := eq_true p123
   replace q123 := eq_true q123
   have hwq0_ : IntKind.i64.wrap ((ji7) - 2) = wrap64 ((ji7) - 2) := i64_w _
   go_wp2_with (first | (go_at_call 39; (with_reducible refine (spec_l1In.calls (rd l0 x5_1) 0 (wrap64 ((ji7) - 2)) true _ A8.out).mono ?_); rintro e w' ⟨rfl, ⟨nd, rfl⟩⟩; (try first | exact ⟨rfl, _, World.drewN_drewN _ _ _⟩ | exact ⟨rfl, _, Eq.trans (World.drewN_drewN _ _ _) (congrArg (World.drewN _) (Nat.add_assoc _ _ _))⟩); have p125 : 0 ≤ (x5_1 : Int) := ydt; have q125 : x5_1 < (l0.length : Int) := ydt; obtain ⟨ad125, e125, hx125_0⟩ := Kd.at_int HR0.out x5_1 p125 q125; obtain rfl : ad123 = ad125 := (by injection e125); replace p125 := eq_true p125; replace q125 := eq_true q125))
   repeat (go_quiet (first | (go_at_call 39; (with_reducible refine (spec_l1In.calls (rd l0 x5_1) 0 (wrap64 ((ji7) - 2)) true _ A8.out).mono ?_); rintro e w' ⟨rfl, ⟨nd, rfl⟩⟩; (try first | exact ⟨rfl, _, World.drewN_drewN _ _ _⟩ | exact ⟨rfl, _, Eq.trans (World.drewN_drewN _ _ _) (congrArg (World.drewN _) (Nat.add_assoc _ _ _))⟩); have p125 : 0 ≤ (x5_1 : Int) := ydt; have q125 : x5_1 < (l0.length : Int) := ydt; obtain ⟨ad125, e125, hx125_0⟩ := Kd.at_int HR0.out x5_1 p125 q125; obtain rfl : ad123 = ad125 := (by injection e125); replace p125 := eq_true p125; replace q125 := eq_true q125)); try go_wp2_with (first | (go_at_call 39; (with_reducible refine (spec_l1In.calls (rd l0 x5_1) 0 (wrap64 ((ji7) - 2)) true _ A8.out).mono ?_); rintro e w' ⟨rfl, ⟨nd, rfl⟩⟩; (try first | exact ⟨rfl, _, World.drewN_drewN _ _ _⟩ | exact ⟨rfl, _, Eq.trans (World.drewN_drewN _ _ _) (congrArg (World.drewN _) (Nat.add_assoc _ _ _))⟩); have p125 : 0 ≤ (x5_1 : Int) := ydt; have q125 : x5_1 < (l0.length : Int) := ydt; obtain ⟨ad125, e125, hx125_0⟩ := Kd.at_int HR0.out x5_1 p125 q125; obtain rfl : ad123 = ad125 := (by injection e125); replace p125 := eq_true p125; replace q125 := eq_true q125)))
   go_roundg k1
   case measure => have := HK1.out; omega
   case rel => exact ⟨(wrap64 (x5_1 + 1)), yeq, H', ⟨by have := HK1.out; omega⟩, by repeat (first | exact Drawn0.refl _ | apply Drawn0.step)⟩
def spec_l6Copy.f (l0 : List Int) : Option (List Int) := (some (([] : List Int) : List Int)).bind fun y127 => (if y127.length + l0.length < 17592186044416 then (some (y127 ++ l0)) else (none))
set_option maxHeartbeats 8000000 in
set_option maxRecDepth 100000 in
theorem spec_l6Copy.calls (A0 : Option Addr) (c0 : Nat) (l0 : List Int) (r : List Int) (w : World) (hr0 : Kd.C (Kd.int .i64) w A0 l0.length l0) (hc0 : l0.length ≤ c0) (h : spec_l6Copy.f l0 = some r) :
  Calls Try.prog 62 #[.slice A0 l0.length c0] w fun e w' => ∃ v0_ : Value, e = .returned (v0_) ∧ Kd.R (Kd.int .i64) 3 w' w.heap.size (fun _ => True) v0_ r ∧ Below w.heap.size w w' := by
 have HR0 := yam hr0
 have HC0 := yam hc0
 clear hr0 hc0
 have HB := yam (Below.refl w.heap.size w)
 have H : ((some (([] : List Int) : List Int)).bind fun y127 => (if y127.length + l0.length < 17592186044416 then (some (y127 ++ l0)) else (none))) = some r := h
 clear h
 obtain ⟨y127, hy127⟩ : ∃ y_ : List Int, y_ = (([] : List Int)) := ⟨_, rfl⟩
 replace H : (if y127.length + l0.length < 17592186044416 then (some (y127 ++ l0)) else (none)) = some r := by first | (rw [hy127]; with_reducible exact H) | (have H2_ := (Option.bind_some _ _).symm.trans H; rw [hy127]; with_reducible exact H2_) | (have H2_ := (Option.bind_some _ _).symm.trans H; with_reducible exact H2_) | with_reducible exact H | (rw [hy127]; exact H) | exact H
 have Ny127 := yam hy127
 clear hy127
 by_cases c2 : y127.length + l0.length < 17592186044416
 rotate_left
 ·rw [if_neg c2] at H
  exact absurd H (by simp)

 rw [if_pos c2] at H
 have LMc2 := yam c2
 clear c2
 obtain ⟨y130, hy130⟩ : ∃ y_ : List Int, y_ = (y127 ++ l0) := ⟨_, rfl⟩
 replace H : (some y130) = some r := by first | (rw [hy130]; with_reducible exact H) | (have H2_ := (Option.bind_some _ _).symm.trans H; rw [hy130]; with_reducible exact H2_) | (have H2_ := (Option.bind_some _ _).symm.trans H; with_reducible exact H2_) | with_reducible exact H | (rw [hy130]; exact H) | exact H
 have Ny130 := yam hy130
 clear hy130
 obtain rfl := Option.some.inj H
 go_enter Try.func62, Try.ntmps62
 go_wp2_with (first | ((with_reducible refine gate_dst (N := 3) rfl ?_); refine Kd.R_lit (Kd.int .i64) _ 3 ?hg (N := 3) ?hd (xs := ([] : List Int)) (inner := []) (ok := fun _ => True) (okp := fun _ => True) ?hr ?hp (fun _ hk => hk) trivial (Below.refl _ _) (Nat.le_refl _) (by simp) ?_; (case hd => rfl); (case hg => rfl); (case hr => first | (go_simp; done) | (go_simp; rfl)); (case hp => exact (Reps.none _ _)); intro v128 w3 ho4 hb hg_ hnew_; clear hg_ hnew_; (first | rw [← Ny127.out] at ho4 | (simp only [Int.reduceToNat] at ho4; rw [← Ny127.out] at ho4)); have HO129 := yam (Kd.R_lower ho4 (below_size (yez HB.out))); replace HB := yam (below_step (yez HB.out) hb); clear hb ho4) | ((with_reducible refine gate_builtin (b := .append) (xs := #[.tmp 3, .tmp 4]) rfl ?_); at_builtin; refine Kd.R_append_rows (Kd.int .i64) (w0 := w) w.heap.size rfl (.tmp 3) (.tmp 4) 22 3 (.int .i64 0) 8 rfl Try.underlying22 info3 rfl (by decide) (by omega) v128 y127 l0 _ _ _ (fun _ => True) (fun _ => False) rfl rfl ?aO ?aR (fun _ _ h => h) (fun _ h => h.elim) ?aF ?aB ?aS ?aL ?_; (case aR => exact Kd.Cz ((Kd.C_below HR0.out HB.out))); (case aB => exact (yez HB.out)); (case aF => exact (fun _ _ => trivial)); (case aO => exact (Kd.Yz HO129.out)); (case aS => exact (below_size (yez HB.out))); (case aL => have := LMc2.out; omega); intro v131 w5 ho hb hg hat; rw [← Ny130.out] at ho; replace HB := yam (hb); have HO132 := yam (ho); clear HO129; clear ho hb hg hat))
 go_ret
 exact ⟨_, yer, yka HO132.out, yhb⟩
mutual
def spec_MaskValues.l0 : Nat → Int → List Int → Int → Option (List Int)
 | 0, _, _, _ => none
 | k + 1, x0, x3, x4 => if x4 ≤ 4 then ((spec_l1In.f x0 0 30).bind fun t136 => (if t136 = true then (spec_MaskValues.j1 k x0 x3 x4 ((Int.tmod x0 2) == 0)) else (spec_MaskValues.j1 k x0 x3 x4 false))) else (spec_MaskValues.j1 k x0 x3 x4 false)
def spec_MaskValues.j1 : Nat → Int → List Int → Int → Bool → Option (List Int)
 | 0, _, _, _, _ => none
 | k + 1, x0, x3, x4, x16 => if x16 = true then (if 0 ≤ x4 then (if (Int.tmod (shr .i64 x0 x4) 2) = 1 then (if x3.length < 17592186044416 then (spec_MaskValues.l0 k x0 (x3 ++ [x4]) (wrap64 (x4 + 1))) else (none)) else (spec_MaskValues.l0 k x0 x3 (wrap64 (x4 + 1)))) else (none)) else (some x3)
end
def spec_MaskValues.f (k : Nat) (a0 : Int) : Option (List Int) := spec_MaskValues.l0 k a0 (([] : List Int)) 1
theorem spec_MaskValues.mono_l : ∀ k, (∀ y0 y1 y2, LeO (spec_MaskValues.l0 k y0 y1 y2) (spec_MaskValues.l0 (k + 1) y0 y1 y2)) ∧ (∀ y0 y1 y2 y3, LeO (spec_MaskValues.j1 k y0 y1 y2 y3) (spec_MaskValues.j1 (k + 1) y0 y1 y2 y3))
 | 0 => ⟨fun _ _ _ r h => by simp [spec_MaskValues.l0] at h, fun _ _ _ _ r h => by simp [spec_MaskValues.j1] at h⟩
 | k + 1 => by
  obtain ⟨ih0, ih1⟩ := spec_MaskValues.mono_l k
  refine ⟨?_, ?_⟩
  ·intro y0 y1 y2
   unfold spec_MaskValues.l0
   repeat' first
   | (with_reducible exact ih0 _ _ _)
   | (with_reducible exact ih1 _ _ _ _)
   | (with_reducible exact LeO.refl _)
   | (with_reducible exact LeO.none _)
   | (with_reducible refine LeO.ite ?_ ?_)
   | (with_reducible refine LeO.bind ?_ (fun _ => ?_))
   | exact ih0 _ _ _
   | exact ih1 _ _ _ _
   | exact LeO.none _
   | refine LeO.ite ?_ ?_
   | refine LeO.bind ?_ (fun _ => ?_)
  ·intro y0 y1 y2 y3
   unfold spec_MaskValues.j1
   repeat' first
   | (with_reducible exact ih0 _ _ _)
   | (with_reducible exact ih1 _ _ _ _)
   | (with_reducible exact LeO.refl _)
   | (with_reducible exact LeO.none _)
   | (with_reducible refine LeO.ite ?_ ?_)
   | (with_reducible refine LeO.bind ?_ (fun _ => ?_))
   | exact ih0 _ _ _
   | exact ih1 _ _ _ _
   | exact LeO.none _
   | refine LeO.ite ?_ ?_
   | refine LeO.bind ?_ (fun _ => ?_)
theorem spec_MaskValues.mono : ∀ a0 k, LeO (spec_MaskValues.f k a0) (spec_MaskValues.f (k + 1) a0) := by
 intro a0 k
 obtain ⟨ih0, ih1⟩ := spec_MaskValues.mono_l k
 unfold spec_MaskValues.f
 repeat' first
   | (with_reducible exact ih0 _ _ _)
   | (with_reducible exact ih1 _ _ _ _)
   | (with_reducible exact LeO.refl _)
   | (with_reducible exact LeO.none _)
   | (with_reducible refine LeO.ite ?_ ?_)
   | (with_reducible refine LeO.bind ?_ (fun _ => ?_))
   | exact ih0 _ _ _
   | exact ih1 _ _ _ _
   | exact LeO.none _
   | refine LeO.ite ?_ ?_
   | refine LeO.bind ?_ (fun _ => ?_)
set_option maxHeartbeats 8000000 in
set_option maxRecDepth 100000 in
theorem spec_MaskValues.calls (k : Nat) (a0 : Int) (r : List Int) (w : World) (h : spec_MaskValues.f k a0 = some r) :
  Calls Try.prog 72 #[.int .i64 a0] w fun e w' => ∃ v0_ : Value, e = .returned (v0_) ∧ Kd.R (Kd.int .i64) 3 w' w.heap.size (fun _ => True) v0_ r ∧ Below w.heap.size w w' := by
 have HB := yam (Below.refl w.heap.size w)
 have H : (spec_MaskValues.l0 k a0 (([] : List Int)) 1) = some r := h
 clear h
 obtain ⟨y133, hy133⟩ : ∃ y_ : List Int, y_ = (([] : List Int)) := ⟨_, rfl⟩
 replace H : (spec_MaskValues.l0 k a0 y133 1) = some r := by first | (rw [hy133]; with_reducible exact H) | (have H2_ := (Option.bind_some _ _).symm.trans H; rw [hy133]; with_reducible exact H2_) | (have H2_ := (Option.bind_some _ _).symm.trans H; with_reducible exact H2_) | with_reducible exact H | (rw [hy133]; exact H) | exact H
 have Ny133 := yam hy133
 clear hy133
 have H' := yam H
 clear H
 go_enter Try.func72, Try.ntmps72
 go_wp2_with (first | ((with_reducible refine gate_dst (N := 5) rfl ?_); refine Kd.R_lit (Kd.int .i64) _ 3 ?hg (N := 5) ?hd (xs := ([] : List Int)) (inner := []) (ok := fun _ => True) (okp := fun _ => True) ?hr ?hp (fun _ hk => hk) trivial (Below.refl _ _) (Nat.le_refl _) (by simp) ?_; (case hd => rfl); (case hg => rfl); (case hr => first | (go_simp; done) | (go_simp; rfl)); (case hp => exact (Reps.none _ _)); intro v134 w2 ho3 hb hg_ hnew_; clear hg_ hnew_; (first | rw [← Ny133.out] at ho3 | (simp only [Int.reduceToNat] at ho3; rw [← Ny133.out] at ho3)); have HO135 := yam (Kd.R_lower ho3 (below_size (yez HB.out))); replace HB := yam (below_step (yez HB.out) hb); clear hb ho3))
 go_loopg [3, 4] k (fun kq v3 v4 w' => ∃ (x3_1 : List Int) (x4_1 : Int), v4 = .int .i64 x4_1 ∧ Aside0 (spec_MaskValues.l0 kq a0 x3_1 x4_1 = some r) ∧ Aside0 (kq ≤ k) ∧ Aside0 (Kd.R (Kd.int .i64) 3 w' w.heap.size (fun _ => True) v3 x3_1) ∧ Aside0 (Below w.heap.size w w'))
 case atStart => exact ⟨(y133), (1), yeq, H', ⟨Nat.le_refl _⟩, ⟨yka HO135.out⟩, ⟨yhb⟩⟩
 case round =>
  clear H'
  try clear p2
  obtain ⟨x3_1, x4_1, rfl, HA, HK1, HO_3, HB⟩ := hrel
  cases gk with
  | zero => exact absurd HA.out (by simp [spec_MaskValues.l0])
  | succ k1 =>
   have H := HA.out
   clear HA
   simp only [spec_MaskValues.l0] at H
   have HC4 := yam H
   clear H
   go_upto_region 3 with (fail)
   go_cut [16] (fun v16 wc => ∃ (kq : Nat) (x16_3 : Bool), v16 = .bool x16_3 ∧ Aside0 (spec_MaskValues.j1 kq a0 x3_1 x4_1 x16_3 = some r) ∧ Aside0 (kq ≤ k1) ∧ Aside0 (Kd.R (Kd.int .i64) 3 wc w.heap.size (fun _ => True) u3 x3_1) ∧ Aside0 (Below w.heap.size w wc))
   case first =>
    have H := HC4.out
    clear HC4
    by_cases c5 : x4_1 ≤ 4
    rotate_left
    ·rw [if_neg c5] at H
     have c5b0 : decide (x4_1 ≤ 4) = false := decide_eq_false c5
     clear c5
     (first | rw [c5b0] | (simp only [i64_w, i32_w]; rw [c5b0]) | skip)
     have H' := yam H
     clear H
     go_wp2
     go_meet
     case rel => exact ⟨_, (false), yeq, H', ⟨by have := HK1.out; first | omega | exact Nat.le_refl _⟩, ⟨yka HO_3.out⟩, ⟨yhb⟩⟩
    rw [if_pos c5] at H
    have c5b0 : decide (x4_1 ≤ 4) = true := decide_eq_true c5
    clear c5
    (first | rw [c5b0] | (simp only [i64_w, i32_w]; rw [c5b0]) | skip)
    replace H := Option.bind_eq_some_iff.mp H
    obtain ⟨t136, A60, H⟩ := H
    try dsimp only at H
    have A6 := yam A60
    clear A60
    by_cases c7 : t136 = true
    ·subst c7
     have H1 : (spec_MaskValues.j1 k1 a0 x3_1 x4_1 ((Int.tmod a0 2) == 0)) = some r := by rw [if_pos rfl] at H; exact H
     clear H
     have H := H1
     clear H1
     have H' := yam H
     clear H
     go_wp2_with (first | (go_at_call 39; (with_reducible refine (spec_l1In.calls a0 0 30 true _ A6.out).mono ?_); rintro e w' ⟨rfl, ⟨nd, rfl⟩⟩))
     go_meet
     case rel => exact ⟨_, (((Int.tmod a0 2) == 0)), yeq, H', ⟨by have := HK1.out; first | omega | exact Nat.le_refl _⟩, ⟨yka HO_3.out⟩, ⟨yhb⟩⟩
    replace c7 := Bool.eq_false_iff.mpr c7
    subst c7
    have H1 : (spec_MaskValues.j1 k1 a0 x3_1 x4_1 false) = some r := by rw [if_neg (show ¬ (false = true) by decide)] at H; exact H
    clear H
    have H := H1
    clear H1
    have H' := yam H
    clear H
    go_wp2_with (first | (go_at_call 39; (with_reducible refine (spec_l1In.calls a0 0 30 false _ A6.out).mono ?_); rintro e w' ⟨rfl, ⟨nd, rfl⟩⟩))
    go_meet
    case rel => exact ⟨_, (false), yeq, H', ⟨by have := HK1.out; first | omega | exact Nat.le_refl _⟩, ⟨yka HO_3.out⟩, ⟨yhb⟩⟩
   case rest =>
    clear HC4
    try clear p2
    try clear c5
    try clear c5b0
    try clear c7
    try clear p2
    obtain ⟨kq, x16_3, rfl, HA, HJ3, HO_3, HB⟩ := hcut
    cases kq with
    | zero => exact absurd HA.out (by simp [spec_MaskValues.j1])
    | succ kj3 =>
     have H := HA.out
     clear HA
     simp only [spec_MaskValues.j1] at H
     by_cases c8 : x16_3 = true
     rotate_left
     ·replace c8 := Bool.eq_false_iff.mpr c8
      subst c8
      have H1 : (some x3_1) = some r := by rw [if_neg (show ¬ (false = true) by decide)] at H; exact H
      clear H
      have H := H1
      clear H1
      obtain rfl := Option.some.inj H
      go_wp2
      go_ret
      exact ⟨_, yer, yka HO_3.out, yhb⟩

     subst c8
     have H1 : (if 0 ≤ x4_1 then (if (Int.tmod (shr .i64 a0 x4_1) 2) = 1 then (if x3_1.length < 17592186044416 then (spec_MaskValues.l0 kj3 a0 (x3_1 ++ [x4_1]) (wrap64 (x4_1 + 1))) else (none)) else (spec_MaskValues.l0 kj3 a0 x3_1 (wrap64 (x4_1 + 1)))) else (none)) = some r := by rw [if_pos rfl] at H; exact H
     clear H
     have H := H1
     clear H1
     replace H := yig H
     obtain ⟨c9, H⟩ := H
     have c9b0 := eq_true c9
     have c9b1 : decide (0 ≤ x4_1) = true := decide_eq_true c9
     clear c9
     obtain ⟨ji10, hji10⟩ : ∃ j_ : Int, (shr .i64 a0 x4_1) = j_ := ⟨_, rfl⟩
     replace H : (if (Int.tmod (ji10) 2) = 1 then (if x3_1.length < 17592186044416 then (spec_MaskValues.l0 kj3 a0 (x3_1 ++ [x4_1]) (wrap64 (x4_1 + 1))) else (none)) else (spec_MaskValues.l0 kj3 a0 x3_1 (wrap64 (x4_1 + 1)))) = some r := by first | (rw [hji10] at H; exact H) | (simp only [hji10] at H ⊢; exact H)
     have hji10_ : (a0 / 2 ^ min x4_1.toNat 64) = ji10 := hji10
     have hji10z : x4_1 ≤ 64 → (a0 / 2 ^ x4_1.toNat) = ji10 := shr_small hji10
     by_cases c11 : (Int.tmod (ji10) 2) = 1
     rotate_left
     ·rw [if_neg c11] at H
      have c11b0 : ((Int.tmod (ji10) 2) == 1) = false := beq_eq_false_iff_ne.mpr c11
      have c11b1 : ((Int.tmod (ji10) 2) != 1) = true := bne_iff_ne.mpr c11
      have H' := yam H
      clear H
      go_wp2
      go_roundg kj3
      case measure => have := HK1.out; have := HJ3.out; omega
      case rel => exact ⟨(x3_1), (wrap64 (x4_1 + 1)), yeq, H', ⟨by have := HK1.out; have := HJ3.out; omega⟩, ⟨yka HO_3.out⟩, ⟨yhb⟩⟩
     rw [if_pos c11] at H
     have c11b0 : ((Int.tmod (ji10) 2) == 1) = true := beq_iff_eq.mpr c11
     have c11b1 : ((Int.tmod (ji10) 2) != 1) = false := bne_eq_false_iff_eq.mpr c11
     clear c11
     replace H := yig H
     obtain ⟨c12, H⟩ := H
     have LMc12 := yam c12
     clear c12
     obtain ⟨y137, hy137⟩ : ∃ y_ : List Int, y_ = (x3_1 ++ [x4_1]) := ⟨_, rfl⟩
     replace H : (spec_MaskValues.l0 kj3 a0 y137 (wrap64 (x4_1 + 1))) = some r := by first | (rw [hy137]; with_reducible exact H) | (have H2_ := (Option.bind_some _ _).symm.trans H; rw [hy137]; with_reducible exact H2_) | (have H2_ := (Option.bind_some _ _).symm.trans H; with_reducible exact H2_) | with_reducible exact H | (rw [hy137]; exact H) | exact H
     have Ny137 := yam hy137
     clear hy137
     have H' := yam H
     clear H
     go_wp2_with (first | ((with_reducible refine gate_builtin (b := .append) (xs := #[.tmp 24, .tmp 26]) rfl ?_); at_builtin; refine Kd.R_append (Kd.int .i64) (w0 := w) w.heap.size rfl (.tmp 24) (.tmp 26) 22 3 (.int .i64 0) 8 rfl Try.underlying22 info3 rfl (by decide) (by omega) u3 x3_1 x4_1 [.int .i64 x4_1] (fun _ => True) (fun _ => False) rfl rfl ?aP (fun _ hk => hk.elim) ?aF ?aO ?aB ?aS ?aL ?_; (case aP => exact rfl); (case aB => exact (yez HB.out)); (case aF => exact (fun _ _ => trivial)); (case aO => exact (Kd.Yz HO_3.out)); (case aS => exact (below_size (yez HB.out))); (case aL => have := LMc12.out; omega); intro v138 w13 ho hb hg hat; rw [← Ny137.out] at ho; replace HB := yam (hb); have HO139 := yam (ho); clear HO_3; clear ho hb hg hat))
     go_roundg kj3
     case measure => have := HK1.out; have := HJ3.out; omega
     case rel => exact ⟨(y137), (wrap64 (x4_1 + 1)), yeq, H', ⟨by have := HK1.out; have := HJ3.out; omega⟩, ⟨yka HO139.out⟩, ⟨yhb⟩⟩
mutual
def spec_NarrowSingles.l0 : Nat → List Int → Int → List Int → Int → Option (List Int)
 | 0, _, _, _, _ => none
 | k + 1, x0, x1, x5, x6 => if x6 < (x0.length : Int) then (if 0 ≤ x6 then ((spec_MaskValues.f k (rd x0 x6)).bind fun t148 => (if (t148.length : Int) = 1 then (spec_NarrowSingles.l1 k x0 x1 x5 x6 0) else (spec_NarrowSingles.l0 k x0 x1 x5 (wrap64 (x6 + 1))))) else (none)) else (some x5)
def spec_NarrowSingles.l1 : Nat → List Int → Int → List Int → Int → Int → Option (List Int)
 | 0, _, _, _, _, _ => none
 | k + 1, x0, x1, x5, x6, x7 => if x7 < (x0.length : Int) then (if x7 = x6 then (spec_NarrowSingles.l1 k x0 x1 x5 x6 (wrap64 (x7 + 1))) else (if x1 = 0 then (none) else (if (wrap64 (Int.tdiv x7 x1)) = (wrap64 (Int.tdiv x6 x1)) then (if 0 ≤ x7 then (if x7 < (x5.length : Int) then (if 0 ≤ x6 then (if x6 < (x0.length : Int) then (spec_NarrowSingles.l1 k x0 x1 (x5.set (x7 : Int).toNat (Go.bits .andNot .i64 (rd x5 x7) (rd x0 x6))) x6 (wrap64 (x7 + 1))) else (none)) else (none)) else (none)) else (none)) else (if (Int.tmod x7 x1) = (Int.tmod x6 x1) then (if 0 ≤ x7 then (if x7 < (x5.length : Int) then (if 0 ≤ x6 then (if x6 < (x0.length : Int) then (spec_NarrowSingles.l1 k x0 x1 (x5.set (x7 : Int).toNat (Go.bits .andNot .i64 (rd x5 x7) (rd x0 x6))) x6 (wrap64 (x7 + 1))) else (none)) else (none)) else (none)) else (none)) else (spec_NarrowSingles.l1 k x0 x1 x5 x6 (wrap64 (x7 + 1))))))) else (spec_NarrowSingles.l0 k x0 x1 x5 (wrap64 (x6 + 1)))
end
def spec_NarrowSingles.f (k : Nat) (l0 : List Int) (a1 : Int) : Option (List Int) := (spec_MasksValid.f k l0 a1).bind fun t140 => (if t140 = true then ((spec_l6Copy.f l0).bind fun t144 => (spec_NarrowSingles.l0 k l0 a1 t144 0)) else (some (([] : List Int))))
def spec_NarrowSingles.T11 : Bool × List (List Nat × List Nat) := (true, [([], []), ([], []), ([0, 1], [0, 1]), ([2], [2]), ([3], [3]), ([3], [3]), ([4, 5, 3], [3, 4, 5]), ([3], [3]), ([3], [3]), ([7, 8, 3], [3, 7, 8]), ([6, 9, 3], [3, 6, 9]), ([10, 3, 3], [3, 10]), ([11], [11]), ([11], [11]), ([12, 13, 11], [11, 12, 13]), ([11], [11]), ([11], [11]), ([15, 16, 11], [11, 15, 16]), ([14, 17, 11], [11, 14, 17]), ([11, 18, 3], [3, 11, 18]), ([3, 19], [3, 19])])
def spec_NarrowSingles.B11 : List Nat := [0, 0, 3, 7, 15, 15, 63, 15, 15, 399, 1023, 2047, 4095, 4095, 16383, 4095, 4095, 102399, 262143, 524287, 1048575]
theorem spec_NarrowSingles.tab11 : rtab .any (opsOf Try.f54 11) = spec_NarrowSingles.T11 := by kernel_rfl
theorem spec_NarrowSingles.bits11 : waitsOk spec_NarrowSingles.T11.2 spec_NarrowSingles.B11 = true := by kernel_rfl
def spec_NarrowSingles.T12 : Bool × List (List Nat × List Nat) := (true, [([], []), ([], []), ([], []), ([], []), ([2, 3], [2, 3]), ([4], [4]), ([], []), ([], []), ([6, 7], [6, 7]), ([8], [8]), ([5, 9], [5, 9]), ([0, 1, 0, 1, 2, 3, 4, 5, 6, 7, 8, 9, 10], [0, 1]), ([11, 10, 0, 1, 2, 3, 4, 5, 6, 7, 8, 9, 10], [10, 11])])
def spec_NarrowSingles.B12 : List Nat := [0, 0, 0, 0, 12, 28, 0, 0, 192, 448, 1020, 2047, 4095]
theorem spec_NarrowSingles.tab12 : rtab .any (opsOf Try.f54 12) = spec_NarrowSingles.T12 := by kernel_rfl
theorem spec_NarrowSingles.bits12 : waitsOk spec_NarrowSingles.T12.2 spec_NarrowSingles.B12 = true := by kernel_rfl
set_option maxHeartbeats 8000000 in
set_option maxRecDepth 100000 in
theorem spec_NarrowSingles.calls (k : Nat) (A0 : Option Addr) (c0 : Nat) (l0 : List Int) (a1 : Int) (r : List Int) (w : World) (hr0 : Kd.C (Kd.int .i64) w A0 l0.length l0) (hc0 : l0.length ≤ c0) (h : spec_NarrowSingles.f k l0 a1 = some r) :
  Calls Try.prog 54 #[.slice A0 l0.length c0, .int .i64 a1] w fun e w' => ∃ v0_ : Value, e = .returned (v0_) ∧ Kd.R (Kd.int .i64) 3 w' w.heap.size (fun _ => True) v0_ r ∧ Below w.heap.size w w' := by
 have HR0 := yam hr0
 have HC0 := yam hc0
 clear hr0 hc0
 have HB := yam (Below.refl w.heap.size w)
 have H : ((spec_MasksValid.f k l0 a1).bind fun t140 => (if t140 = true then ((spec_l6Copy.f l0).bind fun t144 => (spec_NarrowSingles.l0 k l0 a1 t144 0)) else (some (([] : List Int))))) = some r := h
 clear h
 replace H := Option.bind_eq_some_iff.mp H
 obtain ⟨t140, A30, H⟩ := H
 try dsimp only at H
 have A3 := yam A30
 clear A30
 by_cases c4 : t140 = true
 rotate_left
 ·replace c4 := Bool.eq_false_iff.mpr c4
  subst c4
  have H1 : (some (([] : List Int))) = some r := by rw [if_neg (show ¬ (false = true) by decide)] at H; exact H
  clear H
  have H := H1
  clear H1
  obtain ⟨y141, hy141⟩ : ∃ y_ : List Int, y_ = (([] : List Int)) := ⟨_, rfl⟩
  replace H : (some y141) = some r := by first | (rw [hy141]; with_reducible exact H) | (have H2_ := (Option.bind_some _ _).symm.trans H; rw [hy141]; with_reducible exact H2_) | (have H2_ := (Option.bind_some _ _).symm.trans H; with_reducible exact H2_) | with_reducible exact H | (rw [hy141]; exact H) | exact H
  have Ny141 := yam hy141
  clear hy141
  obtain rfl := Option.some.inj H
  go_enter Try.func54, Try.ntmps54
  go_wp2_with (first | (refine goesL_ (some 10) rfl rfl Try.func53 (by kernel_rfl) rfl #[.slice A0 l0.length c0, .int .i64 a1] rfl ymd ?_; (with_reducible refine (spec_MasksValid.calls k _ _ l0 a1 false _ ?side1 ?side2 A3.out).mono ?_); (case side1 => exact Kd.Cz (HR0.out)); (case side2 => exact HC0.out); rintro e w' ⟨rfl, ⟨nd, rfl⟩⟩; refine ⟨_, rfl, ?_⟩) | ((with_reducible refine gate_dst (N := 12) rfl ?_); refine Kd.R_lit (Kd.int .i64) _ 3 ?hg (N := 12) ?hd (xs := ([] : List Int)) (inner := []) (ok := fun _ => True) (okp := fun _ => True) ?hr ?hp (fun _ hk => hk) trivial (Below.refl _ _) (Nat.le_refl _) (by simp) ?_; (case hd => rfl); (case hg => rfl); (case hr => first | (go_simp; done) | (go_simp; rfl)); (case hp => exact (Reps.none _ _)); intro v142 w40 ho41 hb hg_ hnew_; clear hg_ hnew_; (first | rw [← Ny141.out] at ho41 | (simp only [Int.reduceToNat] at ho41; rw [← Ny141.out] at ho41)); have HO143 := yam (Kd.R_lower ho41 (below_size (yez HB.out))); replace HB := yam (below_step (yez HB.out) hb); clear hb ho41))
  go_ret
  exact ⟨_, yer, yka HO143.out, yhb⟩

 subst c4
 have H1 : ((spec_l6Copy.f l0).bind fun t144 => (spec_NarrowSingles.l0 k l0 a1 t144 0)) = some r := by rw [if_pos rfl] at H; exact H
 clear H
 have H := H1
 clear H1
 replace H := Option.bind_eq_some_iff.mp H
 obtain ⟨t144, A50, H⟩ := H
 try dsimp only at H
 have A5 := yam A50
 clear A50
 have H' := yam H
 clear H
 go_enter Try.func54, Try.ntmps54
 go_wp2_with (first | (refine goesL_ (some 10) rfl rfl Try.func53 (by kernel_rfl) rfl #[.slice A0 l0.length c0, .int .i64 a1] rfl ymd ?_; (with_reducible refine (spec_MasksValid.calls k _ _ l0 a1 true _ ?side1 ?side2 A3.out).mono ?_); (case side1 => exact Kd.Cz (HR0.out)); (case side2 => exact HC0.out); rintro e w' ⟨rfl, ⟨nd, rfl⟩⟩; refine ⟨_, rfl, ?_⟩) | (refine goesL_ (some 14) rfl rfl Try.func62 (by kernel_rfl) rfl #[.slice A0 l0.length c0] rfl ymd ?_; (with_reducible refine (spec_l6Copy.calls _ _ l0 t144 _ ?side1 ?side2 A5.out).mono ?_); (case side1 => exact Kd.Cz (HR0.out)); (case side2 => exact HC0.out); rintro e w6 ⟨v145, rfl, ho0, hb⟩; refine ⟨_, rfl, ?_⟩; have HO146 := yam (Kd.R_lower ho0 (below_size (yez HB.out))); replace HB := yam (below_step (yez HB.out) hb); (try clear hb); (try clear hb2); (try clear hk); (try clear hi); (try clear ho0)))
 go_loopg [6] k (fun kq v6 w' => ∃ (x5_1 : List Int) (x6_1 : Int), v6 = .int .i64 x6_1 ∧ Aside0 (spec_NarrowSingles.l0 kq l0 a1 x5_1 x6_1 = some r) ∧ Aside0 (kq ≤ k) ∧ Aside0 (Kd.R (Kd.int .i64) 3 w' w.heap.size (fun _ => True) v145 x5_1) ∧ Aside0 (Below w.heap.size w w'))
 case atStart => exact ⟨(t144), (0), yeq, H', ⟨Nat.le_refl _⟩, ⟨yka HO146.out⟩, ⟨yhb⟩⟩
 case round =>
  clear H'
  try clear p2
  try clear c4
  try clear c5
  try clear c6
  obtain ⟨x5_1, x6_1, rfl, HA, HK1, HO_5, HB⟩ := hrel
  cases gk with
  | zero => exact absurd HA.out (by simp [spec_NarrowSingles.l0])
  | succ k1 =>
   have H := HA.out
   clear HA
   simp only [spec_NarrowSingles.l0] at H
   by_cases c7 : x6_1 < (l0.length : Int)
   rotate_left
   ·rw [if_neg c7] at H
    have c7b0 : decide (x6_1 < (l0.length : Int)) = false := decide_eq_false c7
    clear c7
    obtain rfl := Option.some.inj H
    go_wp2
    go_ret
    exact ⟨_, yer, yka HO_5.out, yhb⟩
   rw [if_pos c7] at H
   have c7b0 : decide (x6_1 < (l0.length : Int)) = true := decide_eq_true c7
   clear c7
   replace H := yif H
   obtain ⟨c8b0, H⟩ := H
   replace H := Option.bind_eq_some_iff.mp H
   obtain ⟨t148, A90, H⟩ := H
   try dsimp only at H
   have A9 := yam A90
   clear A90
   by_cases c10 : (t148.length : Int) = 1
   rotate_left
   ·rw [if_neg c10] at H
    have c10b0 : ((t148.length : Int) == 1) = false := beq_eq_false_iff_ne.mpr c10
    have c10b1 : ((t148.length : Int) != 1) = true := bne_iff_ne.mpr c10
    have H' := yam H
    clear H
    have p147 : 0 ≤ (x6_1 : Int) := ydt
    have q147 : x6_1 < (l0.length : Int) := ydt
    obtain ⟨ad147, e147, hx147_0⟩ := Kd.at_int HR0.out x6_1 p147 q147
    cases e147
    replace hx147_0 := ybx HB.out hx147_0
    replace p147 := eq_true p147
    replace q147 := eq_true q147
    go_wp2_with (first | (refine goesL_ (some 25) rfl rfl Try.func72 (by kernel_rfl) rfl #[.int .i64 (rd l0 x6_1)] rfl ymd ?_; (with_reducible refine (spec_MaskValues.calls k1 (rd l0 x6_1) t148 _ A9.out).mono ?_); rintro e w38 ⟨v149, rfl, ho0, hb⟩; refine ⟨_, rfl, ?_⟩; have HO150 := yam (Kd.R_lower (Kd.Yw ho0 (Kd.R_lt (Kd.Yz HO_5.out))) (below_size (yez HB.out))); replace HO_5 := yam (Kd.Ye (Kd.Yz HO_5.out) (Kd.Yb ho0) hb); replace HB := yam (below_step (yez HB.out) hb); (try clear hb); (try clear hb2); (try clear hk); (try clear hi); (try clear ho0); obtain ⟨Ao39, co39, eo39⟩ := Kd.R_slice HO150.out; subst eo39))
    go_roundg k1
    case measure => have := HK1.out; omega
    case rel => exact ⟨(x5_1), (wrap64 (x6_1 + 1)), yeq, H', ⟨by have := HK1.out; omega⟩, ⟨by (with_reducible repeat (first | apply Kd.Ya | apply Kd.Yn | apply Kd.Yd)); exact Kd.R_mono HO_5.out (fun _ hk => trivial)⟩, ⟨yhb⟩⟩
   rw [if_pos c10] at H
   have c10b0 : ((t148.length : Int) == 1) = true := beq_iff_eq.mpr c10
   have c10b1 : ((t148.length : Int) != 1) = false := bne_eq_false_iff_eq.mpr c10
   clear c10
   have H' := yam H
   clear H
   have p147 : 0 ≤ (x6_1 : Int) := ydt
   have q147 : x6_1 < (l0.length : Int) := ydt
   obtain ⟨ad147, e147, hx147_0⟩ := Kd.at_int HR0.out x6_1 p147 q147
   cases e147
   replace hx147_0 := ybx HB.out hx147_0
   replace p147 := eq_true p147
   replace q147 := eq_true q147
   go_wp2_with (first | (refine goesL_ (some 25) rfl rfl Try.func72 (by kernel_rfl) rfl #[.int .i64 (rd l0 x6_1)] rfl ymd ?_; (with_reducible refine (spec_MaskValues.calls k1 (rd l0 x6_1) t148 _ A9.out).mono ?_); rintro e w11 ⟨v149, rfl, ho0, hb⟩; refine ⟨_, rfl, ?_⟩; have HO150 := yam (Kd.R_lower (Kd.Yw ho0 (Kd.R_lt (Kd.Yz HO_5.out))) (below_size (yez HB.out))); replace HO_5 := yam (Kd.Ye (Kd.Yz HO_5.out) (Kd.Yb ho0) hb); replace HB := yam (below_step (yez HB.out) hb); (try clear hb); (try clear hb2); (try clear hk); (try clear hi); (try clear ho0); obtain ⟨Ao12, co12, eo12⟩ := Kd.R_slice HO150.out; subst eo12))
   go_loopg [7] k1 (fun kq v7 w' => ∃ (x5_2 : List Int) (x7_2 : Int), v7 = .int .i64 x7_2 ∧ Aside0 (spec_NarrowSingles.l1 kq l0 a1 x5_2 x6_1 x7_2 = some r) ∧ Aside0 (kq ≤ k1) ∧ Aside0 (Kd.R (Kd.int .i64) 3 w' w.heap.size (fun _ => True) v145 x5_2) ∧ Aside0 (Below w.heap.size w w'))
   case atStart => exact ⟨(x5_1), (0), yeq, H', ⟨Nat.le_refl _⟩, ⟨by (with_reducible repeat (first | apply Kd.Ya | apply Kd.Yn | apply Kd.Yd)); exact Kd.R_mono HO_5.out (fun _ hk => trivial)⟩, ⟨yhb⟩⟩
   case round =>
    clear H'
    try clear c1
    try clear p1
    try clear q1
    try clear hx1
    try clear p2
    try clear c4
    try clear c5
    try clear c6
    try clear p6
    try clear c7
    try clear c7b0
    try clear c8
    try clear c8b0
    try clear c10
    try clear c10b0
    try clear c10b1
    try clear hx147_0
    try clear p147
    try clear p2
    try clear q147
    obtain ⟨x5_2, x7_2, rfl, HA, HK2, HO_5, HB⟩ := hrel
    cases gk with
    | zero => exact absurd HA.out (by simp [spec_NarrowSingles.l1])
    | succ k2 =>
     have H := HA.out
     clear HA
     simp only [spec_NarrowSingles.l1] at H
     by_cases c13 : x7_2 < (l0.length : Int)
     rotate_left
     ·rw [if_neg c13] at H
      have c13b0 : decide (x7_2 < (l0.length : Int)) = false := decide_eq_false c13
      clear c13
      have H' := yam H
      clear H
      go_wp2
      go_roundg k2
      case measure => have := HK1.out; have := HK2.out; omega
      case rel => exact ⟨(x5_2), (wrap64 (x6_1 + 1)), yeq, H', ⟨by have := HK1.out; have := HK2.out; omega⟩, ⟨yka HO_5.out⟩, ⟨yhb⟩⟩
     rw [if_pos c13] at H
     have c13b0 : decide (x7_2 < (l0.length : Int)) = true := decide_eq_true c13
     clear c13
     by_cases c14 : x7_2 = x6_1
     ·rw [if_pos c14] at H
      have c14b0 : (x7_2 == x6_1) = true := beq_iff_eq.mpr c14
      have c14b1 : (x7_2 != x6_1) = false := bne_eq_false_iff_eq.mpr c14
      clear c14
      have H' := yam H
      clear H
      try go_wp2
      replace HO_5 := yam (Kd.Yd HO_5.out)
      replace HB := yam (yed HB.out)
      refine start_ (n := 21) (S := fun w' => True) (ds := []) #[false, false, false, false, false, false, false, false, false, false, false, false, false, false, false, false, false, false, false, false, false] (by kernel_rfl) rfl rfl trivial (fun hHeld => ?_); refine with_tabW spec_NarrowSingles.tab11 spec_NarrowSingles.bits11 (fun HT_ HW_ => ?_)
      generalize wr.drew = w15 at HO_5 HB hHeld ⊢
      refine yvp 0 34 (yvb 21 1) HT_.out ?_
      refine yvp 1 35 (yvb 21 3) HT_.out ?_
      refine yvp 2 36 (yvb 21 7) HT_.out ?_
      refine yvp 3 37 (yvb 21 15) HT_.out ?_
      refine yvu 4 38 (yvb 21 31) HT_.out ?_
      refine yvu 5 39 (yvb 21 63) HT_.out ?_
      refine yvu 6 40 (yvb 21 127) HT_.out ?_
      refine yvu 7 41 (yvb 21 255) HT_.out ?_
      refine yvu 8 42 (yvb 21 511) HT_.out ?_
      refine yvu 9 43 (yvb 21 1023) HT_.out ?_
      refine yvu 10 44 (yvb 21 2047) HT_.out ?_
      refine yvu 11 45 (yvb 21 4095) HT_.out ?_
      refine yvu 12 46 (yvb 21 8191) HT_.out ?_
      refine yvu 13 47 (yvb 21 16383) HT_.out ?_
      refine yvu 14 48 (yvb 21 32767) HT_.out ?_
      refine yvu 15 49 (yvb 21 65535) HT_.out ?_
      refine yvu 16 50 (yvb 21 131071) HT_.out ?_
      refine yvu 17 51 (yvb 21 262143) HT_.out ?_
      refine yvu 18 52 (yvb 21 524287) HT_.out ?_
      refine yvu 19 53 (yvb 21 1048575) HT_.out ?_
      refine yvp 20 54 (yvb 21 2097151) HT_.out ?_
      refine done_ (done_of HT_.out (by kernel_rfl)) ?_
      try go_wp2
      go_roundg k2
      case measure => have := HK1.out; have := HK2.out; omega
      case rel => exact ⟨(x5_2), (wrap64 (x7_2 + 1)), yeq, H', ⟨by have := HK1.out; have := HK2.out; omega⟩, ⟨yka HO_5.out⟩, ⟨yhb⟩⟩
     rw [if_neg c14] at H
     have c14b0 : (x7_2 == x6_1) = false := beq_eq_false_iff_ne.mpr c14
     have c14b1 : (x7_2 != x6_1) = true := bne_iff_ne.mpr c14
     by_cases c16 : a1 = 0
     ·rw [if_pos c16] at H
      exact absurd H (by simp)
     rw [if_neg c16] at H
     have c16b0 : (a1 == 0) = false := beq_eq_false_iff_ne.mpr c16
     have c16b1 : (a1 != 0) = true := bne_iff_ne.mpr c16
     by_cases c17 : (wrap64 (Int.tdiv x7_2 a1)) = (wrap64 (Int.tdiv x6_1 a1))
     ·rw [if_pos c17] at H
      have c17b0 : ((wrap64 (Int.tdiv x7_2 a1)) == (wrap64 (Int.tdiv x6_1 a1))) = true := beq_iff_eq.mpr c17
      have c17b1 : ((wrap64 (Int.tdiv x7_2 a1)) != (wrap64 (Int.tdiv x6_1 a1))) = false := bne_eq_false_iff_eq.mpr c17
      clear c17
      replace H := yif H
      obtain ⟨c18b0, H⟩ := H
      replace H := yif H
      obtain ⟨c19b0, H⟩ := H
      replace H := yif H
      obtain ⟨c20b0, H⟩ := H
      replace H := yif H
      obtain ⟨c21b0, H⟩ := H
      obtain ⟨y153, hy153⟩ : ∃ y_ : List Int, y_ = (x5_2.set (x7_2 : Int).toNat (Go.bits .andNot .i64 (rd x5_2 x7_2) (rd l0 x6_1))) := ⟨_, rfl⟩
      replace H : (spec_NarrowSingles.l1 k2 l0 a1 y153 x6_1 (wrap64 (x7_2 + 1))) = some r := by first | (rw [hy153]; with_reducible exact H) | (have H2_ := (Option.bind_some _ _).symm.trans H; rw [hy153]; with_reducible exact H2_) | (have H2_ := (Option.bind_some _ _).symm.trans H; with_reducible exact H2_) | with_reducible exact H | (rw [hy153]; exact H) | exact H
      have Ny153 := yam hy153
      clear hy153
      have H' := yam H
      clear H
      try go_wp2
      replace HO_5 := yam (Kd.Yd HO_5.out)
      replace HB := yam (yed HB.out)
      refine start_ (n := 21) (S := fun w' => True) (ds := []) #[false, false, false, false, false, false, false, false, false, false, false, false, false, false, false, false, false, false, false, false, false] (by kernel_rfl) rfl rfl trivial (fun hHeld => ?_); refine with_tabW spec_NarrowSingles.tab11 spec_NarrowSingles.bits11 (fun HT_ HW_ => ?_)
      generalize wr.drew = w23 at HO_5 HB hHeld ⊢
      refine yvp 0 34 (yvb 21 1) HT_.out ?_
      refine yvp 1 35 (yvb 21 3) HT_.out ?_
      refine yvp 2 36 (yvb 21 7) HT_.out ?_
      refine yvp 3 37 (yvb 21 15) HT_.out ?_
      refine yvp 4 38 (yvb 21 31) HT_.out ?_
      refine yvp 5 39 (yvb 21 63) HT_.out ?_
      refine yvp 6 40 (yvb 21 127) HT_.out ?_
      refine yvp 7 41 (yvb 21 255) HT_.out ?_
      refine yvp 8 42 (yvb 21 511) HT_.out ?_
      refine yvp 9 43 (yvb 21 1023) HT_.out ?_
      refine yvp 10 44 (yvb 21 2047) HT_.out ?_
      refine yvp 11 45 (yvb 21 4095) HT_.out ?_
      refine yvu 12 46 (yvb 21 8191) HT_.out ?_
      refine yvu 13 47 (yvb 21 16383) HT_.out ?_
      refine yvu 14 48 (yvb 21 32767) HT_.out ?_
      refine yvu 15 49 (yvb 21 65535) HT_.out ?_
      refine yvu 16 50 (yvb 21 131071) HT_.out ?_
      refine yvu 17 51 (yvb 21 262143) HT_.out ?_
      refine yvu 18 52 (yvb 21 524287) HT_.out ?_
      refine yvp 19 53 (yvb 21 1048575) HT_.out ?_
      refine yvp 20 54 (yvb 21 2097151) HT_.out ?_
      refine done_ (done_of HT_.out (by kernel_rfl)) ?_
      try go_wp2
      replace HO_5 := yam (Kd.Yd HO_5.out)
      replace HB := yam (yed HB.out)
      obtain ⟨Ao25, co25, eo25⟩ := Kd.R_slice HO_5.out
      (first | subst eo25 | (injection eo25 with f1_ f2_ f3_; have f4_ := f1_.symm; have f5_ := f3_.symm; clear f1_ f2_ f3_; subst f4_; subst f5_))
      have p151 : 0 ≤ (x7_2 : Int) := ydt
      have q151 : x7_2 < (x5_2.length : Int) := ydt
      obtain ⟨ad151, e151, hx151_0⟩ := Kd.at_int (Kd.Yr HO_5.out).2.2 x7_2 p151 q151
      cases e151
      replace p151 := eq_true p151
      replace q151 := eq_true q151
      have p152 : 0 ≤ (x6_1 : Int) := ydt
      have q152 : x6_1 < (l0.length : Int) := ydt
      obtain ⟨ad152, e152, hx152_0⟩ := Kd.at_int HR0.out x6_1 p152 q152
      have hw152_0 := hx152_0
      obtain rfl : ad147 = ad152 := (by injection e152)
      replace hx152_0 := ybx HB.out hx152_0
      replace p152 := eq_true p152
      replace q152 := eq_true q152
      have p22 : 0 ≤ (x7_2 : Int) := ydt
      have q22 : (x7_2 : Int) < ((x5_2.length : Int) : Int) := ydt
      obtain ⟨go22, co22, eo22, gb22, gl22, cl22, HG22⟩ := Kd.R_form HO_5.out (by omega)
      (first | cases eo22 | (injection eo22 with ea_ en_ ec_; (first | subst ea_ | (injection ea_ with ea_; subst ea_)); subst ec_; clear en_))
      have GB22 := yam gb22
      have GG22 := yam HG22
      clear gb22 gl22 HG22
      (first | simp only [add_plain] at hx151_0 | skip)
      obtain ⟨hx22_0, hf22_0⟩ := Kd.R_celln 0 HO_5.out (x7_2 : Int) p22 q22
      replace p22 := eq_true p22
      replace q22 := eq_true q22
      have HP26 := Kd.R_putn HO_5.out (x7_2 : Int) (Go.bits .andNot .i64 (rd x5_2 x7_2) (rd l0 x6_1))
      rw [← Ny153.out] at HP26
      have HQ26 := yam HP26
      clear HP26
      refine start_ (n := 13) (S := fun w' => w'.cell? ⟨go22, (x7_2).toNat, none⟩ = some (.int .i64 (rd x5_2 x7_2)) ∧ w'.cell? (ad147.add (x6_1).toNat) = some (.int .i64 (rd l0 x6_1))) (ds := [12]) #[false, false, false, false, false, false, false, false, false, false, false, false, false] (by kernel_rfl) rfl rfl ⟨hx151_0, ((HB.out.cell (World.block_lt_of_cell? w _ hw152_0)).trans hw152_0)⟩ (fun hHeld => ?_); refine with_tabW spec_NarrowSingles.tab12 spec_NarrowSingles.bits12 (fun HT_ HW_ => ?_)
      generalize w23.drew = w24 at HO_5 HB GG22 HQ26 hf22_0 hx151_0 hx152_0 hx22_0 hHeld ⊢
      refine yvp 0 55 (yvb 13 1) HT_.out ?_
      refine yvp 1 56 (yvb 13 3) HT_.out ?_
      refine yvp 2 57 (yvb 13 7) HT_.out ?_
      refine yvp 3 58 (yvb 13 15) HT_.out ?_
      refine yvp 4 59 (yvb 13 31) HT_.out ?_
      refine yvp 6 61 (yvb 13 95) HT_.out ?_
      refine yvp 7 62 (yvb 13 223) HT_.out ?_
      refine yvp 8 63 (yvb 13 479) HT_.out ?_
      refine yvt 5 60 (yvb 13 511) HT_.out HW_.out hHeld ?_
      refine yvt 9 64 (yvb 13 1023) HT_.out HW_.out hHeld ?_
      refine yvp 10 65 (yvb 13 2047) HT_.out ?_
      refine yvp 11 66 (yvb 13 4095) HT_.out ?_
      refine last_ (i := 12) (N := none) #[true, true, true, true, true, true, true, true, true, true, true, true, true] rfl rfl (one_of HT_.out (by kernel_rfl)) (by decide) (fun K hK => ?_)
      refine skip_ (w1 := ?_) (by rfl) rfl ?_ ?_
      rotate_left
      ·go_simp
       rfl
      refine hK.out _ _ ?_
      clear hK K
      refine done_ (done_of HT_.out (by kernel_rfl)) ?_
      try go_wp2
      go_roundg k2
      case measure => have := HK1.out; have := HK2.out; omega
      case rel => exact ⟨(y153), (wrap64 (x7_2 + 1)), yeq, H', ⟨by have := HK1.out; have := HK2.out; omega⟩, ⟨yka HQ26.out⟩, ⟨yhb⟩⟩
     rw [if_neg c17] at H
     have c17b0 : ((wrap64 (Int.tdiv x7_2 a1)) == (wrap64 (Int.tdiv x6_1 a1))) = false := beq_eq_false_iff_ne.mpr c17
     have c17b1 : ((wrap64 (Int.tdiv x7_2 a1)) != (wrap64 (Int.tdiv x6_1 a1))) = true := bne_iff_ne.mpr c17
     by_cases c27 : (Int.tmod x7_2 a1) = (Int.tmod x6_1 a1)
     rotate_left
     ·rw [if_neg c27] at H
      have c27b0 : ((Int.tmod x7_2 a1) == (Int.tmod x6_1 a1)) = false := beq_eq_false_iff_ne.mpr c27
      have c27b1 : ((Int.tmod x7_2 a1) != (Int.tmod x6_1 a1)) = true := bne_iff_ne.mpr c27
      have H' := yam H
      clear H
      try go_wp2
      replace HO_5 := yam (Kd.Yd HO_5.out)
      replace HB := yam (yed HB.out)
      refine start_ (n := 21) (S := fun w' => True) (ds := []) #[false, false, false, false, false, false, false, false, false, false, false, false, false, false, false, false, false, false, false, false, false] (by kernel_rfl) rfl rfl trivial (fun hHeld => ?_); refine with_tabW spec_NarrowSingles.tab11 spec_NarrowSingles.bits11 (fun HT_ HW_ => ?_)
      generalize wr.drew = w37 at HO_5 HB hHeld ⊢
      refine yvp 0 34 (yvb 21 1) HT_.out ?_
      refine yvp 1 35 (yvb 21 3) HT_.out ?_
      refine yvp 2 36 (yvb 21 7) HT_.out ?_
      refine yvp 3 37 (yvb 21 15) HT_.out ?_
      refine yvp 4 38 (yvb 21 31) HT_.out ?_
      refine yvp 5 39 (yvb 21 63) HT_.out ?_
      refine yvp 6 40 (yvb 21 127) HT_.out ?_
      refine yvp 7 41 (yvb 21 255) HT_.out ?_
      refine yvp 8 42 (yvb 21 511) HT_.out ?_
      refine yvp 9 43 (yvb 21 1023) HT_.out ?_
      refine yvp 10 44 (yvb 21 2047) HT_.out ?_
      refine yvp 11 45 (yvb 21 4095) HT_.out ?_
      refine yvp 12 46 (yvb 21 8191) HT_.out ?_
      refine yvp 13 47 (yvb 21 16383) HT_.out ?_
      refine yvp 14 48 (yvb 21 32767) HT_.out ?_
      refine yvp 15 49 (yvb 21 65535) HT_.out ?_
      refine yvp 16 50 (yvb 21 131071) HT_.out ?_
      refine yvp 17 51 (yvb 21 262143) HT_.out ?_
      refine yvp 18 52 (yvb 21 524287) HT_.out ?_
      refine yvp 19 53 (yvb 21 1048575) HT_.out ?_
      refine yvp 20 54 (yvb 21 2097151) HT_.out ?_
      refine done_ (done_of HT_.out (by kernel_rfl)) ?_
      try go_wp2
      go_roundg k2
      case measure => have := HK1.out; have := HK2.out; omega
      case rel => exact ⟨(x5_2), (wrap64 (x7_2 + 1)), yeq, H', ⟨by have := HK1.out; have := HK2.out; omega⟩, ⟨yka HO_5.out⟩, ⟨yhb⟩⟩
     rw [if_pos c27] at H
     have c27b0 : ((Int.tmod x7_2 a1) == (Int.tmod x6_1 a1)) = true := beq_iff_eq.mpr c27
     have c27b1 : ((Int.tmod x7_2 a1) != (Int.tmod x6_1 a1)) = false := bne_eq_false_iff_eq.mpr c27
     clear c27
     replace H := yif H
     obtain ⟨c28b0, H⟩ := H
     replace H := yif H
     obtain ⟨c29b0, H⟩ := H
     replace H := yif H
     obtain ⟨c30b0, H⟩ := H
     replace H := yif H
     obtain ⟨c31b0, H⟩ := H
     obtain ⟨y156, hy156⟩ : ∃ y_ : List Int, y_ = (x5_2.set (x7_2 : Int).toNat (Go.bits .andNot .i64 (rd x5_2 x7_2) (rd l0 x6_1))) := ⟨_, rfl⟩
     replace H : (spec_NarrowSingles.l1 k2 l0 a1 y156 x6_1 (wrap64 (x7_2 + 1))) = some r := by first | (rw [hy156]; with_reducible exact H) | (have H2_ := (Option.bind_some _ _).symm.trans H; rw [hy156]; with_reducible exact H2_) | (have H2_ := (Option.bind_some _ _).symm.trans H; with_reducible exact H2_) | with_reducible exact H | (rw [hy156]; exact H) | exact H
     have Ny156 := yam hy156
     clear hy156
     have H' := yam H
     clear H
     try go_wp2
     replace HO_5 := yam (Kd.Yd HO_5.out)
     replace HB := yam (yed HB.out)
     refine start_ (n := 21) (S := fun w' => True) (ds := []) #[false, false, false, false, false, false, false, false, false, false, false, false, false, false, false, false, false, false, false, false, false] (by kernel_rfl) rfl rfl trivial (fun hHeld => ?_); refine with_tabW spec_NarrowSingles.tab11 spec_NarrowSingles.bits11 (fun HT_ HW_ => ?_)
     generalize wr.drew = w33 at HO_5 HB hHeld ⊢
     refine yvp 0 34 (yvb 21 1) HT_.out ?_
     refine yvp 1 35 (yvb 21 3) HT_.out ?_
     refine yvp 2 36 (yvb 21 7) HT_.out ?_
     refine yvp 3 37 (yvb 21 15) HT_.out ?_
     refine yvp 4 38 (yvb 21 31) HT_.out ?_
     refine yvp 5 39 (yvb 21 63) HT_.out ?_
     refine yvp 6 40 (yvb 21 127) HT_.out ?_
     refine yvp 7 41 (yvb 21 255) HT_.out ?_
     refine yvp 8 42 (yvb 21 511) HT_.out ?_
     refine yvp 9 43 (yvb 21 1023) HT_.out ?_
     refine yvp 10 44 (yvb 21 2047) HT_.out ?_
     refine yvp 11 45 (yvb 21 4095) HT_.out ?_
     refine yvp 12 46 (yvb 21 8191) HT_.out ?_
     refine yvp 13 47 (yvb 21 16383) HT_.out ?_
     refine yvp 14 48 (yvb 21 32767) HT_.out ?_
     refine yvp 15 49 (yvb 21 65535) HT_.out ?_
     refine yvp 16 50 (yvb 21 131071) HT_.out ?_
     refine yvp 17 51 (yvb 21 262143) HT_.out ?_
     refine yvp 18 52 (yvb 21 524287) HT_.out ?_
     refine yvp 19 53 (yvb 21 1048575) HT_.out ?_
     refine yvp 20 54 (yvb 21 2097151) HT_.out ?_
     refine done_ (done_of HT_.out (by kernel_rfl)) ?_
     try go_wp2
     replace HO_5 := yam (Kd.Yd HO_5.out)
     replace HB := yam (yed HB.out)
     obtain ⟨Ao35, co35, eo35⟩ := Kd.R_slice HO_5.out
     (first | subst eo35 | (injection eo35 with f1_ f2_ f3_; have f4_ := f1_.symm; have f5_ := f3_.symm; clear f1_ f2_ f3_; subst f4_; subst f5_))
     have p154 : 0 ≤ (x7_2 : Int) := ydt
     have q154 : x7_2 < (x5_2.length : Int) := ydt
     obtain ⟨ad154, e154, hx154_0⟩ := Kd.at_int (Kd.Yr HO_5.out).2.2 x7_2 p154 q154
     cases e154
     replace p154 := eq_true p154
     replace q154 := eq_true q154
     have p155 : 0 ≤ (x6_1 : Int) := ydt
     have q155 : x6_1 < (l0.length : Int) := ydt
     obtain ⟨ad155, e155, hx155_0⟩ := Kd.at_int HR0.out x6_1 p155 q155
     have hw155_0 := hx155_0
     obtain rfl : ad147 = ad155 := (by injection e155)
     replace hx155_0 := ybx HB.out hx155_0
     replace p155 := eq_true p155
     replace q155 := eq_true q155
     have p32 : 0 ≤ (x7_2 : Int) := ydt
     have q32 : (x7_2 : Int) < ((x5_2.length : Int) : Int) := ydt
     obtain ⟨go32, co32, eo32, gb32, gl32, cl32, HG32⟩ := Kd.R_form HO_5.out (by omega)
     (first | cases eo32 | (injection eo32 with ea_ en_ ec_; (first | subst ea_ | (injection ea_ with ea_; subst ea_)); subst ec_; clear en_))
     have GB32 := yam gb32
     have GG32 := yam HG32
     clear gb32 gl32 HG32
     (first | simp only [add_plain] at hx154_0 | skip)
     obtain ⟨hx32_0, hf32_0⟩ := Kd.R_celln 0 HO_5.out (x7_2 : Int) p32 q32
     replace p32 := eq_true p32
     replace q32 := eq_true q32
     have HP36 := Kd.R_putn HO_5.out (x7_2 : Int) (Go.bits .andNot .i64 (rd x5_2 x7_2) (rd l0 x6_1))
     rw [← Ny156.out] at HP36
     have HQ36 := yam HP36
     clear HP36
     refine start_ (n := 13) (S := fun w' => w'.cell? ⟨go32, (x7_2).toNat, none⟩ = some (.int .i64 (rd x5_2 x7_2)) ∧ w'.cell? (ad147.add (x6_1).toNat) = some (.int .i64 (rd l0 x6_1))) (ds := [12]) #[false, false, false, false, false, false, false, false, false, false, false, false, false] (by kernel_rfl) rfl rfl ⟨hx154_0, ((HB.out.cell (World.block_lt_of_cell? w _ hw155_0)).trans hw155_0)⟩ (fun hHeld => ?_); refine with_tabW spec_NarrowSingles.tab12 spec_NarrowSingles.bits12 (fun HT_ HW_ => ?_)
     generalize w33.drew = w34 at HO_5 HB GG32 HQ36 hf32_0 hx154_0 hx155_0 hx32_0 hHeld ⊢
     refine yvp 0 55 (yvb 13 1) HT_.out ?_
     refine yvp 1 56 (yvb 13 3) HT_.out ?_
     refine yvp 2 57 (yvb 13 7) HT_.out ?_
     refine yvp 3 58 (yvb 13 15) HT_.out ?_
     refine yvp 4 59 (yvb 13 31) HT_.out ?_
     refine yvp 6 61 (yvb 13 95) HT_.out ?_
     refine yvp 7 62 (yvb 13 223) HT_.out ?_
     refine yvp 8 63 (yvb 13 479) HT_.out ?_
     refine yvt 5 60 (yvb 13 511) HT_.out HW_.out hHeld ?_
     refine yvt 9 64 (yvb 13 1023) HT_.out HW_.out hHeld ?_
     refine yvp 10 65 (yvb 13 2047) HT_.out ?_
     refine yvp 11 66 (yvb 13 4095) HT_.out ?_
     refine last_ (i := 12) (N := none) #[true, true, true, true, true, true, true, true, true, true, true, true, true] rfl rfl (one_of HT_.out (by kernel_rfl)) (by decide) (fun K hK => ?_)
     refine skip_ (w1 := ?_) (by rfl) rfl ?_ ?_
     rotate_left
     ·go_simp
      rfl
     refine hK.out _ _ ?_
     clear hK K
     refine done_ (done_of HT_.out (by kernel_rfl)) ?_
     try go_wp2
     go_roundg k2
     case measure => have := HK1.out; have := HK2.out; omega
     case rel => exact ⟨(y156), (wrap64 (x7_2 + 1)), yeq, H', ⟨by have := HK1.out; have := HK2.out; omega⟩, ⟨yka HQ36.out⟩, ⟨yhb⟩⟩
mutual
def spec_LineCells.l0 : Nat → Int → Int → List Int → Int → Option (List Int)
 | 0, _, _, _, _ => none
 | k + 1, x0, x1, x5, x6 => if x6 < x0 then ((spec_l1In.f x0 2 4).bind fun t160 => (if t160 = true then ((spec_l1In.f x1 0 (wrap64 ((wrap64 (2 * x0)) - 1))).bind fun t161 => (spec_LineCells.j1 k x0 x1 x5 x6 t161)) else (spec_LineCells.j1 k x0 x1 x5 x6 false))) else (spec_LineCells.j1 k x0 x1 x5 x6 false)
def spec_LineCells.j1 : Nat → Int → Int → List Int → Int → Bool → Option (List Int)
 | 0, _, _, _, _, _ => none
 | k + 1, x0, x1, x5, x6, x21 => if x21 = true then (if x1 < x0 then (if x5.length < 17592186044416 then (spec_LineCells.l0 k x0 x1 (x5 ++ [wrap64 ((wrap64 (x1 * x0)) + x6)]) (wrap64 (x6 + 1))) else (none)) else (if x5.length < 17592186044416 then (spec_LineCells.l0 k x0 x1 (x5 ++ [wrap64 ((wrap64 ((wrap64 (x6 * x0)) + x1)) - x0)]) (wrap64 (x6 + 1))) else (none))) else (some x5)
end
def spec_LineCells.f (k : Nat) (a0 : Int) (a1 : Int) : Option (List Int) := spec_LineCells.l0 k a0 a1 (([] : List Int)) 0
theorem spec_LineCells.mono_l : ∀ k, (∀ y0 y1 y2 y3, LeO (spec_LineCells.l0 k y0 y1 y2 y3) (spec_LineCells.l0 (k + 1) y0 y1 y2 y3)) ∧ (∀ y0 y1 y2 y3 y4, LeO (spec_LineCells.j1 k y0 y1 y2 y3 y4) (spec_LineCells.j1 (k + 1) y0 y1 y2 y3 y4))
 | 0 => ⟨fun _ _ _ _ r h => by simp [spec_LineCells.l0] at h, fun _ _ _ _ _ r h => by simp [spec_LineCells.j1] at h⟩
 | k + 1 => by
  obtain ⟨ih0, ih1⟩ := spec_LineCells.mono_l k
  refine ⟨?_, ?_⟩
  ·intro y0 y1 y2 y3
   unfold spec_LineCells.l0
   repeat' first
   | (with_reducible exact ih0 _ _ _ _)
   | (with_reducible exact ih1 _ _ _ _ _)
   | (with_reducible exact LeO.refl _)
   | (with_reducible exact LeO.none _)
   | (with_reducible refine LeO.ite ?_ ?_)
   | (with_reducible refine LeO.bind ?_ (fun _ => ?_))
   | exact ih0 _ _ _ _
   | exact ih1 _ _ _ _ _
   | exact LeO.none _
   | refine LeO.ite ?_ ?_
   | refine LeO.bind ?_ (fun _ => ?_)
  ·intro y0 y1 y2 y3 y4
   unfold spec_LineCells.j1
   repeat' first
   | (with_reducible exact ih0 _ _ _ _)
   | (with_reducible exact ih1 _ _ _ _ _)
   | (with_reducible exact LeO.refl _)
   | (with_reducible exact LeO.none _)
   | (with_reducible refine LeO.ite ?_ ?_)
   | (with_reducible refine LeO.bind ?_ (fun _ => ?_))
   | exact ih0 _ _ _ _
   | exact ih1 _ _ _ _ _
   | exact LeO.none _
   | refine LeO.ite ?_ ?_
   | refine LeO.bind ?_ (fun _ => ?_)
theorem spec_LineCells.mono : ∀ a0 a1 k, LeO (spec_LineCells.f k a0 a1) (spec_LineCells.f (k + 1) a0 a1) := by
 intro a0 a1 k
 obtain ⟨ih0, ih1⟩ := spec_LineCells.mono_l k
 unfold spec_LineCells.f
 repeat' first
   | (with_reducible exact ih0 _ _ _ _)
   | (with_reducible exact ih1 _ _ _ _ _)
   | (with_reducible exact LeO.refl _)
   | (with_reducible exact LeO.none _)
   | (with_reducible refine LeO.ite ?_ ?_)
   | (with_reducible refine LeO.bind ?_ (fun _ => ?_))
   | exact ih0 _ _ _ _
   | exact ih1 _ _ _ _ _
   | exact LeO.none _
   | refine LeO.ite ?_ ?_
   | refine LeO.bind ?_ (fun _ => ?_)
set_option maxHeartbeats 8000000 in
set_option maxRecDepth 100000 in
theorem spec_LineCells.calls (k : Nat) (a0 : Int) (a1 : Int) (r : List Int) (w : World) (h : spec_LineCells.f k a0 a1 = some r) :
  Calls Try.prog 80 #[.int .i64 a0, .int .i64 a1] w fun e w' => ∃ v0_ : Value, e = .returned (v0_) ∧ Kd.R (Kd.int .i64) 3 w' w.heap.size (fun _ => True) v0_ r ∧ Below w.heap.size w w' := by
 have HB := yam (Below.refl w.heap.size w)
 have H : (spec_LineCells.l0 k a0 a1 (([] : List Int)) 0) = some r := h
 clear h
 obtain ⟨y157, hy157⟩ : ∃ y_ : List Int, y_ = (([] : List Int)) := ⟨_, rfl⟩
 replace H : (spec_LineCells.l0 k a0 a1 y157 0) = some r := by first | (rw [hy157]; with_reducible exact H) | (have H2_ := (Option.bind_some _ _).symm.trans H; rw [hy157]; with_reducible exact H2_) | (have H2_ := (Option.bind_some _ _).symm.trans H; with_reducible exact H2_) | with_reducible exact H | (rw [hy157]; exact H) | exact H
 have Ny157 := yam hy157
 clear hy157
 have H' := yam H
 clear H
 go_enter Try.func80, Try.ntmps80
 go_wp2_with (first | ((with_reducible refine gate_dst (N := 7) rfl ?_); refine Kd.R_lit (Kd.int .i64) _ 3 ?hg (N := 7) ?hd (xs := ([] : List Int)) (inner := []) (ok := fun _ => True) (okp := fun _ => True) ?hr ?hp (fun _ hk => hk) trivial (Below.refl _ _) (Nat.le_refl _) (by simp) ?_; (case hd => rfl); (case hg => rfl); (case hr => first | (go_simp; done) | (go_simp; rfl)); (case hp => exact (Reps.none _ _)); intro v158 w3 ho4 hb hg_ hnew_; clear hg_ hnew_; (first | rw [← Ny157.out] at ho4 | (simp only [Int.reduceToNat] at ho4; rw [← Ny157.out] at ho4)); have HO159 := yam (Kd.R_lower ho4 (below_size (yez HB.out))); replace HB := yam (below_step (yez HB.out) hb); clear hb ho4))
 go_loopg [5, 6] k (fun kq v5 v6 w' => ∃ (x5_1 : List Int) (x6_1 : Int), v6 = .int .i64 x6_1 ∧ Aside0 (spec_LineCells.l0 kq a0 a1 x5_1 x6_1 = some r) ∧ Aside0 (kq ≤ k) ∧ Aside0 (Kd.R (Kd.int .i64) 3 w' w.heap.size (fun _ => True) v5 x5_1) ∧ Aside0 (Below w.heap.size w w'))
 case atStart => exact ⟨(y157), (0), yeq, H', ⟨Nat.le_refl _⟩, ⟨yka HO159.out⟩, ⟨yhb⟩⟩
 case round =>
  clear H'
  try clear p2
  obtain ⟨x5_1, x6_1, rfl, HA, HK1, HO_5, HB⟩ := hrel
  cases gk with
  | zero => exact absurd HA.out (by simp [spec_LineCells.l0])
  | succ k1 =>
   have H := HA.out
   clear HA
   simp only [spec_LineCells.l0] at H
   have HC5 := yam H
   clear H
   go_upto_region 3 with (fail)
   go_cut [21] (fun v21 wc => ∃ (kq : Nat) (x21_4 : Bool), v21 = .bool x21_4 ∧ Aside0 (spec_LineCells.j1 kq a0 a1 x5_1 x6_1 x21_4 = some r) ∧ Aside0 (kq ≤ k1) ∧ Aside0 (Kd.R (Kd.int .i64) 3 wc w.heap.size (fun _ => True) u5 x5_1) ∧ Aside0 (Below w.heap.size w wc))
   case first =>
    have H := HC5.out
    clear HC5
    by_cases c6 : x6_1 < a0
    rotate_left
    ·rw [if_neg c6] at H
     have c6b0 : decide (x6_1 < a0) = false := decide_eq_false c6
     clear c6
     (first | rw [c6b0] | (simp only [i64_w, i32_w]; rw [c6b0]) | skip)
     have H' := yam H
     clear H
     go_wp2
     go_meet
     case rel => exact ⟨_, (false), yeq, H', ⟨by have := HK1.out; first | omega | exact Nat.le_refl _⟩, ⟨yka HO_5.out⟩, ⟨yhb⟩⟩
    rw [if_pos c6] at H
    have c6b0 : decide (x6_1 < a0) = true := decide_eq_true c6
    clear c6
    (first | rw [c6b0] | (simp only [i64_w, i32_w]; rw [c6b0]) | skip)
    replace H := Option.bind_eq_some_iff.mp H
    obtain ⟨t160, A70, H⟩ := H
    try dsimp only at H
    have A7 := yam A70
    clear A70
    by_cases c8 : t160 = true
    rotate_left
    ·replace c8 := Bool.eq_false_iff.mpr c8
     subst c8
     have H1 : (spec_LineCells.j1 k1 a0 a1 x5_1 x6_1 false) = some r := by rw [if_neg (show ¬ (false = true) by decide)] at H; exact H
     clear H
     have H := H1
     clear H1
     have H' := yam H
     clear H
     go_wp2_with (first | (go_at_call 39; (with_reducible refine (spec_l1In.calls a0 2 4 false _ A7.out).mono ?_); rintro e w' ⟨rfl, ⟨nd, rfl⟩⟩))
     go_meet
     case rel => exact ⟨_, (false), yeq, H', ⟨by have := HK1.out; first | omega | exact Nat.le_refl _⟩, ⟨yka HO_5.out⟩, ⟨yhb⟩⟩
    subst c8
    have H1 : ((spec_l1In.f a1 0 (wrap64 ((wrap64 (2 * a0)) - 1))).bind fun t161 => (spec_LineCells.j1 k1 a0 a1 x5_1 x6_1 t161)) = some r := by rw [if_pos rfl] at H; exact H
    clear H
    have H := H1
    clear H1
    replace H := Option.bind_eq_some_iff.mp H
    obtain ⟨t161, A90, H⟩ := H
    try dsimp only at H
    have A9 := yam A90
    clear A90
    have H' := yam H
    clear H
    go_wp2_with (first | (go_at_call 39; (with_reducible refine (spec_l1In.calls a0 2 4 true _ A7.out).mono ?_); rintro e w' ⟨rfl, ⟨nd, rfl⟩⟩) | (go_at_call 39; (with_reducible refine (spec_l1In.calls a1 0 (wrap64 ((wrap64 (2 * a0)) - 1)) t161 _ A9.out).mono ?_); rintro e w' ⟨rfl, ⟨nd, rfl⟩⟩))
    go_meet
    case rel => exact ⟨_, (t161), yeq, H', ⟨by have := HK1.out; first | omega | exact Nat.le_refl _⟩, ⟨yka HO_5.out⟩, ⟨yhb⟩⟩
   case rest =>
    clear HC5
    try clear p2
    try clear c6
    try clear c6b0
    try clear p6
    try clear c8
    try clear p2
    obtain ⟨kq, x21_4, rfl, HA, HJ4, HO_5, HB⟩ := hcut
    cases kq with
    | zero => exact absurd HA.out (by simp [spec_LineCells.j1])
    | succ kj4 =>
     have H := HA.out
     clear HA
     simp only [spec_LineCells.j1] at H
     by_cases c10 : x21_4 = true
     rotate_left
     ·replace c10 := Bool.eq_false_iff.mpr c10
      subst c10
      have H1 : (some x5_1) = some r := by rw [if_neg (show ¬ (false = true) by decide)] at H; exact H
      clear H
      have H := H1
      clear H1
      obtain rfl := Option.some.inj H
      go_wp2
      go_ret
      exact ⟨_, yer, yka HO_5.out, yhb⟩

     subst c10
     have H1 : (if a1 < a0 then (if x5_1.length < 17592186044416 then (spec_LineCells.l0 kj4 a0 a1 (x5_1 ++ [wrap64 ((wrap64 (a1 * a0)) + x6_1)]) (wrap64 (x6_1 + 1))) else (none)) else (if x5_1.length < 17592186044416 then (spec_LineCells.l0 kj4 a0 a1 (x5_1 ++ [wrap64 ((wrap64 ((wrap64 (x6_1 * a0)) + a1)) - a0)]) (wrap64 (x6_1 + 1))) else (none))) = some r := by rw [if_pos rfl] at H; exact H
     clear H
     have H := H1
     clear H1
     by_cases c11 : a1 < a0
     ·rw [if_pos c11] at H
      have c11b0 : decide (a1 < a0) = true := decide_eq_true c11
      clear c11
      replace H := yig H
      obtain ⟨c12, H⟩ := H
      have LMc12 := yam c12
      clear c12
      obtain ⟨y162, hy162⟩ : ∃ y_ : List Int, y_ = (x5_1 ++ [wrap64 ((wrap64 (a1 * a0)) + x6_1)]) := ⟨_, rfl⟩
      replace H : (spec_LineCells.l0 kj4 a0 a1 y162 (wrap64 (x6_1 + 1))) = some r := by first | (rw [hy162]; with_reducible exact H) | (have H2_ := (Option.bind_some _ _).symm.trans H; rw [hy162]; with_reducible exact H2_) | (have H2_ := (Option.bind_some _ _).symm.trans H; with_reducible exact H2_) | with_reducible exact H | (rw [hy162]; exact H) | exact H
      have Ny162 := yam hy162
      clear hy162
      have H' := yam H
      clear H
      go_wp2_with (first | ((with_reducible refine gate_builtin (b := .append) (xs := #[.tmp 27, .tmp 33]) rfl ?_); at_builtin; refine Kd.R_append (Kd.int .i64) (w0 := w) w.heap.size rfl (.tmp 27) (.tmp 33) 22 3 (.int .i64 0) 8 rfl Try.underlying22 info3 rfl (by decide) (by omega) u5 x5_1 (wrap64 ((wrap64 (a1 * a0)) + x6_1)) [.int .i64 (wrap64 ((wrap64 (a1 * a0)) + x6_1))] (fun _ => True) (fun _ => False) rfl rfl ?aP (fun _ hk => hk.elim) ?aF ?aO ?aB ?aS ?aL ?_; (case aP => exact rfl); (case aB => exact (yez HB.out)); (case aF => exact (fun _ _ => trivial)); (case aO => exact (Kd.Yz HO_5.out)); (case aS => exact (below_size (yez HB.out))); (case aL => have := LMc12.out; omega); intro v163 w13 ho hb hg hat; rw [← Ny162.out] at ho; replace HB := yam (hb); have HO164 := yam (ho); clear HO_5; clear ho hb hg hat))
      go_roundg kj4
      case measure => have := HK1.out; have := HJ4.out; omega
      case rel => exact ⟨(y162), (wrap64 (x6_1 + 1)), yeq, H', ⟨by have := HK1.out; have := HJ4.out; omega⟩, ⟨yka HO164.out⟩, ⟨yhb⟩⟩
     rw [if_neg c11] at H
     have c11b0 : decide (a1 < a0) = false := decide_eq_false c11
     clear c11
     replace H := yig H
     obtain ⟨c14, H⟩ := H
     have LMc14 := yam c14
     clear c14
     obtain ⟨y165, hy165⟩ : ∃ y_ : List Int, y_ = (x5_1 ++ [wrap64 ((wrap64 ((wrap64 (x6_1 * a0)) + a1)) - a0)]) := ⟨_, rfl⟩
     replace H : (spec_LineCells.l0 kj4 a0 a1 y165 (wrap64 (x6_1 + 1))) = some r := by first | (rw [hy165]; with_reducible exact H) | (have H2_ := (Option.bind_some _ _).symm.trans H; rw [hy165]; with_reducible exact H2_) | (have H2_ := (Option.bind_some _ _).symm.trans H; with_reducible exact H2_) | with_reducible exact H | (rw [hy165]; exact H) | exact H
     have Ny165 := yam hy165
     clear hy165
     have H' := yam H
     clear H
     go_wp2_with (first | ((with_reducible refine gate_builtin (b := .append) (xs := #[.tmp 35, .tmp 43]) rfl ?_); at_builtin; refine Kd.R_append (Kd.int .i64) (w0 := w) w.heap.size rfl (.tmp 35) (.tmp 43) 22 3 (.int .i64 0) 8 rfl Try.underlying22 info3 rfl (by decide) (by omega) u5 x5_1 (wrap64 ((wrap64 ((wrap64 (x6_1 * a0)) + a1)) - a0)) [.int .i64 (wrap64 ((wrap64 ((wrap64 (x6_1 * a0)) + a1)) - a0))] (fun _ => True) (fun _ => False) rfl rfl ?aP (fun _ hk => hk.elim) ?aF ?aO ?aB ?aS ?aL ?_; (case aP => exact rfl); (case aB => exact (yez HB.out)); (case aF => exact (fun _ _ => trivial)); (case aO => exact (Kd.Yz HO_5.out)); (case aS => exact (below_size (yez HB.out))); (case aL => have := LMc14.out; omega); intro v166 w15 ho hb hg hat; rw [← Ny165.out] at ho; replace HB := yam (hb); have HO167 := yam (ho); clear HO_5; clear ho hb hg hat))
     go_roundg kj4
     case measure => have := HK1.out; have := HJ4.out; omega
     case rel => exact ⟨(y165), (wrap64 (x6_1 + 1)), yeq, H', ⟨by have := HK1.out; have := HJ4.out; omega⟩, ⟨yka HO167.out⟩, ⟨yhb⟩⟩
end Go.Proofs.Ytdemlminhkhonaa.P
