/- The machine's side: each Go function as a plain Lean function and the proof that the machine's call does what that function says; written by this session's own program over the kit's print. -/
import Derived.Test.YtdemlminhkhonaaZP1
import Derived.Test.YtdemlminhkhonaaZP2
import Derived.Test.YtdemlminhkhonaaZP5
import Derived.Test.YtdemlminhkhonaaZP7
namespace Go.Proofs.Ytdemlminhkhonaa.P
open Go.RowKit Go.Proofs.YtdemlminhkhonaaW.PrintWords Go.Proofs.YtdemlminhkhonaaW.PrintLast Go.Proofs.YtdemlminhkhonaaW.PrintMore
attribute [local go_sem] max2_int min2_int max_two min_two max_three min_three max_four min_four   -- for this text's walks alone
set_option linter.unusedVariables false
set_option linter.unusedSimpArgs false
def laws_FnExactNarrowAll.f (k : Nat) (a0_0 : Int) (l0_1 : List Int) (l0_2 : List S65) (l1 : List Int) (a2 : Int) : Option Bool := if (l1.length : Int) > 1048576 then some true else (laws_szPuzzle.f k a0_0 l0_1 l0_2 1048576).bind fun u107 => if u107 < 0 then some true else (laws_toPuzzle.f k a0_0 l0_1 l0_2).bind fun u108 => (laws_toIntS.f k l1).bind fun u109 => (spec_NarrowAll.f k u108.1 u108.2.1 u108.2.2 u109 a2).bind fun u110 => (laws_toPuzzle.f k a0_0 l0_1 l0_2).bind fun u111 => (laws_toIntS.f k l1).bind fun u112 => (impl_NarrowAll.f k u111.1 u111.2.1 u111.2.2 u112 a2).bind fun u113 => (laws_eqIntS.f k u113.1 u110.1).bind fun u114 => if u114 = true then if (u113.2 != u110.2) = true then some false else (laws_toPuzzle.f k a0_0 l0_1 l0_2).bind fun u115 => (laws_eqPuzzle.f k u111.1 u111.2.1 u111.2.2 u115.1 u115.2.1 u115.2.2).bind fun u116 => if u116 = true then (laws_toIntS.f k l1).bind fun u117 => (laws_eqIntS.f k u112 u117).bind fun u118 => if u118 = true then (laws_markPuzzle.f k u111.1 u111.2.1 u111.2.2 1).bind fun u119 => (laws_markIntS.f k u112 u119.1).bind fun u120 => if u120.1 < 0 then some false else (laws_eqIntS.f k u113.1 u110.1).bind fun u121 => if u121 = true then if (u113.2 != u110.2) = true then some false else (laws_markIntS.f k u113.1 1).bind fun u122 => (laws_heldIntS.f k u122.2 1).bind fun u123 => if u123 < 0 then some false else if (u123 != u122.1) = true then some false else (laws_toPuzzle.f k a0_0 l0_1 l0_2).bind fun u124 => (laws_toIntS.f k l1).bind fun u125 => (impl_NarrowAll.f k u124.1 u124.2.1 u124.2.2 u125 a2).bind fun u126 => (laws_eqIntS.f k u126.1 u110.1).bind fun u127 => if u127 = true then if (u126.2 != u110.2) = true then some false else (laws_heldIntS.f k u122.2 1).bind fun u128 => if u128 < 0 then some false else if (u128 != u122.1) = true then some false else some true else some false else some false else some false else some false else some false
set_option maxHeartbeats 8000000 in
set_option maxRecDepth 100000 in
theorem laws_FnExactNarrowAll.calls (k : Nat) (a0_0 : Int) (A0_1 : Option Addr) (c0_1 : Nat) (l0_1 : List Int) (A0_2 : Option Addr) (c0_2 : Nat) (l0_2 : List S65) (A1 : Option Addr) (c1 : Nat) (l1 : List Int) (a2 : Int) (_r : Bool) (w : World) (hr0_1 : Kd.C (Kd.int .i64) w A0_1 l0_1.length l0_1) (hc0_1 : l0_1.length ≤ c0_1) (hr0_2 : Kd.C k65 w A0_2 l0_2.length l0_2) (hc0_2 : l0_2.length ≤ c0_2) (hr1 : Kd.C (Kd.int .i64) w A1 l1.length l1) (hc1 : l1.length ≤ c1) (h : laws_FnExactNarrowAll.f k a0_0 l0_1 l0_2 l1 a2 = some true) :
  Calls Try.prog 7 #[.agg #[.int .i64 a0_0, .slice A0_1 l0_1.length c0_1, .slice A0_2 l0_2.length c0_2], .slice A1 l1.length c1, .int .i64 a2] w fun e w' => e = .returned (.bool true) ∧ Below w.heap.size w w' := by
 have HR0_1 := yam hr0_1
 have HC0_1 := yam hc0_1
 clear hr0_1 hc0_1
 have HR0_2 := yam hr0_2
 have HC0_2 := yam hc0_2
 clear hr0_2 hc0_2
 have HR1 := yam hr1
 have HC1 := yam hc1
 clear hr1 hc1
 have HB := yam (Below.refl w.heap.size w)
 unfold laws_FnExactNarrowAll.f at h
 by_cases q1 : (l1.length : Int) > 1048576
 ·clear h
  have b1 : decide (1048576 < (l1.length : Int)) = true := decide_eq_true q1
  have bb1 : decide (1048576 < l1.length) = true := decide_eq_true (by omega)
  clear q1
  go_enter Try.func7, Try.ntmps7
  go_wp2_with (first
   | ((with_reducible refine gate_dst (N := 3) rfl ?_); refine ybe 3 #[.int .i64 a0_0, .slice A0_1 l0_1.length c0_1, .slice A0_2 l0_2.length c0_2] 25 ?_; intro g1 hg w1_ hbox hb; have Bg1 := yam hbox; have Gg1 := yam (show w.heap.size ≤ g1 ∧ g1 < w1_.heap.size from ⟨Nat.le_of_eq hg.symm, blk_lt hbox⟩); have Zw1_ := yam hb.size; replace HB := yam (below_step HB.out hb); clear hb hbox hg))
  go_ret
  exact ⟨rfl, HB.out⟩
 rw [if_neg q1] at h
 have b1 : decide (1048576 < (l1.length : Int)) = false := decide_eq_false q1
 have bb1 : decide (1048576 < l1.length) = false := decide_eq_false (by omega)
 clear q1
 replace h := Option.bind_eq_some_iff.1 h
 obtain ⟨t3, e_, h⟩ := h
 try dsimp only at h
 have E2 := yam e_
 clear e_
 by_cases q2 : t3 < 0
 ·clear h
  have b2 := decide_eq_true q2
  clear q2
  go_enter Try.func7, Try.ntmps7
  go_wp2_with (first
   | ((with_reducible refine gate_dst (N := 3) rfl ?_); refine ybe 3 #[.int .i64 a0_0, .slice A0_1 l0_1.length c0_1, .slice A0_2 l0_2.length c0_2] 25 ?_; intro g1 hg w1_ hbox hb; have Bg1 := yam hbox; have Gg1 := yam (show w.heap.size ≤ g1 ∧ g1 < w1_.heap.size from ⟨Nat.le_of_eq hg.symm, blk_lt hbox⟩); have Zw1_ := yam hb.size; replace HB := yam (below_step HB.out hb); have hzg1_0 : w1_.cell? ⟨g1, 0, none⟩ = some (.int .i64 a0_0) := (blk_cell Bg1.out 0).trans rfl; have hzg1_1 : w1_.cell? ⟨g1, 1, none⟩ = some (.slice A0_1 l0_1.length c0_1) := (blk_cell Bg1.out 1).trans rfl; have hzg1_2 : w1_.cell? ⟨g1, 2, none⟩ = some (.slice A0_2 l0_2.length c0_2) := (blk_cell Bg1.out 2).trans rfl; clear hb hbox hg)
   | ((with_reducible refine gate_callee (f := 9) rfl ?_); refine goesL_ (some 24) rfl rfl Try.func9 (by kernel_rfl) rfl #[.agg #[.int .i64 a0_0, .slice A0_1 l0_1.length c0_1, .slice A0_2 l0_2.length c0_2], .int .i64 1048576] rfl yma ?_; (with_reducible refine (laws_szPuzzle.calls k a0_0 _ _ l0_1 _ _ l0_2 1048576 t3 _ (Kd.C_below HR0_1.out HB.out) HC0_1.out (Kd.C_below HR0_2.out HB.out) HC0_2.out E2.out).mono ?_); rintro e w2_ ⟨rfl, hb⟩; refine ⟨_, rfl, ?_⟩; clear Bg1; have Zw2_ := yam hb.size; replace HB := yam (below_step HB.out hb); clear hb; clear hzg1_0; clear hzg1_1; clear hzg1_2; skip))
  go_ret
  exact ⟨rfl, HB.out⟩
 rw [if_neg q2] at h
 have b2 := decide_eq_false q2
 clear q2
 replace h := Option.bind_eq_some_iff.1 h
 obtain ⟨⟨t5, t6, t10⟩, e_, h⟩ := h
 try dsimp only at h
 have E4 := yam e_
 clear e_
 replace h := Option.bind_eq_some_iff.1 h
 obtain ⟨t15, e_, h⟩ := h
 try dsimp only at h
 have E14 := yam e_
 clear e_
 replace h := Option.bind_eq_some_iff.1 h
 obtain ⟨⟨t20, t24⟩, e_, h⟩ := h
 try dsimp only at h
 have E19 := yam e_
 clear e_
 replace h := Option.bind_eq_some_iff.1 h
 obtain ⟨⟨t26, t27, t31⟩, e_, h⟩ := h
 try dsimp only at h
 have E25 := yam e_
 clear e_
 replace h := Option.bind_eq_some_iff.1 h
 obtain ⟨t37, e_, h⟩ := h
 try dsimp only at h
 have E36 := yam e_
 clear e_
 replace h := Option.bind_eq_some_iff.1 h
 obtain ⟨⟨t42, t46⟩, e_, h⟩ := h
 try dsimp only at h
 have E41 := yam e_
 clear e_
 replace h := Option.bind_eq_some_iff.1 h
 obtain ⟨t48, e_, h⟩ := h
 try dsimp only at h
 have E47 := yam e_
 clear e_
 by_cases q3 : t48 = true
 rotate_left
 ·rw [if_neg q3] at h
  exact absurd h (by decide)
 rw [if_pos q3] at h
 subst q3
 by_cases q4 : (t46 != t24) = true
 ·rw [if_pos q4] at h
  exact absurd h (by decide)
 rw [if_neg q4] at h
 have b4 : (t46 != t24) = false := by simpa using q4
 have bb4 : t46 = t24 := by simpa using q4
 clear q4
 have bc4 := yam bb4
 clear bb4
 replace h := Option.bind_eq_some_iff.1 h
 obtain ⟨⟨t50, t51, t55⟩, e_, h⟩ := h
 try dsimp only at h
 have E49 := yam e_
 clear e_
 replace h := Option.bind_eq_some_iff.1 h
 obtain ⟨t60, e_, h⟩ := h
 try dsimp only at h
 have E59 := yam e_
 clear e_
 by_cases q5 : t60 = true
 rotate_left
 ·rw [if_neg q5] at h
  exact absurd h (by decide)
 rw [if_pos q5] at h
 subst q5
 replace h := Option.bind_eq_some_iff.1 h
 obtain ⟨t62, e_, h⟩ := h
 try dsimp only at h
 have E61 := yam e_
 clear e_
 replace h := Option.bind_eq_some_iff.1 h
 obtain ⟨t67, e_, h⟩ := h
 try dsimp only at h
 have E66 := yam e_
 clear e_
 by_cases q6 : t67 = true
 rotate_left
 ·rw [if_neg q6] at h
  exact absurd h (by decide)
 rw [if_pos q6] at h
 subst q6
 replace h := Option.bind_eq_some_iff.1 h
 obtain ⟨⟨t69, t70, t71⟩, e_, h⟩ := h
 try dsimp only at h
 have E68 := yam e_
 clear e_
 replace h := Option.bind_eq_some_iff.1 h
 obtain ⟨⟨t73, t74⟩, e_, h⟩ := h
 try dsimp only at h
 have E72 := yam e_
 clear e_
 by_cases q7 : t73 < 0
 ·rw [if_pos q7] at h
  exact absurd h (by decide)
 rw [if_neg q7] at h
 have b7 := decide_eq_false q7
 clear q7
 replace h := Option.bind_eq_some_iff.1 h
 obtain ⟨t76, e_, h⟩ := h
 try dsimp only at h
 have E75 := yam e_
 clear e_
 by_cases q8 : t76 = true
 rotate_left
 ·rw [if_neg q8] at h
  exact absurd h (by decide)
 rw [if_pos q8] at h
 subst q8
 by_cases q9 : (t46 != t24) = true
 ·rw [if_pos q9] at h
  exact absurd h (by decide)
 rw [if_neg q9] at h
 have b9 : (t46 != t24) = false := by simpa using q9
 have bb9 : t46 = t24 := by simpa using q9
 clear q9
 have bc9 := yam bb9
 clear bb9
 replace h := Option.bind_eq_some_iff.1 h
 obtain ⟨⟨t78, t79⟩, e_, h⟩ := h
 try dsimp only at h
 have E77 := yam e_
 clear e_
 replace h := Option.bind_eq_some_iff.1 h
 obtain ⟨t81, e_, h⟩ := h
 try dsimp only at h
 have E80 := yam e_
 clear e_
 by_cases q10 : t81 < 0
 ·rw [if_pos q10] at h
  exact absurd h (by decide)
 rw [if_neg q10] at h
 have b10 := decide_eq_false q10
 clear q10
 by_cases q11 : (t81 != t78) = true
 ·rw [if_pos q11] at h
  exact absurd h (by decide)
 rw [if_neg q11] at h
 have b11 : (t81 != t78) = false := by simpa using q11
 have bb11 : t81 = t78 := by simpa using q11
 clear q11
 have bc11 := yam bb11
 clear bb11
 replace h := Option.bind_eq_some_iff.1 h
 obtain ⟨⟨t83, t84, t88⟩, e_, h⟩ := h
 try dsimp only at h
 have E82 := yam e_
 clear e_
 replace h := Option.bind_eq_some_iff.1 h
 obtain ⟨t93, e_, h⟩ := h
 try dsimp only at h
 have E92 := yam e_
 clear e_
 replace h := Option.bind_eq_some_iff.1 h
 obtain ⟨⟨t98, t102⟩, e_, h⟩ := h
 try dsimp only at h
 have E97 := yam e_
 clear e_
 replace h := Option.bind_eq_some_iff.1 h
 obtain ⟨t104, e_, h⟩ := h
 try dsimp only at h
 have E103 := yam e_
 clear e_
 by_cases q12 : t104 = true
 rotate_left
 ·rw [if_neg q12] at h
  exact absurd h (by decide)
 rw [if_pos q12] at h
 subst q12
 by_cases q13 : (t102 != t24) = true
 ·rw [if_pos q13] at h
  exact absurd h (by decide)
 rw [if_neg q13] at h
 have b13 : (t102 != t24) = false := by simpa using q13
 have bb13 : t102 = t24 := by simpa using q13
 clear q13
 have bc13 := yam bb13
 clear bb13
 replace h := Option.bind_eq_some_iff.1 h
 obtain ⟨t106, e_, h⟩ := h
 try dsimp only at h
 have E105 := yam e_
 clear e_
 by_cases q14 : t106 < 0
 ·rw [if_pos q14] at h
  exact absurd h (by decide)
 rw [if_neg q14] at h
 have b14 := decide_eq_false q14
 clear q14
 by_cases q15 : (t106 != t78) = true
 ·rw [if_pos q15] at h
  exact absurd h (by decide)
 rw [if_neg q15] at h
 have b15 : (t106 != t78) = false := by simpa using q15
 have bb15 : t106 = t78 := by simpa using q15
 clear q15
 have bc15 := yam bb15
 clear bb15
 clear h
 go_enter Try.func7, Try.ntmps7
 go_wp2_with (first
  | ((with_reducible refine gate_dst (N := 3) rfl ?_); refine ybe 3 #[.int .i64 a0_0, .slice A0_1 l0_1.length c0_1, .slice A0_2 l0_2.length c0_2] 25 ?_; intro g1 hg w1_ hbox hb; have Bg1 := yam hbox; have Gg1 := yam (show w.heap.size ≤ g1 ∧ g1 < w1_.heap.size from ⟨Nat.le_of_eq hg.symm, blk_lt hbox⟩); have Zw1_ := yam hb.size; replace HB := yam (below_step HB.out hb); have hzg1_0 : w1_.cell? ⟨g1, 0, none⟩ = some (.int .i64 a0_0) := (blk_cell Bg1.out 0).trans rfl; have hzg1_1 : w1_.cell? ⟨g1, 1, none⟩ = some (.slice A0_1 l0_1.length c0_1) := (blk_cell Bg1.out 1).trans rfl; have hzg1_2 : w1_.cell? ⟨g1, 2, none⟩ = some (.slice A0_2 l0_2.length c0_2) := (blk_cell Bg1.out 2).trans rfl; clear hb hbox hg)
  | ((with_reducible refine gate_callee (f := 9) rfl ?_); refine goesL_ (some 24) rfl rfl Try.func9 (by kernel_rfl) rfl #[.agg #[.int .i64 a0_0, .slice A0_1 l0_1.length c0_1, .slice A0_2 l0_2.length c0_2], .int .i64 1048576] rfl yma ?_; (with_reducible refine (laws_szPuzzle.calls k a0_0 _ _ l0_1 _ _ l0_2 1048576 t3 _ (Kd.C_below HR0_1.out HB.out) HC0_1.out (Kd.C_below HR0_2.out HB.out) HC0_2.out E2.out).mono ?_); rintro e w2_ ⟨rfl, hb⟩; refine ⟨_, rfl, ?_⟩; replace Bg1 := yam (blk_below Bg1.out hb); have Zw2_ := yam hb.size; replace HB := yam (below_step HB.out hb); clear hb; clear hzg1_0; clear hzg1_1; clear hzg1_2; have hzg1_0 : w2_.cell? ⟨g1, 0, none⟩ = some (.int .i64 a0_0) := (blk_cell Bg1.out 0).trans rfl; have hzg1_1 : w2_.cell? ⟨g1, 1, none⟩ = some (.slice A0_1 l0_1.length c0_1) := (blk_cell Bg1.out 1).trans rfl; have hzg1_2 : w2_.cell? ⟨g1, 2, none⟩ = some (.slice A0_2 l0_2.length c0_2) := (blk_cell Bg1.out 2).trans rfl; skip)
  | ((with_reducible refine gate_callee (f := 11) rfl ?_); refine goesL_ (some 29) rfl rfl Try.func11 (by kernel_rfl) rfl #[.agg #[.int .i64 a0_0, .slice A0_1 l0_1.length c0_1, .slice A0_2 l0_2.length c0_2]] rfl yma ?_; (with_reducible refine (laws_toPuzzle.calls k a0_0 _ _ l0_1 _ _ l0_2 t5 t6 t10 _ (Kd.C_below HR0_1.out HB.out) HC0_1.out (Kd.C_below HR0_2.out HB.out) HC0_2.out E4.out).mono ?_); rintro e w3_ ⟨v0_, v1_, rfl, ho0_, ho1_, hb⟩; refine ⟨_, rfl, ?_⟩; replace Bg1 := yam (blk_below Bg1.out hb); have O7 := yam (Kd.R_born ho0_ (below_size HB.out)); obtain ⟨A8, c9, e_⟩ := Kd.R_slice O7.out; subst e_; have O11 := yam (Kd.S_born ho1_ (below_size HB.out)); obtain ⟨A12, c13, e_⟩ := Kd.S_slice O11.out; subst e_; have Zw3_ := yam hb.size; replace HB := yam (below_step HB.out hb); clear hb ho0_ ho1_; clear hzg1_0; clear hzg1_1; clear hzg1_2; have hzg1_0 : w3_.cell? ⟨g1, 0, none⟩ = some (.int .i64 a0_0) := (blk_cell Bg1.out 0).trans rfl; have hzg1_1 : w3_.cell? ⟨g1, 1, none⟩ = some (.slice A0_1 l0_1.length c0_1) := (blk_cell Bg1.out 1).trans rfl; have hzg1_2 : w3_.cell? ⟨g1, 2, none⟩ = some (.slice A0_2 l0_2.length c0_2) := (blk_cell Bg1.out 2).trans rfl; skip)
  | ((with_reducible refine gate_callee (f := 26) rfl ?_); refine goesL_ (some 31) rfl rfl Try.func26 (by kernel_rfl) rfl #[.slice A1 l1.length c1] rfl yma ?_; (with_reducible refine (laws_toIntS.calls k _ _ l1 t15 _ (Kd.C_below HR1.out HB.out) HC1.out E14.out).mono ?_); rintro e w4_ ⟨v0_, rfl, ho0_, hb⟩; refine ⟨_, rfl, ?_⟩; replace O7 := yam (Kd.R_below O7.out hb); replace O11 := yam (Kd.S_below O11.out hb); replace Bg1 := yam (blk_below Bg1.out hb); have O16 := yam (Kd.R_born ho0_ (below_size HB.out)); obtain ⟨A17, c18, e_⟩ := Kd.R_slice O16.out; subst e_; have Zw4_ := yam hb.size; replace HB := yam (below_step HB.out hb); clear hb ho0_; clear hzg1_0; clear hzg1_1; clear hzg1_2; have hzg1_0 : w4_.cell? ⟨g1, 0, none⟩ = some (.int .i64 a0_0) := (blk_cell Bg1.out 0).trans rfl; have hzg1_1 : w4_.cell? ⟨g1, 1, none⟩ = some (.slice A0_1 l0_1.length c0_1) := (blk_cell Bg1.out 1).trans rfl; have hzg1_2 : w4_.cell? ⟨g1, 2, none⟩ = some (.slice A0_2 l0_2.length c0_2) := (blk_cell Bg1.out 2).trans rfl; skip)
  | ((with_reducible refine gate_callee (f := 28) rfl ?_); refine goesL_ (some 33) rfl rfl Try.func28 (by kernel_rfl) rfl #[.agg #[.int .i64 t5, .slice A8 t6.length c9, .slice A12 t10.length c13], .slice A17 t15.length c18, .int .i64 a2] rfl yma ?_; (with_reducible refine (spec_NarrowAll.calls k t5 _ _ t6 _ _ t10 _ _ t15 a2 t20 t24 _ (Kd.R_reads' O7.out).2.2 (Kd.R_reads' O7.out).2.1 (Kd.R_reads' (Kd.S_R O11.out)).2.2 (Kd.R_reads' (Kd.S_R O11.out)).2.1 (Kd.R_reads' O16.out).2.2 (Kd.R_reads' O16.out).2.1 E19.out).mono ?_); rintro e w5_ ⟨v0_, rfl, ho0_, hb⟩; refine ⟨_, rfl, ?_⟩; replace Bg1 := yam (blk_below Bg1.out hb); clear O7; clear O11; clear O16; have O21 := yam (Kd.R_born ho0_ (below_size HB.out)); obtain ⟨A22, c23, e_⟩ := Kd.R_slice O21.out; subst e_; have Zw5_ := yam hb.size; replace HB := yam (below_step HB.out hb); clear hb ho0_; clear hzg1_0; clear hzg1_1; clear hzg1_2; have hzg1_0 : w5_.cell? ⟨g1, 0, none⟩ = some (.int .i64 a0_0) := (blk_cell Bg1.out 0).trans rfl; have hzg1_1 : w5_.cell? ⟨g1, 1, none⟩ = some (.slice A0_1 l0_1.length c0_1) := (blk_cell Bg1.out 1).trans rfl; have hzg1_2 : w5_.cell? ⟨g1, 2, none⟩ = some (.slice A0_2 l0_2.length c0_2) := (blk_cell Bg1.out 2).trans rfl; skip)
  | ((with_reducible refine gate_callee (f := 11) rfl ?_); refine goesL_ (some 37) rfl rfl Try.func11 (by kernel_rfl) rfl #[.agg #[.int .i64 a0_0, .slice A0_1 l0_1.length c0_1, .slice A0_2 l0_2.length c0_2]] rfl yma ?_; (with_reducible refine (laws_toPuzzle.calls k a0_0 _ _ l0_1 _ _ l0_2 t26 t27 t31 _ (Kd.C_below HR0_1.out HB.out) HC0_1.out (Kd.C_below HR0_2.out HB.out) HC0_2.out E25.out).mono ?_); rintro e w6_ ⟨v0_, v1_, rfl, ho0_, ho1_, hb⟩; refine ⟨_, rfl, ?_⟩; replace O21 := yam (Kd.R_below O21.out hb); replace Bg1 := yam (blk_below Bg1.out hb); have O28 := yam (Kd.R_born ho0_ (below_size HB.out)); obtain ⟨A29, c30, e_⟩ := Kd.R_slice O28.out; subst e_; have O32 := yam (Kd.S_born ho1_ (below_size HB.out)); obtain ⟨A33, c34, e_⟩ := Kd.S_slice O32.out; subst e_; have Zw6_ := yam hb.size; replace HB := yam (below_step HB.out hb); clear hb ho0_ ho1_; clear hzg1_0; clear hzg1_1; clear hzg1_2; skip)
  | ((with_reducible refine gate_dst (N := 10) rfl ?_); refine ybe 10 #[.int .i64 0, .slice none 0 0, .slice none 0 0] 30 ?_; intro g35 hg w7_ hbox hb; replace O21 := yam (Kd.R_below O21.out hb); replace O28 := yam (Kd.R_below O28.out hb); replace O32 := yam (Kd.S_below O32.out hb); replace Bg1 := yam (blk_below Bg1.out hb); have Bg35 := yam hbox; have Gg35 := yam (show w6_.heap.size ≤ g35 ∧ g35 < w7_.heap.size from ⟨Nat.le_of_eq hg.symm, blk_lt hbox⟩); have Zw7_ := yam hb.size; have Lg35 := yam (show w.heap.size ≤ g35 from Nat.le_trans (below_size HB.out) (Nat.le_of_eq hg.symm)); replace HB := yam (below_step HB.out hb); have hzg35_0 : w7_.cell? ⟨g35, 0, none⟩ = some (.int .i64 0) := (blk_cell Bg35.out 0).trans rfl; have hzg35_1 : w7_.cell? ⟨g35, 1, none⟩ = some (.slice none 0 0) := (blk_cell Bg35.out 1).trans rfl; have hzg35_2 : w7_.cell? ⟨g35, 2, none⟩ = some (.slice none 0 0) := (blk_cell Bg35.out 2).trans rfl; have hzfg35_0 := blk_frozen Bg35.out 0; have hzfg35_1 := blk_frozen Bg35.out 1; have hzfg35_2 := blk_frozen Bg35.out 2; clear hb hbox hg)
  | ((with_reducible refine gate_store (t := 30) (p := 10) rfl ?_); refine store_event (t := 30) (p := 10) (v := ?vog35) (w1 := ((w7_.setCell ⟨g35, 0, none⟩ (.int .i64 t26)).setCell ⟨g35, 1, none⟩ (.slice A29 t27.length c30)).setCell ⟨g35, 2, none⟩ (.slice A33 t31.length c34)) ?hg ?ho ?hn ?hr ?_; (case ho => rfl); (case hg => rfl); (case hn => rfl); (case hr => first | (go_simp; done) | (go_simp; rfl)); intro w8_ hw; have hk : Kept w7_ w8_ (fun k_ => k_ = g35) := (by rw [hw]; exact box3_kept _ _ _ _ _); have hx : w8_.heap[g35]? = some (.cells #[.int .i64 t26, .slice A29 t27.length c30, .slice A33 t31.length c34] 30 (0, 0)) := (by rw [hw]; exact box3_blk Bg35.out _ _ _); have hb : Below w.heap.size w w8_ := (by rw [hw]; exact box3_below HB.out Lg35.out _ _ _); clear hw; replace O21 := yam (Kd.R_kept O21.out hk (fun k_ h_ s_ => by have hx_ := Gg35.out; have hy_ := h_.1; have hz_ := s_; have := Zw1_.out; have := Zw2_.out; have := Zw3_.out; have := Zw4_.out; have := Zw5_.out; have := Zw6_.out; have := Zw7_.out; omega)); replace O28 := yam (Kd.R_kept O28.out hk (fun k_ h_ s_ => by have hx_ := Gg35.out; have hy_ := h_.1; have hz_ := s_; have := Zw1_.out; have := Zw2_.out; have := Zw3_.out; have := Zw4_.out; have := Zw5_.out; have := Zw6_.out; have := Zw7_.out; omega)); replace O32 := yam (Kd.S_kept O32.out hk (fun k_ h_ s_ => by have hx_ := Gg35.out; have hy_ := h_.1; have hz_ := s_; have := Zw1_.out; have := Zw2_.out; have := Zw3_.out; have := Zw4_.out; have := Zw5_.out; have := Zw6_.out; have := Zw7_.out; omega)); replace Bg1 := yam (blk_kept Bg1.out hk (fun s_ => by have hx_ := Gg35.out; have hy_ := Gg1.out; have hz_ := s_; have := Zw1_.out; have := Zw2_.out; have := Zw3_.out; have := Zw4_.out; have := Zw5_.out; have := Zw6_.out; have := Zw7_.out; omega)); replace Bg35 := yam hx; have Zw8_ := yam hk.1; replace HB := yam hb; clear hzfg35_0; clear hzfg35_1; clear hzfg35_2; clear hzg35_0; clear hzg35_1; clear hzg35_2; have hzg35_0 : w8_.cell? ⟨g35, 0, none⟩ = some (.int .i64 t26) := (blk_cell Bg35.out 0).trans rfl; have hzg35_1 : w8_.cell? ⟨g35, 1, none⟩ = some (.slice A29 t27.length c30) := (blk_cell Bg35.out 1).trans rfl; have hzg35_2 : w8_.cell? ⟨g35, 2, none⟩ = some (.slice A33 t31.length c34) := (blk_cell Bg35.out 2).trans rfl; clear hk hx hb)
  | ((with_reducible refine gate_callee (f := 26) rfl ?_); refine goesL_ (some 39) rfl rfl Try.func26 (by kernel_rfl) rfl #[.slice A1 l1.length c1] rfl yma ?_; (with_reducible refine (laws_toIntS.calls k _ _ l1 t37 _ (Kd.C_below HR1.out HB.out) HC1.out E36.out).mono ?_); rintro e w9_ ⟨v0_, rfl, ho0_, hb⟩; refine ⟨_, rfl, ?_⟩; replace O21 := yam (Kd.R_below O21.out hb); replace O28 := yam (Kd.R_below O28.out hb); replace O32 := yam (Kd.S_below O32.out hb); replace Bg1 := yam (blk_below Bg1.out hb); replace Bg35 := yam (blk_below Bg35.out hb); have O38 := yam (Kd.R_born ho0_ (below_size HB.out)); obtain ⟨A39, c40, e_⟩ := Kd.R_slice O38.out; subst e_; have Zw9_ := yam hb.size; replace HB := yam (below_step HB.out hb); clear hb ho0_; clear hzg35_0; clear hzg35_1; clear hzg35_2; have hzg35_0 : w9_.cell? ⟨g35, 0, none⟩ = some (.int .i64 t26) := (blk_cell Bg35.out 0).trans rfl; have hzg35_1 : w9_.cell? ⟨g35, 1, none⟩ = some (.slice A29 t27.length c30) := (blk_cell Bg35.out 1).trans rfl; have hzg35_2 : w9_.cell? ⟨g35, 2, none⟩ = some (.slice A33 t31.length c34) := (blk_cell Bg35.out 2).trans rfl; skip)
  | ((with_reducible refine gate_callee (f := 29) rfl ?_); refine goesL_ (some 44) rfl rfl Try.func29 (by kernel_rfl) rfl #[.agg #[.int .i64 t26, .slice A29 t27.length c30, .slice A33 t31.length c34], .slice A39 t37.length c40, .int .i64 a2] rfl yma ?_; (with_reducible refine (impl_NarrowAll.calls k t26 _ _ t27 _ _ t31 _ _ t37 a2 t42 t46 _ (Kd.R_reads' O28.out).2.2 (Kd.R_reads' O28.out).2.1 (Kd.R_reads' (Kd.S_R O32.out)).2.2 (Kd.R_reads' (Kd.S_R O32.out)).2.1 (Kd.R_reads' O38.out).2.2 (Kd.R_reads' O38.out).2.1 E41.out).mono ?_); rintro e w10_ ⟨v0_, rfl, ho0_, hb⟩; refine ⟨_, rfl, ?_⟩; replace O21 := yam (Kd.R_below O21.out hb); replace O28 := yam (Kd.R_below O28.out hb); replace O32 := yam (Kd.S_below O32.out hb); replace O38 := yam (Kd.R_below O38.out hb); replace Bg1 := yam (blk_below Bg1.out hb); replace Bg35 := yam (blk_below Bg35.out hb); have O43 := yam (Kd.R_born ho0_ (below_size HB.out)); obtain ⟨A44, c45, e_⟩ := Kd.R_slice O43.out; subst e_; have Zw10_ := yam hb.size; replace HB := yam (below_step HB.out hb); clear hb ho0_; clear hzg35_0; clear hzg35_1; clear hzg35_2; skip)
  | ((with_reducible refine gate_callee (f := 13) rfl ?_); refine goesL_ (some 49) rfl rfl Try.func13 (by kernel_rfl) rfl #[.slice A44 t42.length c45, .slice A22 t20.length c23] rfl yma ?_; (with_reducible refine (laws_eqIntS.calls k _ _ t42 _ _ t20 true _ (Kd.R_reads' O43.out).2.2 (Kd.R_reads' O43.out).2.1 (Kd.R_reads' O21.out).2.2 (Kd.R_reads' O21.out).2.1 E47.out).mono ?_); rintro e w11_ ⟨rfl, hd⟩; refine ⟨_, rfl, ?_⟩; have hb := hd.below; clear hd; replace O21 := yam (Kd.R_below O21.out hb); replace O28 := yam (Kd.R_below O28.out hb); replace O32 := yam (Kd.S_below O32.out hb); replace O38 := yam (Kd.R_below O38.out hb); replace O43 := yam (Kd.R_below O43.out hb); replace Bg1 := yam (blk_below Bg1.out hb); replace Bg35 := yam (blk_below Bg35.out hb); have Zw11_ := yam hb.size; replace HB := yam (below_step HB.out hb); clear hb; skip))
 refine start_ (n := 5) (S := fun w' => w'.cell? ⟨g35, 0, none⟩ = some (.int .i64 t26) ∧ w'.cell? ⟨g35, 1, none⟩ = some (.slice A29 t27.length c30) ∧ w'.cell? ⟨g35, 2, none⟩ = some (.slice A33 t31.length c34) ∧ w'.cell? ⟨g1, 0, none⟩ = some (.int .i64 a0_0) ∧ w'.cell? ⟨g1, 1, none⟩ = some (.slice A0_1 l0_1.length c0_1) ∧ w'.cell? ⟨g1, 2, none⟩ = some (.slice A0_2 l0_2.length c0_2)) (ds := []) #[false, false, false, false, false] (by kernel_rfl) rfl rfl ⟨(blk_cell Bg35.out 0).trans rfl, (blk_cell Bg35.out 1).trans rfl, (blk_cell Bg35.out 2).trans rfl, (blk_cell Bg1.out 0).trans rfl, (blk_cell Bg1.out 1).trans rfl, (blk_cell Bg1.out 2).trans rfl⟩ (fun hHeld => ?_)
 replace O21 := yam (Kd.R_drew O21.out)
 replace O28 := yam (Kd.R_drew O28.out)
 replace O32 := yam (Kd.S_drew O32.out)
 replace O38 := yam (Kd.R_drew O38.out)
 replace O43 := yam (Kd.R_drew O43.out)
 have HB_ := yam (show Below w.heap.size w w11_.drew from below_drew HB.out)
 have hdz_ := yam (show w11_.heap.size ≤ w11_.drew.heap.size from Nat.le_refl _)
 clear HB
 have HB := HB_
 clear HB_
 have n_ := yam (show w11_.drew.heap[g1]? = _ from Bg1.out)
 clear Bg1
 have Bg1 := n_
 clear n_
 have n_ := yam (show w11_.drew.heap[g35]? = _ from Bg35.out)
 clear Bg35
 have Bg35 := n_
 clear n_
 generalize w11_.drew = w12_ at hHeld HB hdz_ O21 O28 O32 O38 O43 Bg1 Bg35 ⊢
 have Zw12_ := hdz_
 clear hdz_
 refine take_ (i := 0) (N := some 56) (v := ?_) (a' := ?_) #[true, false, false, false, false] rfl rfl (by kernel_rfl) (fun _ _ _ h => h) (Or.inl ⟨by rfl, ?_⟩) hHeld ?_ ?_
 rotate_left
 ·rintro w' ⟨s0, s1, s2, s3, s4, s5⟩
  go_simp
  with_reducible rfl
 rotate_left
 ·simp only [Act.put, yps, i64_w, i32_w]
  rfl
 refine take_ (i := 1) (N := some 57) (v := ?_) (a' := ?_) #[true, true, false, false, false] rfl rfl (by kernel_rfl) (fun _ _ _ h => h) (Or.inl ⟨by rfl, ?_⟩) hHeld ?_ ?_
 rotate_left
 ·rintro w' ⟨s0, s1, s2, s3, s4, s5⟩
  go_simp
  with_reducible rfl
 rotate_left
 ·simp only [Act.put, yps, i64_w, i32_w]
  rfl
 refine one_ (i := 2) (N := some 58) #[true, true, true, false, false] rfl rfl (by kernel_rfl) (by decide) (fun K hK => ?_)
 refine goes_ Try.func11 (by kernel_rfl) rfl #[.agg #[.int .i64 a0_0, .slice A0_1 l0_1.length c0_1, .slice A0_2 l0_2.length c0_2]] (by rfl) rfl rfl yma ?_
 with_reducible refine (laws_toPuzzle.calls k a0_0 _ _ l0_1 _ _ l0_2 t50 t51 t55 _ (Kd.C_below HR0_1.out HB.out) HC0_1.out (Kd.C_below HR0_2.out HB.out) HC0_2.out E49.out).mono ?_
 rintro e w13_ ⟨v0_, v1_, rfl, ho0_, ho1_, hb⟩
 refine ⟨_, rfl, ?_⟩
 replace O21 := yam (Kd.R_below O21.out hb)
 replace O28 := yam (Kd.R_below O28.out hb)
 replace O32 := yam (Kd.S_below O32.out hb)
 replace O38 := yam (Kd.R_below O38.out hb)
 replace O43 := yam (Kd.R_below O43.out hb)
 replace Bg1 := yam (blk_below Bg1.out hb)
 replace Bg35 := yam (blk_below Bg35.out hb)
 have O52 := yam (Kd.R_born ho0_ (below_size HB.out))
 obtain ⟨A53, c54, e_⟩ := Kd.R_slice O52.out
 subst e_
 have O56 := yam (Kd.S_born ho1_ (below_size HB.out))
 obtain ⟨A57, c58, e_⟩ := Kd.S_slice O56.out
 subst e_
 have Zw13_ := yam hb.size
 replace HB := yam (below_step HB.out hb)
 clear hb ho0_ ho1_
 refine hK.out _ _ ⟨(blk_cell Bg35.out 0).trans rfl, (blk_cell Bg35.out 1).trans rfl, (blk_cell Bg35.out 2).trans rfl, (blk_cell Bg1.out 0).trans rfl, (blk_cell Bg1.out 1).trans rfl, (blk_cell Bg1.out 2).trans rfl⟩ (fun hHeld => ?_)
 clear hK K
 refine norm_ (a' := ?_) ?_ ?_
 rotate_left
 ·show Act.put _ (some 58) _ = _
  simp only [Act.put, yps, i64_w, i32_w]
  rfl
 refine one_ (i := 3) (N := some 59) #[true, true, true, true, false] rfl rfl (by kernel_rfl) (by decide) (fun K hK => ?_)
 refine goes_ Try.func14 (by kernel_rfl) rfl #[.agg #[.int .i64 t26, .slice A29 t27.length c30, .slice A33 t31.length c34], .agg #[.int .i64 t50, .slice A53 t51.length c54, .slice A57 t55.length c58]] (by rfl) rfl rfl yma ?_
 with_reducible refine (laws_eqPuzzle.calls k t26 _ _ t27 _ _ t31 t50 _ _ t51 _ _ t55 true _ (Kd.R_reads' O28.out).2.2 (Kd.R_reads' O28.out).2.1 (Kd.R_reads' (Kd.S_R O32.out)).2.2 (Kd.R_reads' (Kd.S_R O32.out)).2.1 (Kd.R_reads' O52.out).2.2 (Kd.R_reads' O52.out).2.1 (Kd.R_reads' (Kd.S_R O56.out)).2.2 (Kd.R_reads' (Kd.S_R O56.out)).2.1 E59.out).mono ?_
 rintro e w14_ ⟨rfl, hb⟩
 refine ⟨_, rfl, ?_⟩
 replace O21 := yam (Kd.R_below O21.out hb)
 replace O28 := yam (Kd.R_below O28.out hb)
 replace O32 := yam (Kd.S_below O32.out hb)
 replace O38 := yam (Kd.R_below O38.out hb)
 replace O43 := yam (Kd.R_below O43.out hb)
 replace Bg1 := yam (blk_below Bg1.out hb)
 replace Bg35 := yam (blk_below Bg35.out hb)
 clear O52
 clear O56
 have Zw14_ := yam hb.size
 replace HB := yam (below_step HB.out hb)
 clear hb
 refine hK.out _ _ ⟨(blk_cell Bg35.out 0).trans rfl, (blk_cell Bg35.out 1).trans rfl, (blk_cell Bg35.out 2).trans rfl, (blk_cell Bg1.out 0).trans rfl, (blk_cell Bg1.out 1).trans rfl, (blk_cell Bg1.out 2).trans rfl⟩ (fun hHeld => ?_)
 clear hK K
 refine norm_ (a' := ?_) ?_ ?_
 rotate_left
 ·show Act.put _ (some 59) _ = _
  simp only [Act.put, yps, i64_w, i32_w]
  rfl
 refine pure_ (i := 4) (N := some 60) (v := ?_) (a' := ?_) #[true, true, true, true, true] rfl rfl (by kernel_rfl) (fun _ _ _ h => h) (Or.inl ⟨by rfl, ?_⟩) ?_ ?_
 rotate_left
 ·intro w'
  go_simp
  with_reducible rfl
 rotate_left
 ·simp only [Act.put, yps, i64_w, i32_w]
  rfl
 refine done_ (by kernel_rfl) ?_
 have hzg1_0 : w14_.cell? ⟨g1, 0, none⟩ = some (.int .i64 a0_0) := (blk_cell Bg1.out 0).trans rfl
 have hzg1_1 : w14_.cell? ⟨g1, 1, none⟩ = some (.slice A0_1 l0_1.length c0_1) := (blk_cell Bg1.out 1).trans rfl
 have hzg1_2 : w14_.cell? ⟨g1, 2, none⟩ = some (.slice A0_2 l0_2.length c0_2) := (blk_cell Bg1.out 2).trans rfl
 have hzg35_0 : w14_.cell? ⟨g35, 0, none⟩ = some (.int .i64 t26) := (blk_cell Bg35.out 0).trans rfl
 have hzg35_1 : w14_.cell? ⟨g35, 1, none⟩ = some (.slice A29 t27.length c30) := (blk_cell Bg35.out 1).trans rfl
 have hzg35_2 : w14_.cell? ⟨g35, 2, none⟩ = some (.slice A33 t31.length c34) := (blk_cell Bg35.out 2).trans rfl
 go_wp2_with (first
  | ((with_reducible refine gate_callee (f := 26) rfl ?_); refine goesL_ (some 63) rfl rfl Try.func26 (by kernel_rfl) rfl #[.slice A1 l1.length c1] rfl yma ?_; (with_reducible refine (laws_toIntS.calls k _ _ l1 t62 _ (Kd.C_below HR1.out HB.out) HC1.out E61.out).mono ?_); rintro e w15_ ⟨v0_, rfl, ho0_, hb⟩; refine ⟨_, rfl, ?_⟩; replace O21 := yam (Kd.R_below O21.out hb); replace O28 := yam (Kd.R_below O28.out hb); replace O32 := yam (Kd.S_below O32.out hb); replace O38 := yam (Kd.R_below O38.out hb); replace O43 := yam (Kd.R_below O43.out hb); replace Bg1 := yam (blk_below Bg1.out hb); replace Bg35 := yam (blk_below Bg35.out hb); have O63 := yam (Kd.R_born ho0_ (below_size HB.out)); obtain ⟨A64, c65, e_⟩ := Kd.R_slice O63.out; subst e_; have Zw15_ := yam hb.size; replace HB := yam (below_step HB.out hb); clear hb ho0_; clear hzg1_0; clear hzg1_1; clear hzg1_2; clear hzg35_0; clear hzg35_1; clear hzg35_2; have hzg1_0 : w15_.cell? ⟨g1, 0, none⟩ = some (.int .i64 a0_0) := (blk_cell Bg1.out 0).trans rfl; have hzg1_1 : w15_.cell? ⟨g1, 1, none⟩ = some (.slice A0_1 l0_1.length c0_1) := (blk_cell Bg1.out 1).trans rfl; have hzg1_2 : w15_.cell? ⟨g1, 2, none⟩ = some (.slice A0_2 l0_2.length c0_2) := (blk_cell Bg1.out 2).trans rfl; have hzg35_0 : w15_.cell? ⟨g35, 0, none⟩ = some (.int .i64 t26) := (blk_cell Bg35.out 0).trans rfl; have hzg35_1 : w15_.cell? ⟨g35, 1, none⟩ = some (.slice A29 t27.length c30) := (blk_cell Bg35.out 1).trans rfl; have hzg35_2 : w15_.cell? ⟨g35, 2, none⟩ = some (.slice A33 t31.length c34) := (blk_cell Bg35.out 2).trans rfl; skip)
  | ((with_reducible refine gate_callee (f := 13) rfl ?_); refine goesL_ (some 64) rfl rfl Try.func13 (by kernel_rfl) rfl #[.slice A39 t37.length c40, .slice A64 t62.length c65] rfl yma ?_; (with_reducible refine (laws_eqIntS.calls k _ _ t37 _ _ t62 true _ (Kd.R_reads' O38.out).2.2 (Kd.R_reads' O38.out).2.1 (Kd.R_reads' O63.out).2.2 (Kd.R_reads' O63.out).2.1 E66.out).mono ?_); rintro e w16_ ⟨rfl, hd⟩; refine ⟨_, rfl, ?_⟩; have hb := hd.below; clear hd; replace O21 := yam (Kd.R_below O21.out hb); replace O28 := yam (Kd.R_below O28.out hb); replace O32 := yam (Kd.S_below O32.out hb); replace O38 := yam (Kd.R_below O38.out hb); replace O43 := yam (Kd.R_below O43.out hb); replace Bg1 := yam (blk_below Bg1.out hb); replace Bg35 := yam (blk_below Bg35.out hb); clear O63; have Zw16_ := yam hb.size; replace HB := yam (below_step HB.out hb); clear hb; clear hzg1_0; clear hzg1_1; clear hzg1_2; clear hzg35_0; clear hzg35_1; clear hzg35_2; have hzg1_0 : w16_.cell? ⟨g1, 0, none⟩ = some (.int .i64 a0_0) := (blk_cell Bg1.out 0).trans rfl; have hzg1_1 : w16_.cell? ⟨g1, 1, none⟩ = some (.slice A0_1 l0_1.length c0_1) := (blk_cell Bg1.out 1).trans rfl; have hzg1_2 : w16_.cell? ⟨g1, 2, none⟩ = some (.slice A0_2 l0_2.length c0_2) := (blk_cell Bg1.out 2).trans rfl; have hzg35_0 : w16_.cell? ⟨g35, 0, none⟩ = some (.int .i64 t26) := (blk_cell Bg35.out 0).trans rfl; have hzg35_1 : w16_.cell? ⟨g35, 1, none⟩ = some (.slice A29 t27.length c30) := (blk_cell Bg35.out 1).trans rfl; have hzg35_2 : w16_.cell? ⟨g35, 2, none⟩ = some (.slice A33 t31.length c34) := (blk_cell Bg35.out 2).trans rfl; skip)
  | ((with_reducible refine gate_callee (f := 15) rfl ?_); refine goesL_ (some 68) rfl rfl Try.func15 (by kernel_rfl) rfl #[.agg #[.int .i64 t26, .slice A29 t27.length c30, .slice A33 t31.length c34], .int .i64 1] rfl yma ?_; (with_reducible refine (laws_markPuzzle.calls k t26 _ _ _ _ t27 _ _ t31 1 t69 t70 t71 w w16_ HB.out apart_own (Kd.R_tight rfl O28.out) O32.out E68.out).mono ?_); rintro e w17_ ⟨rfl, hm0_, hm1_, hb, hk⟩; refine ⟨_, rfl, ?_⟩; replace O21 := yam (Kd.R_kept O21.out hk (fun k_ h_ s_ => s_.elim (fun p_ => by have hx_ := (O28.out.1 _ p_.symm).1; have hy_ := h_.1; have := Zw1_.out; have := Zw2_.out; have := Zw3_.out; have := Zw4_.out; have := Zw5_.out; have := Zw6_.out; have := Zw7_.out; have := Zw8_.out; have := Zw9_.out; have := Zw10_.out; have := Zw11_.out; have := Zw12_.out; have := Zw13_.out; have := Zw14_.out; have := Zw15_.out; have := Zw16_.out; omega) (fun q_ => by have hx_ := q_.1; have hy_ := h_.1; have := Zw1_.out; have := Zw2_.out; have := Zw3_.out; have := Zw4_.out; have := Zw5_.out; have := Zw6_.out; have := Zw7_.out; have := Zw8_.out; have := Zw9_.out; have := Zw10_.out; have := Zw11_.out; have := Zw12_.out; have := Zw13_.out; have := Zw14_.out; have := Zw15_.out; have := Zw16_.out; omega))); replace O38 := yam (Kd.R_kept O38.out hk (fun k_ h_ s_ => s_.elim (fun p_ => by have hx_ := (O28.out.1 _ p_.symm).1; have hy_ := h_.1; have := Zw1_.out; have := Zw2_.out; have := Zw3_.out; have := Zw4_.out; have := Zw5_.out; have := Zw6_.out; have := Zw7_.out; have := Zw8_.out; have := Zw9_.out; have := Zw10_.out; have := Zw11_.out; have := Zw12_.out; have := Zw13_.out; have := Zw14_.out; have := Zw15_.out; have := Zw16_.out; omega) (fun q_ => by have hx_ := q_.1; have hy_ := h_.1; have := Zw1_.out; have := Zw2_.out; have := Zw3_.out; have := Zw4_.out; have := Zw5_.out; have := Zw6_.out; have := Zw7_.out; have := Zw8_.out; have := Zw9_.out; have := Zw10_.out; have := Zw11_.out; have := Zw12_.out; have := Zw13_.out; have := Zw14_.out; have := Zw15_.out; have := Zw16_.out; omega))); replace O43 := yam (Kd.R_kept O43.out hk (fun k_ h_ s_ => s_.elim (fun p_ => by have hx_ := (O28.out.1 _ p_.symm).1; have hy_ := h_.1; have := Zw1_.out; have := Zw2_.out; have := Zw3_.out; have := Zw4_.out; have := Zw5_.out; have := Zw6_.out; have := Zw7_.out; have := Zw8_.out; have := Zw9_.out; have := Zw10_.out; have := Zw11_.out; have := Zw12_.out; have := Zw13_.out; have := Zw14_.out; have := Zw15_.out; have := Zw16_.out; omega) (fun q_ => by have hx_ := q_.1; have hy_ := h_.1; have := Zw1_.out; have := Zw2_.out; have := Zw3_.out; have := Zw4_.out; have := Zw5_.out; have := Zw6_.out; have := Zw7_.out; have := Zw8_.out; have := Zw9_.out; have := Zw10_.out; have := Zw11_.out; have := Zw12_.out; have := Zw13_.out; have := Zw14_.out; have := Zw15_.out; have := Zw16_.out; omega))); replace Bg1 := yam (blk_kept Bg1.out hk (fun s_ => s_.elim (fun p_ => by have hx_ := (O28.out.1 _ p_.symm).1; have hy_ := Gg1.out; have := Zw1_.out; have := Zw2_.out; have := Zw3_.out; have := Zw4_.out; have := Zw5_.out; have := Zw6_.out; have := Zw7_.out; have := Zw8_.out; have := Zw9_.out; have := Zw10_.out; have := Zw11_.out; have := Zw12_.out; have := Zw13_.out; have := Zw14_.out; have := Zw15_.out; have := Zw16_.out; omega) (fun q_ => by have hx_ := q_.1; have hy_ := Gg1.out; have := Zw1_.out; have := Zw2_.out; have := Zw3_.out; have := Zw4_.out; have := Zw5_.out; have := Zw6_.out; have := Zw7_.out; have := Zw8_.out; have := Zw9_.out; have := Zw10_.out; have := Zw11_.out; have := Zw12_.out; have := Zw13_.out; have := Zw14_.out; have := Zw15_.out; have := Zw16_.out; omega))); clear O28; clear O32; clear Bg35; have Zw17_ := yam hk.1; replace HB := yam hb; clear hk hb hm0_ hm1_; clear hzg1_0; clear hzg1_1; clear hzg1_2; clear hzg35_0; clear hzg35_1; clear hzg35_2; have hzg1_0 : w17_.cell? ⟨g1, 0, none⟩ = some (.int .i64 a0_0) := (blk_cell Bg1.out 0).trans rfl; have hzg1_1 : w17_.cell? ⟨g1, 1, none⟩ = some (.slice A0_1 l0_1.length c0_1) := (blk_cell Bg1.out 1).trans rfl; have hzg1_2 : w17_.cell? ⟨g1, 2, none⟩ = some (.slice A0_2 l0_2.length c0_2) := (blk_cell Bg1.out 2).trans rfl; skip)
  | ((with_reducible refine gate_callee (f := 16) rfl ?_); refine goesL_ (some 71) rfl rfl Try.func16 (by kernel_rfl) rfl #[.slice A39 t37.length c40, .int .i64 t69] rfl yma ?_; (with_reducible refine (laws_markIntS.calls k _ _ t37 t69 t73 t74 w w17_ HB.out (Kd.R_tight rfl O38.out) E72.out).mono ?_); rintro e w18_ ⟨rfl, hm0_, hb, hk⟩; refine ⟨_, rfl, ?_⟩; replace O21 := yam (Kd.R_kept O21.out hk (fun k_ h_ s_ => by have hx_ := (O38.out.1 _ s_.symm).1; have hy_ := h_.1; have := Zw1_.out; have := Zw2_.out; have := Zw3_.out; have := Zw4_.out; have := Zw5_.out; have := Zw6_.out; have := Zw7_.out; have := Zw8_.out; have := Zw9_.out; have := Zw10_.out; have := Zw11_.out; have := Zw12_.out; have := Zw13_.out; have := Zw14_.out; have := Zw15_.out; have := Zw16_.out; have := Zw17_.out; omega)); replace O43 := yam (Kd.R_kept O43.out hk (fun k_ h_ s_ => by have hx_ := (O38.out.1 _ s_.symm).1; have hy_ := h_.1; have := Zw1_.out; have := Zw2_.out; have := Zw3_.out; have := Zw4_.out; have := Zw5_.out; have := Zw6_.out; have := Zw7_.out; have := Zw8_.out; have := Zw9_.out; have := Zw10_.out; have := Zw11_.out; have := Zw12_.out; have := Zw13_.out; have := Zw14_.out; have := Zw15_.out; have := Zw16_.out; have := Zw17_.out; omega)); replace Bg1 := yam (blk_kept Bg1.out hk (fun s_ => by have hx_ := (O38.out.1 _ s_.symm).1; have hy_ := Gg1.out; have := Zw1_.out; have := Zw2_.out; have := Zw3_.out; have := Zw4_.out; have := Zw5_.out; have := Zw6_.out; have := Zw7_.out; have := Zw8_.out; have := Zw9_.out; have := Zw10_.out; have := Zw11_.out; have := Zw12_.out; have := Zw13_.out; have := Zw14_.out; have := Zw15_.out; have := Zw16_.out; have := Zw17_.out; omega)); clear O38; have Zw18_ := yam hk.1; replace HB := yam hb; clear hk hb hm0_; clear hzg1_0; clear hzg1_1; clear hzg1_2; have hzg1_0 : w18_.cell? ⟨g1, 0, none⟩ = some (.int .i64 a0_0) := (blk_cell Bg1.out 0).trans rfl; have hzg1_1 : w18_.cell? ⟨g1, 1, none⟩ = some (.slice A0_1 l0_1.length c0_1) := (blk_cell Bg1.out 1).trans rfl; have hzg1_2 : w18_.cell? ⟨g1, 2, none⟩ = some (.slice A0_2 l0_2.length c0_2) := (blk_cell Bg1.out 2).trans rfl; skip)
  | (go_at_call 13; (with_reducible refine (laws_eqIntS.calls k _ _ t42 _ _ t20 true _ (Kd.R_reads' O43.out).2.2 (Kd.R_reads' O43.out).2.1 (Kd.R_reads' O21.out).2.2 (Kd.R_reads' O21.out).2.1 E75.out).mono ?_); rintro e w19_ ⟨rfl, hd⟩; have hb := hd.below; clear hd; replace O21 := yam (Kd.R_below O21.out hb); replace O43 := yam (Kd.R_below O43.out hb); replace Bg1 := yam (blk_below Bg1.out hb); have Zw19_ := yam hb.size; replace HB := yam (below_step HB.out hb); clear hb; clear hzg1_0; clear hzg1_1; clear hzg1_2; have hzg1_0 : w19_.cell? ⟨g1, 0, none⟩ = some (.int .i64 a0_0) := (blk_cell Bg1.out 0).trans rfl; have hzg1_1 : w19_.cell? ⟨g1, 1, none⟩ = some (.slice A0_1 l0_1.length c0_1) := (blk_cell Bg1.out 1).trans rfl; have hzg1_2 : w19_.cell? ⟨g1, 2, none⟩ = some (.slice A0_2 l0_2.length c0_2) := (blk_cell Bg1.out 2).trans rfl; skip)
  | ((with_reducible refine gate_callee (f := 16) rfl ?_); refine goesL_ (some 87) rfl rfl Try.func16 (by kernel_rfl) rfl #[.slice A44 t42.length c45, .int .i64 1] rfl yma ?_; (with_reducible refine (laws_markIntS.calls k _ _ t42 1 t78 t79 w w19_ HB.out (Kd.R_tight rfl O43.out) E77.out).mono ?_); rintro e w20_ ⟨rfl, hm0_, hb, hk⟩; refine ⟨_, rfl, ?_⟩; replace O21 := yam (Kd.R_kept O21.out hk (fun k_ h_ s_ => by have hx_ := (O43.out.1 _ s_.symm).1; have hy_ := h_.1; have := Zw1_.out; have := Zw2_.out; have := Zw3_.out; have := Zw4_.out; have := Zw5_.out; have := Zw6_.out; have := Zw7_.out; have := Zw8_.out; have := Zw9_.out; have := Zw10_.out; have := Zw11_.out; have := Zw12_.out; have := Zw13_.out; have := Zw14_.out; have := Zw15_.out; have := Zw16_.out; have := Zw17_.out; have := Zw18_.out; have := Zw19_.out; omega)); replace Bg1 := yam (blk_kept Bg1.out hk (fun s_ => by have hx_ := (O43.out.1 _ s_.symm).1; have hy_ := Gg1.out; have := Zw1_.out; have := Zw2_.out; have := Zw3_.out; have := Zw4_.out; have := Zw5_.out; have := Zw6_.out; have := Zw7_.out; have := Zw8_.out; have := Zw9_.out; have := Zw10_.out; have := Zw11_.out; have := Zw12_.out; have := Zw13_.out; have := Zw14_.out; have := Zw15_.out; have := Zw16_.out; have := Zw17_.out; have := Zw18_.out; have := Zw19_.out; omega)); replace O43 := yam hm0_; have Lt79 := yam (Kd.R_reads' hm0_).1.symm; have Zw20_ := yam hk.1; replace HB := yam hb; clear hk hb hm0_; clear hzg1_0; clear hzg1_1; clear hzg1_2; have hzg1_0 : w20_.cell? ⟨g1, 0, none⟩ = some (.int .i64 a0_0) := (blk_cell Bg1.out 0).trans rfl; have hzg1_1 : w20_.cell? ⟨g1, 1, none⟩ = some (.slice A0_1 l0_1.length c0_1) := (blk_cell Bg1.out 1).trans rfl; have hzg1_2 : w20_.cell? ⟨g1, 2, none⟩ = some (.slice A0_2 l0_2.length c0_2) := (blk_cell Bg1.out 2).trans rfl; skip)
  | ((with_reducible refine gate_callee (f := 17) rfl ?_); refine goesL_ (some 90) rfl rfl Try.func17 (by kernel_rfl) rfl #[.slice A44 t79.length c45, .int .i64 1] rfl (by (try simp only [List.map_toArray, List.map_cons, List.map_nil]); first | done | rfl | (rw [Lt79.out]; rfl)) ?_; (with_reducible refine (laws_heldIntS.calls k _ _ t79 1 t81 _ (Kd.R_reads' O43.out).2.2 (by rw [Lt79.out]; exact (Kd.R_reads' O43.out).2.1) E80.out).mono ?_); rintro e w21_ ⟨rfl, hd⟩; refine ⟨_, rfl, ?_⟩; have hb := hd.below; clear hd; replace O21 := yam (Kd.R_below O21.out hb); replace O43 := yam (Kd.R_below O43.out hb); replace Bg1 := yam (blk_below Bg1.out hb); have Zw21_ := yam hb.size; replace HB := yam (below_step HB.out hb); clear hb; clear hzg1_0; clear hzg1_1; clear hzg1_2; have hzg1_0 : w21_.cell? ⟨g1, 0, none⟩ = some (.int .i64 a0_0) := (blk_cell Bg1.out 0).trans rfl; have hzg1_1 : w21_.cell? ⟨g1, 1, none⟩ = some (.slice A0_1 l0_1.length c0_1) := (blk_cell Bg1.out 1).trans rfl; have hzg1_2 : w21_.cell? ⟨g1, 2, none⟩ = some (.slice A0_2 l0_2.length c0_2) := (blk_cell Bg1.out 2).trans rfl; skip)
  | ((with_reducible refine gate_callee (f := 11) rfl ?_); refine goesL_ (some 98) rfl rfl Try.func11 (by kernel_rfl) rfl #[.agg #[.int .i64 a0_0, .slice A0_1 l0_1.length c0_1, .slice A0_2 l0_2.length c0_2]] rfl yma ?_; (with_reducible refine (laws_toPuzzle.calls k a0_0 _ _ l0_1 _ _ l0_2 t83 t84 t88 _ (Kd.C_below HR0_1.out HB.out) HC0_1.out (Kd.C_below HR0_2.out HB.out) HC0_2.out E82.out).mono ?_); rintro e w22_ ⟨v0_, v1_, rfl, ho0_, ho1_, hb⟩; refine ⟨_, rfl, ?_⟩; replace O21 := yam (Kd.R_below O21.out hb); replace O43 := yam (Kd.R_below O43.out hb); clear Bg1; have O85 := yam (Kd.R_born ho0_ (below_size HB.out)); obtain ⟨A86, c87, e_⟩ := Kd.R_slice O85.out; subst e_; have O89 := yam (Kd.S_born ho1_ (below_size HB.out)); obtain ⟨A90, c91, e_⟩ := Kd.S_slice O89.out; subst e_; have Zw22_ := yam hb.size; replace HB := yam (below_step HB.out hb); clear hb ho0_ ho1_; clear hzg1_0; clear hzg1_1; clear hzg1_2; skip)
  | ((with_reducible refine gate_callee (f := 26) rfl ?_); refine goesL_ (some 100) rfl rfl Try.func26 (by kernel_rfl) rfl #[.slice A1 l1.length c1] rfl yma ?_; (with_reducible refine (laws_toIntS.calls k _ _ l1 t93 _ (Kd.C_below HR1.out HB.out) HC1.out E92.out).mono ?_); rintro e w23_ ⟨v0_, rfl, ho0_, hb⟩; refine ⟨_, rfl, ?_⟩; replace O21 := yam (Kd.R_below O21.out hb); replace O43 := yam (Kd.R_below O43.out hb); replace O85 := yam (Kd.R_below O85.out hb); replace O89 := yam (Kd.S_below O89.out hb); have O94 := yam (Kd.R_born ho0_ (below_size HB.out)); obtain ⟨A95, c96, e_⟩ := Kd.R_slice O94.out; subst e_; have Zw23_ := yam hb.size; replace HB := yam (below_step HB.out hb); clear hb ho0_; skip)
  | ((with_reducible refine gate_callee (f := 29) rfl ?_); refine goesL_ (some 102) rfl rfl Try.func29 (by kernel_rfl) rfl #[.agg #[.int .i64 t83, .slice A86 t84.length c87, .slice A90 t88.length c91], .slice A95 t93.length c96, .int .i64 a2] rfl yma ?_; (with_reducible refine (impl_NarrowAll.calls k t83 _ _ t84 _ _ t88 _ _ t93 a2 t98 t102 _ (Kd.R_reads' O85.out).2.2 (Kd.R_reads' O85.out).2.1 (Kd.R_reads' (Kd.S_R O89.out)).2.2 (Kd.R_reads' (Kd.S_R O89.out)).2.1 (Kd.R_reads' O94.out).2.2 (Kd.R_reads' O94.out).2.1 E97.out).mono ?_); rintro e w24_ ⟨v0_, rfl, ho0_, hb⟩; refine ⟨_, rfl, ?_⟩; replace O21 := yam (Kd.R_below O21.out hb); replace O43 := yam (Kd.R_below O43.out hb); clear O85; clear O89; clear O94; have O99 := yam (Kd.R_born ho0_ (below_size HB.out)); obtain ⟨A100, c101, e_⟩ := Kd.R_slice O99.out; subst e_; have Zw24_ := yam hb.size; replace HB := yam (below_step HB.out hb); clear hb ho0_; skip)
  | ((with_reducible refine gate_callee (f := 13) rfl ?_); refine goesL_ (some 107) rfl rfl Try.func13 (by kernel_rfl) rfl #[.slice A100 t98.length c101, .slice A22 t20.length c23] rfl yma ?_; (with_reducible refine (laws_eqIntS.calls k _ _ t98 _ _ t20 true _ (Kd.R_reads' O99.out).2.2 (Kd.R_reads' O99.out).2.1 (Kd.R_reads' O21.out).2.2 (Kd.R_reads' O21.out).2.1 E103.out).mono ?_); rintro e w25_ ⟨rfl, hd⟩; refine ⟨_, rfl, ?_⟩; have hb := hd.below; clear hd; replace O43 := yam (Kd.R_below O43.out hb); clear O21; clear O99; have Zw25_ := yam hb.size; replace HB := yam (below_step HB.out hb); clear hb; skip)
  | ((with_reducible refine gate_callee (f := 17) rfl ?_); refine goesL_ (some 116) rfl rfl Try.func17 (by kernel_rfl) rfl #[.slice A44 t79.length c45, .int .i64 1] rfl (by (try simp only [List.map_toArray, List.map_cons, List.map_nil]); first | done | rfl | (rw [Lt79.out]; rfl)) ?_; (with_reducible refine (laws_heldIntS.calls k _ _ t79 1 t106 _ (Kd.R_reads' O43.out).2.2 (by rw [Lt79.out]; exact (Kd.R_reads' O43.out).2.1) E105.out).mono ?_); rintro e w26_ ⟨rfl, hd⟩; refine ⟨_, rfl, ?_⟩; have hb := hd.below; clear hd; clear O43; have Zw26_ := yam hb.size; replace HB := yam (below_step HB.out hb); clear hb; skip))
 go_ret
 exact ⟨rfl, HB.out⟩
end Go.Proofs.Ytdemlminhkhonaa.P
