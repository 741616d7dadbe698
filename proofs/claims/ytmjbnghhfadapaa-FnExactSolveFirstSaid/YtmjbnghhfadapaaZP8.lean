/- The machine's side: each Go function as a plain Lean function and the proof that the machine's call does what that function says; written by this session's own program over the kit's print. -/
import Derived.Test.YtmjbnghhfadapaaZP1
import Derived.Test.YtmjbnghhfadapaaZP2
import Derived.Test.YtmjbnghhfadapaaZP5
import Derived.Test.YtmjbnghhfadapaaZP7
namespace Go.Proofs.Ytmjbnghhfadapaa.P
open Go.RowKit Go.Proofs.YtmjbnghhfadapaaW.PrintWords Go.Proofs.YtmjbnghhfadapaaW.PrintLast Go.Proofs.YtmjbnghhfadapaaW.PrintMore
attribute [local go_sem] max2_int min2_int max_two min_two max_three min_three max_four min_four   -- for this text's walks alone
set_option linter.unusedVariables false
set_option linter.unusedSimpArgs false
/-! ### laws_FnExactSolveFirst: function 8 -/
def laws_FnExactSolveFirst.f (k : Nat) (a0_0 : Int) (l0_1 : List Int) (l0_2 : List S70) : Option Bool := (laws_szPuzzle.f k a0_0 l0_1 l0_2 1048576).bind fun u82 => if u82 < 0 then some true else (laws_toPuzzle.f k a0_0 l0_1 l0_2).bind fun u83 => (spec_SolveFirst.f k u83.1 u83.2.1 u83.2.2).bind fun u84 => (laws_toPuzzle.f k a0_0 l0_1 l0_2).bind fun u85 => (impl_SolveFirst.f k u85.1 u85.2.1 u85.2.2).bind fun u86 => (laws_eqIntS.f k u86.1 u84.1).bind fun u87 => if u87 = true then if (u86.2 != u84.2) = true then some false else (laws_toPuzzle.f k a0_0 l0_1 l0_2).bind fun u88 => (laws_eqPuzzle.f k u85.1 u85.2.1 u85.2.2 u88.1 u88.2.1 u88.2.2).bind fun u89 => if u89 = true then (laws_markPuzzle.f k u85.1 u85.2.1 u85.2.2 1).bind fun u90 => if u90.1 < 0 then some false else (laws_eqIntS.f k u86.1 u84.1).bind fun u91 => if u91 = true then if (u86.2 != u84.2) = true then some false else (laws_markIntS.f k u86.1 1).bind fun u92 => (laws_heldIntS.f k u92.2 1).bind fun u93 => if u93 < 0 then some false else if (u93 != u92.1) = true then some false else (laws_toPuzzle.f k a0_0 l0_1 l0_2).bind fun u94 => (impl_SolveFirst.f k u94.1 u94.2.1 u94.2.2).bind fun u95 => (laws_eqIntS.f k u95.1 u84.1).bind fun u96 => if u96 = true then if (u95.2 != u84.2) = true then some false else (laws_heldIntS.f k u92.2 1).bind fun u97 => if u97 < 0 then some false else if (u97 != u92.1) = true then some false else some true else some false else some false else some false else some false
set_option maxHeartbeats 8000000 in
set_option maxRecDepth 100000 in
theorem laws_FnExactSolveFirst.calls (k : Nat) (a0_0 : Int) (A0_1 : Option Addr) (c0_1 : Nat) (l0_1 : List Int) (A0_2 : Option Addr) (c0_2 : Nat) (l0_2 : List S70) (_r : Bool) (w : World) (hr0_1 : Kd.C (Kd.int .i64) w A0_1 l0_1.length l0_1) (hc0_1 : l0_1.length ≤ c0_1) (hr0_2 : Kd.C k70 w A0_2 l0_2.length l0_2) (hc0_2 : l0_2.length ≤ c0_2) (h : laws_FnExactSolveFirst.f k a0_0 l0_1 l0_2 = some true) :
  Calls Try.prog 8 #[.agg #[.int .i64 a0_0, .slice A0_1 l0_1.length c0_1, .slice A0_2 l0_2.length c0_2]] w fun e w' => e = .returned (.bool true) ∧ Below w.heap.size w w' := by
 have HR0_1 := Aside0.mk hr0_1
 have HC0_1 := Aside0.mk hc0_1
 clear hr0_1 hc0_1
 have HR0_2 := Aside0.mk hr0_2
 have HC0_2 := Aside0.mk hc0_2
 clear hr0_2 hc0_2
 have HB := Aside0.mk (Below.refl w.heap.size w)
 unfold laws_FnExactSolveFirst.f at h
 replace h := Option.bind_eq_some_iff.1 h
 obtain ⟨t3, e_, h⟩ := h
 try dsimp only at h
 have E2 := Aside0.mk e_
 clear e_
 by_cases q1 : t3 < 0
 ·clear h
  have b1 := decide_eq_true q1
  clear q1
  go_enter Try.func8, Try.ntmps8
  go_wp2_with (first
   | ((with_reducible refine gate_dst (N := 1) rfl ?_); refine box_event ?hg (N := 1) ?hd (cs := #[.int .i64 a0_0, .slice A0_1 l0_1.length c0_1, .slice A0_2 l0_2.length c0_2]) (t := 48) ?hr ?_; (case hd => rfl); (case hg => rfl); (case hr => first | (go_simp; done) | (go_simp; rfl)); intro g1 hg w1_ hbox hb; have Bg1 := Aside0.mk hbox; have Gg1 := Aside0.mk (show w.heap.size ≤ g1 ∧ g1 < w1_.heap.size from ⟨Nat.le_of_eq hg.symm, blk_lt hbox⟩); have Zw1_ := Aside0.mk hb.size; replace HB := Aside0.mk (below_step HB.out hb); have hzg1_0 : w1_.cell? ⟨g1, 0, none⟩ = some (.int .i64 a0_0) := (blk_cell Bg1.out 0).trans rfl; have hzg1_1 : w1_.cell? ⟨g1, 1, none⟩ = some (.slice A0_1 l0_1.length c0_1) := (blk_cell Bg1.out 1).trans rfl; have hzg1_2 : w1_.cell? ⟨g1, 2, none⟩ = some (.slice A0_2 l0_2.length c0_2) := (blk_cell Bg1.out 2).trans rfl; clear hb hbox hg)
   | ((with_reducible refine gate_callee (f := 30) rfl ?_); refine goesL_ (some 16) rfl rfl Try.func30 (by kernel_rfl) rfl #[.agg #[.int .i64 a0_0, .slice A0_1 l0_1.length c0_1, .slice A0_2 l0_2.length c0_2], .int .i64 1048576] rfl (by (try simp only [List.map_toArray, List.map_cons, List.map_nil]); first | done | rfl) ?_; (with_reducible refine (laws_szPuzzle.calls k a0_0 _ _ l0_1 _ _ l0_2 1048576 t3 _ (Kd.C_below HR0_1.out HB.out) HC0_1.out (Kd.C_below HR0_2.out HB.out) HC0_2.out E2.out).mono ?_); rintro e w2_ ⟨rfl, hb⟩; refine ⟨_, rfl, ?_⟩; clear Bg1; have Zw2_ := Aside0.mk hb.size; replace HB := Aside0.mk (below_step HB.out hb); clear hb; clear hzg1_0; clear hzg1_1; clear hzg1_2; skip))
  go_ret
  exact ⟨rfl, HB.out⟩
 rw [if_neg q1] at h
 have b1 := decide_eq_false q1
 clear q1
 replace h := Option.bind_eq_some_iff.1 h
 obtain ⟨⟨t5, t6, t10⟩, e_, h⟩ := h
 try dsimp only at h
 have E4 := Aside0.mk e_
 clear e_
 replace h := Option.bind_eq_some_iff.1 h
 obtain ⟨⟨t15, t19⟩, e_, h⟩ := h
 try dsimp only at h
 have E14 := Aside0.mk e_
 clear e_
 replace h := Option.bind_eq_some_iff.1 h
 obtain ⟨⟨t21, t22, t26⟩, e_, h⟩ := h
 try dsimp only at h
 have E20 := Aside0.mk e_
 clear e_
 replace h := Option.bind_eq_some_iff.1 h
 obtain ⟨⟨t32, t36⟩, e_, h⟩ := h
 try dsimp only at h
 have E31 := Aside0.mk e_
 clear e_
 replace h := Option.bind_eq_some_iff.1 h
 obtain ⟨t38, e_, h⟩ := h
 try dsimp only at h
 have E37 := Aside0.mk e_
 clear e_
 by_cases q2 : t38 = true
 rotate_left
 ·rw [if_neg q2] at h
  exact absurd h (by decide)
 rw [if_pos q2] at h
 subst q2
 by_cases q3 : (t36 != t19) = true
 ·rw [if_pos q3] at h
  exact absurd h (by decide)
 rw [if_neg q3] at h
 have b3 : (t36 != t19) = false := by simpa using q3
 have bb3 : t36 = t19 := by simpa using q3
 clear q3
 have bc3 := Aside0.mk bb3
 clear bb3
 have be3 : (t36 == t19) = true := beq_iff_eq.2 bc3.out
 replace h := Option.bind_eq_some_iff.1 h
 obtain ⟨⟨t40, t41, t45⟩, e_, h⟩ := h
 try dsimp only at h
 have E39 := Aside0.mk e_
 clear e_
 replace h := Option.bind_eq_some_iff.1 h
 obtain ⟨t50, e_, h⟩ := h
 try dsimp only at h
 have E49 := Aside0.mk e_
 clear e_
 by_cases q4 : t50 = true
 rotate_left
 ·rw [if_neg q4] at h
  exact absurd h (by decide)
 rw [if_pos q4] at h
 subst q4
 replace h := Option.bind_eq_some_iff.1 h
 obtain ⟨⟨t52, t53, t54⟩, e_, h⟩ := h
 try dsimp only at h
 have E51 := Aside0.mk e_
 clear e_
 by_cases q5 : t52 < 0
 ·rw [if_pos q5] at h
  exact absurd h (by decide)
 rw [if_neg q5] at h
 have b5 := decide_eq_false q5
 clear q5
 replace h := Option.bind_eq_some_iff.1 h
 obtain ⟨t56, e_, h⟩ := h
 try dsimp only at h
 have E55 := Aside0.mk e_
 clear e_
 by_cases q6 : t56 = true
 rotate_left
 ·rw [if_neg q6] at h
  exact absurd h (by decide)
 rw [if_pos q6] at h
 subst q6
 by_cases q7 : (t36 != t19) = true
 ·rw [if_pos q7] at h
  exact absurd h (by decide)
 rw [if_neg q7] at h
 have b7 : (t36 != t19) = false := by simpa using q7
 have bb7 : t36 = t19 := by simpa using q7
 clear q7
 have bc7 := Aside0.mk bb7
 clear bb7
 have be7 : (t36 == t19) = true := beq_iff_eq.2 bc7.out
 replace h := Option.bind_eq_some_iff.1 h
 obtain ⟨⟨t58, t59⟩, e_, h⟩ := h
 try dsimp only at h
 have E57 := Aside0.mk e_
 clear e_
 replace h := Option.bind_eq_some_iff.1 h
 obtain ⟨t61, e_, h⟩ := h
 try dsimp only at h
 have E60 := Aside0.mk e_
 clear e_
 by_cases q8 : t61 < 0
 ·rw [if_pos q8] at h
  exact absurd h (by decide)
 rw [if_neg q8] at h
 have b8 := decide_eq_false q8
 clear q8
 by_cases q9 : (t61 != t58) = true
 ·rw [if_pos q9] at h
  exact absurd h (by decide)
 rw [if_neg q9] at h
 have b9 : (t61 != t58) = false := by simpa using q9
 have bb9 : t61 = t58 := by simpa using q9
 clear q9
 have bc9 := Aside0.mk bb9
 clear bb9
 replace h := Option.bind_eq_some_iff.1 h
 obtain ⟨⟨t63, t64, t68⟩, e_, h⟩ := h
 try dsimp only at h
 have E62 := Aside0.mk e_
 clear e_
 replace h := Option.bind_eq_some_iff.1 h
 obtain ⟨⟨t73, t77⟩, e_, h⟩ := h
 try dsimp only at h
 have E72 := Aside0.mk e_
 clear e_
 replace h := Option.bind_eq_some_iff.1 h
 obtain ⟨t79, e_, h⟩ := h
 try dsimp only at h
 have E78 := Aside0.mk e_
 clear e_
 by_cases q10 : t79 = true
 rotate_left
 ·rw [if_neg q10] at h
  exact absurd h (by decide)
 rw [if_pos q10] at h
 subst q10
 by_cases q11 : (t77 != t19) = true
 ·rw [if_pos q11] at h
  exact absurd h (by decide)
 rw [if_neg q11] at h
 have b11 : (t77 != t19) = false := by simpa using q11
 have bb11 : t77 = t19 := by simpa using q11
 clear q11
 have bc11 := Aside0.mk bb11
 clear bb11
 have be11 : (t77 == t19) = true := beq_iff_eq.2 bc11.out
 replace h := Option.bind_eq_some_iff.1 h
 obtain ⟨t81, e_, h⟩ := h
 try dsimp only at h
 have E80 := Aside0.mk e_
 clear e_
 by_cases q12 : t81 < 0
 ·rw [if_pos q12] at h
  exact absurd h (by decide)
 rw [if_neg q12] at h
 have b12 := decide_eq_false q12
 clear q12
 by_cases q13 : (t81 != t58) = true
 ·rw [if_pos q13] at h
  exact absurd h (by decide)
 rw [if_neg q13] at h
 have b13 : (t81 != t58) = false := by simpa using q13
 have bb13 : t81 = t58 := by simpa using q13
 clear q13
 have bc13 := Aside0.mk bb13
 clear bb13
 clear h
 go_enter Try.func8, Try.ntmps8
 go_wp2_with (first
  | ((with_reducible refine gate_dst (N := 1) rfl ?_); refine box_event ?hg (N := 1) ?hd (cs := #[.int .i64 a0_0, .slice A0_1 l0_1.length c0_1, .slice A0_2 l0_2.length c0_2]) (t := 48) ?hr ?_; (case hd => rfl); (case hg => rfl); (case hr => first | (go_simp; done) | (go_simp; rfl)); intro g1 hg w1_ hbox hb; have Bg1 := Aside0.mk hbox; have Gg1 := Aside0.mk (show w.heap.size ≤ g1 ∧ g1 < w1_.heap.size from ⟨Nat.le_of_eq hg.symm, blk_lt hbox⟩); have Zw1_ := Aside0.mk hb.size; replace HB := Aside0.mk (below_step HB.out hb); have hzg1_0 : w1_.cell? ⟨g1, 0, none⟩ = some (.int .i64 a0_0) := (blk_cell Bg1.out 0).trans rfl; have hzg1_1 : w1_.cell? ⟨g1, 1, none⟩ = some (.slice A0_1 l0_1.length c0_1) := (blk_cell Bg1.out 1).trans rfl; have hzg1_2 : w1_.cell? ⟨g1, 2, none⟩ = some (.slice A0_2 l0_2.length c0_2) := (blk_cell Bg1.out 2).trans rfl; clear hb hbox hg)
  | ((with_reducible refine gate_callee (f := 30) rfl ?_); refine goesL_ (some 16) rfl rfl Try.func30 (by kernel_rfl) rfl #[.agg #[.int .i64 a0_0, .slice A0_1 l0_1.length c0_1, .slice A0_2 l0_2.length c0_2], .int .i64 1048576] rfl (by (try simp only [List.map_toArray, List.map_cons, List.map_nil]); first | done | rfl) ?_; (with_reducible refine (laws_szPuzzle.calls k a0_0 _ _ l0_1 _ _ l0_2 1048576 t3 _ (Kd.C_below HR0_1.out HB.out) HC0_1.out (Kd.C_below HR0_2.out HB.out) HC0_2.out E2.out).mono ?_); rintro e w2_ ⟨rfl, hb⟩; refine ⟨_, rfl, ?_⟩; replace Bg1 := Aside0.mk (blk_below Bg1.out hb); have Zw2_ := Aside0.mk hb.size; replace HB := Aside0.mk (below_step HB.out hb); clear hb; clear hzg1_0; clear hzg1_1; clear hzg1_2; have hzg1_0 : w2_.cell? ⟨g1, 0, none⟩ = some (.int .i64 a0_0) := (blk_cell Bg1.out 0).trans rfl; have hzg1_1 : w2_.cell? ⟨g1, 1, none⟩ = some (.slice A0_1 l0_1.length c0_1) := (blk_cell Bg1.out 1).trans rfl; have hzg1_2 : w2_.cell? ⟨g1, 2, none⟩ = some (.slice A0_2 l0_2.length c0_2) := (blk_cell Bg1.out 2).trans rfl; skip)
  | ((with_reducible refine gate_callee (f := 32) rfl ?_); refine goesL_ (some 21) rfl rfl Try.func32 (by kernel_rfl) rfl #[.agg #[.int .i64 a0_0, .slice A0_1 l0_1.length c0_1, .slice A0_2 l0_2.length c0_2]] rfl (by (try simp only [List.map_toArray, List.map_cons, List.map_nil]); first | done | rfl) ?_; (with_reducible refine (laws_toPuzzle.calls k a0_0 _ _ l0_1 _ _ l0_2 t5 t6 t10 _ (Kd.C_below HR0_1.out HB.out) HC0_1.out (Kd.C_below HR0_2.out HB.out) HC0_2.out E4.out).mono ?_); rintro e w3_ ⟨v0_, v1_, rfl, ho0_, ho1_, hb⟩; refine ⟨_, rfl, ?_⟩; replace Bg1 := Aside0.mk (blk_below Bg1.out hb); have O7 := Aside0.mk (Kd.R_born ho0_ (below_size HB.out)); obtain ⟨A8, c9, e_⟩ := Kd.R_slice O7.out; subst e_; have O11 := Aside0.mk (Kd.S_born ho1_ (below_size HB.out)); obtain ⟨A12, c13, e_⟩ := Kd.S_slice O11.out; subst e_; have Zw3_ := Aside0.mk hb.size; replace HB := Aside0.mk (below_step HB.out hb); clear hb ho0_ ho1_; clear hzg1_0; clear hzg1_1; clear hzg1_2; have hzg1_0 : w3_.cell? ⟨g1, 0, none⟩ = some (.int .i64 a0_0) := (blk_cell Bg1.out 0).trans rfl; have hzg1_1 : w3_.cell? ⟨g1, 1, none⟩ = some (.slice A0_1 l0_1.length c0_1) := (blk_cell Bg1.out 1).trans rfl; have hzg1_2 : w3_.cell? ⟨g1, 2, none⟩ = some (.slice A0_2 l0_2.length c0_2) := (blk_cell Bg1.out 2).trans rfl; skip)
  | ((with_reducible refine gate_callee (f := 36) rfl ?_); refine goesL_ (some 22) rfl rfl Try.func36 (by kernel_rfl) rfl #[.agg #[.int .i64 t5, .slice A8 t6.length c9, .slice A12 t10.length c13]] rfl (by (try simp only [List.map_toArray, List.map_cons, List.map_nil]); first | done | rfl) ?_; (with_reducible refine (spec_SolveFirst.calls k t5 _ _ t6 _ _ t10 t15 t19 _ (Kd.R_reads' O7.out).2.2 (Kd.R_reads' O7.out).2.1 (Kd.R_reads' (Kd.S_R O11.out)).2.2 (Kd.R_reads' (Kd.S_R O11.out)).2.1 E14.out).mono ?_); rintro e w4_ ⟨v0_, rfl, ho0_, hb⟩; refine ⟨_, rfl, ?_⟩; replace Bg1 := Aside0.mk (blk_below Bg1.out hb); clear O7; clear O11; have O16 := Aside0.mk (Kd.R_born ho0_ (below_size HB.out)); obtain ⟨A17, c18, e_⟩ := Kd.R_slice O16.out; subst e_; have Zw4_ := Aside0.mk hb.size; replace HB := Aside0.mk (below_step HB.out hb); clear hb ho0_; clear hzg1_0; clear hzg1_1; clear hzg1_2; have hzg1_0 : w4_.cell? ⟨g1, 0, none⟩ = some (.int .i64 a0_0) := (blk_cell Bg1.out 0).trans rfl; have hzg1_1 : w4_.cell? ⟨g1, 1, none⟩ = some (.slice A0_1 l0_1.length c0_1) := (blk_cell Bg1.out 1).trans rfl; have hzg1_2 : w4_.cell? ⟨g1, 2, none⟩ = some (.slice A0_2 l0_2.length c0_2) := (blk_cell Bg1.out 2).trans rfl; skip)
  | ((with_reducible refine gate_callee (f := 32) rfl ?_); refine goesL_ (some 26) rfl rfl Try.func32 (by kernel_rfl) rfl #[.agg #[.int .i64 a0_0, .slice A0_1 l0_1.length c0_1, .slice A0_2 l0_2.length c0_2]] rfl (by (try simp only [List.map_toArray, List.map_cons, List.map_nil]); first | done | rfl) ?_; (with_reducible refine (laws_toPuzzle.calls k a0_0 _ _ l0_1 _ _ l0_2 t21 t22 t26 _ (Kd.C_below HR0_1.out HB.out) HC0_1.out (Kd.C_below HR0_2.out HB.out) HC0_2.out E20.out).mono ?_); rintro e w5_ ⟨v0_, v1_, rfl, ho0_, ho1_, hb⟩; refine ⟨_, rfl, ?_⟩; replace O16 := Aside0.mk (Kd.R_below O16.out hb); replace Bg1 := Aside0.mk (blk_below Bg1.out hb); have O23 := Aside0.mk (Kd.R_born ho0_ (below_size HB.out)); obtain ⟨A24, c25, e_⟩ := Kd.R_slice O23.out; subst e_; have O27 := Aside0.mk (Kd.S_born ho1_ (below_size HB.out)); obtain ⟨A28, c29, e_⟩ := Kd.S_slice O27.out; subst e_; have Zw5_ := Aside0.mk hb.size; replace HB := Aside0.mk (below_step HB.out hb); clear hb ho0_ ho1_; clear hzg1_0; clear hzg1_1; clear hzg1_2; skip)
  | ((with_reducible refine gate_dst (N := 6) rfl ?_); refine box_event ?hg (N := 6) ?hd (cs := #[.int .i64 0, .slice none 0 0, .slice none 0 0]) (t := 37) ?hr ?_; (case hd => rfl); (case hg => rfl); (case hr => first | (go_simp; done) | (go_simp; rfl)); intro g30 hg w6_ hbox hb; replace O16 := Aside0.mk (Kd.R_below O16.out hb); replace O23 := Aside0.mk (Kd.R_below O23.out hb); replace O27 := Aside0.mk (Kd.S_below O27.out hb); replace Bg1 := Aside0.mk (blk_below Bg1.out hb); have Bg30 := Aside0.mk hbox; have Gg30 := Aside0.mk (show w5_.heap.size ≤ g30 ∧ g30 < w6_.heap.size from ⟨Nat.le_of_eq hg.symm, blk_lt hbox⟩); have Zw6_ := Aside0.mk hb.size; have Lg30 := Aside0.mk (show w.heap.size ≤ g30 from Nat.le_trans (below_size HB.out) (Nat.le_of_eq hg.symm)); replace HB := Aside0.mk (below_step HB.out hb); have hzg30_0 : w6_.cell? ⟨g30, 0, none⟩ = some (.int .i64 0) := (blk_cell Bg30.out 0).trans rfl; have hzg30_1 : w6_.cell? ⟨g30, 1, none⟩ = some (.slice none 0 0) := (blk_cell Bg30.out 1).trans rfl; have hzg30_2 : w6_.cell? ⟨g30, 2, none⟩ = some (.slice none 0 0) := (blk_cell Bg30.out 2).trans rfl; have hzfg30_0 := blk_frozen Bg30.out 0; have hzfg30_1 := blk_frozen Bg30.out 1; have hzfg30_2 := blk_frozen Bg30.out 2; clear hb hbox hg)
  | ((with_reducible refine gate_store (t := 37) (p := 6) rfl ?_); refine store_event (t := 37) (p := 6) (v := ?vog30) (w1 := ((w6_.setCell ⟨g30, 0, none⟩ (.int .i64 t21)).setCell ⟨g30, 1, none⟩ (.slice A24 t22.length c25)).setCell ⟨g30, 2, none⟩ (.slice A28 t26.length c29)) ?hg ?ho ?hn ?hr ?_; (case ho => rfl); (case hg => rfl); (case hn => rfl); (case hr => first | (go_simp; done) | (go_simp; rfl)); intro w7_ hw; have hk : Kept w6_ w7_ (fun k_ => k_ = g30) := (by rw [hw]; exact box3_kept _ _ _ _ _); have hx : w7_.heap[g30]? = some (.cells #[.int .i64 t21, .slice A24 t22.length c25, .slice A28 t26.length c29] 37 (0, 0)) := (by rw [hw]; exact box3_blk Bg30.out _ _ _); have hb : Below w.heap.size w w7_ := (by rw [hw]; exact box3_below HB.out Lg30.out _ _ _); clear hw; replace O16 := Aside0.mk (Kd.R_kept O16.out hk (fun k_ h_ s_ => by have hx_ := Gg30.out; have hy_ := h_.1; have hz_ := s_; have := Zw1_.out; have := Zw2_.out; have := Zw3_.out; have := Zw4_.out; have := Zw5_.out; have := Zw6_.out; omega)); replace O23 := Aside0.mk (Kd.R_kept O23.out hk (fun k_ h_ s_ => by have hx_ := Gg30.out; have hy_ := h_.1; have hz_ := s_; have := Zw1_.out; have := Zw2_.out; have := Zw3_.out; have := Zw4_.out; have := Zw5_.out; have := Zw6_.out; omega)); replace O27 := Aside0.mk (Kd.S_kept O27.out hk (fun k_ h_ s_ => by have hx_ := Gg30.out; have hy_ := h_.1; have hz_ := s_; have := Zw1_.out; have := Zw2_.out; have := Zw3_.out; have := Zw4_.out; have := Zw5_.out; have := Zw6_.out; omega)); replace Bg1 := Aside0.mk (blk_kept Bg1.out hk (fun s_ => by have hx_ := Gg30.out; have hy_ := Gg1.out; have hz_ := s_; have := Zw1_.out; have := Zw2_.out; have := Zw3_.out; have := Zw4_.out; have := Zw5_.out; have := Zw6_.out; omega)); replace Bg30 := Aside0.mk hx; have Zw7_ := Aside0.mk hk.1; replace HB := Aside0.mk hb; clear hzfg30_0; clear hzfg30_1; clear hzfg30_2; clear hzg30_0; clear hzg30_1; clear hzg30_2; have hzg30_0 : w7_.cell? ⟨g30, 0, none⟩ = some (.int .i64 t21) := (blk_cell Bg30.out 0).trans rfl; have hzg30_1 : w7_.cell? ⟨g30, 1, none⟩ = some (.slice A24 t22.length c25) := (blk_cell Bg30.out 1).trans rfl; have hzg30_2 : w7_.cell? ⟨g30, 2, none⟩ = some (.slice A28 t26.length c29) := (blk_cell Bg30.out 2).trans rfl; clear hk hx hb)
  | ((with_reducible refine gate_callee (f := 37) rfl ?_); refine goesL_ (some 29) rfl rfl Try.func37 (by kernel_rfl) rfl #[.agg #[.int .i64 t21, .slice A24 t22.length c25, .slice A28 t26.length c29]] rfl (by (try simp only [List.map_toArray, List.map_cons, List.map_nil]); first | done | rfl) ?_; (with_reducible refine (impl_SolveFirst.calls k t21 _ _ t22 _ _ t26 t32 t36 _ (Kd.R_reads' O23.out).2.2 (Kd.R_reads' O23.out).2.1 (Kd.R_reads' (Kd.S_R O27.out)).2.2 (Kd.R_reads' (Kd.S_R O27.out)).2.1 E31.out).mono ?_); rintro e w8_ ⟨v0_, rfl, ho0_, hb⟩; refine ⟨_, rfl, ?_⟩; replace O16 := Aside0.mk (Kd.R_below O16.out hb); replace O23 := Aside0.mk (Kd.R_below O23.out hb); replace O27 := Aside0.mk (Kd.S_below O27.out hb); replace Bg1 := Aside0.mk (blk_below Bg1.out hb); replace Bg30 := Aside0.mk (blk_below Bg30.out hb); have O33 := Aside0.mk (Kd.R_born ho0_ (below_size HB.out)); obtain ⟨A34, c35, e_⟩ := Kd.R_slice O33.out; subst e_; have Zw8_ := Aside0.mk hb.size; replace HB := Aside0.mk (below_step HB.out hb); clear hb ho0_; clear hzg30_0; clear hzg30_1; clear hzg30_2; skip)
  | ((with_reducible refine gate_callee (f := 13) rfl ?_); refine goesL_ (some 34) rfl rfl Try.func13 (by kernel_rfl) rfl #[.slice A34 t32.length c35, .slice A17 t15.length c18] rfl (by (try simp only [List.map_toArray, List.map_cons, List.map_nil]); first | done | rfl) ?_; (with_reducible refine (laws_eqIntS.calls k _ _ t32 _ _ t15 true _ (Kd.R_reads' O33.out).2.2 (Kd.R_reads' O33.out).2.1 (Kd.R_reads' O16.out).2.2 (Kd.R_reads' O16.out).2.1 E37.out).mono ?_); rintro e w9_ ⟨rfl, hd⟩; refine ⟨_, rfl, ?_⟩; have hb := hd.below; clear hd; replace O16 := Aside0.mk (Kd.R_below O16.out hb); replace O23 := Aside0.mk (Kd.R_below O23.out hb); replace O27 := Aside0.mk (Kd.S_below O27.out hb); replace O33 := Aside0.mk (Kd.R_below O33.out hb); replace Bg1 := Aside0.mk (blk_below Bg1.out hb); replace Bg30 := Aside0.mk (blk_below Bg30.out hb); have Zw9_ := Aside0.mk hb.size; replace HB := Aside0.mk (below_step HB.out hb); clear hb; skip))
 refine start_ (n := 5) (S := fun w' => w'.cell? ⟨g30, 0, none⟩ = some (.int .i64 t21) ∧ w'.cell? ⟨g30, 1, none⟩ = some (.slice A24 t22.length c25) ∧ w'.cell? ⟨g30, 2, none⟩ = some (.slice A28 t26.length c29) ∧ w'.cell? ⟨g1, 0, none⟩ = some (.int .i64 a0_0) ∧ w'.cell? ⟨g1, 1, none⟩ = some (.slice A0_1 l0_1.length c0_1) ∧ w'.cell? ⟨g1, 2, none⟩ = some (.slice A0_2 l0_2.length c0_2)) (ds := []) #[false, false, false, false, false] (by kernel_rfl) rfl rfl ⟨(blk_cell Bg30.out 0).trans rfl, (blk_cell Bg30.out 1).trans rfl, (blk_cell Bg30.out 2).trans rfl, (blk_cell Bg1.out 0).trans rfl, (blk_cell Bg1.out 1).trans rfl, (blk_cell Bg1.out 2).trans rfl⟩ (fun hHeld => ?_)
 replace O16 := Aside0.mk (Kd.R_drew O16.out)
 replace O23 := Aside0.mk (Kd.R_drew O23.out)
 replace O27 := Aside0.mk (Kd.S_drew O27.out)
 replace O33 := Aside0.mk (Kd.R_drew O33.out)
 have HB_ := Aside0.mk (show Below w.heap.size w w9_.drew from below_drew HB.out)
 have hdz_ := Aside0.mk (show w9_.heap.size ≤ w9_.drew.heap.size from Nat.le_refl _)
 clear HB
 have HB := HB_
 clear HB_
 have n_ := Aside0.mk (show w9_.drew.heap[g1]? = _ from Bg1.out)
 clear Bg1
 have Bg1 := n_
 clear n_
 have n_ := Aside0.mk (show w9_.drew.heap[g30]? = _ from Bg30.out)
 clear Bg30
 have Bg30 := n_
 clear n_
 generalize w9_.drew = w10_ at hHeld HB hdz_ O16 O23 O27 O33 Bg1 Bg30 ⊢
 have Zw10_ := hdz_
 clear hdz_
 refine take_ (i := 0) (N := some 41) (v := ?_) (a' := ?_) #[true, false, false, false, false] rfl rfl (by kernel_rfl) (fun _ _ _ h => h) (Or.inl ⟨by rfl, ?_⟩) hHeld ?_ ?_
 rotate_left
 ·rintro w' ⟨s0, s1, s2, s3, s4, s5⟩
  go_simp
  with_reducible rfl
 rotate_left
 ·simp only [Act.put, yps, i64_w, i32_w]
  rfl
 refine take_ (i := 1) (N := some 42) (v := ?_) (a' := ?_) #[true, true, false, false, false] rfl rfl (by kernel_rfl) (fun _ _ _ h => h) (Or.inl ⟨by rfl, ?_⟩) hHeld ?_ ?_
 rotate_left
 ·rintro w' ⟨s0, s1, s2, s3, s4, s5⟩
  go_simp
  with_reducible rfl
 rotate_left
 ·simp only [Act.put, yps, i64_w, i32_w]
  rfl
 refine one_ (i := 2) (N := some 43) #[true, true, true, false, false] rfl rfl (by kernel_rfl) (by decide) (fun K hK => ?_)
 refine goes_ Try.func32 (by kernel_rfl) rfl #[.agg #[.int .i64 a0_0, .slice A0_1 l0_1.length c0_1, .slice A0_2 l0_2.length c0_2]] (by rfl) rfl rfl (by (try simp only [List.map_toArray, List.map_cons, List.map_nil]); first | done | rfl) ?_
 with_reducible refine (laws_toPuzzle.calls k a0_0 _ _ l0_1 _ _ l0_2 t40 t41 t45 _ (Kd.C_below HR0_1.out HB.out) HC0_1.out (Kd.C_below HR0_2.out HB.out) HC0_2.out E39.out).mono ?_
 rintro e w11_ ⟨v0_, v1_, rfl, ho0_, ho1_, hb⟩
 refine ⟨_, rfl, ?_⟩
 replace O16 := Aside0.mk (Kd.R_below O16.out hb)
 replace O23 := Aside0.mk (Kd.R_below O23.out hb)
 replace O27 := Aside0.mk (Kd.S_below O27.out hb)
 replace O33 := Aside0.mk (Kd.R_below O33.out hb)
 replace Bg1 := Aside0.mk (blk_below Bg1.out hb)
 replace Bg30 := Aside0.mk (blk_below Bg30.out hb)
 have O42 := Aside0.mk (Kd.R_born ho0_ (below_size HB.out))
 obtain ⟨A43, c44, e_⟩ := Kd.R_slice O42.out
 subst e_
 have O46 := Aside0.mk (Kd.S_born ho1_ (below_size HB.out))
 obtain ⟨A47, c48, e_⟩ := Kd.S_slice O46.out
 subst e_
 have Zw11_ := Aside0.mk hb.size
 replace HB := Aside0.mk (below_step HB.out hb)
 clear hb ho0_ ho1_
 refine hK.out _ _ ⟨(blk_cell Bg30.out 0).trans rfl, (blk_cell Bg30.out 1).trans rfl, (blk_cell Bg30.out 2).trans rfl, (blk_cell Bg1.out 0).trans rfl, (blk_cell Bg1.out 1).trans rfl, (blk_cell Bg1.out 2).trans rfl⟩ (fun hHeld => ?_)
 clear hK K
 refine norm_ (a' := ?_) ?_ ?_
 rotate_left
 ·show Act.put _ (some 43) _ = _
  simp only [Act.put, yps, i64_w, i32_w]
  rfl
 refine one_ (i := 3) (N := some 44) #[true, true, true, true, false] rfl rfl (by kernel_rfl) (by decide) (fun K hK => ?_)
 refine goes_ Try.func25 (by kernel_rfl) rfl #[.agg #[.int .i64 t21, .slice A24 t22.length c25, .slice A28 t26.length c29], .agg #[.int .i64 t40, .slice A43 t41.length c44, .slice A47 t45.length c48]] (by rfl) rfl rfl (by (try simp only [List.map_toArray, List.map_cons, List.map_nil]); first | done | rfl) ?_
 with_reducible refine (laws_eqPuzzle.calls k t21 _ _ t22 _ _ t26 t40 _ _ t41 _ _ t45 true _ (Kd.R_reads' O23.out).2.2 (Kd.R_reads' O23.out).2.1 (Kd.R_reads' (Kd.S_R O27.out)).2.2 (Kd.R_reads' (Kd.S_R O27.out)).2.1 (Kd.R_reads' O42.out).2.2 (Kd.R_reads' O42.out).2.1 (Kd.R_reads' (Kd.S_R O46.out)).2.2 (Kd.R_reads' (Kd.S_R O46.out)).2.1 E49.out).mono ?_
 rintro e w12_ ⟨rfl, hb⟩
 refine ⟨_, rfl, ?_⟩
 replace O16 := Aside0.mk (Kd.R_below O16.out hb)
 replace O23 := Aside0.mk (Kd.R_below O23.out hb)
 replace O27 := Aside0.mk (Kd.S_below O27.out hb)
 replace O33 := Aside0.mk (Kd.R_below O33.out hb)
 replace Bg1 := Aside0.mk (blk_below Bg1.out hb)
 replace Bg30 := Aside0.mk (blk_below Bg30.out hb)
 clear O42
 clear O46
 have Zw12_ := Aside0.mk hb.size
 replace HB := Aside0.mk (below_step HB.out hb)
 clear hb
 refine hK.out _ _ ⟨(blk_cell Bg30.out 0).trans rfl, (blk_cell Bg30.out 1).trans rfl, (blk_cell Bg30.out 2).trans rfl, (blk_cell Bg1.out 0).trans rfl, (blk_cell Bg1.out 1).trans rfl, (blk_cell Bg1.out 2).trans rfl⟩ (fun hHeld => ?_)
 clear hK K
 refine norm_ (a' := ?_) ?_ ?_
 rotate_left
 ·show Act.put _ (some 44) _ = _
  simp only [Act.put, yps, i64_w, i32_w]
  rfl
 refine pure_ (i := 4) (N := some 45) (v := ?_) (a' := ?_) #[true, true, true, true, true] rfl rfl (by kernel_rfl) (fun _ _ _ h => h) (Or.inl ⟨by rfl, ?_⟩) ?_ ?_
 rotate_left
 ·intro w'
  go_simp
  with_reducible rfl
 rotate_left
 ·simp only [Act.put, yps, i64_w, i32_w]
  rfl
 refine done_ (by kernel_rfl) ?_
 have hzg1_0 : w12_.cell? ⟨g1, 0, none⟩ = some (.int .i64 a0_0) := (blk_cell Bg1.out 0).trans rfl
 have hzg1_1 : w12_.cell? ⟨g1, 1, none⟩ = some (.slice A0_1 l0_1.length c0_1) := (blk_cell Bg1.out 1).trans rfl
 have hzg1_2 : w12_.cell? ⟨g1, 2, none⟩ = some (.slice A0_2 l0_2.length c0_2) := (blk_cell Bg1.out 2).trans rfl
 have hzg30_0 : w12_.cell? ⟨g30, 0, none⟩ = some (.int .i64 t21) := (blk_cell Bg30.out 0).trans rfl
 have hzg30_1 : w12_.cell? ⟨g30, 1, none⟩ = some (.slice A24 t22.length c25) := (blk_cell Bg30.out 1).trans rfl
 have hzg30_2 : w12_.cell? ⟨g30, 2, none⟩ = some (.slice A28 t26.length c29) := (blk_cell Bg30.out 2).trans rfl
 go_wp2_with (first
  | ((with_reducible refine gate_callee (f := 28) rfl ?_); refine goesL_ (some 48) rfl rfl Try.func28 (by kernel_rfl) rfl #[.agg #[.int .i64 t21, .slice A24 t22.length c25, .slice A28 t26.length c29], .int .i64 1] rfl (by (try simp only [List.map_toArray, List.map_cons, List.map_nil]); first | done | rfl) ?_; (with_reducible refine (laws_markPuzzle.calls k t21 _ _ _ _ t22 _ _ t26 1 t52 t53 t54 w w12_ HB.out apart_own (Kd.R_tight rfl O23.out) O27.out E51.out).mono ?_); rintro e w13_ ⟨rfl, hm0_, hm1_, hb, hk⟩; refine ⟨_, rfl, ?_⟩; replace O16 := Aside0.mk (Kd.R_kept O16.out hk (fun k_ h_ s_ => s_.elim (fun p_ => by have hx_ := (O23.out.1 _ p_.symm).1; have hy_ := h_.1; have := Zw1_.out; have := Zw2_.out; have := Zw3_.out; have := Zw4_.out; have := Zw5_.out; have := Zw6_.out; have := Zw7_.out; have := Zw8_.out; have := Zw9_.out; have := Zw10_.out; have := Zw11_.out; have := Zw12_.out; omega) (fun q_ => by have hx_ := q_.1; have hy_ := h_.1; have := Zw1_.out; have := Zw2_.out; have := Zw3_.out; have := Zw4_.out; have := Zw5_.out; have := Zw6_.out; have := Zw7_.out; have := Zw8_.out; have := Zw9_.out; have := Zw10_.out; have := Zw11_.out; have := Zw12_.out; omega))); replace O33 := Aside0.mk (Kd.R_kept O33.out hk (fun k_ h_ s_ => s_.elim (fun p_ => by have hx_ := (O23.out.1 _ p_.symm).1; have hy_ := h_.1; have := Zw1_.out; have := Zw2_.out; have := Zw3_.out; have := Zw4_.out; have := Zw5_.out; have := Zw6_.out; have := Zw7_.out; have := Zw8_.out; have := Zw9_.out; have := Zw10_.out; have := Zw11_.out; have := Zw12_.out; omega) (fun q_ => by have hx_ := q_.1; have hy_ := h_.1; have := Zw1_.out; have := Zw2_.out; have := Zw3_.out; have := Zw4_.out; have := Zw5_.out; have := Zw6_.out; have := Zw7_.out; have := Zw8_.out; have := Zw9_.out; have := Zw10_.out; have := Zw11_.out; have := Zw12_.out; omega))); replace Bg1 := Aside0.mk (blk_kept Bg1.out hk (fun s_ => s_.elim (fun p_ => by have hx_ := (O23.out.1 _ p_.symm).1; have hy_ := Gg1.out; have := Zw1_.out; have := Zw2_.out; have := Zw3_.out; have := Zw4_.out; have := Zw5_.out; have := Zw6_.out; have := Zw7_.out; have := Zw8_.out; have := Zw9_.out; have := Zw10_.out; have := Zw11_.out; have := Zw12_.out; omega) (fun q_ => by have hx_ := q_.1; have hy_ := Gg1.out; have := Zw1_.out; have := Zw2_.out; have := Zw3_.out; have := Zw4_.out; have := Zw5_.out; have := Zw6_.out; have := Zw7_.out; have := Zw8_.out; have := Zw9_.out; have := Zw10_.out; have := Zw11_.out; have := Zw12_.out; omega))); clear O23; clear O27; clear Bg30; have Zw13_ := Aside0.mk hk.1; replace HB := Aside0.mk hb; clear hk hb hm0_ hm1_; clear hzg1_0; clear hzg1_1; clear hzg1_2; clear hzg30_0; clear hzg30_1; clear hzg30_2; have hzg1_0 : w13_.cell? ⟨g1, 0, none⟩ = some (.int .i64 a0_0) := (blk_cell Bg1.out 0).trans rfl; have hzg1_1 : w13_.cell? ⟨g1, 1, none⟩ = some (.slice A0_1 l0_1.length c0_1) := (blk_cell Bg1.out 1).trans rfl; have hzg1_2 : w13_.cell? ⟨g1, 2, none⟩ = some (.slice A0_2 l0_2.length c0_2) := (blk_cell Bg1.out 2).trans rfl; skip)
  | (go_at_call 13; (with_reducible refine (laws_eqIntS.calls k _ _ t32 _ _ t15 true _ (Kd.R_reads' O33.out).2.2 (Kd.R_reads' O33.out).2.1 (Kd.R_reads' O16.out).2.2 (Kd.R_reads' O16.out).2.1 E55.out).mono ?_); rintro e w14_ ⟨rfl, hd⟩; have hb := hd.below; clear hd; replace O16 := Aside0.mk (Kd.R_below O16.out hb); replace O33 := Aside0.mk (Kd.R_below O33.out hb); replace Bg1 := Aside0.mk (blk_below Bg1.out hb); have Zw14_ := Aside0.mk hb.size; replace HB := Aside0.mk (below_step HB.out hb); clear hb; clear hzg1_0; clear hzg1_1; clear hzg1_2; have hzg1_0 : w14_.cell? ⟨g1, 0, none⟩ = some (.int .i64 a0_0) := (blk_cell Bg1.out 0).trans rfl; have hzg1_1 : w14_.cell? ⟨g1, 1, none⟩ = some (.slice A0_1 l0_1.length c0_1) := (blk_cell Bg1.out 1).trans rfl; have hzg1_2 : w14_.cell? ⟨g1, 2, none⟩ = some (.slice A0_2 l0_2.length c0_2) := (blk_cell Bg1.out 2).trans rfl; skip)
  | ((with_reducible refine gate_callee (f := 14) rfl ?_); refine goesL_ (some 64) rfl rfl Try.func14 (by kernel_rfl) rfl #[.slice A34 t32.length c35, .int .i64 1] rfl (by (try simp only [List.map_toArray, List.map_cons, List.map_nil]); first | done | rfl) ?_; (with_reducible refine (laws_markIntS.calls k _ _ t32 1 t58 t59 w w14_ HB.out (Kd.R_tight rfl O33.out) E57.out).mono ?_); rintro e w15_ ⟨rfl, hm0_, hb, hk⟩; refine ⟨_, rfl, ?_⟩; replace O16 := Aside0.mk (Kd.R_kept O16.out hk (fun k_ h_ s_ => by have hx_ := (O33.out.1 _ s_.symm).1; have hy_ := h_.1; have := Zw1_.out; have := Zw2_.out; have := Zw3_.out; have := Zw4_.out; have := Zw5_.out; have := Zw6_.out; have := Zw7_.out; have := Zw8_.out; have := Zw9_.out; have := Zw10_.out; have := Zw11_.out; have := Zw12_.out; have := Zw13_.out; have := Zw14_.out; omega)); replace Bg1 := Aside0.mk (blk_kept Bg1.out hk (fun s_ => by have hx_ := (O33.out.1 _ s_.symm).1; have hy_ := Gg1.out; have := Zw1_.out; have := Zw2_.out; have := Zw3_.out; have := Zw4_.out; have := Zw5_.out; have := Zw6_.out; have := Zw7_.out; have := Zw8_.out; have := Zw9_.out; have := Zw10_.out; have := Zw11_.out; have := Zw12_.out; have := Zw13_.out; have := Zw14_.out; omega)); replace O33 := Aside0.mk hm0_; have Lt59 := Aside0.mk (Kd.R_reads' hm0_).1.symm; have Zw15_ := Aside0.mk hk.1; replace HB := Aside0.mk hb; clear hk hb hm0_; clear hzg1_0; clear hzg1_1; clear hzg1_2; have hzg1_0 : w15_.cell? ⟨g1, 0, none⟩ = some (.int .i64 a0_0) := (blk_cell Bg1.out 0).trans rfl; have hzg1_1 : w15_.cell? ⟨g1, 1, none⟩ = some (.slice A0_1 l0_1.length c0_1) := (blk_cell Bg1.out 1).trans rfl; have hzg1_2 : w15_.cell? ⟨g1, 2, none⟩ = some (.slice A0_2 l0_2.length c0_2) := (blk_cell Bg1.out 2).trans rfl; skip)
  | ((with_reducible refine gate_callee (f := 15) rfl ?_); refine goesL_ (some 67) rfl rfl Try.func15 (by kernel_rfl) rfl #[.slice A34 t59.length c35, .int .i64 1] rfl (by (try simp only [List.map_toArray, List.map_cons, List.map_nil]); first | done | rfl | (rw [Lt59.out]; rfl)) ?_; (with_reducible refine (laws_heldIntS.calls k _ _ t59 1 t61 _ (Kd.R_reads' O33.out).2.2 (by rw [Lt59.out]; exact (Kd.R_reads' O33.out).2.1) E60.out).mono ?_); rintro e w16_ ⟨rfl, hd⟩; refine ⟨_, rfl, ?_⟩; have hb := hd.below; clear hd; replace O16 := Aside0.mk (Kd.R_below O16.out hb); replace O33 := Aside0.mk (Kd.R_below O33.out hb); replace Bg1 := Aside0.mk (blk_below Bg1.out hb); have Zw16_ := Aside0.mk hb.size; replace HB := Aside0.mk (below_step HB.out hb); clear hb; clear hzg1_0; clear hzg1_1; clear hzg1_2; have hzg1_0 : w16_.cell? ⟨g1, 0, none⟩ = some (.int .i64 a0_0) := (blk_cell Bg1.out 0).trans rfl; have hzg1_1 : w16_.cell? ⟨g1, 1, none⟩ = some (.slice A0_1 l0_1.length c0_1) := (blk_cell Bg1.out 1).trans rfl; have hzg1_2 : w16_.cell? ⟨g1, 2, none⟩ = some (.slice A0_2 l0_2.length c0_2) := (blk_cell Bg1.out 2).trans rfl; skip)
  | ((with_reducible refine gate_callee (f := 32) rfl ?_); refine goesL_ (some 75) rfl rfl Try.func32 (by kernel_rfl) rfl #[.agg #[.int .i64 a0_0, .slice A0_1 l0_1.length c0_1, .slice A0_2 l0_2.length c0_2]] rfl (by (try simp only [List.map_toArray, List.map_cons, List.map_nil]); first | done | rfl) ?_; (with_reducible refine (laws_toPuzzle.calls k a0_0 _ _ l0_1 _ _ l0_2 t63 t64 t68 _ (Kd.C_below HR0_1.out HB.out) HC0_1.out (Kd.C_below HR0_2.out HB.out) HC0_2.out E62.out).mono ?_); rintro e w17_ ⟨v0_, v1_, rfl, ho0_, ho1_, hb⟩; refine ⟨_, rfl, ?_⟩; replace O16 := Aside0.mk (Kd.R_below O16.out hb); replace O33 := Aside0.mk (Kd.R_below O33.out hb); clear Bg1; have O65 := Aside0.mk (Kd.R_born ho0_ (below_size HB.out)); obtain ⟨A66, c67, e_⟩ := Kd.R_slice O65.out; subst e_; have O69 := Aside0.mk (Kd.S_born ho1_ (below_size HB.out)); obtain ⟨A70, c71, e_⟩ := Kd.S_slice O69.out; subst e_; have Zw17_ := Aside0.mk hb.size; replace HB := Aside0.mk (below_step HB.out hb); clear hb ho0_ ho1_; clear hzg1_0; clear hzg1_1; clear hzg1_2; skip)
  | ((with_reducible refine gate_callee (f := 37) rfl ?_); refine goesL_ (some 76) rfl rfl Try.func37 (by kernel_rfl) rfl #[.agg #[.int .i64 t63, .slice A66 t64.length c67, .slice A70 t68.length c71]] rfl (by (try simp only [List.map_toArray, List.map_cons, List.map_nil]); first | done | rfl) ?_; (with_reducible refine (impl_SolveFirst.calls k t63 _ _ t64 _ _ t68 t73 t77 _ (Kd.R_reads' O65.out).2.2 (Kd.R_reads' O65.out).2.1 (Kd.R_reads' (Kd.S_R O69.out)).2.2 (Kd.R_reads' (Kd.S_R O69.out)).2.1 E72.out).mono ?_); rintro e w18_ ⟨v0_, rfl, ho0_, hb⟩; refine ⟨_, rfl, ?_⟩; replace O16 := Aside0.mk (Kd.R_below O16.out hb); replace O33 := Aside0.mk (Kd.R_below O33.out hb); clear O65; clear O69; have O74 := Aside0.mk (Kd.R_born ho0_ (below_size HB.out)); obtain ⟨A75, c76, e_⟩ := Kd.R_slice O74.out; subst e_; have Zw18_ := Aside0.mk hb.size; replace HB := Aside0.mk (below_step HB.out hb); clear hb ho0_; skip)
  | ((with_reducible refine gate_callee (f := 13) rfl ?_); refine goesL_ (some 81) rfl rfl Try.func13 (by kernel_rfl) rfl #[.slice A75 t73.length c76, .slice A17 t15.length c18] rfl (by (try simp only [List.map_toArray, List.map_cons, List.map_nil]); first | done | rfl) ?_; (with_reducible refine (laws_eqIntS.calls k _ _ t73 _ _ t15 true _ (Kd.R_reads' O74.out).2.2 (Kd.R_reads' O74.out).2.1 (Kd.R_reads' O16.out).2.2 (Kd.R_reads' O16.out).2.1 E78.out).mono ?_); rintro e w19_ ⟨rfl, hd⟩; refine ⟨_, rfl, ?_⟩; have hb := hd.below; clear hd; replace O33 := Aside0.mk (Kd.R_below O33.out hb); clear O16; clear O74; have Zw19_ := Aside0.mk hb.size; replace HB := Aside0.mk (below_step HB.out hb); clear hb; skip)
  | ((with_reducible refine gate_callee (f := 15) rfl ?_); refine goesL_ (some 90) rfl rfl Try.func15 (by kernel_rfl) rfl #[.slice A34 t59.length c35, .int .i64 1] rfl (by (try simp only [List.map_toArray, List.map_cons, List.map_nil]); first | done | rfl | (rw [Lt59.out]; rfl)) ?_; (with_reducible refine (laws_heldIntS.calls k _ _ t59 1 t81 _ (Kd.R_reads' O33.out).2.2 (by rw [Lt59.out]; exact (Kd.R_reads' O33.out).2.1) E80.out).mono ?_); rintro e w20_ ⟨rfl, hd⟩; refine ⟨_, rfl, ?_⟩; have hb := hd.below; clear hd; clear O33; have Zw20_ := Aside0.mk hb.size; replace HB := Aside0.mk (below_step HB.out hb); clear hb; skip))
 go_ret
 exact ⟨rfl, HB.out⟩
end Go.Proofs.Ytmjbnghhfadapaa.P
