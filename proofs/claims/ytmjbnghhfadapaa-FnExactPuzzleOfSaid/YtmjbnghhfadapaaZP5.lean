/- The machine's side: each Go function as a plain Lean function and the proof that the machine's call does what that function says; written by this session's own program over the kit's print. -/
import Derived.Test.YtmjbnghhfadapaaZP1
import Derived.Test.YtmjbnghhfadapaaZP3
import Derived.Test.YtmjbnghhfadapaaZP4
namespace Go.Proofs.Ytmjbnghhfadapaa.P
set_option maxHeartbeats 8000000
set_option maxRecDepth 100000
open Go.RowKit Go.Proofs.YtmjbnghhfadapaaW.PrintWords Go.Proofs.YtmjbnghhfadapaaW.PrintLast Go.Proofs.YtmjbnghhfadapaaW.PrintMore
attribute [local go_sem] max2_int min2_int max_two min_two max_three min_three max_four min_four   -- for this text's walks alone
set_option linter.unusedVariables false
set_option linter.unusedSimpArgs false
def laws_FnExactPuzzleOf.f (k:Nat)(l0:List Int)(a1:Int)(l2:List S70):Option Bool:=if (l0.length:Int) > 1048576 then some true else (laws_szRuleS.f k l2 1048576).bind fun u103=>if u103 < 0 then some true else (laws_toIntS.f k l0).bind fun u104=>(laws_toRuleS.f k l2).bind fun u105=>(spec_PuzzleOf.f k u104 a1 u105).bind fun u106=>(laws_toIntS.f k l0).bind fun u107=>(laws_toRuleS.f k l2).bind fun u108=>(impl_PuzzleOf.f k u107 a1 u108).bind fun u109=>(laws_eqPuzzle.f k u109.1 u109.2.1 u109.2.2.1 u106.1 u106.2.1 u106.2.2.1).bind fun u110=>if u110=true then if (u109.2.2.2 != u106.2.2.2)=true then some false else (laws_toIntS.f k l0).bind fun u111=>(laws_eqIntS.f k u107 u111).bind fun u112=>if u112=true then (laws_toRuleS.f k l2).bind fun u113=>(laws_eqRuleS.f k u108 u113).bind fun u114=>if u114=true then (laws_markIntS.f k u107 1).bind fun u115=>(laws_markRuleS.f k u108 u115.1).bind fun u116=>if u116.1 < 0 then some false else (laws_eqPuzzle.f k u109.1 u109.2.1 u109.2.2.1 u106.1 u106.2.1 u106.2.2.1).bind fun u117=>if u117=true then if (u109.2.2.2 != u106.2.2.2)=true then some false else (laws_markPuzzle.f k u109.1 u109.2.1 u109.2.2.1 1).bind fun u118=>(laws_heldPuzzle.f k u109.1 u118.2.1 u118.2.2 1).bind fun u119=>if u119 < 0 then some false else if (u119 != u118.1)=true then some false else (laws_toIntS.f k l0).bind fun u120=>(laws_toRuleS.f k l2).bind fun u121=>(impl_PuzzleOf.f k u120 a1 u121).bind fun u122=>(laws_eqPuzzle.f k u122.1 u122.2.1 u122.2.2.1 u106.1 u106.2.1 u106.2.2.1).bind fun u123=>if u123=true then if (u122.2.2.2 != u106.2.2.2)=true then some false else (laws_heldPuzzle.f k u109.1 u118.2.1 u118.2.2 1).bind fun u124=>if u124 < 0 then some false else if (u124 != u118.1)=true then some false else some true else some false else some false else some false else some false else some false
theorem laws_FnExactPuzzleOf.calls (k:Nat)(A0:Option Addr)(c0:Nat)(l0:List Int)(a1:Int)(A2:Option Addr)(c2:Nat)(l2:List S70)(_r:Bool)(w:World)(hr0:Kd.C (Kd.int .i64) w A0 l0.length l0)(hc0:l0.length≤c0)(hr2:Kd.C k70 w A2 l2.length l2)(hc2:l2.length≤c2)(h:laws_FnExactPuzzleOf.f k l0 a1 l2=some true) :
  Calls Try.prog 5 #[.slice A0 l0.length c0,.int .i64 a1,.slice A2 l2.length c2] w fun e w'=>e= .returned (.bool true)∧Below w.heap.size w w':=by
 have HR0:=yam hr0
 have HC0:=yam hc0
 clear hr0 hc0
 have HR2:=yam hr2
 have HC2:=yam hc2
 clear hr2 hc2
 have HB:=yam (Below.refl w.heap.size w)
 unfold laws_FnExactPuzzleOf.f at h
 by_cases q1:(l0.length:Int) > 1048576
 ·clear h
  have b1:decide (1048576 < (l0.length:Int))=true:=decide_eq_true q1
  have bb1:decide (1048576 < l0.length)=true:=decide_eq_true (by omega)
  clear q1
  go_enter Try.func5,Try.ntmps5
  try go_wp2
  go_ret
  exact ⟨rfl,HB.out⟩
 rw [if_neg q1] at h
 have b1:decide (1048576 < (l0.length:Int))=false:=decide_eq_false q1
 have bb1:decide (1048576 < l0.length)=false:=decide_eq_false (by omega)
 clear q1
 replace h:=Option.bind_eq_some_iff.1 h
 obtain ⟨t2,e_,h⟩:=h
 try dsimp only at h
 have E1:=yam e_
 clear e_
 by_cases q2:t2 < 0
 ·clear h
  have b2:=decide_eq_true q2
  clear q2
  go_enter Try.func5,Try.ntmps5
  go_wp2_with (first
   | (refine goesL_ (some 24) rfl rfl Try.func20 (by kernel_rfl) rfl #[.slice A2 l2.length c2,.int .i64 1048576] rfl yma ?_;(with_reducible refine (laws_szRuleS.calls k _ _ l2 1048576 t2 _ (Kd.C_below HR2.out HB.out) HC2.out E1.out).mono ?_);rintro e w1_ ⟨rfl,hb⟩;refine ⟨_,rfl,?_⟩;have Zw1_:=yam hb.size;replace HB:=yam (below_step HB.out hb);clear hb;skip))
  go_ret
  exact ⟨rfl,HB.out⟩
 rw [if_neg q2] at h
 have b2:=decide_eq_false q2
 clear q2
 replace h:=Option.bind_eq_some_iff.1 h
 obtain ⟨t4,e_,h⟩:=h
 try dsimp only at h
 have E3:=yam e_
 clear e_
 replace h:=Option.bind_eq_some_iff.1 h
 obtain ⟨t9,e_,h⟩:=h
 try dsimp only at h
 have E8:=yam e_
 clear e_
 replace h:=Option.bind_eq_some_iff.1 h
 obtain ⟨⟨t14,t15,t19,t23⟩,e_,h⟩:=h
 try dsimp only at h
 have E13:=yam e_
 clear e_
 replace h:=Option.bind_eq_some_iff.1 h
 obtain ⟨t26,e_,h⟩:=h
 try dsimp only at h
 have E25:=yam e_
 clear e_
 replace h:=Option.bind_eq_some_iff.1 h
 obtain ⟨t31,e_,h⟩:=h
 try dsimp only at h
 have E30:=yam e_
 clear e_
 replace h:=Option.bind_eq_some_iff.1 h
 obtain ⟨⟨t36,t37,t41,t45⟩,e_,h⟩:=h
 try dsimp only at h
 have E35:=yam e_
 clear e_
 replace h:=Option.bind_eq_some_iff.1 h
 obtain ⟨t48,e_,h⟩:=h
 try dsimp only at h
 have E47:=yam e_
 clear e_
 by_cases q3:t48=true
 rotate_left
 ·rw [if_neg q3] at h
  exact absurd h (by decide)
 rw [if_pos q3] at h
 subst q3
 by_cases q4:(t45 != t23)=true
 ·rw [if_pos q4] at h
  exact absurd h (by decide)
 rw [if_neg q4] at h
 have b4:(t45 != t23)=false:=by simpa using q4
 have bb4:t45=t23:=by simpa using q4
 clear q4
 have bc4:=yam bb4
 clear bb4
 have be4:(t45 == t23)=true:=beq_iff_eq.2 bc4.out
 replace h:=Option.bind_eq_some_iff.1 h
 obtain ⟨t50,e_,h⟩:=h
 try dsimp only at h
 have E49:=yam e_
 clear e_
 replace h:=Option.bind_eq_some_iff.1 h
 obtain ⟨t55,e_,h⟩:=h
 try dsimp only at h
 have E54:=yam e_
 clear e_
 by_cases q5:t55=true
 rotate_left
 ·rw [if_neg q5] at h
  exact absurd h (by decide)
 rw [if_pos q5] at h
 subst q5
 replace h:=Option.bind_eq_some_iff.1 h
 obtain ⟨t57,e_,h⟩:=h
 try dsimp only at h
 have E56:=yam e_
 clear e_
 replace h:=Option.bind_eq_some_iff.1 h
 obtain ⟨t62,e_,h⟩:=h
 try dsimp only at h
 have E61:=yam e_
 clear e_
 by_cases q6:t62=true
 rotate_left
 ·rw [if_neg q6] at h
  exact absurd h (by decide)
 rw [if_pos q6] at h
 subst q6
 replace h:=Option.bind_eq_some_iff.1 h
 obtain ⟨⟨t64,t65⟩,e_,h⟩:=h
 try dsimp only at h
 have E63:=yam e_
 clear e_
 replace h:=Option.bind_eq_some_iff.1 h
 obtain ⟨⟨t67,t68⟩,e_,h⟩:=h
 try dsimp only at h
 have E66:=yam e_
 clear e_
 by_cases q7:t67 < 0
 ·rw [if_pos q7] at h
  exact absurd h (by decide)
 rw [if_neg q7] at h
 have b7:=decide_eq_false q7
 clear q7
 replace h:=Option.bind_eq_some_iff.1 h
 obtain ⟨t70,e_,h⟩:=h
 try dsimp only at h
 have E69:=yam e_
 clear e_
 by_cases q8:t70=true
 rotate_left
 ·rw [if_neg q8] at h
  exact absurd h (by decide)
 rw [if_pos q8] at h
 subst q8
 by_cases q9:(t45 != t23)=true
 ·rw [if_pos q9] at h
  exact absurd h (by decide)
 rw [if_neg q9] at h
 have b9:(t45 != t23)=false:=by simpa using q9
 have bb9:t45=t23:=by simpa using q9
 clear q9
 have bc9:=yam bb9
 clear bb9
 have be9:(t45 == t23)=true:=beq_iff_eq.2 bc9.out
 replace h:=Option.bind_eq_some_iff.1 h
 obtain ⟨⟨t72,t73,t74⟩,e_,h⟩:=h
 try dsimp only at h
 have E71:=yam e_
 clear e_
 replace h:=Option.bind_eq_some_iff.1 h
 obtain ⟨t76,e_,h⟩:=h
 try dsimp only at h
 have E75:=yam e_
 clear e_
 by_cases q10:t76 < 0
 ·rw [if_pos q10] at h
  exact absurd h (by decide)
 rw [if_neg q10] at h
 have b10:=decide_eq_false q10
 clear q10
 by_cases q11:(t76 != t72)=true
 ·rw [if_pos q11] at h
  exact absurd h (by decide)
 rw [if_neg q11] at h
 have b11:(t76 != t72)=false:=by simpa using q11
 have bb11:t76=t72:=by simpa using q11
 clear q11
 have bc11:=yam bb11
 clear bb11
 replace h:=Option.bind_eq_some_iff.1 h
 obtain ⟨t78,e_,h⟩:=h
 try dsimp only at h
 have E77:=yam e_
 clear e_
 replace h:=Option.bind_eq_some_iff.1 h
 obtain ⟨t83,e_,h⟩:=h
 try dsimp only at h
 have E82:=yam e_
 clear e_
 replace h:=Option.bind_eq_some_iff.1 h
 obtain ⟨⟨t88,t89,t93,t97⟩,e_,h⟩:=h
 try dsimp only at h
 have E87:=yam e_
 clear e_
 replace h:=Option.bind_eq_some_iff.1 h
 obtain ⟨t100,e_,h⟩:=h
 try dsimp only at h
 have E99:=yam e_
 clear e_
 by_cases q12:t100=true
 rotate_left
 ·rw [if_neg q12] at h
  exact absurd h (by decide)
 rw [if_pos q12] at h
 subst q12
 by_cases q13:(t97 != t23)=true
 ·rw [if_pos q13] at h
  exact absurd h (by decide)
 rw [if_neg q13] at h
 have b13:(t97 != t23)=false:=by simpa using q13
 have bb13:t97=t23:=by simpa using q13
 clear q13
 have bc13:=yam bb13
 clear bb13
 have be13:(t97 == t23)=true:=beq_iff_eq.2 bc13.out
 replace h:=Option.bind_eq_some_iff.1 h
 obtain ⟨t102,e_,h⟩:=h
 try dsimp only at h
 have E101:=yam e_
 clear e_
 by_cases q14:t102 < 0
 ·rw [if_pos q14] at h
  exact absurd h (by decide)
 rw [if_neg q14] at h
 have b14:=decide_eq_false q14
 clear q14
 by_cases q15:(t102 != t72)=true
 ·rw [if_pos q15] at h
  exact absurd h (by decide)
 rw [if_neg q15] at h
 have b15:(t102 != t72)=false:=by simpa using q15
 have bb15:t102=t72:=by simpa using q15
 clear q15
 have bc15:=yam bb15
 clear bb15
 clear h
 go_enter Try.func5,Try.ntmps5
 go_wp2_with (first
  | (refine goesL_ (some 24) rfl rfl Try.func20 (by kernel_rfl) rfl #[.slice A2 l2.length c2,.int .i64 1048576] rfl yma ?_;(with_reducible refine (laws_szRuleS.calls k _ _ l2 1048576 t2 _ (Kd.C_below HR2.out HB.out) HC2.out E1.out).mono ?_);rintro e w1_ ⟨rfl,hb⟩;refine ⟨_,rfl,?_⟩;have Zw1_:=yam hb.size;replace HB:=yam (below_step HB.out hb);clear hb;skip)
  | (refine goesL_ (some 29) rfl rfl Try.func22 (by kernel_rfl) rfl #[.slice A0 l0.length c0] rfl yma ?_;(with_reducible refine (laws_toIntS.calls k _ _ l0 t4 _ (Kd.C_below HR0.out HB.out) HC0.out E3.out).mono ?_);rintro e w2_ ⟨v0_,rfl,ho0_,hb⟩;refine ⟨_,rfl,?_⟩;have O5:=yam (Kd.R_born ho0_ (below_size HB.out));obtain ⟨A6,c7,e_⟩:=Kd.R_slice O5.out;subst e_;have Zw2_:=yam hb.size;replace HB:=yam (below_step HB.out hb);clear hb ho0_;skip)
  | (refine goesL_ (some 32) rfl rfl Try.func23 (by kernel_rfl) rfl #[.slice A2 l2.length c2] rfl yma ?_;(with_reducible refine (laws_toRuleS.calls k _ _ l2 t9 _ (Kd.C_below HR2.out HB.out) HC2.out E8.out).mono ?_);rintro e w3_ ⟨v0_,rfl,ho0_,hb⟩;refine ⟨_,rfl,?_⟩;replace O5:=yam (Kd.R_below O5.out hb);have O10:=yam (Kd.S_born ho0_ (below_size HB.out));obtain ⟨A11,c12,e_⟩:=Kd.S_slice O10.out;subst e_;have Zw3_:=yam hb.size;replace HB:=yam (below_step HB.out hb);clear hb ho0_;skip)
  | (refine goesL_ (some 33) rfl rfl Try.func21 (by kernel_rfl) rfl #[.slice A6 t4.length c7,.int .i64 a1,.slice A11 t9.length c12] rfl yma ?_;(with_reducible refine (spec_PuzzleOf.calls k _ _ t4 a1 _ _ t9 t14 t15 t19 t23 _ (Kd.R_reads' O5.out).2.2 (Kd.R_reads' O5.out).2.1 (Kd.R_reads' (Kd.S_R O10.out)).2.2 (Kd.R_reads' (Kd.S_R O10.out)).2.1 E13.out).mono ?_);rintro e w4_ ⟨v0_,v1_,rfl,ho0_,ho1_,hb⟩;refine ⟨_,rfl,?_⟩;clear O5;clear O10;have O16:=yam (Kd.R_born ho0_ (below_size HB.out));obtain ⟨A17,c18,e_⟩:=Kd.R_slice O16.out;subst e_;have O20:=yam (Kd.N_born ho1_ (below_size HB.out));obtain ⟨A21,c22,e_⟩:=Kd.N_slice O20.out;subst e_;have Zw4_:=yam hb.size;replace HB:=yam (below_step HB.out hb);clear hb ho0_ ho1_;skip)
  | (refine ybe 8 #[.int .i64 0,.slice none 0 0,.slice none 0 0] 37 ?_;intro g24 hg w5_ hbox hb;replace O16:=yam (Kd.R_below O16.out hb);replace O20:=yam (Kd.N_below O20.out hb);have Bg24:=yam hbox;have Gg24:=yam (show w4_.heap.size≤g24∧g24 < w5_.heap.size from ⟨Nat.le_of_eq hg.symm,blk_lt hbox⟩);have Zw5_:=yam hb.size;have Lg24:=yam (show w.heap.size≤g24 from Nat.le_trans (below_size HB.out) (Nat.le_of_eq hg.symm));replace HB:=yam (below_step HB.out hb);obtain ⟨hzg24_0,hzg24_1,hzg24_2,-⟩:=ybc Bg24.out;have hzfg24_0:=blk_frozen Bg24.out 0;have hzfg24_1:=blk_frozen Bg24.out 1;have hzfg24_2:=blk_frozen Bg24.out 2;clear hb hbox hg)
  | ((with_reducible refine gate_store (t:=37) (p:=8) rfl ?_);refine store_event (t:=37) (p:=8) (v:=?vog24) (w1:=((w5_.setCell ⟨g24,0,none⟩ (.int .i64 t14)).setCell ⟨g24,1,none⟩ (.slice A17 t15.length c18)).setCell ⟨g24,2,none⟩ (.slice A21 t19.length c22)) ?hg ?ho ?hn ?hr ?_;(case ho=>rfl);(case hg=>rfl);(case hn=>rfl);(case hr=>first|(go_simp;done)|(go_simp;rfl));intro w6_ hw;have hk:Kept w5_ w6_ (fun k_=>k_=g24):=(by rw [hw];exact box3_kept _ _ _ _ _);have hx:w6_.heap[g24]?=some (.cells #[.int .i64 t14,.slice A17 t15.length c18,.slice A21 t19.length c22] 37 (0,0)):=(by rw [hw];exact box3_blk Bg24.out _ _ _);have hb:Below w.heap.size w w6_:=(by rw [hw];exact box3_below HB.out Lg24.out _ _ _);clear hw;replace O16:=yam (Kd.R_kept O16.out hk (fun k_ h_ s_=>by have hx_:=Gg24.out;have hy_:=h_.1;have hz_:=s_;have:=Zw1_.out;have:=Zw2_.out;have:=Zw3_.out;have:=Zw4_.out;have:=Zw5_.out;omega));replace O20:=yam (Kd.N_kept O20.out hk (fun k_ h_ s_=>by have hx_:=Gg24.out;have hy_:=h_.1;have hz_:=s_;have:=Zw1_.out;have:=Zw2_.out;have:=Zw3_.out;have:=Zw4_.out;have:=Zw5_.out;omega));replace Bg24:=yam hx;have Zw6_:=yam hk.1;replace HB:=yam hb;clear hzfg24_0;clear hzfg24_1;clear hzfg24_2;clear hzg24_0;clear hzg24_1;clear hzg24_2;obtain ⟨hzg24_0,hzg24_1,hzg24_2,-⟩:=ybc Bg24.out;clear hk hx hb)
  | (refine goesL_ (some 37) rfl rfl Try.func22 (by kernel_rfl) rfl #[.slice A0 l0.length c0] rfl yma ?_;(with_reducible refine (laws_toIntS.calls k _ _ l0 t26 _ (Kd.C_below HR0.out HB.out) HC0.out E25.out).mono ?_);rintro e w7_ ⟨v0_,rfl,ho0_,hb⟩;refine ⟨_,rfl,?_⟩;replace O16:=yam (Kd.R_below O16.out hb);replace O20:=yam (Kd.N_below O20.out hb);replace Bg24:=yam (blk_below Bg24.out hb);have O27:=yam (Kd.R_born ho0_ (below_size HB.out));obtain ⟨A28,c29,e_⟩:=Kd.R_slice O27.out;subst e_;have Zw7_:=yam hb.size;replace HB:=yam (below_step HB.out hb);clear hb ho0_;clear hzg24_0;clear hzg24_1;clear hzg24_2;obtain ⟨hzg24_0,hzg24_1,hzg24_2,-⟩:=ybc Bg24.out;skip)
  | (refine goesL_ (some 39) rfl rfl Try.func23 (by kernel_rfl) rfl #[.slice A2 l2.length c2] rfl yma ?_;(with_reducible refine (laws_toRuleS.calls k _ _ l2 t31 _ (Kd.C_below HR2.out HB.out) HC2.out E30.out).mono ?_);rintro e w8_ ⟨v0_,rfl,ho0_,hb⟩;refine ⟨_,rfl,?_⟩;replace O16:=yam (Kd.R_below O16.out hb);replace O20:=yam (Kd.N_below O20.out hb);replace O27:=yam (Kd.R_below O27.out hb);replace Bg24:=yam (blk_below Bg24.out hb);have O32:=yam (Kd.S_born ho0_ (below_size HB.out));obtain ⟨A33,c34,e_⟩:=Kd.S_slice O32.out;subst e_;have Zw8_:=yam hb.size;replace HB:=yam (below_step HB.out hb);clear hb ho0_;clear hzg24_0;clear hzg24_1;clear hzg24_2;obtain ⟨hzg24_0,hzg24_1,hzg24_2,-⟩:=ybc Bg24.out;skip)
  | (refine goesL_ (some 44) rfl rfl Try.func24 (by kernel_rfl) rfl #[.slice A28 t26.length c29,.int .i64 a1,.slice A33 t31.length c34] rfl yma ?_;(with_reducible refine (impl_PuzzleOf.calls k _ _ t26 a1 _ _ t31 t36 t37 t41 t45 _ (Kd.R_reads' O27.out).2.2 (Kd.R_reads' O27.out).2.1 (Kd.R_reads' (Kd.S_R O32.out)).2.2 (Kd.R_reads' (Kd.S_R O32.out)).2.1 E35.out).mono ?_);rintro e w9_ ⟨v0_,v1_,rfl,ho0_,ho1_,hb⟩;refine ⟨_,rfl,?_⟩;replace O16:=yam (Kd.R_below O16.out hb);replace O20:=yam (Kd.N_below O20.out hb);replace O27:=yam (Kd.R_below O27.out hb);replace O32:=yam (Kd.S_below O32.out hb);replace Bg24:=yam (blk_below Bg24.out hb);have O38:=yam (Kd.R_born ho0_ (below_size HB.out));obtain ⟨A39,c40,e_⟩:=Kd.R_slice O38.out;subst e_;have O42:=yam (Kd.S_born ho1_ (below_size HB.out));obtain ⟨A43,c44,e_⟩:=Kd.S_slice O42.out;subst e_;have Zw9_:=yam hb.size;replace HB:=yam (below_step HB.out hb);clear hb ho0_ ho1_;clear hzg24_0;clear hzg24_1;clear hzg24_2;obtain ⟨hzg24_0,hzg24_1,hzg24_2,-⟩:=ybc Bg24.out;skip)
  | (refine ybe 12 #[.int .i64 0,.slice none 0 0,.slice none 0 0] 37 ?_;intro g46 hg w10_ hbox hb;replace O16:=yam (Kd.R_below O16.out hb);replace O20:=yam (Kd.N_below O20.out hb);replace O27:=yam (Kd.R_below O27.out hb);replace O32:=yam (Kd.S_below O32.out hb);replace O38:=yam (Kd.R_below O38.out hb);replace O42:=yam (Kd.S_below O42.out hb);replace Bg24:=yam (blk_below Bg24.out hb);have Bg46:=yam hbox;have Gg46:=yam (show w9_.heap.size≤g46∧g46 < w10_.heap.size from ⟨Nat.le_of_eq hg.symm,blk_lt hbox⟩);have Zw10_:=yam hb.size;have Lg46:=yam (show w.heap.size≤g46 from Nat.le_trans (below_size HB.out) (Nat.le_of_eq hg.symm));replace HB:=yam (below_step HB.out hb);clear hzg24_0;clear hzg24_1;clear hzg24_2;obtain ⟨hzg24_0,hzg24_1,hzg24_2,-⟩:=ybc Bg24.out;obtain ⟨hzg46_0,hzg46_1,hzg46_2,-⟩:=ybc Bg46.out;have hzfg46_0:=blk_frozen Bg46.out 0;have hzfg46_1:=blk_frozen Bg46.out 1;have hzfg46_2:=blk_frozen Bg46.out 2;clear hb hbox hg)
  | ((with_reducible refine gate_store (t:=37) (p:=12) rfl ?_);refine store_event (t:=37) (p:=12) (v:=?vog46) (w1:=((w10_.setCell ⟨g46,0,none⟩ (.int .i64 t36)).setCell ⟨g46,1,none⟩ (.slice A39 t37.length c40)).setCell ⟨g46,2,none⟩ (.slice A43 t41.length c44)) ?hg ?ho ?hn ?hr ?_;(case ho=>rfl);(case hg=>rfl);(case hn=>rfl);(case hr=>first|(go_simp;done)|(go_simp;rfl));intro w11_ hw;have hk:Kept w10_ w11_ (fun k_=>k_=g46):=(by rw [hw];exact box3_kept _ _ _ _ _);have hx:w11_.heap[g46]?=some (.cells #[.int .i64 t36,.slice A39 t37.length c40,.slice A43 t41.length c44] 37 (0,0)):=(by rw [hw];exact box3_blk Bg46.out _ _ _);have hb:Below w.heap.size w w11_:=(by rw [hw];exact box3_below HB.out Lg46.out _ _ _);clear hw;replace O16:=yam (Kd.R_kept O16.out hk (fun k_ h_ s_=>by have hx_:=Gg46.out;have hy_:=h_.1;have hz_:=s_;have:=Zw1_.out;have:=Zw2_.out;have:=Zw3_.out;have:=Zw4_.out;have:=Zw5_.out;have:=Zw6_.out;have:=Zw7_.out;have:=Zw8_.out;have:=Zw9_.out;have:=Zw10_.out;omega));replace O20:=yam (Kd.N_kept O20.out hk (fun k_ h_ s_=>by have hx_:=Gg46.out;have hy_:=h_.1;have hz_:=s_;have:=Zw1_.out;have:=Zw2_.out;have:=Zw3_.out;have:=Zw4_.out;have:=Zw5_.out;have:=Zw6_.out;have:=Zw7_.out;have:=Zw8_.out;have:=Zw9_.out;have:=Zw10_.out;omega));replace O27:=yam (Kd.R_kept O27.out hk (fun k_ h_ s_=>by have hx_:=Gg46.out;have hy_:=h_.1;have hz_:=s_;have:=Zw1_.out;have:=Zw2_.out;have:=Zw3_.out;have:=Zw4_.out;have:=Zw5_.out;have:=Zw6_.out;have:=Zw7_.out;have:=Zw8_.out;have:=Zw9_.out;have:=Zw10_.out;omega));replace O32:=yam (Kd.S_kept O32.out hk (fun k_ h_ s_=>by have hx_:=Gg46.out;have hy_:=h_.1;have hz_:=s_;have:=Zw1_.out;have:=Zw2_.out;have:=Zw3_.out;have:=Zw4_.out;have:=Zw5_.out;have:=Zw6_.out;have:=Zw7_.out;have:=Zw8_.out;have:=Zw9_.out;have:=Zw10_.out;omega));replace O38:=yam (Kd.R_kept O38.out hk (fun k_ h_ s_=>by have hx_:=Gg46.out;have hy_:=h_.1;have hz_:=s_;have:=Zw1_.out;have:=Zw2_.out;have:=Zw3_.out;have:=Zw4_.out;have:=Zw5_.out;have:=Zw6_.out;have:=Zw7_.out;have:=Zw8_.out;have:=Zw9_.out;have:=Zw10_.out;omega));replace O42:=yam (Kd.S_kept O42.out hk (fun k_ h_ s_=>by have hx_:=Gg46.out;have hy_:=h_.1;have hz_:=s_;have:=Zw1_.out;have:=Zw2_.out;have:=Zw3_.out;have:=Zw4_.out;have:=Zw5_.out;have:=Zw6_.out;have:=Zw7_.out;have:=Zw8_.out;have:=Zw9_.out;have:=Zw10_.out;omega));replace Bg24:=yam (blk_kept Bg24.out hk (fun s_=>by have hx_:=Gg46.out;have hy_:=Gg24.out;have hz_:=s_;have:=Zw1_.out;have:=Zw2_.out;have:=Zw3_.out;have:=Zw4_.out;have:=Zw5_.out;have:=Zw6_.out;have:=Zw7_.out;have:=Zw8_.out;have:=Zw9_.out;have:=Zw10_.out;omega));replace Bg46:=yam hx;have Zw11_:=yam hk.1;replace HB:=yam hb;clear hzfg46_0;clear hzfg46_1;clear hzfg46_2;clear hzg24_0;clear hzg24_1;clear hzg24_2;clear hzg46_0;clear hzg46_1;clear hzg46_2;obtain ⟨hzg24_0,hzg24_1,hzg24_2,-⟩:=ybc Bg24.out;obtain ⟨hzg46_0,hzg46_1,hzg46_2,-⟩:=ybc Bg46.out;clear hk hx hb)
  | (refine goesL_ (some 49) rfl rfl Try.func25 (by kernel_rfl) rfl #[.agg #[.int .i64 t36,.slice A39 t37.length c40,.slice A43 t41.length c44],.agg #[.int .i64 t14,.slice A17 t15.length c18,.slice A21 t19.length c22]] rfl yma ?_;(with_reducible refine (laws_eqPuzzle.calls k t36 _ _ t37 _ _ t41 t14 _ _ t15 _ _ t19 true _ (Kd.R_reads' O38.out).2.2 (Kd.R_reads' O38.out).2.1 (Kd.R_reads' (Kd.S_R O42.out)).2.2 (Kd.R_reads' (Kd.S_R O42.out)).2.1 (Kd.R_reads' O16.out).2.2 (Kd.R_reads' O16.out).2.1 (Kd.N_reads' O20.out).2.2 (Kd.N_reads' O20.out).2.1 E47.out).mono ?_);rintro e w12_ ⟨rfl,hb⟩;refine ⟨_,rfl,?_⟩;replace O16:=yam (Kd.R_below O16.out hb);replace O20:=yam (Kd.N_below O20.out hb);replace O27:=yam (Kd.R_below O27.out hb);replace O32:=yam (Kd.S_below O32.out hb);replace O38:=yam (Kd.R_below O38.out hb);replace O42:=yam (Kd.S_below O42.out hb);replace Bg24:=yam (blk_below Bg24.out hb);replace Bg46:=yam (blk_below Bg46.out hb);have Zw12_:=yam hb.size;replace HB:=yam (below_step HB.out hb);clear hb;clear hzg24_0;clear hzg24_1;clear hzg24_2;clear hzg46_0;clear hzg46_1;clear hzg46_2;obtain ⟨hzg24_0,hzg24_1,hzg24_2,-⟩:=ybc Bg24.out;obtain ⟨hzg46_0,hzg46_1,hzg46_2,-⟩:=ybc Bg46.out;skip)
  | (refine goesL_ (some 58) rfl rfl Try.func22 (by kernel_rfl) rfl #[.slice A0 l0.length c0] rfl yma ?_;(with_reducible refine (laws_toIntS.calls k _ _ l0 t50 _ (Kd.C_below HR0.out HB.out) HC0.out E49.out).mono ?_);rintro e w13_ ⟨v0_,rfl,ho0_,hb⟩;refine ⟨_,rfl,?_⟩;replace O16:=yam (Kd.R_below O16.out hb);replace O20:=yam (Kd.N_below O20.out hb);replace O27:=yam (Kd.R_below O27.out hb);replace O32:=yam (Kd.S_below O32.out hb);replace O38:=yam (Kd.R_below O38.out hb);replace O42:=yam (Kd.S_below O42.out hb);replace Bg24:=yam (blk_below Bg24.out hb);replace Bg46:=yam (blk_below Bg46.out hb);have O51:=yam (Kd.R_born ho0_ (below_size HB.out));obtain ⟨A52,c53,e_⟩:=Kd.R_slice O51.out;subst e_;have Zw13_:=yam hb.size;replace HB:=yam (below_step HB.out hb);clear hb ho0_;clear hzg24_0;clear hzg24_1;clear hzg24_2;clear hzg46_0;clear hzg46_1;clear hzg46_2;obtain ⟨hzg24_0,hzg24_1,hzg24_2,-⟩:=ybc Bg24.out;obtain ⟨hzg46_0,hzg46_1,hzg46_2,-⟩:=ybc Bg46.out;skip)
  | (refine goesL_ (some 59) rfl rfl Try.func13 (by kernel_rfl) rfl #[.slice A28 t26.length c29,.slice A52 t50.length c53] rfl yma ?_;(with_reducible refine (laws_eqIntS.calls k _ _ t26 _ _ t50 true _ (Kd.R_reads' O27.out).2.2 (Kd.R_reads' O27.out).2.1 (Kd.R_reads' O51.out).2.2 (Kd.R_reads' O51.out).2.1 E54.out).mono ?_);rintro e w14_ ⟨rfl,hd⟩;refine ⟨_,rfl,?_⟩;have hb:=hd.below;clear hd;replace O16:=yam (Kd.R_below O16.out hb);replace O20:=yam (Kd.N_below O20.out hb);replace O27:=yam (Kd.R_below O27.out hb);replace O32:=yam (Kd.S_below O32.out hb);replace O38:=yam (Kd.R_below O38.out hb);replace O42:=yam (Kd.S_below O42.out hb);replace Bg24:=yam (blk_below Bg24.out hb);replace Bg46:=yam (blk_below Bg46.out hb);clear O51;have Zw14_:=yam hb.size;replace HB:=yam (below_step HB.out hb);clear hb;clear hzg24_0;clear hzg24_1;clear hzg24_2;clear hzg46_0;clear hzg46_1;clear hzg46_2;obtain ⟨hzg24_0,hzg24_1,hzg24_2,-⟩:=ybc Bg24.out;obtain ⟨hzg46_0,hzg46_1,hzg46_2,-⟩:=ybc Bg46.out;skip)
  | (refine goesL_ (some 63) rfl rfl Try.func23 (by kernel_rfl) rfl #[.slice A2 l2.length c2] rfl yma ?_;(with_reducible refine (laws_toRuleS.calls k _ _ l2 t57 _ (Kd.C_below HR2.out HB.out) HC2.out E56.out).mono ?_);rintro e w15_ ⟨v0_,rfl,ho0_,hb⟩;refine ⟨_,rfl,?_⟩;replace O16:=yam (Kd.R_below O16.out hb);replace O20:=yam (Kd.N_below O20.out hb);replace O27:=yam (Kd.R_below O27.out hb);replace O32:=yam (Kd.S_below O32.out hb);replace O38:=yam (Kd.R_below O38.out hb);replace O42:=yam (Kd.S_below O42.out hb);replace Bg24:=yam (blk_below Bg24.out hb);replace Bg46:=yam (blk_below Bg46.out hb);have O58:=yam (Kd.S_born ho0_ (below_size HB.out));obtain ⟨A59,c60,e_⟩:=Kd.S_slice O58.out;subst e_;have Zw15_:=yam hb.size;replace HB:=yam (below_step HB.out hb);clear hb ho0_;clear hzg24_0;clear hzg24_1;clear hzg24_2;clear hzg46_0;clear hzg46_1;clear hzg46_2;obtain ⟨hzg24_0,hzg24_1,hzg24_2,-⟩:=ybc Bg24.out;obtain ⟨hzg46_0,hzg46_1,hzg46_2,-⟩:=ybc Bg46.out;skip)
  | (refine goesL_ (some 64) rfl rfl Try.func26 (by kernel_rfl) rfl #[.slice A33 t31.length c34,.slice A59 t57.length c60] rfl yma ?_;(with_reducible refine (laws_eqRuleS.calls k _ _ t31 _ _ t57 true _ (Kd.R_reads' (Kd.S_R O32.out)).2.2 (Kd.R_reads' (Kd.S_R O32.out)).2.1 (Kd.R_reads' (Kd.S_R O58.out)).2.2 (Kd.R_reads' (Kd.S_R O58.out)).2.1 E61.out).mono ?_);rintro e w16_ ⟨rfl,hb⟩;refine ⟨_,rfl,?_⟩;replace O16:=yam (Kd.R_below O16.out hb);replace O20:=yam (Kd.N_below O20.out hb);replace O27:=yam (Kd.R_below O27.out hb);replace O32:=yam (Kd.S_below O32.out hb);replace O38:=yam (Kd.R_below O38.out hb);replace O42:=yam (Kd.S_below O42.out hb);replace Bg24:=yam (blk_below Bg24.out hb);replace Bg46:=yam (blk_below Bg46.out hb);clear O58;have Zw16_:=yam hb.size;replace HB:=yam (below_step HB.out hb);clear hb;clear hzg24_0;clear hzg24_1;clear hzg24_2;clear hzg46_0;clear hzg46_1;clear hzg46_2;obtain ⟨hzg24_0,hzg24_1,hzg24_2,-⟩:=ybc Bg24.out;obtain ⟨hzg46_0,hzg46_1,hzg46_2,-⟩:=ybc Bg46.out;skip)
  | (refine goesL_ (some 68) rfl rfl Try.func14 (by kernel_rfl) rfl #[.slice A28 t26.length c29,.int .i64 1] rfl yma ?_;(with_reducible refine (laws_markIntS.calls k _ _ t26 1 t64 t65 w w16_ HB.out (Kd.R_tight rfl O27.out) E63.out).mono ?_);rintro e w17_ ⟨rfl,hm0_,hb,hk⟩;refine ⟨_,rfl,?_⟩;replace O16:=yam (Kd.R_kept O16.out hk (fun k_ h_ s_=>by have hx_:=(O27.out.1 _ s_.symm).1;have hy_:=h_.1;have:=Zw1_.out;have:=Zw2_.out;have:=Zw3_.out;have:=Zw4_.out;have:=Zw5_.out;have:=Zw6_.out;have:=Zw7_.out;have:=Zw8_.out;have:=Zw9_.out;have:=Zw10_.out;have:=Zw11_.out;have:=Zw12_.out;have:=Zw13_.out;have:=Zw14_.out;have:=Zw15_.out;have:=Zw16_.out;omega));replace O20:=yam (Kd.N_kept O20.out hk (fun k_ h_ s_=>by have hx_:=(O27.out.1 _ s_.symm).1;have hy_:=h_.1;have:=Zw1_.out;have:=Zw2_.out;have:=Zw3_.out;have:=Zw4_.out;have:=Zw5_.out;have:=Zw6_.out;have:=Zw7_.out;have:=Zw8_.out;have:=Zw9_.out;have:=Zw10_.out;have:=Zw11_.out;have:=Zw12_.out;have:=Zw13_.out;have:=Zw14_.out;have:=Zw15_.out;have:=Zw16_.out;omega));replace O32:=yam (Kd.S_kept O32.out hk (fun k_ h_ s_=>by have hx_:=(O27.out.1 _ s_.symm).1;have hy_:=h_.1;have:=Zw1_.out;have:=Zw2_.out;have:=Zw3_.out;have:=Zw4_.out;have:=Zw5_.out;have:=Zw6_.out;have:=Zw7_.out;have:=Zw8_.out;have:=Zw9_.out;have:=Zw10_.out;have:=Zw11_.out;have:=Zw12_.out;have:=Zw13_.out;have:=Zw14_.out;have:=Zw15_.out;have:=Zw16_.out;omega));replace O38:=yam (Kd.R_kept O38.out hk (fun k_ h_ s_=>by have hx_:=(O27.out.1 _ s_.symm).1;have hy_:=h_.1;have:=Zw1_.out;have:=Zw2_.out;have:=Zw3_.out;have:=Zw4_.out;have:=Zw5_.out;have:=Zw6_.out;have:=Zw7_.out;have:=Zw8_.out;have:=Zw9_.out;have:=Zw10_.out;have:=Zw11_.out;have:=Zw12_.out;have:=Zw13_.out;have:=Zw14_.out;have:=Zw15_.out;have:=Zw16_.out;omega));replace O42:=yam (Kd.S_kept O42.out hk (fun k_ h_ s_=>by have hx_:=(O27.out.1 _ s_.symm).1;have hy_:=h_.1;have:=Zw1_.out;have:=Zw2_.out;have:=Zw3_.out;have:=Zw4_.out;have:=Zw5_.out;have:=Zw6_.out;have:=Zw7_.out;have:=Zw8_.out;have:=Zw9_.out;have:=Zw10_.out;have:=Zw11_.out;have:=Zw12_.out;have:=Zw13_.out;have:=Zw14_.out;have:=Zw15_.out;have:=Zw16_.out;omega));replace Bg24:=yam (blk_kept Bg24.out hk (fun s_=>by have hx_:=(O27.out.1 _ s_.symm).1;have hy_:=Gg24.out;have:=Zw1_.out;have:=Zw2_.out;have:=Zw3_.out;have:=Zw4_.out;have:=Zw5_.out;have:=Zw6_.out;have:=Zw7_.out;have:=Zw8_.out;have:=Zw9_.out;have:=Zw10_.out;have:=Zw11_.out;have:=Zw12_.out;have:=Zw13_.out;have:=Zw14_.out;have:=Zw15_.out;have:=Zw16_.out;omega));replace Bg46:=yam (blk_kept Bg46.out hk (fun s_=>by have hx_:=(O27.out.1 _ s_.symm).1;have hy_:=Gg46.out;have:=Zw1_.out;have:=Zw2_.out;have:=Zw3_.out;have:=Zw4_.out;have:=Zw5_.out;have:=Zw6_.out;have:=Zw7_.out;have:=Zw8_.out;have:=Zw9_.out;have:=Zw10_.out;have:=Zw11_.out;have:=Zw12_.out;have:=Zw13_.out;have:=Zw14_.out;have:=Zw15_.out;have:=Zw16_.out;omega));clear O27;have Zw17_:=yam hk.1;replace HB:=yam hb;clear hk hb hm0_;clear hzg24_0;clear hzg24_1;clear hzg24_2;clear hzg46_0;clear hzg46_1;clear hzg46_2;obtain ⟨hzg24_0,hzg24_1,hzg24_2,-⟩:=ybc Bg24.out;obtain ⟨hzg46_0,hzg46_1,hzg46_2,-⟩:=ybc Bg46.out;skip)
  | (refine goesL_ (some 71) rfl rfl Try.func27 (by kernel_rfl) rfl #[.slice A33 t31.length c34,.int .i64 t64] rfl yma ?_;(with_reducible refine (laws_markRuleS.calls k _ _ _ t31 t64 t67 t68 w w17_ HB.out O32.out E66.out).mono ?_);rintro e w18_ ⟨rfl,hm0_,hb,hk⟩;refine ⟨_,rfl,?_⟩;replace O16:=yam (Kd.R_kept O16.out hk (fun k_ h_ s_=>by have hx_:=s_.1;have hy_:=h_.1;have:=Zw1_.out;have:=Zw2_.out;have:=Zw3_.out;have:=Zw4_.out;have:=Zw5_.out;have:=Zw6_.out;have:=Zw7_.out;have:=Zw8_.out;have:=Zw9_.out;have:=Zw10_.out;have:=Zw11_.out;have:=Zw12_.out;have:=Zw13_.out;have:=Zw14_.out;have:=Zw15_.out;have:=Zw16_.out;have:=Zw17_.out;omega));replace O20:=yam (Kd.N_kept O20.out hk (fun k_ h_ s_=>by have hx_:=s_.1;have hy_:=h_.1;have:=Zw1_.out;have:=Zw2_.out;have:=Zw3_.out;have:=Zw4_.out;have:=Zw5_.out;have:=Zw6_.out;have:=Zw7_.out;have:=Zw8_.out;have:=Zw9_.out;have:=Zw10_.out;have:=Zw11_.out;have:=Zw12_.out;have:=Zw13_.out;have:=Zw14_.out;have:=Zw15_.out;have:=Zw16_.out;have:=Zw17_.out;omega));replace O38:=yam (Kd.R_kept O38.out hk (fun k_ h_ s_=>by have hx_:=s_.1;have hy_:=h_.1;have:=Zw1_.out;have:=Zw2_.out;have:=Zw3_.out;have:=Zw4_.out;have:=Zw5_.out;have:=Zw6_.out;have:=Zw7_.out;have:=Zw8_.out;have:=Zw9_.out;have:=Zw10_.out;have:=Zw11_.out;have:=Zw12_.out;have:=Zw13_.out;have:=Zw14_.out;have:=Zw15_.out;have:=Zw16_.out;have:=Zw17_.out;omega));replace O42:=yam (Kd.S_kept O42.out hk (fun k_ h_ s_=>by have hx_:=s_.1;have hy_:=h_.1;have:=Zw1_.out;have:=Zw2_.out;have:=Zw3_.out;have:=Zw4_.out;have:=Zw5_.out;have:=Zw6_.out;have:=Zw7_.out;have:=Zw8_.out;have:=Zw9_.out;have:=Zw10_.out;have:=Zw11_.out;have:=Zw12_.out;have:=Zw13_.out;have:=Zw14_.out;have:=Zw15_.out;have:=Zw16_.out;have:=Zw17_.out;omega));replace Bg24:=yam (blk_kept Bg24.out hk (fun s_=>by have hx_:=s_.1;have hy_:=Gg24.out;have:=Zw1_.out;have:=Zw2_.out;have:=Zw3_.out;have:=Zw4_.out;have:=Zw5_.out;have:=Zw6_.out;have:=Zw7_.out;have:=Zw8_.out;have:=Zw9_.out;have:=Zw10_.out;have:=Zw11_.out;have:=Zw12_.out;have:=Zw13_.out;have:=Zw14_.out;have:=Zw15_.out;have:=Zw16_.out;have:=Zw17_.out;omega));replace Bg46:=yam (blk_kept Bg46.out hk (fun s_=>by have hx_:=s_.1;have hy_:=Gg46.out;have:=Zw1_.out;have:=Zw2_.out;have:=Zw3_.out;have:=Zw4_.out;have:=Zw5_.out;have:=Zw6_.out;have:=Zw7_.out;have:=Zw8_.out;have:=Zw9_.out;have:=Zw10_.out;have:=Zw11_.out;have:=Zw12_.out;have:=Zw13_.out;have:=Zw14_.out;have:=Zw15_.out;have:=Zw16_.out;have:=Zw17_.out;omega));clear O32;have Zw18_:=yam hk.1;replace HB:=yam hb;clear hk hb hm0_;clear hzg24_0;clear hzg24_1;clear hzg24_2;clear hzg46_0;clear hzg46_1;clear hzg46_2;obtain ⟨hzg24_0,hzg24_1,hzg24_2,-⟩:=ybc Bg24.out;obtain ⟨hzg46_0,hzg46_1,hzg46_2,-⟩:=ybc Bg46.out;skip)
  | (go_at_call 25;(with_reducible refine (laws_eqPuzzle.calls k t36 _ _ t37 _ _ t41 t14 _ _ t15 _ _ t19 true _ (Kd.R_reads' O38.out).2.2 (Kd.R_reads' O38.out).2.1 (Kd.R_reads' (Kd.S_R O42.out)).2.2 (Kd.R_reads' (Kd.S_R O42.out)).2.1 (Kd.R_reads' O16.out).2.2 (Kd.R_reads' O16.out).2.1 (Kd.N_reads' O20.out).2.2 (Kd.N_reads' O20.out).2.1 E69.out).mono ?_);rintro e w19_ ⟨rfl,hb⟩;replace O16:=yam (Kd.R_below O16.out hb);replace O20:=yam (Kd.N_below O20.out hb);replace O38:=yam (Kd.R_below O38.out hb);replace O42:=yam (Kd.S_below O42.out hb);replace Bg24:=yam (blk_below Bg24.out hb);replace Bg46:=yam (blk_below Bg46.out hb);have Zw19_:=yam hb.size;replace HB:=yam (below_step HB.out hb);clear hb;clear hzg24_0;clear hzg24_1;clear hzg24_2;clear hzg46_0;clear hzg46_1;clear hzg46_2;obtain ⟨hzg24_0,hzg24_1,hzg24_2,-⟩:=ybc Bg24.out;obtain ⟨hzg46_0,hzg46_1,hzg46_2,-⟩:=ybc Bg46.out;skip)
  | (refine goesL_ (some 87) rfl rfl Try.func28 (by kernel_rfl) rfl #[.agg #[.int .i64 t36,.slice A39 t37.length c40,.slice A43 t41.length c44],.int .i64 1] rfl yma ?_;(with_reducible refine (laws_markPuzzle.calls k t36 _ _ _ _ t37 _ _ t41 1 t72 t73 t74 w w19_ HB.out apart_own (Kd.R_tight rfl O38.out) O42.out E71.out).mono ?_);rintro e w20_ ⟨rfl,hm0_,hm1_,hb,hk⟩;refine ⟨_,rfl,?_⟩;replace O16:=yam (Kd.R_kept O16.out hk (fun k_ h_ s_=>s_.elim (fun p_=>by have hx_:=(O38.out.1 _ p_.symm).1;have hy_:=h_.1;have:=Zw1_.out;have:=Zw2_.out;have:=Zw3_.out;have:=Zw4_.out;have:=Zw5_.out;have:=Zw6_.out;have:=Zw7_.out;have:=Zw8_.out;have:=Zw9_.out;have:=Zw10_.out;have:=Zw11_.out;have:=Zw12_.out;have:=Zw13_.out;have:=Zw14_.out;have:=Zw15_.out;have:=Zw16_.out;have:=Zw17_.out;have:=Zw18_.out;have:=Zw19_.out;omega) (fun q_=>by have hx_:=q_.1;have hy_:=h_.1;have:=Zw1_.out;have:=Zw2_.out;have:=Zw3_.out;have:=Zw4_.out;have:=Zw5_.out;have:=Zw6_.out;have:=Zw7_.out;have:=Zw8_.out;have:=Zw9_.out;have:=Zw10_.out;have:=Zw11_.out;have:=Zw12_.out;have:=Zw13_.out;have:=Zw14_.out;have:=Zw15_.out;have:=Zw16_.out;have:=Zw17_.out;have:=Zw18_.out;have:=Zw19_.out;omega)));replace O20:=yam (Kd.N_kept O20.out hk (fun k_ h_ s_=>s_.elim (fun p_=>by have hx_:=(O38.out.1 _ p_.symm).1;have hy_:=h_.1;have:=Zw1_.out;have:=Zw2_.out;have:=Zw3_.out;have:=Zw4_.out;have:=Zw5_.out;have:=Zw6_.out;have:=Zw7_.out;have:=Zw8_.out;have:=Zw9_.out;have:=Zw10_.out;have:=Zw11_.out;have:=Zw12_.out;have:=Zw13_.out;have:=Zw14_.out;have:=Zw15_.out;have:=Zw16_.out;have:=Zw17_.out;have:=Zw18_.out;have:=Zw19_.out;omega) (fun q_=>by have hx_:=q_.1;have hy_:=h_.1;have:=Zw1_.out;have:=Zw2_.out;have:=Zw3_.out;have:=Zw4_.out;have:=Zw5_.out;have:=Zw6_.out;have:=Zw7_.out;have:=Zw8_.out;have:=Zw9_.out;have:=Zw10_.out;have:=Zw11_.out;have:=Zw12_.out;have:=Zw13_.out;have:=Zw14_.out;have:=Zw15_.out;have:=Zw16_.out;have:=Zw17_.out;have:=Zw18_.out;have:=Zw19_.out;omega)));replace Bg24:=yam (blk_kept Bg24.out hk (fun s_=>s_.elim (fun p_=>by have hx_:=(O38.out.1 _ p_.symm).1;have hy_:=Gg24.out;have:=Zw1_.out;have:=Zw2_.out;have:=Zw3_.out;have:=Zw4_.out;have:=Zw5_.out;have:=Zw6_.out;have:=Zw7_.out;have:=Zw8_.out;have:=Zw9_.out;have:=Zw10_.out;have:=Zw11_.out;have:=Zw12_.out;have:=Zw13_.out;have:=Zw14_.out;have:=Zw15_.out;have:=Zw16_.out;have:=Zw17_.out;have:=Zw18_.out;have:=Zw19_.out;omega) (fun q_=>by have hx_:=q_.1;have hy_:=Gg24.out;have:=Zw1_.out;have:=Zw2_.out;have:=Zw3_.out;have:=Zw4_.out;have:=Zw5_.out;have:=Zw6_.out;have:=Zw7_.out;have:=Zw8_.out;have:=Zw9_.out;have:=Zw10_.out;have:=Zw11_.out;have:=Zw12_.out;have:=Zw13_.out;have:=Zw14_.out;have:=Zw15_.out;have:=Zw16_.out;have:=Zw17_.out;have:=Zw18_.out;have:=Zw19_.out;omega)));replace Bg46:=yam (blk_kept Bg46.out hk (fun s_=>s_.elim (fun p_=>by have hx_:=(O38.out.1 _ p_.symm).1;have hy_:=Gg46.out;have:=Zw1_.out;have:=Zw2_.out;have:=Zw3_.out;have:=Zw4_.out;have:=Zw5_.out;have:=Zw6_.out;have:=Zw7_.out;have:=Zw8_.out;have:=Zw9_.out;have:=Zw10_.out;have:=Zw11_.out;have:=Zw12_.out;have:=Zw13_.out;have:=Zw14_.out;have:=Zw15_.out;have:=Zw16_.out;have:=Zw17_.out;have:=Zw18_.out;have:=Zw19_.out;omega) (fun q_=>by have hx_:=q_.1;have hy_:=Gg46.out;have:=Zw1_.out;have:=Zw2_.out;have:=Zw3_.out;have:=Zw4_.out;have:=Zw5_.out;have:=Zw6_.out;have:=Zw7_.out;have:=Zw8_.out;have:=Zw9_.out;have:=Zw10_.out;have:=Zw11_.out;have:=Zw12_.out;have:=Zw13_.out;have:=Zw14_.out;have:=Zw15_.out;have:=Zw16_.out;have:=Zw17_.out;have:=Zw18_.out;have:=Zw19_.out;omega)));replace O38:=yam (Kd.R_mono hm0_ (fun k_ h_=>O38.out.1 k_ h_.symm));have Lt73:=yam (Kd.R_reads' hm0_).1.symm;replace O42:=yam hm1_;have Lt74:=yam (Kd.R_reads' (Kd.S_R hm1_)).1.symm;have Zw20_:=yam hk.1;replace HB:=yam hb;clear hk hb hm0_ hm1_;clear hzg24_0;clear hzg24_1;clear hzg24_2;clear hzg46_0;clear hzg46_1;clear hzg46_2;obtain ⟨hzg24_0,hzg24_1,hzg24_2,-⟩:=ybc Bg24.out;obtain ⟨hzg46_0,hzg46_1,hzg46_2,-⟩:=ybc Bg46.out;skip)
  | (refine goesL_ (some 90) rfl rfl Try.func29 (by kernel_rfl) rfl #[.agg #[.int .i64 t36,.slice A39 t73.length c40,.slice A43 t74.length c44],.int .i64 1] rfl (by (try simp only [List.map_toArray,List.map_cons,List.map_nil]);first|done|rfl|(rw [Lt73.out,Lt74.out];rfl)) ?_;(with_reducible refine (laws_heldPuzzle.calls k t36 _ _ t73 _ _ t74 1 t76 _ (Kd.R_reads' O38.out).2.2 (by rw [Lt73.out];exact (Kd.R_reads' O38.out).2.1) (Kd.R_reads' (Kd.S_R O42.out)).2.2 (by rw [Lt74.out];exact (Kd.R_reads' (Kd.S_R O42.out)).2.1) E75.out).mono ?_);rintro e w21_ ⟨rfl,hb⟩;refine ⟨_,rfl,?_⟩;replace O16:=yam (Kd.R_below O16.out hb);replace O20:=yam (Kd.N_below O20.out hb);replace O38:=yam (Kd.R_below O38.out hb);replace O42:=yam (Kd.S_below O42.out hb);replace Bg24:=yam (blk_below Bg24.out hb);replace Bg46:=yam (blk_below Bg46.out hb);have Zw21_:=yam hb.size;replace HB:=yam (below_step HB.out hb);clear hb;clear hzg24_0;clear hzg24_1;clear hzg24_2;clear hzg46_0;clear hzg46_1;clear hzg46_2;obtain ⟨hzg24_0,hzg24_1,hzg24_2,-⟩:=ybc Bg24.out;obtain ⟨hzg46_0,hzg46_1,hzg46_2,-⟩:=ybc Bg46.out;skip)
  | (refine goesL_ (some 98) rfl rfl Try.func22 (by kernel_rfl) rfl #[.slice A0 l0.length c0] rfl yma ?_;(with_reducible refine (laws_toIntS.calls k _ _ l0 t78 _ (Kd.C_below HR0.out HB.out) HC0.out E77.out).mono ?_);rintro e w22_ ⟨v0_,rfl,ho0_,hb⟩;refine ⟨_,rfl,?_⟩;replace O16:=yam (Kd.R_below O16.out hb);replace O20:=yam (Kd.N_below O20.out hb);replace O38:=yam (Kd.R_below O38.out hb);replace O42:=yam (Kd.S_below O42.out hb);replace Bg24:=yam (blk_below Bg24.out hb);replace Bg46:=yam (blk_below Bg46.out hb);have O79:=yam (Kd.R_born ho0_ (below_size HB.out));obtain ⟨A80,c81,e_⟩:=Kd.R_slice O79.out;subst e_;have Zw22_:=yam hb.size;replace HB:=yam (below_step HB.out hb);clear hb ho0_;clear hzg24_0;clear hzg24_1;clear hzg24_2;clear hzg46_0;clear hzg46_1;clear hzg46_2;obtain ⟨hzg24_0,hzg24_1,hzg24_2,-⟩:=ybc Bg24.out;obtain ⟨hzg46_0,hzg46_1,hzg46_2,-⟩:=ybc Bg46.out;skip)
  | (refine goesL_ (some 101) rfl rfl Try.func23 (by kernel_rfl) rfl #[.slice A2 l2.length c2] rfl yma ?_;(with_reducible refine (laws_toRuleS.calls k _ _ l2 t83 _ (Kd.C_below HR2.out HB.out) HC2.out E82.out).mono ?_);rintro e w23_ ⟨v0_,rfl,ho0_,hb⟩;refine ⟨_,rfl,?_⟩;replace O16:=yam (Kd.R_below O16.out hb);replace O20:=yam (Kd.N_below O20.out hb);replace O38:=yam (Kd.R_below O38.out hb);replace O42:=yam (Kd.S_below O42.out hb);replace O79:=yam (Kd.R_below O79.out hb);replace Bg24:=yam (blk_below Bg24.out hb);replace Bg46:=yam (blk_below Bg46.out hb);have O84:=yam (Kd.S_born ho0_ (below_size HB.out));obtain ⟨A85,c86,e_⟩:=Kd.S_slice O84.out;subst e_;have Zw23_:=yam hb.size;replace HB:=yam (below_step HB.out hb);clear hb ho0_;clear hzg24_0;clear hzg24_1;clear hzg24_2;clear hzg46_0;clear hzg46_1;clear hzg46_2;obtain ⟨hzg24_0,hzg24_1,hzg24_2,-⟩:=ybc Bg24.out;obtain ⟨hzg46_0,hzg46_1,hzg46_2,-⟩:=ybc Bg46.out;skip)
  | (refine goesL_ (some 102) rfl rfl Try.func24 (by kernel_rfl) rfl #[.slice A80 t78.length c81,.int .i64 a1,.slice A85 t83.length c86] rfl yma ?_;(with_reducible refine (impl_PuzzleOf.calls k _ _ t78 a1 _ _ t83 t88 t89 t93 t97 _ (Kd.R_reads' O79.out).2.2 (Kd.R_reads' O79.out).2.1 (Kd.R_reads' (Kd.S_R O84.out)).2.2 (Kd.R_reads' (Kd.S_R O84.out)).2.1 E87.out).mono ?_);rintro e w24_ ⟨v0_,v1_,rfl,ho0_,ho1_,hb⟩;refine ⟨_,rfl,?_⟩;replace O16:=yam (Kd.R_below O16.out hb);replace O20:=yam (Kd.N_below O20.out hb);replace O38:=yam (Kd.R_below O38.out hb);replace O42:=yam (Kd.S_below O42.out hb);replace Bg24:=yam (blk_below Bg24.out hb);replace Bg46:=yam (blk_below Bg46.out hb);clear O79;clear O84;have O90:=yam (Kd.R_born ho0_ (below_size HB.out));obtain ⟨A91,c92,e_⟩:=Kd.R_slice O90.out;subst e_;have O94:=yam (Kd.S_born ho1_ (below_size HB.out));obtain ⟨A95,c96,e_⟩:=Kd.S_slice O94.out;subst e_;have Zw24_:=yam hb.size;replace HB:=yam (below_step HB.out hb);clear hb ho0_ ho1_;clear hzg24_0;clear hzg24_1;clear hzg24_2;clear hzg46_0;clear hzg46_1;clear hzg46_2;obtain ⟨hzg24_0,hzg24_1,hzg24_2,-⟩:=ybc Bg24.out;obtain ⟨hzg46_0,hzg46_1,hzg46_2,-⟩:=ybc Bg46.out;skip)
  | (refine ybe 17 #[.int .i64 0,.slice none 0 0,.slice none 0 0] 37 ?_;intro g98 hg w25_ hbox hb;replace O16:=yam (Kd.R_below O16.out hb);replace O20:=yam (Kd.N_below O20.out hb);replace O38:=yam (Kd.R_below O38.out hb);replace O42:=yam (Kd.S_below O42.out hb);replace O90:=yam (Kd.R_below O90.out hb);replace O94:=yam (Kd.S_below O94.out hb);replace Bg24:=yam (blk_below Bg24.out hb);replace Bg46:=yam (blk_below Bg46.out hb);have Bg98:=yam hbox;have Gg98:=yam (show w24_.heap.size≤g98∧g98 < w25_.heap.size from ⟨Nat.le_of_eq hg.symm,blk_lt hbox⟩);have Zw25_:=yam hb.size;have Lg98:=yam (show w.heap.size≤g98 from Nat.le_trans (below_size HB.out) (Nat.le_of_eq hg.symm));replace HB:=yam (below_step HB.out hb);clear hzg24_0;clear hzg24_1;clear hzg24_2;clear hzg46_0;clear hzg46_1;clear hzg46_2;obtain ⟨hzg24_0,hzg24_1,hzg24_2,-⟩:=ybc Bg24.out;obtain ⟨hzg46_0,hzg46_1,hzg46_2,-⟩:=ybc Bg46.out;obtain ⟨hzg98_0,hzg98_1,hzg98_2,-⟩:=ybc Bg98.out;have hzfg98_0:=blk_frozen Bg98.out 0;have hzfg98_1:=blk_frozen Bg98.out 1;have hzfg98_2:=blk_frozen Bg98.out 2;clear hb hbox hg)
  | ((with_reducible refine gate_store (t:=37) (p:=17) rfl ?_);refine store_event (t:=37) (p:=17) (v:=?vog98) (w1:=((w25_.setCell ⟨g98,0,none⟩ (.int .i64 t88)).setCell ⟨g98,1,none⟩ (.slice A91 t89.length c92)).setCell ⟨g98,2,none⟩ (.slice A95 t93.length c96)) ?hg ?ho ?hn ?hr ?_;(case ho=>rfl);(case hg=>rfl);(case hn=>rfl);(case hr=>first|(go_simp;done)|(go_simp;rfl));intro w26_ hw;have hk:Kept w25_ w26_ (fun k_=>k_=g98):=(by rw [hw];exact box3_kept _ _ _ _ _);have hx:w26_.heap[g98]?=some (.cells #[.int .i64 t88,.slice A91 t89.length c92,.slice A95 t93.length c96] 37 (0,0)):=(by rw [hw];exact box3_blk Bg98.out _ _ _);have hb:Below w.heap.size w w26_:=(by rw [hw];exact box3_below HB.out Lg98.out _ _ _);clear hw;replace O16:=yam (Kd.R_kept O16.out hk (fun k_ h_ s_=>by have hx_:=Gg98.out;have hy_:=h_.1;have hz_:=s_;have:=Zw1_.out;have:=Zw2_.out;have:=Zw3_.out;have:=Zw4_.out;have:=Zw5_.out;have:=Zw6_.out;have:=Zw7_.out;have:=Zw8_.out;have:=Zw9_.out;have:=Zw10_.out;have:=Zw11_.out;have:=Zw12_.out;have:=Zw13_.out;have:=Zw14_.out;have:=Zw15_.out;have:=Zw16_.out;have:=Zw17_.out;have:=Zw18_.out;have:=Zw19_.out;have:=Zw20_.out;have:=Zw21_.out;have:=Zw22_.out;have:=Zw23_.out;have:=Zw24_.out;have:=Zw25_.out;omega));replace O20:=yam (Kd.N_kept O20.out hk (fun k_ h_ s_=>by have hx_:=Gg98.out;have hy_:=h_.1;have hz_:=s_;have:=Zw1_.out;have:=Zw2_.out;have:=Zw3_.out;have:=Zw4_.out;have:=Zw5_.out;have:=Zw6_.out;have:=Zw7_.out;have:=Zw8_.out;have:=Zw9_.out;have:=Zw10_.out;have:=Zw11_.out;have:=Zw12_.out;have:=Zw13_.out;have:=Zw14_.out;have:=Zw15_.out;have:=Zw16_.out;have:=Zw17_.out;have:=Zw18_.out;have:=Zw19_.out;have:=Zw20_.out;have:=Zw21_.out;have:=Zw22_.out;have:=Zw23_.out;have:=Zw24_.out;have:=Zw25_.out;omega));replace O38:=yam (Kd.R_kept O38.out hk (fun k_ h_ s_=>by have hx_:=Gg98.out;have hy_:=h_.1;have hz_:=s_;have:=Zw1_.out;have:=Zw2_.out;have:=Zw3_.out;have:=Zw4_.out;have:=Zw5_.out;have:=Zw6_.out;have:=Zw7_.out;have:=Zw8_.out;have:=Zw9_.out;have:=Zw10_.out;have:=Zw11_.out;have:=Zw12_.out;have:=Zw13_.out;have:=Zw14_.out;have:=Zw15_.out;have:=Zw16_.out;have:=Zw17_.out;have:=Zw18_.out;have:=Zw19_.out;have:=Zw20_.out;have:=Zw21_.out;have:=Zw22_.out;have:=Zw23_.out;have:=Zw24_.out;have:=Zw25_.out;omega));replace O42:=yam (Kd.S_kept O42.out hk (fun k_ h_ s_=>by have hx_:=Gg98.out;have hy_:=h_.1;have hz_:=s_;have:=Zw1_.out;have:=Zw2_.out;have:=Zw3_.out;have:=Zw4_.out;have:=Zw5_.out;have:=Zw6_.out;have:=Zw7_.out;have:=Zw8_.out;have:=Zw9_.out;have:=Zw10_.out;have:=Zw11_.out;have:=Zw12_.out;have:=Zw13_.out;have:=Zw14_.out;have:=Zw15_.out;have:=Zw16_.out;have:=Zw17_.out;have:=Zw18_.out;have:=Zw19_.out;have:=Zw20_.out;have:=Zw21_.out;have:=Zw22_.out;have:=Zw23_.out;have:=Zw24_.out;have:=Zw25_.out;omega));replace O90:=yam (Kd.R_kept O90.out hk (fun k_ h_ s_=>by have hx_:=Gg98.out;have hy_:=h_.1;have hz_:=s_;have:=Zw1_.out;have:=Zw2_.out;have:=Zw3_.out;have:=Zw4_.out;have:=Zw5_.out;have:=Zw6_.out;have:=Zw7_.out;have:=Zw8_.out;have:=Zw9_.out;have:=Zw10_.out;have:=Zw11_.out;have:=Zw12_.out;have:=Zw13_.out;have:=Zw14_.out;have:=Zw15_.out;have:=Zw16_.out;have:=Zw17_.out;have:=Zw18_.out;have:=Zw19_.out;have:=Zw20_.out;have:=Zw21_.out;have:=Zw22_.out;have:=Zw23_.out;have:=Zw24_.out;have:=Zw25_.out;omega));replace O94:=yam (Kd.S_kept O94.out hk (fun k_ h_ s_=>by have hx_:=Gg98.out;have hy_:=h_.1;have hz_:=s_;have:=Zw1_.out;have:=Zw2_.out;have:=Zw3_.out;have:=Zw4_.out;have:=Zw5_.out;have:=Zw6_.out;have:=Zw7_.out;have:=Zw8_.out;have:=Zw9_.out;have:=Zw10_.out;have:=Zw11_.out;have:=Zw12_.out;have:=Zw13_.out;have:=Zw14_.out;have:=Zw15_.out;have:=Zw16_.out;have:=Zw17_.out;have:=Zw18_.out;have:=Zw19_.out;have:=Zw20_.out;have:=Zw21_.out;have:=Zw22_.out;have:=Zw23_.out;have:=Zw24_.out;have:=Zw25_.out;omega));replace Bg24:=yam (blk_kept Bg24.out hk (fun s_=>by have hx_:=Gg98.out;have hy_:=Gg24.out;have hz_:=s_;have:=Zw1_.out;have:=Zw2_.out;have:=Zw3_.out;have:=Zw4_.out;have:=Zw5_.out;have:=Zw6_.out;have:=Zw7_.out;have:=Zw8_.out;have:=Zw9_.out;have:=Zw10_.out;have:=Zw11_.out;have:=Zw12_.out;have:=Zw13_.out;have:=Zw14_.out;have:=Zw15_.out;have:=Zw16_.out;have:=Zw17_.out;have:=Zw18_.out;have:=Zw19_.out;have:=Zw20_.out;have:=Zw21_.out;have:=Zw22_.out;have:=Zw23_.out;have:=Zw24_.out;have:=Zw25_.out;omega));replace Bg46:=yam (blk_kept Bg46.out hk (fun s_=>by have hx_:=Gg98.out;have hy_:=Gg46.out;have hz_:=s_;have:=Zw1_.out;have:=Zw2_.out;have:=Zw3_.out;have:=Zw4_.out;have:=Zw5_.out;have:=Zw6_.out;have:=Zw7_.out;have:=Zw8_.out;have:=Zw9_.out;have:=Zw10_.out;have:=Zw11_.out;have:=Zw12_.out;have:=Zw13_.out;have:=Zw14_.out;have:=Zw15_.out;have:=Zw16_.out;have:=Zw17_.out;have:=Zw18_.out;have:=Zw19_.out;have:=Zw20_.out;have:=Zw21_.out;have:=Zw22_.out;have:=Zw23_.out;have:=Zw24_.out;have:=Zw25_.out;omega));replace Bg98:=yam hx;have Zw26_:=yam hk.1;replace HB:=yam hb;clear hzfg98_0;clear hzfg98_1;clear hzfg98_2;clear hzg24_0;clear hzg24_1;clear hzg24_2;clear hzg46_0;clear hzg46_1;clear hzg46_2;clear hzg98_0;clear hzg98_1;clear hzg98_2;obtain ⟨hzg24_0,hzg24_1,hzg24_2,-⟩:=ybc Bg24.out;obtain ⟨hzg46_0,hzg46_1,hzg46_2,-⟩:=ybc Bg46.out;obtain ⟨hzg98_0,hzg98_1,hzg98_2,-⟩:=ybc Bg98.out;clear hk hx hb)
  | (refine goesL_ (some 107) rfl rfl Try.func25 (by kernel_rfl) rfl #[.agg #[.int .i64 t88,.slice A91 t89.length c92,.slice A95 t93.length c96],.agg #[.int .i64 t14,.slice A17 t15.length c18,.slice A21 t19.length c22]] rfl yma ?_;(with_reducible refine (laws_eqPuzzle.calls k t88 _ _ t89 _ _ t93 t14 _ _ t15 _ _ t19 true _ (Kd.R_reads' O90.out).2.2 (Kd.R_reads' O90.out).2.1 (Kd.R_reads' (Kd.S_R O94.out)).2.2 (Kd.R_reads' (Kd.S_R O94.out)).2.1 (Kd.R_reads' O16.out).2.2 (Kd.R_reads' O16.out).2.1 (Kd.N_reads' O20.out).2.2 (Kd.N_reads' O20.out).2.1 E99.out).mono ?_);rintro e w27_ ⟨rfl,hb⟩;refine ⟨_,rfl,?_⟩;replace O38:=yam (Kd.R_below O38.out hb);replace O42:=yam (Kd.S_below O42.out hb);replace Bg46:=yam (blk_below Bg46.out hb);clear O16;clear O20;clear O90;clear O94;clear Bg24;clear Bg98;have Zw27_:=yam hb.size;replace HB:=yam (below_step HB.out hb);clear hb;clear hzg24_0;clear hzg24_1;clear hzg24_2;clear hzg46_0;clear hzg46_1;clear hzg46_2;clear hzg98_0;clear hzg98_1;clear hzg98_2;obtain ⟨hzg46_0,hzg46_1,hzg46_2,-⟩:=ybc Bg46.out;skip)
  | (refine goesL_ (some 116) rfl rfl Try.func29 (by kernel_rfl) rfl #[.agg #[.int .i64 t36,.slice A39 t73.length c40,.slice A43 t74.length c44],.int .i64 1] rfl (by (try simp only [List.map_toArray,List.map_cons,List.map_nil]);first|done|rfl|(rw [Lt73.out,Lt74.out];rfl)) ?_;(with_reducible refine (laws_heldPuzzle.calls k t36 _ _ t73 _ _ t74 1 t102 _ (Kd.R_reads' O38.out).2.2 (by rw [Lt73.out];exact (Kd.R_reads' O38.out).2.1) (Kd.R_reads' (Kd.S_R O42.out)).2.2 (by rw [Lt74.out];exact (Kd.R_reads' (Kd.S_R O42.out)).2.1) E101.out).mono ?_);rintro e w28_ ⟨rfl,hb⟩;refine ⟨_,rfl,?_⟩;clear O38;clear O42;clear Bg46;have Zw28_:=yam hb.size;replace HB:=yam (below_step HB.out hb);clear hb;clear hzg46_0;clear hzg46_1;clear hzg46_2;skip))
 go_ret
 exact ⟨rfl,HB.out⟩
end Go.Proofs.Ytmjbnghhfadapaa.P
