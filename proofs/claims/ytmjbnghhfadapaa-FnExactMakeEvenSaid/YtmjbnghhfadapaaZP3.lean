/- The machine's side: each Go function as a plain Lean function and the proof that the machine's call does what that function says; written by this session's own program over the kit's print. -/
import Derived.Test.YtmjbnghhfadapaaZP1
import Derived.Test.YtmjbnghhfadapaaZP2
namespace Go.Proofs.Ytmjbnghhfadapaa.P
set_option maxHeartbeats 8000000
set_option maxRecDepth 100000
open Go.RowKit Go.Proofs.YtmjbnghhfadapaaW.PrintWords Go.Proofs.YtmjbnghhfadapaaW.PrintLast Go.Proofs.YtmjbnghhfadapaaW.PrintMore
attribute [local go_sem] max2_int min2_int max_two min_two max_three min_three max_four min_four   -- for this text's walks alone
set_option linter.unusedVariables false
set_option linter.unusedSimpArgs false
mutual
def spec_l4Ways.l0:Nat→List Int→List Int→Int→Int→Option (List Int)
 | 0,_,_,_,_=>none
 | k + 1,x2,x3,x8,x9=>if x9 < x8 then (if 0≤x9 then (if x9 < (x3.length:Int) then (if x9 < (x2.length:Int) then (if 0≤(rd x2 x9) then (spec_l4Ways.l0 k x2 (x3.set (x9:Int).toNat (Go.bits .or .i64 (rd x3 x9) (shl .i64 1 (rd x2 x9)))) x8 (wrap64 (x9 + 1))) else (none)) else (none)) else (none)) else (none)) else (some x3)
def spec_l4Ways.l1:Nat→List Int→List Int→List Int→List Int→Int→Int→List Int→Int→Option (List Int)
 | 0,_,_,_,_,_,_,_,_=>none
 | k + 1,x1,x2,x3,x10,x11,x356000,x356001,x356002=>if x11 < (x10.length:Int) then ((some (([]:List Int):List Int)).bind fun y365=>(if y365.length + x2.length < 17592186044416 then ((some (y365 ++ x2:List Int)).bind fun y368=>(if 0≤x11 then ((some (([rd x10 x11]:List Int):List Int)).bind fun y372=>(if y368.length + y372.length < 17592186044416 then ((spec_l4Ways.f k x356000 x356001 x356002 x1 (y368 ++ y372) x3).bind fun t378=>(spec_l4Ways.l1 k x1 x2 t378 x10 (wrap64 (x11 + 1)) x356000 x356001 x356002)) else (none))) else (none))) else (none))) else (some x3)
def spec_l4Ways.f:Nat→Int→List Int→Int→List Int→List Int→List Int→Option (List Int)
 | 0,_,_,_,_,_,_=>none
 | k + 1,a0_0,l0_1,a0_2,l1,l2,l3=>if (l2.length:Int)=(l0_1.length:Int) then ((spec_l4Holds.f k a0_0 l0_1 a0_2 l2).bind fun t356=>(if t356=true then (spec_l4Ways.l0 k l2 l3 (l2.length:Int) 0) else (some l3))) else (if 0≤(l2.length:Int) then (if (l2.length:Int) < (l0_1.length:Int) then (if 0≤(rd l0_1 (l2.length:Int)) then (if (rd l0_1 (l2.length:Int)) < (l1.length:Int) then ((spec_MaskValues.f k (rd l1 (rd l0_1 (l2.length:Int)))).bind fun t362=>(spec_l4Ways.l1 k l1 l2 l3 t362 0 a0_0 l0_1 a0_2)) else (none)) else (none)) else (none)) else (none))
end
def spec_l4Ways.T7:Bool × List (List Nat × List Nat):=(true,[([],[]),([],[]),([],[]),([],[]),([2,3],[2,3]),([4],[4]),([],[]),([],[]),([6,7],[6,7]),([8],[8]),([9],[9]),([5,10],[5,10]),([0,1,0,1,2,3,4,5,6,7,8,9,10,11],[0,1]),([12,11,0,1,2,3,4,5,6,7,8,9,10,11],[11,12])])
def spec_l4Ways.B7:List Nat:=[0,0,0,0,12,28,0,0,192,448,960,2044,4095,8191]
theorem spec_l4Ways.tab7:rtab .any (opsOf Try.f98 7)=spec_l4Ways.T7:=by kernel_rfl
theorem spec_l4Ways.bits7:waitsOk spec_l4Ways.T7.2 spec_l4Ways.B7=true:=by kernel_rfl
def spec_l4Ways.T12:Bool × List (List Nat × List Nat):=(true,[([],[]),([],[]),([],[]),([],[]),([2,3],[2,3]),([],[]),([],[]),([5,6],[5,6]),([7],[7]),([8],[8]),([4,9,4],[4,9]),([],[]),([0,1,10,11,10],[0,1,10,11])])
def spec_l4Ways.B12:List Nat:=[0,0,0,0,12,0,0,96,224,480,1020,0,4095]
theorem spec_l4Ways.tab12:rtab .any (opsOf Try.f98 12)=spec_l4Ways.T12:=by kernel_rfl
theorem spec_l4Ways.bits12:waitsOk spec_l4Ways.T12.2 spec_l4Ways.B12=true:=by kernel_rfl
theorem spec_l4Ways.calls (k:Nat):∀ (a0_0:Int) (A0_1:Option Addr) (c0_1:Nat) (l0_1:List Int) (a0_2:Int) (A1:Option Addr) (c1:Nat) (l1:List Int) (A2:Option Addr) (c2:Nat) (l2:List Int) (P3_:Nat→Prop) (u9000_:Value) (l3:List Int) (r:List Int) (w0 w:World) (hB:Below w0.heap.size w0 w) (hr0_1:∀ W_,Kept w W_ (fun k_=>P3_ k_)→Kd.C (Kd.int .i64) W_ A0_1 l0_1.length l0_1) (hc0_1:l0_1.length≤c0_1) (hr1:∀ W_,Kept w W_ (fun k_=>P3_ k_)→Kd.C (Kd.int .i64) W_ A1 l1.length l1) (hc1:l1.length≤c1) (hr2:∀ W_,Kept w W_ (fun k_=>P3_ k_)→Kd.C (Kd.int .i64) W_ A2 l2.length l2) (hc2:l2.length≤c2) (ho3:Kd.R (Kd.int .i64) 3 w w0.heap.size P3_ u9000_ l3) (h:spec_l4Ways.f k a0_0 l0_1 a0_2 l1 l2 l3=some r),
  Calls Try.prog 98 #[.agg #[.int .i64 a0_0,.slice A0_1 l0_1.length c0_1,.int .i64 a0_2],.slice A1 l1.length c1,.slice A2 l2.length c2,u9000_] w fun e w'=>e= .returned (.tuple #[])∧Kd.R (Kd.int .i64) 3 w' w0.heap.size (fun k_=>(P3_ k_∨w.heap.size≤k_)) u9000_ r∧Below w0.heap.size w0 w'∧Kept w w' (fun k_=>P3_ k_):=by
 induction k using Nat.strongRecOn with
 | _ k ih =>
 intro a0_0 A0_1 c0_1 l0_1 a0_2 A1 c1 l1 A2 c2 l2 P3_ u9000_ l3 r w0 w hB hr0_1 hc0_1 hr1 hc1 hr2 hc2 ho3 h
 cases k with
 | zero=>exact absurd h (by simp [spec_l4Ways.f])
 | succ k =>
 simp only [spec_l4Ways.f] at h
 have hu73:=Try.underlying73
 have HR0_1:=yam hr0_1
 have HC0_1:=yam hc0_1
 clear hr0_1 hc0_1
 have HR1:=yam hr1
 have HC1:=yam hc1
 clear hr1 hc1
 have HR2:=yam hr2
 have HC2:=yam hc2
 clear hr2 hc2
 have HO3:=yam (show Kd.R (Kd.int .i64) 3 w w0.heap.size (fun k_=>(P3_ k_∨w.heap.size≤k_)) u9000_ l3 from Kd.R_mono ho3 (fun k_ hk=>(.inl hk)))
 have HK:=yam (Kept.refl w (fun k_=>P3_ k_))
 have HW0:=yam hB.size
 have HB:=yam hB
 clear hB
 have H:=h
 clear h
 replace H:=yit H;obtain ⟨c5,H⟩ | ⟨c5,H⟩:=H
 ·have c5b0:((l2.length:Int) == (l0_1.length:Int))=true:=beq_iff_eq.mpr c5
  have c5b1:((l2.length:Int) != (l0_1.length:Int))=false:=bne_eq_false_iff_eq.mpr c5
  have c5b2:(l2.length == l0_1.length)=true:=by first|simpa using c5|(simp at c5 ⊢;omega)
  clear c5
  replace H:=ybi H;obtain ⟨t356,A6,H⟩:=H
  try dsimp only at H
  cases t356
  ·replace H:=yff H
   obtain rfl:=ysi H
   go_enter Try.func98,Try.ntmps98
   go_wp2_with (first|(refine ybe 4 #[.int .i64 a0_0,.slice A0_1 l0_1.length c0_1,.int .i64 a0_2] 73 ?_;intro gb355 hg w21 hbox hb;replace HO3:=yam (Kd.R_below (Kd.Yz HO3.out) hb);have BK355:=yam (hbox);have GW355:=yam ((by rw [hg];exact (by first|exact HK.out.1|exact (show Kept w _ (fun k_=>P3_ k_) from by repeat (first|(with_reducible first|exact HK.out|apply Kept.alloc|apply Kept.drewN|apply Kept.drew)|exact HK.out)).1):w.heap.size≤gb355));replace HK:=yam (Kept.below (S:=(fun k_=>P3_ k_)) (by repeat (first|(with_reducible first|exact HK.out|apply Kept.alloc|apply Kept.drewN|apply Kept.drew)|exact HK.out)) hb);have GE355:=yam ((by rw [hg];exact (below_size (yez HB.out)):w0.heap.size≤gb355));replace HB:=yam (below_step (yez HB.out) hb);clear hb hbox hg;obtain ⟨hcz22_0,hcz22_1,hcz22_2,hfz22_0,hfz22_1,hfz22_2⟩:=ybc BK355.out)|(refine goesL_ (some 21) rfl rfl Try.func99 (by kernel_rfl) rfl #[.agg #[.int .i64 a0_0,.slice A0_1 l0_1.length c0_1,.int .i64 a0_2],.slice A2 l2.length c2] rfl ymd ?_;(with_reducible refine (spec_l4Holds.calls k a0_0 _ _ l0_1 a0_2 _ _ l2 false _ ?_ ?_ ?_ ?_ A6.out).mono ?_);exact Kd.C_kept_now HR0_1.out (by repeat (first|(with_reducible first|exact HK.out|apply Kept.alloc|apply Kept.drewN|apply Kept.drew|refine Kept.setCell ?_ (.inr GW355.out) _)|exact HK.out));exact HC0_1.out;exact Kd.C_kept_now HR2.out (by repeat (first|(with_reducible first|exact HK.out|apply Kept.alloc|apply Kept.drewN|apply Kept.drew|refine Kept.setCell ?_ (.inr GW355.out) _)|exact HK.out));exact HC2.out;rintro e w23 ⟨rfl,hb⟩;refine ⟨_,rfl,?_⟩;replace HO3:=yam (Kd.R_below (Kd.Yz HO3.out) hb);replace BK355:=yam (ybb BK355.out hb);replace HK:=yam (Kept.below (S:=(fun k_=>P3_ k_)) (by repeat (first|(with_reducible first|exact HK.out|apply Kept.alloc|apply Kept.drewN|apply Kept.drew|refine Kept.setCell ?_ (.inr GW355.out) _)|exact HK.out)) hb);replace HB:=yam (below_step yhb hb);(try clear hb)))
   first|go_end0|((try simp only [Exit.inBlock,Exit.then]);refine bodyPost_ret (results_none rfl _ _ _) rfl ?_)
   exact ⟨yer,yka HO3.out,yhb,by repeat (first|(with_reducible first|exact HK.out|apply Kept.alloc|apply Kept.drewN|apply Kept.drew|refine Kept.setCell ?_ (.inr GW355.out) _)|exact HK.out)⟩
  replace H:=ytt H
  replace H:=yam H
  go_enter Try.func98,Try.ntmps98
  go_wp2_with (first|(refine ybe 4 #[.int .i64 a0_0,.slice A0_1 l0_1.length c0_1,.int .i64 a0_2] 73 ?_;intro gb355 hg w8 hbox hb;replace HO3:=yam (Kd.R_below (Kd.Yz HO3.out) hb);have BK355:=yam (hbox);have GW355:=yam ((by rw [hg];exact (by first|exact HK.out.1|exact (show Kept w _ (fun k_=>P3_ k_) from by repeat (first|(with_reducible first|exact HK.out|apply Kept.alloc|apply Kept.drewN|apply Kept.drew)|exact HK.out)).1):w.heap.size≤gb355));replace HK:=yam (Kept.below (S:=(fun k_=>P3_ k_)) (by repeat (first|(with_reducible first|exact HK.out|apply Kept.alloc|apply Kept.drewN|apply Kept.drew)|exact HK.out)) hb);have GE355:=yam ((by rw [hg];exact (below_size (yez HB.out)):w0.heap.size≤gb355));replace HB:=yam (below_step (yez HB.out) hb);clear hb hbox hg;obtain ⟨hcz9_0,hcz9_1,hcz9_2,hfz9_0,hfz9_1,hfz9_2⟩:=ybc BK355.out)|(refine goesL_ (some 21) rfl rfl Try.func99 (by kernel_rfl) rfl #[.agg #[.int .i64 a0_0,.slice A0_1 l0_1.length c0_1,.int .i64 a0_2],.slice A2 l2.length c2] rfl ymd ?_;(with_reducible refine (spec_l4Holds.calls k a0_0 _ _ l0_1 a0_2 _ _ l2 true _ ?_ ?_ ?_ ?_ A6.out).mono ?_);exact Kd.C_kept_now HR0_1.out (by repeat (first|(with_reducible first|exact HK.out|apply Kept.alloc|apply Kept.drewN|apply Kept.drew|refine Kept.setCell ?_ (.inr GW355.out) _)|exact HK.out));exact HC0_1.out;exact Kd.C_kept_now HR2.out (by repeat (first|(with_reducible first|exact HK.out|apply Kept.alloc|apply Kept.drewN|apply Kept.drew|refine Kept.setCell ?_ (.inr GW355.out) _)|exact HK.out));exact HC2.out;rintro e w10 ⟨rfl,hb⟩;refine ⟨_,rfl,?_⟩;replace HO3:=yam (Kd.R_below (Kd.Yz HO3.out) hb);replace BK355:=yam (ybb BK355.out hb);replace HK:=yam (Kept.below (S:=(fun k_=>P3_ k_)) (by repeat (first|(with_reducible first|exact HK.out|apply Kept.alloc|apply Kept.drewN|apply Kept.drew|refine Kept.setCell ?_ (.inr GW355.out) _)|exact HK.out)) hb);replace HB:=yam (below_step yhb hb);(try clear hb)))
  go_loopg [9] k (fun kq v9 w'=>∃ (x3_1:List Int) (x9_1:Int),v9= .int .i64 x9_1∧Aside0 (spec_l4Ways.l0 kq l2 x3_1 (l2.length:Int) x9_1=some r)∧Aside0 (kq≤k)∧Aside0 (Kd.R (Kd.int .i64) 3 w' w0.heap.size (fun k_=>(P3_ k_∨w.heap.size≤k_)) u9000_ x3_1)∧Aside0 (w'.heap[gb355]?=some (.cells #[.int .i64 a0_0,(.slice A0_1 l0_1.length c0_1),.int .i64 a0_2] 73 (0,0)))∧Aside0 (Kept w w' (fun k_=>P3_ k_))∧Aside0 (Below w0.heap.size w0 w'))
  case atStart=>exact ⟨(l3),(0),yeq,H,⟨Nat.le_refl _⟩,⟨yka HO3.out⟩,⟨ybk BK355.out⟩,⟨by repeat (first|(with_reducible first|exact HK.out|apply Kept.alloc|apply Kept.drewN|apply Kept.drew|refine Kept.setCell ?_ (.inr GW355.out) _)|exact HK.out)⟩,⟨yhb⟩⟩
  case round =>
   clear H
   try clear c1
   try clear c2
   try clear c5b0
   try clear c5b1
   try clear c5b2
   try clear hcz9_0
   try clear hcz9_1
   try clear hcz9_2
   try clear hfz9_0
   try clear hfz9_1
   try clear hfz9_2
   obtain ⟨x3_1,x9_1,rfl,HA,HK1,HO_3,BK355,HK,HB⟩:=hrel
   rcases gk with _|k1
   ·exact absurd HA.out (by simp [spec_l4Ways.l0])
   obtain ⟨H⟩:=HA
   simp only [spec_l4Ways.l0] at H
   replace H:=yis H;obtain ⟨c11b0,H⟩ | ⟨c11b0,H⟩:=H
   rotate_left
   ·obtain rfl:=ysi H
    go_wp2
    first|go_end0|((try simp only [Exit.inBlock,Exit.then]);refine bodyPost_ret (results_none rfl _ _ _) rfl ?_)
    exact ⟨yer,yka HO_3.out,yhb,by repeat (first|(with_reducible first|exact HK.out|apply Kept.alloc|apply Kept.drewN|apply Kept.drew|refine Kept.setCell ?_ (.inr GW355.out) _)|exact HK.out)⟩
   replace H:=yif H;obtain ⟨c12b0,H⟩:=H
   replace H:=yif H;obtain ⟨c13b0,H⟩:=H
   replace H:=yif H;obtain ⟨c14b0,H⟩:=H
   replace H:=yig H;obtain ⟨c15,H⟩:=H
   have c15b0:=eq_true c15
   have c15b1:decide (0≤(rd l2 x9_1))=true:=decide_eq_true c15
   clear c15
   obtain ⟨ji16,hji16⟩:∃ j_:Int,(shl .i64 1 (rd l2 x9_1))=j_:=⟨_,rfl⟩
   replace H:(spec_l4Ways.l0 k1 l2 (x3_1.set (x9_1:Int).toNat (Go.bits .or .i64 (rd x3_1 x9_1) (ji16))) (l2.length:Int) (wrap64 (x9_1 + 1)))=some r:=by first|(rw [hji16] at H;exact H)|(simp only [hji16] at H ⊢;exact H)
   have hji16_:(IntKind.i64.wrap (1 * 2 ^ min (rd l2 x9_1).toNat 64))=ji16:=hji16
   have hji16z:(rd l2 x9_1)≤64→(IntKind.i64.wrap (1 * 2 ^ (rd l2 x9_1).toNat))=ji16:=shl_small hji16
   have hji16u:(IntKind.i64.wrap (2 ^ min (rd l2 x9_1).toNat 64))=ji16:=by have h_:=hji16_;rw [Int.one_mul] at h_;exact h_
   have hji16v:(rd l2 x9_1)≤64→(IntKind.i64.wrap (2 ^ (rd l2 x9_1).toNat))=ji16:=fun hle_=>by have h_:=hji16z hle_;rw [Int.one_mul] at h_;exact h_
   have hji16y:(wrap64 (1 * 2 ^ min (rd l2 x9_1).toNat 64))=ji16:=(i64_w _).symm.trans hji16_
   have hji16x:(rd l2 x9_1)≤64→(wrap64 (1 * 2 ^ (rd l2 x9_1).toNat))=ji16:=fun h_=>(i64_w _).symm.trans (hji16z h_)
   obtain ⟨y359,Ny359⟩:∃ y_:List Int,Aside0 (y_=(x3_1.set (x9_1:Int).toNat (Go.bits .or .i64 (rd x3_1 x9_1) (ji16)))):=⟨_,⟨rfl⟩⟩
   replace H:(spec_l4Ways.l0 k1 l2 y359 (l2.length:Int) (wrap64 (x9_1 + 1)))=some r:=yhn Ny359.out H
   replace H:=yam H
   try go_wp2
   replace HO_3:=yam (Kd.Yd HO_3.out)
   replace BK355:=yam (ybd BK355.out)
   replace HK:=yam (Kept.drew HK.out)
   replace HB:=yam (yed HB.out)
   obtain ⟨Ao19,co19,eo19⟩:=Kd.R_slice HO_3.out
   (first|subst eo19|(injection eo19 with f1_ f2_ f3_;have f4_:=f1_.symm;have f5_:=f3_.symm;clear f1_ f2_ f3_;subst f4_;subst f5_))
   obtain ⟨ad357,e357,hx357_0,p357,q357⟩:=yat (Kd.Yr HO_3.out).2.2 x9_1
   cases e357
   obtain ⟨ad358,e358,hx358_0,p358,q358⟩:=yat (Kd.C_kept_now HR2.out HK.out) x9_1
   have hw358_0:=hx358_0
   cases e358
   have p17:0≤(x9_1:Int):=ydt
   have q17:(x9_1:Int) < ((x3_1.length:Int):Int):=ydt
   obtain ⟨go17,co17,eo17,gb17,gl17,cl17,HG17⟩:=Kd.R_form HO_3.out (by omega)
   (first|cases eo17|(injection eo17 with ea_ en_ ec_;(first|subst ea_|(injection ea_ with ea_;subst ea_));subst ec_;clear en_))
   have GB17:=yam gb17
   have GG17:=yam HG17
   clear gb17 gl17 HG17
   have HMgo17:=yam (show (P3_ go17∨w.heap.size≤go17) from (HO_3.out.1 _ rfl))
   (first|simp only [add_plain] at hx357_0|skip)
   obtain ⟨hx17_0,hf17_0⟩:=Kd.R_celln 0 HO_3.out (x9_1:Int) p17 q17
   replace p17:=eq_true p17
   replace q17:=eq_true q17
   have HP20:=Kd.R_putn HO_3.out (x9_1:Int) (Go.bits .or .i64 (rd x3_1 x9_1) (ji16))
   rw [← Ny359.out] at HP20
   have HQ20:=yam HP20
   clear HP20
   refine start_ (n:=14) (S:=fun w'=>w'.cell? ⟨go17,(x9_1).toNat,none⟩=some (.int .i64 (rd x3_1 x9_1))∧w'.cell? (ad358.add (x9_1).toNat)=some (.int .i64 (rd l2 x9_1))) (ds:=[13]) (yvb 14 0) (by kernel_rfl) rfl rfl ⟨hx357_0,(Kd.foot_int (HR2.out _ (by repeat (first|exact HK.out|apply Kept.alloc|apply Kept.drewN|apply Kept.drew|refine Kept.setCell ?_ HMgo17.out _))) x9_1 (of_eq_true p358) (of_eq_true q358))⟩ (fun hHeld=>?_);refine with_tabW spec_l4Ways.tab7 spec_l4Ways.bits7 (fun HT_ HW_=>?_)
   generalize wr.drew=w18 at HO_3 BK355 HK HB GG17 HQ20 hf17_0 hx17_0 hx357_0 hx358_0 hHeld ⊢
   refine yvp 0 27 (yvb 14 1) HT_.out ?_
   refine yvp 1 28 (yvb 14 3) HT_.out ?_
   refine yvp 2 29 (yvb 14 7) HT_.out ?_
   refine yvp 3 30 (yvb 14 15) HT_.out ?_
   refine yvp 4 31 (yvb 14 31) HT_.out ?_
   refine yvp 6 33 (yvb 14 95) HT_.out ?_
   refine yvp 7 34 (yvb 14 223) HT_.out ?_
   refine yvp 8 35 (yvb 14 479) HT_.out ?_
   refine yvt 5 32 (yvb 14 511) HT_.out HW_.out hHeld ?_
   refine yvt 9 36 (yvb 14 1023) HT_.out HW_.out hHeld ?_
   refine yvp 10 37 (yvb 14 2047) HT_.out ?_
   refine yvp 11 38 (yvb 14 4095) HT_.out ?_
   refine yvp 12 39 (yvb 14 8191) HT_.out ?_
   refine last_ (i:=13) (N:=none) (yvb 14 16383) rfl rfl (one_of HT_.out (by kernel_rfl)) (by decide) (fun K hK=>?_)
   refine skip_ (w1:=?_) (by rfl) rfl ?_ ?_
   rotate_left
   ·go_simp
    rfl
   refine hK.out _ _ ?_
   clear hK K
   refine done_ (done_of HT_.out (by kernel_rfl)) ?_
   try go_wp2
   go_roundg k1
   case measure=>have:=HK1.out;omega
   case rel=>exact ⟨(y359),(wrap64 (x9_1 + 1)),yeq,H,⟨by have:=HK1.out;omega⟩,⟨yka HQ20.out⟩,⟨by (with_reducible repeat (first|refine ybn ?_ _|refine ybd ?_|refine yba ?_ _));refine blk_far ?_ (by have h_:=Kd.R_ne HO_3.out BK355.out (by decide);intro e_;exact h_ (by rw [e_];rfl)) _;(with_reducible repeat (first|refine ybn ?_ _|refine ybd ?_|refine yba ?_ _));exact BK355.out⟩,⟨by repeat (first|(with_reducible first|exact HK.out|apply Kept.alloc|apply Kept.drewN|apply Kept.drew|refine Kept.setCell ?_ HMgo17.out _|refine Kept.setCell ?_ (.inr GW355.out) _)|exact HK.out)⟩,⟨yhb⟩⟩
 have c5b0:((l2.length:Int) == (l0_1.length:Int))=false:=beq_eq_false_iff_ne.mpr c5
 have c5b1:((l2.length:Int) != (l0_1.length:Int))=true:=bne_iff_ne.mpr c5
 have c5b2:(l2.length == l0_1.length)=false:=by first|simpa using c5|(simp at c5 ⊢;omega)
 replace H:=yit H;obtain ⟨c24,H⟩ | ⟨c24,H⟩:=H
 rotate_left
 ·exact absurd H (by simp)
 have c24b0:decide (0≤(l2.length:Int))=true:=decide_eq_true c24
 have c24b1:decide (0≤l2.length)=true:=decide_eq_true (by omega)
 clear c24
 replace H:=yig H;obtain ⟨c25,H⟩:=H
 have c25b0:decide ((l2.length:Int) < (l0_1.length:Int))=true:=decide_eq_true c25
 have c25b1:decide (l2.length < l0_1.length)=true:=decide_eq_true (Int.ofNat_lt.mp c25)
 clear c25
 replace H:=yif H;obtain ⟨c26b0,H⟩:=H
 replace H:=yif H;obtain ⟨c27b0,H⟩:=H
 replace H:=ybi H;obtain ⟨t362,A28,H⟩:=H
 try dsimp only at H
 replace H:=yam H
 go_enter Try.func98,Try.ntmps98
 go_wp2_with (first|(refine ybe 4 #[.int .i64 a0_0,.slice A0_1 l0_1.length c0_1,.int .i64 a0_2] 73 ?_;intro gb355 hg w29 hbox hb;replace HO3:=yam (Kd.R_below (Kd.Yz HO3.out) hb);have BK355:=yam (hbox);have GW355:=yam ((by rw [hg];exact (by first|exact HK.out.1|exact (show Kept w _ (fun k_=>P3_ k_) from by repeat (first|(with_reducible first|exact HK.out|apply Kept.alloc|apply Kept.drewN|apply Kept.drew)|exact HK.out)).1):w.heap.size≤gb355));replace HK:=yam (Kept.below (S:=(fun k_=>P3_ k_)) (by repeat (first|(with_reducible first|exact HK.out|apply Kept.alloc|apply Kept.drewN|apply Kept.drew)|exact HK.out)) hb);have GE355:=yam ((by rw [hg];exact (below_size (yez HB.out)):w0.heap.size≤gb355));replace HB:=yam (below_step (yez HB.out) hb);clear hb hbox hg;obtain ⟨hcz30_0,hcz30_1,hcz30_2,hfz30_0,hfz30_1,hfz30_2⟩:=ybc BK355.out;have p360:0≤((l2.length:Int):Int):=ydt;have q360:(l2.length:Int) < (l0_1.length:Int):=ydt;obtain ⟨ad360,e360,hx360_0⟩:=Kd.at_int (Kd.C_kept_now HR0_1.out HK.out) (l2.length:Int) p360 q360;cases e360;(try simp only [Go.IntWalk.toNatUp] at hx360_0);replace p360:=eq_true p360;replace q360:=eq_true q360;have p361:0≤((rd l0_1 (l2.length:Int)):Int):=ydt;have q361:(rd l0_1 (l2.length:Int)) < (l1.length:Int):=ydt;obtain ⟨ad361,e361,hx361_0⟩:=Kd.at_int (Kd.C_kept_now HR1.out HK.out) (rd l0_1 (l2.length:Int)) p361 q361;cases e361;(try simp only [Go.IntWalk.toNatUp] at hx361_0);replace p361:=eq_true p361;replace q361:=eq_true q361)|(refine goesL_ (some 48) rfl rfl Try.func100 (by kernel_rfl) rfl #[.int .i64 (rd l1 (rd l0_1 (l2.length:Int)))] rfl ymd ?_;(with_reducible refine (spec_MaskValues.calls k (rd l1 (rd l0_1 (l2.length:Int))) t362 _ A28.out).mono ?_);rintro e w31 ⟨v363,rfl,ho0,hb⟩;refine ⟨_,rfl,?_⟩;have HO364:=yam (Kd.R_lower (Kd.Yw (Kd.R_newM (M:=fun k_=>(P3_ k_∨w.heap.size≤k_)) ho0 (by first|exact HK.out.1|exact (show Kept w _ (fun k_=>P3_ k_) from by repeat (first|(with_reducible first|exact HK.out|apply Kept.alloc|apply Kept.drewN|apply Kept.drew|refine Kept.setCell ?_ (.inr GW355.out) _)|exact HK.out)).1) (fun k_ h_=> .inr h_)) (Kd.R_lt (Kd.Yz HO3.out))) (below_size yhb));replace HO3:=yam (Kd.Ye (Kd.Yz HO3.out) (Kd.Yb ho0) hb);replace BK355:=yam (ybb BK355.out hb);replace HK:=yam (Kept.below (S:=(fun k_=>P3_ k_)) (by repeat (first|(with_reducible first|exact HK.out|apply Kept.alloc|apply Kept.drewN|apply Kept.drew|refine Kept.setCell ?_ (.inr GW355.out) _)|exact HK.out)) hb);replace HB:=yam (below_step yhb hb);(try clear hb);(try clear ho0)))
 go_loopg [11] k (fun kq v11 w'=>∃ (x3_1:List Int) (x11_1:Int),v11= .int .i64 x11_1∧Aside0 (spec_l4Ways.l1 kq l1 l2 x3_1 t362 x11_1 a0_0 l0_1 a0_2=some r)∧Aside0 (kq≤k)∧Aside0 (Kd.R (Kd.int .i64) 3 w' w0.heap.size (fun k_=>(P3_ k_∨w.heap.size≤k_)∧some k_≠(v363:Value).ownBlock) u9000_ x3_1)∧Aside0 (Kd.R (Kd.int .i64) 3 w' w0.heap.size (fun k_=>(P3_ k_∨w.heap.size≤k_)∧some k_≠(u9000_:Value).ownBlock) v363 t362)∧Aside0 (w'.heap[gb355]?=some (.cells #[.int .i64 a0_0,(.slice (some ad360) l0_1.length c0_1),.int .i64 a0_2] 73 (0,0)))∧Aside0 (Kept w w' (fun k_=>P3_ k_))∧Aside0 (Below w0.heap.size w0 w'))
 case atStart=>exact ⟨(l3),(0),yeq,H,⟨Nat.le_refl _⟩,⟨yka HO3.out⟩,⟨by (with_reducible repeat (first|apply Kd.Ya|apply Kd.Yn|apply Kd.Yd));exact Kd.R_mono HO364.out (fun _ hk=>⟨hk.1.1,hk.2⟩)⟩,⟨ybk BK355.out⟩,⟨by repeat (first|(with_reducible first|exact HK.out|apply Kept.alloc|apply Kept.drewN|apply Kept.drew|refine Kept.setCell ?_ (.inr GW355.out) _)|exact HK.out)⟩,⟨yhb⟩⟩
 case round =>
  clear H
  try clear c1
  try clear c2
  try clear c5
  try clear c5b0
  try clear c5b1
  try clear c5b2
  try clear c24b0
  try clear c24b1
  try clear c25b0
  try clear c25b1
  try clear c26b0
  try clear c27b0
  try clear hcz30_0
  try clear hcz30_1
  try clear hcz30_2
  try clear hfz30_0
  try clear hfz30_1
  try clear hfz30_2
  try clear hx360_0
  try clear hx361_0
  try clear p360
  try clear p361
  try clear q360
  try clear q361
  obtain ⟨x3_1,x11_1,rfl,HA,HK1,HO_3,HO_10,BK355,HK,HB⟩:=hrel
  rcases gk with _|k1
  ·exact absurd HA.out (by simp [spec_l4Ways.l1])
  obtain ⟨H⟩:=HA
  simp only [spec_l4Ways.l1] at H
  replace H:=yis H;obtain ⟨c32b0,H⟩ | ⟨c32b0,H⟩:=H
  rotate_left
  ·obtain rfl:=ysi H
   obtain ⟨Ao50,co50,eo50⟩:=Kd.R_slice HO_10.out
   subst eo50
   go_wp2
   first|go_end0|((try simp only [Exit.inBlock,Exit.then]);refine bodyPost_ret (results_none rfl _ _ _) rfl ?_)
   exact ⟨yer,by (with_reducible repeat (first|apply Kd.Ya|apply Kd.Yn|apply Kd.Yd));exact Kd.R_mono HO_3.out (fun _ hk=>hk.1),yhb,by repeat (first|(with_reducible first|exact HK.out|apply Kept.alloc|apply Kept.drewN|apply Kept.drew|refine Kept.setCell ?_ (.inr GW355.out) _)|exact HK.out)⟩
  obtain ⟨y365,Ny365⟩:∃ y_:List Int,Aside0 (y_=(([]:List Int))):=⟨_,⟨rfl⟩⟩
  replace H:(if y365.length + l2.length < 17592186044416 then ((some (y365 ++ l2:List Int)).bind fun y368=>(if 0≤x11_1 then ((some (([rd t362 x11_1]:List Int):List Int)).bind fun y372=>(if y368.length + y372.length < 17592186044416 then ((spec_l4Ways.f k1 a0_0 l0_1 a0_2 l1 (y368 ++ y372) x3_1).bind fun t378=>(spec_l4Ways.l1 k1 l1 l2 t378 t362 (wrap64 (x11_1 + 1)) a0_0 l0_1 a0_2)) else (none))) else (none))) else (none))=some r:=yhn Ny365.out H
  replace H:=yig H;obtain ⟨c33,H⟩:=H
  have LMc33:=yam c33
  clear c33
  obtain ⟨y368,Ny368⟩:∃ y_:List Int,Aside0 (y_=(y365 ++ l2)):=⟨_,⟨rfl⟩⟩
  replace H:(if 0≤x11_1 then ((some (([rd t362 x11_1]:List Int):List Int)).bind fun y372=>(if y368.length + y372.length < 17592186044416 then ((spec_l4Ways.f k1 a0_0 l0_1 a0_2 l1 (y368 ++ y372) x3_1).bind fun t378=>(spec_l4Ways.l1 k1 l1 l2 t378 t362 (wrap64 (x11_1 + 1)) a0_0 l0_1 a0_2)) else (none))) else (none))=some r:=yhn Ny368.out H
  replace H:=yif H;obtain ⟨c34b0,H⟩:=H
  obtain ⟨y372,Ny372⟩:∃ y_:List Int,Aside0 (y_=(([rd t362 x11_1]:List Int))):=⟨_,⟨rfl⟩⟩
  replace H:(if y368.length + y372.length < 17592186044416 then ((spec_l4Ways.f k1 a0_0 l0_1 a0_2 l1 (y368 ++ y372) x3_1).bind fun t378=>(spec_l4Ways.l1 k1 l1 l2 t378 t362 (wrap64 (x11_1 + 1)) a0_0 l0_1 a0_2)) else (none))=some r:=yhn Ny372.out H
  replace H:=yig H;obtain ⟨c35,H⟩:=H
  have LMc35:=yam c35
  clear c35
  obtain ⟨y375,Ny375⟩:∃ y_:List Int,Aside0 (y_=(y368 ++ y372)):=⟨_,⟨rfl⟩⟩
  replace H:((spec_l4Ways.f k1 a0_0 l0_1 a0_2 l1 y375 x3_1).bind fun t378=>(spec_l4Ways.l1 k1 l1 l2 t378 t362 (wrap64 (x11_1 + 1)) a0_0 l0_1 a0_2))=some r:=yhn Ny375.out H
  replace H:=ybi H;obtain ⟨t378,A36,H⟩:=H
  try dsimp only at H
  replace H:=yam H
  obtain ⟨Ao37,co37,eo37⟩:=Kd.R_slice HO_10.out
  subst eo37
  obtain ⟨Ao38,co38,eo38⟩:=Kd.R_slice HO_3.out
  subst eo38
  try go_wp2
  replace HO_3:=yam (Kd.Yd HO_3.out)
  replace HO_10:=yam (Kd.Yd HO_10.out)
  replace BK355:=yam (ybd BK355.out)
  replace HK:=yam (Kept.drew HK.out)
  replace HB:=yam (yed HB.out)
  obtain ⟨ad371,e371,hx371_0,p371,q371⟩:=yat (Kd.Yr HO_10.out).2.2 x11_1
  cases e371
  refine start_ (n:=13) (S:=fun w'=>w'.cell? ⟨gb355,0,none⟩=some (.int .i64 a0_0)∧w'.cell? ⟨gb355,1,none⟩=some (.slice (some ad360) l0_1.length c0_1)∧w'.cell? ⟨gb355,2,none⟩=some (.int .i64 a0_2)∧w'.cell? (ad371.add (x11_1).toNat)=some (.int .i64 (rd t362 x11_1))) (ds:=[]) (yvb 13 0) (by kernel_rfl) rfl rfl ⟨(blk_cell BK355.out 0).trans rfl,(blk_cell BK355.out 1).trans rfl,(blk_cell BK355.out 2).trans rfl,hx371_0⟩ (fun hHeld=>?_);refine with_tabW spec_l4Ways.tab12 spec_l4Ways.bits12 (fun HT_ HW_=>?_)
  generalize wr.drew=w39 at HO_3 HO_10 BK355 HK HB hx371_0 hHeld ⊢
  refine yvp 1 56 (yvb 13 2) HT_.out ?_
  refine yvp 3 58 (yvb 13 10) HT_.out ?_
  refine yvp 5 60 (yvb 13 42) HT_.out ?_
  refine yvp 6 61 (yvb 13 106) HT_.out ?_
  refine yvp 7 62 (yvb 13 234) HT_.out ?_
  refine yvp 11 66 (yvb 13 2282) HT_.out ?_
  refine yvt 0 55 (yvb 13 2283) HT_.out HW_.out hHeld ?_
  refine yvt 8 63 (yvb 13 2539) HT_.out HW_.out hHeld ?_
  refine join_ (σ:=Value × Value × Value) 2 (yvb 13 3071) (fun s_=>[(57,s_.1),(59,s_.2.1),(64,s_.2.2)]) (fun s_ w'=>(w'.cell? ⟨gb355,0,none⟩=some (.int .i64 a0_0)∧w'.cell? ⟨gb355,1,none⟩=some (.slice (some ad360) l0_1.length c0_1)∧w'.cell? ⟨gb355,2,none⟩=some (.int .i64 a0_2)∧w'.cell? (ad371.add (x11_1).toNat)=some (.int .i64 (rd t362 x11_1)))∧(Kd.R (Kd.int .i64) 3 w' w0.heap.size (fun k_=>(P3_ k_∨w.heap.size≤k_)∧some k_≠(s_.2.2:Value).ownBlock∧some k_≠(.slice (some ad371) t362.length co37:Value).ownBlock∧some k_≠(.slice Ao38 x3_1.length co38:Value).ownBlock) s_.2.1 y368)∧(Kd.R (Kd.int .i64) 3 w' w0.heap.size (fun k_=>(P3_ k_∨w.heap.size≤k_)∧some k_≠(s_.2.1:Value).ownBlock∧some k_≠(.slice (some ad371) t362.length co37:Value).ownBlock∧some k_≠(.slice Ao38 x3_1.length co38:Value).ownBlock) s_.2.2 y372)∧(Kd.R (Kd.int .i64) 3 w' w0.heap.size (fun k_=>(P3_ k_∨w.heap.size≤k_)∧some k_≠(s_.2.1:Value).ownBlock∧some k_≠(s_.2.2:Value).ownBlock∧some k_≠(.slice Ao38 x3_1.length co38:Value).ownBlock) (.slice (some ad371) t362.length co37) t362)∧(Kd.R (Kd.int .i64) 3 w' w0.heap.size (fun k_=>(P3_ k_∨w.heap.size≤k_)∧some k_≠(s_.2.1:Value).ownBlock∧some k_≠(s_.2.2:Value).ownBlock∧some k_≠(.slice (some ad371) t362.length co37:Value).ownBlock) (.slice Ao38 x3_1.length co38) x3_1)∧(w'.heap[gb355]?=some (.cells #[.int .i64 a0_0,.slice (some ad360) l0_1.length c0_1,.int .i64 a0_2] 73 (0,0)))∧(Kept w w' (fun k_=>P3_ k_))∧(Below w0.heap.size w0 w')) ?_ ?_
  rotate_left
  ·intro hCont
   refine two_ (i:=2) (j:=9) (Ni:=some 57) (Nj:=some 64) (yvb 13 2543) (yvb 13 3051) rfl rfl rfl rfl (two_of HT_.out (by kernel_rfl)) (by decide) (by decide) (fun K hK=>?_) (fun K hK=>?_)
   ·skip
    refine Kd.R_lit_step (Kd.int .i64) _ 3 ?hg (N:=57) ?hd (xs:=([]:List Int)) (inner:=[]) (ok:=fun _=>True) (okp:=fun _=>True) ?hr ?hp (fun _ hk=>hk) trivial (Below.refl _ _) (Nat.le_refl _) (by simp) ?_;(case hd=>rfl);(case hg=>rfl);(case hr=>first|(go_simp;done)|(go_simp;rfl));(case hp=>exact (Reps.none _ _))
    intro v366 w40 ho41 hb hg_ hnew_
    have HS3_:=(hb.cell (World.block_lt_of_cell? _ _ (hHeld.2.2.2))).trans (hHeld.2.2.2)
    clear hg_ hnew_
    (first|rw [← Ny365.out] at ho41|(simp only [Int.reduceToNat] at ho41;rw [← Ny365.out] at ho41))
    have HO367:=yam (Kd.R_lower (Kd.Yw (Kd.Yw (Kd.R_newM (M:=fun k_=>(P3_ k_∨w.heap.size≤k_)) ho41 (by first|exact HK.out.1|exact (show Kept w _ (fun k_=>P3_ k_) from by repeat (first|(with_reducible first|exact HK.out|apply Kept.alloc|apply Kept.drewN|apply Kept.drew|refine Kept.setCell ?_ (.inr GW355.out) _)|exact HK.out)).1) (fun k_ h_=> .inr h_)) (Kd.R_lt (Kd.Yz HO_3.out))) (Kd.R_lt (Kd.Yz HO_10.out))) (below_size yhb))
    replace HO_3:=yam (Kd.Ye (Kd.Yz HO_3.out) (Kd.Yb ho41) hb)
    replace HO_10:=yam (Kd.Ye (Kd.Yz HO_10.out) (Kd.Yb ho41) hb)
    replace BK355:=yam (ybb BK355.out hb)
    replace HK:=yam (Kept.below (S:=(fun k_=>P3_ k_)) (by repeat (first|(with_reducible first|exact HK.out|apply Kept.alloc|apply Kept.drewN|apply Kept.drew|refine Kept.setCell ?_ (.inr GW355.out) _)|exact HK.out)) hb)
    replace HB:=yam (below_step yhb hb)
    clear hb ho41
    refine hK.out _ _ ⟨(blk_cell BK355.out 0).trans rfl,(blk_cell BK355.out 1).trans rfl,(blk_cell BK355.out 2).trans rfl,HS3_⟩ (fun hHeld=>?_)
    clear hK K
    refine norm_ (a':=?_) ?_ ?_
    rotate_left
    ·show Act.put _ (some 57) _=_
     simp only [Act.put,yps,i64_w,i32_w]
     rfl
    refine two_ (i:=4) (j:=9) (Ni:=some 59) (Nj:=some 64) (yvb 13 2559) (yvb 13 3055) rfl rfl rfl rfl (two_of HT_.out (by kernel_rfl)) (by decide) (by decide) (fun K hK=>?_) (fun K hK=>?_)
    ·skip
     refine Kd.R_append_rows_step (Kd.int .i64) (w0:=w0) w0.heap.size (by rfl) (.tmp 57) (.tmp 58) 22 3 (.int .i64 0) 8 rfl Try.underlying22 info3 rfl (by decide) (by omega) v366 y365 l2 _ _ _ (fun k_=>(P3_ k_∨w.heap.size≤k_)∧some k_≠(.slice Ao38 x3_1.length co38:Value).ownBlock∧some k_≠(.slice (some ad371) t362.length co37:Value).ownBlock) (fun _=>False) rfl rfl ?aO ?aR (fun _ _ h=>h) (fun _ h=>h.elim) ?aF ?aB ?aS ?aL ?_
     (case aR=>exact Kd.C_kept_now HR2.out (by repeat (first|(with_reducible first|exact HK.out|apply Kept.alloc|apply Kept.drewN|apply Kept.drew|refine Kept.setCell ?_ (.inr GW355.out) _)|exact HK.out)))
     (case aB=>exact yhb)
     (case aF=>exact (fun k_ hk=>⟨(.inr (Nat.le_trans (by first|exact HK.out.1|exact (show Kept w _ (fun k_=>P3_ k_) from by repeat (first|(with_reducible first|exact HK.out|apply Kept.alloc|apply Kept.drewN|apply Kept.drew|refine Kept.setCell ?_ (.inr GW355.out) _)|exact HK.out)).1) hk)),Kd.fresh' (Kd.R_lt (Kd.Yz HO_3.out)) k_ hk,Kd.fresh' (Kd.R_lt (Kd.Yz HO_10.out)) k_ hk⟩))
     (case aO=>exact (by (with_reducible repeat (first|apply Kd.Ya|apply Kd.Yn|apply Kd.Yd));exact Kd.R_mono HO367.out (fun _ hk=>⟨hk.1.1.1,⟨hk.1.2,hk.2⟩⟩)))
     (case aS=>exact (below_size yhb))
     (case aL=>have:=LMc33.out;omega)
     intro v369 w42 ho hb hg hat
     have HS3_:=cell_grown hg (hHeld.2.2.2) (by first|(rw [add_block];exact (fun e_=>(by have h_:=HO367.out.1 _ e_.symm;simp [Value.ownBlock] at h_)))|(show some (Addr.add _ _).block≠_;rw [add_block];exact (fun e_=>(by have h_:=HO367.out.1 _ e_.symm;simp [Value.ownBlock] at h_)))|exact (fun e_=>(by have h_:=HO367.out.1 _ e_.symm;simp [Value.ownBlock] at h_)))
     rw [← Ny368.out] at ho
     replace HO_3:=yam (Kd.R_after (ok:=(fun k_=>(P3_ k_∨w.heap.size≤k_)∧some k_≠(.slice (some ad371) t362.length co37:Value).ownBlock)) (Kd.Yz HO_3.out) hg hat)
     replace HO_10:=yam (Kd.R_after (ok:=(fun k_=>(P3_ k_∨w.heap.size≤k_)∧some k_≠(.slice Ao38 x3_1.length co38:Value).ownBlock)) (Kd.Yz HO_10.out) hg hat)
     replace BK355:=yam (blk_grown (g:=gb355) (o:= .cells #[.int .i64 a0_0,.slice (some ad360) l0_1.length c0_1,.int .i64 a0_2] 73 (0,0)) (ybz BK355.out) hg (Kd.R_ne HO367.out BK355.out (by decide)))
     replace HB:=yam (hb)
     replace HK:=yam (Kept.of_grown (S:=(fun k_=>P3_ k_)) hg (by repeat (first|(with_reducible first|exact HK.out|apply Kept.alloc|apply Kept.drewN|apply Kept.drew|refine Kept.setCell ?_ (.inr GW355.out) _)|exact HK.out)) (fun k_ e_=>(HO367.out.1 k_ e_).1.1.1))
     have HO370:=yam (ho)
     clear HO367
     clear ho hb hg hat
     refine hK.out _ _ ⟨(blk_cell BK355.out 0).trans rfl,(blk_cell BK355.out 1).trans rfl,(blk_cell BK355.out 2).trans rfl,HS3_⟩ (fun hHeld=>?_)
     clear hK K
     refine norm_ (a':=?_) ?_ ?_
     rotate_left
     ·show Act.put _ (some 59) _=_
      simp only [Act.put,yps,i64_w,i32_w]
      rfl
     refine one_ (i:=9) (N:=some 64) (yvb 13 3071) rfl rfl (one_of HT_.out (by kernel_rfl)) (by decide) (fun K hK=>?_)
     refine Kd.R_lit_step (Kd.int .i64) _ 3 ?hg (N:=64) ?hd (xs:=([rd t362 x11_1]:List Int)) (inner:=[.int .i64 (rd t362 x11_1)]) (ok:=fun _=>True) (okp:=fun _=>True) ?hr ?hp (fun _ hk=>hk) trivial (Below.refl _ _) (Nat.le_refl _) (by simp) ?_;(case hd=>rfl);(case hg=>rfl);(case hr=>first|(go_simp;done)|(go_simp;rfl));(case hp=>exact (Reps.one (show Kd.M (Kd.int .i64) _ _ _ (rd t362 x11_1) [.int .i64 (rd t362 x11_1)] from rfl) (Reps.none _ _)))
     intro v373 w43 ho44 hb hg_ hnew_
     have HS3_:=(hb.cell (World.block_lt_of_cell? _ _ (hHeld.2.2.2))).trans (hHeld.2.2.2)
     clear hg_ hnew_
     (first|rw [← Ny372.out] at ho44|(simp only [Int.reduceToNat] at ho44;rw [← Ny372.out] at ho44))
     have HO374:=yam (Kd.R_lower (Kd.Yw (Kd.Yw (Kd.Yw (Kd.R_newM (M:=fun k_=>(P3_ k_∨w.heap.size≤k_)) ho44 (by first|exact HK.out.1|exact (show Kept w _ (fun k_=>P3_ k_) from by repeat (first|(with_reducible first|exact HK.out|apply Kept.alloc|apply Kept.drewN|apply Kept.drew|refine Kept.setCell ?_ (.inr GW355.out) _)|exact HK.out)).1) (fun k_ h_=> .inr h_)) (Kd.R_lt (Kd.Yz HO_3.out))) (Kd.R_lt (Kd.Yz HO_10.out))) (Kd.R_lt (Kd.Yz HO370.out))) (below_size yhb))
     replace HO_3:=yam (Kd.Ye (Kd.Yz HO_3.out) (Kd.Yb ho44) hb)
     replace HO_10:=yam (Kd.Ye (Kd.Yz HO_10.out) (Kd.Yb ho44) hb)
     replace HO370:=yam (Kd.Ye (Kd.Yz HO370.out) (Kd.Yb ho44) hb)
     replace BK355:=yam (ybb BK355.out hb)
     replace HK:=yam (Kept.below (S:=(fun k_=>P3_ k_)) (by repeat (first|(with_reducible first|exact HK.out|apply Kept.alloc|apply Kept.drewN|apply Kept.drew|refine Kept.setCell ?_ (.inr GW355.out) _)|exact HK.out)) hb)
     replace HB:=yam (below_step yhb hb)
     clear hb ho44
     refine hK.out _ _ ⟨(blk_cell BK355.out 0).trans rfl,(blk_cell BK355.out 1).trans rfl,(blk_cell BK355.out 2).trans rfl,HS3_⟩ (fun hHeld=>?_)
     clear hK K
     refine norm_ (a':=?_) ?_ ?_
     rotate_left
     ·show Act.put _ (some 64) _=_
      simp only [Act.put,yps,i64_w,i32_w]
      rfl
     exact norm_ (by simp only [putAll,Act.put,yps]) (hCont (v366,v369,v373) _ ⟨hHeld,(by (with_reducible repeat (first|apply Kd.Ya|apply Kd.Yn|apply Kd.Yd));exact Kd.R_mono HO370.out (fun _ hk=>⟨hk.1.1,⟨hk.2,⟨hk.1.2.2,hk.1.2.1⟩⟩⟩)),(by (with_reducible repeat (first|apply Kd.Ya|apply Kd.Yn|apply Kd.Yd));exact Kd.R_mono HO374.out (fun _ hk=>⟨hk.1.1.1.1,⟨hk.2,⟨hk.1.2,hk.1.1.2⟩⟩⟩)),(by (with_reducible repeat (first|apply Kd.Ya|apply Kd.Yn|apply Kd.Yd));exact Kd.R_mono HO_10.out (fun _ hk=>⟨hk.1.1.1,⟨hk.1.2,⟨hk.2,hk.1.1.2⟩⟩⟩)),(by (with_reducible repeat (first|apply Kd.Ya|apply Kd.Yn|apply Kd.Yd));exact Kd.R_mono HO_3.out (fun _ hk=>⟨hk.1.1.1,⟨hk.1.2,⟨hk.2,hk.1.1.2⟩⟩⟩)),(ybz BK355.out),(by repeat (first|(with_reducible first|exact HK.out|apply Kept.alloc|apply Kept.drewN|apply Kept.drew|refine Kept.setCell ?_ (.inr GW355.out) _)|exact HK.out)),yhb⟩)
    ·skip
     refine Kd.R_lit_step (Kd.int .i64) _ 3 ?hg (N:=64) ?hd (xs:=([rd t362 x11_1]:List Int)) (inner:=[.int .i64 (rd t362 x11_1)]) (ok:=fun _=>True) (okp:=fun _=>True) ?hr ?hp (fun _ hk=>hk) trivial (Below.refl _ _) (Nat.le_refl _) (by simp) ?_;(case hd=>rfl);(case hg=>rfl);(case hr=>first|(go_simp;done)|(go_simp;rfl));(case hp=>exact (Reps.one (show Kd.M (Kd.int .i64) _ _ _ (rd t362 x11_1) [.int .i64 (rd t362 x11_1)] from rfl) (Reps.none _ _)))
     intro v373 w42 ho43 hb hg_ hnew_
     have HS3_:=(hb.cell (World.block_lt_of_cell? _ _ (hHeld.2.2.2))).trans (hHeld.2.2.2)
     clear hg_ hnew_
     (first|rw [← Ny372.out] at ho43|(simp only [Int.reduceToNat] at ho43;rw [← Ny372.out] at ho43))
     have HO374:=yam (Kd.R_lower (Kd.Yw (Kd.Yw (Kd.Yw (Kd.R_newM (M:=fun k_=>(P3_ k_∨w.heap.size≤k_)) ho43 (by first|exact HK.out.1|exact (show Kept w _ (fun k_=>P3_ k_) from by repeat (first|(with_reducible first|exact HK.out|apply Kept.alloc|apply Kept.drewN|apply Kept.drew|refine Kept.setCell ?_ (.inr GW355.out) _)|exact HK.out)).1) (fun k_ h_=> .inr h_)) (Kd.R_lt (Kd.Yz HO_3.out))) (Kd.R_lt (Kd.Yz HO_10.out))) (Kd.R_lt (Kd.Yz HO367.out))) (below_size yhb))
     replace HO_3:=yam (Kd.Ye (Kd.Yz HO_3.out) (Kd.Yb ho43) hb)
     replace HO_10:=yam (Kd.Ye (Kd.Yz HO_10.out) (Kd.Yb ho43) hb)
     replace HO367:=yam (Kd.Ye (Kd.Yz HO367.out) (Kd.Yb ho43) hb)
     replace BK355:=yam (ybb BK355.out hb)
     replace HK:=yam (Kept.below (S:=(fun k_=>P3_ k_)) (by repeat (first|(with_reducible first|exact HK.out|apply Kept.alloc|apply Kept.drewN|apply Kept.drew|refine Kept.setCell ?_ (.inr GW355.out) _)|exact HK.out)) hb)
     replace HB:=yam (below_step yhb hb)
     clear hb ho43
     refine hK.out _ _ ⟨(blk_cell BK355.out 0).trans rfl,(blk_cell BK355.out 1).trans rfl,(blk_cell BK355.out 2).trans rfl,HS3_⟩ (fun hHeld=>?_)
     clear hK K
     refine norm_ (a':=?_) ?_ ?_
     rotate_left
     ·show Act.put _ (some 64) _=_
      simp only [Act.put,yps,i64_w,i32_w]
      rfl
     refine one_ (i:=4) (N:=some 59) (yvb 13 3071) rfl rfl (one_of HT_.out (by kernel_rfl)) (by decide) (fun K hK=>?_)
     refine Kd.R_append_rows_step (Kd.int .i64) (w0:=w0) w0.heap.size (by rfl) (.tmp 57) (.tmp 58) 22 3 (.int .i64 0) 8 rfl Try.underlying22 info3 rfl (by decide) (by omega) v366 y365 l2 _ _ _ (fun k_=>(P3_ k_∨w.heap.size≤k_)∧some k_≠(.slice Ao38 x3_1.length co38:Value).ownBlock∧some k_≠(.slice (some ad371) t362.length co37:Value).ownBlock∧some k_≠(v373:Value).ownBlock) (fun _=>False) rfl rfl ?aO ?aR (fun _ _ h=>h) (fun _ h=>h.elim) ?aF ?aB ?aS ?aL ?_
     (case aR=>exact Kd.C_kept_now HR2.out (by repeat (first|(with_reducible first|exact HK.out|apply Kept.alloc|apply Kept.drewN|apply Kept.drew|refine Kept.setCell ?_ (.inr GW355.out) _)|exact HK.out)))
     (case aB=>exact yhb)
     (case aF=>exact (fun k_ hk=>⟨(.inr (Nat.le_trans (by first|exact HK.out.1|exact (show Kept w _ (fun k_=>P3_ k_) from by repeat (first|(with_reducible first|exact HK.out|apply Kept.alloc|apply Kept.drewN|apply Kept.drew|refine Kept.setCell ?_ (.inr GW355.out) _)|exact HK.out)).1) hk)),Kd.fresh' (Kd.R_lt (Kd.Yz HO_3.out)) k_ hk,Kd.fresh' (Kd.R_lt (Kd.Yz HO_10.out)) k_ hk,Kd.fresh' (Kd.R_lt (Kd.Yz HO374.out)) k_ hk⟩))
     (case aO=>exact (by (with_reducible repeat (first|apply Kd.Ya|apply Kd.Yn|apply Kd.Yd));exact Kd.R_mono HO367.out (fun _ hk=>⟨hk.1.1.1.1,⟨hk.1.1.2,⟨hk.1.2,hk.2⟩⟩⟩)))
     (case aS=>exact (below_size yhb))
     (case aL=>have:=LMc33.out;omega)
     intro v369 w44 ho hb hg hat
     have HS3_:=cell_grown hg (hHeld.2.2.2) (by first|(rw [add_block];exact (fun e_=>(by have h_:=HO367.out.1 _ e_.symm;simp [Value.ownBlock] at h_)))|(show some (Addr.add _ _).block≠_;rw [add_block];exact (fun e_=>(by have h_:=HO367.out.1 _ e_.symm;simp [Value.ownBlock] at h_)))|exact (fun e_=>(by have h_:=HO367.out.1 _ e_.symm;simp [Value.ownBlock] at h_)))
     rw [← Ny368.out] at ho
     replace HO_3:=yam (Kd.R_after (ok:=(fun k_=>(P3_ k_∨w.heap.size≤k_)∧some k_≠(.slice (some ad371) t362.length co37:Value).ownBlock∧some k_≠(v373:Value).ownBlock)) (by (with_reducible repeat (first|apply Kd.Ya|apply Kd.Yn|apply Kd.Yd));exact Kd.R_mono HO_3.out (fun _ hk=>⟨⟨hk.1.1.1,⟨hk.1.1.2,hk.2⟩⟩,hk.1.2⟩)) hg hat)
     replace HO_10:=yam (Kd.R_after (ok:=(fun k_=>(P3_ k_∨w.heap.size≤k_)∧some k_≠(.slice Ao38 x3_1.length co38:Value).ownBlock∧some k_≠(v373:Value).ownBlock)) (by (with_reducible repeat (first|apply Kd.Ya|apply Kd.Yn|apply Kd.Yd));exact Kd.R_mono HO_10.out (fun _ hk=>⟨⟨hk.1.1.1,⟨hk.1.1.2,hk.2⟩⟩,hk.1.2⟩)) hg hat)
     replace BK355:=yam (blk_grown (g:=gb355) (o:= .cells #[.int .i64 a0_0,.slice (some ad360) l0_1.length c0_1,.int .i64 a0_2] 73 (0,0)) (ybz BK355.out) hg (Kd.R_ne HO367.out BK355.out (by decide)))
     replace HO374:=yam (Kd.R_after (ok:=(fun k_=>(P3_ k_∨w.heap.size≤k_)∧some k_≠(.slice Ao38 x3_1.length co38:Value).ownBlock∧some k_≠(.slice (some ad371) t362.length co37:Value).ownBlock)) (by (with_reducible repeat (first|apply Kd.Ya|apply Kd.Yn|apply Kd.Yd));exact Kd.R_mono HO374.out (fun _ hk=>⟨⟨hk.1.1.1.1,⟨hk.1.1.2,hk.1.2⟩⟩,hk.2⟩)) hg hat)
     replace HB:=yam (hb)
     replace HK:=yam (Kept.of_grown (S:=(fun k_=>P3_ k_)) hg (by repeat (first|(with_reducible first|exact HK.out|apply Kept.alloc|apply Kept.drewN|apply Kept.drew|refine Kept.setCell ?_ (.inr GW355.out) _)|exact HK.out)) (fun k_ e_=>(HO367.out.1 k_ e_).1.1.1.1))
     have HO370:=yam (ho)
     clear HO367
     clear ho hb hg hat
     refine hK.out _ _ ⟨(blk_cell BK355.out 0).trans rfl,(blk_cell BK355.out 1).trans rfl,(blk_cell BK355.out 2).trans rfl,HS3_⟩ (fun hHeld=>?_)
     clear hK K
     refine norm_ (a':=?_) ?_ ?_
     rotate_left
     ·show Act.put _ (some 59) _=_
      simp only [Act.put,yps,i64_w,i32_w]
      rfl
     exact norm_ (by simp only [putAll,Act.put,yps]) (hCont (v366,v369,v373) _ ⟨hHeld,(by (with_reducible repeat (first|apply Kd.Ya|apply Kd.Yn|apply Kd.Yd));exact Kd.R_mono HO370.out (fun _ hk=>⟨hk.1,⟨hk.2.2.2,⟨hk.2.2.1,hk.2.1⟩⟩⟩)),(by (with_reducible repeat (first|apply Kd.Ya|apply Kd.Yn|apply Kd.Yd));exact Kd.R_mono HO374.out (fun _ hk=>⟨hk.1.1,⟨hk.2,⟨hk.1.2.2,hk.1.2.1⟩⟩⟩)),(by (with_reducible repeat (first|apply Kd.Ya|apply Kd.Yn|apply Kd.Yd));exact Kd.R_mono HO_10.out (fun _ hk=>⟨hk.1.1,⟨hk.2,⟨hk.1.2.2,hk.1.2.1⟩⟩⟩)),(by (with_reducible repeat (first|apply Kd.Ya|apply Kd.Yn|apply Kd.Yd));exact Kd.R_mono HO_3.out (fun _ hk=>⟨hk.1.1,⟨hk.2,⟨hk.1.2.2,hk.1.2.1⟩⟩⟩)),(ybz BK355.out),(by repeat (first|(with_reducible first|exact HK.out|apply Kept.alloc|apply Kept.drewN|apply Kept.drew|refine Kept.setCell ?_ (.inr GW355.out) _)|exact HK.out)),yhb⟩)
   ·skip
    refine Kd.R_lit_step (Kd.int .i64) _ 3 ?hg (N:=64) ?hd (xs:=([rd t362 x11_1]:List Int)) (inner:=[.int .i64 (rd t362 x11_1)]) (ok:=fun _=>True) (okp:=fun _=>True) ?hr ?hp (fun _ hk=>hk) trivial (Below.refl _ _) (Nat.le_refl _) (by simp) ?_;(case hd=>rfl);(case hg=>rfl);(case hr=>first|(go_simp;done)|(go_simp;rfl));(case hp=>exact (Reps.one (show Kd.M (Kd.int .i64) _ _ _ (rd t362 x11_1) [.int .i64 (rd t362 x11_1)] from rfl) (Reps.none _ _)))
    intro v373 w40 ho41 hb hg_ hnew_
    have HS3_:=(hb.cell (World.block_lt_of_cell? _ _ (hHeld.2.2.2))).trans (hHeld.2.2.2)
    clear hg_ hnew_
    (first|rw [← Ny372.out] at ho41|(simp only [Int.reduceToNat] at ho41;rw [← Ny372.out] at ho41))
    have HO374:=yam (Kd.R_lower (Kd.Yw (Kd.Yw (Kd.R_newM (M:=fun k_=>(P3_ k_∨w.heap.size≤k_)) ho41 (by first|exact HK.out.1|exact (show Kept w _ (fun k_=>P3_ k_) from by repeat (first|(with_reducible first|exact HK.out|apply Kept.alloc|apply Kept.drewN|apply Kept.drew|refine Kept.setCell ?_ (.inr GW355.out) _)|exact HK.out)).1) (fun k_ h_=> .inr h_)) (Kd.R_lt (Kd.Yz HO_3.out))) (Kd.R_lt (Kd.Yz HO_10.out))) (below_size yhb))
    replace HO_3:=yam (Kd.Ye (Kd.Yz HO_3.out) (Kd.Yb ho41) hb)
    replace HO_10:=yam (Kd.Ye (Kd.Yz HO_10.out) (Kd.Yb ho41) hb)
    replace BK355:=yam (ybb BK355.out hb)
    replace HK:=yam (Kept.below (S:=(fun k_=>P3_ k_)) (by repeat (first|(with_reducible first|exact HK.out|apply Kept.alloc|apply Kept.drewN|apply Kept.drew|refine Kept.setCell ?_ (.inr GW355.out) _)|exact HK.out)) hb)
    replace HB:=yam (below_step yhb hb)
    clear hb ho41
    refine hK.out _ _ ⟨(blk_cell BK355.out 0).trans rfl,(blk_cell BK355.out 1).trans rfl,(blk_cell BK355.out 2).trans rfl,HS3_⟩ (fun hHeld=>?_)
    clear hK K
    refine norm_ (a':=?_) ?_ ?_
    rotate_left
    ·show Act.put _ (some 64) _=_
     simp only [Act.put,yps,i64_w,i32_w]
     rfl
    refine one_ (i:=2) (N:=some 57) (yvb 13 3055) rfl rfl (one_of HT_.out (by kernel_rfl)) (by decide) (fun K hK=>?_)
    refine Kd.R_lit_step (Kd.int .i64) _ 3 ?hg (N:=57) ?hd (xs:=([]:List Int)) (inner:=[]) (ok:=fun _=>True) (okp:=fun _=>True) ?hr ?hp (fun _ hk=>hk) trivial (Below.refl _ _) (Nat.le_refl _) (by simp) ?_;(case hd=>rfl);(case hg=>rfl);(case hr=>first|(go_simp;done)|(go_simp;rfl));(case hp=>exact (Reps.none _ _))
    intro v366 w42 ho43 hb hg_ hnew_
    have HS3_:=(hb.cell (World.block_lt_of_cell? _ _ (hHeld.2.2.2))).trans (hHeld.2.2.2)
    clear hg_ hnew_
    (first|rw [← Ny365.out] at ho43|(simp only [Int.reduceToNat] at ho43;rw [← Ny365.out] at ho43))
    have HO367:=yam (Kd.R_lower (Kd.Yw (Kd.Yw (Kd.Yw (Kd.R_newM (M:=fun k_=>(P3_ k_∨w.heap.size≤k_)) ho43 (by first|exact HK.out.1|exact (show Kept w _ (fun k_=>P3_ k_) from by repeat (first|(with_reducible first|exact HK.out|apply Kept.alloc|apply Kept.drewN|apply Kept.drew|refine Kept.setCell ?_ (.inr GW355.out) _)|exact HK.out)).1) (fun k_ h_=> .inr h_)) (Kd.R_lt (Kd.Yz HO_3.out))) (Kd.R_lt (Kd.Yz HO_10.out))) (Kd.R_lt (Kd.Yz HO374.out))) (below_size yhb))
    replace HO_3:=yam (Kd.Ye (Kd.Yz HO_3.out) (Kd.Yb ho43) hb)
    replace HO_10:=yam (Kd.Ye (Kd.Yz HO_10.out) (Kd.Yb ho43) hb)
    replace HO374:=yam (Kd.Ye (Kd.Yz HO374.out) (Kd.Yb ho43) hb)
    replace BK355:=yam (ybb BK355.out hb)
    replace HK:=yam (Kept.below (S:=(fun k_=>P3_ k_)) (by repeat (first|(with_reducible first|exact HK.out|apply Kept.alloc|apply Kept.drewN|apply Kept.drew|refine Kept.setCell ?_ (.inr GW355.out) _)|exact HK.out)) hb)
    replace HB:=yam (below_step yhb hb)
    clear hb ho43
    refine hK.out _ _ ⟨(blk_cell BK355.out 0).trans rfl,(blk_cell BK355.out 1).trans rfl,(blk_cell BK355.out 2).trans rfl,HS3_⟩ (fun hHeld=>?_)
    clear hK K
    refine norm_ (a':=?_) ?_ ?_
    rotate_left
    ·show Act.put _ (some 57) _=_
     simp only [Act.put,yps,i64_w,i32_w]
     rfl
    refine one_ (i:=4) (N:=some 59) (yvb 13 3071) rfl rfl (one_of HT_.out (by kernel_rfl)) (by decide) (fun K hK=>?_)
    refine Kd.R_append_rows_step (Kd.int .i64) (w0:=w0) w0.heap.size (by rfl) (.tmp 57) (.tmp 58) 22 3 (.int .i64 0) 8 rfl Try.underlying22 info3 rfl (by decide) (by omega) v366 y365 l2 _ _ _ (fun k_=>(P3_ k_∨w.heap.size≤k_)∧some k_≠(.slice Ao38 x3_1.length co38:Value).ownBlock∧some k_≠(.slice (some ad371) t362.length co37:Value).ownBlock∧some k_≠(v373:Value).ownBlock) (fun _=>False) rfl rfl ?aO ?aR (fun _ _ h=>h) (fun _ h=>h.elim) ?aF ?aB ?aS ?aL ?_
    (case aR=>exact Kd.C_kept_now HR2.out (by repeat (first|(with_reducible first|exact HK.out|apply Kept.alloc|apply Kept.drewN|apply Kept.drew|refine Kept.setCell ?_ (.inr GW355.out) _)|exact HK.out)))
    (case aB=>exact yhb)
    (case aF=>exact (fun k_ hk=>⟨(.inr (Nat.le_trans (by first|exact HK.out.1|exact (show Kept w _ (fun k_=>P3_ k_) from by repeat (first|(with_reducible first|exact HK.out|apply Kept.alloc|apply Kept.drewN|apply Kept.drew|refine Kept.setCell ?_ (.inr GW355.out) _)|exact HK.out)).1) hk)),Kd.fresh' (Kd.R_lt (Kd.Yz HO_3.out)) k_ hk,Kd.fresh' (Kd.R_lt (Kd.Yz HO_10.out)) k_ hk,Kd.fresh' (Kd.R_lt (Kd.Yz HO374.out)) k_ hk⟩))
    (case aO=>exact (by (with_reducible repeat (first|apply Kd.Ya|apply Kd.Yn|apply Kd.Yd));exact Kd.R_mono HO367.out (fun _ hk=>⟨hk.1.1.1.1,⟨hk.1.1.2,⟨hk.1.2,hk.2⟩⟩⟩)))
    (case aS=>exact (below_size yhb))
    (case aL=>have:=LMc33.out;omega)
    intro v369 w44 ho hb hg hat
    have HS3_:=cell_grown hg (hHeld.2.2.2) (by first|(rw [add_block];exact (fun e_=>(by have h_:=HO367.out.1 _ e_.symm;simp [Value.ownBlock] at h_)))|(show some (Addr.add _ _).block≠_;rw [add_block];exact (fun e_=>(by have h_:=HO367.out.1 _ e_.symm;simp [Value.ownBlock] at h_)))|exact (fun e_=>(by have h_:=HO367.out.1 _ e_.symm;simp [Value.ownBlock] at h_)))
    rw [← Ny368.out] at ho
    replace HO_3:=yam (Kd.R_after (ok:=(fun k_=>(P3_ k_∨w.heap.size≤k_)∧some k_≠(.slice (some ad371) t362.length co37:Value).ownBlock∧some k_≠(v373:Value).ownBlock)) (by (with_reducible repeat (first|apply Kd.Ya|apply Kd.Yn|apply Kd.Yd));exact Kd.R_mono HO_3.out (fun _ hk=>⟨⟨hk.1.1.1,⟨hk.1.1.2,hk.1.2⟩⟩,hk.2⟩)) hg hat)
    replace HO_10:=yam (Kd.R_after (ok:=(fun k_=>(P3_ k_∨w.heap.size≤k_)∧some k_≠(.slice Ao38 x3_1.length co38:Value).ownBlock∧some k_≠(v373:Value).ownBlock)) (by (with_reducible repeat (first|apply Kd.Ya|apply Kd.Yn|apply Kd.Yd));exact Kd.R_mono HO_10.out (fun _ hk=>⟨⟨hk.1.1.1,⟨hk.1.1.2,hk.1.2⟩⟩,hk.2⟩)) hg hat)
    replace BK355:=yam (blk_grown (g:=gb355) (o:= .cells #[.int .i64 a0_0,.slice (some ad360) l0_1.length c0_1,.int .i64 a0_2] 73 (0,0)) (ybz BK355.out) hg (Kd.R_ne HO367.out BK355.out (by decide)))
    replace HO374:=yam (Kd.R_after (ok:=(fun k_=>(P3_ k_∨w.heap.size≤k_)∧some k_≠(.slice Ao38 x3_1.length co38:Value).ownBlock∧some k_≠(.slice (some ad371) t362.length co37:Value).ownBlock)) (by (with_reducible repeat (first|apply Kd.Ya|apply Kd.Yn|apply Kd.Yd));exact Kd.R_mono HO374.out (fun _ hk=>⟨⟨hk.1.1.1.1,⟨hk.1.1.2,hk.1.2⟩⟩,hk.2⟩)) hg hat)
    replace HB:=yam (hb)
    replace HK:=yam (Kept.of_grown (S:=(fun k_=>P3_ k_)) hg (by repeat (first|(with_reducible first|exact HK.out|apply Kept.alloc|apply Kept.drewN|apply Kept.drew|refine Kept.setCell ?_ (.inr GW355.out) _)|exact HK.out)) (fun k_ e_=>(HO367.out.1 k_ e_).1.1.1.1))
    have HO370:=yam (ho)
    clear HO367
    clear ho hb hg hat
    refine hK.out _ _ ⟨(blk_cell BK355.out 0).trans rfl,(blk_cell BK355.out 1).trans rfl,(blk_cell BK355.out 2).trans rfl,HS3_⟩ (fun hHeld=>?_)
    clear hK K
    refine norm_ (a':=?_) ?_ ?_
    rotate_left
    ·show Act.put _ (some 59) _=_
     simp only [Act.put,yps,i64_w,i32_w]
     rfl
    exact norm_ (by simp only [putAll,Act.put,yps]) (hCont (v366,v369,v373) _ ⟨hHeld,(by (with_reducible repeat (first|apply Kd.Ya|apply Kd.Yn|apply Kd.Yd));exact Kd.R_mono HO370.out (fun _ hk=>⟨hk.1,⟨hk.2.2.2,⟨hk.2.2.1,hk.2.1⟩⟩⟩)),(by (with_reducible repeat (first|apply Kd.Ya|apply Kd.Yn|apply Kd.Yd));exact Kd.R_mono HO374.out (fun _ hk=>⟨hk.1.1,⟨hk.2,⟨hk.1.2.2,hk.1.2.1⟩⟩⟩)),(by (with_reducible repeat (first|apply Kd.Ya|apply Kd.Yn|apply Kd.Yd));exact Kd.R_mono HO_10.out (fun _ hk=>⟨hk.1.1,⟨hk.2,⟨hk.1.2.2,hk.1.2.1⟩⟩⟩)),(by (with_reducible repeat (first|apply Kd.Ya|apply Kd.Yn|apply Kd.Yd));exact Kd.R_mono HO_3.out (fun _ hk=>⟨hk.1.1,⟨hk.2,⟨hk.1.2.2,hk.1.2.1⟩⟩⟩)),(ybz BK355.out),(by repeat (first|(with_reducible first|exact HK.out|apply Kept.alloc|apply Kept.drewN|apply Kept.drew|refine Kept.setCell ?_ (.inr GW355.out) _)|exact HK.out)),yhb⟩)
  rintro ⟨v366,v369,v373⟩ w45 ⟨hS_,h0_,h1_,h2_,h3_,h4_,h5_,h6_⟩
  have HO370:Aside0 (Kd.R (Kd.int .i64) 3 w45 w0.heap.size (fun k_=>(P3_ k_∨w.heap.size≤k_)∧some k_≠(v373:Value).ownBlock∧some k_≠(.slice (some ad371) t362.length co37:Value).ownBlock∧some k_≠(.slice Ao38 x3_1.length co38:Value).ownBlock) v369 y368):=⟨h0_⟩
  have HO374:Aside0 (Kd.R (Kd.int .i64) 3 w45 w0.heap.size (fun k_=>(P3_ k_∨w.heap.size≤k_)∧some k_≠(v369:Value).ownBlock∧some k_≠(.slice (some ad371) t362.length co37:Value).ownBlock∧some k_≠(.slice Ao38 x3_1.length co38:Value).ownBlock) v373 y372):=⟨h1_⟩
  replace HO_10:Aside0 (Kd.R (Kd.int .i64) 3 w45 w0.heap.size (fun k_=>(P3_ k_∨w.heap.size≤k_)∧some k_≠(v369:Value).ownBlock∧some k_≠(v373:Value).ownBlock∧some k_≠(.slice Ao38 x3_1.length co38:Value).ownBlock) (.slice (some ad371) t362.length co37) t362):=⟨h2_⟩
  replace HO_3:Aside0 (Kd.R (Kd.int .i64) 3 w45 w0.heap.size (fun k_=>(P3_ k_∨w.heap.size≤k_)∧some k_≠(v369:Value).ownBlock∧some k_≠(v373:Value).ownBlock∧some k_≠(.slice (some ad371) t362.length co37:Value).ownBlock) (.slice Ao38 x3_1.length co38) x3_1):=⟨h3_⟩
  replace BK355:Aside0 (w45.heap[gb355]?=some (.cells #[.int .i64 a0_0,.slice (some ad360) l0_1.length c0_1,.int .i64 a0_2] 73 (0,0))):=⟨h4_⟩
  replace HK:Aside0 (Kept w w45 (fun k_=>P3_ k_)):=⟨h5_⟩
  replace HB:Aside0 (Below w0.heap.size w0 w45):=⟨h6_⟩
  clear h0_ h1_ h2_ h3_ h4_ h5_ h6_
  have hHeld:w45.cell? ⟨gb355,0,none⟩=some (.int .i64 a0_0)∧w45.cell? ⟨gb355,1,none⟩=some (.slice (some ad360) l0_1.length c0_1)∧w45.cell? ⟨gb355,2,none⟩=some (.int .i64 a0_2)∧w45.cell? (ad371.add (x11_1).toNat)=some (.int .i64 (rd t362 x11_1)):=hS_
  obtain ⟨Ao47,co47,eo47⟩:=Kd.R_slice HO374.out
  (first|subst eo47|(injection eo47 with f1_ f2_ f3_;have f4_:=f1_.symm;have f5_:=f3_.symm;clear f1_ f2_ f3_;subst f4_;subst f5_))
  refine norm_ (a':=?_) ?_ ?_
  rotate_left
  ·simp only [putAll,Act.put,yps]
   rfl
  refine one_ (i:=10) (N:=some 65) (yvb 13 4095) rfl rfl (one_of HT_.out (by kernel_rfl)) (by decide) (fun K hK=>?_)
  refine Kd.R_append_rows_step (Kd.int .i64) (w0:=w0) w0.heap.size (by rfl) (.tmp 59) (.tmp 64) 22 3 (.int .i64 0) 8 rfl Try.underlying22 info3 rfl (by decide) (by omega) v369 y368 y372 _ _ _ (fun k_=>(P3_ k_∨w.heap.size≤k_)∧some k_≠(.slice Ao38 x3_1.length co38:Value).ownBlock∧some k_≠(.slice (some ad371) t362.length co37:Value).ownBlock∧some k_≠(.slice Ao47 y372.length co47:Value).ownBlock) (fun _=>False) rfl rfl ?aO ?aR (fun _ _ h=>h) (fun _ h=>h.elim) ?aF ?aB ?aS ?aL ?_
  (case aR=>repeat (first|exact (Kd.Yr HO374.out).2.2|(with_reducible refine Kd.C_alloc ?_ _)|(with_reducible refine Kd.C_drewN ?_ _)|(with_reducible refine Kd.C_drew ?_)))
  (case aB=>exact yhb)
  (case aF=>exact (fun k_ hk=>⟨(.inr (Nat.le_trans (by first|exact HK.out.1|exact (show Kept w _ (fun k_=>P3_ k_) from by repeat (first|(with_reducible first|exact HK.out|apply Kept.alloc|apply Kept.drewN|apply Kept.drew|refine Kept.setCell ?_ (.inr GW355.out) _)|exact HK.out)).1) hk)),Kd.fresh' (Kd.R_lt (Kd.Yz HO_3.out)) k_ hk,Kd.fresh' (Kd.R_lt (Kd.Yz HO_10.out)) k_ hk,Kd.fresh' (Kd.R_lt (Kd.Yz HO374.out)) k_ hk⟩))
  (case aO=>exact (by (with_reducible repeat (first|apply Kd.Ya|apply Kd.Yn|apply Kd.Yd));exact Kd.R_mono HO370.out (fun _ hk=>⟨hk.1,⟨hk.2.2.2,⟨hk.2.2.1,hk.2.1⟩⟩⟩)))
  (case aS=>exact (below_size yhb))
  (case aL=>have:=LMc35.out;omega)
  intro v376 w46 ho hb hg hat
  have HS3_:=cell_grown hg (hHeld.2.2.2) (by first|(rw [add_block];exact (fun e_=>(by have h_:=HO370.out.1 _ e_.symm;simp [Value.ownBlock] at h_)))|(show some (Addr.add _ _).block≠_;rw [add_block];exact (fun e_=>(by have h_:=HO370.out.1 _ e_.symm;simp [Value.ownBlock] at h_)))|exact (fun e_=>(by have h_:=HO370.out.1 _ e_.symm;simp [Value.ownBlock] at h_)))
  rw [← Ny375.out] at ho
  replace HO_3:=yam (Kd.R_after (ok:=(fun k_=>(P3_ k_∨w.heap.size≤k_)∧some k_≠(.slice (some ad371) t362.length co37:Value).ownBlock∧some k_≠(.slice Ao47 y372.length co47:Value).ownBlock)) (by (with_reducible repeat (first|apply Kd.Ya|apply Kd.Yn|apply Kd.Yd));exact Kd.R_mono HO_3.out (fun _ hk=>⟨⟨hk.1,⟨hk.2.2.2,hk.2.2.1⟩⟩,hk.2.1⟩)) hg hat)
  replace HO_10:=yam (Kd.R_after (ok:=(fun k_=>(P3_ k_∨w.heap.size≤k_)∧some k_≠(.slice Ao38 x3_1.length co38:Value).ownBlock∧some k_≠(.slice Ao47 y372.length co47:Value).ownBlock)) (by (with_reducible repeat (first|apply Kd.Ya|apply Kd.Yn|apply Kd.Yd));exact Kd.R_mono HO_10.out (fun _ hk=>⟨⟨hk.1,⟨hk.2.2.2,hk.2.2.1⟩⟩,hk.2.1⟩)) hg hat)
  replace BK355:=yam (blk_grown (g:=gb355) (o:= .cells #[.int .i64 a0_0,.slice (some ad360) l0_1.length c0_1,.int .i64 a0_2] 73 (0,0)) (ybz BK355.out) hg (Kd.R_ne HO370.out BK355.out (by decide)))
  replace HO374:=yam (Kd.R_after (ok:=(fun k_=>(P3_ k_∨w.heap.size≤k_)∧some k_≠(.slice Ao38 x3_1.length co38:Value).ownBlock∧some k_≠(.slice (some ad371) t362.length co37:Value).ownBlock)) (by (with_reducible repeat (first|apply Kd.Ya|apply Kd.Yn|apply Kd.Yd));exact Kd.R_mono HO374.out (fun _ hk=>⟨⟨hk.1,⟨hk.2.2.2,hk.2.2.1⟩⟩,hk.2.1⟩)) hg hat)
  replace HB:=yam (hb)
  replace HK:=yam (Kept.of_grown (S:=(fun k_=>P3_ k_)) hg (by repeat (first|(with_reducible first|exact HK.out|apply Kept.alloc|apply Kept.drewN|apply Kept.drew|refine Kept.setCell ?_ (.inr GW355.out) _)|exact HK.out)) (fun k_ e_=>(HO370.out.1 k_ e_).1))
  have HO377:=yam (ho)
  clear HO370
  clear ho hb hg hat
  obtain ⟨Ao48,co48,eo48⟩:=Kd.R_slice HO377.out
  (first|subst eo48|(injection eo48 with f1_ f2_ f3_;have f4_:=f1_.symm;have f5_:=f3_.symm;clear f1_ f2_ f3_;subst f4_;subst f5_))
  refine hK.out _ _ ⟨(blk_cell BK355.out 0).trans rfl,(blk_cell BK355.out 1).trans rfl,(blk_cell BK355.out 2).trans rfl,HS3_⟩ (fun hHeld=>?_)
  clear hK K
  refine norm_ (a':=?_) ?_ ?_
  rotate_left
  ·show Act.put _ (some 65) _=_
   simp only [Act.put,yps,i64_w,i32_w]
   rfl
  refine one_ (i:=12) (N:=some 67) (yvb 13 8191) rfl rfl (one_of HT_.out (by kernel_rfl)) (by decide) (fun K hK=>?_)
  refine goes_ Try.func98 (by kernel_rfl) rfl #[.agg #[.int .i64 a0_0,.slice (some ad360) l0_1.length c0_1,.int .i64 a0_2],.slice (some ad361) l1.length c1,.slice Ao48 y375.length co48,.slice Ao38 x3_1.length co38] (by rfl) rfl rfl ymd ?_
  with_reducible refine (ih k1 (by have:=HK1.out;omega) a0_0 _ _ l0_1 a0_2 _ _ l1 _ _ y375 (fun k_=>some k_=(.slice Ao38 x3_1.length co38:Value).ownBlock) (.slice Ao38 x3_1.length co38) x3_1 t378 w0 _ ?side1 ?side2 ?side3 ?side4 ?side5 ?side6 ?side7 ?side8 A36.out).mono ?_
  (case side1=>repeat (first|(with_reducible first|exact HB.out|apply yea|apply yen|apply yed|refine below_set ?_ GE355.out)|exact HB.out))
  (case side2=>exact Kd.C_kept_call HR0_1.out (by repeat (first|(with_reducible first|exact HK.out|apply Kept.alloc|apply Kept.drewN|apply Kept.drew|refine Kept.setCell ?_ (.inr GW355.out) _)|exact HK.out)) (fun k_ hs_=>(fun e_=>(HO_3.out.1 k_ e_.symm).1.1) hs_))
  (case side3=>exact HC0_1.out)
  (case side4=>exact Kd.C_kept_call HR1.out (by repeat (first|(with_reducible first|exact HK.out|apply Kept.alloc|apply Kept.drewN|apply Kept.drew|refine Kept.setCell ?_ (.inr GW355.out) _)|exact HK.out)) (fun k_ hs_=>(fun e_=>(HO_3.out.1 k_ e_.symm).1.1) hs_))
  (case side5=>exact HC1.out)
  (case side6=>exact Kd.C_kept_own (HO377.out) (fun k_ hk_ hs_=>(hk_.2.1) hs_))
  (case side7=>exact (Kd.Yr HO377.out).2.1)
  (case side8=>exact Kd.R_tight rfl HO_3.out)
  rintro e w49 ⟨rfl,hy0,hb,hkp⟩
  have HS3_:=cell_kept (hHeld.2.2.2) hkp (by first|(rw [add_block];exact (fun hs_=>(((HO_10.out).1 _ rfl).1.2.1) hs_))|(show ¬ _;simp only [add_block];exact (fun hs_=>(((HO_10.out).1 _ rfl).1.2.1) hs_))|exact (fun hs_=>(((HO_10.out).1 _ rfl).1.2.1) hs_))
  refine ⟨_,rfl,?_⟩
  replace HO_10:=yam (Kd.R_mono (ok':=fun k_=>(P3_ k_∨w.heap.size≤k_)∧some k_≠(.slice Ao38 x3_1.length co38:Value).ownBlock∧some k_≠(.slice Ao47 y372.length co47:Value).ownBlock∧some k_≠(.slice Ao48 y375.length co48:Value).ownBlock) (Kd.R_keptB (HO_10.out) hkp (fun k_ hk_ hs_=>(hk_.1.2.1) hs_)) (fun k_ hk_=>⟨hk_.1.1.1,hk_.1.1.2.1,hk_.1.1.2.2,hk_.1.2⟩))
  replace BK355:=yam (blk_kept (ybz BK355.out) hkp (fun hs_=>(fun e_=>(Kd.R_ne HO_3.out BK355.out (by decide)) e_) hs_))
  replace HO374:=yam (Kd.R_mono (ok':=fun k_=>(P3_ k_∨w.heap.size≤k_)∧some k_≠(.slice Ao38 x3_1.length co38:Value).ownBlock∧some k_≠(.slice (some ad371) t362.length co37:Value).ownBlock∧some k_≠(.slice Ao48 y375.length co48:Value).ownBlock) (Kd.R_keptB (HO374.out) hkp (fun k_ hk_ hs_=>(hk_.1.2.1) hs_)) (fun k_ hk_=>⟨hk_.1.1.1,hk_.1.1.2.1,hk_.1.1.2.2,hk_.1.2⟩))
  replace HO377:=yam (Kd.R_mono (ok':=fun k_=>(P3_ k_∨w.heap.size≤k_)∧some k_≠(.slice Ao38 x3_1.length co38:Value).ownBlock∧some k_≠(.slice (some ad371) t362.length co37:Value).ownBlock∧some k_≠(.slice Ao47 y372.length co47:Value).ownBlock) (Kd.R_keptB (HO377.out) hkp (fun k_ hk_ hs_=>(hk_.2.1) hs_)) (fun k_ hk_=>⟨hk_.1.1,hk_.1.2.1,hk_.1.2.2.1,hk_.1.2.2.2⟩))
  replace HK:=yam (Kept.then_ (S:=(fun k_=>P3_ k_)) (by repeat (first|(with_reducible first|exact HK.out|apply Kept.alloc|apply Kept.drewN|apply Kept.drew|refine Kept.setCell ?_ (.inr GW355.out) _)|exact HK.out)) hkp (fun k_ hs_=>(fun e_=>(HO_3.out.1 k_ e_.symm).1.1) hs_))
  replace HO_3:=yam (Kd.R_reok rfl hy0 (fun k_ e_=>HO_3.out.1 k_ e_))
  replace HB:=yam (hb)
  (try clear hb)
  (try clear hkp)
  (try clear hy0)
  refine hK.out _ _ ⟨(blk_cell BK355.out 0).trans rfl,(blk_cell BK355.out 1).trans rfl,(blk_cell BK355.out 2).trans rfl,HS3_⟩ (fun hHeld=>?_)
  clear hK K
  refine norm_ (a':=?_) ?_ ?_
  rotate_left
  ·show Act.put _ (some 67) _=_
   simp only [Act.put,yps,i64_w,i32_w]
   rfl
  refine done_ (done_of HT_.out (by kernel_rfl)) ?_
  try go_wp2
  go_roundg k1
  case measure=>have:=HK1.out;omega
  case rel=>exact ⟨(t378),(wrap64 (x11_1 + 1)),yeq,H,⟨by have:=HK1.out;omega⟩,⟨by (with_reducible repeat (first|apply Kd.Ya|apply Kd.Yn|apply Kd.Yd));exact Kd.R_mono HO_3.out (fun _ hk=>⟨hk.1.1,hk.1.2.1⟩)⟩,⟨by (with_reducible repeat (first|apply Kd.Ya|apply Kd.Yn|apply Kd.Yd));exact Kd.R_mono HO_10.out (fun _ hk=>⟨hk.1,hk.2.1⟩)⟩,⟨ybk BK355.out⟩,⟨by repeat (first|(with_reducible first|exact HK.out|apply Kept.alloc|apply Kept.drewN|apply Kept.drew|refine Kept.setCell ?_ (.inr GW355.out) _)|exact HK.out)⟩,⟨yhb⟩⟩
def spec_RuleMasks.f (k:Nat)(a0_0:Int)(l0_1:List Int)(a0_2:Int)(l1:List Int)(a2:Int):Option (List Int):=(spec_RuleValid.f k a0_0 l0_1 a0_2 a2).bind fun t380=>(if t380=true then ((spec_MasksValid.f k l1 a2).bind fun t381=>(if t381=true then (if 0≤(l0_1.length:Int) then (if ((l0_1.length:Int):Int).toNat≤35184372088832 then ((spec_l4Ways.f k a0_0 l0_1 a0_2 l1 (([]:List Int)) (List.replicate ((l0_1.length:Int):Int).toNat 0)).bind fun t388=>(some t388)) else (none)) else (none)) else (some (([]:List Int))))) else (some (([]:List Int))))
theorem spec_RuleMasks.calls (k:Nat)(a0_0:Int)(A0_1:Option Addr)(c0_1:Nat)(l0_1:List Int)(a0_2:Int)(A1:Option Addr)(c1:Nat)(l1:List Int)(a2:Int)(r:List Int)(w:World)(hr0_1:Kd.C (Kd.int .i64) w A0_1 l0_1.length l0_1)(hc0_1:l0_1.length≤c0_1)(hr1:Kd.C (Kd.int .i64) w A1 l1.length l1)(hc1:l1.length≤c1)(h:spec_RuleMasks.f k a0_0 l0_1 a0_2 l1 a2=some r) :
  Calls Try.prog 96 #[.agg #[.int .i64 a0_0,.slice A0_1 l0_1.length c0_1,.int .i64 a0_2],.slice A1 l1.length c1,.int .i64 a2] w fun e w'=>∃ v0_:Value,e= .returned (v0_)∧Kd.R (Kd.int .i64) 3 w' w.heap.size (fun _=>True) v0_ r∧Below w.heap.size w w':=by
 have hu73:=Try.underlying73
 have HR0_1:=yam hr0_1
 have HC0_1:=yam hc0_1
 clear hr0_1 hc0_1
 have HR1:=yam hr1
 have HC1:=yam hc1
 clear hr1 hc1
 have HB:=yam (Below.refl w.heap.size w)
 unfold spec_RuleMasks.f at h
 have H:=h
 clear h
 replace H:=ybi H;obtain ⟨t380,A4,H⟩:=H
 try dsimp only at H
 cases t380
 ·replace H:=yff H
  obtain ⟨y392,Ny392⟩:∃ y_:List Int,Aside0 (y_=(([]:List Int))):=⟨_,⟨rfl⟩⟩
  replace H:(some y392)=some r:=yhn Ny392.out H
  obtain rfl:=ysi H
  go_enter Try.func96,Try.ntmps96
  go_wp2_with (first|(refine ybe 3 #[.int .i64 a0_0,.slice A0_1 l0_1.length c0_1,.int .i64 a0_2] 73 ?_;intro gb379 hg w28 hbox hb;have BK379:=yam (hbox);have GW379:=yam ((by rw [hg];exact (below_size (yez HB.out)):w.heap.size≤gb379));replace HB:=yam (below_step (yez HB.out) hb);have GE379:=GW379;clear hb hbox hg;obtain ⟨hcz29_0,hcz29_1,hcz29_2,hfz29_0,hfz29_1,hfz29_2⟩:=ybc BK379.out)|(refine goesL_ (some 10) rfl rfl Try.func83 (by kernel_rfl) rfl #[.agg #[.int .i64 a0_0,.slice A0_1 l0_1.length c0_1,.int .i64 a0_2],.int .i64 a2] rfl ymd ?_;(with_reducible refine (spec_RuleValid.calls k a0_0 _ _ l0_1 a0_2 a2 false _ ?_ ?_ A4.out).mono ?_);exact Kd.Cz ((Kd.C_below HR0_1.out HB.out));exact HC0_1.out;rintro e w30 ⟨rfl,hb⟩;refine ⟨_,rfl,?_⟩;replace BK379:=yam (ybb BK379.out hb);replace HB:=yam (below_step yhb hb);(try clear hb))|((with_reducible refine gate_dst (N:=18) rfl ?_);refine Kd.R_lit (Kd.int .i64) _ 3 ?hg (N:=18) ?hd (xs:=([]:List Int)) (inner:=[]) (ok:=fun _=>True) (okp:=fun _=>True) ?hr ?hp (fun _ hk=>hk) trivial (Below.refl _ _) (Nat.le_refl _) (by simp) ?_;(case hd=>rfl);(case hg=>rfl);(case hr=>first|(go_simp;done)|(go_simp;rfl));(case hp=>exact (Reps.none _ _));intro v393 w31 ho32 hb hg_ hnew_;clear hg_ hnew_;(first|rw [← Ny392.out] at ho32|(simp only [Int.reduceToNat] at ho32;rw [← Ny392.out] at ho32));have HO394:=yam (Kd.R_lower ho32 (below_size yhb));replace BK379:=yam (ybb BK379.out hb);replace HB:=yam (below_step yhb hb);clear hb ho32))
  go_ret
  exact ⟨_,yer,yka HO394.out,yhb⟩
 replace H:=ytt H
 replace H:=ybi H;obtain ⟨t381,A6,H⟩:=H
 try dsimp only at H
 cases t381
 ·replace H:=yff H
  obtain ⟨y389,Ny389⟩:∃ y_:List Int,Aside0 (y_=(([]:List Int))):=⟨_,⟨rfl⟩⟩
  replace H:(some y389)=some r:=yhn Ny389.out H
  obtain rfl:=ysi H
  go_enter Try.func96,Try.ntmps96
  go_wp2_with (first|(refine ybe 3 #[.int .i64 a0_0,.slice A0_1 l0_1.length c0_1,.int .i64 a0_2] 73 ?_;intro gb379 hg w23 hbox hb;have BK379:=yam (hbox);have GW379:=yam ((by rw [hg];exact (below_size (yez HB.out)):w.heap.size≤gb379));replace HB:=yam (below_step (yez HB.out) hb);have GE379:=GW379;clear hb hbox hg;obtain ⟨hcz24_0,hcz24_1,hcz24_2,hfz24_0,hfz24_1,hfz24_2⟩:=ybc BK379.out)|(refine goesL_ (some 10) rfl rfl Try.func83 (by kernel_rfl) rfl #[.agg #[.int .i64 a0_0,.slice A0_1 l0_1.length c0_1,.int .i64 a0_2],.int .i64 a2] rfl ymd ?_;(with_reducible refine (spec_RuleValid.calls k a0_0 _ _ l0_1 a0_2 a2 true _ ?_ ?_ A4.out).mono ?_);exact Kd.Cz ((Kd.C_below HR0_1.out HB.out));exact HC0_1.out;rintro e w25 ⟨rfl,hb⟩;refine ⟨_,rfl,?_⟩;replace BK379:=yam (ybb BK379.out hb);replace HB:=yam (below_step yhb hb);(try clear hb))|(go_at_call 97;(with_reducible refine (spec_MasksValid.calls k _ _ l1 a2 false _ ?_ ?_ A6.out).mono ?_);exact Kd.Cz ((Kd.C_below HR1.out HB.out));exact HC1.out;rintro e w' ⟨rfl,⟨nd,rfl⟩⟩)|((with_reducible refine gate_dst (N:=18) rfl ?_);refine Kd.R_lit (Kd.int .i64) _ 3 ?hg (N:=18) ?hd (xs:=([]:List Int)) (inner:=[]) (ok:=fun _=>True) (okp:=fun _=>True) ?hr ?hp (fun _ hk=>hk) trivial (Below.refl _ _) (Nat.le_refl _) (by simp) ?_;(case hd=>rfl);(case hg=>rfl);(case hr=>first|(go_simp;done)|(go_simp;rfl));(case hp=>exact (Reps.none _ _));intro v390 w26 ho27 hb hg_ hnew_;clear hg_ hnew_;(first|rw [← Ny389.out] at ho27|(simp only [Int.reduceToNat] at ho27;rw [← Ny389.out] at ho27));have HO391:=yam (Kd.R_lower ho27 (below_size yhb));replace BK379:=yam (ybb BK379.out hb);replace HB:=yam (below_step yhb hb);clear hb ho27))
  go_ret
  exact ⟨_,yer,yka HO391.out,yhb⟩
 replace H:=ytt H
 replace H:=yig H;obtain ⟨c8,H⟩:=H
 have c8b0:=eq_true c8
 have c8b1:decide (0≤(l0_1.length:Int))=true:=decide_eq_true c8
 clear c8
 replace H:=yig H;obtain ⟨c9,H⟩:=H
 have c9b0:=eq_true c9
 have c9b1:decide (((l0_1.length:Int):Int).toNat≤35184372088832)=true:=decide_eq_true c9
 clear c9
 obtain ⟨y382,Ny382⟩:∃ y_:List Int,Aside0 (y_=(List.replicate ((l0_1.length:Int):Int).toNat 0)):=⟨_,⟨rfl⟩⟩
 replace H:((spec_l4Ways.f k a0_0 l0_1 a0_2 l1 (([]:List Int)) y382).bind fun t388=>(some t388))=some r:=yhn Ny382.out H
 obtain ⟨y385,Ny385⟩:∃ y_:List Int,Aside0 (y_=(([]:List Int))):=⟨_,⟨rfl⟩⟩
 replace H:((spec_l4Ways.f k a0_0 l0_1 a0_2 l1 y385 y382).bind fun t388=>(some t388))=some r:=yhn Ny385.out H
 replace H:=ybi H;obtain ⟨t388,A10,H⟩:=H
 try dsimp only at H
 obtain rfl:=ysi H
 go_enter Try.func96,Try.ntmps96
 go_wp2_with (first|(refine ybe 3 #[.int .i64 a0_0,.slice A0_1 l0_1.length c0_1,.int .i64 a0_2] 73 ?_;intro gb379 hg w11 hbox hb;have BK379:=yam (hbox);have GW379:=yam ((by rw [hg];exact (below_size (yez HB.out)):w.heap.size≤gb379));replace HB:=yam (below_step (yez HB.out) hb);have GE379:=GW379;clear hb hbox hg;obtain ⟨hcz12_0,hcz12_1,hcz12_2,hfz12_0,hfz12_1,hfz12_2⟩:=ybc BK379.out)|(refine goesL_ (some 10) rfl rfl Try.func83 (by kernel_rfl) rfl #[.agg #[.int .i64 a0_0,.slice A0_1 l0_1.length c0_1,.int .i64 a0_2],.int .i64 a2] rfl ymd ?_;(with_reducible refine (spec_RuleValid.calls k a0_0 _ _ l0_1 a0_2 a2 true _ ?_ ?_ A4.out).mono ?_);exact Kd.Cz ((Kd.C_below HR0_1.out HB.out));exact HC0_1.out;rintro e w13 ⟨rfl,hb⟩;refine ⟨_,rfl,?_⟩;replace BK379:=yam (ybb BK379.out hb);replace HB:=yam (below_step yhb hb);(try clear hb))|(go_at_call 97;(with_reducible refine (spec_MasksValid.calls k _ _ l1 a2 true _ ?_ ?_ A6.out).mono ?_);exact Kd.Cz ((Kd.C_below HR1.out HB.out));exact HC1.out;rintro e w' ⟨rfl,⟨nd,rfl⟩⟩;obtain ⟨hcz14_0,hcz14_1,hcz14_2,hfz14_0,hfz14_1,hfz14_2⟩:=ybc BK379.out)|((with_reducible refine gate_dst (N:=22) rfl ?_);refine Kd.R_make (Kd.int .i64) _ 3 rfl (N:=22) rfl 22 _ _ rfl (l0_1.length:Int) rfl rfl Try.underlying22 (.int .i64 0) 8 info3 rfl (by decide) (by omega) 0 (ok:=fun _=>True) (okp:=fun _=>True) rfl (fun _ hk=>hk) trivial (ydt) (Nat.le_trans (Nat.mul_le_mul_right _ (ydt:(l0_1.length:Int).toNat≤35184372088832)) (by omega)) (Below.refl _ _) (Nat.le_refl _) ?_;intro v383 w15 ho16 hb hg_ hnew_;clear hg_ hnew_;(first|rw [← Ny382.out] at ho16|(simp only [Int.reduceToNat] at ho16;rw [← Ny382.out] at ho16));have HO384:=yam (Kd.R_lower ho16 (below_size yhb));replace BK379:=yam (ybb BK379.out hb);replace HB:=yam (below_step yhb hb);clear hb ho16;obtain ⟨hcz17_0,hcz17_1,hcz17_2,hfz17_0,hfz17_1,hfz17_2⟩:=ybc BK379.out)|((with_reducible refine gate_dst (N:=25) rfl ?_);refine Kd.R_lit (Kd.int .i64) _ 3 ?hg (N:=25) ?hd (xs:=([]:List Int)) (inner:=[]) (ok:=fun _=>True) (okp:=fun _=>True) ?hr ?hp (fun _ hk=>hk) trivial (Below.refl _ _) (Nat.le_refl _) (by simp) ?_;(case hd=>rfl);(case hg=>rfl);(case hr=>first|(go_simp;done)|(go_simp;rfl));(case hp=>exact (Reps.none _ _));intro v386 w18 ho19 hb hg_ hnew_;clear hg_ hnew_;(first|rw [← Ny385.out] at ho19|(simp only [Int.reduceToNat] at ho19;rw [← Ny385.out] at ho19));have HO387:=yam (Kd.R_lower (Kd.Yw ho19 (Kd.R_lt (Kd.Yz HO384.out))) (below_size yhb));replace HO384:=yam (Kd.Ye (Kd.Yz HO384.out) (Kd.Yb ho19) hb);replace BK379:=yam (ybb BK379.out hb);replace HB:=yam (below_step yhb hb);clear hb ho19;obtain ⟨Ao20,co20,eo20⟩:=Kd.R_slice HO387.out;subst eo20;obtain ⟨Ao21,co21,eo21⟩:=Kd.R_slice HO384.out;subst eo21)|(refine goesL_ (some 27) rfl rfl Try.func98 (by kernel_rfl) rfl #[.agg #[.int .i64 a0_0,.slice A0_1 l0_1.length c0_1,.int .i64 a0_2],.slice A1 l1.length c1,.slice Ao20 y385.length co20,.slice Ao21 y382.length co21] rfl ymd ?_;(with_reducible refine (spec_l4Ways.calls k a0_0 _ _ l0_1 a0_2 _ _ l1 _ _ y385 (fun k_=>some k_=(.slice Ao21 y382.length co21:Value).ownBlock) (.slice Ao21 y382.length co21) y382 t388 w _ ?side1 ?side2 ?side3 ?side4 ?side5 ?side6 ?side7 ?side8 A10.out).mono ?_);(case side1=>repeat (first|(with_reducible first|exact HB.out|apply yea|apply yen|apply yed|refine below_set ?_ GE379.out)|exact HB.out));(case side2=>exact Kd.C_kept_came (Kd.heap_int .i64) HR0_1.out yhb (fun k_ hs_=>(fun e_=>Kd.Yb HO384.out k_ e_.symm) hs_));(case side3=>exact HC0_1.out);(case side4=>exact Kd.C_kept_came (Kd.heap_int .i64) HR1.out yhb (fun k_ hs_=>(fun e_=>Kd.Yb HO384.out k_ e_.symm) hs_));(case side5=>exact HC1.out);(case side6=>exact Kd.C_kept_own (HO387.out) (fun k_ hk_ hs_=>(hk_.2) hs_));(case side7=>exact (Kd.Yr HO387.out).2.1);(case side8=>exact Kd.R_tight rfl HO384.out);rintro e w22 ⟨rfl,hy0,hb,hkp⟩;refine ⟨_,rfl,?_⟩;replace BK379:=yam (blk_kept (ybz BK379.out) hkp (fun hs_=>(fun e_=>(Kd.R_ne HO384.out BK379.out (by decide)) e_) hs_));replace HO384:=yam (Kd.R_reok rfl hy0 (fun k_ e_=>HO384.out.1 k_ e_));replace HO387:=yam (Kd.R_mono (ok':=fun k_=>some k_≠(.slice Ao21 y382.length co21:Value).ownBlock) (Kd.R_keptB (HO387.out) hkp (fun k_ hk_ hs_=>(hk_.2) hs_)) (fun k_ hk_=>hk_.1.2));replace HB:=yam (hb);(try clear hb);(try clear hkp);(try clear hy0)))
 go_ret
 exact ⟨_,yer,by (with_reducible repeat (first|apply Kd.Ya|apply Kd.Yn|apply Kd.Yd));exact Kd.R_mono HO384.out (fun _ hk=>trivial),yhb⟩
mutual
def spec_RulePossible.j0:Nat→List Int→Int→Bool→Int→List Int→Int→Option (Bool)
 | 0,_,_,_,_,_,_=>none
 | k + 1,x1,x2,x19,x396000,x396001,x396002=>if x19=true then (some false) else (spec_RulePossible.l0 k x1 x2 (([]:List Int)) 0 x396000 x396001 x396002)
def spec_RulePossible.l0:Nat→List Int→Int→List Int→Int→Int→List Int→Int→Option (Bool)
 | 0,_,_,_,_,_,_,_=>none
 | k + 1,x1,x2,x7,x8,x396000,x396001,x396002=>if x8 < (x1.length:Int) then (if 0≤x8 then (if 0≤(rd x1 x8) then (if (rd x1 x8)=0 then (if 0≤(wrap64 (x2 + 1)) then (if x7.length < 17592186044416 then (spec_RulePossible.l0 k x1 x2 (x7 ++ [wrap64 ((shl .i64 1 (wrap64 (x2 + 1))) - 2)]) (wrap64 (x8 + 1)) x396000 x396001 x396002) else (none)) else (none)) else (if x7.length < 17592186044416 then (spec_RulePossible.l0 k x1 x2 (x7 ++ [shl .i64 1 (rd x1 x8)]) (wrap64 (x8 + 1)) x396000 x396001 x396002) else (none))) else (none)) else (none)) else ((spec_RuleMasks.f k x396000 x396001 x396002 x7 x2).bind fun t409=>(if 0 < (t409.length:Int) then (some ((rd t409 0) != 0)) else (none)))
end
def spec_RulePossible.f (k:Nat)(a0_0:Int)(l0_1:List Int)(a0_2:Int)(l1:List Int)(a2:Int):Option (Bool):=(spec_RuleValid.f k a0_0 l0_1 a0_2 a2).bind fun t396=>(if t396=true then ((spec_GridValid.f k l1 a2).bind fun t397=>(spec_RulePossible.j0 k l1 a2 (!t397) a0_0 l0_1 a0_2)) else (spec_RulePossible.j0 k l1 a2 true a0_0 l0_1 a0_2))
theorem spec_RulePossible.calls (k:Nat)(a0_0:Int)(A0_1:Option Addr)(c0_1:Nat)(l0_1:List Int)(a0_2:Int)(A1:Option Addr)(c1:Nat)(l1:List Int)(a2:Int)(r:Bool)(w:World)(hr0_1:Kd.C (Kd.int .i64) w A0_1 l0_1.length l0_1)(hc0_1:l0_1.length≤c0_1)(hr1:Kd.C (Kd.int .i64) w A1 l1.length l1)(hc1:l1.length≤c1)(h:spec_RulePossible.f k a0_0 l0_1 a0_2 l1 a2=some r) :
  Calls Try.prog 94 #[.agg #[.int .i64 a0_0,.slice A0_1 l0_1.length c0_1,.int .i64 a0_2],.slice A1 l1.length c1,.int .i64 a2] w fun e w'=>e= .returned (.bool r)∧Below w.heap.size w w':=by
 have hu73:=Try.underlying73
 have HR0_1:=yam hr0_1
 have HC0_1:=yam hc0_1
 clear hr0_1 hc0_1
 have HR1:=yam hr1
 have HC1:=yam hc1
 clear hr1 hc1
 have HB:=yam (Below.refl w.heap.size w)
 unfold spec_RulePossible.f at h
 have H:=h
 clear h
 have HC4:=yam H
 clear H
 go_enter Try.func94,Try.ntmps94
 go_upto_region 1 with (first|(refine ybe 3 #[.int .i64 a0_0,.slice A0_1 l0_1.length c0_1,.int .i64 a0_2] 73 ?_;intro gb395 hg w5 hbox hb;have BK395:=yam (hbox);have GW395:=yam ((by rw [hg];exact (below_size (yez HB.out)):w.heap.size≤gb395));replace HB:=yam (below_step (yez HB.out) hb);have GE395:=GW395;clear hb hbox hg))
 (try simp only [Act.put,yps])
 go_cut [19] (fun v19 wc=>∃ (kq:Nat) (x19_3:Bool),v19= .bool x19_3∧Aside0 (spec_RulePossible.j0 kq l1 a2 x19_3 a0_0 l0_1 a0_2=some r)∧Aside0 (kq≤k)∧Aside0 (wc.heap[gb395]?=some (.cells #[.int .i64 a0_0,(.slice A0_1 l0_1.length c0_1),.int .i64 a0_2] 73 (0,0)))∧Aside0 (Below w.heap.size w wc))
 case first =>
  have H:=HC4.out
  clear HC4
  replace H:=ybi H;obtain ⟨t396,A6,H⟩:=H
  try dsimp only at H
  cases t396
  ·replace H:=yff H
   replace H:=yam H
   obtain ⟨hcz11_0,hcz11_1,hcz11_2,hfz11_0,hfz11_1,hfz11_2⟩:=ybc BK395.out
   go_wp2_with (first|(refine goesL_ (some 12) rfl rfl Try.func83 (by kernel_rfl) rfl #[.agg #[.int .i64 a0_0,.slice A0_1 l0_1.length c0_1,.int .i64 a0_2],.int .i64 a2] rfl ymd ?_;(with_reducible refine (spec_RuleValid.calls k a0_0 _ _ l0_1 a0_2 a2 false _ ?_ ?_ A6.out).mono ?_);exact Kd.Cz ((Kd.C_below HR0_1.out HB.out));exact HC0_1.out;rintro e w12 ⟨rfl,hb⟩;refine ⟨_,rfl,?_⟩;replace BK395:=yam (ybb BK395.out hb);replace HB:=yam (below_step yhb hb);(try clear hb)))
   go_meet
   case rel=>exact ⟨_,(true),yeq,H,⟨by first|omega|exact Nat.le_refl _⟩,⟨ybk BK395.out⟩,⟨yhb⟩⟩
  replace H:=ytt H
  replace H:=ybi H;obtain ⟨t397,A8,H⟩:=H
  try dsimp only at H
  replace H:=yam H
  obtain ⟨hcz9_0,hcz9_1,hcz9_2,hfz9_0,hfz9_1,hfz9_2⟩:=ybc BK395.out
  go_wp2_with (first|(refine goesL_ (some 12) rfl rfl Try.func83 (by kernel_rfl) rfl #[.agg #[.int .i64 a0_0,.slice A0_1 l0_1.length c0_1,.int .i64 a0_2],.int .i64 a2] rfl ymd ?_;(with_reducible refine (spec_RuleValid.calls k a0_0 _ _ l0_1 a0_2 a2 true _ ?_ ?_ A6.out).mono ?_);exact Kd.Cz ((Kd.C_below HR0_1.out HB.out));exact HC0_1.out;rintro e w10 ⟨rfl,hb⟩;refine ⟨_,rfl,?_⟩;replace BK395:=yam (ybb BK395.out hb);replace HB:=yam (below_step yhb hb);(try clear hb))|(go_at_call 84;(with_reducible refine (spec_GridValid.calls k _ _ l1 a2 t397 _ ?_ ?_ A8.out).mono ?_);exact Kd.Cz ((Kd.C_below HR1.out HB.out));exact HC1.out;rintro e w' ⟨rfl,⟨nd,rfl⟩⟩))
  go_meet
  case rel=>exact ⟨_,(!t397),yeq,H,⟨by first|omega|exact Nat.le_refl _⟩,⟨ybk BK395.out⟩,⟨yhb⟩⟩
 case rest =>
  clear HC4
  try clear c1
  obtain ⟨kq,x19_3,rfl,HA,HJ3,BK395,HB⟩:=hcut
  rcases kq with _|kj3
  ·exact absurd HA.out (by simp [spec_RulePossible.j0])
  obtain ⟨H⟩:=HA
  simp only [spec_RulePossible.j0] at H
  cases x19_3
  rotate_left
  ·replace H:=ytt H
   obtain rfl:=ysi H
   go_wp2
   go_ret
   exact ⟨yer,yhb⟩
  replace H:=yff H
  obtain ⟨y398,Ny398⟩:∃ y_:List Int,Aside0 (y_=(([]:List Int))):=⟨_,⟨rfl⟩⟩
  replace H:(spec_RulePossible.l0 kj3 l1 a2 y398 0 a0_0 l0_1 a0_2)=some r:=yhn Ny398.out H
  replace H:=yam H
  go_wp2_with (first|((with_reducible refine gate_dst (N:=20) rfl ?_);refine Kd.R_lit (Kd.int .i64) _ 3 ?hg (N:=20) ?hd (xs:=([]:List Int)) (inner:=[]) (ok:=fun _=>True) (okp:=fun _=>True) ?hr ?hp (fun _ hk=>hk) trivial (Below.refl _ _) (Nat.le_refl _) (by simp) ?_;(case hd=>rfl);(case hg=>rfl);(case hr=>first|(go_simp;done)|(go_simp;rfl));(case hp=>exact (Reps.none _ _));intro v399 w14 ho15 hb hg_ hnew_;clear hg_ hnew_;(first|rw [← Ny398.out] at ho15|(simp only [Int.reduceToNat] at ho15;rw [← Ny398.out] at ho15));have HO400:=yam (Kd.R_lower ho15 (below_size yhb));replace BK395:=yam (ybb BK395.out hb);replace HB:=yam (below_step yhb hb);clear hb ho15))
  go_loopg [7,8] kj3 (fun kq v7 v8 w'=>∃ (x7_2:List Int) (x8_2:Int),v8= .int .i64 x8_2∧Aside0 (spec_RulePossible.l0 kq l1 a2 x7_2 x8_2 a0_0 l0_1 a0_2=some r)∧Aside0 (kq≤kj3)∧Aside0 (Kd.R (Kd.int .i64) 3 w' w.heap.size (fun _=>True) v7 x7_2)∧Aside0 (w'.heap[gb395]?=some (.cells #[.int .i64 a0_0,(.slice A0_1 l0_1.length c0_1),.int .i64 a0_2] 73 (0,0)))∧Aside0 (Below w.heap.size w w'))
  case atStart=>exact ⟨(y398),(0),yeq,H,⟨Nat.le_refl _⟩,⟨yka HO400.out⟩,⟨ybk BK395.out⟩,⟨yhb⟩⟩
  case round =>
   clear H
   obtain ⟨x7_2,x8_2,rfl,HA,HK2,HO_7,BK395,HB⟩:=hrel
   rcases gk with _|k2
   ·exact absurd HA.out (by simp [spec_RulePossible.l0])
   obtain ⟨H⟩:=HA
   simp only [spec_RulePossible.l0] at H
   replace H:=yis H;obtain ⟨c16b0,H⟩ | ⟨c16b0,H⟩:=H
   rotate_left
   ·replace H:=ybi H;obtain ⟨t409,A28,H⟩:=H
    try dsimp only at H
    replace H:=yit H;obtain ⟨c29,H⟩ | ⟨c29,H⟩:=H
    rotate_left
    ·exact absurd H (by simp)
    have c29b0:decide (0 < (t409.length:Int))=true:=decide_eq_true c29
    have c29b1:decide (0 < t409.length)=true:=decide_eq_true (by omega)
    clear c29
    obtain rfl:=ysi H
    obtain ⟨hcz30_0,hcz30_1,hcz30_2,hfz30_0,hfz30_1,hfz30_2⟩:=ybc BK395.out
    obtain ⟨Ao31,co31,eo31⟩:=Kd.R_slice HO_7.out
    subst eo31
    go_wp2_with (first|(refine goesL_ (some 48) rfl rfl Try.func96 (by kernel_rfl) rfl #[.agg #[.int .i64 a0_0,.slice A0_1 l0_1.length c0_1,.int .i64 a0_2],.slice Ao31 x7_2.length co31,.int .i64 a2] rfl ymd ?_;(with_reducible refine (spec_RuleMasks.calls k2 a0_0 _ _ l0_1 a0_2 _ _ x7_2 a2 t409 _ ?_ ?_ ?_ ?_ A28.out).mono ?_);exact Kd.Cz ((Kd.C_below HR0_1.out HB.out));exact HC0_1.out;exact Kd.Cz (Kd.Yr HO_7.out).2.2;exact (Kd.Yr HO_7.out).2.1;rintro e w32 ⟨v410,rfl,ho0,hb⟩;refine ⟨_,rfl,?_⟩;have HO411:=yam (Kd.R_lower (Kd.Yw ho0 (Kd.R_lt (Kd.Yz HO_7.out))) (below_size yhb));replace HO_7:=yam (Kd.Ye (Kd.Yz HO_7.out) (Kd.Yb ho0) hb);replace BK395:=yam (ybb BK395.out hb);replace HB:=yam (below_step yhb hb);(try clear hb);(try clear ho0);obtain ⟨Ao33,co33,eo33⟩:=Kd.R_slice HO411.out;subst eo33;have p412:0≤(0:Int):=(by omega);have q412:0 < (t409.length:Int):=ydt;obtain ⟨ad412,e412,hx412_0⟩:=Kd.at_int (Kd.Yr HO411.out).2.2 0 p412 q412;cases e412;have qi412:(0 < t409.length)=True:=eq_true (by omega);(try rw [show ((0:Int)).toNat=0 from rfl] at hx412_0);(try rw [Addr.add_zero'] at hx412_0);replace p412:=eq_true p412;replace q412:=eq_true q412))
    go_ret
    exact ⟨yer,yhb⟩
   replace H:=yif H;obtain ⟨c17b0,H⟩:=H
   replace H:=yig H;obtain ⟨c18,H⟩:=H
   have c18b0:=eq_true c18
   have c18b1:decide (0≤(rd l1 x8_2))=true:=decide_eq_true c18
   clear c18
   obtain ⟨ji19,hji19⟩:∃ j_:Int,(shl .i64 1 (rd l1 x8_2))=j_:=⟨_,rfl⟩
   replace H:(if (rd l1 x8_2)=0 then (if 0≤(wrap64 (a2 + 1)) then (if x7_2.length < 17592186044416 then (spec_RulePossible.l0 k2 l1 a2 (x7_2 ++ [wrap64 ((shl .i64 1 (wrap64 (a2 + 1))) - 2)]) (wrap64 (x8_2 + 1)) a0_0 l0_1 a0_2) else (none)) else (none)) else (if x7_2.length < 17592186044416 then (spec_RulePossible.l0 k2 l1 a2 (x7_2 ++ [ji19]) (wrap64 (x8_2 + 1)) a0_0 l0_1 a0_2) else (none)))=some r:=by first|(rw [hji19] at H;exact H)|(simp only [hji19] at H ⊢;exact H)
   have hji19_:(IntKind.i64.wrap (1 * 2 ^ min (rd l1 x8_2).toNat 64))=ji19:=hji19
   have hji19z:(rd l1 x8_2)≤64→(IntKind.i64.wrap (1 * 2 ^ (rd l1 x8_2).toNat))=ji19:=shl_small hji19
   have hji19u:(IntKind.i64.wrap (2 ^ min (rd l1 x8_2).toNat 64))=ji19:=by have h_:=hji19_;rw [Int.one_mul] at h_;exact h_
   have hji19v:(rd l1 x8_2)≤64→(IntKind.i64.wrap (2 ^ (rd l1 x8_2).toNat))=ji19:=fun hle_=>by have h_:=hji19z hle_;rw [Int.one_mul] at h_;exact h_
   have hji19y:(wrap64 (1 * 2 ^ min (rd l1 x8_2).toNat 64))=ji19:=(i64_w _).symm.trans hji19_
   have hji19x:(rd l1 x8_2)≤64→(wrap64 (1 * 2 ^ (rd l1 x8_2).toNat))=ji19:=fun h_=>(i64_w _).symm.trans (hji19z h_)
   replace H:=yit H;obtain ⟨c20,H⟩ | ⟨c20,H⟩:=H
   rotate_left
   ·have c20b0:((rd l1 x8_2) == 0)=false:=beq_eq_false_iff_ne.mpr c20
    have c20b1:((rd l1 x8_2) != 0)=true:=bne_iff_ne.mpr c20
    replace H:=yig H;obtain ⟨c26,H⟩:=H
    have LMc26:=yam c26
    clear c26
    obtain ⟨y406,Ny406⟩:∃ y_:List Int,Aside0 (y_=(x7_2 ++ [ji19])):=⟨_,⟨rfl⟩⟩
    replace H:(spec_RulePossible.l0 k2 l1 a2 y406 (wrap64 (x8_2 + 1)) a0_0 l0_1 a0_2)=some r:=yhn Ny406.out H
    replace H:=yam H
    obtain ⟨ad401,e401,hx401_0,p401,q401⟩:=yat HR1.out x8_2
    cases e401
    replace hx401_0:=ybx HB.out hx401_0
    obtain ⟨ad402,e402,hx402_0,p402,q402⟩:=yat HR1.out x8_2
    obtain rfl:ad401=ad402:=(by injection e402)
    replace hx402_0:=ybx HB.out hx402_0
    go_wp2_with (first|((with_reducible refine gate_builtin (b:= .append) (xs:= #[.tmp 41,.tmp 43]) rfl ?_);at_builtin;refine Kd.R_append (Kd.int .i64) (w0:=w) w.heap.size rfl (.tmp 41) (.tmp 43) 22 3 (.int .i64 0) 8 rfl Try.underlying22 info3 rfl (by decide) (by omega) u7 x7_2 ji19 [.int .i64 ji19] (fun _=>True) (fun _=>False) rfl rfl ?aP (fun _ hk=>hk.elim) ?aF ?aO ?aB ?aS ?aL ?_;(case aP=>exact rfl);(case aB=>exact yhb);(case aF=>exact (fun _ _=>trivial));(case aO=>exact (Kd.Yz HO_7.out));(case aS=>exact (below_size yhb));(case aL=>have:=LMc26.out;omega);intro v407 w27 ho hb hg hat;rw [← Ny406.out] at ho;replace BK395:=yam (blk_grown (g:=gb395) (o:= .cells #[.int .i64 a0_0,.slice A0_1 l0_1.length c0_1,.int .i64 a0_2] 73 (0,0)) (ybz BK395.out) hg (Kd.R_ne HO_7.out BK395.out (by decide)));replace HB:=yam (hb);have HO408:=yam (ho);clear HO_7;clear ho hb hg hat))
    go_roundg k2
    case measure=>have:=HJ3.out;have:=HK2.out;omega
    case rel=>exact ⟨(y406),(wrap64 (x8_2 + 1)),yeq,H,⟨by have:=HJ3.out;have:=HK2.out;omega⟩,⟨yka HO408.out⟩,⟨ybk BK395.out⟩,⟨yhb⟩⟩
   have c20b0:((rd l1 x8_2) == 0)=true:=beq_iff_eq.mpr c20
   have c20b1:((rd l1 x8_2) != 0)=false:=bne_eq_false_iff_eq.mpr c20
   clear c20
   obtain ⟨ji21,hji21⟩:∃ j_:Int,(wrap64 (a2 + 1))=j_:=⟨_,rfl⟩
   replace H:(if 0≤(ji21) then (if x7_2.length < 17592186044416 then (spec_RulePossible.l0 k2 l1 a2 (x7_2 ++ [wrap64 ((shl .i64 1 (ji21)) - 2)]) (wrap64 (x8_2 + 1)) a0_0 l0_1 a0_2) else (none)) else (none))=some r:=by first|(rw [hji21] at H;exact H)|(simp only [hji21] at H ⊢;exact H)
   have hji21w:(IntKind.i64.wrap (a2 + 1))=ji21:=(i64_w _).trans hji21
   replace H:=yig H;obtain ⟨c22,H⟩:=H
   have c22b0:=eq_true c22
   have c22b1:decide (0≤(ji21))=true:=decide_eq_true c22
   clear c22
   obtain ⟨ji23,hji23⟩:∃ j_:Int,(shl .i64 1 (ji21))=j_:=⟨_,rfl⟩
   replace H:(if x7_2.length < 17592186044416 then (spec_RulePossible.l0 k2 l1 a2 (x7_2 ++ [wrap64 ((ji23) - 2)]) (wrap64 (x8_2 + 1)) a0_0 l0_1 a0_2) else (none))=some r:=by first|(rw [hji23] at H;exact H)|(simp only [hji23] at H ⊢;exact H)
   have hji23_:(IntKind.i64.wrap (1 * 2 ^ min (ji21).toNat 64))=ji23:=hji23
   have hji23z:(ji21)≤64→(IntKind.i64.wrap (1 * 2 ^ (ji21).toNat))=ji23:=shl_small hji23
   have hji23u:(IntKind.i64.wrap (2 ^ min (ji21).toNat 64))=ji23:=by have h_:=hji23_;rw [Int.one_mul] at h_;exact h_
   have hji23v:(ji21)≤64→(IntKind.i64.wrap (2 ^ (ji21).toNat))=ji23:=fun hle_=>by have h_:=hji23z hle_;rw [Int.one_mul] at h_;exact h_
   have hji23y:(wrap64 (1 * 2 ^ min (ji21).toNat 64))=ji23:=(i64_w _).symm.trans hji23_
   have hji23x:(ji21)≤64→(wrap64 (1 * 2 ^ (ji21).toNat))=ji23:=fun h_=>(i64_w _).symm.trans (hji23z h_)
   replace H:=yig H;obtain ⟨c24,H⟩:=H
   have LMc24:=yam c24
   clear c24
   obtain ⟨y403,Ny403⟩:∃ y_:List Int,Aside0 (y_=(x7_2 ++ [wrap64 ((ji23) - 2)])):=⟨_,⟨rfl⟩⟩
   replace H:(spec_RulePossible.l0 k2 l1 a2 y403 (wrap64 (x8_2 + 1)) a0_0 l0_1 a0_2)=some r:=yhn Ny403.out H
   replace H:=yam H
   obtain ⟨ad401,e401,hx401_0,p401,q401⟩:=yat HR1.out x8_2
   cases e401
   replace hx401_0:=ybx HB.out hx401_0
   obtain ⟨ad402,e402,hx402_0,p402,q402⟩:=yat HR1.out x8_2
   obtain rfl:ad401=ad402:=(by injection e402)
   replace hx402_0:=ybx HB.out hx402_0
   go_wp2_with (first|((with_reducible refine gate_builtin (b:= .append) (xs:= #[.tmp 41,.tmp 43]) rfl ?_);at_builtin;refine Kd.R_append (Kd.int .i64) (w0:=w) w.heap.size rfl (.tmp 41) (.tmp 43) 22 3 (.int .i64 0) 8 rfl Try.underlying22 info3 rfl (by decide) (by omega) u7 x7_2 (wrap64 ((ji23) - 2)) [.int .i64 (wrap64 ((ji23) - 2))] (fun _=>True) (fun _=>False) rfl rfl ?aP (fun _ hk=>hk.elim) ?aF ?aO ?aB ?aS ?aL ?_;(case aP=>exact rfl);(case aB=>exact yhb);(case aF=>exact (fun _ _=>trivial));(case aO=>exact (Kd.Yz HO_7.out));(case aS=>exact (below_size yhb));(case aL=>have:=LMc24.out;omega);intro v404 w25 ho hb hg hat;rw [← Ny403.out] at ho;replace BK395:=yam (blk_grown (g:=gb395) (o:= .cells #[.int .i64 a0_0,.slice A0_1 l0_1.length c0_1,.int .i64 a0_2] 73 (0,0)) (ybz BK395.out) hg (Kd.R_ne HO_7.out BK395.out (by decide)));replace HB:=yam (hb);have HO405:=yam (ho);clear HO_7;clear ho hb hg hat))
   go_roundg k2
   case measure=>have:=HJ3.out;have:=HK2.out;omega
   case rel=>exact ⟨(y403),(wrap64 (x8_2 + 1)),yeq,H,⟨by have:=HJ3.out;have:=HK2.out;omega⟩,⟨yka HO405.out⟩,⟨ybk BK395.out⟩,⟨yhb⟩⟩
mutual
def spec_l5Fits.l0:Nat→List Int→Int→Int→List Int→List (S73)→Option (Bool)
 | 0,_,_,_,_,_=>none
 | k + 1,x1,x5,x414000,x414001,x414002=>if x5 < (x1.length:Int) then (if 0≤x5 then (if x5 < (x414001.length:Int) then (if (rd x414001 x5) > 0 then (if (rd x1 x5) > 0 then (if (rd x1 x5)=(rd x414001 x5) then (spec_l5Fits.l0 k x1 (wrap64 (x5 + 1)) x414000 x414001 x414002) else (some false)) else (spec_l5Fits.l0 k x1 (wrap64 (x5 + 1)) x414000 x414001 x414002)) else (spec_l5Fits.l0 k x1 (wrap64 (x5 + 1)) x414000 x414001 x414002)) else (none)) else (none)) else (spec_l5Fits.l1 k x1 0 x414000 x414001 x414002)
def spec_l5Fits.l1:Nat→List Int→Int→Int→List Int→List (S73)→Option (Bool)
 | 0,_,_,_,_,_=>none
 | k + 1,x1,x6,x414000,x414001,x414002=>if x6 < (x414002.length:Int) then (if 0≤x6 then ((spec_RulePossible.f k ((rd_T73 x414002 x6).f0) ((rd_T73 x414002 x6).f1) ((rd_T73 x414002 x6).f2) x1 x414000).bind fun t419=>(if t419=true then (spec_l5Fits.l1 k x1 (wrap64 (x6 + 1)) x414000 x414001 x414002) else (some false))) else (none)) else ((spec_l2Clash.f k x1 x414000).bind fun t420=>(some (!t420)))
end
def spec_l5Fits.f (k:Nat)(a0_0:Int)(l0_1:List Int)(l0_2:List (S73))(l1:List Int):Option (Bool):=spec_l5Fits.l0 k l1 0 a0_0 l0_1 l0_2
def spec_l5Fits.T4:Bool × List (List Nat × List Nat):=(true,[([],[]),([0],[0]),([],[]),([1,2],[1,2]),([3],[3]),([4],[4]),([5],[5]),([6],[6]),([6],[6]),([7,8,6],[6,7,8]),([9,6],[6,9]),([10,6],[6,10]),([6,11],[6,11]),([12,6],[12]),([13],[13]),([13],[13]),([14,15,13],[13,14,15]),([16,13],[13,16]),([13],[13]),([18,13],[13,18]),([13],[13]),([19,20,13],[13,19,20]),([21,13],[13,21]),([17,22,13],[13,17,22]),([13,23],[13,23])])
def spec_l5Fits.B4:List Nat:=[0,1,0,7,15,31,63,127,127,511,1023,2047,4095,8191,16383,16383,65535,131071,16383,278527,16383,1851391,3948543,8388607,16777215]
theorem spec_l5Fits.tab4:rtab .any (opsOf Try.f90 4)=spec_l5Fits.T4:=by kernel_rfl
theorem spec_l5Fits.bits4:waitsOk spec_l5Fits.T4.2 spec_l5Fits.B4=true:=by kernel_rfl
def spec_l5Fits.T9:Bool × List (List Nat × List Nat):=(true,[([],[]),([0],[0]),([],[]),([1,2],[1,2]),([3],[3]),([],[]),([],[]),([6],[6]),([4,5,7],[4,5,7]),([8],[8])])
def spec_l5Fits.B9:List Nat:=[0,1,0,7,15,0,0,64,255,511]
theorem spec_l5Fits.tab9:rtab .any (opsOf Try.f90 9)=spec_l5Fits.T9:=by kernel_rfl
theorem spec_l5Fits.bits9:waitsOk spec_l5Fits.T9.2 spec_l5Fits.B9=true:=by kernel_rfl
theorem spec_l5Fits.calls (k:Nat)(a0_0:Int)(A0_1:Option Addr)(c0_1:Nat)(l0_1:List Int)(A0_2:Option Addr)(c0_2:Nat)(l0_2:List (S73))(A1:Option Addr)(c1:Nat)(l1:List Int)(r:Bool)(w:World)(hr0_1:Kd.C (Kd.int .i64) w A0_1 l0_1.length l0_1)(hc0_1:l0_1.length≤c0_1)(hr0_2:Kd.C k73 w A0_2 l0_2.length l0_2)(hc0_2:l0_2.length≤c0_2)(hr1:Kd.C (Kd.int .i64) w A1 l1.length l1)(hc1:l1.length≤c1)(h:spec_l5Fits.f k a0_0 l0_1 l0_2 l1=some r) :
  Calls Try.prog 90 #[.agg #[.int .i64 a0_0,.slice A0_1 l0_1.length c0_1,.slice A0_2 l0_2.length c0_2],.slice A1 l1.length c1] w fun e w'=>e= .returned (.bool r)∧Below w.heap.size w w':=by
 have hu37:=Try.underlying37
 have hu73:=Try.underlying73
 have HR0_1:=yam hr0_1
 have HC0_1:=yam hc0_1
 clear hr0_1 hc0_1
 have HR0_2:=yam hr0_2
 have HC0_2:=yam hc0_2
 clear hr0_2 hc0_2
 have HR1:=yam hr1
 have HC1:=yam hc1
 clear hr1 hc1
 have HB:=yam (Below.refl w.heap.size w)
 unfold spec_l5Fits.f at h
 have H:=h
 clear h
 replace H:=yam H
 go_enter Try.func90,Try.ntmps90
 go_wp2_with (first|(refine ybe 2 #[.int .i64 a0_0,.slice A0_1 l0_1.length c0_1,.slice A0_2 l0_2.length c0_2] 37 ?_;intro gb413 hg w3 hbox hb;have BK413:=yam (hbox);have GW413:=yam ((by rw [hg];exact (below_size (yez HB.out)):w.heap.size≤gb413));replace HB:=yam (below_step (yez HB.out) hb);have GE413:=GW413;clear hb hbox hg))
 go_loopg [5] k (fun kq v5 w'=>∃ (x5_1:Int),v5= .int .i64 x5_1∧Aside0 (spec_l5Fits.l0 kq l1 x5_1 a0_0 l0_1 l0_2=some r)∧Aside0 (kq≤k)∧Aside0 (w'.heap[gb413]?=some (.cells #[.int .i64 a0_0,(.slice A0_1 l0_1.length c0_1),(.slice A0_2 l0_2.length c0_2)] 37 (0,0)))∧Aside0 (Below w.heap.size w w'))
 case atStart=>exact ⟨(0),yeq,H,⟨Nat.le_refl _⟩,⟨ybk BK413.out⟩,⟨yhb⟩⟩
 case round =>
  clear H
  try clear c1
  obtain ⟨x5_1,rfl,HA,HK1,BK413,HB⟩:=hrel
  rcases gk with _|k1
  ·exact absurd HA.out (by simp [spec_l5Fits.l0])
  obtain ⟨H⟩:=HA
  simp only [spec_l5Fits.l0] at H
  replace H:=yis H;obtain ⟨c4b0,H⟩ | ⟨c4b0,H⟩:=H
  rotate_left
  ·replace H:=yam H
   go_wp2
   go_loopg [6] k1 (fun kq v6 w'=>∃ (x6_2:Int),v6= .int .i64 x6_2∧Aside0 (spec_l5Fits.l1 kq l1 x6_2 a0_0 l0_1 l0_2=some r)∧Aside0 (kq≤k1)∧Aside0 (w'.heap[gb413]?=some (.cells #[.int .i64 a0_0,(.slice A0_1 l0_1.length c0_1),(.slice A0_2 l0_2.length c0_2)] 37 (0,0)))∧Aside0 (Below w.heap.size w w'))
   case atStart=>exact ⟨(0),yeq,H,⟨Nat.le_refl _⟩,⟨ybk BK413.out⟩,⟨yhb⟩⟩
   case round =>
    clear H
    try clear c4b0
    obtain ⟨x6_2,rfl,HA,HK2,BK413,HB⟩:=hrel
    rcases gk with _|k2
    ·exact absurd HA.out (by simp [spec_l5Fits.l1])
    obtain ⟨H⟩:=HA
    simp only [spec_l5Fits.l1] at H
    replace H:=yis H;obtain ⟨c14b0,H⟩ | ⟨c14b0,H⟩:=H
    rotate_left
    ·replace H:=ybi H;obtain ⟨t420,A24,H⟩:=H
     try dsimp only at H
     obtain rfl:=ysi H
     obtain ⟨hcz25_0,hcz25_1,hcz25_2,hfz25_0,hfz25_1,hfz25_2⟩:=ybc BK413.out
     go_wp2_with (first|(refine goesL_ (some 58) rfl rfl Try.func71 (by kernel_rfl) rfl #[.slice A1 l1.length c1,.int .i64 a0_0] rfl ymd ?_;(with_reducible refine (spec_l2Clash.calls k2 _ _ l1 a0_0 t420 _ ?_ ?_ A24.out).mono ?_);exact Kd.Cz ((Kd.C_below HR1.out HB.out));exact HC1.out;rintro e w26 ⟨rfl,hb⟩;refine ⟨_,rfl,?_⟩;replace BK413:=yam (ybb BK413.out hb);replace HB:=yam (below_step yhb hb);(try clear hb)))
     go_ret
     exact ⟨yer,yhb⟩
    replace H:=yif H;obtain ⟨c15b0,H⟩:=H
    replace H:=ybi H;obtain ⟨t419,A16,H⟩:=H
    try dsimp only at H
    cases t419
    ·replace H:=yff H
     obtain rfl:=ysi H
     obtain ⟨hcz21_0,hcz21_1,hcz21_2,hfz21_0,hfz21_1,hfz21_2⟩:=ybc BK413.out
     try go_wp2
     replace BK413:=yam (ybd BK413.out)
     replace HB:=yam (yed HB.out)
     have p418:0≤(x6_2:Int):=ydt
     have q418:x6_2 < (l0_2.length:Int):=ydt
     obtain ⟨ad418,A418_1,c418_1,e418,hx418_0,hx418_1,hx418_2,hl418_1,hi418_1⟩:=at_T73 HR0_2.out x6_2 p418 q418
     have hw418_2:=hx418_2
     have hw418_1:=hx418_1
     have hw418_0:=hx418_0
     cases e418
     replace hx418_0:=ybx HB.out hx418_0
     replace hx418_1:=ybx HB.out hx418_1
     replace hx418_2:=ybx HB.out hx418_2
     have HR418_1:=yam hi418_1
     have HC418_1:=yam hl418_1
     clear hi418_1 hl418_1
     replace p418:=eq_true p418
     replace q418:=eq_true q418
     refine start_ (n:=10) (S:=fun w'=>w'.cell? ⟨gb413,0,none⟩=some (.int .i64 a0_0)∧w'.cell? ⟨gb413,1,none⟩=some (.slice A0_1 l0_1.length c0_1)∧w'.cell? ⟨gb413,2,none⟩=some (.slice (some ad418) l0_2.length c0_2)∧w'.cell? (ad418.add ((x6_2).toNat * 3))=some (.int .i64 ((rd_T73 l0_2 x6_2).f0))∧w'.cell? ⟨(ad418.add ((x6_2).toNat * 3)).block,(ad418.add ((x6_2).toNat * 3)).off + 1,none⟩=some (.slice A418_1 ((rd_T73 l0_2 x6_2).f1).length c418_1)∧w'.cell? ⟨(ad418.add ((x6_2).toNat * 3)).block,(ad418.add ((x6_2).toNat * 3)).off + 2,none⟩=some (.int .i64 ((rd_T73 l0_2 x6_2).f2))) (ds:=[]) (yvb 10 0) (by kernel_rfl) rfl rfl ⟨(blk_cell BK413.out 0).trans rfl,(blk_cell BK413.out 1).trans rfl,(blk_cell BK413.out 2).trans rfl,((HB.out.cell (World.block_lt_of_cell? w _ hw418_0)).trans hw418_0),((HB.out.cell (World.block_lt_of_cell? w _ hw418_1)).trans hw418_1),((HB.out.cell (World.block_lt_of_cell? w _ hw418_2)).trans hw418_2)⟩ (fun hHeld=>?_);refine with_tabW spec_l5Fits.tab9 spec_l5Fits.bits9 (fun HT_ HW_=>?_)
     generalize wr.drew=w22 at BK413 HB HR418_1 hx418_0 hx418_1 hx418_2 hHeld ⊢
     refine yvp 0 45 (yvb 10 1) HT_.out ?_
     refine yvp 2 47 (yvb 10 5) HT_.out ?_
     refine yvp 5 50 (yvb 10 37) HT_.out ?_
     refine yvp 6 51 (yvb 10 101) HT_.out ?_
     refine yvt 1 46 (yvb 10 103) HT_.out HW_.out hHeld ?_
     refine yvp 3 48 (yvb 10 111) HT_.out ?_
     refine yvt 4 49 (yvb 10 127) HT_.out HW_.out hHeld ?_
     refine yvt 7 52 (yvb 10 255) HT_.out HW_.out hHeld ?_
     refine one_ (i:=8) (N:=some 53) (yvb 10 511) rfl rfl (one_of HT_.out (by kernel_rfl)) (by decide) (fun K hK=>?_)
     refine goes_ Try.func94 (by kernel_rfl) rfl #[.agg #[.int .i64 ((rd_T73 l0_2 x6_2).f0),.slice A418_1 ((rd_T73 l0_2 x6_2).f1).length c418_1,.int .i64 ((rd_T73 l0_2 x6_2).f2)],.slice A1 l1.length c1,.int .i64 a0_0] (by rfl) rfl rfl ymd ?_
     with_reducible refine (spec_RulePossible.calls k2 ((rd_T73 l0_2 x6_2).f0) _ _ ((rd_T73 l0_2 x6_2).f1) ((rd_T73 l0_2 x6_2).f2) _ _ l1 a0_0 false _ ?_ ?_ ?_ ?_ A16.out).mono ?_
     exact Kd.Cz ((Kd.C_below HR418_1.out HB.out))
     exact HC418_1.out
     exact Kd.Cz ((Kd.C_below HR1.out HB.out))
     exact HC1.out
     rintro e w23 ⟨rfl,hb⟩
     refine ⟨_,rfl,?_⟩
     replace BK413:=yam (ybb BK413.out hb)
     replace HB:=yam (below_step yhb hb)
     (try clear hb)
     (try clear hb2)
     (try clear hk)
     (try clear hi)
     refine hK.out _ _ ⟨(blk_cell BK413.out 0).trans rfl,(blk_cell BK413.out 1).trans rfl,(blk_cell BK413.out 2).trans rfl,((HB.out.cell (World.block_lt_of_cell? w _ hw418_0)).trans hw418_0),((HB.out.cell (World.block_lt_of_cell? w _ hw418_1)).trans hw418_1),((HB.out.cell (World.block_lt_of_cell? w _ hw418_2)).trans hw418_2)⟩ (fun hHeld=>?_)
     clear hK K
     refine norm_ (a':=?_) ?_ ?_
     rotate_left
     ·show Act.put _ (some 53) _=_
      simp only [Act.put,yps,i64_w,i32_w]
      rfl
     refine yvp 9 54 (yvb 10 1023) HT_.out ?_
     refine done_ (done_of HT_.out (by kernel_rfl)) ?_
     try go_wp2
     go_ret
     exact ⟨yer,yhb⟩
    replace H:=ytt H
    replace H:=yam H
    obtain ⟨hcz18_0,hcz18_1,hcz18_2,hfz18_0,hfz18_1,hfz18_2⟩:=ybc BK413.out
    try go_wp2
    replace BK413:=yam (ybd BK413.out)
    replace HB:=yam (yed HB.out)
    have p418:0≤(x6_2:Int):=ydt
    have q418:x6_2 < (l0_2.length:Int):=ydt
    obtain ⟨ad418,A418_1,c418_1,e418,hx418_0,hx418_1,hx418_2,hl418_1,hi418_1⟩:=at_T73 HR0_2.out x6_2 p418 q418
    have hw418_2:=hx418_2
    have hw418_1:=hx418_1
    have hw418_0:=hx418_0
    cases e418
    replace hx418_0:=ybx HB.out hx418_0
    replace hx418_1:=ybx HB.out hx418_1
    replace hx418_2:=ybx HB.out hx418_2
    have HR418_1:=yam hi418_1
    have HC418_1:=yam hl418_1
    clear hi418_1 hl418_1
    replace p418:=eq_true p418
    replace q418:=eq_true q418
    refine start_ (n:=10) (S:=fun w'=>w'.cell? ⟨gb413,0,none⟩=some (.int .i64 a0_0)∧w'.cell? ⟨gb413,1,none⟩=some (.slice A0_1 l0_1.length c0_1)∧w'.cell? ⟨gb413,2,none⟩=some (.slice (some ad418) l0_2.length c0_2)∧w'.cell? (ad418.add ((x6_2).toNat * 3))=some (.int .i64 ((rd_T73 l0_2 x6_2).f0))∧w'.cell? ⟨(ad418.add ((x6_2).toNat * 3)).block,(ad418.add ((x6_2).toNat * 3)).off + 1,none⟩=some (.slice A418_1 ((rd_T73 l0_2 x6_2).f1).length c418_1)∧w'.cell? ⟨(ad418.add ((x6_2).toNat * 3)).block,(ad418.add ((x6_2).toNat * 3)).off + 2,none⟩=some (.int .i64 ((rd_T73 l0_2 x6_2).f2))) (ds:=[]) (yvb 10 0) (by kernel_rfl) rfl rfl ⟨(blk_cell BK413.out 0).trans rfl,(blk_cell BK413.out 1).trans rfl,(blk_cell BK413.out 2).trans rfl,((HB.out.cell (World.block_lt_of_cell? w _ hw418_0)).trans hw418_0),((HB.out.cell (World.block_lt_of_cell? w _ hw418_1)).trans hw418_1),((HB.out.cell (World.block_lt_of_cell? w _ hw418_2)).trans hw418_2)⟩ (fun hHeld=>?_);refine with_tabW spec_l5Fits.tab9 spec_l5Fits.bits9 (fun HT_ HW_=>?_)
    generalize wr.drew=w19 at BK413 HB HR418_1 hx418_0 hx418_1 hx418_2 hHeld ⊢
    refine yvp 0 45 (yvb 10 1) HT_.out ?_
    refine yvp 2 47 (yvb 10 5) HT_.out ?_
    refine yvp 5 50 (yvb 10 37) HT_.out ?_
    refine yvp 6 51 (yvb 10 101) HT_.out ?_
    refine yvt 1 46 (yvb 10 103) HT_.out HW_.out hHeld ?_
    refine yvp 3 48 (yvb 10 111) HT_.out ?_
    refine yvt 4 49 (yvb 10 127) HT_.out HW_.out hHeld ?_
    refine yvt 7 52 (yvb 10 255) HT_.out HW_.out hHeld ?_
    refine one_ (i:=8) (N:=some 53) (yvb 10 511) rfl rfl (one_of HT_.out (by kernel_rfl)) (by decide) (fun K hK=>?_)
    refine goes_ Try.func94 (by kernel_rfl) rfl #[.agg #[.int .i64 ((rd_T73 l0_2 x6_2).f0),.slice A418_1 ((rd_T73 l0_2 x6_2).f1).length c418_1,.int .i64 ((rd_T73 l0_2 x6_2).f2)],.slice A1 l1.length c1,.int .i64 a0_0] (by rfl) rfl rfl ymd ?_
    with_reducible refine (spec_RulePossible.calls k2 ((rd_T73 l0_2 x6_2).f0) _ _ ((rd_T73 l0_2 x6_2).f1) ((rd_T73 l0_2 x6_2).f2) _ _ l1 a0_0 true _ ?_ ?_ ?_ ?_ A16.out).mono ?_
    exact Kd.Cz ((Kd.C_below HR418_1.out HB.out))
    exact HC418_1.out
    exact Kd.Cz ((Kd.C_below HR1.out HB.out))
    exact HC1.out
    rintro e w20 ⟨rfl,hb⟩
    refine ⟨_,rfl,?_⟩
    replace BK413:=yam (ybb BK413.out hb)
    replace HB:=yam (below_step yhb hb)
    (try clear hb)
    (try clear hb2)
    (try clear hk)
    (try clear hi)
    refine hK.out _ _ ⟨(blk_cell BK413.out 0).trans rfl,(blk_cell BK413.out 1).trans rfl,(blk_cell BK413.out 2).trans rfl,((HB.out.cell (World.block_lt_of_cell? w _ hw418_0)).trans hw418_0),((HB.out.cell (World.block_lt_of_cell? w _ hw418_1)).trans hw418_1),((HB.out.cell (World.block_lt_of_cell? w _ hw418_2)).trans hw418_2)⟩ (fun hHeld=>?_)
    clear hK K
    refine norm_ (a':=?_) ?_ ?_
    rotate_left
    ·show Act.put _ (some 53) _=_
     simp only [Act.put,yps,i64_w,i32_w]
     rfl
    refine yvp 9 54 (yvb 10 1023) HT_.out ?_
    refine done_ (done_of HT_.out (by kernel_rfl)) ?_
    try go_wp2
    go_roundg k2
    case measure=>have:=HK1.out;have:=HK2.out;omega
    case rel=>exact ⟨(wrap64 (x6_2 + 1)),yeq,H,⟨by have:=HK1.out;have:=HK2.out;omega⟩,⟨ybk BK413.out⟩,⟨yhb⟩⟩
  replace H:=yif H;obtain ⟨c5b0,H⟩:=H
  replace H:=yif H;obtain ⟨c6b0,H⟩:=H
  replace H:=yis H;obtain ⟨c7b0,H⟩ | ⟨c7b0,H⟩:=H
  rotate_left
  ·replace H:=yam H
   try go_wp2
   replace BK413:=yam (ybd BK413.out)
   replace HB:=yam (yed HB.out)
   obtain ⟨ad414,e414,hx414_0,p414,q414⟩:=yat HR0_1.out x5_1
   have hw414_0:=hx414_0
   cases e414
   replace hx414_0:=ybx HB.out hx414_0
   refine start_ (n:=25) (S:=fun w'=>w'.cell? ⟨gb413,0,none⟩=some (.int .i64 a0_0)∧w'.cell? ⟨gb413,1,none⟩=some (.slice (some ad414) l0_1.length c0_1)∧w'.cell? ⟨gb413,2,none⟩=some (.slice A0_2 l0_2.length c0_2)∧w'.cell? (ad414.add (x5_1).toNat)=some (.int .i64 (rd l0_1 x5_1))) (ds:=[]) (yvb 25 0) (by kernel_rfl) rfl rfl ⟨(blk_cell BK413.out 0).trans rfl,(blk_cell BK413.out 1).trans rfl,(blk_cell BK413.out 2).trans rfl,((HB.out.cell (World.block_lt_of_cell? w _ hw414_0)).trans hw414_0)⟩ (fun hHeld=>?_);refine with_tabW spec_l5Fits.tab4 spec_l5Fits.bits4 (fun HT_ HW_=>?_)
   generalize wr.drew=w13 at BK413 HB hx414_0 hHeld ⊢
   refine yvp 0 13 (yvb 25 1) HT_.out ?_
   refine yvp 2 15 (yvb 25 5) HT_.out ?_
   refine yvt 1 14 (yvb 25 7) HT_.out HW_.out hHeld ?_
   refine yvp 3 16 (yvb 25 15) HT_.out ?_
   refine yvt 4 17 (yvb 25 31) HT_.out HW_.out hHeld ?_
   refine yvp 5 18 (yvb 25 63) HT_.out ?_
   refine yvp 6 19 (yvb 25 127) HT_.out ?_
   refine yvu 7 20 (yvb 25 255) HT_.out ?_
   refine yvu 8 21 (yvb 25 511) HT_.out ?_
   refine yvu 9 22 (yvb 25 1023) HT_.out ?_
   refine yvu 10 23 (yvb 25 2047) HT_.out ?_
   refine yvu 11 24 (yvb 25 4095) HT_.out ?_
   refine yvp 12 25 (yvb 25 8191) HT_.out ?_
   refine yvp 13 26 (yvb 25 16383) HT_.out ?_
   refine yvu 14 27 (yvb 25 32767) HT_.out ?_
   refine yvu 15 28 (yvb 25 65535) HT_.out ?_
   refine yvu 16 29 (yvb 25 131071) HT_.out ?_
   refine yvu 17 30 (yvb 25 262143) HT_.out ?_
   refine yvu 18 31 (yvb 25 524287) HT_.out ?_
   refine yvu 19 32 (yvb 25 1048575) HT_.out ?_
   refine yvu 20 33 (yvb 25 2097151) HT_.out ?_
   refine yvu 21 34 (yvb 25 4194303) HT_.out ?_
   refine yvu 22 35 (yvb 25 8388607) HT_.out ?_
   refine yvu 23 36 (yvb 25 16777215) HT_.out ?_
   refine yvp 24 37 (yvb 25 33554431) HT_.out ?_
   refine done_ (done_of HT_.out (by kernel_rfl)) ?_
   try go_wp2
   go_roundg k1
   case measure=>have:=HK1.out;omega
   case rel=>exact ⟨(wrap64 (x5_1 + 1)),yeq,H,⟨by have:=HK1.out;omega⟩,⟨ybk BK413.out⟩,⟨yhb⟩⟩
  replace H:=yis H;obtain ⟨c8b0,H⟩ | ⟨c8b0,H⟩:=H
  rotate_left
  ·replace H:=yam H
   try go_wp2
   replace BK413:=yam (ybd BK413.out)
   replace HB:=yam (yed HB.out)
   obtain ⟨ad414,e414,hx414_0,p414,q414⟩:=yat HR0_1.out x5_1
   have hw414_0:=hx414_0
   cases e414
   replace hx414_0:=ybx HB.out hx414_0
   obtain ⟨ad415,e415,hx415_0,p415,q415⟩:=yat HR1.out x5_1
   have hw415_0:=hx415_0
   cases e415
   replace hx415_0:=ybx HB.out hx415_0
   refine start_ (n:=25) (S:=fun w'=>w'.cell? ⟨gb413,0,none⟩=some (.int .i64 a0_0)∧w'.cell? ⟨gb413,1,none⟩=some (.slice (some ad414) l0_1.length c0_1)∧w'.cell? ⟨gb413,2,none⟩=some (.slice A0_2 l0_2.length c0_2)∧w'.cell? (ad414.add (x5_1).toNat)=some (.int .i64 (rd l0_1 x5_1))∧w'.cell? (ad415.add (x5_1).toNat)=some (.int .i64 (rd l1 x5_1))) (ds:=[]) (yvb 25 0) (by kernel_rfl) rfl rfl ⟨(blk_cell BK413.out 0).trans rfl,(blk_cell BK413.out 1).trans rfl,(blk_cell BK413.out 2).trans rfl,((HB.out.cell (World.block_lt_of_cell? w _ hw414_0)).trans hw414_0),((HB.out.cell (World.block_lt_of_cell? w _ hw415_0)).trans hw415_0)⟩ (fun hHeld=>?_);refine with_tabW spec_l5Fits.tab4 spec_l5Fits.bits4 (fun HT_ HW_=>?_)
   generalize wr.drew=w12 at BK413 HB hx414_0 hx415_0 hHeld ⊢
   refine yvp 0 13 (yvb 25 1) HT_.out ?_
   refine yvp 2 15 (yvb 25 5) HT_.out ?_
   refine yvt 1 14 (yvb 25 7) HT_.out HW_.out hHeld ?_
   refine yvp 3 16 (yvb 25 15) HT_.out ?_
   refine yvt 4 17 (yvb 25 31) HT_.out HW_.out hHeld ?_
   refine yvp 5 18 (yvb 25 63) HT_.out ?_
   refine yvp 6 19 (yvb 25 127) HT_.out ?_
   refine yvp 7 20 (yvb 25 255) HT_.out ?_
   refine yvp 8 21 (yvb 25 511) HT_.out ?_
   refine yvp 9 22 (yvb 25 1023) HT_.out ?_
   refine yvt 10 23 (yvb 25 2047) HT_.out HW_.out hHeld ?_
   refine yvp 11 24 (yvb 25 4095) HT_.out ?_
   refine yvp 12 25 (yvb 25 8191) HT_.out ?_
   refine yvp 13 26 (yvb 25 16383) HT_.out ?_
   refine yvu 14 27 (yvb 25 32767) HT_.out ?_
   refine yvu 15 28 (yvb 25 65535) HT_.out ?_
   refine yvu 16 29 (yvb 25 131071) HT_.out ?_
   refine yvu 17 30 (yvb 25 262143) HT_.out ?_
   refine yvu 18 31 (yvb 25 524287) HT_.out ?_
   refine yvu 19 32 (yvb 25 1048575) HT_.out ?_
   refine yvu 20 33 (yvb 25 2097151) HT_.out ?_
   refine yvu 21 34 (yvb 25 4194303) HT_.out ?_
   refine yvu 22 35 (yvb 25 8388607) HT_.out ?_
   refine yvu 23 36 (yvb 25 16777215) HT_.out ?_
   refine yvp 24 37 (yvb 25 33554431) HT_.out ?_
   refine done_ (done_of HT_.out (by kernel_rfl)) ?_
   try go_wp2
   go_roundg k1
   case measure=>have:=HK1.out;omega
   case rel=>exact ⟨(wrap64 (x5_1 + 1)),yeq,H,⟨by have:=HK1.out;omega⟩,⟨ybk BK413.out⟩,⟨yhb⟩⟩
  replace H:=yit H;obtain ⟨c9,H⟩ | ⟨c9,H⟩:=H
  rotate_left
  ·have c9b0:((rd l1 x5_1) == (rd l0_1 x5_1))=false:=beq_eq_false_iff_ne.mpr c9
   have c9b1:((rd l1 x5_1) != (rd l0_1 x5_1))=true:=bne_iff_ne.mpr c9
   obtain rfl:=ysi H
   try go_wp2
   replace BK413:=yam (ybd BK413.out)
   replace HB:=yam (yed HB.out)
   obtain ⟨ad414,e414,hx414_0,p414,q414⟩:=yat HR0_1.out x5_1
   have hw414_0:=hx414_0
   cases e414
   replace hx414_0:=ybx HB.out hx414_0
   obtain ⟨ad415,e415,hx415_0,p415,q415⟩:=yat HR1.out x5_1
   have hw415_0:=hx415_0
   cases e415
   replace hx415_0:=ybx HB.out hx415_0
   obtain ⟨ad416,e416,hx416_0,p416,q416⟩:=yat HR1.out x5_1
   have hw416_0:=hx416_0
   obtain rfl:ad415=ad416:=(by injection e416)
   replace hx416_0:=ybx HB.out hx416_0
   obtain ⟨ad417,e417,hx417_0,p417,q417⟩:=yat HR0_1.out x5_1
   have hw417_0:=hx417_0
   obtain rfl:ad414=ad417:=(by injection e417)
   replace hx417_0:=ybx HB.out hx417_0
   refine start_ (n:=25) (S:=fun w'=>w'.cell? ⟨gb413,0,none⟩=some (.int .i64 a0_0)∧w'.cell? ⟨gb413,1,none⟩=some (.slice (some ad414) l0_1.length c0_1)∧w'.cell? ⟨gb413,2,none⟩=some (.slice A0_2 l0_2.length c0_2)∧w'.cell? (ad414.add (x5_1).toNat)=some (.int .i64 (rd l0_1 x5_1))∧w'.cell? (ad415.add (x5_1).toNat)=some (.int .i64 (rd l1 x5_1))∧w'.cell? (ad415.add (x5_1).toNat)=some (.int .i64 (rd l1 x5_1))∧w'.cell? (ad414.add (x5_1).toNat)=some (.int .i64 (rd l0_1 x5_1))) (ds:=[]) (yvb 25 0) (by kernel_rfl) rfl rfl ⟨(blk_cell BK413.out 0).trans rfl,(blk_cell BK413.out 1).trans rfl,(blk_cell BK413.out 2).trans rfl,((HB.out.cell (World.block_lt_of_cell? w _ hw414_0)).trans hw414_0),((HB.out.cell (World.block_lt_of_cell? w _ hw415_0)).trans hw415_0),((HB.out.cell (World.block_lt_of_cell? w _ hw416_0)).trans hw416_0),((HB.out.cell (World.block_lt_of_cell? w _ hw417_0)).trans hw417_0)⟩ (fun hHeld=>?_);refine with_tabW spec_l5Fits.tab4 spec_l5Fits.bits4 (fun HT_ HW_=>?_)
   generalize wr.drew=w11 at BK413 HB hx414_0 hx415_0 hx416_0 hx417_0 hHeld ⊢
   refine yvp 0 13 (yvb 25 1) HT_.out ?_
   refine yvp 2 15 (yvb 25 5) HT_.out ?_
   refine yvt 1 14 (yvb 25 7) HT_.out HW_.out hHeld ?_
   refine yvp 3 16 (yvb 25 15) HT_.out ?_
   refine yvt 4 17 (yvb 25 31) HT_.out HW_.out hHeld ?_
   refine yvp 5 18 (yvb 25 63) HT_.out ?_
   refine yvp 6 19 (yvb 25 127) HT_.out ?_
   refine yvp 7 20 (yvb 25 255) HT_.out ?_
   refine yvp 8 21 (yvb 25 511) HT_.out ?_
   refine yvp 9 22 (yvb 25 1023) HT_.out ?_
   refine yvt 10 23 (yvb 25 2047) HT_.out HW_.out hHeld ?_
   refine yvp 11 24 (yvb 25 4095) HT_.out ?_
   refine yvp 12 25 (yvb 25 8191) HT_.out ?_
   refine yvp 13 26 (yvb 25 16383) HT_.out ?_
   refine yvp 14 27 (yvb 25 32767) HT_.out ?_
   refine yvp 15 28 (yvb 25 65535) HT_.out ?_
   refine yvp 16 29 (yvb 25 131071) HT_.out ?_
   refine yvp 18 31 (yvb 25 393215) HT_.out ?_
   refine yvp 20 33 (yvb 25 1441791) HT_.out ?_
   refine yvt 17 30 (yvb 25 1572863) HT_.out HW_.out hHeld ?_
   refine yvt 19 32 (yvb 25 2097151) HT_.out HW_.out hHeld ?_
   refine yvp 21 34 (yvb 25 4194303) HT_.out ?_
   refine yvt 22 35 (yvb 25 8388607) HT_.out HW_.out hHeld ?_
   refine yvp 23 36 (yvb 25 16777215) HT_.out ?_
   refine yvp 24 37 (yvb 25 33554431) HT_.out ?_
   refine done_ (done_of HT_.out (by kernel_rfl)) ?_
   try go_wp2
   go_ret
   exact ⟨yer,yhb⟩
  have c9b0:((rd l1 x5_1) == (rd l0_1 x5_1))=true:=beq_iff_eq.mpr c9
  have c9b1:((rd l1 x5_1) != (rd l0_1 x5_1))=false:=bne_eq_false_iff_eq.mpr c9
  clear c9
  replace H:=yam H
  try go_wp2
  replace BK413:=yam (ybd BK413.out)
  replace HB:=yam (yed HB.out)
  obtain ⟨ad414,e414,hx414_0,p414,q414⟩:=yat HR0_1.out x5_1
  have hw414_0:=hx414_0
  cases e414
  replace hx414_0:=ybx HB.out hx414_0
  obtain ⟨ad415,e415,hx415_0,p415,q415⟩:=yat HR1.out x5_1
  have hw415_0:=hx415_0
  cases e415
  replace hx415_0:=ybx HB.out hx415_0
  obtain ⟨ad416,e416,hx416_0,p416,q416⟩:=yat HR1.out x5_1
  have hw416_0:=hx416_0
  obtain rfl:ad415=ad416:=(by injection e416)
  replace hx416_0:=ybx HB.out hx416_0
  obtain ⟨ad417,e417,hx417_0,p417,q417⟩:=yat HR0_1.out x5_1
  have hw417_0:=hx417_0
  obtain rfl:ad414=ad417:=(by injection e417)
  replace hx417_0:=ybx HB.out hx417_0
  refine start_ (n:=25) (S:=fun w'=>w'.cell? ⟨gb413,0,none⟩=some (.int .i64 a0_0)∧w'.cell? ⟨gb413,1,none⟩=some (.slice (some ad414) l0_1.length c0_1)∧w'.cell? ⟨gb413,2,none⟩=some (.slice A0_2 l0_2.length c0_2)∧w'.cell? (ad414.add (x5_1).toNat)=some (.int .i64 (rd l0_1 x5_1))∧w'.cell? (ad415.add (x5_1).toNat)=some (.int .i64 (rd l1 x5_1))∧w'.cell? (ad415.add (x5_1).toNat)=some (.int .i64 (rd l1 x5_1))∧w'.cell? (ad414.add (x5_1).toNat)=some (.int .i64 (rd l0_1 x5_1))) (ds:=[]) (yvb 25 0) (by kernel_rfl) rfl rfl ⟨(blk_cell BK413.out 0).trans rfl,(blk_cell BK413.out 1).trans rfl,(blk_cell BK413.out 2).trans rfl,((HB.out.cell (World.block_lt_of_cell? w _ hw414_0)).trans hw414_0),((HB.out.cell (World.block_lt_of_cell? w _ hw415_0)).trans hw415_0),((HB.out.cell (World.block_lt_of_cell? w _ hw416_0)).trans hw416_0),((HB.out.cell (World.block_lt_of_cell? w _ hw417_0)).trans hw417_0)⟩ (fun hHeld=>?_);refine with_tabW spec_l5Fits.tab4 spec_l5Fits.bits4 (fun HT_ HW_=>?_)
  generalize wr.drew=w10 at BK413 HB hx414_0 hx415_0 hx416_0 hx417_0 hHeld ⊢
  refine yvp 0 13 (yvb 25 1) HT_.out ?_
  refine yvp 2 15 (yvb 25 5) HT_.out ?_
  refine yvt 1 14 (yvb 25 7) HT_.out HW_.out hHeld ?_
  refine yvp 3 16 (yvb 25 15) HT_.out ?_
  refine yvt 4 17 (yvb 25 31) HT_.out HW_.out hHeld ?_
  refine yvp 5 18 (yvb 25 63) HT_.out ?_
  refine yvp 6 19 (yvb 25 127) HT_.out ?_
  refine yvp 7 20 (yvb 25 255) HT_.out ?_
  refine yvp 8 21 (yvb 25 511) HT_.out ?_
  refine yvp 9 22 (yvb 25 1023) HT_.out ?_
  refine yvt 10 23 (yvb 25 2047) HT_.out HW_.out hHeld ?_
  refine yvp 11 24 (yvb 25 4095) HT_.out ?_
  refine yvp 12 25 (yvb 25 8191) HT_.out ?_
  refine yvp 13 26 (yvb 25 16383) HT_.out ?_
  refine yvp 14 27 (yvb 25 32767) HT_.out ?_
  refine yvp 15 28 (yvb 25 65535) HT_.out ?_
  refine yvp 16 29 (yvb 25 131071) HT_.out ?_
  refine yvp 18 31 (yvb 25 393215) HT_.out ?_
  refine yvp 20 33 (yvb 25 1441791) HT_.out ?_
  refine yvt 17 30 (yvb 25 1572863) HT_.out HW_.out hHeld ?_
  refine yvt 19 32 (yvb 25 2097151) HT_.out HW_.out hHeld ?_
  refine yvp 21 34 (yvb 25 4194303) HT_.out ?_
  refine yvt 22 35 (yvb 25 8388607) HT_.out HW_.out hHeld ?_
  refine yvp 23 36 (yvb 25 16777215) HT_.out ?_
  refine yvp 24 37 (yvb 25 33554431) HT_.out ?_
  refine done_ (done_of HT_.out (by kernel_rfl)) ?_
  try go_wp2
  go_roundg k1
  case measure=>have:=HK1.out;omega
  case rel=>exact ⟨(wrap64 (x5_1 + 1)),yeq,H,⟨by have:=HK1.out;omega⟩,⟨ybk BK413.out⟩,⟨yhb⟩⟩
def spec_PuzzleFits.f (k:Nat)(a0_0:Int)(l0_1:List Int)(l0_2:List (S73))(l1:List Int):Option (Bool):=(spec_PuzzleValid.f k a0_0 l0_1 l0_2).bind fun t422=>(if t422=true then ((spec_GridValid.f k l1 a0_0).bind fun t423=>(if t423=true then ((spec_l5Fits.f k a0_0 l0_1 l0_2 l1).bind fun t424=>(some t424)) else (some false))) else (some false))
theorem spec_PuzzleFits.calls (k:Nat)(a0_0:Int)(A0_1:Option Addr)(c0_1:Nat)(l0_1:List Int)(A0_2:Option Addr)(c0_2:Nat)(l0_2:List (S73))(A1:Option Addr)(c1:Nat)(l1:List Int)(r:Bool)(w:World)(hr0_1:Kd.C (Kd.int .i64) w A0_1 l0_1.length l0_1)(hc0_1:l0_1.length≤c0_1)(hr0_2:Kd.C k73 w A0_2 l0_2.length l0_2)(hc0_2:l0_2.length≤c0_2)(hr1:Kd.C (Kd.int .i64) w A1 l1.length l1)(hc1:l1.length≤c1)(h:spec_PuzzleFits.f k a0_0 l0_1 l0_2 l1=some r) :
  Calls Try.prog 79 #[.agg #[.int .i64 a0_0,.slice A0_1 l0_1.length c0_1,.slice A0_2 l0_2.length c0_2],.slice A1 l1.length c1] w fun e w'=>e= .returned (.bool r)∧Below w.heap.size w w':=by
 have hu37:=Try.underlying37
 have HR0_1:=yam hr0_1
 have HC0_1:=yam hc0_1
 clear hr0_1 hc0_1
 have HR0_2:=yam hr0_2
 have HC0_2:=yam hc0_2
 clear hr0_2 hc0_2
 have HR1:=yam hr1
 have HC1:=yam hc1
 clear hr1 hc1
 have HB:=yam (Below.refl w.heap.size w)
 unfold spec_PuzzleFits.f at h
 have H:=h
 clear h
 replace H:=ybi H;obtain ⟨t422,A3,H⟩:=H
 try dsimp only at H
 cases t422
 ·replace H:=yff H
  obtain rfl:=ysi H
  go_enter Try.func79,Try.ntmps79
  go_wp2_with (first|(refine ybe 2 #[.int .i64 a0_0,.slice A0_1 l0_1.length c0_1,.slice A0_2 l0_2.length c0_2] 37 ?_;intro gb421 hg w17 hbox hb;have BK421:=yam (hbox);have GW421:=yam ((by rw [hg];exact (below_size (yez HB.out)):w.heap.size≤gb421));replace HB:=yam (below_step (yez HB.out) hb);have GE421:=GW421;clear hb hbox hg;obtain ⟨hcz18_0,hcz18_1,hcz18_2,hfz18_0,hfz18_1,hfz18_2⟩:=ybc BK421.out)|(refine goesL_ (some 6) rfl rfl Try.func62 (by kernel_rfl) rfl #[.agg #[.int .i64 a0_0,.slice A0_1 l0_1.length c0_1,.slice A0_2 l0_2.length c0_2]] rfl ymd ?_;(with_reducible refine (spec_PuzzleValid.calls k a0_0 _ _ l0_1 _ _ l0_2 false _ ?_ ?_ ?_ ?_ A3.out).mono ?_);exact Kd.Cz ((Kd.C_below HR0_1.out HB.out));exact HC0_1.out;exact Kd.Cz ((Kd.C_below HR0_2.out HB.out));exact HC0_2.out;rintro e w19 ⟨rfl,hb⟩;refine ⟨_,rfl,?_⟩;replace BK421:=yam (ybb BK421.out hb);replace HB:=yam (below_step yhb hb);(try clear hb)))
  go_ret
  exact ⟨yer,yhb⟩
 replace H:=ytt H
 replace H:=ybi H;obtain ⟨t423,A5,H⟩:=H
 try dsimp only at H
 cases t423
 ·replace H:=yff H
  obtain rfl:=ysi H
  go_enter Try.func79,Try.ntmps79
  go_wp2_with (first|(refine ybe 2 #[.int .i64 a0_0,.slice A0_1 l0_1.length c0_1,.slice A0_2 l0_2.length c0_2] 37 ?_;intro gb421 hg w13 hbox hb;have BK421:=yam (hbox);have GW421:=yam ((by rw [hg];exact (below_size (yez HB.out)):w.heap.size≤gb421));replace HB:=yam (below_step (yez HB.out) hb);have GE421:=GW421;clear hb hbox hg;obtain ⟨hcz14_0,hcz14_1,hcz14_2,hfz14_0,hfz14_1,hfz14_2⟩:=ybc BK421.out)|(refine goesL_ (some 6) rfl rfl Try.func62 (by kernel_rfl) rfl #[.agg #[.int .i64 a0_0,.slice A0_1 l0_1.length c0_1,.slice A0_2 l0_2.length c0_2]] rfl ymd ?_;(with_reducible refine (spec_PuzzleValid.calls k a0_0 _ _ l0_1 _ _ l0_2 true _ ?_ ?_ ?_ ?_ A3.out).mono ?_);exact Kd.Cz ((Kd.C_below HR0_1.out HB.out));exact HC0_1.out;exact Kd.Cz ((Kd.C_below HR0_2.out HB.out));exact HC0_2.out;rintro e w15 ⟨rfl,hb⟩;refine ⟨_,rfl,?_⟩;replace BK421:=yam (ybb BK421.out hb);replace HB:=yam (below_step yhb hb);(try clear hb);obtain ⟨hcz16_0,hcz16_1,hcz16_2,hfz16_0,hfz16_1,hfz16_2⟩:=ybc BK421.out)|(go_at_call 84;(with_reducible refine (spec_GridValid.calls k _ _ l1 a0_0 false _ ?_ ?_ A5.out).mono ?_);exact Kd.Cz ((Kd.C_below HR1.out HB.out));exact HC1.out;rintro e w' ⟨rfl,⟨nd,rfl⟩⟩))
  go_ret
  exact ⟨yer,yhb⟩
 replace H:=ytt H
 replace H:=ybi H;obtain ⟨t424,A7,H⟩:=H
 try dsimp only at H
 obtain rfl:=ysi H
 go_enter Try.func79,Try.ntmps79
 go_wp2_with (first|(refine ybe 2 #[.int .i64 a0_0,.slice A0_1 l0_1.length c0_1,.slice A0_2 l0_2.length c0_2] 37 ?_;intro gb421 hg w8 hbox hb;have BK421:=yam (hbox);have GW421:=yam ((by rw [hg];exact (below_size (yez HB.out)):w.heap.size≤gb421));replace HB:=yam (below_step (yez HB.out) hb);have GE421:=GW421;clear hb hbox hg;obtain ⟨hcz9_0,hcz9_1,hcz9_2,hfz9_0,hfz9_1,hfz9_2⟩:=ybc BK421.out)|(refine goesL_ (some 6) rfl rfl Try.func62 (by kernel_rfl) rfl #[.agg #[.int .i64 a0_0,.slice A0_1 l0_1.length c0_1,.slice A0_2 l0_2.length c0_2]] rfl ymd ?_;(with_reducible refine (spec_PuzzleValid.calls k a0_0 _ _ l0_1 _ _ l0_2 true _ ?_ ?_ ?_ ?_ A3.out).mono ?_);exact Kd.Cz ((Kd.C_below HR0_1.out HB.out));exact HC0_1.out;exact Kd.Cz ((Kd.C_below HR0_2.out HB.out));exact HC0_2.out;rintro e w10 ⟨rfl,hb⟩;refine ⟨_,rfl,?_⟩;replace BK421:=yam (ybb BK421.out hb);replace HB:=yam (below_step yhb hb);(try clear hb);obtain ⟨hcz11_0,hcz11_1,hcz11_2,hfz11_0,hfz11_1,hfz11_2⟩:=ybc BK421.out)|(go_at_call 84;(with_reducible refine (spec_GridValid.calls k _ _ l1 a0_0 true _ ?_ ?_ A5.out).mono ?_);exact Kd.Cz ((Kd.C_below HR1.out HB.out));exact HC1.out;rintro e w' ⟨rfl,⟨nd,rfl⟩⟩)|(go_at_call 90;(with_reducible refine (spec_l5Fits.calls k a0_0 _ _ l0_1 _ _ l0_2 _ _ l1 t424 _ ?side1 ?side2 ?side3 ?side4 ?side5 ?side6 A7.out).mono ?_);(case side1=>repeat (first|exact (Kd.C_below HR0_1.out yhb)|(with_reducible refine Kd.C_alloc ?_ _)|(with_reducible refine Kd.C_drewN ?_ _)|(with_reducible refine Kd.C_drew ?_)));(case side2=>exact HC0_1.out);(case side3=>repeat (first|exact (Kd.C_below HR0_2.out yhb)|(with_reducible refine Kd.C_alloc ?_ _)|(with_reducible refine Kd.C_drewN ?_ _)|(with_reducible refine Kd.C_drew ?_)));(case side4=>exact HC0_2.out);(case side5=>repeat (first|exact (Kd.C_below HR1.out yhb)|(with_reducible refine Kd.C_alloc ?_ _)|(with_reducible refine Kd.C_drewN ?_ _)|(with_reducible refine Kd.C_drew ?_)));(case side6=>exact HC1.out);rintro e w12 ⟨rfl,hb⟩;replace BK421:=yam (ybb BK421.out hb);replace HB:=yam (below_step yhb hb);(try clear hb)))
 go_ret
 exact ⟨yer,yhb⟩
end Go.Proofs.Ytmjbnghhfadapaa.P
