/- The machine's side: each Go function as a plain Lean function and the proof that the machine's call does what that function says; written by this session's own program over the kit's print. -/
import Derived.Test.YtdemlminhkhonaaZP1
import Derived.Test.YtdemlminhkhonaaZP2
namespace Go.Proofs.Ytdemlminhkhonaa.P
set_option maxHeartbeats 8000000
set_option maxRecDepth 100000
open Go.RowKit Go.Proofs.YtdemlminhkhonaaW.PrintWords Go.Proofs.YtdemlminhkhonaaW.PrintLast Go.Proofs.YtdemlminhkhonaaW.PrintMore
attribute [local go_sem] max2_int min2_int max_two min_two max_three min_three max_four min_four   -- for this text's walks alone
set_option linter.unusedVariables false
set_option linter.unusedSimpArgs false
mutual
def spec_l4Ways.l0:Nat→List Int→List Int→Int→Int→Option (List Int)
 | 0,_,_,_,_=>none
 | k + 1,x2,x3,x8,x9=>if x9 < x8 then (if 0≤x9 then (if x9 < (x3.length:Int) then (if x9 < (x2.length:Int) then (if 0≤(rd x2 x9) then (spec_l4Ways.l0 k x2 (x3.set (x9:Int).toNat (Go.bits .or .i64 (rd x3 x9) (shl .i64 1 (rd x2 x9)))) x8 (wrap64 (x9 + 1))) else (none)) else (none)) else (none)) else (none)) else (some x3)
def spec_l4Ways.l1:Nat→List Int→List Int→List Int→List Int→Int→Int→List Int→Int→Option (List Int)
 | 0,_,_,_,_,_,_,_,_=>none
 | k + 1,x1,x2,x3,x10,x11,x214000,x214001,x214002=>if x11 < (x10.length:Int) then ((some (([]:List Int):List Int)).bind fun y223=>(if y223.length + x2.length < 17592186044416 then ((some (y223 ++ x2:List Int)).bind fun y226=>(if 0≤x11 then ((some (([rd x10 x11]:List Int):List Int)).bind fun y230=>(if y226.length + y230.length < 17592186044416 then ((spec_l4Ways.f k x214000 x214001 x214002 x1 (y226 ++ y230) x3).bind fun t236=>(spec_l4Ways.l1 k x1 x2 t236 x10 (wrap64 (x11 + 1)) x214000 x214001 x214002)) else (none))) else (none))) else (none))) else (some x3)
def spec_l4Ways.f:Nat→Int→List Int→Int→List Int→List Int→List Int→Option (List Int)
 | 0,_,_,_,_,_,_=>none
 | k + 1,a0_0,l0_1,a0_2,l1,l2,l3=>if (l2.length:Int)=(l0_1.length:Int) then ((spec_l4Holds.f k a0_0 l0_1 a0_2 l2).bind fun t214=>(if t214=true then (spec_l4Ways.l0 k l2 l3 (l2.length:Int) 0) else (some l3))) else (if 0≤(l2.length:Int) then (if (l2.length:Int) < (l0_1.length:Int) then (if 0≤(rd l0_1 (l2.length:Int)) then (if (rd l0_1 (l2.length:Int)) < (l1.length:Int) then ((spec_MaskValues.f k (rd l1 (rd l0_1 (l2.length:Int)))).bind fun t220=>(spec_l4Ways.l1 k l1 l2 l3 t220 0 a0_0 l0_1 a0_2)) else (none)) else (none)) else (none)) else (none))
end
def spec_l4Ways.T7:Bool × List (List Nat × List Nat):=(true,[([],[]),([],[]),([],[]),([],[]),([2,3],[2,3]),([4],[4]),([],[]),([],[]),([6,7],[6,7]),([8],[8]),([9],[9]),([5,10],[5,10]),([0,1,0,1,2,3,4,5,6,7,8,9,10,11],[0,1]),([12,11,0,1,2,3,4,5,6,7,8,9,10,11],[11,12])])
def spec_l4Ways.B7:List Nat:=[0,0,0,0,12,28,0,0,192,448,960,2044,4095,8191]
theorem spec_l4Ways.tab7:rtab .any (opsOf Try.f90 7)=spec_l4Ways.T7:=by kernel_rfl
theorem spec_l4Ways.bits7:waitsOk spec_l4Ways.T7.2 spec_l4Ways.B7=true:=by kernel_rfl
def spec_l4Ways.T12:Bool × List (List Nat × List Nat):=(true,[([],[]),([],[]),([],[]),([],[]),([2,3],[2,3]),([],[]),([],[]),([5,6],[5,6]),([7],[7]),([8],[8]),([4,9,4],[4,9]),([],[]),([0,1,10,11,10],[0,1,10,11])])
def spec_l4Ways.B12:List Nat:=[0,0,0,0,12,0,0,96,224,480,1020,0,4095]
theorem spec_l4Ways.tab12:rtab .any (opsOf Try.f90 12)=spec_l4Ways.T12:=by kernel_rfl
theorem spec_l4Ways.bits12:waitsOk spec_l4Ways.T12.2 spec_l4Ways.B12=true:=by kernel_rfl
theorem spec_l4Ways.calls (k:Nat):∀ (a0_0:Int) (A0_1:Option Addr) (c0_1:Nat) (l0_1:List Int) (a0_2:Int) (A1:Option Addr) (c1:Nat) (l1:List Int) (A2:Option Addr) (c2:Nat) (l2:List Int) (P3_:Nat→Prop) (u9000_:Value) (l3:List Int) (r:List Int) (w0 w:World) (hB:Below w0.heap.size w0 w) (hr0_1:∀ W_,Kept w W_ (fun k_=>P3_ k_)→Kd.C (Kd.int .i64) W_ A0_1 l0_1.length l0_1) (hc0_1:l0_1.length≤c0_1) (hr1:∀ W_,Kept w W_ (fun k_=>P3_ k_)→Kd.C (Kd.int .i64) W_ A1 l1.length l1) (hc1:l1.length≤c1) (hr2:∀ W_,Kept w W_ (fun k_=>P3_ k_)→Kd.C (Kd.int .i64) W_ A2 l2.length l2) (hc2:l2.length≤c2) (ho3:Kd.R (Kd.int .i64) 3 w w0.heap.size P3_ u9000_ l3) (h:spec_l4Ways.f k a0_0 l0_1 a0_2 l1 l2 l3=some r),
  Calls Try.prog 90 #[.agg #[.int .i64 a0_0,.slice A0_1 l0_1.length c0_1,.int .i64 a0_2],.slice A1 l1.length c1,.slice A2 l2.length c2,u9000_] w fun e w'=>e= .returned (.tuple #[])∧Kd.R (Kd.int .i64) 3 w' w0.heap.size (fun k_=>(P3_ k_∨w.heap.size≤k_)) u9000_ r∧Below w0.heap.size w0 w'∧Kept w w' (fun k_=>P3_ k_):=by
 induction k using Nat.strongRecOn with
 | _ k ih =>
 intro a0_0 A0_1 c0_1 l0_1 a0_2 A1 c1 l1 A2 c2 l2 P3_ u9000_ l3 r w0 w hB hr0_1 hc0_1 hr1 hc1 hr2 hc2 ho3 h
 cases k with
 | zero=>exact absurd h (by simp [spec_l4Ways.f])
 | succ k =>
 simp only [spec_l4Ways.f] at h
 have hu67:=Try.underlying67
 have HR0_1:=yam hr0_1
 have HC0_1:=yam hc0_1
 clear hr0_1 hc0_1
 have HR1:=yam hr1
 have HC1:=yam hc1
 clear hr1 hc1
 have HR2:=yam hr2
 have HC2:=yam hc2
 clear hr2 hc2
 have HO3:=yam (show Kd.R (Kd.int .i64) 3 w w0.heap.size (fun k_=>(P3_ k_∨w.heap.size≤k_)) u9000_ l3 from Kd.R_mono ho3 (fun k_ hk=>(.inl hk)))
 have HK:=yam (Kept.refl w (fun k_=>P3_ k_))
 have HW0:=yam hB.size
 have HB:=yam hB
 clear hB
 have H:=h
 clear h
 replace H:=yit H;obtain ⟨c5,H⟩ | ⟨c5,H⟩:=H
 ·have c5b0:((l2.length:Int) == (l0_1.length:Int))=true:=beq_iff_eq.mpr c5
  have c5b1:((l2.length:Int) != (l0_1.length:Int))=false:=bne_eq_false_iff_eq.mpr c5
  have c5b2:(l2.length == l0_1.length)=true:=by first|simpa using c5|(simp at c5 ⊢;omega)
  clear c5
  replace H:=ybi H;obtain ⟨t214,A6,H⟩:=H
  try dsimp only at H
  cases t214
  ·replace H:=yff H
   obtain rfl:=ysi H
   go_enter Try.func90,Try.ntmps90
   go_wp2_with (first|(refine ybe 4 #[.int .i64 a0_0,.slice A0_1 l0_1.length c0_1,.int .i64 a0_2] 67 ?_;intro gb213 hg w21 hbox hb;replace HO3:=yam (Kd.R_below (Kd.Yz HO3.out) hb);have BK213:=yam (hbox);have GW213:=yam ((by rw [hg];exact (by first|exact HK.out.1|exact (show Kept w _ (fun k_=>P3_ k_) from by repeat (first|(with_reducible first|exact HK.out|apply Kept.alloc|apply Kept.drewN|apply Kept.drew)|exact HK.out)).1):w.heap.size≤gb213));replace HK:=yam (Kept.below (S:=(fun k_=>P3_ k_)) (by repeat (first|(with_reducible first|exact HK.out|apply Kept.alloc|apply Kept.drewN|apply Kept.drew)|exact HK.out)) hb);have GE213:=yam ((by rw [hg];exact (below_size (yez HB.out)):w0.heap.size≤gb213));replace HB:=yam (below_step (yez HB.out) hb);clear hb hbox hg;obtain ⟨hcz22_0,hcz22_1,hcz22_2,hfz22_0,hfz22_1,hfz22_2⟩:=ybc BK213.out)|(refine goesL_ (some 21) rfl rfl Try.func97 (by kernel_rfl) rfl #[.agg #[.int .i64 a0_0,.slice A0_1 l0_1.length c0_1,.int .i64 a0_2],.slice A2 l2.length c2] rfl ymd ?_;(with_reducible refine (spec_l4Holds.calls k a0_0 _ _ l0_1 a0_2 _ _ l2 false _ ?_ ?_ ?_ ?_ A6.out).mono ?_);exact Kd.C_kept_now HR0_1.out (by repeat (first|(with_reducible first|exact HK.out|apply Kept.alloc|apply Kept.drewN|apply Kept.drew|refine Kept.setCell ?_ (.inr GW213.out) _)|exact HK.out));exact HC0_1.out;exact Kd.C_kept_now HR2.out (by repeat (first|(with_reducible first|exact HK.out|apply Kept.alloc|apply Kept.drewN|apply Kept.drew|refine Kept.setCell ?_ (.inr GW213.out) _)|exact HK.out));exact HC2.out;rintro e w23 ⟨rfl,hb⟩;refine ⟨_,rfl,?_⟩;replace HO3:=yam (Kd.R_below (Kd.Yz HO3.out) hb);replace BK213:=yam (ybb BK213.out hb);replace HK:=yam (Kept.below (S:=(fun k_=>P3_ k_)) (by repeat (first|(with_reducible first|exact HK.out|apply Kept.alloc|apply Kept.drewN|apply Kept.drew|refine Kept.setCell ?_ (.inr GW213.out) _)|exact HK.out)) hb);replace HB:=yam (below_step yhb hb);(try clear hb)))
   first|go_end0|((try simp only [Exit.inBlock,Exit.then]);refine bodyPost_ret (results_none rfl _ _ _) rfl ?_)
   exact ⟨yer,yka HO3.out,yhb,by repeat (first|(with_reducible first|exact HK.out|apply Kept.alloc|apply Kept.drewN|apply Kept.drew|refine Kept.setCell ?_ (.inr GW213.out) _)|exact HK.out)⟩
  replace H:=ytt H
  replace H:=yam H
  go_enter Try.func90,Try.ntmps90
  go_wp2_with (first|(refine ybe 4 #[.int .i64 a0_0,.slice A0_1 l0_1.length c0_1,.int .i64 a0_2] 67 ?_;intro gb213 hg w8 hbox hb;replace HO3:=yam (Kd.R_below (Kd.Yz HO3.out) hb);have BK213:=yam (hbox);have GW213:=yam ((by rw [hg];exact (by first|exact HK.out.1|exact (show Kept w _ (fun k_=>P3_ k_) from by repeat (first|(with_reducible first|exact HK.out|apply Kept.alloc|apply Kept.drewN|apply Kept.drew)|exact HK.out)).1):w.heap.size≤gb213));replace HK:=yam (Kept.below (S:=(fun k_=>P3_ k_)) (by repeat (first|(with_reducible first|exact HK.out|apply Kept.alloc|apply Kept.drewN|apply Kept.drew)|exact HK.out)) hb);have GE213:=yam ((by rw [hg];exact (below_size (yez HB.out)):w0.heap.size≤gb213));replace HB:=yam (below_step (yez HB.out) hb);clear hb hbox hg;obtain ⟨hcz9_0,hcz9_1,hcz9_2,hfz9_0,hfz9_1,hfz9_2⟩:=ybc BK213.out)|(refine goesL_ (some 21) rfl rfl Try.func97 (by kernel_rfl) rfl #[.agg #[.int .i64 a0_0,.slice A0_1 l0_1.length c0_1,.int .i64 a0_2],.slice A2 l2.length c2] rfl ymd ?_;(with_reducible refine (spec_l4Holds.calls k a0_0 _ _ l0_1 a0_2 _ _ l2 true _ ?_ ?_ ?_ ?_ A6.out).mono ?_);exact Kd.C_kept_now HR0_1.out (by repeat (first|(with_reducible first|exact HK.out|apply Kept.alloc|apply Kept.drewN|apply Kept.drew|refine Kept.setCell ?_ (.inr GW213.out) _)|exact HK.out));exact HC0_1.out;exact Kd.C_kept_now HR2.out (by repeat (first|(with_reducible first|exact HK.out|apply Kept.alloc|apply Kept.drewN|apply Kept.drew|refine Kept.setCell ?_ (.inr GW213.out) _)|exact HK.out));exact HC2.out;rintro e w10 ⟨rfl,hb⟩;refine ⟨_,rfl,?_⟩;replace HO3:=yam (Kd.R_below (Kd.Yz HO3.out) hb);replace BK213:=yam (ybb BK213.out hb);replace HK:=yam (Kept.below (S:=(fun k_=>P3_ k_)) (by repeat (first|(with_reducible first|exact HK.out|apply Kept.alloc|apply Kept.drewN|apply Kept.drew|refine Kept.setCell ?_ (.inr GW213.out) _)|exact HK.out)) hb);replace HB:=yam (below_step yhb hb);(try clear hb)))
  go_loopg [9] k (fun kq v9 w'=>∃ (x3_1:List Int) (x9_1:Int),v9= .int .i64 x9_1∧Aside0 (spec_l4Ways.l0 kq l2 x3_1 (l2.length:Int) x9_1=some r)∧Aside0 (kq≤k)∧Aside0 (Kd.R (Kd.int .i64) 3 w' w0.heap.size (fun k_=>(P3_ k_∨w.heap.size≤k_)) u9000_ x3_1)∧Aside0 (w'.heap[gb213]?=some (.cells #[.int .i64 a0_0,(.slice A0_1 l0_1.length c0_1),.int .i64 a0_2] 67 (0,0)))∧Aside0 (Kept w w' (fun k_=>P3_ k_))∧Aside0 (Below w0.heap.size w0 w'))
  case atStart=>exact ⟨(l3),(0),yeq,H,⟨Nat.le_refl _⟩,⟨yka HO3.out⟩,⟨ybk BK213.out⟩,⟨by repeat (first|(with_reducible first|exact HK.out|apply Kept.alloc|apply Kept.drewN|apply Kept.drew|refine Kept.setCell ?_ (.inr GW213.out) _)|exact HK.out)⟩,⟨yhb⟩⟩
  case round =>
   clear H
   try clear c1
   try clear c2
   try clear c5b0
   try clear c5b1
   try clear c5b2
   try clear hcz9_0
   try clear hcz9_1
   try clear hcz9_2
   try clear hfz9_0
   try clear hfz9_1
   try clear hfz9_2
   obtain ⟨x3_1,x9_1,rfl,HA,HK1,HO_3,BK213,HK,HB⟩:=hrel
   rcases gk with _|k1
   ·exact absurd HA.out (by simp [spec_l4Ways.l0])
   obtain ⟨H⟩:=HA
   simp only [spec_l4Ways.l0] at H
   replace H:=yis H;obtain ⟨c11b0,H⟩ | ⟨c11b0,H⟩:=H
   rotate_left
   ·obtain rfl:=ysi H
    go_wp2
    first|go_end0|((try simp only [Exit.inBlock,Exit.then]);refine bodyPost_ret (results_none rfl _ _ _) rfl ?_)
    exact ⟨yer,yka HO_3.out,yhb,by repeat (first|(with_reducible first|exact HK.out|apply Kept.alloc|apply Kept.drewN|apply Kept.drew|refine Kept.setCell ?_ (.inr GW213.out) _)|exact HK.out)⟩
   replace H:=yif H;obtain ⟨c12b0,H⟩:=H
   replace H:=yif H;obtain ⟨c13b0,H⟩:=H
   replace H:=yif H;obtain ⟨c14b0,H⟩:=H
   replace H:=yig H;obtain ⟨c15,H⟩:=H
   have c15b0:=eq_true c15
   have c15b1:decide (0≤(rd l2 x9_1))=true:=decide_eq_true c15
   clear c15
   obtain ⟨ji16,hji16⟩:∃ j_:Int,(shl .i64 1 (rd l2 x9_1))=j_:=⟨_,rfl⟩
   replace H:(spec_l4Ways.l0 k1 l2 (x3_1.set (x9_1:Int).toNat (Go.bits .or .i64 (rd x3_1 x9_1) (ji16))) (l2.length:Int) (wrap64 (x9_1 + 1)))=some r:=by first|(rw [hji16] at H;exact H)|(simp only [hji16] at H ⊢;exact H)
   have hji16_:(IntKind.i64.wrap (1 * 2 ^ min (rd l2 x9_1).toNat 64))=ji16:=hji16
   have hji16z:(rd l2 x9_1)≤64→(IntKind.i64.wrap (1 * 2 ^ (rd l2 x9_1).toNat))=ji16:=shl_small hji16
   have hji16u:(IntKind.i64.wrap (2 ^ min (rd l2 x9_1).toNat 64))=ji16:=by have h_:=hji16_;rw [Int.one_mul] at h_;exact h_
   have hji16v:(rd l2 x9_1)≤64→(IntKind.i64.wrap (2 ^ (rd l2 x9_1).toNat))=ji16:=fun hle_=>by have h_:=hji16z hle_;rw [Int.one_mul] at h_;exact h_
   have hji16y:(wrap64 (1 * 2 ^ min (rd l2 x9_1).toNat 64))=ji16:=(i64_w _).symm.trans hji16_
   have hji16x:(rd l2 x9_1)≤64→(wrap64 (1 * 2 ^ (rd l2 x9_1).toNat))=ji16:=fun h_=>(i64_w _).symm.trans (hji16z h_)
   obtain ⟨y217,Ny217⟩:∃ y_:List Int,Aside0 (y_=(x3_1.set (x9_1:Int).toNat (Go.bits .or .i64 (rd x3_1 x9_1) (ji16)))):=⟨_,⟨rfl⟩⟩
   replace H:(spec_l4Ways.l0 k1 l2 y217 (l2.length:Int) (wrap64 (x9_1 + 1)))=some r:=yhn Ny217.out H
   replace H:=yam H
   try go_wp2
   replace HO_3:=yam (Kd.Yd HO_3.out)
   replace BK213:=yam (ybd BK213.out)
   replace HK:=yam (Kept.drew HK.out)
   replace HB:=yam (yed HB.out)
   obtain ⟨Ao19,co19,eo19⟩:=Kd.R_slice HO_3.out
   (first|subst eo19|(injection eo19 with f1_ f2_ f3_;have f4_:=f1_.symm;have f5_:=f3_.symm;clear f1_ f2_ f3_;subst f4_;subst f5_))
   obtain ⟨ad215,e215,hx215_0,p215,q215⟩:=yat (Kd.Yr HO_3.out).2.2 x9_1
   cases e215
   obtain ⟨ad216,e216,hx216_0,p216,q216⟩:=yat (Kd.C_kept_now HR2.out HK.out) x9_1
   have hw216_0:=hx216_0
   cases e216
   have p17:0≤(x9_1:Int):=ydt
   have q17:(x9_1:Int) < ((x3_1.length:Int):Int):=ydt
   obtain ⟨go17,co17,eo17,gb17,gl17,cl17,HG17⟩:=Kd.R_form HO_3.out (by omega)
   (first|cases eo17|(injection eo17 with ea_ en_ ec_;(first|subst ea_|(injection ea_ with ea_;subst ea_));subst ec_;clear en_))
   have GB17:=yam gb17
   have GG17:=yam HG17
   clear gb17 gl17 HG17
   have HMgo17:=yam (show (P3_ go17∨w.heap.size≤go17) from (HO_3.out.1 _ rfl))
   (first|simp only [add_plain] at hx215_0|skip)
   obtain ⟨hx17_0,hf17_0⟩:=Kd.R_celln 0 HO_3.out (x9_1:Int) p17 q17
   replace p17:=eq_true p17
   replace q17:=eq_true q17
   have HP20:=Kd.R_putn HO_3.out (x9_1:Int) (Go.bits .or .i64 (rd x3_1 x9_1) (ji16))
   rw [← Ny217.out] at HP20
   have HQ20:=yam HP20
   clear HP20
   refine start_ (n:=14) (S:=fun w'=>w'.cell? ⟨go17,(x9_1).toNat,none⟩=some (.int .i64 (rd x3_1 x9_1))∧w'.cell? (ad216.add (x9_1).toNat)=some (.int .i64 (rd l2 x9_1))) (ds:=[13]) (yvb 14 0) (by kernel_rfl) rfl rfl ⟨hx215_0,(Kd.foot_int (HR2.out _ (by repeat (first|exact HK.out|apply Kept.alloc|apply Kept.drewN|apply Kept.drew|refine Kept.setCell ?_ HMgo17.out _))) x9_1 (of_eq_true p216) (of_eq_true q216))⟩ (fun hHeld=>?_);refine with_tabW spec_l4Ways.tab7 spec_l4Ways.bits7 (fun HT_ HW_=>?_)
   generalize wr.drew=w18 at HO_3 BK213 HK HB GG17 HQ20 hf17_0 hx17_0 hx215_0 hx216_0 hHeld ⊢
   refine yvp 0 27 (yvb 14 1) HT_.out ?_
   refine yvp 1 28 (yvb 14 3) HT_.out ?_
   refine yvp 2 29 (yvb 14 7) HT_.out ?_
   refine yvp 3 30 (yvb 14 15) HT_.out ?_
   refine yvp 4 31 (yvb 14 31) HT_.out ?_
   refine yvp 6 33 (yvb 14 95) HT_.out ?_
   refine yvp 7 34 (yvb 14 223) HT_.out ?_
   refine yvp 8 35 (yvb 14 479) HT_.out ?_
   refine yvt 5 32 (yvb 14 511) HT_.out HW_.out hHeld ?_
   refine yvt 9 36 (yvb 14 1023) HT_.out HW_.out hHeld ?_
   refine yvp 10 37 (yvb 14 2047) HT_.out ?_
   refine yvp 11 38 (yvb 14 4095) HT_.out ?_
   refine yvp 12 39 (yvb 14 8191) HT_.out ?_
   refine last_ (i:=13) (N:=none) (yvb 14 16383) rfl rfl (one_of HT_.out (by kernel_rfl)) (by decide) (fun K hK=>?_)
   refine skip_ (w1:=?_) (by rfl) rfl ?_ ?_
   rotate_left
   ·go_simp
    rfl
   refine hK.out _ _ ?_
   clear hK K
   refine done_ (done_of HT_.out (by kernel_rfl)) ?_
   try go_wp2
   go_roundg k1
   case measure=>have:=HK1.out;omega
   case rel=>exact ⟨(y217),(wrap64 (x9_1 + 1)),yeq,H,⟨by have:=HK1.out;omega⟩,⟨yka HQ20.out⟩,⟨by (with_reducible repeat (first|refine ybn ?_ _|refine ybd ?_|refine yba ?_ _));refine blk_far ?_ (by have h_:=Kd.R_ne HO_3.out BK213.out (by decide);intro e_;exact h_ (by rw [e_];rfl)) _;(with_reducible repeat (first|refine ybn ?_ _|refine ybd ?_|refine yba ?_ _));exact BK213.out⟩,⟨by repeat (first|(with_reducible first|exact HK.out|apply Kept.alloc|apply Kept.drewN|apply Kept.drew|refine Kept.setCell ?_ HMgo17.out _|refine Kept.setCell ?_ (.inr GW213.out) _)|exact HK.out)⟩,⟨yhb⟩⟩
 have c5b0:((l2.length:Int) == (l0_1.length:Int))=false:=beq_eq_false_iff_ne.mpr c5
 have c5b1:((l2.length:Int) != (l0_1.length:Int))=true:=bne_iff_ne.mpr c5
 have c5b2:(l2.length == l0_1.length)=false:=by first|simpa using c5|(simp at c5 ⊢;omega)
 replace H:=yit H;obtain ⟨c24,H⟩ | ⟨c24,H⟩:=H
 rotate_left
 ·exact absurd H (by simp)
 have c24b0:decide (0≤(l2.length:Int))=true:=decide_eq_true c24
 have c24b1:decide (0≤l2.length)=true:=decide_eq_true (by omega)
 clear c24
 replace H:=yig H;obtain ⟨c25,H⟩:=H
 have c25b0:decide ((l2.length:Int) < (l0_1.length:Int))=true:=decide_eq_true c25
 have c25b1:decide (l2.length < l0_1.length)=true:=decide_eq_true (Int.ofNat_lt.mp c25)
 clear c25
 replace H:=yif H;obtain ⟨c26b0,H⟩:=H
 replace H:=yif H;obtain ⟨c27b0,H⟩:=H
 replace H:=ybi H;obtain ⟨t220,A28,H⟩:=H
 try dsimp only at H
 replace H:=yam H
 go_enter Try.func90,Try.ntmps90
 go_wp2_with (first|(refine ybe 4 #[.int .i64 a0_0,.slice A0_1 l0_1.length c0_1,.int .i64 a0_2] 67 ?_;intro gb213 hg w29 hbox hb;replace HO3:=yam (Kd.R_below (Kd.Yz HO3.out) hb);have BK213:=yam (hbox);have GW213:=yam ((by rw [hg];exact (by first|exact HK.out.1|exact (show Kept w _ (fun k_=>P3_ k_) from by repeat (first|(with_reducible first|exact HK.out|apply Kept.alloc|apply Kept.drewN|apply Kept.drew)|exact HK.out)).1):w.heap.size≤gb213));replace HK:=yam (Kept.below (S:=(fun k_=>P3_ k_)) (by repeat (first|(with_reducible first|exact HK.out|apply Kept.alloc|apply Kept.drewN|apply Kept.drew)|exact HK.out)) hb);have GE213:=yam ((by rw [hg];exact (below_size (yez HB.out)):w0.heap.size≤gb213));replace HB:=yam (below_step (yez HB.out) hb);clear hb hbox hg;obtain ⟨hcz30_0,hcz30_1,hcz30_2,hfz30_0,hfz30_1,hfz30_2⟩:=ybc BK213.out;have p218:0≤((l2.length:Int):Int):=ydt;have q218:(l2.length:Int) < (l0_1.length:Int):=ydt;obtain ⟨ad218,e218,hx218_0⟩:=Kd.at_int (Kd.C_kept_now HR0_1.out HK.out) (l2.length:Int) p218 q218;cases e218;(try simp only [Go.IntWalk.toNatUp] at hx218_0);replace p218:=eq_true p218;replace q218:=eq_true q218;have p219:0≤((rd l0_1 (l2.length:Int)):Int):=ydt;have q219:(rd l0_1 (l2.length:Int)) < (l1.length:Int):=ydt;obtain ⟨ad219,e219,hx219_0⟩:=Kd.at_int (Kd.C_kept_now HR1.out HK.out) (rd l0_1 (l2.length:Int)) p219 q219;cases e219;(try simp only [Go.IntWalk.toNatUp] at hx219_0);replace p219:=eq_true p219;replace q219:=eq_true q219)|(refine goesL_ (some 48) rfl rfl Try.func72 (by kernel_rfl) rfl #[.int .i64 (rd l1 (rd l0_1 (l2.length:Int)))] rfl ymd ?_;(with_reducible refine (spec_MaskValues.calls k (rd l1 (rd l0_1 (l2.length:Int))) t220 _ A28.out).mono ?_);rintro e w31 ⟨v221,rfl,ho0,hb⟩;refine ⟨_,rfl,?_⟩;have HO222:=yam (Kd.R_lower (Kd.Yw (Kd.R_newM (M:=fun k_=>(P3_ k_∨w.heap.size≤k_)) ho0 (by first|exact HK.out.1|exact (show Kept w _ (fun k_=>P3_ k_) from by repeat (first|(with_reducible first|exact HK.out|apply Kept.alloc|apply Kept.drewN|apply Kept.drew|refine Kept.setCell ?_ (.inr GW213.out) _)|exact HK.out)).1) (fun k_ h_=> .inr h_)) (Kd.R_lt (Kd.Yz HO3.out))) (below_size yhb));replace HO3:=yam (Kd.Ye (Kd.Yz HO3.out) (Kd.Yb ho0) hb);replace BK213:=yam (ybb BK213.out hb);replace HK:=yam (Kept.below (S:=(fun k_=>P3_ k_)) (by repeat (first|(with_reducible first|exact HK.out|apply Kept.alloc|apply Kept.drewN|apply Kept.drew|refine Kept.setCell ?_ (.inr GW213.out) _)|exact HK.out)) hb);replace HB:=yam (below_step yhb hb);(try clear hb);(try clear ho0)))
 go_loopg [11] k (fun kq v11 w'=>∃ (x3_1:List Int) (x11_1:Int),v11= .int .i64 x11_1∧Aside0 (spec_l4Ways.l1 kq l1 l2 x3_1 t220 x11_1 a0_0 l0_1 a0_2=some r)∧Aside0 (kq≤k)∧Aside0 (Kd.R (Kd.int .i64) 3 w' w0.heap.size (fun k_=>(P3_ k_∨w.heap.size≤k_)∧some k_≠(v221:Value).ownBlock) u9000_ x3_1)∧Aside0 (Kd.R (Kd.int .i64) 3 w' w0.heap.size (fun k_=>(P3_ k_∨w.heap.size≤k_)∧some k_≠(u9000_:Value).ownBlock) v221 t220)∧Aside0 (w'.heap[gb213]?=some (.cells #[.int .i64 a0_0,(.slice (some ad218) l0_1.length c0_1),.int .i64 a0_2] 67 (0,0)))∧Aside0 (Kept w w' (fun k_=>P3_ k_))∧Aside0 (Below w0.heap.size w0 w'))
 case atStart=>exact ⟨(l3),(0),yeq,H,⟨Nat.le_refl _⟩,⟨yka HO3.out⟩,⟨by (with_reducible repeat (first|apply Kd.Ya|apply Kd.Yn|apply Kd.Yd));exact Kd.R_mono HO222.out (fun _ hk=>⟨hk.1.1,hk.2⟩)⟩,⟨ybk BK213.out⟩,⟨by repeat (first|(with_reducible first|exact HK.out|apply Kept.alloc|apply Kept.drewN|apply Kept.drew|refine Kept.setCell ?_ (.inr GW213.out) _)|exact HK.out)⟩,⟨yhb⟩⟩
 case round =>
  clear H
  try clear c1
  try clear c2
  try clear c5
  try clear c5b0
  try clear c5b1
  try clear c5b2
  try clear c24b0
  try clear c24b1
  try clear c25b0
  try clear c25b1
  try clear c26b0
  try clear c27b0
  try clear hcz30_0
  try clear hcz30_1
  try clear hcz30_2
  try clear hfz30_0
  try clear hfz30_1
  try clear hfz30_2
  try clear hx218_0
  try clear hx219_0
  try clear p218
  try clear p219
  try clear q218
  try clear q219
  obtain ⟨x3_1,x11_1,rfl,HA,HK1,HO_3,HO_10,BK213,HK,HB⟩:=hrel
  rcases gk with _|k1
  ·exact absurd HA.out (by simp [spec_l4Ways.l1])
  obtain ⟨H⟩:=HA
  simp only [spec_l4Ways.l1] at H
  replace H:=yis H;obtain ⟨c32b0,H⟩ | ⟨c32b0,H⟩:=H
  rotate_left
  ·obtain rfl:=ysi H
   obtain ⟨Ao50,co50,eo50⟩:=Kd.R_slice HO_10.out
   subst eo50
   go_wp2
   first|go_end0|((try simp only [Exit.inBlock,Exit.then]);refine bodyPost_ret (results_none rfl _ _ _) rfl ?_)
   exact ⟨yer,by (with_reducible repeat (first|apply Kd.Ya|apply Kd.Yn|apply Kd.Yd));exact Kd.R_mono HO_3.out (fun _ hk=>hk.1),yhb,by repeat (first|(with_reducible first|exact HK.out|apply Kept.alloc|apply Kept.drewN|apply Kept.drew|refine Kept.setCell ?_ (.inr GW213.out) _)|exact HK.out)⟩
  obtain ⟨y223,Ny223⟩:∃ y_:List Int,Aside0 (y_=(([]:List Int))):=⟨_,⟨rfl⟩⟩
  replace H:(if y223.length + l2.length < 17592186044416 then ((some (y223 ++ l2:List Int)).bind fun y226=>(if 0≤x11_1 then ((some (([rd t220 x11_1]:List Int):List Int)).bind fun y230=>(if y226.length + y230.length < 17592186044416 then ((spec_l4Ways.f k1 a0_0 l0_1 a0_2 l1 (y226 ++ y230) x3_1).bind fun t236=>(spec_l4Ways.l1 k1 l1 l2 t236 t220 (wrap64 (x11_1 + 1)) a0_0 l0_1 a0_2)) else (none))) else (none))) else (none))=some r:=yhn Ny223.out H
  replace H:=yig H;obtain ⟨c33,H⟩:=H
  have LMc33:=yam c33
  clear c33
  obtain ⟨y226,Ny226⟩:∃ y_:List Int,Aside0 (y_=(y223 ++ l2)):=⟨_,⟨rfl⟩⟩
  replace H:(if 0≤x11_1 then ((some (([rd t220 x11_1]:List Int):List Int)).bind fun y230=>(if y226.length + y230.length < 17592186044416 then ((spec_l4Ways.f k1 a0_0 l0_1 a0_2 l1 (y226 ++ y230) x3_1).bind fun t236=>(spec_l4Ways.l1 k1 l1 l2 t236 t220 (wrap64 (x11_1 + 1)) a0_0 l0_1 a0_2)) else (none))) else (none))=some r:=yhn Ny226.out H
  replace H:=yif H;obtain ⟨c34b0,H⟩:=H
  obtain ⟨y230,Ny230⟩:∃ y_:List Int,Aside0 (y_=(([rd t220 x11_1]:List Int))):=⟨_,⟨rfl⟩⟩
  replace H:(if y226.length + y230.length < 17592186044416 then ((spec_l4Ways.f k1 a0_0 l0_1 a0_2 l1 (y226 ++ y230) x3_1).bind fun t236=>(spec_l4Ways.l1 k1 l1 l2 t236 t220 (wrap64 (x11_1 + 1)) a0_0 l0_1 a0_2)) else (none))=some r:=yhn Ny230.out H
  replace H:=yig H;obtain ⟨c35,H⟩:=H
  have LMc35:=yam c35
  clear c35
  obtain ⟨y233,Ny233⟩:∃ y_:List Int,Aside0 (y_=(y226 ++ y230)):=⟨_,⟨rfl⟩⟩
  replace H:((spec_l4Ways.f k1 a0_0 l0_1 a0_2 l1 y233 x3_1).bind fun t236=>(spec_l4Ways.l1 k1 l1 l2 t236 t220 (wrap64 (x11_1 + 1)) a0_0 l0_1 a0_2))=some r:=yhn Ny233.out H
  replace H:=ybi H;obtain ⟨t236,A36,H⟩:=H
  try dsimp only at H
  replace H:=yam H
  obtain ⟨Ao37,co37,eo37⟩:=Kd.R_slice HO_10.out
  subst eo37
  obtain ⟨Ao38,co38,eo38⟩:=Kd.R_slice HO_3.out
  subst eo38
  try go_wp2
  replace HO_3:=yam (Kd.Yd HO_3.out)
  replace HO_10:=yam (Kd.Yd HO_10.out)
  replace BK213:=yam (ybd BK213.out)
  replace HK:=yam (Kept.drew HK.out)
  replace HB:=yam (yed HB.out)
  obtain ⟨ad229,e229,hx229_0,p229,q229⟩:=yat (Kd.Yr HO_10.out).2.2 x11_1
  cases e229
  refine start_ (n:=13) (S:=fun w'=>w'.cell? ⟨gb213,0,none⟩=some (.int .i64 a0_0)∧w'.cell? ⟨gb213,1,none⟩=some (.slice (some ad218) l0_1.length c0_1)∧w'.cell? ⟨gb213,2,none⟩=some (.int .i64 a0_2)∧w'.cell? (ad229.add (x11_1).toNat)=some (.int .i64 (rd t220 x11_1))) (ds:=[]) (yvb 13 0) (by kernel_rfl) rfl rfl ⟨(blk_cell BK213.out 0).trans rfl,(blk_cell BK213.out 1).trans rfl,(blk_cell BK213.out 2).trans rfl,hx229_0⟩ (fun hHeld=>?_);refine with_tabW spec_l4Ways.tab12 spec_l4Ways.bits12 (fun HT_ HW_=>?_)
  generalize wr.drew=w39 at HO_3 HO_10 BK213 HK HB hx229_0 hHeld ⊢
  refine yvp 1 56 (yvb 13 2) HT_.out ?_
  refine yvp 3 58 (yvb 13 10) HT_.out ?_
  refine yvp 5 60 (yvb 13 42) HT_.out ?_
  refine yvp 6 61 (yvb 13 106) HT_.out ?_
  refine yvp 7 62 (yvb 13 234) HT_.out ?_
  refine yvp 11 66 (yvb 13 2282) HT_.out ?_
  refine yvt 0 55 (yvb 13 2283) HT_.out HW_.out hHeld ?_
  refine yvt 8 63 (yvb 13 2539) HT_.out HW_.out hHeld ?_
  refine join_ (σ:=Value × Value × Value) 2 (yvb 13 3071) (fun s_=>[(57,s_.1),(59,s_.2.1),(64,s_.2.2)]) (fun s_ w'=>(w'.cell? ⟨gb213,0,none⟩=some (.int .i64 a0_0)∧w'.cell? ⟨gb213,1,none⟩=some (.slice (some ad218) l0_1.length c0_1)∧w'.cell? ⟨gb213,2,none⟩=some (.int .i64 a0_2)∧w'.cell? (ad229.add (x11_1).toNat)=some (.int .i64 (rd t220 x11_1)))∧(Kd.R (Kd.int .i64) 3 w' w0.heap.size (fun k_=>(P3_ k_∨w.heap.size≤k_)∧some k_≠(s_.2.2:Value).ownBlock∧some k_≠(.slice (some ad229) t220.length co37:Value).ownBlock∧some k_≠(.slice Ao38 x3_1.length co38:Value).ownBlock) s_.2.1 y226)∧(Kd.R (Kd.int .i64) 3 w' w0.heap.size (fun k_=>(P3_ k_∨w.heap.size≤k_)∧some k_≠(s_.2.1:Value).ownBlock∧some k_≠(.slice (some ad229) t220.length co37:Value).ownBlock∧some k_≠(.slice Ao38 x3_1.length co38:Value).ownBlock) s_.2.2 y230)∧(Kd.R (Kd.int .i64) 3 w' w0.heap.size (fun k_=>(P3_ k_∨w.heap.size≤k_)∧some k_≠(s_.2.1:Value).ownBlock∧some k_≠(s_.2.2:Value).ownBlock∧some k_≠(.slice Ao38 x3_1.length co38:Value).ownBlock) (.slice (some ad229) t220.length co37) t220)∧(Kd.R (Kd.int .i64) 3 w' w0.heap.size (fun k_=>(P3_ k_∨w.heap.size≤k_)∧some k_≠(s_.2.1:Value).ownBlock∧some k_≠(s_.2.2:Value).ownBlock∧some k_≠(.slice (some ad229) t220.length co37:Value).ownBlock) (.slice Ao38 x3_1.length co38) x3_1)∧(w'.heap[gb213]?=some (.cells #[.int .i64 a0_0,.slice (some ad218) l0_1.length c0_1,.int .i64 a0_2] 67 (0,0)))∧(Kept w w' (fun k_=>P3_ k_))∧(Below w0.heap.size w0 w')) ?_ ?_
  rotate_left
  ·intro hCont
   refine two_ (i:=2) (j:=9) (Ni:=some 57) (Nj:=some 64) (yvb 13 2543) (yvb 13 3051) rfl rfl rfl rfl (two_of HT_.out (by kernel_rfl)) (by decide) (by decide) (fun K hK=>?_) (fun K hK=>?_)
   ·skip
    refine Kd.R_lit_step (Kd.int .i64) _ 3 ?hg (N:=57) ?hd (xs:=([]:List Int)) (inner:=[]) (ok:=fun _=>True) (okp:=fun _=>True) ?hr ?hp (fun _ hk=>hk) trivial (Below.refl _ _) (Nat.le_refl _) (by simp) ?_;(case hd=>rfl);(case hg=>rfl);(case hr=>first|(go_simp;done)|(go_simp;rfl));(case hp=>exact (Reps.none _ _))
    intro v224 w40 ho41 hb hg_ hnew_
    have HS3_:=(hb.cell (World.block_lt_of_cell? _ _ (hHeld.2.2.2))).trans (hHeld.2.2.2)
    clear hg_ hnew_
    (first|rw [← Ny223.out] at ho41|(simp only [Int.reduceToNat] at ho41;rw [← Ny223.out] at ho41))
    have HO225:=yam (Kd.R_lower (Kd.Yw (Kd.Yw (Kd.R_newM (M:=fun k_=>(P3_ k_∨w.heap.size≤k_)) ho41 (by first|exact HK.out.1|exact (show Kept w _ (fun k_=>P3_ k_) from by repeat (first|(with_reducible first|exact HK.out|apply Kept.alloc|apply Kept.drewN|apply Kept.drew|refine Kept.setCell ?_ (.inr GW213.out) _)|exact HK.out)).1) (fun k_ h_=> .inr h_)) (Kd.R_lt (Kd.Yz HO_3.out))) (Kd.R_lt (Kd.Yz HO_10.out))) (below_size yhb))
    replace HO_3:=yam (Kd.Ye (Kd.Yz HO_3.out) (Kd.Yb ho41) hb)
    replace HO_10:=yam (Kd.Ye (Kd.Yz HO_10.out) (Kd.Yb ho41) hb)
    replace BK213:=yam (ybb BK213.out hb)
    replace HK:=yam (Kept.below (S:=(fun k_=>P3_ k_)) (by repeat (first|(with_reducible first|exact HK.out|apply Kept.alloc|apply Kept.drewN|apply Kept.drew|refine Kept.setCell ?_ (.inr GW213.out) _)|exact HK.out)) hb)
    replace HB:=yam (below_step yhb hb)
    clear hb ho41
    refine hK.out _ _ ⟨(blk_cell BK213.out 0).trans rfl,(blk_cell BK213.out 1).trans rfl,(blk_cell BK213.out 2).trans rfl,HS3_⟩ (fun hHeld=>?_)
    clear hK K
    refine norm_ (a':=?_) ?_ ?_
    rotate_left
    ·show Act.put _ (some 57) _=_
     simp only [Act.put,yps,i64_w,i32_w]
     rfl
    refine two_ (i:=4) (j:=9) (Ni:=some 59) (Nj:=some 64) (yvb 13 2559) (yvb 13 3055) rfl rfl rfl rfl (two_of HT_.out (by kernel_rfl)) (by decide) (by decide) (fun K hK=>?_) (fun K hK=>?_)
    ·skip
     refine Kd.R_append_rows_step (Kd.int .i64) (w0:=w0) w0.heap.size (by rfl) (.tmp 57) (.tmp 58) 22 3 (.int .i64 0) 8 rfl Try.underlying22 info3 rfl (by decide) (by omega) v224 y223 l2 _ _ _ (fun k_=>(P3_ k_∨w.heap.size≤k_)∧some k_≠(.slice Ao38 x3_1.length co38:Value).ownBlock∧some k_≠(.slice (some ad229) t220.length co37:Value).ownBlock) (fun _=>False) rfl rfl ?aO ?aR (fun _ _ h=>h) (fun _ h=>h.elim) ?aF ?aB ?aS ?aL ?_
     (case aR=>exact Kd.C_kept_now HR2.out (by repeat (first|(with_reducible first|exact HK.out|apply Kept.alloc|apply Kept.drewN|apply Kept.drew|refine Kept.setCell ?_ (.inr GW213.out) _)|exact HK.out)))
     (case aB=>exact yhb)
     (case aF=>exact (fun k_ hk=>⟨(.inr (Nat.le_trans (by first|exact HK.out.1|exact (show Kept w _ (fun k_=>P3_ k_) from by repeat (first|(with_reducible first|exact HK.out|apply Kept.alloc|apply Kept.drewN|apply Kept.drew|refine Kept.setCell ?_ (.inr GW213.out) _)|exact HK.out)).1) hk)),Kd.fresh' (Kd.R_lt (Kd.Yz HO_3.out)) k_ hk,Kd.fresh' (Kd.R_lt (Kd.Yz HO_10.out)) k_ hk⟩))
     (case aO=>exact (by (with_reducible repeat (first|apply Kd.Ya|apply Kd.Yn|apply Kd.Yd));exact Kd.R_mono HO225.out (fun _ hk=>⟨hk.1.1.1,⟨hk.1.2,hk.2⟩⟩)))
     (case aS=>exact (below_size yhb))
     (case aL=>have:=LMc33.out;omega)
     intro v227 w42 ho hb hg hat
     have HS3_:=cell_grown hg (hHeld.2.2.2) (by first|(rw [add_block];exact (fun e_=>(by have h_:=HO225.out.1 _ e_.symm;simp [Value.ownBlock] at h_)))|(show some (Addr.add _ _).block≠_;rw [add_block];exact (fun e_=>(by have h_:=HO225.out.1 _ e_.symm;simp [Value.ownBlock] at h_)))|exact (fun e_=>(by have h_:=HO225.out.1 _ e_.symm;simp [Value.ownBlock] at h_)))
     rw [← Ny226.out] at ho
     replace HO_3:=yam (Kd.R_after (ok:=(fun k_=>(P3_ k_∨w.heap.size≤k_)∧some k_≠(.slice (some ad229) t220.length co37:Value).ownBlock)) (Kd.Yz HO_3.out) hg hat)
     replace HO_10:=yam (Kd.R_after (ok:=(fun k_=>(P3_ k_∨w.heap.size≤k_)∧some k_≠(.slice Ao38 x3_1.length co38:Value).ownBlock)) (Kd.Yz HO_10.out) hg hat)
     replace BK213:=yam (blk_grown (g:=gb213) (o:= .cells #[.int .i64 a0_0,.slice (some ad218) l0_1.length c0_1,.int .i64 a0_2] 67 (0,0)) (ybz BK213.out) hg (Kd.R_ne HO225.out BK213.out (by decide)))
     replace HB:=yam (hb)
     replace HK:=yam (Kept.of_grown (S:=(fun k_=>P3_ k_)) hg (by repeat (first|(with_reducible first|exact HK.out|apply Kept.alloc|apply Kept.drewN|apply Kept.drew|refine Kept.setCell ?_ (.inr GW213.out) _)|exact HK.out)) (fun k_ e_=>(HO225.out.1 k_ e_).1.1.1))
     have HO228:=yam (ho)
     clear HO225
     clear ho hb hg hat
     refine hK.out _ _ ⟨(blk_cell BK213.out 0).trans rfl,(blk_cell BK213.out 1).trans rfl,(blk_cell BK213.out 2).trans rfl,HS3_⟩ (fun hHeld=>?_)
     clear hK K
     refine norm_ (a':=?_) ?_ ?_
     rotate_left
     ·show Act.put _ (some 59) _=_
      simp only [Act.put,yps,i64_w,i32_w]
      rfl
     refine one_ (i:=9) (N:=some 64) (yvb 13 3071) rfl rfl (one_of HT_.out (by kernel_rfl)) (by decide) (fun K hK=>?_)
     refine Kd.R_lit_step (Kd.int .i64) _ 3 ?hg (N:=64) ?hd (xs:=([rd t220 x11_1]:List Int)) (inner:=[.int .i64 (rd t220 x11_1)]) (ok:=fun _=>True) (okp:=fun _=>True) ?hr ?hp (fun _ hk=>hk) trivial (Below.refl _ _) (Nat.le_refl _) (by simp) ?_;(case hd=>rfl);(case hg=>rfl);(case hr=>first|(go_simp;done)|(go_simp;rfl));(case hp=>exact (Reps.one (show Kd.M (Kd.int .i64) _ _ _ (rd t220 x11_1) [.int .i64 (rd t220 x11_1)] from rfl) (Reps.none _ _)))
     intro v231 w43 ho44 hb hg_ hnew_
     have HS3_:=(hb.cell (World.block_lt_of_cell? _ _ (hHeld.2.2.2))).trans (hHeld.2.2.2)
     clear hg_ hnew_
     (first|rw [← Ny230.out] at ho44|(simp only [Int.reduceToNat] at ho44;rw [← Ny230.out] at ho44))
     have HO232:=yam (Kd.R_lower (Kd.Yw (Kd.Yw (Kd.Yw (Kd.R_newM (M:=fun k_=>(P3_ k_∨w.heap.size≤k_)) ho44 (by first|exact HK.out.1|exact (show Kept w _ (fun k_=>P3_ k_) from by repeat (first|(with_reducible first|exact HK.out|apply Kept.alloc|apply Kept.drewN|apply Kept.drew|refine Kept.setCell ?_ (.inr GW213.out) _)|exact HK.out)).1) (fun k_ h_=> .inr h_)) (Kd.R_lt (Kd.Yz HO_3.out))) (Kd.R_lt (Kd.Yz HO_10.out))) (Kd.R_lt (Kd.Yz HO228.out))) (below_size yhb))
     replace HO_3:=yam (Kd.Ye (Kd.Yz HO_3.out) (Kd.Yb ho44) hb)
     replace HO_10:=yam (Kd.Ye (Kd.Yz HO_10.out) (Kd.Yb ho44) hb)
     replace HO228:=yam (Kd.Ye (Kd.Yz HO228.out) (Kd.Yb ho44) hb)
     replace BK213:=yam (ybb BK213.out hb)
     replace HK:=yam (Kept.below (S:=(fun k_=>P3_ k_)) (by repeat (first|(with_reducible first|exact HK.out|apply Kept.alloc|apply Kept.drewN|apply Kept.drew|refine Kept.setCell ?_ (.inr GW213.out) _)|exact HK.out)) hb)
     replace HB:=yam (below_step yhb hb)
     clear hb ho44
     refine hK.out _ _ ⟨(blk_cell BK213.out 0).trans rfl,(blk_cell BK213.out 1).trans rfl,(blk_cell BK213.out 2).trans rfl,HS3_⟩ (fun hHeld=>?_)
     clear hK K
     refine norm_ (a':=?_) ?_ ?_
     rotate_left
     ·show Act.put _ (some 64) _=_
      simp only [Act.put,yps,i64_w,i32_w]
      rfl
     exact norm_ (by simp only [putAll,Act.put,yps]) (hCont (v224,v227,v231) _ ⟨hHeld,(by (with_reducible repeat (first|apply Kd.Ya|apply Kd.Yn|apply Kd.Yd));exact Kd.R_mono HO228.out (fun _ hk=>⟨hk.1.1,⟨hk.2,⟨hk.1.2.2,hk.1.2.1⟩⟩⟩)),(by (with_reducible repeat (first|apply Kd.Ya|apply Kd.Yn|apply Kd.Yd));exact Kd.R_mono HO232.out (fun _ hk=>⟨hk.1.1.1.1,⟨hk.2,⟨hk.1.2,hk.1.1.2⟩⟩⟩)),(by (with_reducible repeat (first|apply Kd.Ya|apply Kd.Yn|apply Kd.Yd));exact Kd.R_mono HO_10.out (fun _ hk=>⟨hk.1.1.1,⟨hk.1.2,⟨hk.2,hk.1.1.2⟩⟩⟩)),(by (with_reducible repeat (first|apply Kd.Ya|apply Kd.Yn|apply Kd.Yd));exact Kd.R_mono HO_3.out (fun _ hk=>⟨hk.1.1.1,⟨hk.1.2,⟨hk.2,hk.1.1.2⟩⟩⟩)),(ybz BK213.out),(by repeat (first|(with_reducible first|exact HK.out|apply Kept.alloc|apply Kept.drewN|apply Kept.drew|refine Kept.setCell ?_ (.inr GW213.out) _)|exact HK.out)),yhb⟩)
    ·skip
     refine Kd.R_lit_step (Kd.int .i64) _ 3 ?hg (N:=64) ?hd (xs:=([rd t220 x11_1]:List Int)) (inner:=[.int .i64 (rd t220 x11_1)]) (ok:=fun _=>True) (okp:=fun _=>True) ?hr ?hp (fun _ hk=>hk) trivial (Below.refl _ _) (Nat.le_refl _) (by simp) ?_;(case hd=>rfl);(case hg=>rfl);(case hr=>first|(go_simp;done)|(go_simp;rfl));(case hp=>exact (Reps.one (show Kd.M (Kd.int .i64) _ _ _ (rd t220 x11_1) [.int .i64 (rd t220 x11_1)] from rfl) (Reps.none _ _)))
     intro v231 w42 ho43 hb hg_ hnew_
     have HS3_:=(hb.cell (World.block_lt_of_cell? _ _ (hHeld.2.2.2))).trans (hHeld.2.2.2)
     clear hg_ hnew_
     (first|rw [← Ny230.out] at ho43|(simp only [Int.reduceToNat] at ho43;rw [← Ny230.out] at ho43))
     have HO232:=yam (Kd.R_lower (Kd.Yw (Kd.Yw (Kd.Yw (Kd.R_newM (M:=fun k_=>(P3_ k_∨w.heap.size≤k_)) ho43 (by first|exact HK.out.1|exact (show Kept w _ (fun k_=>P3_ k_) from by repeat (first|(with_reducible first|exact HK.out|apply Kept.alloc|apply Kept.drewN|apply Kept.drew|refine Kept.setCell ?_ (.inr GW213.out) _)|exact HK.out)).1) (fun k_ h_=> .inr h_)) (Kd.R_lt (Kd.Yz HO_3.out))) (Kd.R_lt (Kd.Yz HO_10.out))) (Kd.R_lt (Kd.Yz HO225.out))) (below_size yhb))
     replace HO_3:=yam (Kd.Ye (Kd.Yz HO_3.out) (Kd.Yb ho43) hb)
     replace HO_10:=yam (Kd.Ye (Kd.Yz HO_10.out) (Kd.Yb ho43) hb)
     replace HO225:=yam (Kd.Ye (Kd.Yz HO225.out) (Kd.Yb ho43) hb)
     replace BK213:=yam (ybb BK213.out hb)
     replace HK:=yam (Kept.below (S:=(fun k_=>P3_ k_)) (by repeat (first|(with_reducible first|exact HK.out|apply Kept.alloc|apply Kept.drewN|apply Kept.drew|refine Kept.setCell ?_ (.inr GW213.out) _)|exact HK.out)) hb)
     replace HB:=yam (below_step yhb hb)
     clear hb ho43
     refine hK.out _ _ ⟨(blk_cell BK213.out 0).trans rfl,(blk_cell BK213.out 1).trans rfl,(blk_cell BK213.out 2).trans rfl,HS3_⟩ (fun hHeld=>?_)
     clear hK K
     refine norm_ (a':=?_) ?_ ?_
     rotate_left
     ·show Act.put _ (some 64) _=_
      simp only [Act.put,yps,i64_w,i32_w]
      rfl
     refine one_ (i:=4) (N:=some 59) (yvb 13 3071) rfl rfl (one_of HT_.out (by kernel_rfl)) (by decide) (fun K hK=>?_)
     refine Kd.R_append_rows_step (Kd.int .i64) (w0:=w0) w0.heap.size (by rfl) (.tmp 57) (.tmp 58) 22 3 (.int .i64 0) 8 rfl Try.underlying22 info3 rfl (by decide) (by omega) v224 y223 l2 _ _ _ (fun k_=>(P3_ k_∨w.heap.size≤k_)∧some k_≠(.slice Ao38 x3_1.length co38:Value).ownBlock∧some k_≠(.slice (some ad229) t220.length co37:Value).ownBlock∧some k_≠(v231:Value).ownBlock) (fun _=>False) rfl rfl ?aO ?aR (fun _ _ h=>h) (fun _ h=>h.elim) ?aF ?aB ?aS ?aL ?_
     (case aR=>exact Kd.C_kept_now HR2.out (by repeat (first|(with_reducible first|exact HK.out|apply Kept.alloc|apply Kept.drewN|apply Kept.drew|refine Kept.setCell ?_ (.inr GW213.out) _)|exact HK.out)))
     (case aB=>exact yhb)
     (case aF=>exact (fun k_ hk=>⟨(.inr (Nat.le_trans (by first|exact HK.out.1|exact (show Kept w _ (fun k_=>P3_ k_) from by repeat (first|(with_reducible first|exact HK.out|apply Kept.alloc|apply Kept.drewN|apply Kept.drew|refine Kept.setCell ?_ (.inr GW213.out) _)|exact HK.out)).1) hk)),Kd.fresh' (Kd.R_lt (Kd.Yz HO_3.out)) k_ hk,Kd.fresh' (Kd.R_lt (Kd.Yz HO_10.out)) k_ hk,Kd.fresh' (Kd.R_lt (Kd.Yz HO232.out)) k_ hk⟩))
     (case aO=>exact (by (with_reducible repeat (first|apply Kd.Ya|apply Kd.Yn|apply Kd.Yd));exact Kd.R_mono HO225.out (fun _ hk=>⟨hk.1.1.1.1,⟨hk.1.1.2,⟨hk.1.2,hk.2⟩⟩⟩)))
     (case aS=>exact (below_size yhb))
     (case aL=>have:=LMc33.out;omega)
     intro v227 w44 ho hb hg hat
     have HS3_:=cell_grown hg (hHeld.2.2.2) (by first|(rw [add_block];exact (fun e_=>(by have h_:=HO225.out.1 _ e_.symm;simp [Value.ownBlock] at h_)))|(show some (Addr.add _ _).block≠_;rw [add_block];exact (fun e_=>(by have h_:=HO225.out.1 _ e_.symm;simp [Value.ownBlock] at h_)))|exact (fun e_=>(by have h_:=HO225.out.1 _ e_.symm;simp [Value.ownBlock] at h_)))
     rw [← Ny226.out] at ho
     replace HO_3:=yam (Kd.R_after (ok:=(fun k_=>(P3_ k_∨w.heap.size≤k_)∧some k_≠(.slice (some ad229) t220.length co37:Value).ownBlock∧some k_≠(v231:Value).ownBlock)) (by (with_reducible repeat (first|apply Kd.Ya|apply Kd.Yn|apply Kd.Yd));exact Kd.R_mono HO_3.out (fun _ hk=>⟨⟨hk.1.1.1,⟨hk.1.1.2,hk.2⟩⟩,hk.1.2⟩)) hg hat)
     replace HO_10:=yam (Kd.R_after (ok:=(fun k_=>(P3_ k_∨w.heap.size≤k_)∧some k_≠(.slice Ao38 x3_1.length co38:Value).ownBlock∧some k_≠(v231:Value).ownBlock)) (by (with_reducible repeat (first|apply Kd.Ya|apply Kd.Yn|apply Kd.Yd));exact Kd.R_mono HO_10.out (fun _ hk=>⟨⟨hk.1.1.1,⟨hk.1.1.2,hk.2⟩⟩,hk.1.2⟩)) hg hat)
     replace BK213:=yam (blk_grown (g:=gb213) (o:= .cells #[.int .i64 a0_0,.slice (some ad218) l0_1.length c0_1,.int .i64 a0_2] 67 (0,0)) (ybz BK213.out) hg (Kd.R_ne HO225.out BK213.out (by decide)))
     replace HO232:=yam (Kd.R_after (ok:=(fun k_=>(P3_ k_∨w.heap.size≤k_)∧some k_≠(.slice Ao38 x3_1.length co38:Value).ownBlock∧some k_≠(.slice (some ad229) t220.length co37:Value).ownBlock)) (by (with_reducible repeat (first|apply Kd.Ya|apply Kd.Yn|apply Kd.Yd));exact Kd.R_mono HO232.out (fun _ hk=>⟨⟨hk.1.1.1.1,⟨hk.1.1.2,hk.1.2⟩⟩,hk.2⟩)) hg hat)
     replace HB:=yam (hb)
     replace HK:=yam (Kept.of_grown (S:=(fun k_=>P3_ k_)) hg (by repeat (first|(with_reducible first|exact HK.out|apply Kept.alloc|apply Kept.drewN|apply Kept.drew|refine Kept.setCell ?_ (.inr GW213.out) _)|exact HK.out)) (fun k_ e_=>(HO225.out.1 k_ e_).1.1.1.1))
     have HO228:=yam (ho)
     clear HO225
     clear ho hb hg hat
     refine hK.out _ _ ⟨(blk_cell BK213.out 0).trans rfl,(blk_cell BK213.out 1).trans rfl,(blk_cell BK213.out 2).trans rfl,HS3_⟩ (fun hHeld=>?_)
     clear hK K
     refine norm_ (a':=?_) ?_ ?_
     rotate_left
     ·show Act.put _ (some 59) _=_
      simp only [Act.put,yps,i64_w,i32_w]
      rfl
     exact norm_ (by simp only [putAll,Act.put,yps]) (hCont (v224,v227,v231) _ ⟨hHeld,(by (with_reducible repeat (first|apply Kd.Ya|apply Kd.Yn|apply Kd.Yd));exact Kd.R_mono HO228.out (fun _ hk=>⟨hk.1,⟨hk.2.2.2,⟨hk.2.2.1,hk.2.1⟩⟩⟩)),(by (with_reducible repeat (first|apply Kd.Ya|apply Kd.Yn|apply Kd.Yd));exact Kd.R_mono HO232.out (fun _ hk=>⟨hk.1.1,⟨hk.2,⟨hk.1.2.2,hk.1.2.1⟩⟩⟩)),(by (with_reducible repeat (first|apply Kd.Ya|apply Kd.Yn|apply Kd.Yd));exact Kd.R_mono HO_10.out (fun _ hk=>⟨hk.1.1,⟨hk.2,⟨hk.1.2.2,hk.1.2.1⟩⟩⟩)),(by (with_reducible repeat (first|apply Kd.Ya|apply Kd.Yn|apply Kd.Yd));exact Kd.R_mono HO_3.out (fun _ hk=>⟨hk.1.1,⟨hk.2,⟨hk.1.2.2,hk.1.2.1⟩⟩⟩)),(ybz BK213.out),(by repeat (first|(with_reducible first|exact HK.out|apply Kept.alloc|apply Kept.drewN|apply Kept.drew|refine Kept.setCell ?_ (.inr GW213.out) _)|exact HK.out)),yhb⟩)
   ·skip
    refine Kd.R_lit_step (Kd.int .i64) _ 3 ?hg (N:=64) ?hd (xs:=([rd t220 x11_1]:List Int)) (inner:=[.int .i64 (rd t220 x11_1)]) (ok:=fun _=>True) (okp:=fun _=>True) ?hr ?hp (fun _ hk=>hk) trivial (Below.refl _ _) (Nat.le_refl _) (by simp) ?_;(case hd=>rfl);(case hg=>rfl);(case hr=>first|(go_simp;done)|(go_simp;rfl));(case hp=>exact (Reps.one (show Kd.M (Kd.int .i64) _ _ _ (rd t220 x11_1) [.int .i64 (rd t220 x11_1)] from rfl) (Reps.none _ _)))
    intro v231 w40 ho41 hb hg_ hnew_
    have HS3_:=(hb.cell (World.block_lt_of_cell? _ _ (hHeld.2.2.2))).trans (hHeld.2.2.2)
    clear hg_ hnew_
    (first|rw [← Ny230.out] at ho41|(simp only [Int.reduceToNat] at ho41;rw [← Ny230.out] at ho41))
    have HO232:=yam (Kd.R_lower (Kd.Yw (Kd.Yw (Kd.R_newM (M:=fun k_=>(P3_ k_∨w.heap.size≤k_)) ho41 (by first|exact HK.out.1|exact (show Kept w _ (fun k_=>P3_ k_) from by repeat (first|(with_reducible first|exact HK.out|apply Kept.alloc|apply Kept.drewN|apply Kept.drew|refine Kept.setCell ?_ (.inr GW213.out) _)|exact HK.out)).1) (fun k_ h_=> .inr h_)) (Kd.R_lt (Kd.Yz HO_3.out))) (Kd.R_lt (Kd.Yz HO_10.out))) (below_size yhb))
    replace HO_3:=yam (Kd.Ye (Kd.Yz HO_3.out) (Kd.Yb ho41) hb)
    replace HO_10:=yam (Kd.Ye (Kd.Yz HO_10.out) (Kd.Yb ho41) hb)
    replace BK213:=yam (ybb BK213.out hb)
    replace HK:=yam (Kept.below (S:=(fun k_=>P3_ k_)) (by repeat (first|(with_reducible first|exact HK.out|apply Kept.alloc|apply Kept.drewN|apply Kept.drew|refine Kept.setCell ?_ (.inr GW213.out) _)|exact HK.out)) hb)
    replace HB:=yam (below_step yhb hb)
    clear hb ho41
    refine hK.out _ _ ⟨(blk_cell BK213.out 0).trans rfl,(blk_cell BK213.out 1).trans rfl,(blk_cell BK213.out 2).trans rfl,HS3_⟩ (fun hHeld=>?_)
    clear hK K
    refine norm_ (a':=?_) ?_ ?_
    rotate_left
    ·show Act.put _ (some 64) _=_
     simp only [Act.put,yps,i64_w,i32_w]
     rfl
    refine one_ (i:=2) (N:=some 57) (yvb 13 3055) rfl rfl (one_of HT_.out (by kernel_rfl)) (by decide) (fun K hK=>?_)
    refine Kd.R_lit_step (Kd.int .i64) _ 3 ?hg (N:=57) ?hd (xs:=([]:List Int)) (inner:=[]) (ok:=fun _=>True) (okp:=fun _=>True) ?hr ?hp (fun _ hk=>hk) trivial (Below.refl _ _) (Nat.le_refl _) (by simp) ?_;(case hd=>rfl);(case hg=>rfl);(case hr=>first|(go_simp;done)|(go_simp;rfl));(case hp=>exact (Reps.none _ _))
    intro v224 w42 ho43 hb hg_ hnew_
    have HS3_:=(hb.cell (World.block_lt_of_cell? _ _ (hHeld.2.2.2))).trans (hHeld.2.2.2)
    clear hg_ hnew_
    (first|rw [← Ny223.out] at ho43|(simp only [Int.reduceToNat] at ho43;rw [← Ny223.out] at ho43))
    have HO225:=yam (Kd.R_lower (Kd.Yw (Kd.Yw (Kd.Yw (Kd.R_newM (M:=fun k_=>(P3_ k_∨w.heap.size≤k_)) ho43 (by first|exact HK.out.1|exact (show Kept w _ (fun k_=>P3_ k_) from by repeat (first|(with_reducible first|exact HK.out|apply Kept.alloc|apply Kept.drewN|apply Kept.drew|refine Kept.setCell ?_ (.inr GW213.out) _)|exact HK.out)).1) (fun k_ h_=> .inr h_)) (Kd.R_lt (Kd.Yz HO_3.out))) (Kd.R_lt (Kd.Yz HO_10.out))) (Kd.R_lt (Kd.Yz HO232.out))) (below_size yhb))
    replace HO_3:=yam (Kd.Ye (Kd.Yz HO_3.out) (Kd.Yb ho43) hb)
    replace HO_10:=yam (Kd.Ye (Kd.Yz HO_10.out) (Kd.Yb ho43) hb)
    replace HO232:=yam (Kd.Ye (Kd.Yz HO232.out) (Kd.Yb ho43) hb)
    replace BK213:=yam (ybb BK213.out hb)
    replace HK:=yam (Kept.below (S:=(fun k_=>P3_ k_)) (by repeat (first|(with_reducible first|exact HK.out|apply Kept.alloc|apply Kept.drewN|apply Kept.drew|refine Kept.setCell ?_ (.inr GW213.out) _)|exact HK.out)) hb)
    replace HB:=yam (below_step yhb hb)
    clear hb ho43
    refine hK.out _ _ ⟨(blk_cell BK213.out 0).trans rfl,(blk_cell BK213.out 1).trans rfl,(blk_cell BK213.out 2).trans rfl,HS3_⟩ (fun hHeld=>?_)
    clear hK K
    refine norm_ (a':=?_) ?_ ?_
    rotate_left
    ·show Act.put _ (some 57) _=_
     simp only [Act.put,yps,i64_w,i32_w]
     rfl
    refine one_ (i:=4) (N:=some 59) (yvb 13 3071) rfl rfl (one_of HT_.out (by kernel_rfl)) (by decide) (fun K hK=>?_)
    refine Kd.R_append_rows_step (Kd.int .i64) (w0:=w0) w0.heap.size (by rfl) (.tmp 57) (.tmp 58) 22 3 (.int .i64 0) 8 rfl Try.underlying22 info3 rfl (by decide) (by omega) v224 y223 l2 _ _ _ (fun k_=>(P3_ k_∨w.heap.size≤k_)∧some k_≠(.slice Ao38 x3_1.length co38:Value).ownBlock∧some k_≠(.slice (some ad229) t220.length co37:Value).ownBlock∧some k_≠(v231:Value).ownBlock) (fun _=>False) rfl rfl ?aO ?aR (fun _ _ h=>h) (fun _ h=>h.elim) ?aF ?aB ?aS ?aL ?_
    (case aR=>exact Kd.C_kept_now HR2.out (by repeat (first|(with_reducible first|exact HK.out|apply Kept.alloc|apply Kept.drewN|apply Kept.drew|refine Kept.setCell ?_ (.inr GW213.out) _)|exact HK.out)))
    (case aB=>exact yhb)
    (case aF=>exact (fun k_ hk=>⟨(.inr (Nat.le_trans (by first|exact HK.out.1|exact (show Kept w _ (fun k_=>P3_ k_) from by repeat (first|(with_reducible first|exact HK.out|apply Kept.alloc|apply Kept.drewN|apply Kept.drew|refine Kept.setCell ?_ (.inr GW213.out) _)|exact HK.out)).1) hk)),Kd.fresh' (Kd.R_lt (Kd.Yz HO_3.out)) k_ hk,Kd.fresh' (Kd.R_lt (Kd.Yz HO_10.out)) k_ hk,Kd.fresh' (Kd.R_lt (Kd.Yz HO232.out)) k_ hk⟩))
    (case aO=>exact (by (with_reducible repeat (first|apply Kd.Ya|apply Kd.Yn|apply Kd.Yd));exact Kd.R_mono HO225.out (fun _ hk=>⟨hk.1.1.1.1,⟨hk.1.1.2,⟨hk.1.2,hk.2⟩⟩⟩)))
    (case aS=>exact (below_size yhb))
    (case aL=>have:=LMc33.out;omega)
    intro v227 w44 ho hb hg hat
    have HS3_:=cell_grown hg (hHeld.2.2.2) (by first|(rw [add_block];exact (fun e_=>(by have h_:=HO225.out.1 _ e_.symm;simp [Value.ownBlock] at h_)))|(show some (Addr.add _ _).block≠_;rw [add_block];exact (fun e_=>(by have h_:=HO225.out.1 _ e_.symm;simp [Value.ownBlock] at h_)))|exact (fun e_=>(by have h_:=HO225.out.1 _ e_.symm;simp [Value.ownBlock] at h_)))
    rw [← Ny226.out] at ho
    replace HO_3:=yam (Kd.R_after (ok:=(fun k_=>(P3_ k_∨w.heap.size≤k_)∧some k_≠(.slice (some ad229) t220.length co37:Value).ownBlock∧some k_≠(v231:Value).ownBlock)) (by (with_reducible repeat (first|apply Kd.Ya|apply Kd.Yn|apply Kd.Yd));exact Kd.R_mono HO_3.out (fun _ hk=>⟨⟨hk.1.1.1,⟨hk.1.1.2,hk.1.2⟩⟩,hk.2⟩)) hg hat)
    replace HO_10:=yam (Kd.R_after (ok:=(fun k_=>(P3_ k_∨w.heap.size≤k_)∧some k_≠(.slice Ao38 x3_1.length co38:Value).ownBlock∧some k_≠(v231:Value).ownBlock)) (by (with_reducible repeat (first|apply Kd.Ya|apply Kd.Yn|apply Kd.Yd));exact Kd.R_mono HO_10.out (fun _ hk=>⟨⟨hk.1.1.1,⟨hk.1.1.2,hk.1.2⟩⟩,hk.2⟩)) hg hat)
    replace BK213:=yam (blk_grown (g:=gb213) (o:= .cells #[.int .i64 a0_0,.slice (some ad218) l0_1.length c0_1,.int .i64 a0_2] 67 (0,0)) (ybz BK213.out) hg (Kd.R_ne HO225.out BK213.out (by decide)))
    replace HO232:=yam (Kd.R_after (ok:=(fun k_=>(P3_ k_∨w.heap.size≤k_)∧some k_≠(.slice Ao38 x3_1.length co38:Value).ownBlock∧some k_≠(.slice (some ad229) t220.length co37:Value).ownBlock)) (by (with_reducible repeat (first|apply Kd.Ya|apply Kd.Yn|apply Kd.Yd));exact Kd.R_mono HO232.out (fun _ hk=>⟨⟨hk.1.1.1.1,⟨hk.1.1.2,hk.1.2⟩⟩,hk.2⟩)) hg hat)
    replace HB:=yam (hb)
    replace HK:=yam (Kept.of_grown (S:=(fun k_=>P3_ k_)) hg (by repeat (first|(with_reducible first|exact HK.out|apply Kept.alloc|apply Kept.drewN|apply Kept.drew|refine Kept.setCell ?_ (.inr GW213.out) _)|exact HK.out)) (fun k_ e_=>(HO225.out.1 k_ e_).1.1.1.1))
    have HO228:=yam (ho)
    clear HO225
    clear ho hb hg hat
    refine hK.out _ _ ⟨(blk_cell BK213.out 0).trans rfl,(blk_cell BK213.out 1).trans rfl,(blk_cell BK213.out 2).trans rfl,HS3_⟩ (fun hHeld=>?_)
    clear hK K
    refine norm_ (a':=?_) ?_ ?_
    rotate_left
    ·show Act.put _ (some 59) _=_
     simp only [Act.put,yps,i64_w,i32_w]
     rfl
    exact norm_ (by simp only [putAll,Act.put,yps]) (hCont (v224,v227,v231) _ ⟨hHeld,(by (with_reducible repeat (first|apply Kd.Ya|apply Kd.Yn|apply Kd.Yd));exact Kd.R_mono HO228.out (fun _ hk=>⟨hk.1,⟨hk.2.2.2,⟨hk.2.2.1,hk.2.1⟩⟩⟩)),(by (with_reducible repeat (first|apply Kd.Ya|apply Kd.Yn|apply Kd.Yd));exact Kd.R_mono HO232.out (fun _ hk=>⟨hk.1.1,⟨hk.2,⟨hk.1.2.2,hk.1.2.1⟩⟩⟩)),(by (with_reducible repeat (first|apply Kd.Ya|apply Kd.Yn|apply Kd.Yd));exact Kd.R_mono HO_10.out (fun _ hk=>⟨hk.1.1,⟨hk.2,⟨hk.1.2.2,hk.1.2.1⟩⟩⟩)),(by (with_reducible repeat (first|apply Kd.Ya|apply Kd.Yn|apply Kd.Yd));exact Kd.R_mono HO_3.out (fun _ hk=>⟨hk.1.1,⟨hk.2,⟨hk.1.2.2,hk.1.2.1⟩⟩⟩)),(ybz BK213.out),(by repeat (first|(with_reducible first|exact HK.out|apply Kept.alloc|apply Kept.drewN|apply Kept.drew|refine Kept.setCell ?_ (.inr GW213.out) _)|exact HK.out)),yhb⟩)
  rintro ⟨v224,v227,v231⟩ w45 ⟨hS_,h0_,h1_,h2_,h3_,h4_,h5_,h6_⟩
  have HO228:Aside0 (Kd.R (Kd.int .i64) 3 w45 w0.heap.size (fun k_=>(P3_ k_∨w.heap.size≤k_)∧some k_≠(v231:Value).ownBlock∧some k_≠(.slice (some ad229) t220.length co37:Value).ownBlock∧some k_≠(.slice Ao38 x3_1.length co38:Value).ownBlock) v227 y226):=⟨h0_⟩
  have HO232:Aside0 (Kd.R (Kd.int .i64) 3 w45 w0.heap.size (fun k_=>(P3_ k_∨w.heap.size≤k_)∧some k_≠(v227:Value).ownBlock∧some k_≠(.slice (some ad229) t220.length co37:Value).ownBlock∧some k_≠(.slice Ao38 x3_1.length co38:Value).ownBlock) v231 y230):=⟨h1_⟩
  replace HO_10:Aside0 (Kd.R (Kd.int .i64) 3 w45 w0.heap.size (fun k_=>(P3_ k_∨w.heap.size≤k_)∧some k_≠(v227:Value).ownBlock∧some k_≠(v231:Value).ownBlock∧some k_≠(.slice Ao38 x3_1.length co38:Value).ownBlock) (.slice (some ad229) t220.length co37) t220):=⟨h2_⟩
  replace HO_3:Aside0 (Kd.R (Kd.int .i64) 3 w45 w0.heap.size (fun k_=>(P3_ k_∨w.heap.size≤k_)∧some k_≠(v227:Value).ownBlock∧some k_≠(v231:Value).ownBlock∧some k_≠(.slice (some ad229) t220.length co37:Value).ownBlock) (.slice Ao38 x3_1.length co38) x3_1):=⟨h3_⟩
  replace BK213:Aside0 (w45.heap[gb213]?=some (.cells #[.int .i64 a0_0,.slice (some ad218) l0_1.length c0_1,.int .i64 a0_2] 67 (0,0))):=⟨h4_⟩
  replace HK:Aside0 (Kept w w45 (fun k_=>P3_ k_)):=⟨h5_⟩
  replace HB:Aside0 (Below w0.heap.size w0 w45):=⟨h6_⟩
  clear h0_ h1_ h2_ h3_ h4_ h5_ h6_
  have hHeld:w45.cell? ⟨gb213,0,none⟩=some (.int .i64 a0_0)∧w45.cell? ⟨gb213,1,none⟩=some (.slice (some ad218) l0_1.length c0_1)∧w45.cell? ⟨gb213,2,none⟩=some (.int .i64 a0_2)∧w45.cell? (ad229.add (x11_1).toNat)=some (.int .i64 (rd t220 x11_1)):=hS_
  obtain ⟨Ao47,co47,eo47⟩:=Kd.R_slice HO232.out
  (first|subst eo47|(injection eo47 with f1_ f2_ f3_;have f4_:=f1_.symm;have f5_:=f3_.symm;clear f1_ f2_ f3_;subst f4_;subst f5_))
  refine norm_ (a':=?_) ?_ ?_
  rotate_left
  ·simp only [putAll,Act.put,yps]
   rfl
  refine one_ (i:=10) (N:=some 65) (yvb 13 4095) rfl rfl (one_of HT_.out (by kernel_rfl)) (by decide) (fun K hK=>?_)
  refine Kd.R_append_rows_step (Kd.int .i64) (w0:=w0) w0.heap.size (by rfl) (.tmp 59) (.tmp 64) 22 3 (.int .i64 0) 8 rfl Try.underlying22 info3 rfl (by decide) (by omega) v227 y226 y230 _ _ _ (fun k_=>(P3_ k_∨w.heap.size≤k_)∧some k_≠(.slice Ao38 x3_1.length co38:Value).ownBlock∧some k_≠(.slice (some ad229) t220.length co37:Value).ownBlock∧some k_≠(.slice Ao47 y230.length co47:Value).ownBlock) (fun _=>False) rfl rfl ?aO ?aR (fun _ _ h=>h) (fun _ h=>h.elim) ?aF ?aB ?aS ?aL ?_
  (case aR=>repeat (first|exact (Kd.Yr HO232.out).2.2|(with_reducible refine Kd.C_alloc ?_ _)|(with_reducible refine Kd.C_drewN ?_ _)|(with_reducible refine Kd.C_drew ?_)))
  (case aB=>exact yhb)
  (case aF=>exact (fun k_ hk=>⟨(.inr (Nat.le_trans (by first|exact HK.out.1|exact (show Kept w _ (fun k_=>P3_ k_) from by repeat (first|(with_reducible first|exact HK.out|apply Kept.alloc|apply Kept.drewN|apply Kept.drew|refine Kept.setCell ?_ (.inr GW213.out) _)|exact HK.out)).1) hk)),Kd.fresh' (Kd.R_lt (Kd.Yz HO_3.out)) k_ hk,Kd.fresh' (Kd.R_lt (Kd.Yz HO_10.out)) k_ hk,Kd.fresh' (Kd.R_lt (Kd.Yz HO232.out)) k_ hk⟩))
  (case aO=>exact (by (with_reducible repeat (first|apply Kd.Ya|apply Kd.Yn|apply Kd.Yd));exact Kd.R_mono HO228.out (fun _ hk=>⟨hk.1,⟨hk.2.2.2,⟨hk.2.2.1,hk.2.1⟩⟩⟩)))
  (case aS=>exact (below_size yhb))
  (case aL=>have:=LMc35.out;omega)
  intro v234 w46 ho hb hg hat
  have HS3_:=cell_grown hg (hHeld.2.2.2) (by first|(rw [add_block];exact (fun e_=>(by have h_:=HO228.out.1 _ e_.symm;simp [Value.ownBlock] at h_)))|(show some (Addr.add _ _).block≠_;rw [add_block];exact (fun e_=>(by have h_:=HO228.out.1 _ e_.symm;simp [Value.ownBlock] at h_)))|exact (fun e_=>(by have h_:=HO228.out.1 _ e_.symm;simp [Value.ownBlock] at h_)))
  rw [← Ny233.out] at ho
  replace HO_3:=yam (Kd.R_after (ok:=(fun k_=>(P3_ k_∨w.heap.size≤k_)∧some k_≠(.slice (some ad229) t220.length co37:Value).ownBlock∧some k_≠(.slice Ao47 y230.length co47:Value).ownBlock)) (by (with_reducible repeat (first|apply Kd.Ya|apply Kd.Yn|apply Kd.Yd));exact Kd.R_mono HO_3.out (fun _ hk=>⟨⟨hk.1,⟨hk.2.2.2,hk.2.2.1⟩⟩,hk.2.1⟩)) hg hat)
  replace HO_10:=yam (Kd.R_after (ok:=(fun k_=>(P3_ k_∨w.heap.size≤k_)∧some k_≠(.slice Ao38 x3_1.length co38:Value).ownBlock∧some k_≠(.slice Ao47 y230.length co47:Value).ownBlock)) (by (with_reducible repeat (first|apply Kd.Ya|apply Kd.Yn|apply Kd.Yd));exact Kd.R_mono HO_10.out (fun _ hk=>⟨⟨hk.1,⟨hk.2.2.2,hk.2.2.1⟩⟩,hk.2.1⟩)) hg hat)
  replace BK213:=yam (blk_grown (g:=gb213) (o:= .cells #[.int .i64 a0_0,.slice (some ad218) l0_1.length c0_1,.int .i64 a0_2] 67 (0,0)) (ybz BK213.out) hg (Kd.R_ne HO228.out BK213.out (by decide)))
  replace HO232:=yam (Kd.R_after (ok:=(fun k_=>(P3_ k_∨w.heap.size≤k_)∧some k_≠(.slice Ao38 x3_1.length co38:Value).ownBlock∧some k_≠(.slice (some ad229) t220.length co37:Value).ownBlock)) (by (with_reducible repeat (first|apply Kd.Ya|apply Kd.Yn|apply Kd.Yd));exact Kd.R_mono HO232.out (fun _ hk=>⟨⟨hk.1,⟨hk.2.2.2,hk.2.2.1⟩⟩,hk.2.1⟩)) hg hat)
  replace HB:=yam (hb)
  replace HK:=yam (Kept.of_grown (S:=(fun k_=>P3_ k_)) hg (by repeat (first|(with_reducible first|exact HK.out|apply Kept.alloc|apply Kept.drewN|apply Kept.drew|refine Kept.setCell ?_ (.inr GW213.out) _)|exact HK.out)) (fun k_ e_=>(HO228.out.1 k_ e_).1))
  have HO235:=yam (ho)
  clear HO228
  clear ho hb hg hat
  obtain ⟨Ao48,co48,eo48⟩:=Kd.R_slice HO235.out
  (first|subst eo48|(injection eo48 with f1_ f2_ f3_;have f4_:=f1_.symm;have f5_:=f3_.symm;clear f1_ f2_ f3_;subst f4_;subst f5_))
  refine hK.out _ _ ⟨(blk_cell BK213.out 0).trans rfl,(blk_cell BK213.out 1).trans rfl,(blk_cell BK213.out 2).trans rfl,HS3_⟩ (fun hHeld=>?_)
  clear hK K
  refine norm_ (a':=?_) ?_ ?_
  rotate_left
  ·show Act.put _ (some 65) _=_
   simp only [Act.put,yps,i64_w,i32_w]
   rfl
  refine one_ (i:=12) (N:=some 67) (yvb 13 8191) rfl rfl (one_of HT_.out (by kernel_rfl)) (by decide) (fun K hK=>?_)
  refine goes_ Try.func90 (by kernel_rfl) rfl #[.agg #[.int .i64 a0_0,.slice (some ad218) l0_1.length c0_1,.int .i64 a0_2],.slice (some ad219) l1.length c1,.slice Ao48 y233.length co48,.slice Ao38 x3_1.length co38] (by rfl) rfl rfl ymd ?_
  with_reducible refine (ih k1 (by have:=HK1.out;omega) a0_0 _ _ l0_1 a0_2 _ _ l1 _ _ y233 (fun k_=>some k_=(.slice Ao38 x3_1.length co38:Value).ownBlock) (.slice Ao38 x3_1.length co38) x3_1 t236 w0 _ ?side1 ?side2 ?side3 ?side4 ?side5 ?side6 ?side7 ?side8 A36.out).mono ?_
  (case side1=>repeat (first|(with_reducible first|exact HB.out|apply yea|apply yen|apply yed|refine below_set ?_ GE213.out)|exact HB.out))
  (case side2=>exact Kd.C_kept_call HR0_1.out (by repeat (first|(with_reducible first|exact HK.out|apply Kept.alloc|apply Kept.drewN|apply Kept.drew|refine Kept.setCell ?_ (.inr GW213.out) _)|exact HK.out)) (fun k_ hs_=>(fun e_=>(HO_3.out.1 k_ e_.symm).1.1) hs_))
  (case side3=>exact HC0_1.out)
  (case side4=>exact Kd.C_kept_call HR1.out (by repeat (first|(with_reducible first|exact HK.out|apply Kept.alloc|apply Kept.drewN|apply Kept.drew|refine Kept.setCell ?_ (.inr GW213.out) _)|exact HK.out)) (fun k_ hs_=>(fun e_=>(HO_3.out.1 k_ e_.symm).1.1) hs_))
  (case side5=>exact HC1.out)
  (case side6=>exact Kd.C_kept_own (HO235.out) (fun k_ hk_ hs_=>(hk_.2.1) hs_))
  (case side7=>exact (Kd.Yr HO235.out).2.1)
  (case side8=>exact Kd.R_tight rfl HO_3.out)
  rintro e w49 ⟨rfl,hy0,hb,hkp⟩
  have HS3_:=cell_kept (hHeld.2.2.2) hkp (by first|(rw [add_block];exact (fun hs_=>(((HO_10.out).1 _ rfl).1.2.1) hs_))|(show ¬ _;simp only [add_block];exact (fun hs_=>(((HO_10.out).1 _ rfl).1.2.1) hs_))|exact (fun hs_=>(((HO_10.out).1 _ rfl).1.2.1) hs_))
  refine ⟨_,rfl,?_⟩
  replace HO_10:=yam (Kd.R_mono (ok':=fun k_=>(P3_ k_∨w.heap.size≤k_)∧some k_≠(.slice Ao38 x3_1.length co38:Value).ownBlock∧some k_≠(.slice Ao47 y230.length co47:Value).ownBlock∧some k_≠(.slice Ao48 y233.length co48:Value).ownBlock) (Kd.R_keptB (HO_10.out) hkp (fun k_ hk_ hs_=>(hk_.1.2.1) hs_)) (fun k_ hk_=>⟨hk_.1.1.1,hk_.1.1.2.1,hk_.1.1.2.2,hk_.1.2⟩))
  replace BK213:=yam (blk_kept (ybz BK213.out) hkp (fun hs_=>(fun e_=>(Kd.R_ne HO_3.out BK213.out (by decide)) e_) hs_))
  replace HO232:=yam (Kd.R_mono (ok':=fun k_=>(P3_ k_∨w.heap.size≤k_)∧some k_≠(.slice Ao38 x3_1.length co38:Value).ownBlock∧some k_≠(.slice (some ad229) t220.length co37:Value).ownBlock∧some k_≠(.slice Ao48 y233.length co48:Value).ownBlock) (Kd.R_keptB (HO232.out) hkp (fun k_ hk_ hs_=>(hk_.1.2.1) hs_)) (fun k_ hk_=>⟨hk_.1.1.1,hk_.1.1.2.1,hk_.1.1.2.2,hk_.1.2⟩))
  replace HO235:=yam (Kd.R_mono (ok':=fun k_=>(P3_ k_∨w.heap.size≤k_)∧some k_≠(.slice Ao38 x3_1.length co38:Value).ownBlock∧some k_≠(.slice (some ad229) t220.length co37:Value).ownBlock∧some k_≠(.slice Ao47 y230.length co47:Value).ownBlock) (Kd.R_keptB (HO235.out) hkp (fun k_ hk_ hs_=>(hk_.2.1) hs_)) (fun k_ hk_=>⟨hk_.1.1,hk_.1.2.1,hk_.1.2.2.1,hk_.1.2.2.2⟩))
  replace HK:=yam (Kept.then_ (S:=(fun k_=>P3_ k_)) (by repeat (first|(with_reducible first|exact HK.out|apply Kept.alloc|apply Kept.drewN|apply Kept.drew|refine Kept.setCell ?_ (.inr GW213.out) _)|exact HK.out)) hkp (fun k_ hs_=>(fun e_=>(HO_3.out.1 k_ e_.symm).1.1) hs_))
  replace HO_3:=yam (Kd.R_reok rfl hy0 (fun k_ e_=>HO_3.out.1 k_ e_))
  replace HB:=yam (hb)
  (try clear hb)
  (try clear hkp)
  (try clear hy0)
  refine hK.out _ _ ⟨(blk_cell BK213.out 0).trans rfl,(blk_cell BK213.out 1).trans rfl,(blk_cell BK213.out 2).trans rfl,HS3_⟩ (fun hHeld=>?_)
  clear hK K
  refine norm_ (a':=?_) ?_ ?_
  rotate_left
  ·show Act.put _ (some 67) _=_
   simp only [Act.put,yps,i64_w,i32_w]
   rfl
  refine done_ (done_of HT_.out (by kernel_rfl)) ?_
  try go_wp2
  go_roundg k1
  case measure=>have:=HK1.out;omega
  case rel=>exact ⟨(t236),(wrap64 (x11_1 + 1)),yeq,H,⟨by have:=HK1.out;omega⟩,⟨by (with_reducible repeat (first|apply Kd.Ya|apply Kd.Yn|apply Kd.Yd));exact Kd.R_mono HO_3.out (fun _ hk=>⟨hk.1.1,hk.1.2.1⟩)⟩,⟨by (with_reducible repeat (first|apply Kd.Ya|apply Kd.Yn|apply Kd.Yd));exact Kd.R_mono HO_10.out (fun _ hk=>⟨hk.1,hk.2.1⟩)⟩,⟨ybk BK213.out⟩,⟨by repeat (first|(with_reducible first|exact HK.out|apply Kept.alloc|apply Kept.drewN|apply Kept.drew|refine Kept.setCell ?_ (.inr GW213.out) _)|exact HK.out)⟩,⟨yhb⟩⟩
def spec_RuleMasks.f (k:Nat)(a0_0:Int)(l0_1:List Int)(a0_2:Int)(l1:List Int)(a2:Int):Option (List Int):=(spec_RuleValid.f k a0_0 l0_1 a0_2 a2).bind fun t238=>(if t238=true then ((spec_MasksValid.f k l1 a2).bind fun t239=>(if t239=true then (if 0≤(l0_1.length:Int) then (if ((l0_1.length:Int):Int).toNat≤35184372088832 then ((spec_l4Ways.f k a0_0 l0_1 a0_2 l1 (([]:List Int)) (List.replicate ((l0_1.length:Int):Int).toNat 0)).bind fun t246=>(some t246)) else (none)) else (none)) else (some (([]:List Int))))) else (some (([]:List Int))))
theorem spec_RuleMasks.calls (k:Nat)(a0_0:Int)(A0_1:Option Addr)(c0_1:Nat)(l0_1:List Int)(a0_2:Int)(A1:Option Addr)(c1:Nat)(l1:List Int)(a2:Int)(r:List Int)(w:World)(hr0_1:Kd.C (Kd.int .i64) w A0_1 l0_1.length l0_1)(hc0_1:l0_1.length≤c0_1)(hr1:Kd.C (Kd.int .i64) w A1 l1.length l1)(hc1:l1.length≤c1)(h:spec_RuleMasks.f k a0_0 l0_1 a0_2 l1 a2=some r) :
  Calls Try.prog 81 #[.agg #[.int .i64 a0_0,.slice A0_1 l0_1.length c0_1,.int .i64 a0_2],.slice A1 l1.length c1,.int .i64 a2] w fun e w'=>∃ v0_:Value,e= .returned (v0_)∧Kd.R (Kd.int .i64) 3 w' w.heap.size (fun _=>True) v0_ r∧Below w.heap.size w w':=by
 have hu67:=Try.underlying67
 have HR0_1:=yam hr0_1
 have HC0_1:=yam hc0_1
 clear hr0_1 hc0_1
 have HR1:=yam hr1
 have HC1:=yam hc1
 clear hr1 hc1
 have HB:=yam (Below.refl w.heap.size w)
 unfold spec_RuleMasks.f at h
 have H:=h
 clear h
 replace H:=ybi H;obtain ⟨t238,A4,H⟩:=H
 try dsimp only at H
 cases t238
 ·replace H:=yff H
  obtain ⟨y250,Ny250⟩:∃ y_:List Int,Aside0 (y_=(([]:List Int))):=⟨_,⟨rfl⟩⟩
  replace H:(some y250)=some r:=yhn Ny250.out H
  obtain rfl:=ysi H
  go_enter Try.func81,Try.ntmps81
  go_wp2_with (first|(refine ybe 3 #[.int .i64 a0_0,.slice A0_1 l0_1.length c0_1,.int .i64 a0_2] 67 ?_;intro gb237 hg w28 hbox hb;have BK237:=yam (hbox);have GW237:=yam ((by rw [hg];exact (below_size (yez HB.out)):w.heap.size≤gb237));replace HB:=yam (below_step (yez HB.out) hb);have GE237:=GW237;clear hb hbox hg;obtain ⟨hcz29_0,hcz29_1,hcz29_2,hfz29_0,hfz29_1,hfz29_2⟩:=ybc BK237.out)|(refine goesL_ (some 10) rfl rfl Try.func66 (by kernel_rfl) rfl #[.agg #[.int .i64 a0_0,.slice A0_1 l0_1.length c0_1,.int .i64 a0_2],.int .i64 a2] rfl ymd ?_;(with_reducible refine (spec_RuleValid.calls k a0_0 _ _ l0_1 a0_2 a2 false _ ?_ ?_ A4.out).mono ?_);exact Kd.Cz ((Kd.C_below HR0_1.out HB.out));exact HC0_1.out;rintro e w30 ⟨rfl,hb⟩;refine ⟨_,rfl,?_⟩;replace BK237:=yam (ybb BK237.out hb);replace HB:=yam (below_step yhb hb);(try clear hb))|((with_reducible refine gate_dst (N:=18) rfl ?_);refine Kd.R_lit (Kd.int .i64) _ 3 ?hg (N:=18) ?hd (xs:=([]:List Int)) (inner:=[]) (ok:=fun _=>True) (okp:=fun _=>True) ?hr ?hp (fun _ hk=>hk) trivial (Below.refl _ _) (Nat.le_refl _) (by simp) ?_;(case hd=>rfl);(case hg=>rfl);(case hr=>first|(go_simp;done)|(go_simp;rfl));(case hp=>exact (Reps.none _ _));intro v251 w31 ho32 hb hg_ hnew_;clear hg_ hnew_;(first|rw [← Ny250.out] at ho32|(simp only [Int.reduceToNat] at ho32;rw [← Ny250.out] at ho32));have HO252:=yam (Kd.R_lower ho32 (below_size yhb));replace BK237:=yam (ybb BK237.out hb);replace HB:=yam (below_step yhb hb);clear hb ho32))
  go_ret
  exact ⟨_,yer,yka HO252.out,yhb⟩
 replace H:=ytt H
 replace H:=ybi H;obtain ⟨t239,A6,H⟩:=H
 try dsimp only at H
 cases t239
 ·replace H:=yff H
  obtain ⟨y247,Ny247⟩:∃ y_:List Int,Aside0 (y_=(([]:List Int))):=⟨_,⟨rfl⟩⟩
  replace H:(some y247)=some r:=yhn Ny247.out H
  obtain rfl:=ysi H
  go_enter Try.func81,Try.ntmps81
  go_wp2_with (first|(refine ybe 3 #[.int .i64 a0_0,.slice A0_1 l0_1.length c0_1,.int .i64 a0_2] 67 ?_;intro gb237 hg w23 hbox hb;have BK237:=yam (hbox);have GW237:=yam ((by rw [hg];exact (below_size (yez HB.out)):w.heap.size≤gb237));replace HB:=yam (below_step (yez HB.out) hb);have GE237:=GW237;clear hb hbox hg;obtain ⟨hcz24_0,hcz24_1,hcz24_2,hfz24_0,hfz24_1,hfz24_2⟩:=ybc BK237.out)|(refine goesL_ (some 10) rfl rfl Try.func66 (by kernel_rfl) rfl #[.agg #[.int .i64 a0_0,.slice A0_1 l0_1.length c0_1,.int .i64 a0_2],.int .i64 a2] rfl ymd ?_;(with_reducible refine (spec_RuleValid.calls k a0_0 _ _ l0_1 a0_2 a2 true _ ?_ ?_ A4.out).mono ?_);exact Kd.Cz ((Kd.C_below HR0_1.out HB.out));exact HC0_1.out;rintro e w25 ⟨rfl,hb⟩;refine ⟨_,rfl,?_⟩;replace BK237:=yam (ybb BK237.out hb);replace HB:=yam (below_step yhb hb);(try clear hb))|(go_at_call 53;(with_reducible refine (spec_MasksValid.calls k _ _ l1 a2 false _ ?_ ?_ A6.out).mono ?_);exact Kd.Cz ((Kd.C_below HR1.out HB.out));exact HC1.out;rintro e w' ⟨rfl,⟨nd,rfl⟩⟩)|((with_reducible refine gate_dst (N:=18) rfl ?_);refine Kd.R_lit (Kd.int .i64) _ 3 ?hg (N:=18) ?hd (xs:=([]:List Int)) (inner:=[]) (ok:=fun _=>True) (okp:=fun _=>True) ?hr ?hp (fun _ hk=>hk) trivial (Below.refl _ _) (Nat.le_refl _) (by simp) ?_;(case hd=>rfl);(case hg=>rfl);(case hr=>first|(go_simp;done)|(go_simp;rfl));(case hp=>exact (Reps.none _ _));intro v248 w26 ho27 hb hg_ hnew_;clear hg_ hnew_;(first|rw [← Ny247.out] at ho27|(simp only [Int.reduceToNat] at ho27;rw [← Ny247.out] at ho27));have HO249:=yam (Kd.R_lower ho27 (below_size yhb));replace BK237:=yam (ybb BK237.out hb);replace HB:=yam (below_step yhb hb);clear hb ho27))
  go_ret
  exact ⟨_,yer,yka HO249.out,yhb⟩
 replace H:=ytt H
 replace H:=yig H;obtain ⟨c8,H⟩:=H
 have c8b0:=eq_true c8
 have c8b1:decide (0≤(l0_1.length:Int))=true:=decide_eq_true c8
 clear c8
 replace H:=yig H;obtain ⟨c9,H⟩:=H
 have c9b0:=eq_true c9
 have c9b1:decide (((l0_1.length:Int):Int).toNat≤35184372088832)=true:=decide_eq_true c9
 clear c9
 obtain ⟨y240,Ny240⟩:∃ y_:List Int,Aside0 (y_=(List.replicate ((l0_1.length:Int):Int).toNat 0)):=⟨_,⟨rfl⟩⟩
 replace H:((spec_l4Ways.f k a0_0 l0_1 a0_2 l1 (([]:List Int)) y240).bind fun t246=>(some t246))=some r:=yhn Ny240.out H
 obtain ⟨y243,Ny243⟩:∃ y_:List Int,Aside0 (y_=(([]:List Int))):=⟨_,⟨rfl⟩⟩
 replace H:((spec_l4Ways.f k a0_0 l0_1 a0_2 l1 y243 y240).bind fun t246=>(some t246))=some r:=yhn Ny243.out H
 replace H:=ybi H;obtain ⟨t246,A10,H⟩:=H
 try dsimp only at H
 obtain rfl:=ysi H
 go_enter Try.func81,Try.ntmps81
 go_wp2_with (first|(refine ybe 3 #[.int .i64 a0_0,.slice A0_1 l0_1.length c0_1,.int .i64 a0_2] 67 ?_;intro gb237 hg w11 hbox hb;have BK237:=yam (hbox);have GW237:=yam ((by rw [hg];exact (below_size (yez HB.out)):w.heap.size≤gb237));replace HB:=yam (below_step (yez HB.out) hb);have GE237:=GW237;clear hb hbox hg;obtain ⟨hcz12_0,hcz12_1,hcz12_2,hfz12_0,hfz12_1,hfz12_2⟩:=ybc BK237.out)|(refine goesL_ (some 10) rfl rfl Try.func66 (by kernel_rfl) rfl #[.agg #[.int .i64 a0_0,.slice A0_1 l0_1.length c0_1,.int .i64 a0_2],.int .i64 a2] rfl ymd ?_;(with_reducible refine (spec_RuleValid.calls k a0_0 _ _ l0_1 a0_2 a2 true _ ?_ ?_ A4.out).mono ?_);exact Kd.Cz ((Kd.C_below HR0_1.out HB.out));exact HC0_1.out;rintro e w13 ⟨rfl,hb⟩;refine ⟨_,rfl,?_⟩;replace BK237:=yam (ybb BK237.out hb);replace HB:=yam (below_step yhb hb);(try clear hb))|(go_at_call 53;(with_reducible refine (spec_MasksValid.calls k _ _ l1 a2 true _ ?_ ?_ A6.out).mono ?_);exact Kd.Cz ((Kd.C_below HR1.out HB.out));exact HC1.out;rintro e w' ⟨rfl,⟨nd,rfl⟩⟩;obtain ⟨hcz14_0,hcz14_1,hcz14_2,hfz14_0,hfz14_1,hfz14_2⟩:=ybc BK237.out)|((with_reducible refine gate_dst (N:=22) rfl ?_);refine Kd.R_make (Kd.int .i64) _ 3 rfl (N:=22) rfl 22 _ _ rfl (l0_1.length:Int) rfl rfl Try.underlying22 (.int .i64 0) 8 info3 rfl (by decide) (by omega) 0 (ok:=fun _=>True) (okp:=fun _=>True) rfl (fun _ hk=>hk) trivial (ydt) (Nat.le_trans (Nat.mul_le_mul_right _ (ydt:(l0_1.length:Int).toNat≤35184372088832)) (by omega)) (Below.refl _ _) (Nat.le_refl _) ?_;intro v241 w15 ho16 hb hg_ hnew_;clear hg_ hnew_;(first|rw [← Ny240.out] at ho16|(simp only [Int.reduceToNat] at ho16;rw [← Ny240.out] at ho16));have HO242:=yam (Kd.R_lower ho16 (below_size yhb));replace BK237:=yam (ybb BK237.out hb);replace HB:=yam (below_step yhb hb);clear hb ho16;obtain ⟨hcz17_0,hcz17_1,hcz17_2,hfz17_0,hfz17_1,hfz17_2⟩:=ybc BK237.out)|((with_reducible refine gate_dst (N:=25) rfl ?_);refine Kd.R_lit (Kd.int .i64) _ 3 ?hg (N:=25) ?hd (xs:=([]:List Int)) (inner:=[]) (ok:=fun _=>True) (okp:=fun _=>True) ?hr ?hp (fun _ hk=>hk) trivial (Below.refl _ _) (Nat.le_refl _) (by simp) ?_;(case hd=>rfl);(case hg=>rfl);(case hr=>first|(go_simp;done)|(go_simp;rfl));(case hp=>exact (Reps.none _ _));intro v244 w18 ho19 hb hg_ hnew_;clear hg_ hnew_;(first|rw [← Ny243.out] at ho19|(simp only [Int.reduceToNat] at ho19;rw [← Ny243.out] at ho19));have HO245:=yam (Kd.R_lower (Kd.Yw ho19 (Kd.R_lt (Kd.Yz HO242.out))) (below_size yhb));replace HO242:=yam (Kd.Ye (Kd.Yz HO242.out) (Kd.Yb ho19) hb);replace BK237:=yam (ybb BK237.out hb);replace HB:=yam (below_step yhb hb);clear hb ho19;obtain ⟨Ao20,co20,eo20⟩:=Kd.R_slice HO245.out;subst eo20;obtain ⟨Ao21,co21,eo21⟩:=Kd.R_slice HO242.out;subst eo21)|(refine goesL_ (some 27) rfl rfl Try.func90 (by kernel_rfl) rfl #[.agg #[.int .i64 a0_0,.slice A0_1 l0_1.length c0_1,.int .i64 a0_2],.slice A1 l1.length c1,.slice Ao20 y243.length co20,.slice Ao21 y240.length co21] rfl ymd ?_;(with_reducible refine (spec_l4Ways.calls k a0_0 _ _ l0_1 a0_2 _ _ l1 _ _ y243 (fun k_=>some k_=(.slice Ao21 y240.length co21:Value).ownBlock) (.slice Ao21 y240.length co21) y240 t246 w _ ?side1 ?side2 ?side3 ?side4 ?side5 ?side6 ?side7 ?side8 A10.out).mono ?_);(case side1=>repeat (first|(with_reducible first|exact HB.out|apply yea|apply yen|apply yed|refine below_set ?_ GE237.out)|exact HB.out));(case side2=>exact Kd.C_kept_came (Kd.heap_int .i64) HR0_1.out yhb (fun k_ hs_=>(fun e_=>Kd.Yb HO242.out k_ e_.symm) hs_));(case side3=>exact HC0_1.out);(case side4=>exact Kd.C_kept_came (Kd.heap_int .i64) HR1.out yhb (fun k_ hs_=>(fun e_=>Kd.Yb HO242.out k_ e_.symm) hs_));(case side5=>exact HC1.out);(case side6=>exact Kd.C_kept_own (HO245.out) (fun k_ hk_ hs_=>(hk_.2) hs_));(case side7=>exact (Kd.Yr HO245.out).2.1);(case side8=>exact Kd.R_tight rfl HO242.out);rintro e w22 ⟨rfl,hy0,hb,hkp⟩;refine ⟨_,rfl,?_⟩;replace BK237:=yam (blk_kept (ybz BK237.out) hkp (fun hs_=>(fun e_=>(Kd.R_ne HO242.out BK237.out (by decide)) e_) hs_));replace HO242:=yam (Kd.R_reok rfl hy0 (fun k_ e_=>HO242.out.1 k_ e_));replace HO245:=yam (Kd.R_mono (ok':=fun k_=>some k_≠(.slice Ao21 y240.length co21:Value).ownBlock) (Kd.R_keptB (HO245.out) hkp (fun k_ hk_ hs_=>(hk_.2) hs_)) (fun k_ hk_=>hk_.1.2));replace HB:=yam (hb);(try clear hb);(try clear hkp);(try clear hy0)))
 go_ret
 exact ⟨_,yer,by (with_reducible repeat (first|apply Kd.Ya|apply Kd.Yn|apply Kd.Yd));exact Kd.R_mono HO242.out (fun _ hk=>trivial),yhb⟩
mutual
def spec_NarrowRules.j0:Nat→List Int→Bool→Int→List Int→List (S67)→Option (List Int)
 | 0,_,_,_,_,_=>none
 | k + 1,x1,x19,x254000,x254001,x254002=>if x19=true then (some (([]:List Int))) else ((spec_l6Copy.f x1).bind fun t259=>(spec_NarrowRules.l0 k t259 0 x254000 x254001 x254002))
def spec_NarrowRules.l0:Nat→List Int→Int→Int→List Int→List (S67)→Option (List Int)
 | 0,_,_,_,_,_=>none
 | k + 1,x5,x6,x254000,x254001,x254002=>if x6 < (x254002.length:Int) then (if 0≤x6 then ((spec_RuleMasks.f k ((rd_T67 x254002 x6).f0) ((rd_T67 x254002 x6).f1) ((rd_T67 x254002 x6).f2) x5 x254000).bind fun t264=>(spec_NarrowRules.l1 k x5 x6 t264 0 x254000 x254001 x254002 ((rd_T67 x254002 x6).f0) ((rd_T67 x254002 x6).f1) ((rd_T67 x254002 x6).f2))) else (none)) else (some x5)
def spec_NarrowRules.l1:Nat→List Int→Int→List Int→Int→Int→List Int→List (S67)→Int→List Int→Int→Option (List Int)
 | 0,_,_,_,_,_,_,_,_,_,_=>none
 | k + 1,x5,x6,x8,x9,x254000,x254001,x254002,x264000,x264001,x264002=>if x9 < (x264001.length:Int) then (if 0≤x9 then (if x9 < (x8.length:Int) then (if 0≤(rd x264001 x9) then (if (rd x264001 x9) < (x5.length:Int) then (spec_NarrowRules.l1 k (x5.set ((rd x264001 x9):Int).toNat (rd x8 x9)) x6 x8 (wrap64 (x9 + 1)) x254000 x254001 x254002 x264000 x264001 x264002) else (none)) else (none)) else (none)) else (none)) else (spec_NarrowRules.l0 k x5 (wrap64 (x6 + 1)) x254000 x254001 x254002)
end
def spec_NarrowRules.f (k:Nat)(a0_0:Int)(l0_1:List Int)(l0_2:List (S67))(l1:List Int):Option (List Int):=(spec_PuzzleValid.f k a0_0 l0_1 l0_2).bind fun t254=>(if t254=true then ((spec_MasksValid.f k l1 a0_0).bind fun t255=>(spec_NarrowRules.j0 k l1 (!t255) a0_0 l0_1 l0_2)) else (spec_NarrowRules.j0 k l1 true a0_0 l0_1 l0_2))
def spec_NarrowRules.T12:Bool × List (List Nat × List Nat):=(true,[([],[]),([],[]),([1],[1]),([],[]),([2,3],[2,3]),([4],[4]),([],[]),([],[]),([6,7],[6,7]),([8],[8]),([0,5,0,1,2,3,4,5,6,7,8,9],[0,5]),([10,9,0,1,2,3,4,5,6,7,8,9],[9,10])])
def spec_NarrowRules.B12:List Nat:=[0,0,2,0,14,30,0,0,192,448,1023,2047]
theorem spec_NarrowRules.tab12:rtab .any (opsOf Try.f57 12)=spec_NarrowRules.T12:=by kernel_rfl
theorem spec_NarrowRules.bits12:waitsOk spec_NarrowRules.T12.2 spec_NarrowRules.B12=true:=by kernel_rfl
theorem spec_NarrowRules.calls (k:Nat)(a0_0:Int)(A0_1:Option Addr)(c0_1:Nat)(l0_1:List Int)(A0_2:Option Addr)(c0_2:Nat)(l0_2:List (S67))(A1:Option Addr)(c1:Nat)(l1:List Int)(r:List Int)(w:World)(hr0_1:Kd.C (Kd.int .i64) w A0_1 l0_1.length l0_1)(hc0_1:l0_1.length≤c0_1)(hr0_2:Kd.C k67 w A0_2 l0_2.length l0_2)(hc0_2:l0_2.length≤c0_2)(hr1:Kd.C (Kd.int .i64) w A1 l1.length l1)(hc1:l1.length≤c1)(h:spec_NarrowRules.f k a0_0 l0_1 l0_2 l1=some r) :
  Calls Try.prog 57 #[.agg #[.int .i64 a0_0,.slice A0_1 l0_1.length c0_1,.slice A0_2 l0_2.length c0_2],.slice A1 l1.length c1] w fun e w'=>∃ v0_:Value,e= .returned (v0_)∧Kd.R (Kd.int .i64) 3 w' w.heap.size (fun _=>True) v0_ r∧Below w.heap.size w w':=by
 have hu30:=Try.underlying30
 have hu67:=Try.underlying67
 have HR0_1:=yam hr0_1
 have HC0_1:=yam hc0_1
 clear hr0_1 hc0_1
 have HR0_2:=yam hr0_2
 have HC0_2:=yam hc0_2
 clear hr0_2 hc0_2
 have HR1:=yam hr1
 have HC1:=yam hc1
 clear hr1 hc1
 have HB:=yam (Below.refl w.heap.size w)
 unfold spec_NarrowRules.f at h
 have H:=h
 clear h
 have HC3:=yam H
 clear H
 go_enter Try.func57,Try.ntmps57
 go_upto_region 1 with (first|(refine ybe 2 #[.int .i64 a0_0,.slice A0_1 l0_1.length c0_1,.slice A0_2 l0_2.length c0_2] 30 ?_;intro gb253 hg w4 hbox hb;have BK253:=yam (hbox);have GW253:=yam ((by rw [hg];exact (below_size (yez HB.out)):w.heap.size≤gb253));replace HB:=yam (below_step (yez HB.out) hb);have GE253:=GW253;clear hb hbox hg))
 (try simp only [Act.put,yps])
 go_cut [19] (fun v19 wc=>∃ (kq:Nat) (x19_2:Bool),v19= .bool x19_2∧Aside0 (spec_NarrowRules.j0 kq l1 x19_2 a0_0 l0_1 l0_2=some r)∧Aside0 (kq≤k)∧Aside0 (wc.heap[gb253]?=some (.cells #[.int .i64 a0_0,(.slice A0_1 l0_1.length c0_1),(.slice A0_2 l0_2.length c0_2)] 30 (0,0)))∧Aside0 (Below w.heap.size w wc))
 case first =>
  have H:=HC3.out
  clear HC3
  replace H:=ybi H;obtain ⟨t254,A5,H⟩:=H
  try dsimp only at H
  cases t254
  ·replace H:=yff H
   replace H:=yam H
   obtain ⟨hcz11_0,hcz11_1,hcz11_2,hfz11_0,hfz11_1,hfz11_2⟩:=ybc BK253.out
   go_wp2_with (first|(refine goesL_ (some 11) rfl rfl Try.func34 (by kernel_rfl) rfl #[.agg #[.int .i64 a0_0,.slice A0_1 l0_1.length c0_1,.slice A0_2 l0_2.length c0_2]] rfl ymd ?_;(with_reducible refine (spec_PuzzleValid.calls k a0_0 _ _ l0_1 _ _ l0_2 false _ ?_ ?_ ?_ ?_ A5.out).mono ?_);exact Kd.Cz ((Kd.C_below HR0_1.out HB.out));exact HC0_1.out;exact Kd.Cz ((Kd.C_below HR0_2.out HB.out));exact HC0_2.out;rintro e w12 ⟨rfl,hb⟩;refine ⟨_,rfl,?_⟩;replace BK253:=yam (ybb BK253.out hb);replace HB:=yam (below_step yhb hb);(try clear hb)))
   go_meet
   case rel=>exact ⟨_,(true),yeq,H,⟨by first|omega|exact Nat.le_refl _⟩,⟨ybk BK253.out⟩,⟨yhb⟩⟩
  replace H:=ytt H
  replace H:=ybi H;obtain ⟨t255,A7,H⟩:=H
  try dsimp only at H
  replace H:=yam H
  obtain ⟨hcz8_0,hcz8_1,hcz8_2,hfz8_0,hfz8_1,hfz8_2⟩:=ybc BK253.out
  go_wp2_with (first|(refine goesL_ (some 11) rfl rfl Try.func34 (by kernel_rfl) rfl #[.agg #[.int .i64 a0_0,.slice A0_1 l0_1.length c0_1,.slice A0_2 l0_2.length c0_2]] rfl ymd ?_;(with_reducible refine (spec_PuzzleValid.calls k a0_0 _ _ l0_1 _ _ l0_2 true _ ?_ ?_ ?_ ?_ A5.out).mono ?_);exact Kd.Cz ((Kd.C_below HR0_1.out HB.out));exact HC0_1.out;exact Kd.Cz ((Kd.C_below HR0_2.out HB.out));exact HC0_2.out;rintro e w9 ⟨rfl,hb⟩;refine ⟨_,rfl,?_⟩;replace BK253:=yam (ybb BK253.out hb);replace HB:=yam (below_step yhb hb);(try clear hb);obtain ⟨hcz10_0,hcz10_1,hcz10_2,hfz10_0,hfz10_1,hfz10_2⟩:=ybc BK253.out)|(go_at_call 53;(with_reducible refine (spec_MasksValid.calls k _ _ l1 a0_0 t255 _ ?_ ?_ A7.out).mono ?_);exact Kd.Cz ((Kd.C_below HR1.out HB.out));exact HC1.out;rintro e w' ⟨rfl,⟨nd,rfl⟩⟩))
  go_meet
  case rel=>exact ⟨_,(!t255),yeq,H,⟨by first|omega|exact Nat.le_refl _⟩,⟨ybk BK253.out⟩,⟨yhb⟩⟩
 case rest =>
  clear HC3
  try clear c1
  obtain ⟨kq,x19_2,rfl,HA,HJ2,BK253,HB⟩:=hcut
  rcases kq with _|kj2
  ·exact absurd HA.out (by simp [spec_NarrowRules.j0])
  obtain ⟨H⟩:=HA
  simp only [spec_NarrowRules.j0] at H
  cases x19_2
  rotate_left
  ·replace H:=ytt H
   obtain ⟨y256,Ny256⟩:∃ y_:List Int,Aside0 (y_=(([]:List Int))):=⟨_,⟨rfl⟩⟩
   replace H:(some y256)=some r:=yhn Ny256.out H
   obtain rfl:=ysi H
   go_wp2_with (first|((with_reducible refine gate_dst (N:=20) rfl ?_);refine Kd.R_lit (Kd.int .i64) _ 3 ?hg (N:=20) ?hd (xs:=([]:List Int)) (inner:=[]) (ok:=fun _=>True) (okp:=fun _=>True) ?hr ?hp (fun _ hk=>hk) trivial (Below.refl _ _) (Nat.le_refl _) (by simp) ?_;(case hd=>rfl);(case hg=>rfl);(case hr=>first|(go_simp;done)|(go_simp;rfl));(case hp=>exact (Reps.none _ _));intro v257 w14 ho15 hb hg_ hnew_;clear hg_ hnew_;(first|rw [← Ny256.out] at ho15|(simp only [Int.reduceToNat] at ho15;rw [← Ny256.out] at ho15));have HO258:=yam (Kd.R_lower ho15 (below_size yhb));replace BK253:=yam (ybb BK253.out hb);replace HB:=yam (below_step yhb hb);clear hb ho15))
   go_ret
   exact ⟨_,yer,yka HO258.out,yhb⟩
  replace H:=yff H
  replace H:=ybi H;obtain ⟨t259,A16,H⟩:=H
  try dsimp only at H
  replace H:=yam H
  go_wp2_with (first|(refine goesL_ (some 22) rfl rfl Try.func62 (by kernel_rfl) rfl #[.slice A1 l1.length c1] rfl ymd ?_;(with_reducible refine (spec_l6Copy.calls _ _ l1 t259 _ ?_ ?_ A16.out).mono ?_);exact Kd.Cz ((Kd.C_below HR1.out HB.out));exact HC1.out;rintro e w17 ⟨v260,rfl,ho0,hb⟩;refine ⟨_,rfl,?_⟩;have HO261:=yam (Kd.R_lower ho0 (below_size yhb));replace BK253:=yam (ybb BK253.out hb);replace HB:=yam (below_step yhb hb);(try clear hb);(try clear ho0)))
  go_loopg [6] kj2 (fun kq v6 w'=>∃ (x5_2:List Int) (x6_2:Int),v6= .int .i64 x6_2∧Aside0 (spec_NarrowRules.l0 kq x5_2 x6_2 a0_0 l0_1 l0_2=some r)∧Aside0 (kq≤kj2)∧Aside0 (Kd.R (Kd.int .i64) 3 w' w.heap.size (fun _=>True) v260 x5_2)∧Aside0 (w'.heap[gb253]?=some (.cells #[.int .i64 a0_0,(.slice A0_1 l0_1.length c0_1),(.slice A0_2 l0_2.length c0_2)] 30 (0,0)))∧Aside0 (Below w.heap.size w w'))
  case atStart=>exact ⟨(t259),(0),yeq,H,⟨Nat.le_refl _⟩,⟨yka HO261.out⟩,⟨ybk BK253.out⟩,⟨yhb⟩⟩
  case round =>
   clear H
   try clear c1
   obtain ⟨x5_2,x6_2,rfl,HA,HK2,HO_5,BK253,HB⟩:=hrel
   rcases gk with _|k2
   ·exact absurd HA.out (by simp [spec_NarrowRules.l0])
   obtain ⟨H⟩:=HA
   simp only [spec_NarrowRules.l0] at H
   replace H:=yis H;obtain ⟨c18b0,H⟩ | ⟨c18b0,H⟩:=H
   rotate_left
   ·obtain rfl:=ysi H
    obtain ⟨hcz41_0,hcz41_1,hcz41_2,hfz41_0,hfz41_1,hfz41_2⟩:=ybc BK253.out
    go_wp2
    go_ret
    exact ⟨_,yer,yka HO_5.out,yhb⟩
   replace H:=yif H;obtain ⟨c19b0,H⟩:=H
   replace H:=ybi H;obtain ⟨t264,A20,H⟩:=H
   try dsimp only at H
   replace H:=yam H
   obtain ⟨hcz21_0,hcz21_1,hcz21_2,hfz21_0,hfz21_1,hfz21_2⟩:=ybc BK253.out
   have p262:0≤(x6_2:Int):=ydt
   have q262:x6_2 < (l0_2.length:Int):=ydt
   obtain ⟨ad262,A262_1,c262_1,e262,hx262_0,hx262_1,hx262_2,hl262_1,hi262_1⟩:=at_T67 HR0_2.out x6_2 p262 q262
   cases e262
   replace hx262_0:=ybx HB.out hx262_0
   replace hx262_1:=ybx HB.out hx262_1
   replace hx262_2:=ybx HB.out hx262_2
   have HR262_1:=yam hi262_1
   have HC262_1:=yam hl262_1
   clear hi262_1 hl262_1
   replace p262:=eq_true p262
   replace q262:=eq_true q262
   go_wp2_with (first|(refine ybe 7 #[.int .i64 0,.slice none 0 0,.int .i64 0] 67 ?_;intro gb263 hg w22 hbox hb;replace HO_5:=yam (Kd.R_below (Kd.Yz HO_5.out) hb);have BK263:=yam (hbox);have GW263:=yam ((by rw [hg];exact (below_size yhb):w.heap.size≤gb263));replace HB:=yam (below_step yhb hb);have GE263:=GW263;have NB253_263:=yam ((by rw [hg];exact Nat.ne_of_lt (blk_lt (g:=gb253) (o:= .cells #[.int .i64 a0_0,.slice A0_1 l0_1.length c0_1,.slice (some ad262) l0_2.length c0_2] 30 (0,0)) (ybz BK253.out)):gb253≠gb263));have NB263_253:=yam ((by rw [hg];exact Nat.ne_of_gt (blk_lt (g:=gb253) (o:= .cells #[.int .i64 a0_0,.slice A0_1 l0_1.length c0_1,.slice (some ad262) l0_2.length c0_2] 30 (0,0)) (ybz BK253.out)):gb263≠gb253));replace BK253:=yam (ybb BK253.out hb);clear hb hbox hg;have hnb23:=NB263_253.out;have hnc23:=NB253_263.out;obtain ⟨hcz24_0,hcz24_1,hcz24_2,hfz24_0,hfz24_1,hfz24_2⟩:=ybc BK263.out;obtain ⟨hcz25_0,hcz25_1,hcz25_2,hfz25_0,hfz25_1,hfz25_2⟩:=ybc BK253.out;obtain ⟨Ao26,co26,eo26⟩:=Kd.R_slice HO_5.out;subst eo26)|(refine goesL_ (some 39) rfl rfl Try.func81 (by kernel_rfl) rfl #[.agg #[.int .i64 ((rd_T67 l0_2 x6_2).f0),.slice A262_1 ((rd_T67 l0_2 x6_2).f1).length c262_1,.int .i64 ((rd_T67 l0_2 x6_2).f2)],.slice Ao26 x5_2.length co26,.int .i64 a0_0] rfl ymd ?_;(with_reducible refine (spec_RuleMasks.calls k2 ((rd_T67 l0_2 x6_2).f0) _ _ ((rd_T67 l0_2 x6_2).f1) ((rd_T67 l0_2 x6_2).f2) _ _ x5_2 a0_0 t264 _ ?side1 ?side2 ?side3 ?side4 A20.out).mono ?_);(case side1=>exact Kd.C_below HR262_1.out yhb);(case side2=>exact HC262_1.out);(case side3=>refine (Kd.Yr (e:=3) (base:=w.heap.size) (ok:=fun k_=>True) (n:=x5_2.length) (c:=co26) ?_).2.2;exact (by (with_reducible repeat (first|apply Kd.Ya|apply Kd.Yn|apply Kd.Yd));exact (Kd.R_mono (Kd.R_far (p:=⟨gb263,2,none⟩) (Kd.R_far (p:=⟨gb263,1,none⟩) (Kd.R_far (p:=⟨gb263,0,none⟩) (Kd.R_types HO_5.out BK263.out (by decide)) (fun _ hk=>hk.2) (.int .i64 ((rd_T67 l0_2 x6_2).f0))) (fun _ hk=>hk.2) (.slice A262_1 ((rd_T67 l0_2 x6_2).f1).length c262_1)) (fun _ hk=>hk.2) (.int .i64 ((rd_T67 l0_2 x6_2).f2))) (fun _ h_=>h_.1))));(case side4=>exact (Kd.Yr HO_5.out).2.1);rintro e w27 ⟨v265,rfl,ho0,hb⟩;refine ⟨_,rfl,?_⟩;have HO266:=yam (Kd.R_lower (Kd.Yw ho0 (Kd.R_lt (by (with_reducible repeat (first|apply Kd.Ya|apply Kd.Yn|apply Kd.Yd));exact (Kd.R_mono (Kd.R_far (p:=⟨gb263,2,none⟩) (Kd.R_far (p:=⟨gb263,1,none⟩) (Kd.R_far (p:=⟨gb263,0,none⟩) (Kd.R_types HO_5.out BK263.out (by decide)) (fun _ hk=>hk.2) (.int .i64 ((rd_T67 l0_2 x6_2).f0))) (fun _ hk=>hk.2) (.slice A262_1 ((rd_T67 l0_2 x6_2).f1).length c262_1)) (fun _ hk=>hk.2) (.int .i64 ((rd_T67 l0_2 x6_2).f2))) (fun _ h_=>h_.1))))) (below_size yhb));replace HO_5:=yam (Kd.Ye (by (with_reducible repeat (first|apply Kd.Ya|apply Kd.Yn|apply Kd.Yd));exact (Kd.R_mono (Kd.R_far (p:=⟨gb263,2,none⟩) (Kd.R_far (p:=⟨gb263,1,none⟩) (Kd.R_far (p:=⟨gb263,0,none⟩) (Kd.R_types HO_5.out BK263.out (by decide)) (fun _ hk=>hk.2) (.int .i64 ((rd_T67 l0_2 x6_2).f0))) (fun _ hk=>hk.2) (.slice A262_1 ((rd_T67 l0_2 x6_2).f1).length c262_1)) (fun _ hk=>hk.2) (.int .i64 ((rd_T67 l0_2 x6_2).f2))) (fun _ h_=>h_.1))) (Kd.Yb ho0) hb);replace BK253:=yam (blk_below (g:=gb253) (o:= .cells #[.int .i64 a0_0,.slice A0_1 l0_1.length c0_1,.slice (some ad262) l0_2.length c0_2] 30 (0,0)) (by (with_reducible repeat (first|refine ybn ?_ _|refine ybd ?_|refine yba ?_ _));refine blk_far ?_ NB253_263.out _;(with_reducible repeat (first|refine ybn ?_ _|refine ybd ?_|refine yba ?_ _));refine blk_far ?_ NB253_263.out _;(with_reducible repeat (first|refine ybn ?_ _|refine ybd ?_|refine yba ?_ _));refine blk_far ?_ NB253_263.out _;(with_reducible repeat (first|refine ybn ?_ _|refine ybd ?_|refine yba ?_ _));exact BK253.out) hb);replace BK263:=yam (blk_below (g:=gb263) (o:= .cells #[.int .i64 ((rd_T67 l0_2 x6_2).f0),.slice A262_1 ((rd_T67 l0_2 x6_2).f1).length c262_1,.int .i64 ((rd_T67 l0_2 x6_2).f2)] 67 (0,0)) (by (with_reducible repeat (first|refine ybn ?_ _|refine ybd ?_|refine yba ?_ _));refine blk_put (cs:= #[.int .i64 ((rd_T67 l0_2 x6_2).f0),.slice A262_1 ((rd_T67 l0_2 x6_2).f1).length c262_1,.int .i64 0]) ?_ 2 _ rfl;(with_reducible repeat (first|refine ybn ?_ _|refine ybd ?_|refine yba ?_ _));refine blk_put (cs:= #[.int .i64 ((rd_T67 l0_2 x6_2).f0),.slice none 0 0,.int .i64 0]) ?_ 1 _ rfl;(with_reducible repeat (first|refine ybn ?_ _|refine ybd ?_|refine yba ?_ _));refine blk_put (cs:= #[.int .i64 0,.slice none 0 0,.int .i64 0]) ?_ 0 _ rfl;(with_reducible repeat (first|refine ybn ?_ _|refine ybd ?_|refine yba ?_ _));exact BK263.out) hb);replace HB:=yam (below_step yhb hb);(try clear hb);(try clear hk);(try clear ho0)))
   go_loopg [9] k2 (fun kq v9 w'=>∃ (x5_3:List Int) (x9_3:Int),v9= .int .i64 x9_3∧Aside0 (spec_NarrowRules.l1 kq x5_3 x6_2 t264 x9_3 a0_0 l0_1 l0_2 ((rd_T67 l0_2 x6_2).f0) ((rd_T67 l0_2 x6_2).f1) ((rd_T67 l0_2 x6_2).f2)=some r)∧Aside0 (kq≤k2)∧Aside0 (Kd.R (Kd.int .i64) 3 w' w.heap.size (fun k_=>some k_≠(v265:Value).ownBlock) (.slice Ao26 x5_2.length co26) x5_3)∧Aside0 (Kd.R (Kd.int .i64) 3 w' w.heap.size (fun k_=>some k_≠((.slice Ao26 x5_2.length co26):Value).ownBlock) v265 t264)∧Aside0 (w'.heap[gb253]?=some (.cells #[.int .i64 a0_0,(.slice A0_1 l0_1.length c0_1),(.slice (some ad262) l0_2.length c0_2)] 30 (0,0)))∧Aside0 (w'.heap[gb263]?=some (.cells #[.int .i64 ((rd_T67 l0_2 x6_2).f0),(.slice A262_1 ((rd_T67 l0_2 x6_2).f1).length c262_1),.int .i64 ((rd_T67 l0_2 x6_2).f2)] 67 (0,0)))∧Aside0 (Below w.heap.size w w'))
   case atStart=>exact ⟨(x5_2),(0),yeq,H,⟨Nat.le_refl _⟩,⟨by (with_reducible repeat (first|apply Kd.Ya|apply Kd.Yn|apply Kd.Yd));exact Kd.R_mono HO_5.out (fun _ hk=>hk.2)⟩,⟨by (with_reducible repeat (first|apply Kd.Ya|apply Kd.Yn|apply Kd.Yd));exact Kd.R_mono HO266.out (fun _ hk=>hk.2)⟩,⟨ybk BK253.out⟩,⟨ybk BK263.out⟩,⟨yhb⟩⟩
   case round =>
    clear H
    try clear c18b0
    try clear c19b0
    try clear hcz21_0
    try clear hcz21_1
    try clear hcz21_2
    try clear hcz24_0
    try clear hcz24_1
    try clear hcz24_2
    try clear hcz25_0
    try clear hcz25_1
    try clear hcz25_2
    try clear hfz21_0
    try clear hfz21_1
    try clear hfz21_2
    try clear hfz24_0
    try clear hfz24_1
    try clear hfz24_2
    try clear hfz25_0
    try clear hfz25_1
    try clear hfz25_2
    try clear hx262_0
    try clear hx262_1
    try clear hx262_2
    try clear p262
    try clear q262
    obtain ⟨x5_3,x9_3,rfl,HA,HK3,HO_5,HO_8,BK253,BK263,HB⟩:=hrel
    have hl5_3:=(Kd.Yr HO_5.out).1
    rw [hl5_3] at HO_5
    (try simp only [hl5_3])
    (try simp only [hl5_3] at BK253)
    (try simp only [hl5_3] at BK263)
    (try simp only [hl5_3] at HO_8)
    rcases gk with _|k3
    ·exact absurd HA.out (by simp [spec_NarrowRules.l1])
    obtain ⟨H⟩:=HA
    simp only [spec_NarrowRules.l1] at H
    replace H:=yis H;obtain ⟨c28b0,H⟩ | ⟨c28b0,H⟩:=H
    rotate_left
    ·replace H:=yam H
     have hnb39:=NB263_253.out
     have hnc39:=NB253_263.out
     obtain ⟨hcz40_0,hcz40_1,hcz40_2,hfz40_0,hfz40_1,hfz40_2⟩:=ybc BK263.out
     go_wp2
     (try simp only [← hl5_3])
     go_roundg k3
     case measure=>have:=HJ2.out;have:=HK2.out;have:=HK3.out;omega
     case rel=>exact ⟨(x5_3),(wrap64 (x6_2 + 1)),yeq,H,⟨by have:=HJ2.out;have:=HK2.out;have:=HK3.out;omega⟩,⟨by (try simp only [hl5_3]);(with_reducible repeat (first|apply Kd.Ya|apply Kd.Yn|apply Kd.Yd));exact Kd.R_mono HO_5.out (fun _ hk=>trivial)⟩,⟨by (try simp only [hl5_3]);(with_reducible repeat (first|refine ybn ?_ _|refine ybd ?_|refine yba ?_ _));exact BK253.out⟩,⟨yhb⟩⟩
    replace H:=yif H;obtain ⟨c29b0,H⟩:=H
    replace H:=yif H;obtain ⟨c30b0,H⟩:=H
    replace H:=yif H;obtain ⟨c31b0,H⟩:=H
    replace H:=yif H;obtain ⟨c32b0,H⟩:=H
    obtain ⟨y269,Ny269⟩:∃ y_:List Int,Aside0 (y_=(x5_3.set ((rd ((rd_T67 l0_2 x6_2).f1) x9_3):Int).toNat (rd t264 x9_3))):=⟨_,⟨rfl⟩⟩
    replace H:(spec_NarrowRules.l1 k3 y269 x6_2 t264 (wrap64 (x9_3 + 1)) a0_0 l0_1 l0_2 ((rd_T67 l0_2 x6_2).f0) ((rd_T67 l0_2 x6_2).f1) ((rd_T67 l0_2 x6_2).f2))=some r:=yhn Ny269.out H
    replace H:=yam H
    have hnb34:=NB263_253.out
    have hnc34:=NB253_263.out
    obtain ⟨hcz35_0,hcz35_1,hcz35_2,hfz35_0,hfz35_1,hfz35_2⟩:=ybc BK263.out
    try go_wp2
    replace HO_5:=yam (Kd.Yd HO_5.out)
    replace HO_8:=yam (Kd.Yd HO_8.out)
    replace BK253:=yam (ybd BK253.out)
    replace BK263:=yam (ybd BK263.out)
    replace HB:=yam (yed HB.out)
    obtain ⟨ad267,e267,hx267_0,p267,q267⟩:=yat HR262_1.out x9_3
    have hw267_0:=hx267_0
    cases e267
    replace hx267_0:=ybx HB.out hx267_0
    obtain ⟨Ao37,co37,eo37⟩:=Kd.R_slice HO_8.out
    (first|subst eo37|(injection eo37 with f1_ f2_ f3_;have f4_:=f1_.symm;have f5_:=f3_.symm;clear f1_ f2_ f3_;subst f4_;subst f5_))
    obtain ⟨ad268,e268,hx268_0,p268,q268⟩:=yat (Kd.Yr HO_8.out).2.2 x9_3
    cases e268
    have p33:0≤((rd ((rd_T67 l0_2 x6_2).f1) x9_3):Int):=ydt
    have q33:((rd ((rd_T67 l0_2 x6_2).f1) x9_3):Int) < ((x5_3.length:Int):Int):=ydt
    obtain ⟨go33,co33,eo33,gb33,gl33,cl33,HG33⟩:=Kd.R_form HO_5.out (by omega)
    (first|cases eo33|(injection eo33 with ea_ en_ ec_;(first|subst ea_|(injection ea_ with ea_;subst ea_));subst ec_;clear en_))
    have GB33:=yam gb33
    have GG33:=yam HG33
    clear gb33 gl33 HG33
    obtain ⟨hx33_0,hf33_0⟩:=Kd.R_celln 0 HO_5.out ((rd ((rd_T67 l0_2 x6_2).f1) x9_3):Int) p33 q33
    replace p33:=eq_true p33
    replace q33:=eq_true q33
    have HP38:=Kd.R_putn HO_5.out ((rd ((rd_T67 l0_2 x6_2).f1) x9_3):Int) (rd t264 x9_3)
    rw [← Ny269.out] at HP38
    have HQ38:=yam HP38
    clear HP38
    refine start_ (n:=12) (S:=fun w'=>w'.cell? ⟨gb263,0,none⟩=some (.int .i64 ((rd_T67 l0_2 x6_2).f0))∧w'.cell? ⟨gb263,1,none⟩=some (.slice (some ad267) ((rd_T67 l0_2 x6_2).f1).length c262_1)∧w'.cell? ⟨gb263,2,none⟩=some (.int .i64 ((rd_T67 l0_2 x6_2).f2))∧w'.cell? (ad267.add (x9_3).toNat)=some (.int .i64 (rd ((rd_T67 l0_2 x6_2).f1) x9_3))∧w'.cell? (ad268.add (x9_3).toNat)=some (.int .i64 (rd t264 x9_3))) (ds:=[11]) (yvb 12 0) (by kernel_rfl) rfl rfl ⟨(blk_cell BK263.out 0).trans rfl,(blk_cell BK263.out 1).trans rfl,(blk_cell BK263.out 2).trans rfl,((HB.out.cell (World.block_lt_of_cell? w _ hw267_0)).trans hw267_0),hx268_0⟩ (fun hHeld=>?_);refine with_tabW spec_NarrowRules.tab12 spec_NarrowRules.bits12 (fun HT_ HW_=>?_)
    generalize wr.drew=w36 at HO_5 HO_8 BK253 BK263 HB GG33 HQ38 hf33_0 hx267_0 hx268_0 hx33_0 hHeld ⊢
    refine yvp 0 47 (yvb 12 1) HT_.out ?_
    refine yvp 1 48 (yvb 12 3) HT_.out ?_
    refine yvp 3 50 (yvb 12 11) HT_.out ?_
    refine yvp 6 53 (yvb 12 75) HT_.out ?_
    refine yvp 7 54 (yvb 12 203) HT_.out ?_
    refine yvp 8 55 (yvb 12 459) HT_.out ?_
    refine yvt 2 49 (yvb 12 463) HT_.out HW_.out hHeld ?_
    refine yvp 4 51 (yvb 12 479) HT_.out ?_
    refine yvt 5 52 (yvb 12 511) HT_.out HW_.out hHeld ?_
    refine yvt 9 56 (yvb 12 1023) HT_.out HW_.out hHeld ?_
    refine yvp 10 57 (yvb 12 2047) HT_.out ?_
    refine last_ (i:=11) (N:=none) (yvb 12 4095) rfl rfl (one_of HT_.out (by kernel_rfl)) (by decide) (fun K hK=>?_)
    refine skip_ (w1:=?_) (by rfl) rfl ?_ ?_
    rotate_left
    ·go_simp
     rfl
    refine hK.out _ _ ?_
    clear hK K
    refine done_ (done_of HT_.out (by kernel_rfl)) ?_
    try go_wp2
    (try simp only [← hl5_3])
    go_roundg k3
    case measure=>have:=HJ2.out;have:=HK2.out;have:=HK3.out;omega
    case rel=>exact ⟨(y269),(wrap64 (x9_3 + 1)),yeq,H,⟨by have:=HJ2.out;have:=HK2.out;have:=HK3.out;omega⟩,⟨by (try simp only [hl5_3]);(with_reducible repeat (first|apply Kd.Ya|apply Kd.Yn|apply Kd.Yd));exact HQ38.out⟩,⟨by (try simp only [hl5_3]);(with_reducible repeat (first|apply Kd.Ya|apply Kd.Yn|apply Kd.Yd));exact Kd.R_mono (Kd.R_far (p:=⟨go33,((rd ((rd_T67 l0_2 x6_2).f1) x9_3):Int).toNat,none⟩) (Kd.R_mono HO_8.out (fun k_ hk=>(⟨hk,fun e_=>hk (by rw [e_];rfl)⟩:_∧k_≠go33))) (fun _ hk=>hk.2) (.int .i64 (rd t264 x9_3))) (fun _ hk=>hk.1)⟩,⟨by (try simp only [hl5_3]);(with_reducible repeat (first|refine ybn ?_ _|refine ybd ?_|refine yba ?_ _));refine blk_far ?_ (by have h_:=Kd.R_ne HO_5.out BK253.out (by decide);intro e_;exact h_ (by rw [e_];rfl)) _;(with_reducible repeat (first|refine ybn ?_ _|refine ybd ?_|refine yba ?_ _));exact BK253.out⟩,⟨by (try simp only [hl5_3]);(with_reducible repeat (first|refine ybn ?_ _|refine ybd ?_|refine yba ?_ _));refine blk_far ?_ (by have h_:=Kd.R_ne HO_5.out BK263.out (by decide);intro e_;exact h_ (by rw [e_];rfl)) _;(with_reducible repeat (first|refine ybn ?_ _|refine ybd ?_|refine yba ?_ _));exact BK263.out⟩,⟨yhb⟩⟩
def spec_NarrowBy.j0:Nat→List Int→Int→Bool→Int→List Int→List (S67)→Option (List Int)
 | 0,_,_,_,_,_,_=>none
 | k + 1,x1,x2,x16,x271000,x271001,x271002=>if x16=true then (some (([]:List Int))) else (if x2=1 then ((spec_NarrowSingles.f k x1 x271000).bind fun t276=>(some t276)) else (if x2=2 then ((spec_NarrowHidden.f k x1 x271000).bind fun t279=>(some t279)) else (if x2=3 then ((spec_NarrowPairs.f k x1 x271000).bind fun t282=>(some t282)) else (if x2=4 then ((spec_NarrowRules.f k x271000 x271001 x271002 x1).bind fun t285=>(some t285)) else (some (([]:List Int)))))))
def spec_NarrowBy.f (k:Nat)(a0_0:Int)(l0_1:List Int)(l0_2:List (S67))(l1:List Int)(a2:Int):Option (List Int):=(spec_PuzzleValid.f k a0_0 l0_1 l0_2).bind fun t271=>(if t271=true then ((spec_MasksValid.f k l1 a0_0).bind fun t272=>(spec_NarrowBy.j0 k l1 a2 (!t272) a0_0 l0_1 l0_2)) else (spec_NarrowBy.j0 k l1 a2 true a0_0 l0_1 l0_2))
theorem spec_NarrowBy.calls (k:Nat)(a0_0:Int)(A0_1:Option Addr)(c0_1:Nat)(l0_1:List Int)(A0_2:Option Addr)(c0_2:Nat)(l0_2:List (S67))(A1:Option Addr)(c1:Nat)(l1:List Int)(a2:Int)(r:List Int)(w:World)(hr0_1:Kd.C (Kd.int .i64) w A0_1 l0_1.length l0_1)(hc0_1:l0_1.length≤c0_1)(hr0_2:Kd.C k67 w A0_2 l0_2.length l0_2)(hc0_2:l0_2.length≤c0_2)(hr1:Kd.C (Kd.int .i64) w A1 l1.length l1)(hc1:l1.length≤c1)(h:spec_NarrowBy.f k a0_0 l0_1 l0_2 l1 a2=some r) :
  Calls Try.prog 25 #[.agg #[.int .i64 a0_0,.slice A0_1 l0_1.length c0_1,.slice A0_2 l0_2.length c0_2],.slice A1 l1.length c1,.int .i64 a2] w fun e w'=>∃ v0_:Value,e= .returned (v0_)∧Kd.R (Kd.int .i64) 3 w' w.heap.size (fun _=>True) v0_ r∧Below w.heap.size w w':=by
 have hu30:=Try.underlying30
 have HR0_1:=yam hr0_1
 have HC0_1:=yam hc0_1
 clear hr0_1 hc0_1
 have HR0_2:=yam hr0_2
 have HC0_2:=yam hc0_2
 clear hr0_2 hc0_2
 have HR1:=yam hr1
 have HC1:=yam hc1
 clear hr1 hc1
 have HB:=yam (Below.refl w.heap.size w)
 unfold spec_NarrowBy.f at h
 have H:=h
 clear h
 have HC4:=yam H
 clear H
 go_enter Try.func25,Try.ntmps25
 go_upto_region 1 with (first|(refine ybe 3 #[.int .i64 a0_0,.slice A0_1 l0_1.length c0_1,.slice A0_2 l0_2.length c0_2] 30 ?_;intro gb270 hg w5 hbox hb;have BK270:=yam (hbox);have GW270:=yam ((by rw [hg];exact (below_size (yez HB.out)):w.heap.size≤gb270));replace HB:=yam (below_step (yez HB.out) hb);have GE270:=GW270;clear hb hbox hg))
 (try simp only [Act.put,yps])
 go_cut [16] (fun v16 wc=>∃ (kq:Nat) (x16_3:Bool),v16= .bool x16_3∧Aside0 (spec_NarrowBy.j0 kq l1 a2 x16_3 a0_0 l0_1 l0_2=some r)∧Aside0 (kq≤k)∧Aside0 (wc.heap[gb270]?=some (.cells #[.int .i64 a0_0,(.slice A0_1 l0_1.length c0_1),(.slice A0_2 l0_2.length c0_2)] 30 (0,0)))∧Aside0 (Below w.heap.size w wc))
 case first =>
  have H:=HC4.out
  clear HC4
  replace H:=ybi H;obtain ⟨t271,A6,H⟩:=H
  try dsimp only at H
  cases t271
  ·replace H:=yff H
   replace H:=yam H
   obtain ⟨hcz12_0,hcz12_1,hcz12_2,hfz12_0,hfz12_1,hfz12_2⟩:=ybc BK270.out
   go_wp2_with (first|(refine goesL_ (some 8) rfl rfl Try.func34 (by kernel_rfl) rfl #[.agg #[.int .i64 a0_0,.slice A0_1 l0_1.length c0_1,.slice A0_2 l0_2.length c0_2]] rfl ymd ?_;(with_reducible refine (spec_PuzzleValid.calls k a0_0 _ _ l0_1 _ _ l0_2 false _ ?_ ?_ ?_ ?_ A6.out).mono ?_);exact Kd.Cz ((Kd.C_below HR0_1.out HB.out));exact HC0_1.out;exact Kd.Cz ((Kd.C_below HR0_2.out HB.out));exact HC0_2.out;rintro e w13 ⟨rfl,hb⟩;refine ⟨_,rfl,?_⟩;replace BK270:=yam (ybb BK270.out hb);replace HB:=yam (below_step yhb hb);(try clear hb)))
   go_meet
   case rel=>exact ⟨_,(true),yeq,H,⟨by first|omega|exact Nat.le_refl _⟩,⟨ybk BK270.out⟩,⟨yhb⟩⟩
  replace H:=ytt H
  replace H:=ybi H;obtain ⟨t272,A8,H⟩:=H
  try dsimp only at H
  replace H:=yam H
  obtain ⟨hcz9_0,hcz9_1,hcz9_2,hfz9_0,hfz9_1,hfz9_2⟩:=ybc BK270.out
  go_wp2_with (first|(refine goesL_ (some 8) rfl rfl Try.func34 (by kernel_rfl) rfl #[.agg #[.int .i64 a0_0,.slice A0_1 l0_1.length c0_1,.slice A0_2 l0_2.length c0_2]] rfl ymd ?_;(with_reducible refine (spec_PuzzleValid.calls k a0_0 _ _ l0_1 _ _ l0_2 true _ ?_ ?_ ?_ ?_ A6.out).mono ?_);exact Kd.Cz ((Kd.C_below HR0_1.out HB.out));exact HC0_1.out;exact Kd.Cz ((Kd.C_below HR0_2.out HB.out));exact HC0_2.out;rintro e w10 ⟨rfl,hb⟩;refine ⟨_,rfl,?_⟩;replace BK270:=yam (ybb BK270.out hb);replace HB:=yam (below_step yhb hb);(try clear hb);obtain ⟨hcz11_0,hcz11_1,hcz11_2,hfz11_0,hfz11_1,hfz11_2⟩:=ybc BK270.out)|(go_at_call 53;(with_reducible refine (spec_MasksValid.calls k _ _ l1 a0_0 t272 _ ?_ ?_ A8.out).mono ?_);exact Kd.Cz ((Kd.C_below HR1.out HB.out));exact HC1.out;rintro e w' ⟨rfl,⟨nd,rfl⟩⟩))
  go_meet
  case rel=>exact ⟨_,(!t272),yeq,H,⟨by first|omega|exact Nat.le_refl _⟩,⟨ybk BK270.out⟩,⟨yhb⟩⟩
 case rest =>
  clear HC4
  try clear c1
  obtain ⟨kq,x16_3,rfl,HA,HJ3,BK270,HB⟩:=hcut
  rcases kq with _|kj3
  ·exact absurd HA.out (by simp [spec_NarrowBy.j0])
  obtain ⟨H⟩:=HA
  simp only [spec_NarrowBy.j0] at H
  cases x16_3
  rotate_left
  ·replace H:=ytt H
   obtain ⟨y273,Ny273⟩:∃ y_:List Int,Aside0 (y_=(([]:List Int))):=⟨_,⟨rfl⟩⟩
   replace H:(some y273)=some r:=yhn Ny273.out H
   obtain rfl:=ysi H
   go_wp2_with (first|((with_reducible refine gate_dst (N:=17) rfl ?_);refine Kd.R_lit (Kd.int .i64) _ 3 ?hg (N:=17) ?hd (xs:=([]:List Int)) (inner:=[]) (ok:=fun _=>True) (okp:=fun _=>True) ?hr ?hp (fun _ hk=>hk) trivial (Below.refl _ _) (Nat.le_refl _) (by simp) ?_;(case hd=>rfl);(case hg=>rfl);(case hr=>first|(go_simp;done)|(go_simp;rfl));(case hp=>exact (Reps.none _ _));intro v274 w15 ho16 hb hg_ hnew_;clear hg_ hnew_;(first|rw [← Ny273.out] at ho16|(simp only [Int.reduceToNat] at ho16;rw [← Ny273.out] at ho16));have HO275:=yam (Kd.R_lower ho16 (below_size yhb));replace BK270:=yam (ybb BK270.out hb);replace HB:=yam (below_step yhb hb);clear hb ho16))
   go_ret
   exact ⟨_,yer,yka HO275.out,yhb⟩
  replace H:=yff H
  replace H:=yit H;obtain ⟨c17,H⟩ | ⟨c17,H⟩:=H
  ·have c17b0:(a2 == 1)=true:=beq_iff_eq.mpr c17
   have c17b1:(a2 != 1)=false:=bne_eq_false_iff_eq.mpr c17
   clear c17
   replace H:=ybi H;obtain ⟨t276,A18,H⟩:=H
   try dsimp only at H
   obtain rfl:=ysi H
   obtain ⟨hcz19_0,hcz19_1,hcz19_2,hfz19_0,hfz19_1,hfz19_2⟩:=ybc BK270.out
   go_wp2_with (first|(refine goesL_ (some 24) rfl rfl Try.func54 (by kernel_rfl) rfl #[.slice A1 l1.length c1,.int .i64 a0_0] rfl ymd ?_;(with_reducible refine (spec_NarrowSingles.calls kj3 _ _ l1 a0_0 t276 _ ?_ ?_ A18.out).mono ?_);exact Kd.Cz ((Kd.C_below HR1.out HB.out));exact HC1.out;rintro e w20 ⟨v277,rfl,ho0,hb⟩;refine ⟨_,rfl,?_⟩;have HO278:=yam (Kd.R_lower ho0 (below_size yhb));replace BK270:=yam (ybb BK270.out hb);replace HB:=yam (below_step yhb hb);(try clear hb);(try clear ho0)))
   go_ret
   exact ⟨_,yer,yka HO278.out,yhb⟩
  have c17b0:(a2 == 1)=false:=beq_eq_false_iff_ne.mpr c17
  have c17b1:(a2 != 1)=true:=bne_iff_ne.mpr c17
  replace H:=yit H;obtain ⟨c21,H⟩ | ⟨c21,H⟩:=H
  ·have c21b0:(a2 == 2)=true:=beq_iff_eq.mpr c21
   have c21b1:(a2 != 2)=false:=bne_eq_false_iff_eq.mpr c21
   clear c21
   replace H:=ybi H;obtain ⟨t279,A22,H⟩:=H
   try dsimp only at H
   obtain rfl:=ysi H
   obtain ⟨hcz23_0,hcz23_1,hcz23_2,hfz23_0,hfz23_1,hfz23_2⟩:=ybc BK270.out
   go_wp2_with (first|(refine goesL_ (some 30) rfl rfl Try.func55 (by kernel_rfl) rfl #[.slice A1 l1.length c1,.int .i64 a0_0] rfl ymd ?_;(with_reducible refine (spec_NarrowHidden.calls kj3 _ _ l1 a0_0 t279 _ ?_ ?_ A22.out).mono ?_);exact Kd.Cz ((Kd.C_below HR1.out HB.out));exact HC1.out;rintro e w24 ⟨v280,rfl,ho0,hb⟩;refine ⟨_,rfl,?_⟩;have HO281:=yam (Kd.R_lower ho0 (below_size yhb));replace BK270:=yam (ybb BK270.out hb);replace HB:=yam (below_step yhb hb);(try clear hb);(try clear ho0)))
   go_ret
   exact ⟨_,yer,yka HO281.out,yhb⟩
  have c21b0:(a2 == 2)=false:=beq_eq_false_iff_ne.mpr c21
  have c21b1:(a2 != 2)=true:=bne_iff_ne.mpr c21
  replace H:=yit H;obtain ⟨c25,H⟩ | ⟨c25,H⟩:=H
  ·have c25b0:(a2 == 3)=true:=beq_iff_eq.mpr c25
   have c25b1:(a2 != 3)=false:=bne_eq_false_iff_eq.mpr c25
   clear c25
   replace H:=ybi H;obtain ⟨t282,A26,H⟩:=H
   try dsimp only at H
   obtain rfl:=ysi H
   obtain ⟨hcz27_0,hcz27_1,hcz27_2,hfz27_0,hfz27_1,hfz27_2⟩:=ybc BK270.out
   go_wp2_with (first|(refine goesL_ (some 36) rfl rfl Try.func56 (by kernel_rfl) rfl #[.slice A1 l1.length c1,.int .i64 a0_0] rfl ymd ?_;(with_reducible refine (spec_NarrowPairs.calls kj3 _ _ l1 a0_0 t282 _ ?_ ?_ A26.out).mono ?_);exact Kd.Cz ((Kd.C_below HR1.out HB.out));exact HC1.out;rintro e w28 ⟨v283,rfl,ho0,hb⟩;refine ⟨_,rfl,?_⟩;have HO284:=yam (Kd.R_lower ho0 (below_size yhb));replace BK270:=yam (ybb BK270.out hb);replace HB:=yam (below_step yhb hb);(try clear hb);(try clear ho0)))
   go_ret
   exact ⟨_,yer,yka HO284.out,yhb⟩
  have c25b0:(a2 == 3)=false:=beq_eq_false_iff_ne.mpr c25
  have c25b1:(a2 != 3)=true:=bne_iff_ne.mpr c25
  replace H:=yit H;obtain ⟨c29,H⟩ | ⟨c29,H⟩:=H
  rotate_left
  ·have c29b0:(a2 == 4)=false:=beq_eq_false_iff_ne.mpr c29
   have c29b1:(a2 != 4)=true:=bne_iff_ne.mpr c29
   obtain ⟨y288,Ny288⟩:∃ y_:List Int,Aside0 (y_=(([]:List Int))):=⟨_,⟨rfl⟩⟩
   replace H:(some y288)=some r:=yhn Ny288.out H
   obtain rfl:=ysi H
   go_wp2_with (first|((with_reducible refine gate_dst (N:=42) rfl ?_);refine Kd.R_lit (Kd.int .i64) _ 3 ?hg (N:=42) ?hd (xs:=([]:List Int)) (inner:=[]) (ok:=fun _=>True) (okp:=fun _=>True) ?hr ?hp (fun _ hk=>hk) trivial (Below.refl _ _) (Nat.le_refl _) (by simp) ?_;(case hd=>rfl);(case hg=>rfl);(case hr=>first|(go_simp;done)|(go_simp;rfl));(case hp=>exact (Reps.none _ _));intro v289 w33 ho34 hb hg_ hnew_;clear hg_ hnew_;(first|rw [← Ny288.out] at ho34|(simp only [Int.reduceToNat] at ho34;rw [← Ny288.out] at ho34));have HO290:=yam (Kd.R_lower ho34 (below_size yhb));replace BK270:=yam (ybb BK270.out hb);replace HB:=yam (below_step yhb hb);clear hb ho34))
   go_ret
   exact ⟨_,yer,yka HO290.out,yhb⟩
  have c29b0:(a2 == 4)=true:=beq_iff_eq.mpr c29
  have c29b1:(a2 != 4)=false:=bne_eq_false_iff_eq.mpr c29
  clear c29
  replace H:=ybi H;obtain ⟨t285,A30,H⟩:=H
  try dsimp only at H
  obtain rfl:=ysi H
  obtain ⟨hcz31_0,hcz31_1,hcz31_2,hfz31_0,hfz31_1,hfz31_2⟩:=ybc BK270.out
  go_wp2_with (first|(refine goesL_ (some 41) rfl rfl Try.func57 (by kernel_rfl) rfl #[.agg #[.int .i64 a0_0,.slice A0_1 l0_1.length c0_1,.slice A0_2 l0_2.length c0_2],.slice A1 l1.length c1] rfl ymd ?_;(with_reducible refine (spec_NarrowRules.calls kj3 a0_0 _ _ l0_1 _ _ l0_2 _ _ l1 t285 _ ?_ ?_ ?_ ?_ ?_ ?_ A30.out).mono ?_);exact Kd.Cz ((Kd.C_below HR0_1.out HB.out));exact HC0_1.out;exact Kd.Cz ((Kd.C_below HR0_2.out HB.out));exact HC0_2.out;exact Kd.Cz ((Kd.C_below HR1.out HB.out));exact HC1.out;rintro e w32 ⟨v286,rfl,ho0,hb⟩;refine ⟨_,rfl,?_⟩;have HO287:=yam (Kd.R_lower ho0 (below_size yhb));replace BK270:=yam (ybb BK270.out hb);replace HB:=yam (below_step yhb hb);(try clear hb);(try clear ho0)))
  go_ret
  exact ⟨_,yer,yka HO287.out,yhb⟩
def spec_l8Same.l0:Nat→List Int→List Int→Int→Option (Bool)
 | 0,_,_,_=>none
 | k + 1,x0,x1,x5=>if x5 < (x0.length:Int) then (if 0≤x5 then (if x5 < (x1.length:Int) then (if (rd x0 x5)=(rd x1 x5) then (spec_l8Same.l0 k x0 x1 (wrap64 (x5 + 1))) else (some false)) else (none)) else (none)) else (some true)
def spec_l8Same.f (k:Nat)(l0:List Int)(l1:List Int):Option (Bool):=if (l0.length:Int)=(l1.length:Int) then (spec_l8Same.l0 k l0 l1 0) else (some false)
theorem spec_l8Same.calls (k:Nat)(A0:Option Addr)(c0:Nat)(l0:List Int)(A1:Option Addr)(c1:Nat)(l1:List Int)(r:Bool)(w:World)(hr0:Kd.C (Kd.int .i64) w A0 l0.length l0)(hc0:l0.length≤c0)(hr1:Kd.C (Kd.int .i64) w A1 l1.length l1)(hc1:l1.length≤c1)(h:spec_l8Same.f k l0 l1=some r) :
  Calls Try.prog 41 #[.slice A0 l0.length c0,.slice A1 l1.length c1] w fun e w'=>e= .returned (.bool r)∧Drawn0 w w':=by
 have HR0:=yam hr0
 have HC0:=yam hc0
 clear hr0 hc0
 have HR1:=yam hr1
 have HC1:=yam hc1
 clear hr1 hc1
 unfold spec_l8Same.f at h
 have H:=h
 clear h
 replace H:=yit H;obtain ⟨c3,H⟩ | ⟨c3,H⟩:=H
 rotate_left
 ·have c3b0:((l0.length:Int) == (l1.length:Int))=false:=beq_eq_false_iff_ne.mpr c3
  have c3b1:((l0.length:Int) != (l1.length:Int))=true:=bne_iff_ne.mpr c3
  have c3b2:(l0.length == l1.length)=false:=by first|simpa using c3|(simp at c3 ⊢;omega)
  obtain rfl:=ysi H
  go_enter Try.func41,Try.ntmps41
  go_wp2
  repeat (go_quiet (fail);try go_wp2)
  go_ret
  exact ⟨yeq,by repeat (first|exact Drawn0.refl _|apply Drawn0.step)⟩
 have c3b0:((l0.length:Int) == (l1.length:Int))=true:=beq_iff_eq.mpr c3
 have c3b1:((l0.length:Int) != (l1.length:Int))=false:=bne_eq_false_iff_eq.mpr c3
 have c3b2:(l0.length == l1.length)=true:=by first|simpa using c3|(simp at c3 ⊢;omega)
 clear c3
 replace H:=yam H
 go_enter Try.func41,Try.ntmps41
 go_wp2
 repeat (go_quiet (fail);try go_wp2)
 go_loopg [5] k (fun kq v5 w'=>∃ (x5_1:Int),v5= .int .i64 x5_1∧Aside0 (spec_l8Same.l0 kq l0 l1 x5_1=some r)∧Aside0 (kq≤k)∧Drawn0 w w')
 case atStart=>exact ⟨(0),yeq,H,⟨Nat.le_refl _⟩,by repeat (first|exact Drawn0.refl _|apply Drawn0.step)⟩
 case round =>
  clear H
  try clear c1
  try clear c3b0
  try clear c3b1
  try clear c3b2
  obtain ⟨x5_1,rfl,HA,HK1,⟨m1,rfl⟩⟩:=hrel
  rcases gk with _|k1
  ·exact absurd HA.out (by simp [spec_l8Same.l0])
  obtain ⟨H⟩:=HA
  simp only [spec_l8Same.l0] at H
  replace H:=yis H;obtain ⟨c4b0,H⟩ | ⟨c4b0,H⟩:=H
  rotate_left
  ·obtain rfl:=ysi H
   go_wp2
   repeat (go_quiet (fail);try go_wp2)
   go_ret
   exact ⟨yeq,by repeat (first|exact Drawn0.refl _|apply Drawn0.step)⟩
  replace H:=yif H;obtain ⟨c5b0,H⟩:=H
  replace H:=yif H;obtain ⟨c6b0,H⟩:=H
  replace H:=yit H;obtain ⟨c7,H⟩ | ⟨c7,H⟩:=H
  rotate_left
  ·have c7b0:((rd l0 x5_1) == (rd l1 x5_1))=false:=beq_eq_false_iff_ne.mpr c7
   have c7b1:((rd l0 x5_1) != (rd l1 x5_1))=true:=bne_iff_ne.mpr c7
   obtain rfl:=ysi H
   obtain ⟨ad304,e304,hx304_0,p304,q304⟩:=yat HR0.out x5_1
   cases e304
   obtain ⟨ad305,e305,hx305_0,p305,q305⟩:=yat HR1.out x5_1
   cases e305
   go_wp2
   repeat (go_quiet (fail);try go_wp2)
   go_ret
   exact ⟨yeq,by repeat (first|exact Drawn0.refl _|apply Drawn0.step)⟩
  have c7b0:((rd l0 x5_1) == (rd l1 x5_1))=true:=beq_iff_eq.mpr c7
  have c7b1:((rd l0 x5_1) != (rd l1 x5_1))=false:=bne_eq_false_iff_eq.mpr c7
  clear c7
  replace H:=yam H
  obtain ⟨ad304,e304,hx304_0,p304,q304⟩:=yat HR0.out x5_1
  cases e304
  obtain ⟨ad305,e305,hx305_0,p305,q305⟩:=yat HR1.out x5_1
  cases e305
  go_wp2
  repeat (go_quiet (fail);try go_wp2)
  go_roundg k1
  case measure=>have:=HK1.out;omega
  case rel=>exact ⟨(wrap64 (x5_1 + 1)),yeq,H,⟨by have:=HK1.out;omega⟩,by repeat (first|exact Drawn0.refl _|apply Drawn0.step)⟩
mutual
def spec_NarrowAll.j0:Nat→List Int→Int→Bool→Int→List Int→List (S67)→Option (List Int × Int)
 | 0,_,_,_,_,_,_=>none
 | k + 1,x1,x2,x26,x568000,x568001,x568002=>if x26=true then (some ((([]:List Int)),(-1))) else ((spec_l6Copy.f x1).bind fun t574=>(spec_NarrowAll.l0 k x2 t574 0 1 x568000 x568001 x568002))
def spec_NarrowAll.l0:Nat→Int→List Int→Int→Int→Int→List Int→List (S67)→Option (List Int × Int)
 | 0,_,_,_,_,_,_,_=>none
 | k + 1,x2,x8,x9,x10,x568000,x568001,x568002=>if x10≤x2 then ((spec_NarrowBy.f k x568000 x568001 x568002 x8 x10).bind fun t577=>((spec_l8Same.f k t577 x8).bind fun t580=>(if t580=true then (spec_NarrowAll.l0 k x2 x8 x9 (wrap64 (x10 + 1)) x568000 x568001 x568002) else (spec_NarrowAll.l0 k x2 t577 (wrap64 (x9 + 1)) 1 x568000 x568001 x568002)))) else (some (x8,x9))
end
def spec_NarrowAll.f (k:Nat)(a0_0:Int)(l0_1:List Int)(l0_2:List (S67))(l1:List Int)(a2:Int):Option (List Int × Int):=(spec_PuzzleValid.f k a0_0 l0_1 l0_2).bind fun t568=>(if t568=true then ((spec_MasksValid.f k l1 a0_0).bind fun t569=>(if t569=true then ((spec_l1In.f a2 1 4).bind fun t570=>(spec_NarrowAll.j0 k l1 a2 (!t570) a0_0 l0_1 l0_2)) else (spec_NarrowAll.j0 k l1 a2 true a0_0 l0_1 l0_2))) else (spec_NarrowAll.j0 k l1 a2 true a0_0 l0_1 l0_2))
theorem spec_NarrowAll.calls (k:Nat)(a0_0:Int)(A0_1:Option Addr)(c0_1:Nat)(l0_1:List Int)(A0_2:Option Addr)(c0_2:Nat)(l0_2:List (S67))(A1:Option Addr)(c1:Nat)(l1:List Int)(a2:Int)(r1:List Int)(r2:Int)(w:World)(hr0_1:Kd.C (Kd.int .i64) w A0_1 l0_1.length l0_1)(hc0_1:l0_1.length≤c0_1)(hr0_2:Kd.C k67 w A0_2 l0_2.length l0_2)(hc0_2:l0_2.length≤c0_2)(hr1:Kd.C (Kd.int .i64) w A1 l1.length l1)(hc1:l1.length≤c1)(h:spec_NarrowAll.f k a0_0 l0_1 l0_2 l1 a2=some (r1,r2)) :
  Calls Try.prog 28 #[.agg #[.int .i64 a0_0,.slice A0_1 l0_1.length c0_1,.slice A0_2 l0_2.length c0_2],.slice A1 l1.length c1,.int .i64 a2] w fun e w'=>∃ v0_:Value,e= .returned (.tuple #[v0_,.int .i64 r2])∧Kd.R (Kd.int .i64) 3 w' w.heap.size (fun _=>True) v0_ r1∧Below w.heap.size w w':=by
 have hu30:=Try.underlying30
 have HR0_1:=yam hr0_1
 have HC0_1:=yam hc0_1
 clear hr0_1 hc0_1
 have HR0_2:=yam hr0_2
 have HC0_2:=yam hc0_2
 clear hr0_2 hc0_2
 have HR1:=yam hr1
 have HC1:=yam hc1
 clear hr1 hc1
 have HB:=yam (Below.refl w.heap.size w)
 unfold spec_NarrowAll.f at h
 have H:=h
 clear h
 have HC4:=yam H
 clear H
 go_enter Try.func28,Try.ntmps28
 go_upto_region 1 with (first|(refine ybe 3 #[.int .i64 a0_0,.slice A0_1 l0_1.length c0_1,.slice A0_2 l0_2.length c0_2] 30 ?_;intro gb567 hg w5 hbox hb;have BK567:=yam (hbox);have GW567:=yam ((by rw [hg];exact (below_size (yez HB.out)):w.heap.size≤gb567));replace HB:=yam (below_step (yez HB.out) hb);have GE567:=GW567;clear hb hbox hg))
 (try simp only [Act.put,yps])
 go_cut [26] (fun v26 wc=>∃ (kq:Nat) (x26_3:Bool),v26= .bool x26_3∧Aside0 (spec_NarrowAll.j0 kq l1 a2 x26_3 a0_0 l0_1 l0_2=some (r1,r2))∧Aside0 (kq≤k)∧Aside0 (wc.heap[gb567]?=some (.cells #[.int .i64 a0_0,(.slice A0_1 l0_1.length c0_1),(.slice A0_2 l0_2.length c0_2)] 30 (0,0)))∧Aside0 (Below w.heap.size w wc))
 case first =>
  have H:=HC4.out
  clear HC4
  replace H:=ybi H;obtain ⟨t568,A6,H⟩:=H
  replace H:(if t568=true then ((spec_MasksValid.f k l1 a0_0).bind fun t569=>(if t569=true then ((spec_l1In.f a2 1 4).bind fun t570=>(spec_NarrowAll.j0 k l1 a2 (!t570) a0_0 l0_1 l0_2)) else (spec_NarrowAll.j0 k l1 a2 true a0_0 l0_1 l0_2))) else (spec_NarrowAll.j0 k l1 a2 true a0_0 l0_1 l0_2))=some (r1,r2):=H
  cases t568
  ·replace H:=yff H
   replace H:=yam H
   obtain ⟨hcz17_0,hcz17_1,hcz17_2,hfz17_0,hfz17_1,hfz17_2⟩:=ybc BK567.out
   go_wp2_with (first|(refine goesL_ (some 13) rfl rfl Try.func34 (by kernel_rfl) rfl #[.agg #[.int .i64 a0_0,.slice A0_1 l0_1.length c0_1,.slice A0_2 l0_2.length c0_2]] rfl ymd ?_;(with_reducible refine (spec_PuzzleValid.calls k a0_0 _ _ l0_1 _ _ l0_2 false _ ?_ ?_ ?_ ?_ A6.out).mono ?_);exact Kd.Cz ((Kd.C_below HR0_1.out HB.out));exact HC0_1.out;exact Kd.Cz ((Kd.C_below HR0_2.out HB.out));exact HC0_2.out;rintro e w18 ⟨rfl,hb⟩;refine ⟨_,rfl,?_⟩;replace BK567:=yam (ybb BK567.out hb);replace HB:=yam (below_step yhb hb);(try clear hb)))
   go_meet
   case rel=>exact ⟨_,(true),yeq,H,⟨by first|omega|exact Nat.le_refl _⟩,⟨ybk BK567.out⟩,⟨yhb⟩⟩
  replace H:=ytt H
  replace H:=ybi H;obtain ⟨t569,A8,H⟩:=H
  replace H:(if t569=true then ((spec_l1In.f a2 1 4).bind fun t570=>(spec_NarrowAll.j0 k l1 a2 (!t570) a0_0 l0_1 l0_2)) else (spec_NarrowAll.j0 k l1 a2 true a0_0 l0_1 l0_2))=some (r1,r2):=H
  cases t569
  ·replace H:=yff H
   replace H:=yam H
   obtain ⟨hcz14_0,hcz14_1,hcz14_2,hfz14_0,hfz14_1,hfz14_2⟩:=ybc BK567.out
   go_wp2_with (first|(refine goesL_ (some 13) rfl rfl Try.func34 (by kernel_rfl) rfl #[.agg #[.int .i64 a0_0,.slice A0_1 l0_1.length c0_1,.slice A0_2 l0_2.length c0_2]] rfl ymd ?_;(with_reducible refine (spec_PuzzleValid.calls k a0_0 _ _ l0_1 _ _ l0_2 true _ ?_ ?_ ?_ ?_ A6.out).mono ?_);exact Kd.Cz ((Kd.C_below HR0_1.out HB.out));exact HC0_1.out;exact Kd.Cz ((Kd.C_below HR0_2.out HB.out));exact HC0_2.out;rintro e w15 ⟨rfl,hb⟩;refine ⟨_,rfl,?_⟩;replace BK567:=yam (ybb BK567.out hb);replace HB:=yam (below_step yhb hb);(try clear hb);obtain ⟨hcz16_0,hcz16_1,hcz16_2,hfz16_0,hfz16_1,hfz16_2⟩:=ybc BK567.out)|(go_at_call 53;(with_reducible refine (spec_MasksValid.calls k _ _ l1 a0_0 false _ ?_ ?_ A8.out).mono ?_);exact Kd.Cz ((Kd.C_below HR1.out HB.out));exact HC1.out;rintro e w' ⟨rfl,⟨nd,rfl⟩⟩))
   go_meet
   case rel=>exact ⟨_,(true),yeq,H,⟨by first|omega|exact Nat.le_refl _⟩,⟨ybk BK567.out⟩,⟨yhb⟩⟩
  replace H:=ytt H
  replace H:=ybi H;obtain ⟨t570,A10,H⟩:=H
  replace H:(spec_NarrowAll.j0 k l1 a2 (!t570) a0_0 l0_1 l0_2)=some (r1,r2):=H
  replace H:=yam H
  obtain ⟨hcz11_0,hcz11_1,hcz11_2,hfz11_0,hfz11_1,hfz11_2⟩:=ybc BK567.out
  go_wp2_with (first|(refine goesL_ (some 13) rfl rfl Try.func34 (by kernel_rfl) rfl #[.agg #[.int .i64 a0_0,.slice A0_1 l0_1.length c0_1,.slice A0_2 l0_2.length c0_2]] rfl ymd ?_;(with_reducible refine (spec_PuzzleValid.calls k a0_0 _ _ l0_1 _ _ l0_2 true _ ?_ ?_ ?_ ?_ A6.out).mono ?_);exact Kd.Cz ((Kd.C_below HR0_1.out HB.out));exact HC0_1.out;exact Kd.Cz ((Kd.C_below HR0_2.out HB.out));exact HC0_2.out;rintro e w12 ⟨rfl,hb⟩;refine ⟨_,rfl,?_⟩;replace BK567:=yam (ybb BK567.out hb);replace HB:=yam (below_step yhb hb);(try clear hb);obtain ⟨hcz13_0,hcz13_1,hcz13_2,hfz13_0,hfz13_1,hfz13_2⟩:=ybc BK567.out)|(go_at_call 53;(with_reducible refine (spec_MasksValid.calls k _ _ l1 a0_0 true _ ?_ ?_ A8.out).mono ?_);exact Kd.Cz ((Kd.C_below HR1.out HB.out));exact HC1.out;rintro e w' ⟨rfl,⟨nd,rfl⟩⟩)|(go_at_call 39;(with_reducible refine (spec_l1In.calls a2 1 4 t570 _ A10.out).mono ?_);rintro e w' ⟨rfl,⟨nd,rfl⟩⟩))
  go_meet
  case rel=>exact ⟨_,(!t570),yeq,H,⟨by first|omega|exact Nat.le_refl _⟩,⟨ybk BK567.out⟩,⟨yhb⟩⟩
 case rest =>
  clear HC4
  try clear c1
  obtain ⟨kq,x26_3,rfl,HA,HJ3,BK567,HB⟩:=hcut
  rcases kq with _|kj3
  ·exact absurd HA.out (by simp [spec_NarrowAll.j0])
  obtain ⟨H⟩:=HA
  simp only [spec_NarrowAll.j0] at H
  cases x26_3
  rotate_left
  ·replace H:=ytt H
   obtain ⟨y571,Ny571⟩:∃ y_:List Int,Aside0 (y_=(([]:List Int))):=⟨_,⟨rfl⟩⟩
   replace H:(some (y571,(-1)))=some (r1,r2):=yhn Ny571.out H
   simp only [Option.some.injEq,Prod.mk.injEq] at H
   obtain ⟨rfl,rfl⟩:=H
   go_wp2_with (first|((with_reducible refine gate_dst (N:=27) rfl ?_);refine Kd.R_lit (Kd.int .i64) _ 3 ?hg (N:=27) ?hd (xs:=([]:List Int)) (inner:=[]) (ok:=fun _=>True) (okp:=fun _=>True) ?hr ?hp (fun _ hk=>hk) trivial (Below.refl _ _) (Nat.le_refl _) (by simp) ?_;(case hd=>rfl);(case hg=>rfl);(case hr=>first|(go_simp;done)|(go_simp;rfl));(case hp=>exact (Reps.none _ _));intro v572 w20 ho21 hb hg_ hnew_;clear hg_ hnew_;(first|rw [← Ny571.out] at ho21|(simp only [Int.reduceToNat] at ho21;rw [← Ny571.out] at ho21));have HO573:=yam (Kd.R_lower ho21 (below_size yhb));replace BK567:=yam (ybb BK567.out hb);replace HB:=yam (below_step yhb hb);clear hb ho21))
   go_ret2
   exact ⟨_,yer,yka HO573.out,yhb⟩
  replace H:=yff H
  replace H:=ybi H;obtain ⟨t574,A22,H⟩:=H
  replace H:(spec_NarrowAll.l0 kj3 a2 t574 0 1 a0_0 l0_1 l0_2)=some (r1,r2):=H
  replace H:=yam H
  go_wp2_with (first|(refine goesL_ (some 29) rfl rfl Try.func62 (by kernel_rfl) rfl #[.slice A1 l1.length c1] rfl ymd ?_;(with_reducible refine (spec_l6Copy.calls _ _ l1 t574 _ ?_ ?_ A22.out).mono ?_);exact Kd.Cz ((Kd.C_below HR1.out HB.out));exact HC1.out;rintro e w23 ⟨v575,rfl,ho0,hb⟩;refine ⟨_,rfl,?_⟩;have HO576:=yam (Kd.R_lower ho0 (below_size yhb));replace BK567:=yam (ybb BK567.out hb);replace HB:=yam (below_step yhb hb);(try clear hb);(try clear ho0)))
  go_loopg [8,9,10] kj3 (fun kq v8 v9 v10 w'=>∃ (x8_2:List Int) (x9_2:Int) (x10_2:Int),v9= .int .i64 x9_2∧v10= .int .i64 x10_2∧Aside0 (spec_NarrowAll.l0 kq a2 x8_2 x9_2 x10_2 a0_0 l0_1 l0_2=some (r1,r2))∧Aside0 (kq≤kj3)∧Aside0 (Kd.R (Kd.int .i64) 3 w' w.heap.size (fun _=>True) v8 x8_2)∧Aside0 (w'.heap[gb567]?=some (.cells #[.int .i64 a0_0,(.slice A0_1 l0_1.length c0_1),(.slice A0_2 l0_2.length c0_2)] 30 (0,0)))∧Aside0 (Below w.heap.size w w'))
  case atStart=>exact ⟨(t574),(0),(1),yeq,yeq,H,⟨Nat.le_refl _⟩,⟨yka HO576.out⟩,⟨ybk BK567.out⟩,⟨yhb⟩⟩
  case round =>
   clear H
   try clear c1
   obtain ⟨x8_2,x9_2,x10_2,rfl,rfl,HA,HK2,HO_8,BK567,HB⟩:=hrel
   rcases gk with _|k2
   ·exact absurd HA.out (by simp [spec_NarrowAll.l0])
   obtain ⟨H⟩:=HA
   simp only [spec_NarrowAll.l0] at H
   replace H:=yis H;obtain ⟨c24b0,H⟩ | ⟨c24b0,H⟩:=H
   rotate_left
   ·simp only [Option.some.injEq,Prod.mk.injEq] at H
    obtain ⟨rfl,rfl⟩:=H
    go_wp2
    go_ret2
    exact ⟨_,yer,yka HO_8.out,yhb⟩
   replace H:=ybi H;obtain ⟨t577,A25,H⟩:=H
   replace H:((spec_l8Same.f k2 t577 x8_2).bind fun t580=>(if t580=true then (spec_NarrowAll.l0 k2 a2 x8_2 x9_2 (wrap64 (x10_2 + 1)) a0_0 l0_1 l0_2) else (spec_NarrowAll.l0 k2 a2 t577 (wrap64 (x9_2 + 1)) 1 a0_0 l0_1 l0_2)))=some (r1,r2):=H
   replace H:=ybi H;obtain ⟨t580,A26,H⟩:=H
   replace H:(if t580=true then (spec_NarrowAll.l0 k2 a2 x8_2 x9_2 (wrap64 (x10_2 + 1)) a0_0 l0_1 l0_2) else (spec_NarrowAll.l0 k2 a2 t577 (wrap64 (x9_2 + 1)) 1 a0_0 l0_1 l0_2))=some (r1,r2):=H
   cases t580
   rotate_left
   ·replace H:=ytt H
    replace H:=yam H
    obtain ⟨hcz28_0,hcz28_1,hcz28_2,hfz28_0,hfz28_1,hfz28_2⟩:=ybc BK567.out
    obtain ⟨Ao29,co29,eo29⟩:=Kd.R_slice HO_8.out
    subst eo29
    go_wp2_with (first|(refine goesL_ (some 36) rfl rfl Try.func25 (by kernel_rfl) rfl #[.agg #[.int .i64 a0_0,.slice A0_1 l0_1.length c0_1,.slice A0_2 l0_2.length c0_2],.slice Ao29 x8_2.length co29,.int .i64 x10_2] rfl ymd ?_;(with_reducible refine (spec_NarrowBy.calls k2 a0_0 _ _ l0_1 _ _ l0_2 _ _ x8_2 x10_2 t577 _ ?_ ?_ ?_ ?_ ?_ ?_ A25.out).mono ?_);exact Kd.Cz ((Kd.C_below HR0_1.out HB.out));exact HC0_1.out;exact Kd.Cz ((Kd.C_below HR0_2.out HB.out));exact HC0_2.out;exact Kd.Cz (Kd.Yr HO_8.out).2.2;exact (Kd.Yr HO_8.out).2.1;rintro e w30 ⟨v578,rfl,ho0,hb⟩;refine ⟨_,rfl,?_⟩;have HO579:=yam (Kd.R_lower (Kd.Yw ho0 (Kd.R_lt (Kd.Yz HO_8.out))) (below_size yhb));replace HO_8:=yam (Kd.Ye (Kd.Yz HO_8.out) (Kd.Yb ho0) hb);replace BK567:=yam (ybb BK567.out hb);replace HB:=yam (below_step yhb hb);(try clear hb);(try clear ho0);obtain ⟨Ao31,co31,eo31⟩:=Kd.R_slice HO579.out;subst eo31)|(refine goesL_ (some 39) rfl rfl Try.func41 (by kernel_rfl) rfl #[.slice Ao31 t577.length co31,.slice Ao29 x8_2.length co29] rfl ymd ?_;(with_reducible refine (spec_l8Same.calls k2 _ _ t577 _ _ x8_2 true _ ?_ ?_ ?_ ?_ A26.out).mono ?_);exact Kd.Cz (Kd.Yr HO579.out).2.2;exact (Kd.Yr HO579.out).2.1;exact Kd.Cz (Kd.Yr HO_8.out).2.2;exact (Kd.Yr HO_8.out).2.1;rintro e w' ⟨rfl,⟨nd,rfl⟩⟩;refine ⟨_,rfl,?_⟩))
    go_roundg k2
    case measure=>have:=HJ3.out;have:=HK2.out;omega
    case rel=>exact ⟨(x8_2),(x9_2),(wrap64 (x10_2 + 1)),yeq,yeq,H,⟨by have:=HJ3.out;have:=HK2.out;omega⟩,⟨by (with_reducible repeat (first|apply Kd.Ya|apply Kd.Yn|apply Kd.Yd));exact Kd.R_mono HO_8.out (fun _ hk=>trivial)⟩,⟨ybk BK567.out⟩,⟨yhb⟩⟩
   replace H:=yff H
   replace H:=yam H
   obtain ⟨hcz32_0,hcz32_1,hcz32_2,hfz32_0,hfz32_1,hfz32_2⟩:=ybc BK567.out
   obtain ⟨Ao33,co33,eo33⟩:=Kd.R_slice HO_8.out
   subst eo33
   go_wp2_with (first|(refine goesL_ (some 36) rfl rfl Try.func25 (by kernel_rfl) rfl #[.agg #[.int .i64 a0_0,.slice A0_1 l0_1.length c0_1,.slice A0_2 l0_2.length c0_2],.slice Ao33 x8_2.length co33,.int .i64 x10_2] rfl ymd ?_;(with_reducible refine (spec_NarrowBy.calls k2 a0_0 _ _ l0_1 _ _ l0_2 _ _ x8_2 x10_2 t577 _ ?_ ?_ ?_ ?_ ?_ ?_ A25.out).mono ?_);exact Kd.Cz ((Kd.C_below HR0_1.out HB.out));exact HC0_1.out;exact Kd.Cz ((Kd.C_below HR0_2.out HB.out));exact HC0_2.out;exact Kd.Cz (Kd.Yr HO_8.out).2.2;exact (Kd.Yr HO_8.out).2.1;rintro e w34 ⟨v578,rfl,ho0,hb⟩;refine ⟨_,rfl,?_⟩;have HO579:=yam (Kd.R_lower (Kd.Yw ho0 (Kd.R_lt (Kd.Yz HO_8.out))) (below_size yhb));replace HO_8:=yam (Kd.Ye (Kd.Yz HO_8.out) (Kd.Yb ho0) hb);replace BK567:=yam (ybb BK567.out hb);replace HB:=yam (below_step yhb hb);(try clear hb);(try clear ho0);obtain ⟨Ao35,co35,eo35⟩:=Kd.R_slice HO579.out;subst eo35)|(refine goesL_ (some 39) rfl rfl Try.func41 (by kernel_rfl) rfl #[.slice Ao35 t577.length co35,.slice Ao33 x8_2.length co33] rfl ymd ?_;(with_reducible refine (spec_l8Same.calls k2 _ _ t577 _ _ x8_2 false _ ?_ ?_ ?_ ?_ A26.out).mono ?_);exact Kd.Cz (Kd.Yr HO579.out).2.2;exact (Kd.Yr HO579.out).2.1;exact Kd.Cz (Kd.Yr HO_8.out).2.2;exact (Kd.Yr HO_8.out).2.1;rintro e w' ⟨rfl,⟨nd,rfl⟩⟩;refine ⟨_,rfl,?_⟩))
   go_roundg k2
   case measure=>have:=HJ3.out;have:=HK2.out;omega
   case rel=>exact ⟨(t577),(wrap64 (x9_2 + 1)),(1),yeq,yeq,H,⟨by have:=HJ3.out;have:=HK2.out;omega⟩,⟨by (with_reducible repeat (first|apply Kd.Ya|apply Kd.Yn|apply Kd.Yd));exact Kd.R_mono HO579.out (fun _ hk=>trivial)⟩,⟨ybk BK567.out⟩,⟨yhb⟩⟩
mutual
def spec_RulePossible.j0:Nat→List Int→Int→Bool→Int→List Int→Int→Option (Bool)
 | 0,_,_,_,_,_,_=>none
 | k + 1,x1,x2,x19,x582000,x582001,x582002=>if x19=true then (some false) else (spec_RulePossible.l0 k x1 x2 (([]:List Int)) 0 x582000 x582001 x582002)
def spec_RulePossible.l0:Nat→List Int→Int→List Int→Int→Int→List Int→Int→Option (Bool)
 | 0,_,_,_,_,_,_,_=>none
 | k + 1,x1,x2,x7,x8,x582000,x582001,x582002=>if x8 < (x1.length:Int) then (if 0≤x8 then (if 0≤(rd x1 x8) then (if (rd x1 x8)=0 then (if 0≤(wrap64 (x2 + 1)) then (if x7.length < 17592186044416 then (spec_RulePossible.l0 k x1 x2 (x7 ++ [wrap64 ((shl .i64 1 (wrap64 (x2 + 1))) - 2)]) (wrap64 (x8 + 1)) x582000 x582001 x582002) else (none)) else (none)) else (if x7.length < 17592186044416 then (spec_RulePossible.l0 k x1 x2 (x7 ++ [shl .i64 1 (rd x1 x8)]) (wrap64 (x8 + 1)) x582000 x582001 x582002) else (none))) else (none)) else (none)) else ((spec_RuleMasks.f k x582000 x582001 x582002 x7 x2).bind fun t595=>(if 0 < (t595.length:Int) then (some ((rd t595 0) != 0)) else (none)))
end
def spec_RulePossible.f (k:Nat)(a0_0:Int)(l0_1:List Int)(a0_2:Int)(l1:List Int)(a2:Int):Option (Bool):=(spec_RuleValid.f k a0_0 l0_1 a0_2 a2).bind fun t582=>(if t582=true then ((spec_GridValid.f k l1 a2).bind fun t583=>(spec_RulePossible.j0 k l1 a2 (!t583) a0_0 l0_1 a0_2)) else (spec_RulePossible.j0 k l1 a2 true a0_0 l0_1 a0_2))
theorem spec_RulePossible.calls (k:Nat)(a0_0:Int)(A0_1:Option Addr)(c0_1:Nat)(l0_1:List Int)(a0_2:Int)(A1:Option Addr)(c1:Nat)(l1:List Int)(a2:Int)(r:Bool)(w:World)(hr0_1:Kd.C (Kd.int .i64) w A0_1 l0_1.length l0_1)(hc0_1:l0_1.length≤c0_1)(hr1:Kd.C (Kd.int .i64) w A1 l1.length l1)(hc1:l1.length≤c1)(h:spec_RulePossible.f k a0_0 l0_1 a0_2 l1 a2=some r) :
  Calls Try.prog 93 #[.agg #[.int .i64 a0_0,.slice A0_1 l0_1.length c0_1,.int .i64 a0_2],.slice A1 l1.length c1,.int .i64 a2] w fun e w'=>e= .returned (.bool r)∧Below w.heap.size w w':=by
 have hu67:=Try.underlying67
 have HR0_1:=yam hr0_1
 have HC0_1:=yam hc0_1
 clear hr0_1 hc0_1
 have HR1:=yam hr1
 have HC1:=yam hc1
 clear hr1 hc1
 have HB:=yam (Below.refl w.heap.size w)
 unfold spec_RulePossible.f at h
 have H:=h
 clear h
 have HC4:=yam H
 clear H
 go_enter Try.func93,Try.ntmps93
 go_upto_region 1 with (first|(refine ybe 3 #[.int .i64 a0_0,.slice A0_1 l0_1.length c0_1,.int .i64 a0_2] 67 ?_;intro gb581 hg w5 hbox hb;have BK581:=yam (hbox);have GW581:=yam ((by rw [hg];exact (below_size (yez HB.out)):w.heap.size≤gb581));replace HB:=yam (below_step (yez HB.out) hb);have GE581:=GW581;clear hb hbox hg))
 (try simp only [Act.put,yps])
 go_cut [19] (fun v19 wc=>∃ (kq:Nat) (x19_3:Bool),v19= .bool x19_3∧Aside0 (spec_RulePossible.j0 kq l1 a2 x19_3 a0_0 l0_1 a0_2=some r)∧Aside0 (kq≤k)∧Aside0 (wc.heap[gb581]?=some (.cells #[.int .i64 a0_0,(.slice A0_1 l0_1.length c0_1),.int .i64 a0_2] 67 (0,0)))∧Aside0 (Below w.heap.size w wc))
 case first =>
  have H:=HC4.out
  clear HC4
  replace H:=ybi H;obtain ⟨t582,A6,H⟩:=H
  try dsimp only at H
  cases t582
  ·replace H:=yff H
   replace H:=yam H
   obtain ⟨hcz11_0,hcz11_1,hcz11_2,hfz11_0,hfz11_1,hfz11_2⟩:=ybc BK581.out
   go_wp2_with (first|(refine goesL_ (some 12) rfl rfl Try.func66 (by kernel_rfl) rfl #[.agg #[.int .i64 a0_0,.slice A0_1 l0_1.length c0_1,.int .i64 a0_2],.int .i64 a2] rfl ymd ?_;(with_reducible refine (spec_RuleValid.calls k a0_0 _ _ l0_1 a0_2 a2 false _ ?_ ?_ A6.out).mono ?_);exact Kd.Cz ((Kd.C_below HR0_1.out HB.out));exact HC0_1.out;rintro e w12 ⟨rfl,hb⟩;refine ⟨_,rfl,?_⟩;replace BK581:=yam (ybb BK581.out hb);replace HB:=yam (below_step yhb hb);(try clear hb)))
   go_meet
   case rel=>exact ⟨_,(true),yeq,H,⟨by first|omega|exact Nat.le_refl _⟩,⟨ybk BK581.out⟩,⟨yhb⟩⟩
  replace H:=ytt H
  replace H:=ybi H;obtain ⟨t583,A8,H⟩:=H
  try dsimp only at H
  replace H:=yam H
  obtain ⟨hcz9_0,hcz9_1,hcz9_2,hfz9_0,hfz9_1,hfz9_2⟩:=ybc BK581.out
  go_wp2_with (first|(refine goesL_ (some 12) rfl rfl Try.func66 (by kernel_rfl) rfl #[.agg #[.int .i64 a0_0,.slice A0_1 l0_1.length c0_1,.int .i64 a0_2],.int .i64 a2] rfl ymd ?_;(with_reducible refine (spec_RuleValid.calls k a0_0 _ _ l0_1 a0_2 a2 true _ ?_ ?_ A6.out).mono ?_);exact Kd.Cz ((Kd.C_below HR0_1.out HB.out));exact HC0_1.out;rintro e w10 ⟨rfl,hb⟩;refine ⟨_,rfl,?_⟩;replace BK581:=yam (ybb BK581.out hb);replace HB:=yam (below_step yhb hb);(try clear hb))|(go_at_call 67;(with_reducible refine (spec_GridValid.calls k _ _ l1 a2 t583 _ ?_ ?_ A8.out).mono ?_);exact Kd.Cz ((Kd.C_below HR1.out HB.out));exact HC1.out;rintro e w' ⟨rfl,⟨nd,rfl⟩⟩))
  go_meet
  case rel=>exact ⟨_,(!t583),yeq,H,⟨by first|omega|exact Nat.le_refl _⟩,⟨ybk BK581.out⟩,⟨yhb⟩⟩
 case rest =>
  clear HC4
  try clear c1
  obtain ⟨kq,x19_3,rfl,HA,HJ3,BK581,HB⟩:=hcut
  rcases kq with _|kj3
  ·exact absurd HA.out (by simp [spec_RulePossible.j0])
  obtain ⟨H⟩:=HA
  simp only [spec_RulePossible.j0] at H
  cases x19_3
  rotate_left
  ·replace H:=ytt H
   obtain rfl:=ysi H
   go_wp2
   go_ret
   exact ⟨yer,yhb⟩
  replace H:=yff H
  obtain ⟨y584,Ny584⟩:∃ y_:List Int,Aside0 (y_=(([]:List Int))):=⟨_,⟨rfl⟩⟩
  replace H:(spec_RulePossible.l0 kj3 l1 a2 y584 0 a0_0 l0_1 a0_2)=some r:=yhn Ny584.out H
  replace H:=yam H
  go_wp2_with (first|((with_reducible refine gate_dst (N:=20) rfl ?_);refine Kd.R_lit (Kd.int .i64) _ 3 ?hg (N:=20) ?hd (xs:=([]:List Int)) (inner:=[]) (ok:=fun _=>True) (okp:=fun _=>True) ?hr ?hp (fun _ hk=>hk) trivial (Below.refl _ _) (Nat.le_refl _) (by simp) ?_;(case hd=>rfl);(case hg=>rfl);(case hr=>first|(go_simp;done)|(go_simp;rfl));(case hp=>exact (Reps.none _ _));intro v585 w14 ho15 hb hg_ hnew_;clear hg_ hnew_;(first|rw [← Ny584.out] at ho15|(simp only [Int.reduceToNat] at ho15;rw [← Ny584.out] at ho15));have HO586:=yam (Kd.R_lower ho15 (below_size yhb));replace BK581:=yam (ybb BK581.out hb);replace HB:=yam (below_step yhb hb);clear hb ho15))
  go_loopg [7,8] kj3 (fun kq v7 v8 w'=>∃ (x7_2:List Int) (x8_2:Int),v8= .int .i64 x8_2∧Aside0 (spec_RulePossible.l0 kq l1 a2 x7_2 x8_2 a0_0 l0_1 a0_2=some r)∧Aside0 (kq≤kj3)∧Aside0 (Kd.R (Kd.int .i64) 3 w' w.heap.size (fun _=>True) v7 x7_2)∧Aside0 (w'.heap[gb581]?=some (.cells #[.int .i64 a0_0,(.slice A0_1 l0_1.length c0_1),.int .i64 a0_2] 67 (0,0)))∧Aside0 (Below w.heap.size w w'))
  case atStart=>exact ⟨(y584),(0),yeq,H,⟨Nat.le_refl _⟩,⟨yka HO586.out⟩,⟨ybk BK581.out⟩,⟨yhb⟩⟩
  case round =>
   clear H
   obtain ⟨x7_2,x8_2,rfl,HA,HK2,HO_7,BK581,HB⟩:=hrel
   rcases gk with _|k2
   ·exact absurd HA.out (by simp [spec_RulePossible.l0])
   obtain ⟨H⟩:=HA
   simp only [spec_RulePossible.l0] at H
   replace H:=yis H;obtain ⟨c16b0,H⟩ | ⟨c16b0,H⟩:=H
   rotate_left
   ·replace H:=ybi H;obtain ⟨t595,A28,H⟩:=H
    try dsimp only at H
    replace H:=yit H;obtain ⟨c29,H⟩ | ⟨c29,H⟩:=H
    rotate_left
    ·exact absurd H (by simp)
    have c29b0:decide (0 < (t595.length:Int))=true:=decide_eq_true c29
    have c29b1:decide (0 < t595.length)=true:=decide_eq_true (by omega)
    clear c29
    obtain rfl:=ysi H
    obtain ⟨hcz30_0,hcz30_1,hcz30_2,hfz30_0,hfz30_1,hfz30_2⟩:=ybc BK581.out
    obtain ⟨Ao31,co31,eo31⟩:=Kd.R_slice HO_7.out
    subst eo31
    go_wp2_with (first|(refine goesL_ (some 48) rfl rfl Try.func81 (by kernel_rfl) rfl #[.agg #[.int .i64 a0_0,.slice A0_1 l0_1.length c0_1,.int .i64 a0_2],.slice Ao31 x7_2.length co31,.int .i64 a2] rfl ymd ?_;(with_reducible refine (spec_RuleMasks.calls k2 a0_0 _ _ l0_1 a0_2 _ _ x7_2 a2 t595 _ ?_ ?_ ?_ ?_ A28.out).mono ?_);exact Kd.Cz ((Kd.C_below HR0_1.out HB.out));exact HC0_1.out;exact Kd.Cz (Kd.Yr HO_7.out).2.2;exact (Kd.Yr HO_7.out).2.1;rintro e w32 ⟨v596,rfl,ho0,hb⟩;refine ⟨_,rfl,?_⟩;have HO597:=yam (Kd.R_lower (Kd.Yw ho0 (Kd.R_lt (Kd.Yz HO_7.out))) (below_size yhb));replace HO_7:=yam (Kd.Ye (Kd.Yz HO_7.out) (Kd.Yb ho0) hb);replace BK581:=yam (ybb BK581.out hb);replace HB:=yam (below_step yhb hb);(try clear hb);(try clear ho0);obtain ⟨Ao33,co33,eo33⟩:=Kd.R_slice HO597.out;subst eo33;have p598:0≤(0:Int):=(by omega);have q598:0 < (t595.length:Int):=ydt;obtain ⟨ad598,e598,hx598_0⟩:=Kd.at_int (Kd.Yr HO597.out).2.2 0 p598 q598;cases e598;have qi598:(0 < t595.length)=True:=eq_true (by omega);(try rw [show ((0:Int)).toNat=0 from rfl] at hx598_0);(try rw [Addr.add_zero'] at hx598_0);replace p598:=eq_true p598;replace q598:=eq_true q598))
    go_ret
    exact ⟨yer,yhb⟩
   replace H:=yif H;obtain ⟨c17b0,H⟩:=H
   replace H:=yig H;obtain ⟨c18,H⟩:=H
   have c18b0:=eq_true c18
   have c18b1:decide (0≤(rd l1 x8_2))=true:=decide_eq_true c18
   clear c18
   obtain ⟨ji19,hji19⟩:∃ j_:Int,(shl .i64 1 (rd l1 x8_2))=j_:=⟨_,rfl⟩
   replace H:(if (rd l1 x8_2)=0 then (if 0≤(wrap64 (a2 + 1)) then (if x7_2.length < 17592186044416 then (spec_RulePossible.l0 k2 l1 a2 (x7_2 ++ [wrap64 ((shl .i64 1 (wrap64 (a2 + 1))) - 2)]) (wrap64 (x8_2 + 1)) a0_0 l0_1 a0_2) else (none)) else (none)) else (if x7_2.length < 17592186044416 then (spec_RulePossible.l0 k2 l1 a2 (x7_2 ++ [ji19]) (wrap64 (x8_2 + 1)) a0_0 l0_1 a0_2) else (none)))=some r:=by first|(rw [hji19] at H;exact H)|(simp only [hji19] at H ⊢;exact H)
   have hji19_:(IntKind.i64.wrap (1 * 2 ^ min (rd l1 x8_2).toNat 64))=ji19:=hji19
   have hji19z:(rd l1 x8_2)≤64→(IntKind.i64.wrap (1 * 2 ^ (rd l1 x8_2).toNat))=ji19:=shl_small hji19
   have hji19u:(IntKind.i64.wrap (2 ^ min (rd l1 x8_2).toNat 64))=ji19:=by have h_:=hji19_;rw [Int.one_mul] at h_;exact h_
   have hji19v:(rd l1 x8_2)≤64→(IntKind.i64.wrap (2 ^ (rd l1 x8_2).toNat))=ji19:=fun hle_=>by have h_:=hji19z hle_;rw [Int.one_mul] at h_;exact h_
   have hji19y:(wrap64 (1 * 2 ^ min (rd l1 x8_2).toNat 64))=ji19:=(i64_w _).symm.trans hji19_
   have hji19x:(rd l1 x8_2)≤64→(wrap64 (1 * 2 ^ (rd l1 x8_2).toNat))=ji19:=fun h_=>(i64_w _).symm.trans (hji19z h_)
   replace H:=yit H;obtain ⟨c20,H⟩ | ⟨c20,H⟩:=H
   rotate_left
   ·have c20b0:((rd l1 x8_2) == 0)=false:=beq_eq_false_iff_ne.mpr c20
    have c20b1:((rd l1 x8_2) != 0)=true:=bne_iff_ne.mpr c20
    replace H:=yig H;obtain ⟨c26,H⟩:=H
    have LMc26:=yam c26
    clear c26
    obtain ⟨y592,Ny592⟩:∃ y_:List Int,Aside0 (y_=(x7_2 ++ [ji19])):=⟨_,⟨rfl⟩⟩
    replace H:(spec_RulePossible.l0 k2 l1 a2 y592 (wrap64 (x8_2 + 1)) a0_0 l0_1 a0_2)=some r:=yhn Ny592.out H
    replace H:=yam H
    obtain ⟨ad587,e587,hx587_0,p587,q587⟩:=yat HR1.out x8_2
    cases e587
    replace hx587_0:=ybx HB.out hx587_0
    obtain ⟨ad588,e588,hx588_0,p588,q588⟩:=yat HR1.out x8_2
    obtain rfl:ad587=ad588:=(by injection e588)
    replace hx588_0:=ybx HB.out hx588_0
    go_wp2_with (first|((with_reducible refine gate_builtin (b:= .append) (xs:= #[.tmp 41,.tmp 43]) rfl ?_);at_builtin;refine Kd.R_append (Kd.int .i64) (w0:=w) w.heap.size rfl (.tmp 41) (.tmp 43) 22 3 (.int .i64 0) 8 rfl Try.underlying22 info3 rfl (by decide) (by omega) u7 x7_2 ji19 [.int .i64 ji19] (fun _=>True) (fun _=>False) rfl rfl ?aP (fun _ hk=>hk.elim) ?aF ?aO ?aB ?aS ?aL ?_;(case aP=>exact rfl);(case aB=>exact yhb);(case aF=>exact (fun _ _=>trivial));(case aO=>exact (Kd.Yz HO_7.out));(case aS=>exact (below_size yhb));(case aL=>have:=LMc26.out;omega);intro v593 w27 ho hb hg hat;rw [← Ny592.out] at ho;replace BK581:=yam (blk_grown (g:=gb581) (o:= .cells #[.int .i64 a0_0,.slice A0_1 l0_1.length c0_1,.int .i64 a0_2] 67 (0,0)) (ybz BK581.out) hg (Kd.R_ne HO_7.out BK581.out (by decide)));replace HB:=yam (hb);have HO594:=yam (ho);clear HO_7;clear ho hb hg hat))
    go_roundg k2
    case measure=>have:=HJ3.out;have:=HK2.out;omega
    case rel=>exact ⟨(y592),(wrap64 (x8_2 + 1)),yeq,H,⟨by have:=HJ3.out;have:=HK2.out;omega⟩,⟨yka HO594.out⟩,⟨ybk BK581.out⟩,⟨yhb⟩⟩
   have c20b0:((rd l1 x8_2) == 0)=true:=beq_iff_eq.mpr c20
   have c20b1:((rd l1 x8_2) != 0)=false:=bne_eq_false_iff_eq.mpr c20
   clear c20
   obtain ⟨ji21,hji21⟩:∃ j_:Int,(wrap64 (a2 + 1))=j_:=⟨_,rfl⟩
   replace H:(if 0≤(ji21) then (if x7_2.length < 17592186044416 then (spec_RulePossible.l0 k2 l1 a2 (x7_2 ++ [wrap64 ((shl .i64 1 (ji21)) - 2)]) (wrap64 (x8_2 + 1)) a0_0 l0_1 a0_2) else (none)) else (none))=some r:=by first|(rw [hji21] at H;exact H)|(simp only [hji21] at H ⊢;exact H)
   have hji21w:(IntKind.i64.wrap (a2 + 1))=ji21:=(i64_w _).trans hji21
   replace H:=yig H;obtain ⟨c22,H⟩:=H
   have c22b0:=eq_true c22
   have c22b1:decide (0≤(ji21))=true:=decide_eq_true c22
   clear c22
   obtain ⟨ji23,hji23⟩:∃ j_:Int,(shl .i64 1 (ji21))=j_:=⟨_,rfl⟩
   replace H:(if x7_2.length < 17592186044416 then (spec_RulePossible.l0 k2 l1 a2 (x7_2 ++ [wrap64 ((ji23) - 2)]) (wrap64 (x8_2 + 1)) a0_0 l0_1 a0_2) else (none))=some r:=by first|(rw [hji23] at H;exact H)|(simp only [hji23] at H ⊢;exact H)
   have hji23_:(IntKind.i64.wrap (1 * 2 ^ min (ji21).toNat 64))=ji23:=hji23
   have hji23z:(ji21)≤64→(IntKind.i64.wrap (1 * 2 ^ (ji21).toNat))=ji23:=shl_small hji23
   have hji23u:(IntKind.i64.wrap (2 ^ min (ji21).toNat 64))=ji23:=by have h_:=hji23_;rw [Int.one_mul] at h_;exact h_
   have hji23v:(ji21)≤64→(IntKind.i64.wrap (2 ^ (ji21).toNat))=ji23:=fun hle_=>by have h_:=hji23z hle_;rw [Int.one_mul] at h_;exact h_
   have hji23y:(wrap64 (1 * 2 ^ min (ji21).toNat 64))=ji23:=(i64_w _).symm.trans hji23_
   have hji23x:(ji21)≤64→(wrap64 (1 * 2 ^ (ji21).toNat))=ji23:=fun h_=>(i64_w _).symm.trans (hji23z h_)
   replace H:=yig H;obtain ⟨c24,H⟩:=H
   have LMc24:=yam c24
   clear c24
   obtain ⟨y589,Ny589⟩:∃ y_:List Int,Aside0 (y_=(x7_2 ++ [wrap64 ((ji23) - 2)])):=⟨_,⟨rfl⟩⟩
   replace H:(spec_RulePossible.l0 k2 l1 a2 y589 (wrap64 (x8_2 + 1)) a0_0 l0_1 a0_2)=some r:=yhn Ny589.out H
   replace H:=yam H
   obtain ⟨ad587,e587,hx587_0,p587,q587⟩:=yat HR1.out x8_2
   cases e587
   replace hx587_0:=ybx HB.out hx587_0
   obtain ⟨ad588,e588,hx588_0,p588,q588⟩:=yat HR1.out x8_2
   obtain rfl:ad587=ad588:=(by injection e588)
   replace hx588_0:=ybx HB.out hx588_0
   go_wp2_with (first|((with_reducible refine gate_builtin (b:= .append) (xs:= #[.tmp 41,.tmp 43]) rfl ?_);at_builtin;refine Kd.R_append (Kd.int .i64) (w0:=w) w.heap.size rfl (.tmp 41) (.tmp 43) 22 3 (.int .i64 0) 8 rfl Try.underlying22 info3 rfl (by decide) (by omega) u7 x7_2 (wrap64 ((ji23) - 2)) [.int .i64 (wrap64 ((ji23) - 2))] (fun _=>True) (fun _=>False) rfl rfl ?aP (fun _ hk=>hk.elim) ?aF ?aO ?aB ?aS ?aL ?_;(case aP=>exact rfl);(case aB=>exact yhb);(case aF=>exact (fun _ _=>trivial));(case aO=>exact (Kd.Yz HO_7.out));(case aS=>exact (below_size yhb));(case aL=>have:=LMc24.out;omega);intro v590 w25 ho hb hg hat;rw [← Ny589.out] at ho;replace BK581:=yam (blk_grown (g:=gb581) (o:= .cells #[.int .i64 a0_0,.slice A0_1 l0_1.length c0_1,.int .i64 a0_2] 67 (0,0)) (ybz BK581.out) hg (Kd.R_ne HO_7.out BK581.out (by decide)));replace HB:=yam (hb);have HO591:=yam (ho);clear HO_7;clear ho hb hg hat))
   go_roundg k2
   case measure=>have:=HJ3.out;have:=HK2.out;omega
   case rel=>exact ⟨(y589),(wrap64 (x8_2 + 1)),yeq,H,⟨by have:=HJ3.out;have:=HK2.out;omega⟩,⟨yka HO591.out⟩,⟨ybk BK581.out⟩,⟨yhb⟩⟩
mutual
def spec_l2Clash.l0:Nat→List Int→Int→Int→Option (Bool)
 | 0,_,_,_=>none
 | k + 1,x0,x1,x5=>if x5 < (wrap64 (2 * x1)) then ((spec_LineCells.f k x1 x5).bind fun t599=>(spec_l2Clash.l1 k x0 x1 x5 t599 0 0)) else (some false)
def spec_l2Clash.l1:Nat→List Int→Int→Int→List Int→Int→Int→Option (Bool)
 | 0,_,_,_,_,_,_=>none
 | k + 1,x0,x1,x5,x6,x7,x8=>if x8 < (x6.length:Int) then (if 0≤x8 then (if 0≤(rd x6 x8) then (if (rd x6 x8) < (x0.length:Int) then (if (rd x0 (rd x6 x8)) > 0 then (if 0≤(rd x0 (rd x6 x8)) then (if (Int.tmod (shr .i64 x7 (rd x0 (rd x6 x8))) 2)=1 then (some true) else (spec_l2Clash.l1 k x0 x1 x5 x6 (Go.bits .or .i64 x7 (shl .i64 1 (rd x0 (rd x6 x8)))) (wrap64 (x8 + 1)))) else (none)) else (if 0≤(rd x0 (rd x6 x8)) then (spec_l2Clash.l1 k x0 x1 x5 x6 (Go.bits .or .i64 x7 (shl .i64 1 (rd x0 (rd x6 x8)))) (wrap64 (x8 + 1))) else (none))) else (none)) else (none)) else (none)) else (spec_l2Clash.l0 k x0 x1 (wrap64 (x5 + 1)))
end
def spec_l2Clash.f (k:Nat)(l0:List Int)(a1:Int):Option (Bool):=spec_l2Clash.l0 k l0 a1 0
theorem spec_l2Clash.calls (k:Nat)(A0:Option Addr)(c0:Nat)(l0:List Int)(a1:Int)(r:Bool)(w:World)(hr0:Kd.C (Kd.int .i64) w A0 l0.length l0)(hc0:l0.length≤c0)(h:spec_l2Clash.f k l0 a1=some r) :
  Calls Try.prog 94 #[.slice A0 l0.length c0,.int .i64 a1] w fun e w'=>e= .returned (.bool r)∧Below w.heap.size w w':=by
 have HR0:=yam hr0
 have HC0:=yam hc0
 clear hr0 hc0
 have HB:=yam (Below.refl w.heap.size w)
 unfold spec_l2Clash.f at h
 have H:=h
 clear h
 replace H:=yam H
 go_enter Try.func94,Try.ntmps94
 go_wp2
 go_loopg [5] k (fun kq v5 w'=>∃ (x5_1:Int),v5= .int .i64 x5_1∧Aside0 (spec_l2Clash.l0 kq l0 a1 x5_1=some r)∧Aside0 (kq≤k)∧Aside0 (Below w.heap.size w w'))
 case atStart=>exact ⟨(0),yeq,H,⟨Nat.le_refl _⟩,⟨yhb⟩⟩
 case round =>
  clear H
  obtain ⟨x5_1,rfl,HA,HK1,HB⟩:=hrel
  rcases gk with _|k1
  ·exact absurd HA.out (by simp [spec_l2Clash.l0])
  obtain ⟨H⟩:=HA
  simp only [spec_l2Clash.l0] at H
  replace H:=yis H;obtain ⟨c3b0,H⟩ | ⟨c3b0,H⟩:=H
  rotate_left
  ·obtain rfl:=ysi H
   go_wp2
   go_ret
   exact ⟨yer,yhb⟩
  replace H:=ybi H;obtain ⟨t599,A4,H⟩:=H
  try dsimp only at H
  replace H:=yam H
  go_wp2_with (first|(refine goesL_ (some 18) rfl rfl Try.func80 (by kernel_rfl) rfl #[.int .i64 a1,.int .i64 x5_1] rfl ymd ?_;(with_reducible refine (spec_LineCells.calls k1 a1 x5_1 t599 _ A4.out).mono ?_);rintro e w5 ⟨v600,rfl,ho0,hb⟩;refine ⟨_,rfl,?_⟩;have HO601:=yam (Kd.R_lower ho0 (below_size (yez HB.out)));replace HB:=yam (below_step (yez HB.out) hb);(try clear hb);(try clear ho0)))
  go_loopg [7,8] k1 (fun kq v7 v8 w'=>∃ (x7_2:Int) (x8_2:Int),v7= .int .i64 x7_2∧v8= .int .i64 x8_2∧Aside0 (spec_l2Clash.l1 kq l0 a1 x5_1 t599 x7_2 x8_2=some r)∧Aside0 (kq≤k1)∧Aside0 (Kd.R (Kd.int .i64) 3 w' w.heap.size (fun _=>True) v600 t599)∧Aside0 (Below w.heap.size w w'))
  case atStart=>exact ⟨(0),(0),yeq,yeq,H,⟨Nat.le_refl _⟩,⟨yka HO601.out⟩,⟨yhb⟩⟩
  case round =>
   clear H
   try clear c3b0
   obtain ⟨x7_2,x8_2,rfl,rfl,HA,HK2,HO_6,HB⟩:=hrel
   rcases gk with _|k2
   ·exact absurd HA.out (by simp [spec_l2Clash.l1])
   obtain ⟨H⟩:=HA
   simp only [spec_l2Clash.l1] at H
   replace H:=yis H;obtain ⟨c6b0,H⟩ | ⟨c6b0,H⟩:=H
   rotate_left
   ·replace H:=yam H
    obtain ⟨Ao21,co21,eo21⟩:=Kd.R_slice HO_6.out
    subst eo21
    go_wp2
    go_roundg k2
    case measure=>have:=HK1.out;have:=HK2.out;omega
    case rel=>exact ⟨(wrap64 (x5_1 + 1)),yeq,H,⟨by have:=HK1.out;have:=HK2.out;omega⟩,⟨yhb⟩⟩
   replace H:=yif H;obtain ⟨c7b0,H⟩:=H
   replace H:=yif H;obtain ⟨c8b0,H⟩:=H
   replace H:=yif H;obtain ⟨c9b0,H⟩:=H
   replace H:=yis H;obtain ⟨c10b0,H⟩ | ⟨c10b0,H⟩:=H
   rotate_left
   ·replace H:=yig H;obtain ⟨c18,H⟩:=H
    have c18b0:=eq_true c18
    have c18b1:decide (0≤(rd l0 (rd t599 x8_2)))=true:=decide_eq_true c18
    clear c18
    obtain ⟨ji19,hji19⟩:∃ j_:Int,(shl .i64 1 (rd l0 (rd t599 x8_2)))=j_:=⟨_,rfl⟩
    replace H:(spec_l2Clash.l1 k2 l0 a1 x5_1 t599 (Go.bits .or .i64 x7_2 (ji19)) (wrap64 (x8_2 + 1)))=some r:=by first|(rw [hji19] at H;exact H)|(simp only [hji19] at H ⊢;exact H)
    have hji19_:(IntKind.i64.wrap (1 * 2 ^ min (rd l0 (rd t599 x8_2)).toNat 64))=ji19:=hji19
    have hji19z:(rd l0 (rd t599 x8_2))≤64→(IntKind.i64.wrap (1 * 2 ^ (rd l0 (rd t599 x8_2)).toNat))=ji19:=shl_small hji19
    have hji19u:(IntKind.i64.wrap (2 ^ min (rd l0 (rd t599 x8_2)).toNat 64))=ji19:=by have h_:=hji19_;rw [Int.one_mul] at h_;exact h_
    have hji19v:(rd l0 (rd t599 x8_2))≤64→(IntKind.i64.wrap (2 ^ (rd l0 (rd t599 x8_2)).toNat))=ji19:=fun hle_=>by have h_:=hji19z hle_;rw [Int.one_mul] at h_;exact h_
    have hji19y:(wrap64 (1 * 2 ^ min (rd l0 (rd t599 x8_2)).toNat 64))=ji19:=(i64_w _).symm.trans hji19_
    have hji19x:(rd l0 (rd t599 x8_2))≤64→(wrap64 (1 * 2 ^ (rd l0 (rd t599 x8_2)).toNat))=ji19:=fun h_=>(i64_w _).symm.trans (hji19z h_)
    replace H:=yam H
    obtain ⟨Ao20,co20,eo20⟩:=Kd.R_slice HO_6.out
    subst eo20
    obtain ⟨ad602,e602,hx602_0,p602,q602⟩:=yat (Kd.Yr HO_6.out).2.2 x8_2
    cases e602
    obtain ⟨ad603,e603,hx603_0,p603,q603⟩:=yat HR0.out (rd t599 x8_2)
    cases e603
    replace hx603_0:=ybx HB.out hx603_0
    go_wp2
    go_roundg k2
    case measure=>have:=HK1.out;have:=HK2.out;omega
    case rel=>exact ⟨(Go.bits .or .i64 x7_2 (ji19)),(wrap64 (x8_2 + 1)),(by first|rfl|(simp;done)|(simp only [← hji19] <;> (first|rfl|simp))|(simp [*];done)),yeq,H,⟨by have:=HK1.out;have:=HK2.out;omega⟩,⟨yka HO_6.out⟩,⟨yhb⟩⟩
   replace H:=yig H;obtain ⟨c11,H⟩:=H
   have c11b0:=eq_true c11
   have c11b1:decide (0≤(rd l0 (rd t599 x8_2)))=true:=decide_eq_true c11
   clear c11
   obtain ⟨ji12,hji12⟩:∃ j_:Int,(shr .i64 x7_2 (rd l0 (rd t599 x8_2)))=j_:=⟨_,rfl⟩
   replace H:(if (Int.tmod (ji12) 2)=1 then (some true) else (spec_l2Clash.l1 k2 l0 a1 x5_1 t599 (Go.bits .or .i64 x7_2 (shl .i64 1 (rd l0 (rd t599 x8_2)))) (wrap64 (x8_2 + 1))))=some r:=by first|(rw [hji12] at H;exact H)|(simp only [hji12] at H ⊢;exact H)
   have hji12_:(x7_2 / 2 ^ min (rd l0 (rd t599 x8_2)).toNat 64)=ji12:=hji12
   have hji12z:(rd l0 (rd t599 x8_2))≤64→(x7_2 / 2 ^ (rd l0 (rd t599 x8_2)).toNat)=ji12:=shr_small hji12
   replace H:=yit H;obtain ⟨c13,H⟩ | ⟨c13,H⟩:=H
   ·have c13b0:((Int.tmod (ji12) 2) == 1)=true:=beq_iff_eq.mpr c13
    have c13b1:((Int.tmod (ji12) 2) != 1)=false:=bne_eq_false_iff_eq.mpr c13
    clear c13
    obtain rfl:=ysi H
    obtain ⟨Ao14,co14,eo14⟩:=Kd.R_slice HO_6.out
    subst eo14
    obtain ⟨ad602,e602,hx602_0,p602,q602⟩:=yat (Kd.Yr HO_6.out).2.2 x8_2
    cases e602
    obtain ⟨ad603,e603,hx603_0,p603,q603⟩:=yat HR0.out (rd t599 x8_2)
    cases e603
    replace hx603_0:=ybx HB.out hx603_0
    go_wp2
    go_ret
    exact ⟨by first|rfl|(simp [errW_none,errW_some] <;> rfl)|(simp only [← hji12];first|rfl|(simp [errW_none,errW_some] <;> rfl))|(simp [*,errW_none,errW_some] <;> rfl),yhb⟩
   have c13b0:((Int.tmod (ji12) 2) == 1)=false:=beq_eq_false_iff_ne.mpr c13
   have c13b1:((Int.tmod (ji12) 2) != 1)=true:=bne_iff_ne.mpr c13
   have c15b0:=eq_true (ydt:0≤(rd l0 (rd t599 x8_2)))
   obtain ⟨ji16,hji16⟩:∃ j_:Int,(shl .i64 1 (rd l0 (rd t599 x8_2)))=j_:=⟨_,rfl⟩
   replace H:(spec_l2Clash.l1 k2 l0 a1 x5_1 t599 (Go.bits .or .i64 x7_2 (ji16)) (wrap64 (x8_2 + 1)))=some r:=by first|(rw [hji16] at H;exact H)|(simp only [hji16] at H ⊢;exact H)
   have hji16_:(IntKind.i64.wrap (1 * 2 ^ min (rd l0 (rd t599 x8_2)).toNat 64))=ji16:=hji16
   have hji16z:(rd l0 (rd t599 x8_2))≤64→(IntKind.i64.wrap (1 * 2 ^ (rd l0 (rd t599 x8_2)).toNat))=ji16:=shl_small hji16
   have hji16u:(IntKind.i64.wrap (2 ^ min (rd l0 (rd t599 x8_2)).toNat 64))=ji16:=by have h_:=hji16_;rw [Int.one_mul] at h_;exact h_
   have hji16v:(rd l0 (rd t599 x8_2))≤64→(IntKind.i64.wrap (2 ^ (rd l0 (rd t599 x8_2)).toNat))=ji16:=fun hle_=>by have h_:=hji16z hle_;rw [Int.one_mul] at h_;exact h_
   have hji16y:(wrap64 (1 * 2 ^ min (rd l0 (rd t599 x8_2)).toNat 64))=ji16:=(i64_w _).symm.trans hji16_
   have hji16x:(rd l0 (rd t599 x8_2))≤64→(wrap64 (1 * 2 ^ (rd l0 (rd t599 x8_2)).toNat))=ji16:=fun h_=>(i64_w _).symm.trans (hji16z h_)
   replace H:=yam H
   obtain ⟨Ao17,co17,eo17⟩:=Kd.R_slice HO_6.out
   subst eo17
   obtain ⟨ad602,e602,hx602_0,p602,q602⟩:=yat (Kd.Yr HO_6.out).2.2 x8_2
   cases e602
   obtain ⟨ad603,e603,hx603_0,p603,q603⟩:=yat HR0.out (rd t599 x8_2)
   cases e603
   replace hx603_0:=ybx HB.out hx603_0
   go_wp2
   go_roundg k2
   case measure=>have:=HK1.out;have:=HK2.out;omega
   case rel=>exact ⟨(Go.bits .or .i64 x7_2 (ji16)),(wrap64 (x8_2 + 1)),(by first|rfl|(simp;done)|(simp only [← hji16] <;> (first|rfl|simp))|(simp [*];done)),yeq,H,⟨by have:=HK1.out;have:=HK2.out;omega⟩,⟨yka HO_6.out⟩,⟨yhb⟩⟩
end Go.Proofs.Ytdemlminhkhonaa.P
