/- The machine's side: each Go function as a plain Lean function and the proof that the machine's call does what that function says; written by this session's own program over the kit's print. -/
import Derived.Test.YtdemlminhkhonaaZP1
import Derived.Test.YtdemlminhkhonaaZP2
import Derived.Test.YtdemlminhkhonaaZP3
namespace Go.Proofs.Ytdemlminhkhonaa.P
set_option maxHeartbeats 8000000
set_option maxRecDepth 100000
open Go.RowKit Go.Proofs.YtdemlminhkhonaaW.PrintWords Go.Proofs.YtdemlminhkhonaaW.PrintLast Go.Proofs.YtdemlminhkhonaaW.PrintMore
attribute [local go_sem] max2_int min2_int max_two min_two max_three min_three max_four min_four   -- for this text's walks alone
set_option linter.unusedVariables false
set_option linter.unusedSimpArgs false
mutual
def spec_l5Fits.l0:Nat→List Int→Int→Int→List Int→List (S67)→Option (Bool)
 | 0,_,_,_,_,_=>none
 | k + 1,x1,x5,x605000,x605001,x605002=>if x5 < (x1.length:Int) then (if 0≤x5 then (if x5 < (x605001.length:Int) then (if (rd x605001 x5) > 0 then (if (rd x1 x5) > 0 then (if (rd x1 x5)=(rd x605001 x5) then (spec_l5Fits.l0 k x1 (wrap64 (x5 + 1)) x605000 x605001 x605002) else (some false)) else (spec_l5Fits.l0 k x1 (wrap64 (x5 + 1)) x605000 x605001 x605002)) else (spec_l5Fits.l0 k x1 (wrap64 (x5 + 1)) x605000 x605001 x605002)) else (none)) else (none)) else (spec_l5Fits.l1 k x1 0 x605000 x605001 x605002)
def spec_l5Fits.l1:Nat→List Int→Int→Int→List Int→List (S67)→Option (Bool)
 | 0,_,_,_,_,_=>none
 | k + 1,x1,x6,x605000,x605001,x605002=>if x6 < (x605002.length:Int) then (if 0≤x6 then ((spec_RulePossible.f k ((rd_T67 x605002 x6).f0) ((rd_T67 x605002 x6).f1) ((rd_T67 x605002 x6).f2) x1 x605000).bind fun t610=>(if t610=true then (spec_l5Fits.l1 k x1 (wrap64 (x6 + 1)) x605000 x605001 x605002) else (some false))) else (none)) else ((spec_l2Clash.f k x1 x605000).bind fun t611=>(some (!t611)))
end
def spec_l5Fits.f (k:Nat)(a0_0:Int)(l0_1:List Int)(l0_2:List (S67))(l1:List Int):Option (Bool):=spec_l5Fits.l0 k l1 0 a0_0 l0_1 l0_2
def spec_l5Fits.T4:Bool × List (List Nat × List Nat):=(true,[([],[]),([0],[0]),([],[]),([1,2],[1,2]),([3],[3]),([4],[4]),([5],[5]),([6],[6]),([6],[6]),([7,8,6],[6,7,8]),([9,6],[6,9]),([10,6],[6,10]),([6,11],[6,11]),([12,6],[12]),([13],[13]),([13],[13]),([14,15,13],[13,14,15]),([16,13],[13,16]),([13],[13]),([18,13],[13,18]),([13],[13]),([19,20,13],[13,19,20]),([21,13],[13,21]),([17,22,13],[13,17,22]),([13,23],[13,23])])
def spec_l5Fits.B4:List Nat:=[0,1,0,7,15,31,63,127,127,511,1023,2047,4095,8191,16383,16383,65535,131071,16383,278527,16383,1851391,3948543,8388607,16777215]
theorem spec_l5Fits.tab4:rtab .any (opsOf Try.f88 4)=spec_l5Fits.T4:=by kernel_rfl
theorem spec_l5Fits.bits4:waitsOk spec_l5Fits.T4.2 spec_l5Fits.B4=true:=by kernel_rfl
def spec_l5Fits.T9:Bool × List (List Nat × List Nat):=(true,[([],[]),([0],[0]),([],[]),([1,2],[1,2]),([3],[3]),([],[]),([],[]),([6],[6]),([4,5,7],[4,5,7]),([8],[8])])
def spec_l5Fits.B9:List Nat:=[0,1,0,7,15,0,0,64,255,511]
theorem spec_l5Fits.tab9:rtab .any (opsOf Try.f88 9)=spec_l5Fits.T9:=by kernel_rfl
theorem spec_l5Fits.bits9:waitsOk spec_l5Fits.T9.2 spec_l5Fits.B9=true:=by kernel_rfl
theorem spec_l5Fits.calls (k:Nat)(a0_0:Int)(A0_1:Option Addr)(c0_1:Nat)(l0_1:List Int)(A0_2:Option Addr)(c0_2:Nat)(l0_2:List (S67))(A1:Option Addr)(c1:Nat)(l1:List Int)(r:Bool)(w:World)(hr0_1:Kd.C (Kd.int .i64) w A0_1 l0_1.length l0_1)(hc0_1:l0_1.length≤c0_1)(hr0_2:Kd.C k67 w A0_2 l0_2.length l0_2)(hc0_2:l0_2.length≤c0_2)(hr1:Kd.C (Kd.int .i64) w A1 l1.length l1)(hc1:l1.length≤c1)(h:spec_l5Fits.f k a0_0 l0_1 l0_2 l1=some r) :
  Calls Try.prog 88 #[.agg #[.int .i64 a0_0,.slice A0_1 l0_1.length c0_1,.slice A0_2 l0_2.length c0_2],.slice A1 l1.length c1] w fun e w'=>e= .returned (.bool r)∧Below w.heap.size w w':=by
 have hu30:=Try.underlying30
 have hu67:=Try.underlying67
 have HR0_1:=yam hr0_1
 have HC0_1:=yam hc0_1
 clear hr0_1 hc0_1
 have HR0_2:=yam hr0_2
 have HC0_2:=yam hc0_2
 clear hr0_2 hc0_2
 have HR1:=yam hr1
 have HC1:=yam hc1
 clear hr1 hc1
 have HB:=yam (Below.refl w.heap.size w)
 unfold spec_l5Fits.f at h
 have H:=h
 clear h
 replace H:=yam H
 go_enter Try.func88,Try.ntmps88
 go_wp2_with (first|(refine ybe 2 #[.int .i64 a0_0,.slice A0_1 l0_1.length c0_1,.slice A0_2 l0_2.length c0_2] 30 ?_;intro gb604 hg w3 hbox hb;have BK604:=yam (hbox);have GW604:=yam ((by rw [hg];exact (below_size (yez HB.out)):w.heap.size≤gb604));replace HB:=yam (below_step (yez HB.out) hb);have GE604:=GW604;clear hb hbox hg))
 go_loopg [5] k (fun kq v5 w'=>∃ (x5_1:Int),v5= .int .i64 x5_1∧Aside0 (spec_l5Fits.l0 kq l1 x5_1 a0_0 l0_1 l0_2=some r)∧Aside0 (kq≤k)∧Aside0 (w'.heap[gb604]?=some (.cells #[.int .i64 a0_0,(.slice A0_1 l0_1.length c0_1),(.slice A0_2 l0_2.length c0_2)] 30 (0,0)))∧Aside0 (Below w.heap.size w w'))
 case atStart=>exact ⟨(0),yeq,H,⟨Nat.le_refl _⟩,⟨ybk BK604.out⟩,⟨yhb⟩⟩
 case round =>
  clear H
  try clear c1
  obtain ⟨x5_1,rfl,HA,HK1,BK604,HB⟩:=hrel
  rcases gk with _|k1
  ·exact absurd HA.out (by simp [spec_l5Fits.l0])
  obtain ⟨H⟩:=HA
  simp only [spec_l5Fits.l0] at H
  replace H:=yis H;obtain ⟨c4b0,H⟩ | ⟨c4b0,H⟩:=H
  rotate_left
  ·replace H:=yam H
   go_wp2
   go_loopg [6] k1 (fun kq v6 w'=>∃ (x6_2:Int),v6= .int .i64 x6_2∧Aside0 (spec_l5Fits.l1 kq l1 x6_2 a0_0 l0_1 l0_2=some r)∧Aside0 (kq≤k1)∧Aside0 (w'.heap[gb604]?=some (.cells #[.int .i64 a0_0,(.slice A0_1 l0_1.length c0_1),(.slice A0_2 l0_2.length c0_2)] 30 (0,0)))∧Aside0 (Below w.heap.size w w'))
   case atStart=>exact ⟨(0),yeq,H,⟨Nat.le_refl _⟩,⟨ybk BK604.out⟩,⟨yhb⟩⟩
   case round =>
    clear H
    try clear c4b0
    obtain ⟨x6_2,rfl,HA,HK2,BK604,HB⟩:=hrel
    rcases gk with _|k2
    ·exact absurd HA.out (by simp [spec_l5Fits.l1])
    obtain ⟨H⟩:=HA
    simp only [spec_l5Fits.l1] at H
    replace H:=yis H;obtain ⟨c14b0,H⟩ | ⟨c14b0,H⟩:=H
    rotate_left
    ·replace H:=ybi H;obtain ⟨t611,A24,H⟩:=H
     try dsimp only at H
     obtain rfl:=ysi H
     obtain ⟨hcz25_0,hcz25_1,hcz25_2,hfz25_0,hfz25_1,hfz25_2⟩:=ybc BK604.out
     go_wp2_with (first|(refine goesL_ (some 58) rfl rfl Try.func94 (by kernel_rfl) rfl #[.slice A1 l1.length c1,.int .i64 a0_0] rfl ymd ?_;(with_reducible refine (spec_l2Clash.calls k2 _ _ l1 a0_0 t611 _ ?_ ?_ A24.out).mono ?_);exact Kd.Cz ((Kd.C_below HR1.out HB.out));exact HC1.out;rintro e w26 ⟨rfl,hb⟩;refine ⟨_,rfl,?_⟩;replace BK604:=yam (ybb BK604.out hb);replace HB:=yam (below_step yhb hb);(try clear hb)))
     go_ret
     exact ⟨yer,yhb⟩
    replace H:=yif H;obtain ⟨c15b0,H⟩:=H
    replace H:=ybi H;obtain ⟨t610,A16,H⟩:=H
    try dsimp only at H
    cases t610
    ·replace H:=yff H
     obtain rfl:=ysi H
     obtain ⟨hcz21_0,hcz21_1,hcz21_2,hfz21_0,hfz21_1,hfz21_2⟩:=ybc BK604.out
     try go_wp2
     replace BK604:=yam (ybd BK604.out)
     replace HB:=yam (yed HB.out)
     have p609:0≤(x6_2:Int):=ydt
     have q609:x6_2 < (l0_2.length:Int):=ydt
     obtain ⟨ad609,A609_1,c609_1,e609,hx609_0,hx609_1,hx609_2,hl609_1,hi609_1⟩:=at_T67 HR0_2.out x6_2 p609 q609
     have hw609_2:=hx609_2
     have hw609_1:=hx609_1
     have hw609_0:=hx609_0
     cases e609
     replace hx609_0:=ybx HB.out hx609_0
     replace hx609_1:=ybx HB.out hx609_1
     replace hx609_2:=ybx HB.out hx609_2
     have HR609_1:=yam hi609_1
     have HC609_1:=yam hl609_1
     clear hi609_1 hl609_1
     replace p609:=eq_true p609
     replace q609:=eq_true q609
     refine start_ (n:=10) (S:=fun w'=>w'.cell? ⟨gb604,0,none⟩=some (.int .i64 a0_0)∧w'.cell? ⟨gb604,1,none⟩=some (.slice A0_1 l0_1.length c0_1)∧w'.cell? ⟨gb604,2,none⟩=some (.slice (some ad609) l0_2.length c0_2)∧w'.cell? (ad609.add ((x6_2).toNat * 3))=some (.int .i64 ((rd_T67 l0_2 x6_2).f0))∧w'.cell? ⟨(ad609.add ((x6_2).toNat * 3)).block,(ad609.add ((x6_2).toNat * 3)).off + 1,none⟩=some (.slice A609_1 ((rd_T67 l0_2 x6_2).f1).length c609_1)∧w'.cell? ⟨(ad609.add ((x6_2).toNat * 3)).block,(ad609.add ((x6_2).toNat * 3)).off + 2,none⟩=some (.int .i64 ((rd_T67 l0_2 x6_2).f2))) (ds:=[]) (yvb 10 0) (by kernel_rfl) rfl rfl ⟨(blk_cell BK604.out 0).trans rfl,(blk_cell BK604.out 1).trans rfl,(blk_cell BK604.out 2).trans rfl,((HB.out.cell (World.block_lt_of_cell? w _ hw609_0)).trans hw609_0),((HB.out.cell (World.block_lt_of_cell? w _ hw609_1)).trans hw609_1),((HB.out.cell (World.block_lt_of_cell? w _ hw609_2)).trans hw609_2)⟩ (fun hHeld=>?_);refine with_tabW spec_l5Fits.tab9 spec_l5Fits.bits9 (fun HT_ HW_=>?_)
     generalize wr.drew=w22 at BK604 HB HR609_1 hx609_0 hx609_1 hx609_2 hHeld ⊢
     refine yvp 0 45 (yvb 10 1) HT_.out ?_
     refine yvp 2 47 (yvb 10 5) HT_.out ?_
     refine yvp 5 50 (yvb 10 37) HT_.out ?_
     refine yvp 6 51 (yvb 10 101) HT_.out ?_
     refine yvt 1 46 (yvb 10 103) HT_.out HW_.out hHeld ?_
     refine yvp 3 48 (yvb 10 111) HT_.out ?_
     refine yvt 4 49 (yvb 10 127) HT_.out HW_.out hHeld ?_
     refine yvt 7 52 (yvb 10 255) HT_.out HW_.out hHeld ?_
     refine one_ (i:=8) (N:=some 53) (yvb 10 511) rfl rfl (one_of HT_.out (by kernel_rfl)) (by decide) (fun K hK=>?_)
     refine goes_ Try.func93 (by kernel_rfl) rfl #[.agg #[.int .i64 ((rd_T67 l0_2 x6_2).f0),.slice A609_1 ((rd_T67 l0_2 x6_2).f1).length c609_1,.int .i64 ((rd_T67 l0_2 x6_2).f2)],.slice A1 l1.length c1,.int .i64 a0_0] (by rfl) rfl rfl ymd ?_
     with_reducible refine (spec_RulePossible.calls k2 ((rd_T67 l0_2 x6_2).f0) _ _ ((rd_T67 l0_2 x6_2).f1) ((rd_T67 l0_2 x6_2).f2) _ _ l1 a0_0 false _ ?_ ?_ ?_ ?_ A16.out).mono ?_
     exact Kd.Cz ((Kd.C_below HR609_1.out HB.out))
     exact HC609_1.out
     exact Kd.Cz ((Kd.C_below HR1.out HB.out))
     exact HC1.out
     rintro e w23 ⟨rfl,hb⟩
     refine ⟨_,rfl,?_⟩
     replace BK604:=yam (ybb BK604.out hb)
     replace HB:=yam (below_step yhb hb)
     (try clear hb)
     (try clear hb2)
     (try clear hk)
     (try clear hi)
     refine hK.out _ _ ⟨(blk_cell BK604.out 0).trans rfl,(blk_cell BK604.out 1).trans rfl,(blk_cell BK604.out 2).trans rfl,((HB.out.cell (World.block_lt_of_cell? w _ hw609_0)).trans hw609_0),((HB.out.cell (World.block_lt_of_cell? w _ hw609_1)).trans hw609_1),((HB.out.cell (World.block_lt_of_cell? w _ hw609_2)).trans hw609_2)⟩ (fun hHeld=>?_)
     clear hK K
     refine norm_ (a':=?_) ?_ ?_
     rotate_left
     ·show Act.put _ (some 53) _=_
      simp only [Act.put,yps,i64_w,i32_w]
      rfl
     refine yvp 9 54 (yvb 10 1023) HT_.out ?_
     refine done_ (done_of HT_.out (by kernel_rfl)) ?_
     try go_wp2
     go_ret
     exact ⟨yer,yhb⟩
    replace H:=ytt H
    replace H:=yam H
    obtain ⟨hcz18_0,hcz18_1,hcz18_2,hfz18_0,hfz18_1,hfz18_2⟩:=ybc BK604.out
    try go_wp2
    replace BK604:=yam (ybd BK604.out)
    replace HB:=yam (yed HB.out)
    have p609:0≤(x6_2:Int):=ydt
    have q609:x6_2 < (l0_2.length:Int):=ydt
    obtain ⟨ad609,A609_1,c609_1,e609,hx609_0,hx609_1,hx609_2,hl609_1,hi609_1⟩:=at_T67 HR0_2.out x6_2 p609 q609
    have hw609_2:=hx609_2
    have hw609_1:=hx609_1
    have hw609_0:=hx609_0
    cases e609
    replace hx609_0:=ybx HB.out hx609_0
    replace hx609_1:=ybx HB.out hx609_1
    replace hx609_2:=ybx HB.out hx609_2
    have HR609_1:=yam hi609_1
    have HC609_1:=yam hl609_1
    clear hi609_1 hl609_1
    replace p609:=eq_true p609
    replace q609:=eq_true q609
    refine start_ (n:=10) (S:=fun w'=>w'.cell? ⟨gb604,0,none⟩=some (.int .i64 a0_0)∧w'.cell? ⟨gb604,1,none⟩=some (.slice A0_1 l0_1.length c0_1)∧w'.cell? ⟨gb604,2,none⟩=some (.slice (some ad609) l0_2.length c0_2)∧w'.cell? (ad609.add ((x6_2).toNat * 3))=some (.int .i64 ((rd_T67 l0_2 x6_2).f0))∧w'.cell? ⟨(ad609.add ((x6_2).toNat * 3)).block,(ad609.add ((x6_2).toNat * 3)).off + 1,none⟩=some (.slice A609_1 ((rd_T67 l0_2 x6_2).f1).length c609_1)∧w'.cell? ⟨(ad609.add ((x6_2).toNat * 3)).block,(ad609.add ((x6_2).toNat * 3)).off + 2,none⟩=some (.int .i64 ((rd_T67 l0_2 x6_2).f2))) (ds:=[]) (yvb 10 0) (by kernel_rfl) rfl rfl ⟨(blk_cell BK604.out 0).trans rfl,(blk_cell BK604.out 1).trans rfl,(blk_cell BK604.out 2).trans rfl,((HB.out.cell (World.block_lt_of_cell? w _ hw609_0)).trans hw609_0),((HB.out.cell (World.block_lt_of_cell? w _ hw609_1)).trans hw609_1),((HB.out.cell (World.block_lt_of_cell? w _ hw609_2)).trans hw609_2)⟩ (fun hHeld=>?_);refine with_tabW spec_l5Fits.tab9 spec_l5Fits.bits9 (fun HT_ HW_=>?_)
    generalize wr.drew=w19 at BK604 HB HR609_1 hx609_0 hx609_1 hx609_2 hHeld ⊢
    refine yvp 0 45 (yvb 10 1) HT_.out ?_
    refine yvp 2 47 (yvb 10 5) HT_.out ?_
    refine yvp 5 50 (yvb 10 37) HT_.out ?_
    refine yvp 6 51 (yvb 10 101) HT_.out ?_
    refine yvt 1 46 (yvb 10 103) HT_.out HW_.out hHeld ?_
    refine yvp 3 48 (yvb 10 111) HT_.out ?_
    refine yvt 4 49 (yvb 10 127) HT_.out HW_.out hHeld ?_
    refine yvt 7 52 (yvb 10 255) HT_.out HW_.out hHeld ?_
    refine one_ (i:=8) (N:=some 53) (yvb 10 511) rfl rfl (one_of HT_.out (by kernel_rfl)) (by decide) (fun K hK=>?_)
    refine goes_ Try.func93 (by kernel_rfl) rfl #[.agg #[.int .i64 ((rd_T67 l0_2 x6_2).f0),.slice A609_1 ((rd_T67 l0_2 x6_2).f1).length c609_1,.int .i64 ((rd_T67 l0_2 x6_2).f2)],.slice A1 l1.length c1,.int .i64 a0_0] (by rfl) rfl rfl ymd ?_
    with_reducible refine (spec_RulePossible.calls k2 ((rd_T67 l0_2 x6_2).f0) _ _ ((rd_T67 l0_2 x6_2).f1) ((rd_T67 l0_2 x6_2).f2) _ _ l1 a0_0 true _ ?_ ?_ ?_ ?_ A16.out).mono ?_
    exact Kd.Cz ((Kd.C_below HR609_1.out HB.out))
    exact HC609_1.out
    exact Kd.Cz ((Kd.C_below HR1.out HB.out))
    exact HC1.out
    rintro e w20 ⟨rfl,hb⟩
    refine ⟨_,rfl,?_⟩
    replace BK604:=yam (ybb BK604.out hb)
    replace HB:=yam (below_step yhb hb)
    (try clear hb)
    (try clear hb2)
    (try clear hk)
    (try clear hi)
    refine hK.out _ _ ⟨(blk_cell BK604.out 0).trans rfl,(blk_cell BK604.out 1).trans rfl,(blk_cell BK604.out 2).trans rfl,((HB.out.cell (World.block_lt_of_cell? w _ hw609_0)).trans hw609_0),((HB.out.cell (World.block_lt_of_cell? w _ hw609_1)).trans hw609_1),((HB.out.cell (World.block_lt_of_cell? w _ hw609_2)).trans hw609_2)⟩ (fun hHeld=>?_)
    clear hK K
    refine norm_ (a':=?_) ?_ ?_
    rotate_left
    ·show Act.put _ (some 53) _=_
     simp only [Act.put,yps,i64_w,i32_w]
     rfl
    refine yvp 9 54 (yvb 10 1023) HT_.out ?_
    refine done_ (done_of HT_.out (by kernel_rfl)) ?_
    try go_wp2
    go_roundg k2
    case measure=>have:=HK1.out;have:=HK2.out;omega
    case rel=>exact ⟨(wrap64 (x6_2 + 1)),yeq,H,⟨by have:=HK1.out;have:=HK2.out;omega⟩,⟨ybk BK604.out⟩,⟨yhb⟩⟩
  replace H:=yif H;obtain ⟨c5b0,H⟩:=H
  replace H:=yif H;obtain ⟨c6b0,H⟩:=H
  replace H:=yis H;obtain ⟨c7b0,H⟩ | ⟨c7b0,H⟩:=H
  rotate_left
  ·replace H:=yam H
   try go_wp2
   replace BK604:=yam (ybd BK604.out)
   replace HB:=yam (yed HB.out)
   obtain ⟨ad605,e605,hx605_0,p605,q605⟩:=yat HR0_1.out x5_1
   have hw605_0:=hx605_0
   cases e605
   replace hx605_0:=ybx HB.out hx605_0
   refine start_ (n:=25) (S:=fun w'=>w'.cell? ⟨gb604,0,none⟩=some (.int .i64 a0_0)∧w'.cell? ⟨gb604,1,none⟩=some (.slice (some ad605) l0_1.length c0_1)∧w'.cell? ⟨gb604,2,none⟩=some (.slice A0_2 l0_2.length c0_2)∧w'.cell? (ad605.add (x5_1).toNat)=some (.int .i64 (rd l0_1 x5_1))) (ds:=[]) (yvb 25 0) (by kernel_rfl) rfl rfl ⟨(blk_cell BK604.out 0).trans rfl,(blk_cell BK604.out 1).trans rfl,(blk_cell BK604.out 2).trans rfl,((HB.out.cell (World.block_lt_of_cell? w _ hw605_0)).trans hw605_0)⟩ (fun hHeld=>?_);refine with_tabW spec_l5Fits.tab4 spec_l5Fits.bits4 (fun HT_ HW_=>?_)
   generalize wr.drew=w13 at BK604 HB hx605_0 hHeld ⊢
   refine yvp 0 13 (yvb 25 1) HT_.out ?_
   refine yvp 2 15 (yvb 25 5) HT_.out ?_
   refine yvt 1 14 (yvb 25 7) HT_.out HW_.out hHeld ?_
   refine yvp 3 16 (yvb 25 15) HT_.out ?_
   refine yvt 4 17 (yvb 25 31) HT_.out HW_.out hHeld ?_
   refine yvp 5 18 (yvb 25 63) HT_.out ?_
   refine yvp 6 19 (yvb 25 127) HT_.out ?_
   refine yvu 7 20 (yvb 25 255) HT_.out ?_
   refine yvu 8 21 (yvb 25 511) HT_.out ?_
   refine yvu 9 22 (yvb 25 1023) HT_.out ?_
   refine yvu 10 23 (yvb 25 2047) HT_.out ?_
   refine yvu 11 24 (yvb 25 4095) HT_.out ?_
   refine yvp 12 25 (yvb 25 8191) HT_.out ?_
   refine yvp 13 26 (yvb 25 16383) HT_.out ?_
   refine yvu 14 27 (yvb 25 32767) HT_.out ?_
   refine yvu 15 28 (yvb 25 65535) HT_.out ?_
   refine yvu 16 29 (yvb 25 131071) HT_.out ?_
   refine yvu 17 30 (yvb 25 262143) HT_.out ?_
   refine yvu 18 31 (yvb 25 524287) HT_.out ?_
   refine yvu 19 32 (yvb 25 1048575) HT_.out ?_
   refine yvu 20 33 (yvb 25 2097151) HT_.out ?_
   refine yvu 21 34 (yvb 25 4194303) HT_.out ?_
   refine yvu 22 35 (yvb 25 8388607) HT_.out ?_
   refine yvu 23 36 (yvb 25 16777215) HT_.out ?_
   refine yvp 24 37 (yvb 25 33554431) HT_.out ?_
   refine done_ (done_of HT_.out (by kernel_rfl)) ?_
   try go_wp2
   go_roundg k1
   case measure=>have:=HK1.out;omega
   case rel=>exact ⟨(wrap64 (x5_1 + 1)),yeq,H,⟨by have:=HK1.out;omega⟩,⟨ybk BK604.out⟩,⟨yhb⟩⟩
  replace H:=yis H;obtain ⟨c8b0,H⟩ | ⟨c8b0,H⟩:=H
  rotate_left
  ·replace H:=yam H
   try go_wp2
   replace BK604:=yam (ybd BK604.out)
   replace HB:=yam (yed HB.out)
   obtain ⟨ad605,e605,hx605_0,p605,q605⟩:=yat HR0_1.out x5_1
   have hw605_0:=hx605_0
   cases e605
   replace hx605_0:=ybx HB.out hx605_0
   obtain ⟨ad606,e606,hx606_0,p606,q606⟩:=yat HR1.out x5_1
   have hw606_0:=hx606_0
   cases e606
   replace hx606_0:=ybx HB.out hx606_0
   refine start_ (n:=25) (S:=fun w'=>w'.cell? ⟨gb604,0,none⟩=some (.int .i64 a0_0)∧w'.cell? ⟨gb604,1,none⟩=some (.slice (some ad605) l0_1.length c0_1)∧w'.cell? ⟨gb604,2,none⟩=some (.slice A0_2 l0_2.length c0_2)∧w'.cell? (ad605.add (x5_1).toNat)=some (.int .i64 (rd l0_1 x5_1))∧w'.cell? (ad606.add (x5_1).toNat)=some (.int .i64 (rd l1 x5_1))) (ds:=[]) (yvb 25 0) (by kernel_rfl) rfl rfl ⟨(blk_cell BK604.out 0).trans rfl,(blk_cell BK604.out 1).trans rfl,(blk_cell BK604.out 2).trans rfl,((HB.out.cell (World.block_lt_of_cell? w _ hw605_0)).trans hw605_0),((HB.out.cell (World.block_lt_of_cell? w _ hw606_0)).trans hw606_0)⟩ (fun hHeld=>?_);refine with_tabW spec_l5Fits.tab4 spec_l5Fits.bits4 (fun HT_ HW_=>?_)
   generalize wr.drew=w12 at BK604 HB hx605_0 hx606_0 hHeld ⊢
   refine yvp 0 13 (yvb 25 1) HT_.out ?_
   refine yvp 2 15 (yvb 25 5) HT_.out ?_
   refine yvt 1 14 (yvb 25 7) HT_.out HW_.out hHeld ?_
   refine yvp 3 16 (yvb 25 15) HT_.out ?_
   refine yvt 4 17 (yvb 25 31) HT_.out HW_.out hHeld ?_
   refine yvp 5 18 (yvb 25 63) HT_.out ?_
   refine yvp 6 19 (yvb 25 127) HT_.out ?_
   refine yvp 7 20 (yvb 25 255) HT_.out ?_
   refine yvp 8 21 (yvb 25 511) HT_.out ?_
   refine yvp 9 22 (yvb 25 1023) HT_.out ?_
   refine yvt 10 23 (yvb 25 2047) HT_.out HW_.out hHeld ?_
   refine yvp 11 24 (yvb 25 4095) HT_.out ?_
   refine yvp 12 25 (yvb 25 8191) HT_.out ?_
   refine yvp 13 26 (yvb 25 16383) HT_.out ?_
   refine yvu 14 27 (yvb 25 32767) HT_.out ?_
   refine yvu 15 28 (yvb 25 65535) HT_.out ?_
   refine yvu 16 29 (yvb 25 131071) HT_.out ?_
   refine yvu 17 30 (yvb 25 262143) HT_.out ?_
   refine yvu 18 31 (yvb 25 524287) HT_.out ?_
   refine yvu 19 32 (yvb 25 1048575) HT_.out ?_
   refine yvu 20 33 (yvb 25 2097151) HT_.out ?_
   refine yvu 21 34 (yvb 25 4194303) HT_.out ?_
   refine yvu 22 35 (yvb 25 8388607) HT_.out ?_
   refine yvu 23 36 (yvb 25 16777215) HT_.out ?_
   refine yvp 24 37 (yvb 25 33554431) HT_.out ?_
   refine done_ (done_of HT_.out (by kernel_rfl)) ?_
   try go_wp2
   go_roundg k1
   case measure=>have:=HK1.out;omega
   case rel=>exact ⟨(wrap64 (x5_1 + 1)),yeq,H,⟨by have:=HK1.out;omega⟩,⟨ybk BK604.out⟩,⟨yhb⟩⟩
  replace H:=yit H;obtain ⟨c9,H⟩ | ⟨c9,H⟩:=H
  rotate_left
  ·have c9b0:((rd l1 x5_1) == (rd l0_1 x5_1))=false:=beq_eq_false_iff_ne.mpr c9
   have c9b1:((rd l1 x5_1) != (rd l0_1 x5_1))=true:=bne_iff_ne.mpr c9
   obtain rfl:=ysi H
   try go_wp2
   replace BK604:=yam (ybd BK604.out)
   replace HB:=yam (yed HB.out)
   obtain ⟨ad605,e605,hx605_0,p605,q605⟩:=yat HR0_1.out x5_1
   have hw605_0:=hx605_0
   cases e605
   replace hx605_0:=ybx HB.out hx605_0
   obtain ⟨ad606,e606,hx606_0,p606,q606⟩:=yat HR1.out x5_1
   have hw606_0:=hx606_0
   cases e606
   replace hx606_0:=ybx HB.out hx606_0
   obtain ⟨ad607,e607,hx607_0,p607,q607⟩:=yat HR1.out x5_1
   have hw607_0:=hx607_0
   obtain rfl:ad606=ad607:=(by injection e607)
   replace hx607_0:=ybx HB.out hx607_0
   obtain ⟨ad608,e608,hx608_0,p608,q608⟩:=yat HR0_1.out x5_1
   have hw608_0:=hx608_0
   obtain rfl:ad605=ad608:=(by injection e608)
   replace hx608_0:=ybx HB.out hx608_0
   refine start_ (n:=25) (S:=fun w'=>w'.cell? ⟨gb604,0,none⟩=some (.int .i64 a0_0)∧w'.cell? ⟨gb604,1,none⟩=some (.slice (some ad605) l0_1.length c0_1)∧w'.cell? ⟨gb604,2,none⟩=some (.slice A0_2 l0_2.length c0_2)∧w'.cell? (ad605.add (x5_1).toNat)=some (.int .i64 (rd l0_1 x5_1))∧w'.cell? (ad606.add (x5_1).toNat)=some (.int .i64 (rd l1 x5_1))∧w'.cell? (ad606.add (x5_1).toNat)=some (.int .i64 (rd l1 x5_1))∧w'.cell? (ad605.add (x5_1).toNat)=some (.int .i64 (rd l0_1 x5_1))) (ds:=[]) (yvb 25 0) (by kernel_rfl) rfl rfl ⟨(blk_cell BK604.out 0).trans rfl,(blk_cell BK604.out 1).trans rfl,(blk_cell BK604.out 2).trans rfl,((HB.out.cell (World.block_lt_of_cell? w _ hw605_0)).trans hw605_0),((HB.out.cell (World.block_lt_of_cell? w _ hw606_0)).trans hw606_0),((HB.out.cell (World.block_lt_of_cell? w _ hw607_0)).trans hw607_0),((HB.out.cell (World.block_lt_of_cell? w _ hw608_0)).trans hw608_0)⟩ (fun hHeld=>?_);refine with_tabW spec_l5Fits.tab4 spec_l5Fits.bits4 (fun HT_ HW_=>?_)
   generalize wr.drew=w11 at BK604 HB hx605_0 hx606_0 hx607_0 hx608_0 hHeld ⊢
   refine yvp 0 13 (yvb 25 1) HT_.out ?_
   refine yvp 2 15 (yvb 25 5) HT_.out ?_
   refine yvt 1 14 (yvb 25 7) HT_.out HW_.out hHeld ?_
   refine yvp 3 16 (yvb 25 15) HT_.out ?_
   refine yvt 4 17 (yvb 25 31) HT_.out HW_.out hHeld ?_
   refine yvp 5 18 (yvb 25 63) HT_.out ?_
   refine yvp 6 19 (yvb 25 127) HT_.out ?_
   refine yvp 7 20 (yvb 25 255) HT_.out ?_
   refine yvp 8 21 (yvb 25 511) HT_.out ?_
   refine yvp 9 22 (yvb 25 1023) HT_.out ?_
   refine yvt 10 23 (yvb 25 2047) HT_.out HW_.out hHeld ?_
   refine yvp 11 24 (yvb 25 4095) HT_.out ?_
   refine yvp 12 25 (yvb 25 8191) HT_.out ?_
   refine yvp 13 26 (yvb 25 16383) HT_.out ?_
   refine yvp 14 27 (yvb 25 32767) HT_.out ?_
   refine yvp 15 28 (yvb 25 65535) HT_.out ?_
   refine yvp 16 29 (yvb 25 131071) HT_.out ?_
   refine yvp 18 31 (yvb 25 393215) HT_.out ?_
   refine yvp 20 33 (yvb 25 1441791) HT_.out ?_
   refine yvt 17 30 (yvb 25 1572863) HT_.out HW_.out hHeld ?_
   refine yvt 19 32 (yvb 25 2097151) HT_.out HW_.out hHeld ?_
   refine yvp 21 34 (yvb 25 4194303) HT_.out ?_
   refine yvt 22 35 (yvb 25 8388607) HT_.out HW_.out hHeld ?_
   refine yvp 23 36 (yvb 25 16777215) HT_.out ?_
   refine yvp 24 37 (yvb 25 33554431) HT_.out ?_
   refine done_ (done_of HT_.out (by kernel_rfl)) ?_
   try go_wp2
   go_ret
   exact ⟨yer,yhb⟩
  have c9b0:((rd l1 x5_1) == (rd l0_1 x5_1))=true:=beq_iff_eq.mpr c9
  have c9b1:((rd l1 x5_1) != (rd l0_1 x5_1))=false:=bne_eq_false_iff_eq.mpr c9
  clear c9
  replace H:=yam H
  try go_wp2
  replace BK604:=yam (ybd BK604.out)
  replace HB:=yam (yed HB.out)
  obtain ⟨ad605,e605,hx605_0,p605,q605⟩:=yat HR0_1.out x5_1
  have hw605_0:=hx605_0
  cases e605
  replace hx605_0:=ybx HB.out hx605_0
  obtain ⟨ad606,e606,hx606_0,p606,q606⟩:=yat HR1.out x5_1
  have hw606_0:=hx606_0
  cases e606
  replace hx606_0:=ybx HB.out hx606_0
  obtain ⟨ad607,e607,hx607_0,p607,q607⟩:=yat HR1.out x5_1
  have hw607_0:=hx607_0
  obtain rfl:ad606=ad607:=(by injection e607)
  replace hx607_0:=ybx HB.out hx607_0
  obtain ⟨ad608,e608,hx608_0,p608,q608⟩:=yat HR0_1.out x5_1
  have hw608_0:=hx608_0
  obtain rfl:ad605=ad608:=(by injection e608)
  replace hx608_0:=ybx HB.out hx608_0
  refine start_ (n:=25) (S:=fun w'=>w'.cell? ⟨gb604,0,none⟩=some (.int .i64 a0_0)∧w'.cell? ⟨gb604,1,none⟩=some (.slice (some ad605) l0_1.length c0_1)∧w'.cell? ⟨gb604,2,none⟩=some (.slice A0_2 l0_2.length c0_2)∧w'.cell? (ad605.add (x5_1).toNat)=some (.int .i64 (rd l0_1 x5_1))∧w'.cell? (ad606.add (x5_1).toNat)=some (.int .i64 (rd l1 x5_1))∧w'.cell? (ad606.add (x5_1).toNat)=some (.int .i64 (rd l1 x5_1))∧w'.cell? (ad605.add (x5_1).toNat)=some (.int .i64 (rd l0_1 x5_1))) (ds:=[]) (yvb 25 0) (by kernel_rfl) rfl rfl ⟨(blk_cell BK604.out 0).trans rfl,(blk_cell BK604.out 1).trans rfl,(blk_cell BK604.out 2).trans rfl,((HB.out.cell (World.block_lt_of_cell? w _ hw605_0)).trans hw605_0),((HB.out.cell (World.block_lt_of_cell? w _ hw606_0)).trans hw606_0),((HB.out.cell (World.block_lt_of_cell? w _ hw607_0)).trans hw607_0),((HB.out.cell (World.block_lt_of_cell? w _ hw608_0)).trans hw608_0)⟩ (fun hHeld=>?_);refine with_tabW spec_l5Fits.tab4 spec_l5Fits.bits4 (fun HT_ HW_=>?_)
  generalize wr.drew=w10 at BK604 HB hx605_0 hx606_0 hx607_0 hx608_0 hHeld ⊢
  refine yvp 0 13 (yvb 25 1) HT_.out ?_
  refine yvp 2 15 (yvb 25 5) HT_.out ?_
  refine yvt 1 14 (yvb 25 7) HT_.out HW_.out hHeld ?_
  refine yvp 3 16 (yvb 25 15) HT_.out ?_
  refine yvt 4 17 (yvb 25 31) HT_.out HW_.out hHeld ?_
  refine yvp 5 18 (yvb 25 63) HT_.out ?_
  refine yvp 6 19 (yvb 25 127) HT_.out ?_
  refine yvp 7 20 (yvb 25 255) HT_.out ?_
  refine yvp 8 21 (yvb 25 511) HT_.out ?_
  refine yvp 9 22 (yvb 25 1023) HT_.out ?_
  refine yvt 10 23 (yvb 25 2047) HT_.out HW_.out hHeld ?_
  refine yvp 11 24 (yvb 25 4095) HT_.out ?_
  refine yvp 12 25 (yvb 25 8191) HT_.out ?_
  refine yvp 13 26 (yvb 25 16383) HT_.out ?_
  refine yvp 14 27 (yvb 25 32767) HT_.out ?_
  refine yvp 15 28 (yvb 25 65535) HT_.out ?_
  refine yvp 16 29 (yvb 25 131071) HT_.out ?_
  refine yvp 18 31 (yvb 25 393215) HT_.out ?_
  refine yvp 20 33 (yvb 25 1441791) HT_.out ?_
  refine yvt 17 30 (yvb 25 1572863) HT_.out HW_.out hHeld ?_
  refine yvt 19 32 (yvb 25 2097151) HT_.out HW_.out hHeld ?_
  refine yvp 21 34 (yvb 25 4194303) HT_.out ?_
  refine yvt 22 35 (yvb 25 8388607) HT_.out HW_.out hHeld ?_
  refine yvp 23 36 (yvb 25 16777215) HT_.out ?_
  refine yvp 24 37 (yvb 25 33554431) HT_.out ?_
  refine done_ (done_of HT_.out (by kernel_rfl)) ?_
  try go_wp2
  go_roundg k1
  case measure=>have:=HK1.out;omega
  case rel=>exact ⟨(wrap64 (x5_1 + 1)),yeq,H,⟨by have:=HK1.out;omega⟩,⟨ybk BK604.out⟩,⟨yhb⟩⟩
def spec_PuzzleFits.f (k:Nat)(a0_0:Int)(l0_1:List Int)(l0_2:List (S67))(l1:List Int):Option (Bool):=(spec_PuzzleValid.f k a0_0 l0_1 l0_2).bind fun t613=>(if t613=true then ((spec_GridValid.f k l1 a0_0).bind fun t614=>(if t614=true then ((spec_l5Fits.f k a0_0 l0_1 l0_2 l1).bind fun t615=>(some t615)) else (some false))) else (some false))
theorem spec_PuzzleFits.calls (k:Nat)(a0_0:Int)(A0_1:Option Addr)(c0_1:Nat)(l0_1:List Int)(A0_2:Option Addr)(c0_2:Nat)(l0_2:List (S67))(A1:Option Addr)(c1:Nat)(l1:List Int)(r:Bool)(w:World)(hr0_1:Kd.C (Kd.int .i64) w A0_1 l0_1.length l0_1)(hc0_1:l0_1.length≤c0_1)(hr0_2:Kd.C k67 w A0_2 l0_2.length l0_2)(hc0_2:l0_2.length≤c0_2)(hr1:Kd.C (Kd.int .i64) w A1 l1.length l1)(hc1:l1.length≤c1)(h:spec_PuzzleFits.f k a0_0 l0_1 l0_2 l1=some r) :
  Calls Try.prog 76 #[.agg #[.int .i64 a0_0,.slice A0_1 l0_1.length c0_1,.slice A0_2 l0_2.length c0_2],.slice A1 l1.length c1] w fun e w'=>e= .returned (.bool r)∧Below w.heap.size w w':=by
 have hu30:=Try.underlying30
 have HR0_1:=yam hr0_1
 have HC0_1:=yam hc0_1
 clear hr0_1 hc0_1
 have HR0_2:=yam hr0_2
 have HC0_2:=yam hc0_2
 clear hr0_2 hc0_2
 have HR1:=yam hr1
 have HC1:=yam hc1
 clear hr1 hc1
 have HB:=yam (Below.refl w.heap.size w)
 unfold spec_PuzzleFits.f at h
 have H:=h
 clear h
 replace H:=ybi H;obtain ⟨t613,A3,H⟩:=H
 try dsimp only at H
 cases t613
 ·replace H:=yff H
  obtain rfl:=ysi H
  go_enter Try.func76,Try.ntmps76
  go_wp2_with (first|(refine ybe 2 #[.int .i64 a0_0,.slice A0_1 l0_1.length c0_1,.slice A0_2 l0_2.length c0_2] 30 ?_;intro gb612 hg w17 hbox hb;have BK612:=yam (hbox);have GW612:=yam ((by rw [hg];exact (below_size (yez HB.out)):w.heap.size≤gb612));replace HB:=yam (below_step (yez HB.out) hb);have GE612:=GW612;clear hb hbox hg;obtain ⟨hcz18_0,hcz18_1,hcz18_2,hfz18_0,hfz18_1,hfz18_2⟩:=ybc BK612.out)|(refine goesL_ (some 6) rfl rfl Try.func34 (by kernel_rfl) rfl #[.agg #[.int .i64 a0_0,.slice A0_1 l0_1.length c0_1,.slice A0_2 l0_2.length c0_2]] rfl ymd ?_;(with_reducible refine (spec_PuzzleValid.calls k a0_0 _ _ l0_1 _ _ l0_2 false _ ?_ ?_ ?_ ?_ A3.out).mono ?_);exact Kd.Cz ((Kd.C_below HR0_1.out HB.out));exact HC0_1.out;exact Kd.Cz ((Kd.C_below HR0_2.out HB.out));exact HC0_2.out;rintro e w19 ⟨rfl,hb⟩;refine ⟨_,rfl,?_⟩;replace BK612:=yam (ybb BK612.out hb);replace HB:=yam (below_step yhb hb);(try clear hb)))
  go_ret
  exact ⟨yer,yhb⟩
 replace H:=ytt H
 replace H:=ybi H;obtain ⟨t614,A5,H⟩:=H
 try dsimp only at H
 cases t614
 ·replace H:=yff H
  obtain rfl:=ysi H
  go_enter Try.func76,Try.ntmps76
  go_wp2_with (first|(refine ybe 2 #[.int .i64 a0_0,.slice A0_1 l0_1.length c0_1,.slice A0_2 l0_2.length c0_2] 30 ?_;intro gb612 hg w13 hbox hb;have BK612:=yam (hbox);have GW612:=yam ((by rw [hg];exact (below_size (yez HB.out)):w.heap.size≤gb612));replace HB:=yam (below_step (yez HB.out) hb);have GE612:=GW612;clear hb hbox hg;obtain ⟨hcz14_0,hcz14_1,hcz14_2,hfz14_0,hfz14_1,hfz14_2⟩:=ybc BK612.out)|(refine goesL_ (some 6) rfl rfl Try.func34 (by kernel_rfl) rfl #[.agg #[.int .i64 a0_0,.slice A0_1 l0_1.length c0_1,.slice A0_2 l0_2.length c0_2]] rfl ymd ?_;(with_reducible refine (spec_PuzzleValid.calls k a0_0 _ _ l0_1 _ _ l0_2 true _ ?_ ?_ ?_ ?_ A3.out).mono ?_);exact Kd.Cz ((Kd.C_below HR0_1.out HB.out));exact HC0_1.out;exact Kd.Cz ((Kd.C_below HR0_2.out HB.out));exact HC0_2.out;rintro e w15 ⟨rfl,hb⟩;refine ⟨_,rfl,?_⟩;replace BK612:=yam (ybb BK612.out hb);replace HB:=yam (below_step yhb hb);(try clear hb);obtain ⟨hcz16_0,hcz16_1,hcz16_2,hfz16_0,hfz16_1,hfz16_2⟩:=ybc BK612.out)|(go_at_call 67;(with_reducible refine (spec_GridValid.calls k _ _ l1 a0_0 false _ ?_ ?_ A5.out).mono ?_);exact Kd.Cz ((Kd.C_below HR1.out HB.out));exact HC1.out;rintro e w' ⟨rfl,⟨nd,rfl⟩⟩))
  go_ret
  exact ⟨yer,yhb⟩
 replace H:=ytt H
 replace H:=ybi H;obtain ⟨t615,A7,H⟩:=H
 try dsimp only at H
 obtain rfl:=ysi H
 go_enter Try.func76,Try.ntmps76
 go_wp2_with (first|(refine ybe 2 #[.int .i64 a0_0,.slice A0_1 l0_1.length c0_1,.slice A0_2 l0_2.length c0_2] 30 ?_;intro gb612 hg w8 hbox hb;have BK612:=yam (hbox);have GW612:=yam ((by rw [hg];exact (below_size (yez HB.out)):w.heap.size≤gb612));replace HB:=yam (below_step (yez HB.out) hb);have GE612:=GW612;clear hb hbox hg;obtain ⟨hcz9_0,hcz9_1,hcz9_2,hfz9_0,hfz9_1,hfz9_2⟩:=ybc BK612.out)|(refine goesL_ (some 6) rfl rfl Try.func34 (by kernel_rfl) rfl #[.agg #[.int .i64 a0_0,.slice A0_1 l0_1.length c0_1,.slice A0_2 l0_2.length c0_2]] rfl ymd ?_;(with_reducible refine (spec_PuzzleValid.calls k a0_0 _ _ l0_1 _ _ l0_2 true _ ?_ ?_ ?_ ?_ A3.out).mono ?_);exact Kd.Cz ((Kd.C_below HR0_1.out HB.out));exact HC0_1.out;exact Kd.Cz ((Kd.C_below HR0_2.out HB.out));exact HC0_2.out;rintro e w10 ⟨rfl,hb⟩;refine ⟨_,rfl,?_⟩;replace BK612:=yam (ybb BK612.out hb);replace HB:=yam (below_step yhb hb);(try clear hb);obtain ⟨hcz11_0,hcz11_1,hcz11_2,hfz11_0,hfz11_1,hfz11_2⟩:=ybc BK612.out)|(go_at_call 67;(with_reducible refine (spec_GridValid.calls k _ _ l1 a0_0 true _ ?_ ?_ A5.out).mono ?_);exact Kd.Cz ((Kd.C_below HR1.out HB.out));exact HC1.out;rintro e w' ⟨rfl,⟨nd,rfl⟩⟩)|(go_at_call 88;(with_reducible refine (spec_l5Fits.calls k a0_0 _ _ l0_1 _ _ l0_2 _ _ l1 t615 _ ?side1 ?side2 ?side3 ?side4 ?side5 ?side6 A7.out).mono ?_);(case side1=>repeat (first|exact (Kd.C_below HR0_1.out yhb)|(with_reducible refine Kd.C_alloc ?_ _)|(with_reducible refine Kd.C_drewN ?_ _)|(with_reducible refine Kd.C_drew ?_)));(case side2=>exact HC0_1.out);(case side3=>repeat (first|exact (Kd.C_below HR0_2.out yhb)|(with_reducible refine Kd.C_alloc ?_ _)|(with_reducible refine Kd.C_drewN ?_ _)|(with_reducible refine Kd.C_drew ?_)));(case side4=>exact HC0_2.out);(case side5=>repeat (first|exact (Kd.C_below HR1.out yhb)|(with_reducible refine Kd.C_alloc ?_ _)|(with_reducible refine Kd.C_drewN ?_ _)|(with_reducible refine Kd.C_drew ?_)));(case side6=>exact HC1.out);rintro e w12 ⟨rfl,hb⟩;replace BK612:=yam (ybb BK612.out hb);replace HB:=yam (below_step yhb hb);(try clear hb)))
 go_ret
 exact ⟨yer,yhb⟩
def spec_l5Search.loop (fits:List Int→Option Bool)(f:List Int→List (List Int)→Option (List (List Int)))(g:List Int)(i:Nat)(most:Int):Nat→Int→List (List Int)→Option (List (List Int))
 | 0,_,out=>some out
 | n + 1,v,out=>if (out.length:Int) < most then (fits (g.set i v)).bind fun b=>(if b=true then (f (g.set i v) out).bind fun o=>spec_l5Search.loop fits f g i most n (v + 1) o else spec_l5Search.loop fits f g i most n (v + 1) out) else some out
def spec_l5Search.srch (k:Nat)(s:Int)(l1:List Int)(l2:List S67)(most:Int)(N:Nat):Nat→List Int→List (List Int)→Option (List (List Int))
 | 0,g,out=>if out.length≤100000 then some (out ++ [g]) else none
 | d + 1,g,out=>if 0 < rd g ((N:Int) - (d + 1:Nat)) then spec_l5Search.srch k s l1 l2 most N d g out else spec_l5Search.loop (fun g'=>spec_l5Fits.f k s l1 l2 g') (spec_l5Search.srch k s l1 l2 most N d) g ((N:Int) - (d + 1:Nat)).toNat most s.toNat 1 out
theorem below_of_grown {W w1:World}(hg:W.grownBy w1 none):Below W.heap.size W w1:=⟨hg.os,hg.tape,hg.output,hg.size,fun i hi=>hg.block i hi (by simp)⟩
theorem below_own {w W W':World}{row:Option Nat}(h:Below w.heap.size w W)(hg:W.grownBy W' row)(hr:∀ k,row=some k→w.heap.size≤k):Below w.heap.size w W':=pw_below_grown h row h.size hg hr
def spec_l5Search.OutB (p:Nat)(w0 w:World)(Pt:Nat→Prop)(out:List (List Int)):Prop:=∃ v,w.heap[p]?=some (.cells #[v] 58 (0,0))∧Kd.S (Kd.slice 3 (Kd.int .i64)) 22 w w0.heap.size (fun k=>¬ Pt k∧k≠p) v out
theorem spec_l5Search.OutB.below {p:Nat}{w0 w w':World}{Pt:Nat→Prop}{out:List (List Int)}(h:spec_l5Search.OutB p w0 w Pt out)(hb:Below w.heap.size w w'):spec_l5Search.OutB p w0 w' Pt out:=by
 obtain ⟨v,h1,h2⟩:=h
 exact ⟨v,blk_below h1 hb,Kd.S_below h2 hb⟩
theorem spec_l5Search.OutB.mono {p:Nat}{w0 w:World}{Pt Pt':Nat→Prop}{out:List (List Int)}(h:spec_l5Search.OutB p w0 w Pt out)(hp:∀ k,k < w.heap.size→Pt' k→Pt k):spec_l5Search.OutB p w0 w Pt' out:=by
 obtain ⟨v,h1,h2⟩:=h
 exact ⟨v,h1,Kd.S_mono (Kd.S_bound h2) (fun k hk=>⟨fun hq=>hk.1.1 (hp k hk.2.2.1 hq),hk.1.2⟩)⟩
theorem spec_l5Search.OutB.set {p g:Nat}{w0 w:World}{Pt:Nat→Prop}{out:List (List Int)}(h:spec_l5Search.OutB p w0 w Pt out)(hg:Pt g)(hne:p≠g)(j:Nat)(u:Value):spec_l5Search.OutB p w0 (w.setCell ⟨g,j,none⟩ u) Pt out:=by
 obtain ⟨v,h1,h2⟩:=h
 exact ⟨v,(Below.heap_setCell w ⟨g,j,none⟩ u p hne).trans h1,Kd.S_far (p:=⟨g,j,none⟩) h2 (fun k hk e=>hk.1 (by simp only at e;rw [e];exact hg)) u⟩
theorem spec_l5Search.clo (k:Nat)(s:Int)(A1:Option Addr)(c1:Nat)(l1:List Int)(A2:Option Addr)(c2:Nat)(l2:List S67)(most:Int)(N p:Nat)(w0:World)(hN:N≤100000)(hs4:s≤1000)(hp0:w0.heap.size≤p)(hc1:l1.length≤c1)(hc2:l2.length≤c2) :
  ∀ (d:Nat) (a:Int) (g:List Int) (A:Option Addr) (c:Nat) (out out':List (List Int)) (Pt:Nat→Prop) (w:World) (_:(N:Int) - d=a) (_:d≤N) (_:g.length=N) (_:∀ W,Agr Pt w W→Kd.C (Kd.int .i64) W A N g) (_:N≤c) (_:∀ W,Agr Pt w W→Kd.C (Kd.int .i64) W A1 l1.length l1) (_:∀ W,Agr Pt w W→Kd.C k67 W A2 l2.length l2) (_:∀ k,Pt k→k < w.heap.size) (_:¬ Pt p) (_:spec_l5Search.OutB p w0 w Pt out) (_:Below w0.heap.size w0 w) (_:spec_l5Search.srch k s l1 l2 most N d g out=some out'),
  Calls Try.prog 77 #[.agg #[.int .i64 s,.slice A1 l1.length c1,.slice A2 l2.length c2],.slice A N c,.int .i64 a,.int .i64 most,.pointer (some ⟨p,0,none⟩)] w fun e w'=>e= .returned (.tuple #[])∧spec_l5Search.OutB p w0 w' Pt out'∧Agr Pt w w'∧Below w0.heap.size w0 w':=by
 intro d
 have HN:=yam hN
 have HS4:=yam hs4
 have HP0:=yam hp0
 have HC1:=yam hc1
 have HC2:=yam hc2
 clear hN hs4 hp0 hc1 hc2
 induction d using Nat.strongRecOn with
 | _ d ih =>
 have IH:=yam ih
 clear ih
 intro a g A c out out' Pt w ha hd hl hr hc hr1 hr2 hPl hPp hO hB h
 have HAD:=yam (show (N:Int) - d=a∧d≤N from ⟨ha,hd⟩)
 have HL:=yam hl
 have HR:=yam hr
 have HC:=yam hc
 have HR1:=yam hr1
 have HR2:=yam hr2
 have HPL:=yam hPl
 have HPP:=yam hPp
 have HO:=yam hO
 have HB:=yam hB
 have HT:=yam h
 have hu:=Try.underlying30
 clear ha hd hl hr hc hr1 hr2 hPl hPp hO hB h
 go_enter Try.func77,Try.ntmps77
 go_wp2_with (first
  | (refine ybe 5 #[.int .i64 s,.slice A1 l1.length c1,.slice A2 l2.length c2] 30 ?_;intro gP hg w3 hbox hb;have BgP:=yam hbox;have HW:=yam hb;have HGP:=yam (show w.heap.size≤gP∧gP < w3.heap.size∧p < w.heap.size from ⟨Nat.le_of_eq hg.symm,blk_lt hbox,by obtain ⟨_,h_,_⟩:=HO.out;exact blk_lt h_⟩);have HO3:=yam ((HO.out.mono (Pt':=fun k_=>Pt k_∨k_=gP) (fun k_ hl_ hp_=>hp_.resolve_right (by omega))).below hb);clear hg hbox hb HO))
 (try simp only [Act.put,List.setIfInBounds_toArray,List.set_cons_zero,List.set_cons_succ])
 go_loopg [2] d (fun kq v2 w'=>∃ (i:Int),v2= .int .i64 i∧w'=w3∧Aside0 ((N:Int) - kq=i∧kq≤d)∧Aside0 (spec_l5Search.srch k s l1 l2 most N kq g out=some out'))
 case atStart=>exact ⟨a,rfl,rfl,⟨HAD.out.1,Nat.le_refl _⟩,HT⟩
 case round =>
  clear HT
  obtain ⟨i,rfl,rfl,HK,HT⟩:=hrel
  cases gk with
  | zero =>
   have hi:i=(N:Int):=by have:=HK.out;omega
   subst hi
   have hlt:decide ((N:Int) < (N:Int))=false:=decide_eq_false (by omega)
   have h:=HT.out
   clear HT
   unfold spec_l5Search.srch at h
   by_cases hol:out.length≤100000
   rotate_left
   ·rw [if_neg hol] at h
    cases h
   rw [if_pos hol] at h
   obtain rfl:=Option.some.inj h
   clear h
   have HOL:=yam hol
   clear hol
   obtain ⟨v0,hpb,hS⟩:=HO3.out
   obtain ⟨Av,cv,ev⟩:=Kd.S_slice hS
   subst ev
   have HP0_:=yam hpb
   have HS:=yam hS
   clear hpb hS HO3
   go_wp2
   refine start_ (n:=11) (S:=fun w'=>w'.cell? ⟨p,0,none⟩=some (.slice Av out.length cv)) (ds:=[10]) (yvb 11 0) (by kernel_rfl) rfl rfl ((blk_cell (show wr.drew.heap[p]?=_ from HP0_.out) 0).trans rfl) (fun hHeld=>?_)
   have n1_:=yam (show wr.drew.heap[p]?=_ from HP0_.out)
   have n2_:=yam (Kd.S_drew HS.out)
   have n3_:=yam (show Below w.heap.size w wr.drew from below_drew1 HW.out)
   clear HP0_ HS HW
   have n4_:=yam (show wr.heap.size≤wr.drew.heap.size from Nat.le_refl _)
   generalize wr.drew=w4 at n1_ n2_ n3_ n4_ hHeld ⊢
   have HZ0:=n4_
   clear n4_
   have HP:=n1_
   have HS:=n2_
   have HW:=n3_
   clear n1_ n2_ n3_
   refine pure_ (i:=0) (N:=some 29) (v:=?_) (a':=?_) (yvb 11 1) rfl rfl (by kernel_rfl) (fun _ _ _ h=>h) (Or.inl ⟨by rfl,?_⟩) ?_ ?_
   rotate_left
   ·intro w'
    go_simp
    with_reducible rfl
   rotate_left
   ·simp only [Act.put,yps,i64_w,i32_w]
    rfl
   refine pure_ (i:=1) (N:=some 30) (v:=?_) (a':=?_) (yvb 11 3) rfl rfl (by kernel_rfl) (fun _ _ _ h=>h) (Or.inl ⟨by rfl,?_⟩) ?_ ?_
   rotate_left
   ·intro w'
    go_simp
    with_reducible rfl
   rotate_left
   ·simp only [Act.put,yps,i64_w,i32_w]
    rfl
   refine pure_ (i:=2) (N:=some 31) (v:=?_) (a':=?_) (yvb 11 7) rfl rfl (by kernel_rfl) (fun _ _ _ h=>h) (Or.inl ⟨by rfl,?_⟩) ?_ ?_
   rotate_left
   ·intro w'
    go_simp
    with_reducible rfl
   rotate_left
   ·simp only [Act.put,yps,i64_w,i32_w]
    rfl
   refine take_ (i:=3) (N:=some 32) (v:=?_) (a':=?_) (yvb 11 15) rfl rfl (by kernel_rfl) (fun _ _ _ h=>h) (Or.inl ⟨by rfl,?_⟩) hHeld ?_ ?_
   rotate_left
   ·intro w' s0
    go_simp
    with_reducible rfl
   rotate_left
   ·simp only [Act.put,yps,i64_w,i32_w]
    rfl
   refine pure_ (i:=5) (N:=some 34) (v:=?_) (a':=?_) (yvb 11 47) rfl rfl (by kernel_rfl) (fun _ _ _ h=>h) (Or.inl ⟨by rfl,?_⟩) ?_ ?_
   rotate_left
   ·intro w'
    go_simp
    with_reducible rfl
   rotate_left
   ·simp only [Act.put,yps,i64_w,i32_w]
    rfl
   refine one_ (i:=4) (N:=some 33) (yvb 11 63) rfl rfl (by kernel_rfl) (by decide) (fun K hK=>?_)
   refine Kd.R_lit_step (Kd.int .i64) (w0:=w0) w0.heap.size 3 (by rfl) (N:=33) rfl (xs:=([]:List Int)) (inner:=[]) (ok:=fun k_=>w4.heap.size≤k_) (okp:=fun _=>False) (by first|(go_simp;done)|(go_simp;rfl)) (Reps.none _ _) (fun _ h_=>h_.elim) (Nat.le_refl _) (below_step HB.out HW.out) (Nat.le_trans HB.out.size HW.out.size) (by simp) ?_
   intro v33 w5 ho hb hg hat
   have hbl:Below w4.heap.size w4 w5:=below_of_grown hg
   have n1_:=yam (blk_below HP.out hbl)
   have n2_:=yam (Kd.S_below (Kd.S_bound HS.out) hbl)
   have n3_:=yam (below_step HW.out hbl)
   have n4_:=yam ho
   have n5_:=yam (show w.heap.size≤w4.heap.size∧w4.heap.size≤w5.heap.size from ⟨HW.out.size,hbl.size⟩)
   clear HP HS HW ho hb hg hat hbl
   have HP:=n1_
   have HS:=n2_
   have HW:=n3_
   have HV:=n4_
   have HZ:=n5_
   clear n1_ n2_ n3_ n4_ n5_
   obtain ⟨A33,c33,e33⟩:=Kd.R_slice HV.out
   subst e33
   refine hK.out _ _ ((blk_cell HP.out 0).trans rfl) (fun hHeld=>?_)
   clear hK K
   refine norm_ (a':=?_) ?_ ?_
   rotate_left
   ·show Act.put _ (some 33) _=_
    simp only [Act.put,yps,i64_w,i32_w]
    rfl
   refine one_ (i:=6) (N:=some 35) (yvb 11 127) rfl rfl (by kernel_rfl) (by decide) (fun K hK=>?_)
   refine Kd.R_append_rows_step (Kd.int .i64) (w0:=w0) w0.heap.size (by rfl) (.tmp 33) (.tmp 34) 22 3 (.int .i64 0) 8 rfl Try.underlying22 info3 rfl (by decide) (by omega) (.slice A33 ([]:List Int).length c33) [] g A N c (fun k_=>w4.heap.size≤k_) (fun _=>False) rfl rfl HV.out (HR.out w5 (Agr.of_below HW.out)) (fun _ _ h=>h) (fun _ h=>h.elim) (fun k_ h_=>Nat.le_trans HZ.out.2 h_) (below_step HB.out HW.out) (Nat.le_trans HB.out.size HW.out.size) (by have:=HN.out;simp only [List.length_nil];omega) ?_
   intro v35 w6 ho hb hg hat
   simp only [List.nil_append] at ho
   have hown:∀ k,(Value.slice A33 ([]:List Int).length c33).ownBlock=some k→w4.heap.size≤k:=fun k_ e_=>HV.out.1 k_ e_
   have n1_:=yam (blk_grown HP.out hg (fun e_=>by have:=hown p e_.symm;have:=HGP.out;have:=HZ.out;omega))
   have n2_:=yam (Kd.S_grown HS.out hg (fun k_ h_ e_=>by have:=hown k_ e_.symm;have:=h_.2.2.1;omega))
   have n3_:=yam (below_own HW.out hg (fun k_ e_=>by have:=hown k_ e_;have:=HZ.out;omega))
   have n4_:=yam ho
   have n5_:=yam (show w.heap.size≤w4.heap.size∧w4.heap.size≤w6.heap.size from ⟨HZ.out.1,Nat.le_trans HZ.out.2 hg.size⟩)
   clear HP HS HW HV HZ ho hb hg hat hown
   have HP:=n1_
   have HS:=n2_
   have HW:=n3_
   have HV:=n4_
   have HZ:=n5_
   clear n1_ n2_ n3_ n4_ n5_
   obtain ⟨A35,c35,e35⟩:=Kd.R_slice HV.out
   subst e35
   refine hK.out _ _ ((blk_cell HP.out 0).trans rfl) (fun hHeld=>?_)
   clear hK K
   refine norm_ (a':=?_) ?_ ?_
   rotate_left
   ·show Act.put _ (some 35) _=_
    simp only [Act.put,yps,i64_w,i32_w]
    rfl
   refine one_ (i:=7) (N:=some 36) (yvb 11 255) rfl rfl (by kernel_rfl) (by decide) (fun K hK=>?_)
   refine value_ (w1:=w6.alloc (.cells #[.slice A35 g.length c35] 22)) (v:= .slice (some ⟨w6.heap.size,0,none⟩) 1 1) (by rfl) rfl ?_ ?_
   ·go_simp
    first|done|rfl|(constructor <;> rfl)
   refine hK.out _ _ ((blk_cell (blk_alloc HP.out _) 0).trans rfl) (fun hHeld=>?_)
   clear hK K
   refine norm_ (a':=?_) ?_ ?_
   rotate_left
   ·show Act.put _ (some 36) _=_
    simp only [Act.put,yps,i64_w,i32_w]
    rfl
   refine one_ (i:=8) (N:=some 37) (yvb 11 511) rfl rfl (by kernel_rfl) (by decide) (fun K hK=>?_)
   refine Kd.S_append_step (Kd.slice 3 (Kd.int .i64)) (w0:=w0) w0.heap.size (by rfl) (.tmp 32) (.tmp 36) 58 22 (.slice none 0 0) 24 rfl Try.underlying58 info22 rfl (by decide) (by omega) (.slice Av out.length cv) out g [.slice A35 g.length c35] (fun k_=>¬ (Pt k_∨k_=gP)∧k_≠p) (fun k_=>some k_=(Value.slice A35 g.length c35).ownBlock) rfl rfl (Kd.M_row (Kd.R_tight rfl HV.out)) (fun k_ h_=>by
    have h1_:=HV.out.1 k_ h_.symm
    have h2_:=HGP.out
    have h3_:=HZ.out
    exact ⟨⟨fun hp_=>hp_.elim (fun hp_=>by have:=HPL.out k_ hp_;omega) (fun hp_=>by have:=HZ0.out;omega),by omega⟩,fun e_=>by have:=((Kd.S_R HS.out).1 k_ e_.symm).2.2.1;omega⟩) (fun k_ h_=>by
    have h2_:=HGP.out
    have h3_:=HZ.out
    exact ⟨fun hp_=>hp_.elim (fun hp_=>by have:=HPL.out k_ hp_;omega) (fun hp_=>by have:=HZ0.out;omega),by omega⟩) (Kd.S_mono HS.out (fun k_ h_=>⟨h_.1,fun e_=>by have:=HV.out.1 k_ e_.symm;have:=h_.2.2.1;omega⟩)) (below_step HB.out HW.out) (Nat.le_trans HB.out.size HW.out.size) (by have:=HOL.out;omega) ?_
   intro v37 w8 ho hb hg hat
   have hown:∀ k,(Value.slice Av out.length cv).ownBlock=some k→(¬ (Pt k∨k=gP)∧k≠p):=fun k_ e_=>((Kd.S_R HS.out).1 k_ e_).1
   have n1_:=yam (blk_grown HP.out hg (fun e_=>(hown p e_.symm).2 rfl))
   have n2_:=yam ho
   have n3_:=yam (show Agr Pt w w8 from ⟨Nat.le_trans HW.out.size hg.size,fun k_ hl_ hp_=>(hg.block k_ (Nat.lt_of_lt_of_le hl_ HW.out.size) (fun e_=>(hown k_ e_.symm).1 (.inl hp_))).trans (HW.out.block k_ hl_)⟩)
   have n4_:=yam hb
   clear HP HS HW HV ho hb hg hat hown
   have HP:=n1_
   have HS:=n2_
   have HA:=n3_
   have HB8:=n4_
   clear n1_ n2_ n3_ n4_
   obtain ⟨A37,c37,e37⟩:=Kd.S_slice HS.out
   subst e37
   refine hK.out _ _ ((blk_cell HP.out 0).trans rfl) (fun hHeld=>?_)
   clear hK K
   refine norm_ (a':=?_) ?_ ?_
   rotate_left
   ·show Act.put _ (some 37) _=_
    simp only [Act.put,yps,i64_w,i32_w]
    rfl
   refine pure_ (i:=9) (N:=some 38) (v:=?_) (a':=?_) (yvb 11 1023) rfl rfl (by kernel_rfl) (fun _ _ _ h=>h) (Or.inl ⟨by rfl,?_⟩) ?_ ?_
   rotate_left
   ·intro w'
    go_simp
    with_reducible rfl
   rotate_left
   ·simp only [Act.put,yps,i64_w,i32_w]
    rfl
   have hzf:=blk_frozen HP.out 0
   have hz:=hHeld
   refine last_ (i:=10) (N:=none) (yvb 11 2047) rfl rfl (by kernel_rfl) (by decide) (fun K hK=>?_)
   refine skip_ (w1:=w8.setCell ⟨p,0,none⟩ (.slice A37 (out ++ [g]).length c37)) (by rfl) rfl ?_ ?_
   ·go_simp
    first|done|rfl
   refine hK.out _ _ ?_
   clear hK K hz hzf hHeld
   have n1_:Aside0 (spec_l5Search.OutB p w0 (w8.setCell ⟨p,0,none⟩ (.slice A37 (out ++ [g]).length c37)) Pt (out ++ [g])):=⟨⟨_,by simpa using blk_set HP.out 0 (.slice A37 (out ++ [g]).length c37),Kd.S_far (p:=⟨p,0,none⟩) (Kd.S_mono HS.out (fun k_ h_=>⟨fun hp_=>h_.1 (.inl hp_),h_.2⟩)) (fun k_ h_=>h_.2) _⟩⟩
   have n2_:Aside0 (Agr Pt w (w8.setCell ⟨p,0,none⟩ (.slice A37 (out ++ [g]).length c37))):=⟨⟨by have:=HA.out.1;simpa [World.setCell] using this,fun k_ hl_ hp_=>(Below.heap_setCell w8 ⟨p,0,none⟩ _ k_ (fun e_=>HPP.out (by simp only at e_;rw [← e_];exact hp_))).trans (HA.out.2 k_ hl_ hp_)⟩⟩
   have n3_:Aside0 (Below w0.heap.size w0 (w8.setCell ⟨p,0,none⟩ (.slice A37 (out ++ [g]).length c37))):=⟨below_set HB8.out HP0.out⟩
   refine done_ (by kernel_rfl) ?_
   go_wp2
   first|go_end0|((try simp only [Exit.inBlock,Exit.then]);refine bodyPost_ret (results_none rfl _ _ _) rfl ?_)
   exact ⟨rfl,n1_.out,n2_.out,n3_.out⟩
  | succ q =>
   have h0:0≤i:=by have:=HK.out;have:=HAD.out;omega
   have h1:i < (N:Int):=by have:=HK.out;omega
   obtain ⟨ad,eA,hx⟩:=Kd.at_int (HR.out wr (Agr.of_below HW.out)) i h0 h1
   subst eA
   have hlt:decide (i < (N:Int))=true:=decide_eq_true h1
   have hae:(i == (N:Int))=false:=beq_eq_false_iff_ne.mpr (by omega)
   have hw1:wrap64 (i + 1)=i + 1:=by have:=HN.out;unfold wrap64;omega
   have hw2:IntKind.i64.wrap (i + 1)=i + 1:=by rw [i64_w];exact hw1
   have h:=HT.out
   clear HT
   unfold spec_l5Search.srch at h
   have hi:(N:Int) - ((q + 1:Nat):Int)=i:=HK.out.1
   rw [hi] at h
   have HI:=yam (show 0≤i∧i < (N:Int)∧(N:Int) - q=i + 1∧q < d from ⟨h0,h1,by omega,by have:=HK.out;omega⟩)
   have q0:=eq_true h0
   have q1:=eq_true h1
   clear h0 h1 hi
   by_cases hpos:0 < rd g i
   ·rw [if_pos hpos] at h
    have hpb:decide (0 < rd g i)=true:=decide_eq_true hpos
    have HT:=yam h
    clear h hpos
    go_wp2
    go_roundg q
    case measure=>omega
    case rel=>exact ⟨i + 1,rfl,rfl,⟨HI.out.2.2.1,by have:=HI.out;omega⟩,HT⟩
   ·rw [if_neg hpos] at h
    have hpb:decide (0 < rd g i)=false:=decide_eq_false hpos
    have HT:=yam h
    clear h hpos
    go_wp2
    have HA0:=yam (Agr.of_below (P:=Pt) HW.out)
    have HB0:=yam (below_step HB.out HW.out)
    clear hx hlt hae hpb hw1 hw2 q0 q1
    obtain ⟨sz,hsz⟩:∃ x,x=wr.heap.size:=⟨_,rfl⟩
    rw [← hsz] at HGP
    have HSZ0:=yam (Nat.le_of_eq hsz)
    clear hsz
    go_loopg [10] s.toNat (fun kq v10 w'=>∃ (v:Int) (o:List (List Int)),v10= .int .i64 v∧Aside0 (1≤v∧v + (kq:Int)=(s.toNat:Int) + 1)∧Aside0 (spec_l5Search.loop (fun g'=>spec_l5Fits.f k s l1 l2 g') (spec_l5Search.srch k s l1 l2 most N q) g i.toNat most kq v o=some out')∧Aside0 (w'.heap[gP]?=some (.cells #[.int .i64 s,.slice A1 l1.length c1,.slice A2 l2.length c2] 30 (0,0)))∧Aside0 (spec_l5Search.OutB p w0 w' (fun k_=>Pt k_∨k_=gP) o)∧Aside0 (Agr Pt w w')∧Aside0 (Below w0.heap.size w0 w')∧Aside0 (sz≤w'.heap.size))
    case atStart=>exact ⟨1,out,rfl,⟨by omega⟩,HT,BgP,HO3,HA0,HB0,HSZ0⟩
    case round =>
     clear HT BgP HO3 HA0 HB0 HSZ0 HW HB
     obtain ⟨v,o,rfl,HK2,HT,BP,HO4,HA,HB,HSZ⟩:=hrel
     obtain ⟨vv,hpb,hS⟩:=HO4.out
     obtain ⟨Av,cv,ev⟩:=Kd.S_slice hS
     subst ev
     have hcO:wr.cell? ⟨p,0,none⟩=some (.slice Av o.length cv):=(blk_cell hpb 0).trans rfl
     have hcP0:wr.cell? ⟨gP,0,none⟩=some (.int .i64 s):=(blk_cell BP.out 0).trans rfl
     clear hpb hS
     cases gk with
     | zero =>
      have h:=HT.out
      unfold spec_l5Search.loop at h
      obtain rfl:=Option.some.inj h
      clear HT h
      have hvb:decide (v≤s)=false:=decide_eq_false (by have:=HK2.out;omega)
      go_wp2
      first|go_end0|((try simp only [Exit.inBlock,Exit.then]);refine bodyPost_ret (results_none rfl _ _ _) rfl ?_)
      exact ⟨rfl,HO4.out.mono (fun _ _ hp_=> .inl hp_),HA.out,HB.out⟩
     | succ n =>
      have h:=HT.out
      clear HT
      unfold spec_l5Search.loop at h
      have hvb:decide (v≤s)=true:=decide_eq_true (by have:=HK2.out;omega)
      have hvw:wrap64 (v + 1)=v + 1:=by have:=HK2.out;have:=HS4.out;unfold wrap64;omega
      have hvw2:IntKind.i64.wrap (v + 1)=v + 1:=by rw [i64_w];exact hvw
      by_cases hm:(o.length:Int) < most
      rotate_left
      ·rw [if_neg hm] at h
       obtain rfl:=Option.some.inj h
       clear h
       have hmb:decide ((o.length:Int) < most)=false:=decide_eq_false hm
       clear hm
       go_wp2
       first|go_end0|((try simp only [Exit.inBlock,Exit.then]);refine bodyPost_ret (results_none rfl _ _ _) rfl ?_)
       exact ⟨rfl,HO4.out.mono (fun _ _ hp_=> .inl hp_),HA.out,HB.out⟩
      rw [if_pos hm] at h
      have hmb:decide ((o.length:Int) < most)=true:=decide_eq_true hm
      clear hm
      obtain ⟨b,hF,h⟩:=Option.bind_eq_some_iff.1 h
      have HF:=yam hF
      clear hF
      have h0:=HI.out.1
      have h1:=HI.out.2.1
      have q0:=eq_true h0
      have q1:=eq_true h1
      have hiw:wrap64 (i + 1)=i + 1:=by have:=HN.out;unfold wrap64;omega
      have hiw2:IntKind.i64.wrap (i + 1)=i + 1:=by rw [i64_w];exact hiw
      have hlt:decide (i < (N:Int))=true:=decide_eq_true h1
      clear h0 h1
      cases b with
      | false =>
       simp only [Bool.false_eq_true,if_false] at h
       have HT:=yam h
       clear h
       go_wp2_with (first
        | ((with_reducible refine gate_dst (N:=53) rfl ?_);refine Kd.R_lit (Kd.int .i64) (w0:=w0) w0.heap.size 3 ?hg (N:=53) ?hd (xs:=([]:List Int)) (inner:=[]) (ok:=fun k_=>wr.heap.size≤k_) (okp:=fun _=>False) ?hr ?hp (fun _ hk=>hk.elim) (Nat.le_refl _) HB.out HB.out.size (by simp) ?_;(case hd=>rfl);(case hg=>rfl);(case hr=>first|(go_simp;done)|(go_simp;rfl));(case hp=>exact (Reps.none _ _));intro v53 w53 ho hbb hg_ hnew_;have HWr:=yam (below_of_grown hg_);have HV:=yam ho;clear ho hbb hg_ hnew_ hcO hcP0;obtain ⟨A53,c53,e53⟩:=Kd.R_slice HV.out;subst e53)
        | ((with_reducible refine gate_builtin (b:= .append) (xs:= #[.tmp 53,.tmp 54]) rfl ?_);at_builtin;refine Kd.R_append_rows (Kd.int .i64) (w0:=w0) w0.heap.size rfl (.tmp 53) (.tmp 54) 22 3 (.int .i64 0) 8 rfl Try.underlying22 info3 rfl (by decide) (by omega) (.slice A53 ([]:List Int).length c53) [] g (some ad) N c (fun k_=>wr.heap.size≤k_) (fun _=>False) rfl rfl HV.out (HR.out w53 (HA.out.trans (Agr.of_below HWr.out))) (fun _ _ h=>h) (fun _ h=>h.elim) (fun k_ h_=>Nat.le_trans HWr.out.size h_) (below_step HB.out HWr.out) (Nat.le_trans HB.out.size HWr.out.size) (by have:=HN.out;simp only [List.length_nil];omega) ?_;intro v55 w55 ho hbb hg_ hat;simp only [List.nil_append] at ho;have n1_:=yam (below_own HWr.out hg_ (fun k_ e_=>HV.out.1 k_ e_));obtain ⟨gn,c55,e55,gb_,gl_,gx_⟩:=Kd.R_form ho (by have:=HI.out;have:=HL.out;omega);rw [HL.out] at e55;subst e55;have n2_:=yam (Kd.R_mono (Kd.R_tight rfl ho) (fun k_ h_=>by simpa [Value.ownBlock] using h_):Kd.R (Kd.int .i64) 3 w55 w0.heap.size (fun k_=>k_=gn) (.slice (some ⟨gn,0,none⟩) N c55) g);have n3_:=yam (show wr.heap.size≤gn∧gn < w55.heap.size from ⟨ho.1 gn rfl,gl_⟩);clear HV HWr ho hbb hg_ hat gb_ gl_ gx_;have HWr:=n1_;have HV:=n2_;have HGN:=n3_;clear n1_ n2_ n3_;obtain ⟨hxv0,hfv⟩:=Kd.R_celln 0 HV.out i HI.out.1 HI.out.2.1;have hxv:=hxv0.trans (rfl:_=some (Value.int .i64 (rd g i)));have HPO:=yam (Kd.R_putg HV.out i v);clear hxv0)
        | ((with_reducible refine gate_store (t:=3) (p:=59) rfl ?_);refine store_event (t:=3) (p:=59) (v:=?vo1) (w1:=w55.setCell ⟨gn,i.toNat,none⟩ (.int .i64 v)) ?hg ?ho ?hn ?hr ?_;(case ho=>rfl);(case hg=>rfl);(case hn=>rfl);(case hr=>first|(go_simp;done)|(go_simp;rfl));intro w59 hw;have n1_:Aside0 (Below wr.heap.size wr w59):=⟨by rw [hw];exact below_set HWr.out HGN.out.1⟩;have n2_:Aside0 (Kd.R (Kd.int .i64) 3 w59 w0.heap.size (fun k_=>k_=gn) (.slice (some ⟨gn,0,none⟩) N c55) (g.set i.toNat v)):=⟨by rw [hw];exact HPO.out.1⟩;have n3_:Aside0 (wr.heap.size≤gn∧gn < w59.heap.size):=⟨by have:=HGN.out;rw [hw];simpa [World.setCell] using this⟩;clear HWr HV HGN HPO hxv hfv hw;have HWr:=n1_;have HV:=n2_;have HGN:=n3_;clear n1_ n2_ n3_;have hcP0:w59.cell? ⟨gP,0,none⟩=some (.int .i64 s):=(blk_cell (blk_below BP.out HWr.out) 0).trans rfl;have hcP1:w59.cell? ⟨gP,1,none⟩=some (.slice A1 l1.length c1):=(blk_cell (blk_below BP.out HWr.out) 1).trans rfl;have hcP2:w59.cell? ⟨gP,2,none⟩=some (.slice A2 l2.length c2):=(blk_cell (blk_below BP.out HWr.out) 2).trans rfl)
        | (refine goesL_ (some 62) rfl rfl Try.func88 (by kernel_rfl) rfl #[.agg #[.int .i64 s,.slice A1 l1.length c1,.slice A2 l2.length c2],.slice (some ⟨gn,0,none⟩) (g.set i.toNat v).length c55] rfl (by (try simp only [List.map_toArray,List.map_cons,List.map_nil]);rw [List.length_set,HL.out];rfl) ?_;(with_reducible refine (spec_l5Fits.calls k s _ _ l1 _ _ l2 _ _ (g.set i.toNat v) false w59 (HR1.out _ (HA.out.trans (Agr.of_below HWr.out))) HC1.out (HR2.out _ (HA.out.trans (Agr.of_below HWr.out))) HC2.out (Kd.R_reads' HV.out).2.2 (by rw [List.length_set,HL.out];exact (Kd.R_reads' HV.out).2.1) HF.out).mono ?_);rintro e w62 ⟨rfl,hb⟩;refine ⟨_,rfl,?_⟩;replace HV:=yam (Kd.R_below HV.out hb);have HGN_:=HGN.out;clear HGN;have HGN:=yam (show wr.heap.size≤gn∧gn < w62.heap.size from ⟨HGN_.1,Nat.lt_of_lt_of_le HGN_.2 hb.size⟩);replace HWr:=yam (below_step HWr.out hb);clear hb HGN_ hcP0 hcP1 hcP2;have hcP0:w62.cell? ⟨gP,0,none⟩=some (.int .i64 s):=(blk_cell (blk_below BP.out HWr.out) 0).trans rfl;have hcP1:w62.cell? ⟨gP,1,none⟩=some (.slice A1 l1.length c1):=(blk_cell (blk_below BP.out HWr.out) 1).trans rfl;have hcP2:w62.cell? ⟨gP,2,none⟩=some (.slice A2 l2.length c2):=(blk_cell (blk_below BP.out HWr.out) 2).trans rfl))
       go_roundg n
       case measure=>omega
       case rel=>exact ⟨v + 1,o,rfl,⟨by have:=HK2.out;omega⟩,HT,⟨blk_below BP.out HWr.out⟩,⟨HO4.out.below HWr.out⟩,⟨HA.out.trans (Agr.of_below HWr.out)⟩,⟨below_step HB.out HWr.out⟩,⟨Nat.le_trans HSZ.out HWr.out.size⟩⟩
      | true =>
       simp only [if_true] at h
       obtain ⟨o2,hsr,h⟩:=Option.bind_eq_some_iff.1 h
       have HSR:=yam hsr
       have HT:=yam h
       clear h hsr
       go_wp2_with (first
        | ((with_reducible refine gate_dst (N:=53) rfl ?_);refine Kd.R_lit (Kd.int .i64) (w0:=w0) w0.heap.size 3 ?hg (N:=53) ?hd (xs:=([]:List Int)) (inner:=[]) (ok:=fun k_=>wr.heap.size≤k_) (okp:=fun _=>False) ?hr ?hp (fun _ hk=>hk.elim) (Nat.le_refl _) HB.out HB.out.size (by simp) ?_;(case hd=>rfl);(case hg=>rfl);(case hr=>first|(go_simp;done)|(go_simp;rfl));(case hp=>exact (Reps.none _ _));intro v53 w53 ho hbb hg_ hnew_;have HWr:=yam (below_of_grown hg_);have HV:=yam ho;clear ho hbb hg_ hnew_ hcO hcP0;obtain ⟨A53,c53,e53⟩:=Kd.R_slice HV.out;subst e53)
        | ((with_reducible refine gate_builtin (b:= .append) (xs:= #[.tmp 53,.tmp 54]) rfl ?_);at_builtin;refine Kd.R_append_rows (Kd.int .i64) (w0:=w0) w0.heap.size rfl (.tmp 53) (.tmp 54) 22 3 (.int .i64 0) 8 rfl Try.underlying22 info3 rfl (by decide) (by omega) (.slice A53 ([]:List Int).length c53) [] g (some ad) N c (fun k_=>wr.heap.size≤k_) (fun _=>False) rfl rfl HV.out (HR.out w53 (HA.out.trans (Agr.of_below HWr.out))) (fun _ _ h=>h) (fun _ h=>h.elim) (fun k_ h_=>Nat.le_trans HWr.out.size h_) (below_step HB.out HWr.out) (Nat.le_trans HB.out.size HWr.out.size) (by have:=HN.out;simp only [List.length_nil];omega) ?_;intro v55 w55 ho hbb hg_ hat;simp only [List.nil_append] at ho;have n1_:=yam (below_own HWr.out hg_ (fun k_ e_=>HV.out.1 k_ e_));obtain ⟨gn,c55,e55,gb_,gl_,gx_⟩:=Kd.R_form ho (by have:=HI.out;have:=HL.out;omega);rw [HL.out] at e55;subst e55;have n2_:=yam (Kd.R_mono (Kd.R_tight rfl ho) (fun k_ h_=>by simpa [Value.ownBlock] using h_):Kd.R (Kd.int .i64) 3 w55 w0.heap.size (fun k_=>k_=gn) (.slice (some ⟨gn,0,none⟩) N c55) g);have n3_:=yam (show wr.heap.size≤gn∧gn < w55.heap.size from ⟨ho.1 gn rfl,gl_⟩);clear HV HWr ho hbb hg_ hat gb_ gl_ gx_;have HWr:=n1_;have HV:=n2_;have HGN:=n3_;clear n1_ n2_ n3_;obtain ⟨hxv0,hfv⟩:=Kd.R_celln 0 HV.out i HI.out.1 HI.out.2.1;have hxv:=hxv0.trans (rfl:_=some (Value.int .i64 (rd g i)));have HPO:=yam (Kd.R_putg HV.out i v);clear hxv0)
        | ((with_reducible refine gate_store (t:=3) (p:=59) rfl ?_);refine store_event (t:=3) (p:=59) (v:=?vo2) (w1:=w55.setCell ⟨gn,i.toNat,none⟩ (.int .i64 v)) ?hg ?ho ?hn ?hr ?_;(case ho=>rfl);(case hg=>rfl);(case hn=>rfl);(case hr=>first|(go_simp;done)|(go_simp;rfl));intro w59 hw;have n1_:Aside0 (Below wr.heap.size wr w59):=⟨by rw [hw];exact below_set HWr.out HGN.out.1⟩;have n2_:Aside0 (Kd.R (Kd.int .i64) 3 w59 w0.heap.size (fun k_=>k_=gn) (.slice (some ⟨gn,0,none⟩) N c55) (g.set i.toNat v)):=⟨by rw [hw];exact HPO.out.1⟩;have n3_:Aside0 (wr.heap.size≤gn∧gn < w59.heap.size):=⟨by have:=HGN.out;rw [hw];simpa [World.setCell] using this⟩;clear HWr HV HGN HPO hxv hfv hw;have HWr:=n1_;have HV:=n2_;have HGN:=n3_;clear n1_ n2_ n3_;have hcP0:w59.cell? ⟨gP,0,none⟩=some (.int .i64 s):=(blk_cell (blk_below BP.out HWr.out) 0).trans rfl;have hcP1:w59.cell? ⟨gP,1,none⟩=some (.slice A1 l1.length c1):=(blk_cell (blk_below BP.out HWr.out) 1).trans rfl;have hcP2:w59.cell? ⟨gP,2,none⟩=some (.slice A2 l2.length c2):=(blk_cell (blk_below BP.out HWr.out) 2).trans rfl)
        | (refine goesL_ (some 62) rfl rfl Try.func88 (by kernel_rfl) rfl #[.agg #[.int .i64 s,.slice A1 l1.length c1,.slice A2 l2.length c2],.slice (some ⟨gn,0,none⟩) (g.set i.toNat v).length c55] rfl (by (try simp only [List.map_toArray,List.map_cons,List.map_nil]);rw [List.length_set,HL.out];rfl) ?_;(with_reducible refine (spec_l5Fits.calls k s _ _ l1 _ _ l2 _ _ (g.set i.toNat v) true w59 (HR1.out _ (HA.out.trans (Agr.of_below HWr.out))) HC1.out (HR2.out _ (HA.out.trans (Agr.of_below HWr.out))) HC2.out (Kd.R_reads' HV.out).2.2 (by rw [List.length_set,HL.out];exact (Kd.R_reads' HV.out).2.1) HF.out).mono ?_);rintro e w62 ⟨rfl,hb⟩;refine ⟨_,rfl,?_⟩;replace HV:=yam (Kd.R_below HV.out hb);have HGN_:=HGN.out;clear HGN;have HGN:=yam (show wr.heap.size≤gn∧gn < w62.heap.size from ⟨HGN_.1,Nat.lt_of_lt_of_le HGN_.2 hb.size⟩);replace HWr:=yam (below_step HWr.out hb);clear hb HGN_ hcP0 hcP1 hcP2;have hcP0:w62.cell? ⟨gP,0,none⟩=some (.int .i64 s):=(blk_cell (blk_below BP.out HWr.out) 0).trans rfl;have hcP1:w62.cell? ⟨gP,1,none⟩=some (.slice A1 l1.length c1):=(blk_cell (blk_below BP.out HWr.out) 1).trans rfl;have hcP2:w62.cell? ⟨gP,2,none⟩=some (.slice A2 l2.length c2):=(blk_cell (blk_below BP.out HWr.out) 2).trans rfl)
        | (refine goesL_ (some 69) rfl rfl Try.func77 (by kernel_rfl) rfl #[.agg #[.int .i64 s,.slice A1 l1.length c1,.slice A2 l2.length c2],.slice (some ⟨gn,0,none⟩) N c55,.int .i64 (i + 1),.int .i64 most,.pointer (some ⟨p,0,none⟩)] rfl yma ?_;(refine (IH.out q HI.out.2.2.2 (i + 1) (g.set i.toNat v) (some ⟨gn,0,none⟩) c55 o o2 (fun k_=>Pt k_∨k_=gP∨k_=gn) w62 HI.out.2.2.1 (by have:=HI.out;have:=HAD.out;omega) (by rw [List.length_set];exact HL.out) (fun W_ h_=>by have q_:=Kd.R_reads' (Agr.R HV.out h_ (fun k_ e_=> .inr (.inr e_)));have e_:=q_.1;rw [e_];exact q_.2.2) (Kd.R_reads' HV.out).2.1 (fun W_ h_=>HR1.out W_ ((HA.out.trans (Agr.of_below HWr.out)).trans (h_.mono (fun _ _ hp_=> .inl hp_)))) (fun W_ h_=>HR2.out W_ ((HA.out.trans (Agr.of_below HWr.out)).trans (h_.mono (fun _ _ hp_=> .inl hp_)))) (fun k_ hp_=>hp_.elim (fun hp_=>by have h1_:=HPL.out k_ hp_;have h2_:=HA.out.1;have h3_:=HWr.out.size;omega) (fun hp_=>hp_.elim (fun hp_=>by have h1_:=HSZ.out;have h2_:=HWr.out.size;have h3_:=HGP.out;omega) (fun hp_=>by have:=HGN.out;omega))) (fun hp_=>hp_.elim HPP.out (fun hp_=>hp_.elim (fun hp_=>by have:=HGP.out;omega) (fun hp_=>by have h1_:=HGP.out;have h2_:=HGN.out;have h3_:=HA.out.1;omega))) ((HO4.out.mono (Pt':=(fun k_=>Pt k_∨k_=gP∨k_=gn)) (fun k_ hl_ hp_=>hp_.elim .inl (fun hp_=>hp_.elim .inr (fun hp_=>by have:=HGN.out;omega)))).below HWr.out) (below_step HB.out HWr.out) HSR.out).mono ?_);rintro e w69 ⟨rfl,hO2,hA2,hB2⟩;refine ⟨_,rfl,?_⟩;have n1_:=yam (Agr.blk (blk_below BP.out HWr.out) hA2 (.inr (.inl rfl)));have n2_:=yam (hO2.mono (Pt':=(fun k_=>Pt k_∨k_=gP)) (fun _ _ hp_=>hp_.elim .inl (fun hp_=> .inr (.inl hp_))));have n3_:=yam ((HA.out.trans (Agr.of_below HWr.out)).trans (hA2.mono (fun _ _ hp_=> .inl hp_)));have n4_:=yam hB2;have n5_:=yam (Nat.le_trans HSZ.out (Nat.le_trans HWr.out.size hA2.1));clear hO2 hA2 hB2 HWr HV HGN hcP0 hcP1 hcP2))
       go_roundg n
       case measure=>omega
       case rel=>exact ⟨v + 1,o2,rfl,⟨by have:=HK2.out;omega⟩,HT,n1_,n2_,n3_,n4_,n5_⟩
def spec_l5Search.f (k:Nat):Option Unit:=none
theorem spec_l5Search.calls:True:=trivial
def spec_l5All.f (k:Nat)(a0_0:Int)(l0_1:List Int)(l0_2:List S67)(a1:Int):Option (List (List Int)):=(spec_PuzzleFits.f k a0_0 l0_1 l0_2 l0_1).bind fun b=>(if b=true then (if l0_1.length≤100000∧a0_0≤1000 then spec_l5Search.srch k a0_0 l0_1 l0_2 a1 l0_1.length l0_1.length l0_1 [] else none) else some [])
theorem spec_l5All.calls (k:Nat)(a0_0:Int)(A0_1:Option Addr)(c0_1:Nat)(l0_1:List Int)(A0_2:Option Addr)(c0_2:Nat)(l0_2:List S67)(a1:Int)(r:List (List Int))(w:World)(hr0_1:Kd.C (Kd.int .i64) w A0_1 l0_1.length l0_1)(hc0_1:l0_1.length≤c0_1)(hr0_2:Kd.C k67 w A0_2 l0_2.length l0_2)(hc0_2:l0_2.length≤c0_2)(h:spec_l5All.f k a0_0 l0_1 l0_2 a1=some r) :
  Calls Try.prog 47 #[.agg #[.int .i64 a0_0,.slice A0_1 l0_1.length c0_1,.slice A0_2 l0_2.length c0_2],.int .i64 a1] w fun e w'=>∃ v0_:Value,e= .returned (v0_)∧Kd.S (Kd.slice 3 (Kd.int .i64)) 22 w' w.heap.size (fun _=>True) v0_ r∧Below w.heap.size w w':=by
 unfold spec_l5All.f at h
 obtain ⟨b,hF,h⟩:=Option.bind_eq_some_iff.1 h
 have HF:=yam hF
 have HS_:=yam h
 have HR1:=yam hr0_1
 have HC1:=yam hc0_1
 have HR2:=yam hr0_2
 have HC2:=yam hc0_2
 have hu:=Try.underlying30
 clear h hF hr0_1 hc0_1 hr0_2 hc0_2
 go_enter Try.func47,Try.ntmps47
 cases b with
 | false =>
  have HE:=HS_.out
  clear HS_
  simp only [Bool.false_eq_true,if_false] at HE
  obtain rfl:=ysi HE
  clear HE
  go_wp2_with (first
    | (refine ybe 2 #[.int .i64 a0_0,.slice A0_1 l0_1.length c0_1,.slice A0_2 l0_2.length c0_2] 30 ?_;intro gP hg w3 hbox hb;have BgP:=yam hbox;have HW:=yam hb;have HO:=yam (show w.heap.size≤gP∧gP < w3.heap.size from ⟨Nat.le_of_eq hg.symm,blk_lt hbox⟩);clear hg hbox hb)
    | ((with_reducible refine gate_dst (N:=6) rfl ?_);refine Kd.S_lit (Kd.slice 3 (Kd.int .i64)) _ 22 ?hg (N:=6) ?hd (xs:=([]:List (List Int))) (inner:=[]) (ok:=fun k_=>k_=w3.heap.size) (okp:=fun _=>False) ?hr ?hp (fun _ hk=>hk.elim) rfl (Below.refl _ _) (Nat.le_refl _) (by simp) ?_;(case hd=>rfl);(case hg=>rfl);(case hr=>first|(go_simp;done)|(go_simp;rfl));(case hp=>exact (Reps.none _ _));intro v8 w8 ho hb hg_ hnew_;clear hg_;obtain ⟨b_,e_,l_⟩:=hnew_;have l2_:=Kd.S_lt ho b_ e_;have HS:=yam (Kd.S_lower ho HW.out.size);replace BgP:=yam (blk_below BgP.out hb);replace HW:=yam (below_step HW.out hb);have HO_:=HO.out;clear HO;have HO:=yam (show w.heap.size≤gP∧gP < w3.heap.size∧w3.heap.size < w8.heap.size from ⟨HO_.1,HO_.2,by omega⟩);clear HO_ ho hb e_ l_ l2_;obtain ⟨A8,c8,e8⟩:=Kd.S_slice HS.out;subst e8)
    | (refine ybe 5 #[.slice none 0 0] 58 ?_;intro gO hg w9 hbox hb;have BgO:=yam hbox;replace BgP:=yam (blk_below BgP.out hb);replace HW:=yam (below_step HW.out hb);replace HS:=yam (Kd.S_below (Kd.S_bound HS.out) hb);have HO_:=HO.out;clear HO;have HO:=yam (show w.heap.size≤gP∧gP < w3.heap.size∧w3.heap.size < w8.heap.size∧w8.heap.size≤gO∧gO < w9.heap.size from ⟨HO_.1,HO_.2.1,HO_.2.2,Nat.le_of_eq hg.symm,blk_lt hbox⟩);have hz:w9.cell? ⟨gO,0,none⟩=some (.slice none 0 0):=(blk_cell hbox 0).trans rfl;have hzf:=blk_frozen hbox 0;clear HO_ hg hbox hb)
    | ((with_reducible refine gate_store (t:=58) (p:=5) rfl ?_);refine store_event (t:=58) (p:=5) (v:=?vo1) (w1:=w9.setCell ⟨gO,0,none⟩ (.slice A8 ([]:List (List Int)).length c8)) ?hg ?ho ?hn ?hr ?_;(case ho=>rfl);(case hg=>rfl);(case hn=>rfl);(case hr=>first|(go_simp;done)|(go_simp;rfl));intro w10 hw;replace BgP:=yam (far1 hw BgP.out (by have:=HO.out;omega));replace BgO:Aside0 (w10.heap[gO]?=some (.cells #[.slice A8 ([]:List (List Int)).length c8] 58 (0,0))):=⟨by rw [hw];simpa using blk_set BgO.out 0 (.slice A8 ([]:List (List Int)).length c8)⟩;replace HW:Aside0 (Below w.heap.size w w10):=⟨by rw [hw];exact below_set HW.out (by have:=HO.out;omega)⟩;replace HS:Aside0 (Kd.S (Kd.slice 3 (Kd.int .i64)) 22 w10 w.heap.size (fun k_=>k_=w3.heap.size) (.slice A8 ([]:List (List Int)).length c8) []):=⟨by rw [hw];exact Kd.S_mono (Kd.S_far (p:=⟨gO,0,none⟩) HS.out (fun k_ h_ e_=>by have:=h_.2.2.1;have:=HO.out;simp only at e_;omega) _) (fun _ h_=>h_.1)⟩;have HO2:=yam (show w3.heap.size < gO from by have h1_:=HO.out;omega);replace HO:Aside0 (w.heap.size≤gP∧gP < w3.heap.size∧w3.heap.size≤gO∧gO < w10.heap.size):=⟨by have:=HO.out;rw [hw];simp only [World.setCell];(try simp);omega⟩;clear hz hzf hw;have hp0:w10.cell? ⟨gP,0,none⟩=some (.int .i64 a0_0):=(blk_cell BgP.out 0).trans rfl;have hp1:w10.cell? ⟨gP,1,none⟩=some (.slice A0_1 l0_1.length c0_1):=(blk_cell BgP.out 1).trans rfl;have hp2:w10.cell? ⟨gP,2,none⟩=some (.slice A0_2 l0_2.length c0_2):=(blk_cell BgP.out 2).trans rfl)
    | (refine goesL_ (some 10) rfl rfl Try.func76 (by kernel_rfl) rfl #[.agg #[.int .i64 a0_0,.slice A0_1 l0_1.length c0_1,.slice A0_2 l0_2.length c0_2],.slice A0_1 l0_1.length c0_1] rfl yma ?_;(with_reducible refine (spec_PuzzleFits.calls k a0_0 _ _ l0_1 _ _ l0_2 _ _ l0_1 false w10 (Kd.C_below HR1.out HW.out) HC1.out (Kd.C_below HR2.out HW.out) HC2.out (Kd.C_below HR1.out HW.out) HC1.out HF.out).mono ?_);rintro e w11 ⟨rfl,hb⟩;refine ⟨_,rfl,?_⟩;replace BgP:=yam (blk_below BgP.out hb);replace BgO:=yam (blk_below BgO.out hb);replace HW:=yam (below_step HW.out hb);replace HS:=yam (Kd.S_below (Kd.S_bound HS.out) hb);replace HO:=yam (show w.heap.size≤gP∧gP < w3.heap.size∧w3.heap.size≤gO∧gO < w11.heap.size from ⟨HO.out.1,HO.out.2.1,HO.out.2.2.1,Nat.lt_of_lt_of_le HO.out.2.2.2 hb.size⟩);clear hp0 hp1 hp2 hb;have hp0:w11.cell? ⟨gP,0,none⟩=some (.int .i64 a0_0):=(blk_cell BgP.out 0).trans rfl;have hp1:w11.cell? ⟨gP,1,none⟩=some (.slice A0_1 l0_1.length c0_1):=(blk_cell BgP.out 1).trans rfl;have hp2:w11.cell? ⟨gP,2,none⟩=some (.slice A0_2 l0_2.length c0_2):=(blk_cell BgP.out 2).trans rfl;have hcO:w11.cell? ⟨gO,0,none⟩=some (.slice A8 ([]:List (List Int)).length c8):=(blk_cell BgO.out 0).trans rfl))
  go_ret
  exact ⟨_,rfl,Kd.S_mono HS.out (fun _ _=>trivial),HW.out⟩
 | true =>
  have HE:=HS_.out
  clear HS_
  simp only [if_true] at HE
  by_cases hg:l0_1.length≤100000∧a0_0≤1000
  rotate_left
  ·rw [if_neg hg] at HE
   cases HE
  rw [if_pos hg] at HE
  have HG:=yam hg
  have HS_:=yam HE
  clear hg
  clear HE
  go_wp2_with (first
    | (refine ybe 2 #[.int .i64 a0_0,.slice A0_1 l0_1.length c0_1,.slice A0_2 l0_2.length c0_2] 30 ?_;intro gP hg w3 hbox hb;have BgP:=yam hbox;have HW:=yam hb;have HO:=yam (show w.heap.size≤gP∧gP < w3.heap.size from ⟨Nat.le_of_eq hg.symm,blk_lt hbox⟩);clear hg hbox hb)
    | ((with_reducible refine gate_dst (N:=6) rfl ?_);refine Kd.S_lit (Kd.slice 3 (Kd.int .i64)) _ 22 ?hg (N:=6) ?hd (xs:=([]:List (List Int))) (inner:=[]) (ok:=fun k_=>k_=w3.heap.size) (okp:=fun _=>False) ?hr ?hp (fun _ hk=>hk.elim) rfl (Below.refl _ _) (Nat.le_refl _) (by simp) ?_;(case hd=>rfl);(case hg=>rfl);(case hr=>first|(go_simp;done)|(go_simp;rfl));(case hp=>exact (Reps.none _ _));intro v8 w8 ho hb hg_ hnew_;clear hg_;obtain ⟨b_,e_,l_⟩:=hnew_;have l2_:=Kd.S_lt ho b_ e_;have HS:=yam (Kd.S_lower ho HW.out.size);replace BgP:=yam (blk_below BgP.out hb);replace HW:=yam (below_step HW.out hb);have HO_:=HO.out;clear HO;have HO:=yam (show w.heap.size≤gP∧gP < w3.heap.size∧w3.heap.size < w8.heap.size from ⟨HO_.1,HO_.2,by omega⟩);clear HO_ ho hb e_ l_ l2_;obtain ⟨A8,c8,e8⟩:=Kd.S_slice HS.out;subst e8)
    | (refine ybe 5 #[.slice none 0 0] 58 ?_;intro gO hg w9 hbox hb;have BgO:=yam hbox;replace BgP:=yam (blk_below BgP.out hb);replace HW:=yam (below_step HW.out hb);replace HS:=yam (Kd.S_below (Kd.S_bound HS.out) hb);have HO_:=HO.out;clear HO;have HO:=yam (show w.heap.size≤gP∧gP < w3.heap.size∧w3.heap.size < w8.heap.size∧w8.heap.size≤gO∧gO < w9.heap.size from ⟨HO_.1,HO_.2.1,HO_.2.2,Nat.le_of_eq hg.symm,blk_lt hbox⟩);have hz:w9.cell? ⟨gO,0,none⟩=some (.slice none 0 0):=(blk_cell hbox 0).trans rfl;have hzf:=blk_frozen hbox 0;clear HO_ hg hbox hb)
    | ((with_reducible refine gate_store (t:=58) (p:=5) rfl ?_);refine store_event (t:=58) (p:=5) (v:=?vo2) (w1:=w9.setCell ⟨gO,0,none⟩ (.slice A8 ([]:List (List Int)).length c8)) ?hg ?ho ?hn ?hr ?_;(case ho=>rfl);(case hg=>rfl);(case hn=>rfl);(case hr=>first|(go_simp;done)|(go_simp;rfl));intro w10 hw;replace BgP:=yam (far1 hw BgP.out (by have:=HO.out;omega));replace BgO:Aside0 (w10.heap[gO]?=some (.cells #[.slice A8 ([]:List (List Int)).length c8] 58 (0,0))):=⟨by rw [hw];simpa using blk_set BgO.out 0 (.slice A8 ([]:List (List Int)).length c8)⟩;replace HW:Aside0 (Below w.heap.size w w10):=⟨by rw [hw];exact below_set HW.out (by have:=HO.out;omega)⟩;replace HS:Aside0 (Kd.S (Kd.slice 3 (Kd.int .i64)) 22 w10 w.heap.size (fun k_=>k_=w3.heap.size) (.slice A8 ([]:List (List Int)).length c8) []):=⟨by rw [hw];exact Kd.S_mono (Kd.S_far (p:=⟨gO,0,none⟩) HS.out (fun k_ h_ e_=>by have:=h_.2.2.1;have:=HO.out;simp only at e_;omega) _) (fun _ h_=>h_.1)⟩;have HO2:=yam (show w3.heap.size < gO from by have h1_:=HO.out;omega);replace HO:Aside0 (w.heap.size≤gP∧gP < w3.heap.size∧w3.heap.size≤gO∧gO < w10.heap.size):=⟨by have:=HO.out;rw [hw];simp only [World.setCell];(try simp);omega⟩;clear hz hzf hw;have hp0:w10.cell? ⟨gP,0,none⟩=some (.int .i64 a0_0):=(blk_cell BgP.out 0).trans rfl;have hp1:w10.cell? ⟨gP,1,none⟩=some (.slice A0_1 l0_1.length c0_1):=(blk_cell BgP.out 1).trans rfl;have hp2:w10.cell? ⟨gP,2,none⟩=some (.slice A0_2 l0_2.length c0_2):=(blk_cell BgP.out 2).trans rfl)
    | (refine goesL_ (some 10) rfl rfl Try.func76 (by kernel_rfl) rfl #[.agg #[.int .i64 a0_0,.slice A0_1 l0_1.length c0_1,.slice A0_2 l0_2.length c0_2],.slice A0_1 l0_1.length c0_1] rfl yma ?_;(with_reducible refine (spec_PuzzleFits.calls k a0_0 _ _ l0_1 _ _ l0_2 _ _ l0_1 true w10 (Kd.C_below HR1.out HW.out) HC1.out (Kd.C_below HR2.out HW.out) HC2.out (Kd.C_below HR1.out HW.out) HC1.out HF.out).mono ?_);rintro e w11 ⟨rfl,hb⟩;refine ⟨_,rfl,?_⟩;replace BgP:=yam (blk_below BgP.out hb);replace BgO:=yam (blk_below BgO.out hb);replace HW:=yam (below_step HW.out hb);replace HS:=yam (Kd.S_below (Kd.S_bound HS.out) hb);replace HO:=yam (show w.heap.size≤gP∧gP < w3.heap.size∧w3.heap.size≤gO∧gO < w11.heap.size from ⟨HO.out.1,HO.out.2.1,HO.out.2.2.1,Nat.lt_of_lt_of_le HO.out.2.2.2 hb.size⟩);clear hp0 hp1 hp2 hb;have hp0:w11.cell? ⟨gP,0,none⟩=some (.int .i64 a0_0):=(blk_cell BgP.out 0).trans rfl;have hp1:w11.cell? ⟨gP,1,none⟩=some (.slice A0_1 l0_1.length c0_1):=(blk_cell BgP.out 1).trans rfl;have hp2:w11.cell? ⟨gP,2,none⟩=some (.slice A0_2 l0_2.length c0_2):=(blk_cell BgP.out 2).trans rfl;have hcO:w11.cell? ⟨gO,0,none⟩=some (.slice A8 ([]:List (List Int)).length c8):=(blk_cell BgO.out 0).trans rfl)
    | (refine goesL_ (some 15) rfl rfl Try.func77 (by kernel_rfl) rfl #[.agg #[.int .i64 a0_0,.slice A0_1 l0_1.length c0_1,.slice A0_2 l0_2.length c0_2],.slice A0_1 l0_1.length c0_1,.int .i64 0,.int .i64 a1,.pointer (some ⟨gO,0,none⟩)] rfl yma ?_;(refine (spec_l5Search.clo k a0_0 A0_1 c0_1 l0_1 A0_2 c0_2 l0_2 a1 l0_1.length gO w HG.out.1 HG.out.2 (by have:=HO.out;omega) HC1.out HC2.out l0_1.length 0 l0_1 A0_1 c0_1 [] r (fun k_=>k_ < w11.heap.size∧k_≠gO∧k_≠w3.heap.size) w11 (by omega) (Nat.le_refl _) rfl (fun W_ h_=>(Kd.heap_int .i64).C (fun k_ hl_=>(h_.2 k_ (Nat.lt_of_lt_of_le hl_ HW.out.size) ⟨Nat.lt_of_lt_of_le hl_ HW.out.size,by have:=HO.out;omega,by have:=HO.out;omega⟩).trans (HW.out.block k_ hl_)) HR1.out) HC1.out (fun W_ h_=>(Kd.heap_int .i64).C (fun k_ hl_=>(h_.2 k_ (Nat.lt_of_lt_of_le hl_ HW.out.size) ⟨Nat.lt_of_lt_of_le hl_ HW.out.size,by have:=HO.out;omega,by have:=HO.out;omega⟩).trans (HW.out.block k_ hl_)) HR1.out) (fun W_ h_=>(Kd.heap_iso _ (Kd.heap_pair (Kd.heap_int _) (Kd.heap_pair (Kd.heap_slice _ (Kd.heap_int _)) (Kd.heap_int _)))).C (fun k_ hl_=>(h_.2 k_ (Nat.lt_of_lt_of_le hl_ HW.out.size) ⟨Nat.lt_of_lt_of_le hl_ HW.out.size,by have:=HO.out;omega,by have:=HO.out;omega⟩).trans (HW.out.block k_ hl_)) HR2.out) (fun _ h_=>h_.1) (fun h_=>h_.2.1 rfl) ⟨_,BgO.out,Kd.S_mono HS.out (fun k_ h_=>⟨fun hp_=>hp_.2.2 h_.1,by have:=HO2.out;have:=h_.1;omega⟩)⟩ HW.out HS_.out).mono ?_);rintro e w12 ⟨rfl,⟨v_,hO_,hS_⟩,hA,hB⟩;refine ⟨_,rfl,?_⟩;have HSS:=yam hS_;have HBB:=yam hB;obtain ⟨Ar,cr,er⟩:=Kd.S_slice HSS.out;subst er;have hcO2:w12.cell? ⟨gO,0,none⟩=some (.slice Ar r.length cr):=(blk_cell hO_ 0).trans rfl;clear hO_ hS_ hA hB hp0 hp1 hp2 hcO))
  go_ret
  exact ⟨_,rfl,Kd.S_mono HSS.out (fun _ _=>trivial),HBB.out⟩
def spec_GridFilled.l0:Nat→List Int→Int→Int→Option (Int)
 | 0,_,_,_=>none
 | k + 1,x0,x5,x6=>if x6 < (x0.length:Int) then (if 0≤x6 then (if (rd x0 x6) > 0 then (spec_GridFilled.l0 k x0 (wrap64 (x5 + 1)) (wrap64 (x6 + 1))) else (spec_GridFilled.l0 k x0 x5 (wrap64 (x6 + 1)))) else (none)) else (some x5)
def spec_GridFilled.f (k:Nat)(l0:List Int)(a1:Int):Option (Int):=(spec_GridValid.f k l0 a1).bind fun t645=>(if t645=true then (spec_GridFilled.l0 k l0 0 0) else (some (-1)))
theorem spec_GridFilled.calls (k:Nat)(A0:Option Addr)(c0:Nat)(l0:List Int)(a1:Int)(r:Int)(w:World)(hr0:Kd.C (Kd.int .i64) w A0 l0.length l0)(hc0:l0.length≤c0)(h:spec_GridFilled.f k l0 a1=some r) :
  Calls Try.prog 48 #[.slice A0 l0.length c0,.int .i64 a1] w fun e w'=>e= .returned (.int .i64 r)∧Drawn0 w w':=by
 have HR0:=yam hr0
 have HC0:=yam hc0
 clear hr0 hc0
 unfold spec_GridFilled.f at h
 have H:=h
 clear h
 replace H:=ybi H;obtain ⟨t645,A3,H⟩:=H
 try dsimp only at H
 cases t645
 ·replace H:=yff H
  obtain rfl:=ysi H
  go_enter Try.func48,Try.ntmps48
  go_wp2_with (first|(refine goesL_ (some 9) rfl rfl Try.func67 (by kernel_rfl) rfl #[.slice A0 l0.length c0,.int .i64 a1] rfl ymd ?_;(with_reducible refine (spec_GridValid.calls k _ _ l0 a1 false _ ?_ ?_ A3.out).mono ?_);exact Kd.Cz (HR0.out);exact HC0.out;rintro e w' ⟨rfl,⟨nd,rfl⟩⟩;refine ⟨_,rfl,?_⟩))
  go_ret
  exact ⟨yeq,by repeat (first|exact Drawn0.refl _|apply Drawn0.step)⟩
 replace H:=ytt H
 replace H:=yam H
 go_enter Try.func48,Try.ntmps48
 go_wp2_with (first|(refine goesL_ (some 9) rfl rfl Try.func67 (by kernel_rfl) rfl #[.slice A0 l0.length c0,.int .i64 a1] rfl ymd ?_;(with_reducible refine (spec_GridValid.calls k _ _ l0 a1 true _ ?_ ?_ A3.out).mono ?_);exact Kd.Cz (HR0.out);exact HC0.out;rintro e w' ⟨rfl,⟨nd,rfl⟩⟩;refine ⟨_,rfl,?_⟩))
 go_loopg [5,6] k (fun kq v5 v6 w'=>∃ (x5_1:Int) (x6_1:Int),v5= .int .i64 x5_1∧v6= .int .i64 x6_1∧Aside0 (spec_GridFilled.l0 kq l0 x5_1 x6_1=some r)∧Aside0 (kq≤k)∧Drawn0 w w')
 case atStart=>exact ⟨(0),(0),yeq,yeq,H,⟨Nat.le_refl _⟩,by repeat (first|exact Drawn0.refl _|apply Drawn0.step)⟩
 case round =>
  clear H
  obtain ⟨x5_1,x6_1,rfl,rfl,HA,HK1,⟨m1,rfl⟩⟩:=hrel
  rcases gk with _|k1
  ·exact absurd HA.out (by simp [spec_GridFilled.l0])
  obtain ⟨H⟩:=HA
  simp only [spec_GridFilled.l0] at H
  replace H:=yis H;obtain ⟨c5b0,H⟩ | ⟨c5b0,H⟩:=H
  rotate_left
  ·obtain rfl:=ysi H
   go_wp2
   go_ret
   exact ⟨yeq,by repeat (first|exact Drawn0.refl _|apply Drawn0.step)⟩
  replace H:=yif H;obtain ⟨c6b0,H⟩:=H
  replace H:=yis H;obtain ⟨c7b0,H⟩ | ⟨c7b0,H⟩:=H
  rotate_left
  ·replace H:=yam H
   obtain ⟨ad646,e646,hx646_0,p646,q646⟩:=yat HR0.out x6_1
   cases e646
   go_wp2
   go_roundg k1
   case measure=>have:=HK1.out;omega
   case rel=>exact ⟨(x5_1),(wrap64 (x6_1 + 1)),yeq,yeq,H,⟨by have:=HK1.out;omega⟩,by repeat (first|exact Drawn0.refl _|apply Drawn0.step)⟩
  replace H:=yam H
  obtain ⟨ad646,e646,hx646_0,p646,q646⟩:=yat HR0.out x6_1
  cases e646
  go_wp2
  go_roundg k1
  case measure=>have:=HK1.out;omega
  case rel=>exact ⟨(wrap64 (x5_1 + 1)),(wrap64 (x6_1 + 1)),yeq,yeq,H,⟨by have:=HK1.out;omega⟩,by repeat (first|exact Drawn0.refl _|apply Drawn0.step)⟩
mutual
def spec_MasksGrid.l0:Nat→List Int→Int→List Int→Int→Option (List Int)
 | 0,_,_,_,_=>none
 | k + 1,x0,x1,x5,x6=>if x6 < (x0.length:Int) then ((spec_MasksValid.f k x0 x1).bind fun t650=>(spec_MasksGrid.j1 k x0 x1 x5 x6 t650)) else (spec_MasksGrid.j1 k x0 x1 x5 x6 false)
def spec_MasksGrid.j1:Nat→List Int→Int→List Int→Int→Bool→Option (List Int)
 | 0,_,_,_,_,_=>none
 | k + 1,x0,x1,x5,x6,x18=>if x18=true then (if 0≤x6 then (if x6 < (x0.length:Int) then ((spec_MaskValues.f k (rd x0 x6)).bind fun t652=>(if (t652.length:Int)=1 then (if 0 < (t652.length:Int) then (if x5.length < 17592186044416 then (spec_MasksGrid.l0 k x0 x1 (x5 ++ [rd t652 0]) (wrap64 (x6 + 1))) else (none)) else (none)) else (if x5.length < 17592186044416 then (spec_MasksGrid.l0 k x0 x1 (x5 ++ [0]) (wrap64 (x6 + 1))) else (none)))) else (none)) else (none)) else (some x5)
end
def spec_MasksGrid.f (k:Nat)(l0:List Int)(a1:Int):Option (List Int):=spec_MasksGrid.l0 k l0 a1 (([]:List Int)) 0
theorem spec_MasksGrid.calls (k:Nat)(A0:Option Addr)(c0:Nat)(l0:List Int)(a1:Int)(r:List Int)(w:World)(hr0:Kd.C (Kd.int .i64) w A0 l0.length l0)(hc0:l0.length≤c0)(h:spec_MasksGrid.f k l0 a1=some r) :
  Calls Try.prog 49 #[.slice A0 l0.length c0,.int .i64 a1] w fun e w'=>∃ v0_:Value,e= .returned (v0_)∧Kd.R (Kd.int .i64) 3 w' w.heap.size (fun _=>True) v0_ r∧Below w.heap.size w w':=by
 have HR0:=yam hr0
 have HC0:=yam hc0
 clear hr0 hc0
 have HB:=yam (Below.refl w.heap.size w)
 unfold spec_MasksGrid.f at h
 have H:=h
 clear h
 obtain ⟨y647,Ny647⟩:∃ y_:List Int,Aside0 (y_=(([]:List Int))):=⟨_,⟨rfl⟩⟩
 replace H:(spec_MasksGrid.l0 k l0 a1 y647 0)=some r:=yhn Ny647.out H
 replace H:=yam H
 go_enter Try.func49,Try.ntmps49
 go_wp2_with (first|((with_reducible refine gate_dst (N:=9) rfl ?_);refine Kd.R_lit (Kd.int .i64) _ 3 ?hg (N:=9) ?hd (xs:=([]:List Int)) (inner:=[]) (ok:=fun _=>True) (okp:=fun _=>True) ?hr ?hp (fun _ hk=>hk) trivial (Below.refl _ _) (Nat.le_refl _) (by simp) ?_;(case hd=>rfl);(case hg=>rfl);(case hr=>first|(go_simp;done)|(go_simp;rfl));(case hp=>exact (Reps.none _ _));intro v648 w3 ho4 hb hg_ hnew_;clear hg_ hnew_;(first|rw [← Ny647.out] at ho4|(simp only [Int.reduceToNat] at ho4;rw [← Ny647.out] at ho4));have HO649:=yam (Kd.R_lower ho4 (below_size (yez HB.out)));replace HB:=yam (below_step (yez HB.out) hb);clear hb ho4))
 go_loopg [5,6] k (fun kq v5 v6 w'=>∃ (x5_1:List Int) (x6_1:Int),v6= .int .i64 x6_1∧Aside0 (spec_MasksGrid.l0 kq l0 a1 x5_1 x6_1=some r)∧Aside0 (kq≤k)∧Aside0 (Kd.R (Kd.int .i64) 3 w' w.heap.size (fun _=>True) v5 x5_1)∧Aside0 (Below w.heap.size w w'))
 case atStart=>exact ⟨(y647),(0),yeq,H,⟨Nat.le_refl _⟩,⟨yka HO649.out⟩,⟨yhb⟩⟩
 case round =>
  clear H
  obtain ⟨x5_1,x6_1,rfl,HA,HK1,HO_5,HB⟩:=hrel
  rcases gk with _|k1
  ·exact absurd HA.out (by simp [spec_MasksGrid.l0])
  obtain ⟨H⟩:=HA
  simp only [spec_MasksGrid.l0] at H
  have HC5:=yam H
  clear H
  go_upto_region 3 with (fail)
  go_cut [18] (fun v18 wc=>∃ (kq:Nat) (x18_4:Bool),v18= .bool x18_4∧Aside0 (spec_MasksGrid.j1 kq l0 a1 x5_1 x6_1 x18_4=some r)∧Aside0 (kq≤k1)∧Aside0 (Kd.R (Kd.int .i64) 3 wc w.heap.size (fun _=>True) u5 x5_1)∧Aside0 (Below w.heap.size w wc))
  case first =>
   have H:=HC5.out
   clear HC5
   replace H:=yis H;obtain ⟨c6b0,H⟩ | ⟨c6b0,H⟩:=H
   rotate_left
   ·(first|rw [c6b0]|(simp only [i64_w,i32_w];rw [c6b0])|skip)
    replace H:=yam H
    go_wp2
    go_meet
    case rel=>exact ⟨_,(false),yeq,H,⟨by have:=HK1.out;first|omega|exact Nat.le_refl _⟩,⟨yka HO_5.out⟩,⟨yhb⟩⟩
   (first|rw [c6b0]|(simp only [i64_w,i32_w];rw [c6b0])|skip)
   replace H:=ybi H;obtain ⟨t650,A7,H⟩:=H
   try dsimp only at H
   replace H:=yam H
   go_wp2_with (first|(go_at_call 53;(with_reducible refine (spec_MasksValid.calls k1 _ _ l0 a1 t650 _ ?_ ?_ A7.out).mono ?_);exact Kd.Cz ((Kd.C_below HR0.out HB.out));exact HC0.out;rintro e w' ⟨rfl,⟨nd,rfl⟩⟩))
   go_meet
   case rel=>exact ⟨_,(t650),yeq,H,⟨by have:=HK1.out;first|omega|exact Nat.le_refl _⟩,⟨yka HO_5.out⟩,⟨yhb⟩⟩
  case rest =>
   clear HC5
   obtain ⟨kq,x18_4,rfl,HA,HJ4,HO_5,HB⟩:=hcut
   rcases kq with _|kj4
   ·exact absurd HA.out (by simp [spec_MasksGrid.j1])
   obtain ⟨H⟩:=HA
   simp only [spec_MasksGrid.j1] at H
   cases x18_4
   ·replace H:=yff H
    obtain rfl:=ysi H
    go_wp2
    go_ret
    exact ⟨_,yer,yka HO_5.out,yhb⟩
   replace H:=ytt H
   replace H:=yif H;obtain ⟨c9b0,H⟩:=H
   replace H:=yif H;obtain ⟨c10b0,H⟩:=H
   replace H:=ybi H;obtain ⟨t652,A11,H⟩:=H
   try dsimp only at H
   replace H:=yit H;obtain ⟨c12,H⟩ | ⟨c12,H⟩:=H
   rotate_left
   ·have c12b0:((t652.length:Int) == 1)=false:=beq_eq_false_iff_ne.mpr c12
    have c12b1:((t652.length:Int) != 1)=true:=bne_iff_ne.mpr c12
    replace H:=yig H;obtain ⟨c18,H⟩:=H
    have LMc18:=yam c18
    clear c18
    obtain ⟨y659,Ny659⟩:∃ y_:List Int,Aside0 (y_=(x5_1 ++ [0])):=⟨_,⟨rfl⟩⟩
    replace H:(spec_MasksGrid.l0 kj4 l0 a1 y659 (wrap64 (x6_1 + 1)))=some r:=yhn Ny659.out H
    replace H:=yam H
    obtain ⟨ad651,e651,hx651_0,p651,q651⟩:=yat HR0.out x6_1
    cases e651
    replace hx651_0:=ybx HB.out hx651_0
    go_wp2_with (first|(refine goesL_ (some 25) rfl rfl Try.func72 (by kernel_rfl) rfl #[.int .i64 (rd l0 x6_1)] rfl ymd ?_;(with_reducible refine (spec_MaskValues.calls kj4 (rd l0 x6_1) t652 _ A11.out).mono ?_);rintro e w19 ⟨v653,rfl,ho0,hb⟩;refine ⟨_,rfl,?_⟩;have HO654:=yam (Kd.R_lower (Kd.Yw ho0 (Kd.R_lt (Kd.Yz HO_5.out))) (below_size (yez HB.out)));replace HO_5:=yam (Kd.Ye (Kd.Yz HO_5.out) (Kd.Yb ho0) hb);replace HB:=yam (below_step (yez HB.out) hb);(try clear hb);(try clear ho0);obtain ⟨Ao20,co20,eo20⟩:=Kd.R_slice HO654.out;subst eo20)|((with_reducible refine gate_builtin (b:= .append) (xs:= #[.tmp 32,.tmp 34]) rfl ?_);at_builtin;refine Kd.R_append (Kd.int .i64) (w0:=w) w.heap.size rfl (.tmp 32) (.tmp 34) 22 3 (.int .i64 0) 8 rfl Try.underlying22 info3 rfl (by decide) (by omega) u5 x5_1 0 [.int .i64 0] (fun k_=>some k_≠(.slice Ao20 t652.length co20:Value).ownBlock) (fun _=>False) rfl rfl ?aP (fun _ hk=>hk.elim) ?aF ?aO ?aB ?aS ?aL ?_;(case aP=>exact rfl);(case aB=>exact (yez HB.out));(case aF=>exact (fun k_ hk=>Kd.fresh' (Kd.R_lt (Kd.Yz HO654.out)) k_ hk));(case aO=>exact (by (with_reducible repeat (first|apply Kd.Ya|apply Kd.Yn|apply Kd.Yd));exact Kd.R_mono HO_5.out (fun _ hk=>hk.2)));(case aS=>exact (below_size (yez HB.out)));(case aL=>have:=LMc18.out;omega);intro v660 w21 ho hb hg hat;rw [← Ny659.out] at ho;replace HO654:=yam (Kd.R_after (ok:=(fun _=>True)) (Kd.Yz HO654.out) hg hat);replace HB:=yam (hb);have HO661:=yam (ho);clear HO_5;clear ho hb hg hat))
    go_roundg kj4
    case measure=>have:=HK1.out;have:=HJ4.out;omega
    case rel=>exact ⟨(y659),(wrap64 (x6_1 + 1)),yeq,H,⟨by have:=HK1.out;have:=HJ4.out;omega⟩,⟨by (with_reducible repeat (first|apply Kd.Ya|apply Kd.Yn|apply Kd.Yd));exact Kd.R_mono HO661.out (fun _ hk=>trivial)⟩,⟨yhb⟩⟩
   have c12b0:((t652.length:Int) == 1)=true:=beq_iff_eq.mpr c12
   have c12b1:((t652.length:Int) != 1)=false:=bne_eq_false_iff_eq.mpr c12
   clear c12
   replace H:=yig H;obtain ⟨c13,H⟩:=H
   have c13b0:decide (0 < (t652.length:Int))=true:=decide_eq_true c13
   have c13b1:decide (0 < t652.length)=true:=decide_eq_true (by omega)
   clear c13
   replace H:=yig H;obtain ⟨c14,H⟩:=H
   have LMc14:=yam c14
   clear c14
   obtain ⟨y656,Ny656⟩:∃ y_:List Int,Aside0 (y_=(x5_1 ++ [rd t652 0])):=⟨_,⟨rfl⟩⟩
   replace H:(spec_MasksGrid.l0 kj4 l0 a1 y656 (wrap64 (x6_1 + 1)))=some r:=yhn Ny656.out H
   replace H:=yam H
   obtain ⟨ad651,e651,hx651_0,p651,q651⟩:=yat HR0.out x6_1
   cases e651
   replace hx651_0:=ybx HB.out hx651_0
   go_wp2_with (first|(refine goesL_ (some 25) rfl rfl Try.func72 (by kernel_rfl) rfl #[.int .i64 (rd l0 x6_1)] rfl ymd ?_;(with_reducible refine (spec_MaskValues.calls kj4 (rd l0 x6_1) t652 _ A11.out).mono ?_);rintro e w15 ⟨v653,rfl,ho0,hb⟩;refine ⟨_,rfl,?_⟩;have HO654:=yam (Kd.R_lower (Kd.Yw ho0 (Kd.R_lt (Kd.Yz HO_5.out))) (below_size (yez HB.out)));replace HO_5:=yam (Kd.Ye (Kd.Yz HO_5.out) (Kd.Yb ho0) hb);replace HB:=yam (below_step (yez HB.out) hb);(try clear hb);(try clear ho0);obtain ⟨Ao16,co16,eo16⟩:=Kd.R_slice HO654.out;subst eo16;have p655:0≤(0:Int):=(by omega);have q655:0 < (t652.length:Int):=ydt;obtain ⟨ad655,e655,hx655_0⟩:=Kd.at_int (Kd.Yr HO654.out).2.2 0 p655 q655;cases e655;have qi655:(0 < t652.length)=True:=eq_true (by omega);(try rw [show ((0:Int)).toNat=0 from rfl] at hx655_0);(try rw [Addr.add_zero'] at hx655_0);replace p655:=eq_true p655;replace q655:=eq_true q655)|((with_reducible refine gate_builtin (b:= .append) (xs:= #[.tmp 32,.tmp 34]) rfl ?_);at_builtin;refine Kd.R_append (Kd.int .i64) (w0:=w) w.heap.size rfl (.tmp 32) (.tmp 34) 22 3 (.int .i64 0) 8 rfl Try.underlying22 info3 rfl (by decide) (by omega) u5 x5_1 (rd t652 0) [.int .i64 (rd t652 0)] (fun k_=>some k_≠(.slice (some ad655) t652.length co16:Value).ownBlock) (fun _=>False) rfl rfl ?aP (fun _ hk=>hk.elim) ?aF ?aO ?aB ?aS ?aL ?_;(case aP=>exact rfl);(case aB=>exact (yez HB.out));(case aF=>exact (fun k_ hk=>Kd.fresh' (Kd.R_lt (Kd.Yz HO654.out)) k_ hk));(case aO=>exact (by (with_reducible repeat (first|apply Kd.Ya|apply Kd.Yn|apply Kd.Yd));exact Kd.R_mono HO_5.out (fun _ hk=>hk.2)));(case aS=>exact (below_size (yez HB.out)));(case aL=>have:=LMc14.out;omega);intro v657 w17 ho hb hg hat;rw [← Ny656.out] at ho;replace HO654:=yam (Kd.R_after (ok:=(fun _=>True)) (Kd.Yz HO654.out) hg hat);replace HB:=yam (hb);have HO658:=yam (ho);clear HO_5;clear ho hb hg hat))
   go_roundg kj4
   case measure=>have:=HK1.out;have:=HJ4.out;omega
   case rel=>exact ⟨(y656),(wrap64 (x6_1 + 1)),yeq,H,⟨by have:=HK1.out;have:=HJ4.out;omega⟩,⟨by (with_reducible repeat (first|apply Kd.Ya|apply Kd.Yn|apply Kd.Yd));exact Kd.R_mono HO658.out (fun _ hk=>trivial)⟩,⟨yhb⟩⟩
def spec_GradePuzzle.l0:Nat→Int→Int→List Int→List (S67)→Option (Int)
 | 0,_,_,_,_=>none
 | k + 1,x3,x663000,x663001,x663002=>if x3≤4 then ((spec_StartMasks.f k x663000 x663001 x663002).bind fun t667=>((spec_NarrowAll.f k x663000 x663001 x663002 t667 x3).bind fun bt670=>((spec_MasksGrid.f k bt670.1 x663000).bind fun t674=>((spec_GridFilled.f k t674 x663000).bind fun t677=>(if t677=(bt670.1.length:Int) then (some x3) else (spec_GradePuzzle.l0 k (wrap64 (x3 + 1)) x663000 x663001 x663002)))))) else (some 5)
def spec_GradePuzzle.f (k:Nat)(a0_0:Int)(l0_1:List Int)(l0_2:List (S67)):Option (Int):=(spec_PuzzleValid.f k a0_0 l0_1 l0_2).bind fun t663=>(if t663=true then ((spec_l5All.f k a0_0 l0_1 l0_2 2).bind fun t664=>(if (t664.length:Int)=1 then (spec_GradePuzzle.l0 k 1 a0_0 l0_1 l0_2) else (some 0))) else (some (-1)))
def spec_GradePuzzle.T8:Bool × List (List Nat × List Nat):=(true,[([],[]),([],[]),([1],[1]),([],[]),([0,2,3,2],[0,2,3]),([4],[4]),([5],[5]),([5],[5]),([6,4,0,1,2,3,4,5,6],[6]),([7,8,0,1,2,3,4,5,6,7,8],[7])])
def spec_GradePuzzle.B8:List Nat:=[0,0,2,0,15,31,63,63,127,511]
theorem spec_GradePuzzle.tab8:rtab .any (opsOf Try.f23 8)=spec_GradePuzzle.T8:=by kernel_rfl
theorem spec_GradePuzzle.bits8:waitsOk spec_GradePuzzle.T8.2 spec_GradePuzzle.B8=true:=by kernel_rfl
def spec_GradePuzzle.T9:Bool × List (List Nat × List Nat):=(true,[([],[]),([],[]),([1],[1]),([0,2],[0,2]),([],[]),([4],[4]),([3,5,3],[3,5]),([],[]),([7],[7]),([6,8],[6,8])])
def spec_GradePuzzle.B9:List Nat:=[0,0,2,7,0,16,63,0,128,511]
theorem spec_GradePuzzle.tab9:rtab .any (opsOf Try.f23 9)=spec_GradePuzzle.T9:=by kernel_rfl
theorem spec_GradePuzzle.bits9:waitsOk spec_GradePuzzle.T9.2 spec_GradePuzzle.B9=true:=by kernel_rfl
theorem spec_GradePuzzle.calls (k:Nat)(a0_0:Int)(A0_1:Option Addr)(c0_1:Nat)(l0_1:List Int)(A0_2:Option Addr)(c0_2:Nat)(l0_2:List (S67))(r:Int)(w:World)(hr0_1:Kd.C (Kd.int .i64) w A0_1 l0_1.length l0_1)(hc0_1:l0_1.length≤c0_1)(hr0_2:Kd.C k67 w A0_2 l0_2.length l0_2)(hc0_2:l0_2.length≤c0_2)(h:spec_GradePuzzle.f k a0_0 l0_1 l0_2=some r) :
  Calls Try.prog 23 #[.agg #[.int .i64 a0_0,.slice A0_1 l0_1.length c0_1,.slice A0_2 l0_2.length c0_2]] w fun e w'=>e= .returned (.int .i64 r)∧Below w.heap.size w w':=by
 have hu30:=Try.underlying30
 have HR0_1:=yam hr0_1
 have HC0_1:=yam hc0_1
 clear hr0_1 hc0_1
 have HR0_2:=yam hr0_2
 have HC0_2:=yam hc0_2
 clear hr0_2 hc0_2
 have HB:=yam (Below.refl w.heap.size w)
 unfold spec_GradePuzzle.f at h
 have H:=h
 clear h
 replace H:=ybi H;obtain ⟨t663,A2,H⟩:=H
 try dsimp only at H
 cases t663
 ·replace H:=yff H
  obtain rfl:=ysi H
  go_enter Try.func23,Try.ntmps23
  go_wp2_with (first|(refine ybe 1 #[.int .i64 a0_0,.slice A0_1 l0_1.length c0_1,.slice A0_2 l0_2.length c0_2] 30 ?_;intro gb662 hg w40 hbox hb;have BK662:=yam (hbox);have GW662:=yam ((by rw [hg];exact (below_size (yez HB.out)):w.heap.size≤gb662));replace HB:=yam (below_step (yez HB.out) hb);have GE662:=GW662;clear hb hbox hg;obtain ⟨hcz41_0,hcz41_1,hcz41_2,hfz41_0,hfz41_1,hfz41_2⟩:=ybc BK662.out)|(refine goesL_ (some 7) rfl rfl Try.func34 (by kernel_rfl) rfl #[.agg #[.int .i64 a0_0,.slice A0_1 l0_1.length c0_1,.slice A0_2 l0_2.length c0_2]] rfl ymd ?_;(with_reducible refine (spec_PuzzleValid.calls k a0_0 _ _ l0_1 _ _ l0_2 false _ ?_ ?_ ?_ ?_ A2.out).mono ?_);exact Kd.Cz ((Kd.C_below HR0_1.out HB.out));exact HC0_1.out;exact Kd.Cz ((Kd.C_below HR0_2.out HB.out));exact HC0_2.out;rintro e w42 ⟨rfl,hb⟩;refine ⟨_,rfl,?_⟩;replace BK662:=yam (ybb BK662.out hb);replace HB:=yam (below_step yhb hb);(try clear hb)))
  go_ret
  exact ⟨yer,yhb⟩
 replace H:=ytt H
 replace H:=ybi H;obtain ⟨t664,A4,H⟩:=H
 try dsimp only at H
 replace H:=yit H;obtain ⟨c5,H⟩ | ⟨c5,H⟩:=H
 rotate_left
 ·have c5b0:((t664.length:Int) == 1)=false:=beq_eq_false_iff_ne.mpr c5
  have c5b1:((t664.length:Int) != 1)=true:=bne_iff_ne.mpr c5
  obtain rfl:=ysi H
  go_enter Try.func23,Try.ntmps23
  go_wp2_with (first|(refine ybe 1 #[.int .i64 a0_0,.slice A0_1 l0_1.length c0_1,.slice A0_2 l0_2.length c0_2] 30 ?_;intro gb662 hg w34 hbox hb;have BK662:=yam (hbox);have GW662:=yam ((by rw [hg];exact (below_size (yez HB.out)):w.heap.size≤gb662));replace HB:=yam (below_step (yez HB.out) hb);have GE662:=GW662;clear hb hbox hg;obtain ⟨hcz35_0,hcz35_1,hcz35_2,hfz35_0,hfz35_1,hfz35_2⟩:=ybc BK662.out)|(refine goesL_ (some 7) rfl rfl Try.func34 (by kernel_rfl) rfl #[.agg #[.int .i64 a0_0,.slice A0_1 l0_1.length c0_1,.slice A0_2 l0_2.length c0_2]] rfl ymd ?_;(with_reducible refine (spec_PuzzleValid.calls k a0_0 _ _ l0_1 _ _ l0_2 true _ ?_ ?_ ?_ ?_ A2.out).mono ?_);exact Kd.Cz ((Kd.C_below HR0_1.out HB.out));exact HC0_1.out;exact Kd.Cz ((Kd.C_below HR0_2.out HB.out));exact HC0_2.out;rintro e w36 ⟨rfl,hb⟩;refine ⟨_,rfl,?_⟩;replace BK662:=yam (ybb BK662.out hb);replace HB:=yam (below_step yhb hb);(try clear hb);obtain ⟨hcz37_0,hcz37_1,hcz37_2,hfz37_0,hfz37_1,hfz37_2⟩:=ybc BK662.out)|(refine goesL_ (some 10) rfl rfl Try.func47 (by kernel_rfl) rfl #[.agg #[.int .i64 a0_0,.slice A0_1 l0_1.length c0_1,.slice A0_2 l0_2.length c0_2],.int .i64 2] rfl ymd ?_;(with_reducible refine (spec_l5All.calls k a0_0 _ _ l0_1 _ _ l0_2 2 t664 _ ?_ ?_ ?_ ?_ A4.out).mono ?_);exact Kd.Cz ((Kd.C_below HR0_1.out HB.out));exact HC0_1.out;exact Kd.Cz ((Kd.C_below HR0_2.out HB.out));exact HC0_2.out;rintro e w38 ⟨v665,rfl,ho0,hb⟩;refine ⟨_,rfl,?_⟩;have HO666:=yam (Kd.S_lower ho0 (below_size yhb));replace BK662:=yam (ybb BK662.out hb);replace HB:=yam (below_step yhb hb);(try clear hb);(try clear ho0);obtain ⟨Ao39,co39,eo39⟩:=Kd.S_slice HO666.out;subst eo39))
  go_ret
  exact ⟨yer,yhb⟩
 have c5b0:((t664.length:Int) == 1)=true:=beq_iff_eq.mpr c5
 have c5b1:((t664.length:Int) != 1)=false:=bne_eq_false_iff_eq.mpr c5
 clear c5
 replace H:=yam H
 go_enter Try.func23,Try.ntmps23
 go_wp2_with (first|(refine ybe 1 #[.int .i64 a0_0,.slice A0_1 l0_1.length c0_1,.slice A0_2 l0_2.length c0_2] 30 ?_;intro gb662 hg w6 hbox hb;have BK662:=yam (hbox);have GW662:=yam ((by rw [hg];exact (below_size (yez HB.out)):w.heap.size≤gb662));replace HB:=yam (below_step (yez HB.out) hb);have GE662:=GW662;clear hb hbox hg;obtain ⟨hcz7_0,hcz7_1,hcz7_2,hfz7_0,hfz7_1,hfz7_2⟩:=ybc BK662.out)|(refine goesL_ (some 7) rfl rfl Try.func34 (by kernel_rfl) rfl #[.agg #[.int .i64 a0_0,.slice A0_1 l0_1.length c0_1,.slice A0_2 l0_2.length c0_2]] rfl ymd ?_;(with_reducible refine (spec_PuzzleValid.calls k a0_0 _ _ l0_1 _ _ l0_2 true _ ?_ ?_ ?_ ?_ A2.out).mono ?_);exact Kd.Cz ((Kd.C_below HR0_1.out HB.out));exact HC0_1.out;exact Kd.Cz ((Kd.C_below HR0_2.out HB.out));exact HC0_2.out;rintro e w8 ⟨rfl,hb⟩;refine ⟨_,rfl,?_⟩;replace BK662:=yam (ybb BK662.out hb);replace HB:=yam (below_step yhb hb);(try clear hb);obtain ⟨hcz9_0,hcz9_1,hcz9_2,hfz9_0,hfz9_1,hfz9_2⟩:=ybc BK662.out)|(refine goesL_ (some 10) rfl rfl Try.func47 (by kernel_rfl) rfl #[.agg #[.int .i64 a0_0,.slice A0_1 l0_1.length c0_1,.slice A0_2 l0_2.length c0_2],.int .i64 2] rfl ymd ?_;(with_reducible refine (spec_l5All.calls k a0_0 _ _ l0_1 _ _ l0_2 2 t664 _ ?_ ?_ ?_ ?_ A4.out).mono ?_);exact Kd.Cz ((Kd.C_below HR0_1.out HB.out));exact HC0_1.out;exact Kd.Cz ((Kd.C_below HR0_2.out HB.out));exact HC0_2.out;rintro e w10 ⟨v665,rfl,ho0,hb⟩;refine ⟨_,rfl,?_⟩;have HO666:=yam (Kd.S_lower ho0 (below_size yhb));replace BK662:=yam (ybb BK662.out hb);replace HB:=yam (below_step yhb hb);(try clear hb);(try clear ho0);obtain ⟨Ao11,co11,eo11⟩:=Kd.S_slice HO666.out;subst eo11))
 go_loopg [3] k (fun kq v3 w'=>∃ (x3_1:Int),v3= .int .i64 x3_1∧Aside0 (spec_GradePuzzle.l0 kq x3_1 a0_0 l0_1 l0_2=some r)∧Aside0 (kq≤k)∧Aside0 (w'.heap[gb662]?=some (.cells #[.int .i64 a0_0,(.slice A0_1 l0_1.length c0_1),(.slice A0_2 l0_2.length c0_2)] 30 (0,0)))∧Aside0 (Below w.heap.size w w'))
 case atStart=>exact ⟨(1),yeq,H,⟨Nat.le_refl _⟩,⟨ybk BK662.out⟩,⟨yhb⟩⟩
 case round =>
  clear H
  try clear c5b0
  try clear c5b1
  try clear hcz7_0
  try clear hcz7_1
  try clear hcz7_2
  try clear hcz9_0
  try clear hcz9_1
  try clear hcz9_2
  try clear hfz7_0
  try clear hfz7_1
  try clear hfz7_2
  try clear hfz9_0
  try clear hfz9_1
  try clear hfz9_2
  obtain ⟨x3_1,rfl,HA,HK1,BK662,HB⟩:=hrel
  rcases gk with _|k1
  ·exact absurd HA.out (by simp [spec_GradePuzzle.l0])
  obtain ⟨H⟩:=HA
  simp only [spec_GradePuzzle.l0] at H
  replace H:=yis H;obtain ⟨c12b0,H⟩ | ⟨c12b0,H⟩:=H
  rotate_left
  ·obtain rfl:=ysi H
   go_wp2
   go_ret
   exact ⟨yer,yhb⟩
  replace H:=ybi H;obtain ⟨t667,A13,H⟩:=H
  try dsimp only at H
  replace H:=ybi H;obtain ⟨⟨t670,t673⟩,A14,H⟩:=H
  try dsimp only at H
  replace H:=ybi H;obtain ⟨t674,A15,H⟩:=H
  try dsimp only at H
  replace H:=ybi H;obtain ⟨t677,A16,H⟩:=H
  try dsimp only at H
  replace H:=yit H;obtain ⟨c17,H⟩ | ⟨c17,H⟩:=H
  ·have c17b0:(t677 == (t670.length:Int))=true:=beq_iff_eq.mpr c17
   have c17b1:(t677 != (t670.length:Int))=false:=bne_eq_false_iff_eq.mpr c17
   clear c17
   obtain rfl:=ysi H
   try go_wp2
   replace BK662:=yam (ybd BK662.out)
   replace HB:=yam (yed HB.out)
   refine start_ (n:=10) (S:=fun w'=>w'.cell? ⟨gb662,0,none⟩=some (.int .i64 a0_0)∧w'.cell? ⟨gb662,1,none⟩=some (.slice A0_1 l0_1.length c0_1)∧w'.cell? ⟨gb662,2,none⟩=some (.slice A0_2 l0_2.length c0_2)) (ds:=[]) (yvb 10 0) (by kernel_rfl) rfl rfl ⟨(blk_cell BK662.out 0).trans rfl,(blk_cell BK662.out 1).trans rfl,(blk_cell BK662.out 2).trans rfl⟩ (fun hHeld=>?_);refine with_tabW spec_GradePuzzle.tab8 spec_GradePuzzle.bits8 (fun HT_ HW_=>?_)
   generalize wr.drew=w18 at BK662 HB hHeld ⊢
   refine yvp 3 21 (yvb 10 8) HT_.out ?_
   refine yvt 0 18 (yvb 10 9) HT_.out HW_.out hHeld ?_
   refine yvt 1 19 (yvb 10 11) HT_.out HW_.out hHeld ?_
   refine one_ (i:=2) (N:=some 20) (yvb 10 15) rfl rfl (one_of HT_.out (by kernel_rfl)) (by decide) (fun K hK=>?_)
   refine goes_ Try.func40 (by kernel_rfl) rfl #[.agg #[.int .i64 a0_0,.slice A0_1 l0_1.length c0_1,.slice A0_2 l0_2.length c0_2]] (by rfl) rfl rfl ymd ?_
   with_reducible refine (spec_StartMasks.calls k1 a0_0 _ _ l0_1 _ _ l0_2 t667 _ ?_ ?_ ?_ ?_ A13.out).mono ?_
   exact Kd.Cz ((Kd.C_below HR0_1.out HB.out))
   exact HC0_1.out
   exact Kd.Cz ((Kd.C_below HR0_2.out HB.out))
   exact HC0_2.out
   rintro e w19 ⟨v668,rfl,ho0,hb⟩
   refine ⟨_,rfl,?_⟩
   have HO669:=yam (Kd.R_lower ho0 (below_size yhb))
   replace BK662:=yam (ybb BK662.out hb)
   replace HB:=yam (below_step yhb hb)
   (try clear hb)
   (try clear hb2)
   (try clear hk)
   (try clear hi)
   (try clear ho0)
   obtain ⟨Ao20,co20,eo20⟩:=Kd.R_slice HO669.out
   (first|subst eo20|(injection eo20 with f1_ f2_ f3_;have f4_:=f1_.symm;have f5_:=f3_.symm;clear f1_ f2_ f3_;subst f4_;subst f5_))
   refine hK.out _ _ ⟨(blk_cell BK662.out 0).trans rfl,(blk_cell BK662.out 1).trans rfl,(blk_cell BK662.out 2).trans rfl⟩ (fun hHeld=>?_)
   clear hK K
   refine norm_ (a':=?_) ?_ ?_
   rotate_left
   ·show Act.put _ (some 20) _=_
    simp only [Act.put,yps,i64_w,i32_w]
    rfl
   refine one_ (i:=4) (N:=some 22) (yvb 10 31) rfl rfl (one_of HT_.out (by kernel_rfl)) (by decide) (fun K hK=>?_)
   refine goes_ Try.func28 (by kernel_rfl) rfl #[.agg #[.int .i64 a0_0,.slice A0_1 l0_1.length c0_1,.slice A0_2 l0_2.length c0_2],.slice Ao20 t667.length co20,.int .i64 x3_1] (by rfl) rfl rfl ymd ?_
   with_reducible refine (spec_NarrowAll.calls k1 a0_0 _ _ l0_1 _ _ l0_2 _ _ t667 x3_1 t670 t673 _ ?_ ?_ ?_ ?_ ?_ ?_ A14.out).mono ?_
   exact Kd.Cz ((Kd.C_below HR0_1.out HB.out))
   exact HC0_1.out
   exact Kd.Cz ((Kd.C_below HR0_2.out HB.out))
   exact HC0_2.out
   exact Kd.Cz (Kd.Yr HO669.out).2.2
   exact (Kd.Yr HO669.out).2.1
   rintro e w21 ⟨v671,rfl,ho0,hb⟩
   refine ⟨_,rfl,?_⟩
   have HO672:=yam (Kd.R_lower (Kd.Yw ho0 (Kd.R_lt (Kd.Yz HO669.out))) (below_size yhb))
   replace HO669:=yam (Kd.Ye (Kd.Yz HO669.out) (Kd.Yb ho0) hb)
   replace BK662:=yam (ybb BK662.out hb)
   replace HB:=yam (below_step yhb hb)
   (try clear hb)
   (try clear hb2)
   (try clear hk)
   (try clear hi)
   (try clear ho0)
   refine hK.out _ _ ⟨(blk_cell BK662.out 0).trans rfl,(blk_cell BK662.out 1).trans rfl,(blk_cell BK662.out 2).trans rfl⟩ (fun hHeld=>?_)
   clear hK K
   refine norm_ (a':=?_) ?_ ?_
   rotate_left
   ·show Act.put _ (some 22) _=_
    simp only [Act.put,yps,i64_w,i32_w]
    rfl
   refine yvp 5 17 (yvb 10 63) HT_.out ?_
   refine yvp 6 23 (yvb 10 127) HT_.out ?_
   refine yvp 7 24 (yvb 10 255) HT_.out ?_
   refine yvp 8 4 (yvb 10 511) HT_.out ?_
   refine yvp 9 5 (yvb 10 1023) HT_.out ?_
   refine done_ (done_of HT_.out (by kernel_rfl)) ?_
   try go_wp2
   replace HO669:=yam (Kd.Yd HO669.out)
   replace HO672:=yam (Kd.Yd HO672.out)
   replace BK662:=yam (ybd BK662.out)
   replace HB:=yam (yed HB.out)
   obtain ⟨Ao23,co23,eo23⟩:=Kd.R_slice HO672.out
   (first|subst eo23|(injection eo23 with f1_ f2_ f3_;have f4_:=f1_.symm;have f5_:=f3_.symm;clear f1_ f2_ f3_;subst f4_;subst f5_))
   refine start_ (n:=10) (S:=fun w'=>w'.cell? ⟨gb662,0,none⟩=some (.int .i64 a0_0)∧w'.cell? ⟨gb662,1,none⟩=some (.slice A0_1 l0_1.length c0_1)∧w'.cell? ⟨gb662,2,none⟩=some (.slice A0_2 l0_2.length c0_2)) (ds:=[]) (yvb 10 0) (by kernel_rfl) rfl rfl ⟨(blk_cell BK662.out 0).trans rfl,(blk_cell BK662.out 1).trans rfl,(blk_cell BK662.out 2).trans rfl⟩ (fun hHeld=>?_);refine with_tabW spec_GradePuzzle.tab9 spec_GradePuzzle.bits9 (fun HT_ HW_=>?_)
   generalize w21.drew=w22 at HO669 HO672 BK662 HB hHeld ⊢
   refine yvp 0 25 (yvb 10 1) HT_.out ?_
   refine yvp 1 26 (yvb 10 3) HT_.out ?_
   refine yvp 4 29 (yvb 10 19) HT_.out ?_
   refine yvp 7 32 (yvb 10 147) HT_.out ?_
   refine yvp 8 33 (yvb 10 403) HT_.out ?_
   refine yvt 2 27 (yvb 10 407) HT_.out HW_.out hHeld ?_
   refine yvt 5 30 (yvb 10 439) HT_.out HW_.out hHeld ?_
   refine one_ (i:=3) (N:=some 28) (yvb 10 447) rfl rfl (one_of HT_.out (by kernel_rfl)) (by decide) (fun K hK=>?_)
   refine goes_ Try.func49 (by kernel_rfl) rfl #[.slice Ao23 t670.length co23,.int .i64 a0_0] (by rfl) rfl rfl ymd ?_
   with_reducible refine (spec_MasksGrid.calls k1 _ _ t670 a0_0 t674 _ ?_ ?_ A15.out).mono ?_
   exact Kd.Cz (Kd.Yr HO672.out).2.2
   exact (Kd.Yr HO672.out).2.1
   rintro e w24 ⟨v675,rfl,ho0,hb⟩
   refine ⟨_,rfl,?_⟩
   have HO676:=yam (Kd.R_lower (Kd.Yw (Kd.Yw ho0 (Kd.R_lt (Kd.Yz HO669.out))) (Kd.R_lt (Kd.Yz HO672.out))) (below_size yhb))
   replace HO669:=yam (Kd.Ye (Kd.Yz HO669.out) (Kd.Yb ho0) hb)
   replace HO672:=yam (Kd.Ye (Kd.Yz HO672.out) (Kd.Yb ho0) hb)
   replace BK662:=yam (ybb BK662.out hb)
   replace HB:=yam (below_step yhb hb)
   (try clear hb)
   (try clear hb2)
   (try clear hk)
   (try clear hi)
   (try clear ho0)
   obtain ⟨Ao25,co25,eo25⟩:=Kd.R_slice HO676.out
   (first|subst eo25|(injection eo25 with f1_ f2_ f3_;have f4_:=f1_.symm;have f5_:=f3_.symm;clear f1_ f2_ f3_;subst f4_;subst f5_))
   refine hK.out _ _ ⟨(blk_cell BK662.out 0).trans rfl,(blk_cell BK662.out 1).trans rfl,(blk_cell BK662.out 2).trans rfl⟩ (fun hHeld=>?_)
   clear hK K
   refine norm_ (a':=?_) ?_ ?_
   rotate_left
   ·show Act.put _ (some 28) _=_
    simp only [Act.put,yps,i64_w,i32_w]
    rfl
   refine one_ (i:=6) (N:=some 31) (yvb 10 511) rfl rfl (one_of HT_.out (by kernel_rfl)) (by decide) (fun K hK=>?_)
   refine goes_ Try.func48 (by kernel_rfl) rfl #[.slice Ao25 t674.length co25,.int .i64 a0_0] (by rfl) rfl rfl ymd ?_
   with_reducible refine (spec_GridFilled.calls k1 _ _ t674 a0_0 t677 _ ?_ ?_ A16.out).mono ?_
   exact Kd.Cz (Kd.Yr HO676.out).2.2
   exact (Kd.Yr HO676.out).2.1
   rintro e w' ⟨rfl,⟨nd,rfl⟩⟩
   refine ⟨_,rfl,?_⟩
   refine hK.out _ _ ⟨(blk_cell BK662.out 0).trans rfl,(blk_cell BK662.out 1).trans rfl,(blk_cell BK662.out 2).trans rfl⟩ (fun hHeld=>?_)
   clear hK K
   refine norm_ (a':=?_) ?_ ?_
   rotate_left
   ·show Act.put _ (some 31) _=_
    simp only [Act.put,yps,i64_w,i32_w]
    rfl
   refine yvp 9 34 (yvb 10 1023) HT_.out ?_
   refine done_ (done_of HT_.out (by kernel_rfl)) ?_
   try go_wp2
   go_ret
   exact ⟨yer,yhb⟩
  have c17b0:(t677 == (t670.length:Int))=false:=beq_eq_false_iff_ne.mpr c17
  have c17b1:(t677 != (t670.length:Int))=true:=bne_iff_ne.mpr c17
  replace H:=yam H
  try go_wp2
  replace BK662:=yam (ybd BK662.out)
  replace HB:=yam (yed HB.out)
  refine start_ (n:=10) (S:=fun w'=>w'.cell? ⟨gb662,0,none⟩=some (.int .i64 a0_0)∧w'.cell? ⟨gb662,1,none⟩=some (.slice A0_1 l0_1.length c0_1)∧w'.cell? ⟨gb662,2,none⟩=some (.slice A0_2 l0_2.length c0_2)) (ds:=[]) (yvb 10 0) (by kernel_rfl) rfl rfl ⟨(blk_cell BK662.out 0).trans rfl,(blk_cell BK662.out 1).trans rfl,(blk_cell BK662.out 2).trans rfl⟩ (fun hHeld=>?_);refine with_tabW spec_GradePuzzle.tab8 spec_GradePuzzle.bits8 (fun HT_ HW_=>?_)
  generalize wr.drew=w26 at BK662 HB hHeld ⊢
  refine yvp 3 21 (yvb 10 8) HT_.out ?_
  refine yvt 0 18 (yvb 10 9) HT_.out HW_.out hHeld ?_
  refine yvt 1 19 (yvb 10 11) HT_.out HW_.out hHeld ?_
  refine one_ (i:=2) (N:=some 20) (yvb 10 15) rfl rfl (one_of HT_.out (by kernel_rfl)) (by decide) (fun K hK=>?_)
  refine goes_ Try.func40 (by kernel_rfl) rfl #[.agg #[.int .i64 a0_0,.slice A0_1 l0_1.length c0_1,.slice A0_2 l0_2.length c0_2]] (by rfl) rfl rfl ymd ?_
  with_reducible refine (spec_StartMasks.calls k1 a0_0 _ _ l0_1 _ _ l0_2 t667 _ ?_ ?_ ?_ ?_ A13.out).mono ?_
  exact Kd.Cz ((Kd.C_below HR0_1.out HB.out))
  exact HC0_1.out
  exact Kd.Cz ((Kd.C_below HR0_2.out HB.out))
  exact HC0_2.out
  rintro e w27 ⟨v668,rfl,ho0,hb⟩
  refine ⟨_,rfl,?_⟩
  have HO669:=yam (Kd.R_lower ho0 (below_size yhb))
  replace BK662:=yam (ybb BK662.out hb)
  replace HB:=yam (below_step yhb hb)
  (try clear hb)
  (try clear hb2)
  (try clear hk)
  (try clear hi)
  (try clear ho0)
  obtain ⟨Ao28,co28,eo28⟩:=Kd.R_slice HO669.out
  (first|subst eo28|(injection eo28 with f1_ f2_ f3_;have f4_:=f1_.symm;have f5_:=f3_.symm;clear f1_ f2_ f3_;subst f4_;subst f5_))
  refine hK.out _ _ ⟨(blk_cell BK662.out 0).trans rfl,(blk_cell BK662.out 1).trans rfl,(blk_cell BK662.out 2).trans rfl⟩ (fun hHeld=>?_)
  clear hK K
  refine norm_ (a':=?_) ?_ ?_
  rotate_left
  ·show Act.put _ (some 20) _=_
   simp only [Act.put,yps,i64_w,i32_w]
   rfl
  refine one_ (i:=4) (N:=some 22) (yvb 10 31) rfl rfl (one_of HT_.out (by kernel_rfl)) (by decide) (fun K hK=>?_)
  refine goes_ Try.func28 (by kernel_rfl) rfl #[.agg #[.int .i64 a0_0,.slice A0_1 l0_1.length c0_1,.slice A0_2 l0_2.length c0_2],.slice Ao28 t667.length co28,.int .i64 x3_1] (by rfl) rfl rfl ymd ?_
  with_reducible refine (spec_NarrowAll.calls k1 a0_0 _ _ l0_1 _ _ l0_2 _ _ t667 x3_1 t670 t673 _ ?_ ?_ ?_ ?_ ?_ ?_ A14.out).mono ?_
  exact Kd.Cz ((Kd.C_below HR0_1.out HB.out))
  exact HC0_1.out
  exact Kd.Cz ((Kd.C_below HR0_2.out HB.out))
  exact HC0_2.out
  exact Kd.Cz (Kd.Yr HO669.out).2.2
  exact (Kd.Yr HO669.out).2.1
  rintro e w29 ⟨v671,rfl,ho0,hb⟩
  refine ⟨_,rfl,?_⟩
  have HO672:=yam (Kd.R_lower (Kd.Yw ho0 (Kd.R_lt (Kd.Yz HO669.out))) (below_size yhb))
  replace HO669:=yam (Kd.Ye (Kd.Yz HO669.out) (Kd.Yb ho0) hb)
  replace BK662:=yam (ybb BK662.out hb)
  replace HB:=yam (below_step yhb hb)
  (try clear hb)
  (try clear hb2)
  (try clear hk)
  (try clear hi)
  (try clear ho0)
  refine hK.out _ _ ⟨(blk_cell BK662.out 0).trans rfl,(blk_cell BK662.out 1).trans rfl,(blk_cell BK662.out 2).trans rfl⟩ (fun hHeld=>?_)
  clear hK K
  refine norm_ (a':=?_) ?_ ?_
  rotate_left
  ·show Act.put _ (some 22) _=_
   simp only [Act.put,yps,i64_w,i32_w]
   rfl
  refine yvp 5 17 (yvb 10 63) HT_.out ?_
  refine yvp 6 23 (yvb 10 127) HT_.out ?_
  refine yvp 7 24 (yvb 10 255) HT_.out ?_
  refine yvp 8 4 (yvb 10 511) HT_.out ?_
  refine yvp 9 5 (yvb 10 1023) HT_.out ?_
  refine done_ (done_of HT_.out (by kernel_rfl)) ?_
  try go_wp2
  replace HO669:=yam (Kd.Yd HO669.out)
  replace HO672:=yam (Kd.Yd HO672.out)
  replace BK662:=yam (ybd BK662.out)
  replace HB:=yam (yed HB.out)
  obtain ⟨Ao31,co31,eo31⟩:=Kd.R_slice HO672.out
  (first|subst eo31|(injection eo31 with f1_ f2_ f3_;have f4_:=f1_.symm;have f5_:=f3_.symm;clear f1_ f2_ f3_;subst f4_;subst f5_))
  refine start_ (n:=10) (S:=fun w'=>w'.cell? ⟨gb662,0,none⟩=some (.int .i64 a0_0)∧w'.cell? ⟨gb662,1,none⟩=some (.slice A0_1 l0_1.length c0_1)∧w'.cell? ⟨gb662,2,none⟩=some (.slice A0_2 l0_2.length c0_2)) (ds:=[]) (yvb 10 0) (by kernel_rfl) rfl rfl ⟨(blk_cell BK662.out 0).trans rfl,(blk_cell BK662.out 1).trans rfl,(blk_cell BK662.out 2).trans rfl⟩ (fun hHeld=>?_);refine with_tabW spec_GradePuzzle.tab9 spec_GradePuzzle.bits9 (fun HT_ HW_=>?_)
  generalize w29.drew=w30 at HO669 HO672 BK662 HB hHeld ⊢
  refine yvp 0 25 (yvb 10 1) HT_.out ?_
  refine yvp 1 26 (yvb 10 3) HT_.out ?_
  refine yvp 4 29 (yvb 10 19) HT_.out ?_
  refine yvp 7 32 (yvb 10 147) HT_.out ?_
  refine yvp 8 33 (yvb 10 403) HT_.out ?_
  refine yvt 2 27 (yvb 10 407) HT_.out HW_.out hHeld ?_
  refine yvt 5 30 (yvb 10 439) HT_.out HW_.out hHeld ?_
  refine one_ (i:=3) (N:=some 28) (yvb 10 447) rfl rfl (one_of HT_.out (by kernel_rfl)) (by decide) (fun K hK=>?_)
  refine goes_ Try.func49 (by kernel_rfl) rfl #[.slice Ao31 t670.length co31,.int .i64 a0_0] (by rfl) rfl rfl ymd ?_
  with_reducible refine (spec_MasksGrid.calls k1 _ _ t670 a0_0 t674 _ ?_ ?_ A15.out).mono ?_
  exact Kd.Cz (Kd.Yr HO672.out).2.2
  exact (Kd.Yr HO672.out).2.1
  rintro e w32 ⟨v675,rfl,ho0,hb⟩
  refine ⟨_,rfl,?_⟩
  have HO676:=yam (Kd.R_lower (Kd.Yw (Kd.Yw ho0 (Kd.R_lt (Kd.Yz HO669.out))) (Kd.R_lt (Kd.Yz HO672.out))) (below_size yhb))
  replace HO669:=yam (Kd.Ye (Kd.Yz HO669.out) (Kd.Yb ho0) hb)
  replace HO672:=yam (Kd.Ye (Kd.Yz HO672.out) (Kd.Yb ho0) hb)
  replace BK662:=yam (ybb BK662.out hb)
  replace HB:=yam (below_step yhb hb)
  (try clear hb)
  (try clear hb2)
  (try clear hk)
  (try clear hi)
  (try clear ho0)
  obtain ⟨Ao33,co33,eo33⟩:=Kd.R_slice HO676.out
  (first|subst eo33|(injection eo33 with f1_ f2_ f3_;have f4_:=f1_.symm;have f5_:=f3_.symm;clear f1_ f2_ f3_;subst f4_;subst f5_))
  refine hK.out _ _ ⟨(blk_cell BK662.out 0).trans rfl,(blk_cell BK662.out 1).trans rfl,(blk_cell BK662.out 2).trans rfl⟩ (fun hHeld=>?_)
  clear hK K
  refine norm_ (a':=?_) ?_ ?_
  rotate_left
  ·show Act.put _ (some 28) _=_
   simp only [Act.put,yps,i64_w,i32_w]
   rfl
  refine one_ (i:=6) (N:=some 31) (yvb 10 511) rfl rfl (one_of HT_.out (by kernel_rfl)) (by decide) (fun K hK=>?_)
  refine goes_ Try.func48 (by kernel_rfl) rfl #[.slice Ao33 t674.length co33,.int .i64 a0_0] (by rfl) rfl rfl ymd ?_
  with_reducible refine (spec_GridFilled.calls k1 _ _ t674 a0_0 t677 _ ?_ ?_ A16.out).mono ?_
  exact Kd.Cz (Kd.Yr HO676.out).2.2
  exact (Kd.Yr HO676.out).2.1
  rintro e w' ⟨rfl,⟨nd,rfl⟩⟩
  refine ⟨_,rfl,?_⟩
  refine hK.out _ _ ⟨(blk_cell BK662.out 0).trans rfl,(blk_cell BK662.out 1).trans rfl,(blk_cell BK662.out 2).trans rfl⟩ (fun hHeld=>?_)
  clear hK K
  refine norm_ (a':=?_) ?_ ?_
  rotate_left
  ·show Act.put _ (some 31) _=_
   simp only [Act.put,yps,i64_w,i32_w]
   rfl
  refine yvp 9 34 (yvb 10 1023) HT_.out ?_
  refine done_ (done_of HT_.out (by kernel_rfl)) ?_
  try go_wp2
  go_roundg k1
  case measure=>have:=HK1.out;omega
  case rel=>exact ⟨(wrap64 (x3_1 + 1)),yeq,H,⟨by have:=HK1.out;omega⟩,⟨ybk BK662.out⟩,⟨yhb⟩⟩
def impl_sizeOk.f (a0:Int):Option (Bool):=if a0 ≥ 2 then (some (decide (a0≤4))) else (some false)
theorem impl_sizeOk.calls (a0:Int)(r:Bool)(w:World)(h:impl_sizeOk.f a0=some r) :
  Calls Try.prog 84 #[.int .i64 a0] w fun e w'=>e= .returned (.bool r)∧Drawn0 w w':=by
 unfold impl_sizeOk.f at h
 have H:=h
 clear h
 replace H:=yis H;obtain ⟨c2b0,H⟩ | ⟨c2b0,H⟩:=H
 ·obtain rfl:=ysi H
  go_enter Try.func84,Try.ntmps84
  go_wp2
  go_ret
  exact ⟨yeq,by repeat (first|exact Drawn0.refl _|apply Drawn0.step)⟩
 obtain rfl:=ysi H
 go_enter Try.func84,Try.ntmps84
 go_wp2
 go_ret
 exact ⟨yeq,by repeat (first|exact Drawn0.refl _|apply Drawn0.step)⟩
mutual
def impl_GridValid.j0:Nat→List Int→Int→Bool→Option (Bool)
 | 0,_,_,_=>none
 | k + 1,x0,x1,x17=>if x17=true then (some false) else (impl_GridValid.l0 k x1 x0 (x0.length:Int) 0)
def impl_GridValid.l0:Nat→Int→List Int→Int→Int→Option (Bool)
 | 0,_,_,_,_=>none
 | k + 1,x1,x18,x19,x20=>if x20 < x19 then (if 0≤x20 then (if x20 < (x18.length:Int) then (if (rd x18 x20) < 0 then (some false) else (if (rd x18 x20) > x1 then (some false) else (impl_GridValid.l0 k x1 x18 x19 (wrap64 (x20 + 1))))) else (none)) else (none)) else (some true)
end
def impl_GridValid.f (k:Nat)(l0:List Int)(a1:Int):Option (Bool):=(impl_sizeOk.f a1).bind fun t373=>(if t373=true then (impl_GridValid.j0 k l0 a1 ((l0.length:Int) != (wrap64 (a1 * a1)))) else (impl_GridValid.j0 k l0 a1 true))
theorem impl_GridValid.calls (k:Nat)(A0:Option Addr)(c0:Nat)(l0:List Int)(a1:Int)(r:Bool)(w:World)(hr0:Kd.C (Kd.int .i64) w A0 l0.length l0)(hc0:l0.length≤c0)(h:impl_GridValid.f k l0 a1=some r) :
  Calls Try.prog 69 #[.slice A0 l0.length c0,.int .i64 a1] w fun e w'=>e= .returned (.bool r)∧Drawn0 w w':=by
 have HR0:=yam hr0
 have HC0:=yam hc0
 clear hr0 hc0
 unfold impl_GridValid.f at h
 have H:=h
 clear h
 have HC3:=yam H
 clear H
 go_enter Try.func69,Try.ntmps69
 go_upto_region 1 with (fail)
 go_cut [17] (fun v17 wc=>∃ (kq:Nat) (x17_2:Bool),v17= .bool x17_2∧Aside0 (impl_GridValid.j0 kq l0 a1 x17_2=some r)∧Aside0 (kq≤k)∧Drawn0 w wc)
 case first =>
  have H:=HC3.out
  clear HC3
  replace H:=ybi H;obtain ⟨t373,A4,H⟩:=H
  try dsimp only at H
  cases t373
  rotate_left
  ·replace H:=ytt H
   replace H:=yam H
   go_wp2_with (first|(refine goesL_ (some 8) rfl rfl Try.func84 (by kernel_rfl) rfl #[.int .i64 a1] rfl ymd ?_;(with_reducible refine (impl_sizeOk.calls a1 true _ A4.out).mono ?_);rintro e w' ⟨rfl,⟨nd,rfl⟩⟩;refine ⟨_,rfl,?_⟩))
   go_meet
   case rel=>exact ⟨_,(((l0.length:Int) != (wrap64 (a1 * a1)))),yeq,H,⟨by first|omega|exact Nat.le_refl _⟩,by repeat (first|exact Drawn0.refl _|apply Drawn0.step)⟩
  replace H:=yff H
  replace H:=yam H
  go_wp2_with (first|(refine goesL_ (some 8) rfl rfl Try.func84 (by kernel_rfl) rfl #[.int .i64 a1] rfl ymd ?_;(with_reducible refine (impl_sizeOk.calls a1 false _ A4.out).mono ?_);rintro e w' ⟨rfl,⟨nd,rfl⟩⟩;refine ⟨_,rfl,?_⟩))
  go_meet
  case rel=>exact ⟨_,(true),yeq,H,⟨by first|omega|exact Nat.le_refl _⟩,by repeat (first|exact Drawn0.refl _|apply Drawn0.step)⟩
 case rest =>
  clear HC3
  obtain ⟨kq,x17_2,rfl,HA,HJ2,⟨mc2,rfl⟩⟩:=hcut
  rcases kq with _|kj2
  ·exact absurd HA.out (by simp [impl_GridValid.j0])
  obtain ⟨H⟩:=HA
  simp only [impl_GridValid.j0] at H
  cases x17_2
  rotate_left
  ·replace H:=ytt H
   obtain rfl:=ysi H
   go_wp2
   go_ret
   exact ⟨yeq,by repeat (first|exact Drawn0.refl _|apply Drawn0.step)⟩
  replace H:=yff H
  replace H:=yam H
  go_wp2
  go_loopg [20] kj2 (fun kq v20 w'=>∃ (x20_2:Int),v20= .int .i64 x20_2∧Aside0 (impl_GridValid.l0 kq a1 l0 (l0.length:Int) x20_2=some r)∧Aside0 (kq≤kj2)∧Drawn0 w w')
  case atStart=>exact ⟨(0),yeq,H,⟨Nat.le_refl _⟩,by repeat (first|exact Drawn0.refl _|apply Drawn0.step)⟩
  case round =>
   clear H
   obtain ⟨x20_2,rfl,HA,HK2,⟨m2,rfl⟩⟩:=hrel
   rcases gk with _|k2
   ·exact absurd HA.out (by simp [impl_GridValid.l0])
   obtain ⟨H⟩:=HA
   simp only [impl_GridValid.l0] at H
   replace H:=yis H;obtain ⟨c7b0,H⟩ | ⟨c7b0,H⟩:=H
   rotate_left
   ·obtain rfl:=ysi H
    go_wp2
    go_ret
    exact ⟨yeq,by repeat (first|exact Drawn0.refl _|apply Drawn0.step)⟩
   replace H:=yif H;obtain ⟨c8b0,H⟩:=H
   replace H:=yif H;obtain ⟨c9b0,H⟩:=H
   replace H:=yis H;obtain ⟨c10b0,H⟩ | ⟨c10b0,H⟩:=H
   ·obtain rfl:=ysi H
    obtain ⟨ad374,e374,hx374_0,p374,q374⟩:=yat HR0.out x20_2
    cases e374
    go_wp2
    go_ret
    exact ⟨yeq,by repeat (first|exact Drawn0.refl _|apply Drawn0.step)⟩
   replace H:=yis H;obtain ⟨c11b0,H⟩ | ⟨c11b0,H⟩:=H
   ·obtain rfl:=ysi H
    obtain ⟨ad374,e374,hx374_0,p374,q374⟩:=yat HR0.out x20_2
    cases e374
    go_wp2
    go_ret
    exact ⟨yeq,by repeat (first|exact Drawn0.refl _|apply Drawn0.step)⟩
   replace H:=yam H
   obtain ⟨ad374,e374,hx374_0,p374,q374⟩:=yat HR0.out x20_2
   cases e374
   go_wp2
   go_roundg k2
   case measure=>have:=HJ2.out;have:=HK2.out;omega
   case rel=>exact ⟨(wrap64 (x20_2 + 1)),yeq,H,⟨by have:=HJ2.out;have:=HK2.out;omega⟩,by repeat (first|exact Drawn0.refl _|apply Drawn0.step)⟩
def slices_Index_int_int.l0:Nat→List Int→Int→Int→Int→Option (Int)
 | 0,_,_,_,_=>none
 | k + 1,x0,x1,x7,x8=>if x8 < x7 then (if 0≤x8 then (if x8 < (x0.length:Int) then (if x1=(rd x0 x8) then (some x8) else (slices_Index_int_int.l0 k x0 x1 x7 (wrap64 (x8 + 1)))) else (none)) else (none)) else (some (-1))
def slices_Index_int_int.f (k:Nat)(l0:List Int)(a1:Int):Option (Int):=slices_Index_int_int.l0 k l0 a1 (l0.length:Int) 0
theorem slices_Index_int_int.calls (k:Nat)(A0:Option Addr)(c0:Nat)(l0:List Int)(a1:Int)(r:Int)(w:World)(hr0:Kd.C (Kd.int .i64) w A0 l0.length l0)(hc0:l0.length≤c0)(h:slices_Index_int_int.f k l0 a1=some r) :
  Calls Try.prog 92 #[.slice A0 l0.length c0,.int .i64 a1] w fun e w'=>e= .returned (.int .i64 r)∧Drawn0 w w':=by
 have HR0:=yam hr0
 have HC0:=yam hc0
 clear hr0 hc0
 unfold slices_Index_int_int.f at h
 have H:=h
 clear h
 replace H:=yam H
 go_enter Try.func92,Try.ntmps92
 go_wp2
 go_loopg [8] k (fun kq v8 w'=>∃ (x8_1:Int),v8= .int .i64 x8_1∧Aside0 (slices_Index_int_int.l0 kq l0 a1 (l0.length:Int) x8_1=some r)∧Aside0 (kq≤k)∧Drawn0 w w')
 case atStart=>exact ⟨(0),yeq,H,⟨Nat.le_refl _⟩,by repeat (first|exact Drawn0.refl _|apply Drawn0.step)⟩
 case round =>
  clear H
  obtain ⟨x8_1,rfl,HA,HK1,⟨m1,rfl⟩⟩:=hrel
  rcases gk with _|k1
  ·exact absurd HA.out (by simp [slices_Index_int_int.l0])
  obtain ⟨H⟩:=HA
  simp only [slices_Index_int_int.l0] at H
  replace H:=yis H;obtain ⟨c3b0,H⟩ | ⟨c3b0,H⟩:=H
  rotate_left
  ·obtain rfl:=ysi H
   go_wp2
   go_ret
   exact ⟨yeq,by repeat (first|exact Drawn0.refl _|apply Drawn0.step)⟩
  replace H:=yif H;obtain ⟨c4b0,H⟩:=H
  replace H:=yif H;obtain ⟨c5b0,H⟩:=H
  replace H:=yit H;obtain ⟨c6,H⟩ | ⟨c6,H⟩:=H
  ·have c6b0:(a1 == (rd l0 x8_1))=true:=beq_iff_eq.mpr c6
   have c6b1:(a1 != (rd l0 x8_1))=false:=bne_eq_false_iff_eq.mpr c6
   clear c6
   obtain rfl:=ysi H
   obtain ⟨ad375,e375,hx375_0,p375,q375⟩:=yat HR0.out x8_1
   cases e375
   go_wp2
   go_ret
   exact ⟨yeq,by repeat (first|exact Drawn0.refl _|apply Drawn0.step)⟩
  have c6b0:(a1 == (rd l0 x8_1))=false:=beq_eq_false_iff_ne.mpr c6
  have c6b1:(a1 != (rd l0 x8_1))=true:=bne_iff_ne.mpr c6
  replace H:=yam H
  obtain ⟨ad375,e375,hx375_0,p375,q375⟩:=yat HR0.out x8_1
  cases e375
  go_wp2
  go_roundg k1
  case measure=>have:=HK1.out;omega
  case rel=>exact ⟨(wrap64 (x8_1 + 1)),yeq,H,⟨by have:=HK1.out;omega⟩,by repeat (first|exact Drawn0.refl _|apply Drawn0.step)⟩
def slices_Contains_int_int.f (k:Nat)(l0:List Int)(a1:Int):Option (Bool):=(slices_Index_int_int.f k l0 a1).bind fun t376=>(some (decide (t376 ≥ 0)))
theorem slices_Contains_int_int.calls (k:Nat)(A0:Option Addr)(c0:Nat)(l0:List Int)(a1:Int)(r:Bool)(w:World)(hr0:Kd.C (Kd.int .i64) w A0 l0.length l0)(hc0:l0.length≤c0)(h:slices_Contains_int_int.f k l0 a1=some r) :
  Calls Try.prog 85 #[.slice A0 l0.length c0,.int .i64 a1] w fun e w'=>e= .returned (.bool r)∧Drawn0 w w':=by
 have HR0:=yam hr0
 have HC0:=yam hc0
 clear hr0 hc0
 unfold slices_Contains_int_int.f at h
 have H:=h
 clear h
 replace H:=ybi H;obtain ⟨t376,A3,H⟩:=H
 try dsimp only at H
 obtain rfl:=ysi H
 go_enter Try.func85,Try.ntmps85
 go_wp2_with (first|(refine goesL_ (some 7) rfl rfl Try.func92 (by kernel_rfl) rfl #[.slice A0 l0.length c0,.int .i64 a1] rfl ymd ?_;(with_reducible refine (slices_Index_int_int.calls k _ _ l0 a1 t376 _ ?_ ?_ A3.out).mono ?_);exact Kd.Cz (HR0.out);exact HC0.out;rintro e w' ⟨rfl,⟨nd,rfl⟩⟩;refine ⟨_,rfl,?_⟩))
 go_ret
 exact ⟨yeq,by repeat (first|exact Drawn0.refl _|apply Drawn0.step)⟩
mutual
def impl_RuleValid.l0:Nat→Int→List Int→Int→Int→Int→List Int→Int→Option (Bool)
 | 0,_,_,_,_,_,_,_=>none
 | k + 1,x1,x12,x13,x14,x378000,x378001,x378002=>if x14 < x13 then (if 0≤x14 then (if x14 < (x12.length:Int) then (if (rd x12 x14) < 0 then (some false) else (if (rd x12 x14) ≥ (wrap64 (x1 * x1)) then (some false) else (if x14≤(x378001.length:Int) then ((slices_Contains_int_int.f k (x378001.take (x14:Int).toNat) (rd x12 x14)).bind fun t381=>(if t381=true then (some false) else (impl_RuleValid.l0 k x1 x12 x13 (wrap64 (x14 + 1)) x378000 x378001 x378002))) else (none)))) else (none)) else (none)) else (if x378000=1 then (if (x378001.length:Int) ≥ 2 then (if (x378001.length:Int)≤4 then (some (x378002 == 0)) else (some false)) else (some false)) else (if x378000=2 then (impl_RuleValid.j1 k x1 (x378001.length:Int) x378000 (x378000 == 2) x378000 x378001 x378002) else (impl_RuleValid.j1 k x1 (x378001.length:Int) x378000 (x378000 == 3) x378000 x378001 x378002)))
def impl_RuleValid.j1:Nat→Int→Int→Int→Bool→Int→List Int→Int→Option (Bool)
 | 0,_,_,_,_,_,_,_=>none
 | k + 1,x1,x7,x41,x55,x378000,x378001,x378002=>if x55=true then (if x7 ≥ 1 then (if x7≤4 then (if x378002 ≥ 1 then (some (decide (x378002≤(wrap64 ((wrap64 ((wrap64 (x1 * x1)) * x1)) * x1))))) else (some false)) else (some false)) else (some false)) else (if x41=4 then (if x7=2 then (some (x378002 == 0)) else (some false)) else (if x41=5 then (if x7=2 then (if x378002 ≥ 0 then (some (decide (x378002 < x1))) else (some false)) else (some false)) else (some false)))
end
def impl_RuleValid.f (k:Nat)(a0_0:Int)(l0_1:List Int)(a0_2:Int)(a1:Int):Option (Bool):=(impl_sizeOk.f a1).bind fun t378=>(if t378=true then (impl_RuleValid.l0 k a1 l0_1 (l0_1.length:Int) 0 a0_0 l0_1 a0_2) else (some false))
theorem impl_RuleValid.calls (k:Nat)(a0_0:Int)(A0_1:Option Addr)(c0_1:Nat)(l0_1:List Int)(a0_2:Int)(a1:Int)(r:Bool)(w:World)(hr0_1:Kd.C (Kd.int .i64) w A0_1 l0_1.length l0_1)(hc0_1:l0_1.length≤c0_1)(h:impl_RuleValid.f k a0_0 l0_1 a0_2 a1=some r) :
  Calls Try.prog 70 #[.agg #[.int .i64 a0_0,.slice A0_1 l0_1.length c0_1,.int .i64 a0_2],.int .i64 a1] w fun e w'=>e= .returned (.bool r)∧Below w.heap.size w w':=by
 have hu67:=Try.underlying67
 have HR0_1:=yam hr0_1
 have HC0_1:=yam hc0_1
 clear hr0_1 hc0_1
 have HB:=yam (Below.refl w.heap.size w)
 unfold impl_RuleValid.f at h
 have H:=h
 clear h
 replace H:=ybi H;obtain ⟨t378,A3,H⟩:=H
 try dsimp only at H
 cases t378
 ·replace H:=yff H
  obtain rfl:=ysi H
  go_enter Try.func70,Try.ntmps70
  go_wp2_with (first|(refine ybe 2 #[.int .i64 a0_0,.slice A0_1 l0_1.length c0_1,.int .i64 a0_2] 67 ?_;intro gb377 hg w43 hbox hb;have BK377:=yam (hbox);have GW377:=yam ((by rw [hg];exact (below_size (yez HB.out)):w.heap.size≤gb377));replace HB:=yam (below_step (yez HB.out) hb);have GE377:=GW377;clear hb hbox hg)|(refine goesL_ (some 9) rfl rfl Try.func84 (by kernel_rfl) rfl #[.int .i64 a1] rfl ymd ?_;(with_reducible refine (impl_sizeOk.calls a1 false _ A3.out).mono ?_);rintro e w' ⟨rfl,⟨nd,rfl⟩⟩;refine ⟨_,rfl,?_⟩))
  go_ret
  exact ⟨yer,yhb⟩
 replace H:=ytt H
 replace H:=yam H
 go_enter Try.func70,Try.ntmps70
 go_wp2_with (first|(refine ybe 2 #[.int .i64 a0_0,.slice A0_1 l0_1.length c0_1,.int .i64 a0_2] 67 ?_;intro gb377 hg w5 hbox hb;have BK377:=yam (hbox);have GW377:=yam ((by rw [hg];exact (below_size (yez HB.out)):w.heap.size≤gb377));replace HB:=yam (below_step (yez HB.out) hb);have GE377:=GW377;clear hb hbox hg)|(refine goesL_ (some 9) rfl rfl Try.func84 (by kernel_rfl) rfl #[.int .i64 a1] rfl ymd ?_;(with_reducible refine (impl_sizeOk.calls a1 true _ A3.out).mono ?_);rintro e w' ⟨rfl,⟨nd,rfl⟩⟩;refine ⟨_,rfl,?_⟩;obtain ⟨hcz6_0,hcz6_1,hcz6_2,hfz6_0,hfz6_1,hfz6_2⟩:=ybc BK377.out))
 go_loopg [14] k (fun kq v14 w'=>∃ (x14_1:Int),v14= .int .i64 x14_1∧Aside0 (impl_RuleValid.l0 kq a1 l0_1 (l0_1.length:Int) x14_1 a0_0 l0_1 a0_2=some r)∧Aside0 (kq≤k)∧Aside0 (w'.heap[gb377]?=some (.cells #[.int .i64 a0_0,(.slice A0_1 l0_1.length c0_1),.int .i64 a0_2] 67 (0,0)))∧Aside0 (Below w.heap.size w w'))
 case atStart=>exact ⟨(0),yeq,H,⟨Nat.le_refl _⟩,⟨ybk BK377.out⟩,⟨yhb⟩⟩
 case round =>
  clear H
  try clear hcz6_0
  try clear hcz6_1
  try clear hcz6_2
  try clear hfz6_0
  try clear hfz6_1
  try clear hfz6_2
  obtain ⟨x14_1,rfl,HA,HK1,BK377,HB⟩:=hrel
  rcases gk with _|k1
  ·exact absurd HA.out (by simp [impl_RuleValid.l0])
  obtain ⟨H⟩:=HA
  simp only [impl_RuleValid.l0] at H
  replace H:=yis H;obtain ⟨c7b0,H⟩ | ⟨c7b0,H⟩:=H
  ·replace H:=yif H;obtain ⟨c8b0,H⟩:=H
   replace H:=yif H;obtain ⟨c9b0,H⟩:=H
   replace H:=yis H;obtain ⟨c10b0,H⟩ | ⟨c10b0,H⟩:=H
   ·obtain rfl:=ysi H
    obtain ⟨ad379,e379,hx379_0,p379,q379⟩:=yat HR0_1.out x14_1
    cases e379
    replace hx379_0:=ybx HB.out hx379_0
    go_wp2
    go_ret
    exact ⟨yer,yhb⟩
   replace H:=yis H;obtain ⟨c11b0,H⟩ | ⟨c11b0,H⟩:=H
   ·obtain rfl:=ysi H
    obtain ⟨ad379,e379,hx379_0,p379,q379⟩:=yat HR0_1.out x14_1
    cases e379
    replace hx379_0:=ybx HB.out hx379_0
    go_wp2
    go_ret
    exact ⟨yer,yhb⟩
   have c12b0:=eq_true (ydt:0≤x14_1)
   replace H:=yig H;obtain ⟨c13,H⟩:=H
   have c13b0:=eq_true c13
   have c13b1:decide (x14_1≤(l0_1.length:Int))=true:=decide_eq_true c13
   clear c13
   replace H:=ybi H;obtain ⟨t381,A14,H⟩:=H
   try dsimp only at H
   cases t381
   rotate_left
   ·replace H:=ytt H
    obtain rfl:=ysi H
    obtain ⟨ad379,e379,hx379_0,p379,q379⟩:=yat HR0_1.out x14_1
    cases e379
    replace hx379_0:=ybx HB.out hx379_0
    obtain ⟨hcz16_0,hcz16_1,hcz16_2,hfz16_0,hfz16_1,hfz16_2⟩:=ybc BK377.out
    obtain ⟨i017,hi017,_,hsz17,_⟩:=info_parts info3
    obtain ⟨hcut17,hA17,hC17⟩:=print_take_of (P:=Try.prog) (Value.int .i64) 0 22 3 .i64 Try.underlying22 hi017 hsz17 (some ad379) c0_1 l0_1 x14_1 (ydt) (ydt) HC0_1.out
    have hl17_:(l0_1.take (x14_1:Int).toNat).length=(x14_1:Int).toNat:=by
     have e0_:0≤(x14_1:Int):=ydt
     have e1_:(x14_1:Int)≤(l0_1.length:Int):=ydt
     rw [List.length_take];omega
    have HR380:=yam (Kd.C_of_reads (h1:=fun _=>rfl) (hA17 _ (Kd.reads_of_C HR0_1.out)))
    have HC380:=yam hC17
    clear hA17 hC17 hi017 hsz17
    go_wp2_with (first|(go_at_call 85;(first|(with_reducible refine (slices_Contains_int_int.calls k1 _ _ (l0_1.take (x14_1:Int).toNat) (rd l0_1 x14_1) true _ ?side1 ?side2 A14.out).mono ?_)|(rw [← hl17_];(with_reducible refine (slices_Contains_int_int.calls k1 _ _ (l0_1.take (x14_1:Int).toNat) (rd l0_1 x14_1) true _ ?_ ?_ A14.out).mono ?_)));exact Kd.Cz ((Kd.C_below HR380.out HB.out));exact HC380.out;rintro e w' ⟨rfl,⟨nd,rfl⟩⟩))
    go_ret
    exact ⟨yer,yhb⟩
   replace H:=yff H
   replace H:=yam H
   obtain ⟨ad379,e379,hx379_0,p379,q379⟩:=yat HR0_1.out x14_1
   cases e379
   replace hx379_0:=ybx HB.out hx379_0
   obtain ⟨hcz18_0,hcz18_1,hcz18_2,hfz18_0,hfz18_1,hfz18_2⟩:=ybc BK377.out
   obtain ⟨i019,hi019,_,hsz19,_⟩:=info_parts info3
   obtain ⟨hcut19,hA19,hC19⟩:=print_take_of (P:=Try.prog) (Value.int .i64) 0 22 3 .i64 Try.underlying22 hi019 hsz19 (some ad379) c0_1 l0_1 x14_1 (ydt) (ydt) HC0_1.out
   have hl19_:(l0_1.take (x14_1:Int).toNat).length=(x14_1:Int).toNat:=by
    have e0_:0≤(x14_1:Int):=ydt
    have e1_:(x14_1:Int)≤(l0_1.length:Int):=ydt
    rw [List.length_take];omega
   have HR380:=yam (Kd.C_of_reads (h1:=fun _=>rfl) (hA19 _ (Kd.reads_of_C HR0_1.out)))
   have HC380:=yam hC19
   clear hA19 hC19 hi019 hsz19
   go_wp2_with (first|(go_at_call 85;(first|(with_reducible refine (slices_Contains_int_int.calls k1 _ _ (l0_1.take (x14_1:Int).toNat) (rd l0_1 x14_1) false _ ?side1 ?side2 A14.out).mono ?_)|(rw [← hl19_];(with_reducible refine (slices_Contains_int_int.calls k1 _ _ (l0_1.take (x14_1:Int).toNat) (rd l0_1 x14_1) false _ ?_ ?_ A14.out).mono ?_)));exact Kd.Cz ((Kd.C_below HR380.out HB.out));exact HC380.out;rintro e w' ⟨rfl,⟨nd,rfl⟩⟩))
   go_roundg k1
   case measure=>have:=HK1.out;omega
   case rel=>exact ⟨(wrap64 (x14_1 + 1)),yeq,H,⟨by have:=HK1.out;omega⟩,⟨ybk BK377.out⟩,⟨yhb⟩⟩
  replace H:=yit H;obtain ⟨c20,H⟩ | ⟨c20,H⟩:=H
  ·have c20b0:(a0_0 == 1)=true:=beq_iff_eq.mpr c20
   have c20b1:(a0_0 != 1)=false:=bne_eq_false_iff_eq.mpr c20
   clear c20
   replace H:=yit H;obtain ⟨c21,H⟩ | ⟨c21,H⟩:=H
   rotate_left
   ·have c21b0:decide (2≤(l0_1.length:Int))=false:=decide_eq_false c21
    have c21b1:decide (2≤l0_1.length)=false:=decide_eq_false (by omega)
    clear c21
    obtain rfl:=ysi H
    obtain ⟨hcz25_0,hcz25_1,hcz25_2,hfz25_0,hfz25_1,hfz25_2⟩:=ybc BK377.out
    go_wp2
    go_ret
    exact ⟨yer,yhb⟩
   have c21b0:decide (2≤(l0_1.length:Int))=true:=decide_eq_true c21
   have c21b1:decide (2≤l0_1.length)=true:=decide_eq_true (by omega)
   clear c21
   replace H:=yit H;obtain ⟨c22,H⟩ | ⟨c22,H⟩:=H
   ·have c22b0:decide ((l0_1.length:Int)≤4)=true:=decide_eq_true c22
    have c22b1:decide (l0_1.length≤4)=true:=decide_eq_true (by omega)
    clear c22
    obtain rfl:=ysi H
    obtain ⟨hcz23_0,hcz23_1,hcz23_2,hfz23_0,hfz23_1,hfz23_2⟩:=ybc BK377.out
    go_wp2
    go_ret
    exact ⟨yer,yhb⟩
   have c22b0:decide ((l0_1.length:Int)≤4)=false:=decide_eq_false c22
   have c22b1:decide (l0_1.length≤4)=false:=decide_eq_false (by omega)
   clear c22
   obtain rfl:=ysi H
   obtain ⟨hcz24_0,hcz24_1,hcz24_2,hfz24_0,hfz24_1,hfz24_2⟩:=ybc BK377.out
   go_wp2
   go_ret
   exact ⟨yer,yhb⟩
  have c20b0:(a0_0 == 1)=false:=beq_eq_false_iff_ne.mpr c20
  have c20b1:(a0_0 != 1)=true:=bne_iff_ne.mpr c20
  have HC26:=yam H
  clear H
  obtain ⟨hcz27_0,hcz27_1,hcz27_2,hfz27_0,hfz27_1,hfz27_2⟩:=ybc BK377.out
  go_upto_if 55 with (fail)
  go_cut [55] (fun v55 wc=>∃ (kq:Nat) (x55_25:Bool),v55= .bool x55_25∧Aside0 (impl_RuleValid.j1 kq a1 (l0_1.length:Int) a0_0 x55_25 a0_0 l0_1 a0_2=some r)∧Aside0 (kq≤k1)∧Aside0 (wc.heap[gb377]?=some (.cells #[.int .i64 a0_0,(.slice A0_1 l0_1.length c0_1),.int .i64 a0_2] 67 (0,0)))∧Aside0 (Below w.heap.size w wc))
  case first =>
   have H:=HC26.out
   clear HC26
   replace H:=yit H;obtain ⟨c28,H⟩ | ⟨c28,H⟩:=H
   rotate_left
   ·have c28b0:(a0_0 == 2)=false:=beq_eq_false_iff_ne.mpr c28
    have c28b1:(a0_0 != 2)=true:=bne_iff_ne.mpr c28
    (first|rw [c28b0]|(simp only [i64_w,i32_w];rw [c28b0])|skip)
    replace H:=yam H
    go_wp2
    go_meet
    case rel=>exact ⟨_,((a0_0 == 3)),yeq,H,⟨by have:=HK1.out;first|omega|exact Nat.le_refl _⟩,⟨ybk BK377.out⟩,⟨yhb⟩⟩
   have c28b0:(a0_0 == 2)=true:=beq_iff_eq.mpr c28
   have c28b1:(a0_0 != 2)=false:=bne_eq_false_iff_eq.mpr c28
   clear c28
   (first|rw [c28b0]|(simp only [i64_w,i32_w];rw [c28b0])|skip)
   replace H:=yam H
   go_wp2
   go_meet
   case rel=>exact ⟨_,((a0_0 == 2)),yeq,H,⟨by have:=HK1.out;first|omega|exact Nat.le_refl _⟩,⟨ybk BK377.out⟩,⟨yhb⟩⟩
  case rest =>
   clear HC26
   try clear c7b0
   try clear c20
   try clear c20b0
   try clear c20b1
   try clear hcz27_0
   try clear hcz27_1
   try clear hcz27_2
   try clear hfz27_0
   try clear hfz27_1
   try clear hfz27_2
   obtain ⟨kq,x55_25,rfl,HA,HJ25,BK377,HB⟩:=hcut
   rcases kq with _|kj25
   ·exact absurd HA.out (by simp [impl_RuleValid.j1])
   obtain ⟨H⟩:=HA
   simp only [impl_RuleValid.j1] at H
   cases x55_25
   rotate_left
   ·replace H:=ytt H
    replace H:=yit H;obtain ⟨c30,H⟩ | ⟨c30,H⟩:=H
    rotate_left
    ·have c30b0:decide (1≤(l0_1.length:Int))=false:=decide_eq_false c30
     have c30b1:decide (1≤l0_1.length)=false:=decide_eq_false (by omega)
     clear c30
     obtain rfl:=ysi H
     go_wp2
     go_ret
     exact ⟨yer,yhb⟩
    have c30b0:decide (1≤(l0_1.length:Int))=true:=decide_eq_true c30
    have c30b1:decide (1≤l0_1.length)=true:=decide_eq_true (by omega)
    clear c30
    replace H:=yit H;obtain ⟨c31,H⟩ | ⟨c31,H⟩:=H
    rotate_left
    ·have c31b0:decide ((l0_1.length:Int)≤4)=false:=decide_eq_false c31
     have c31b1:decide (l0_1.length≤4)=false:=decide_eq_false (by omega)
     clear c31
     obtain rfl:=ysi H
     go_wp2
     go_ret
     exact ⟨yer,yhb⟩
    have c31b0:decide ((l0_1.length:Int)≤4)=true:=decide_eq_true c31
    have c31b1:decide (l0_1.length≤4)=true:=decide_eq_true (by omega)
    clear c31
    replace H:=yis H;obtain ⟨c32b0,H⟩ | ⟨c32b0,H⟩:=H
    ·obtain rfl:=ysi H
     obtain ⟨hcz33_0,hcz33_1,hcz33_2,hfz33_0,hfz33_1,hfz33_2⟩:=ybc BK377.out
     go_wp2
     go_ret
     exact ⟨yer,yhb⟩
    obtain rfl:=ysi H
    obtain ⟨hcz34_0,hcz34_1,hcz34_2,hfz34_0,hfz34_1,hfz34_2⟩:=ybc BK377.out
    go_wp2
    go_ret
    exact ⟨yer,yhb⟩
   replace H:=yff H
   replace H:=yit H;obtain ⟨c35,H⟩ | ⟨c35,H⟩:=H
   ·have c35b0:(a0_0 == 4)=true:=beq_iff_eq.mpr c35
    have c35b1:(a0_0 != 4)=false:=bne_eq_false_iff_eq.mpr c35
    clear c35
    replace H:=yit H;obtain ⟨c36,H⟩ | ⟨c36,H⟩:=H
    rotate_left
    ·have c36b0:((l0_1.length:Int) == 2)=false:=beq_eq_false_iff_ne.mpr c36
     have c36b1:((l0_1.length:Int) != 2)=true:=bne_iff_ne.mpr c36
     obtain rfl:=ysi H
     go_wp2
     go_ret
     exact ⟨yer,yhb⟩
    have c36b0:((l0_1.length:Int) == 2)=true:=beq_iff_eq.mpr c36
    have c36b1:((l0_1.length:Int) != 2)=false:=bne_eq_false_iff_eq.mpr c36
    clear c36
    obtain rfl:=ysi H
    obtain ⟨hcz37_0,hcz37_1,hcz37_2,hfz37_0,hfz37_1,hfz37_2⟩:=ybc BK377.out
    go_wp2
    go_ret
    exact ⟨yer,yhb⟩
   have c35b0:(a0_0 == 4)=false:=beq_eq_false_iff_ne.mpr c35
   have c35b1:(a0_0 != 4)=true:=bne_iff_ne.mpr c35
   replace H:=yit H;obtain ⟨c38,H⟩ | ⟨c38,H⟩:=H
   rotate_left
   ·have c38b0:(a0_0 == 5)=false:=beq_eq_false_iff_ne.mpr c38
    have c38b1:(a0_0 != 5)=true:=bne_iff_ne.mpr c38
    obtain rfl:=ysi H
    go_wp2
    go_ret
    exact ⟨yer,yhb⟩
   have c38b0:(a0_0 == 5)=true:=beq_iff_eq.mpr c38
   have c38b1:(a0_0 != 5)=false:=bne_eq_false_iff_eq.mpr c38
   clear c38
   replace H:=yit H;obtain ⟨c39,H⟩ | ⟨c39,H⟩:=H
   rotate_left
   ·have c39b0:((l0_1.length:Int) == 2)=false:=beq_eq_false_iff_ne.mpr c39
    have c39b1:((l0_1.length:Int) != 2)=true:=bne_iff_ne.mpr c39
    obtain rfl:=ysi H
    go_wp2
    go_ret
    exact ⟨yer,yhb⟩
   have c39b0:((l0_1.length:Int) == 2)=true:=beq_iff_eq.mpr c39
   have c39b1:((l0_1.length:Int) != 2)=false:=bne_eq_false_iff_eq.mpr c39
   clear c39
   replace H:=yis H;obtain ⟨c40b0,H⟩ | ⟨c40b0,H⟩:=H
   ·obtain rfl:=ysi H
    obtain ⟨hcz41_0,hcz41_1,hcz41_2,hfz41_0,hfz41_1,hfz41_2⟩:=ybc BK377.out
    go_wp2
    go_ret
    exact ⟨yer,yhb⟩
   obtain rfl:=ysi H
   obtain ⟨hcz42_0,hcz42_1,hcz42_2,hfz42_0,hfz42_1,hfz42_2⟩:=ybc BK377.out
   go_wp2
   go_ret
   exact ⟨yer,yhb⟩
end Go.Proofs.Ytdemlminhkhonaa.P
