/- The machine's side: each Go function as a plain Lean function and the proof that the machine's call does what that function says; written by this session's own program over the kit's print. -/
import Derived.Test.YtmjbnghhfadapaaZP1
import Derived.Test.YtmjbnghhfadapaaZP5
import Derived.Test.YtmjbnghhfadapaaZP6
import Derived.Test.YtmjbnghhfadapaaZP7
namespace Go.Proofs.Ytmjbnghhfadapaa.P
set_option maxHeartbeats 8000000
set_option maxRecDepth 100000
open Go.RowKit Go.Proofs.YtmjbnghhfadapaaW.PrintWords Go.Proofs.YtmjbnghhfadapaaW.PrintLast Go.Proofs.YtmjbnghhfadapaaW.PrintMore
attribute [local go_sem] max2_int min2_int max_two min_two max_three min_three max_four min_four   -- for this text's walks alone
set_option linter.unusedVariables false
set_option linter.unusedSimpArgs false
def impl_CountSolutions.f (k:Nat)(a0_0:Int)(l0_1:List Int)(l0_2:List (S73))(a1:Int):Option (Int):=(impl_PuzzleValid.f k a0_0 l0_1 l0_2).bind fun t544=>(if t544=true then (if a1 < 1 then (some (-1)) else (if a1 > 600 then (some (-1)) else ((impl_firstSolutions.f k a0_0 l0_1 l0_2 l0_1 a1).bind fun t545=>(some (t545.length:Int))))) else (some (-1)))
theorem impl_CountSolutions.calls (k:Nat)(a0_0:Int)(A0_1:Option Addr)(c0_1:Nat)(l0_1:List Int)(A0_2:Option Addr)(c0_2:Nat)(l0_2:List (S73))(a1:Int)(r:Int)(w:World)(hr0_1:Kd.C (Kd.int .i64) w A0_1 l0_1.length l0_1)(hc0_1:l0_1.length≤c0_1)(hr0_2:Kd.C k73 w A0_2 l0_2.length l0_2)(hc0_2:l0_2.length≤c0_2)(h:impl_CountSolutions.f k a0_0 l0_1 l0_2 a1=some r) :
  Calls Try.prog 33 #[.agg #[.int .i64 a0_0,.slice A0_1 l0_1.length c0_1,.slice A0_2 l0_2.length c0_2],.int .i64 a1] w fun e w'=>e= .returned (.int .i64 r)∧Below w.heap.size w w':=by
 have hu37:=Try.underlying37
 have HR0_1:=yam hr0_1
 have HC0_1:=yam hc0_1
 clear hr0_1 hc0_1
 have HR0_2:=yam hr0_2
 have HC0_2:=yam hc0_2
 clear hr0_2 hc0_2
 have HB:=yam (Below.refl w.heap.size w)
 unfold impl_CountSolutions.f at h
 have H:=h
 clear h
 replace H:=ybi H;obtain ⟨t544,A3,H⟩:=H
 try dsimp only at H
 cases t544
 ·replace H:=yff H
  obtain rfl:=ysi H
  go_enter Try.func33,Try.ntmps33
  go_wp2_with (first|(refine ybe 2 #[.int .i64 a0_0,.slice A0_1 l0_1.length c0_1,.slice A0_2 l0_2.length c0_2] 37 ?_;intro gb543 hg w20 hbox hb;have BK543:=yam (hbox);have GW543:=yam ((by rw [hg];exact (below_size (yez HB.out)):w.heap.size≤gb543));replace HB:=yam (below_step (yez HB.out) hb);have GE543:=GW543;clear hb hbox hg;obtain ⟨hcz21_0,hcz21_1,hcz21_2,hfz21_0,hfz21_1,hfz21_2⟩:=ybc BK543.out)|(refine goesL_ (some 6) rfl rfl Try.func64 (by kernel_rfl) rfl #[.agg #[.int .i64 a0_0,.slice A0_1 l0_1.length c0_1,.slice A0_2 l0_2.length c0_2]] rfl ymd ?_;(with_reducible refine (impl_PuzzleValid.calls k a0_0 _ _ l0_1 _ _ l0_2 false _ ?_ ?_ ?_ ?_ A3.out).mono ?_);exact Kd.Cz ((Kd.C_below HR0_1.out HB.out));exact HC0_1.out;exact Kd.Cz ((Kd.C_below HR0_2.out HB.out));exact HC0_2.out;rintro e w22 ⟨rfl,hb⟩;refine ⟨_,rfl,?_⟩;replace BK543:=yam (ybb BK543.out hb);replace HB:=yam (below_step yhb hb);(try clear hb)))
  go_ret
  exact ⟨yer,yhb⟩
 replace H:=ytt H
 replace H:=yis H;obtain ⟨c5b0,H⟩ | ⟨c5b0,H⟩:=H
 ·obtain rfl:=ysi H
  go_enter Try.func33,Try.ntmps33
  go_wp2_with (first|(refine ybe 2 #[.int .i64 a0_0,.slice A0_1 l0_1.length c0_1,.slice A0_2 l0_2.length c0_2] 37 ?_;intro gb543 hg w6 hbox hb;have BK543:=yam (hbox);have GW543:=yam ((by rw [hg];exact (below_size (yez HB.out)):w.heap.size≤gb543));replace HB:=yam (below_step (yez HB.out) hb);have GE543:=GW543;clear hb hbox hg;obtain ⟨hcz7_0,hcz7_1,hcz7_2,hfz7_0,hfz7_1,hfz7_2⟩:=ybc BK543.out)|(refine goesL_ (some 6) rfl rfl Try.func64 (by kernel_rfl) rfl #[.agg #[.int .i64 a0_0,.slice A0_1 l0_1.length c0_1,.slice A0_2 l0_2.length c0_2]] rfl ymd ?_;(with_reducible refine (impl_PuzzleValid.calls k a0_0 _ _ l0_1 _ _ l0_2 true _ ?_ ?_ ?_ ?_ A3.out).mono ?_);exact Kd.Cz ((Kd.C_below HR0_1.out HB.out));exact HC0_1.out;exact Kd.Cz ((Kd.C_below HR0_2.out HB.out));exact HC0_2.out;rintro e w8 ⟨rfl,hb⟩;refine ⟨_,rfl,?_⟩;replace BK543:=yam (ybb BK543.out hb);replace HB:=yam (below_step yhb hb);(try clear hb)))
  go_ret
  exact ⟨yer,yhb⟩
 replace H:=yis H;obtain ⟨c9b0,H⟩ | ⟨c9b0,H⟩:=H
 ·obtain rfl:=ysi H
  go_enter Try.func33,Try.ntmps33
  go_wp2_with (first|(refine ybe 2 #[.int .i64 a0_0,.slice A0_1 l0_1.length c0_1,.slice A0_2 l0_2.length c0_2] 37 ?_;intro gb543 hg w10 hbox hb;have BK543:=yam (hbox);have GW543:=yam ((by rw [hg];exact (below_size (yez HB.out)):w.heap.size≤gb543));replace HB:=yam (below_step (yez HB.out) hb);have GE543:=GW543;clear hb hbox hg;obtain ⟨hcz11_0,hcz11_1,hcz11_2,hfz11_0,hfz11_1,hfz11_2⟩:=ybc BK543.out)|(refine goesL_ (some 6) rfl rfl Try.func64 (by kernel_rfl) rfl #[.agg #[.int .i64 a0_0,.slice A0_1 l0_1.length c0_1,.slice A0_2 l0_2.length c0_2]] rfl ymd ?_;(with_reducible refine (impl_PuzzleValid.calls k a0_0 _ _ l0_1 _ _ l0_2 true _ ?_ ?_ ?_ ?_ A3.out).mono ?_);exact Kd.Cz ((Kd.C_below HR0_1.out HB.out));exact HC0_1.out;exact Kd.Cz ((Kd.C_below HR0_2.out HB.out));exact HC0_2.out;rintro e w12 ⟨rfl,hb⟩;refine ⟨_,rfl,?_⟩;replace BK543:=yam (ybb BK543.out hb);replace HB:=yam (below_step yhb hb);(try clear hb)))
  go_ret
  exact ⟨yer,yhb⟩
 replace H:=ybi H;obtain ⟨t545,A13,H⟩:=H
 try dsimp only at H
 obtain rfl:=ysi H
 go_enter Try.func33,Try.ntmps33
 go_wp2_with (first|(refine ybe 2 #[.int .i64 a0_0,.slice A0_1 l0_1.length c0_1,.slice A0_2 l0_2.length c0_2] 37 ?_;intro gb543 hg w14 hbox hb;have BK543:=yam (hbox);have GW543:=yam ((by rw [hg];exact (below_size (yez HB.out)):w.heap.size≤gb543));replace HB:=yam (below_step (yez HB.out) hb);have GE543:=GW543;clear hb hbox hg;obtain ⟨hcz15_0,hcz15_1,hcz15_2,hfz15_0,hfz15_1,hfz15_2⟩:=ybc BK543.out)|(refine goesL_ (some 6) rfl rfl Try.func64 (by kernel_rfl) rfl #[.agg #[.int .i64 a0_0,.slice A0_1 l0_1.length c0_1,.slice A0_2 l0_2.length c0_2]] rfl ymd ?_;(with_reducible refine (impl_PuzzleValid.calls k a0_0 _ _ l0_1 _ _ l0_2 true _ ?_ ?_ ?_ ?_ A3.out).mono ?_);exact Kd.Cz ((Kd.C_below HR0_1.out HB.out));exact HC0_1.out;exact Kd.Cz ((Kd.C_below HR0_2.out HB.out));exact HC0_2.out;rintro e w16 ⟨rfl,hb⟩;refine ⟨_,rfl,?_⟩;replace BK543:=yam (ybb BK543.out hb);replace HB:=yam (below_step yhb hb);(try clear hb);obtain ⟨hcz17_0,hcz17_1,hcz17_2,hfz17_0,hfz17_1,hfz17_2⟩:=ybc BK543.out)|(refine goesL_ (some 20) rfl rfl Try.func65 (by kernel_rfl) rfl #[.agg #[.int .i64 a0_0,.slice A0_1 l0_1.length c0_1,.slice A0_2 l0_2.length c0_2],.slice A0_1 l0_1.length c0_1,.int .i64 a1] rfl ymd ?_;(with_reducible refine (impl_firstSolutions.calls k a0_0 _ _ l0_1 _ _ l0_2 _ _ l0_1 a1 t545 _ ?_ ?_ ?_ ?_ ?_ ?_ A13.out).mono ?_);exact Kd.Cz ((Kd.C_below HR0_1.out HB.out));exact HC0_1.out;exact Kd.Cz ((Kd.C_below HR0_2.out HB.out));exact HC0_2.out;exact Kd.Cz ((Kd.C_below HR0_1.out HB.out));exact HC0_1.out;rintro e w18 ⟨v546,rfl,ho0,hb⟩;refine ⟨_,rfl,?_⟩;have HO547:=yam (Kd.S_lower ho0 (below_size yhb));replace BK543:=yam (ybb BK543.out hb);replace HB:=yam (below_step yhb hb);(try clear hb);(try clear ho0);obtain ⟨Ao19,co19,eo19⟩:=Kd.S_slice HO547.out;subst eo19))
 go_ret
 exact ⟨yer,yhb⟩
def impl_onlyOne.f (k:Nat)(a0_0:Int)(l0_1:List Int)(l0_2:List (S73)):Option (Bool):=(impl_CountSolutions.f k a0_0 l0_1 l0_2 2).bind fun t602=>(some (t602 == 1))
theorem impl_onlyOne.calls (k:Nat)(a0_0:Int)(A0_1:Option Addr)(c0_1:Nat)(l0_1:List Int)(A0_2:Option Addr)(c0_2:Nat)(l0_2:List (S73))(r:Bool)(w:World)(hr0_1:Kd.C (Kd.int .i64) w A0_1 l0_1.length l0_1)(hc0_1:l0_1.length≤c0_1)(hr0_2:Kd.C k73 w A0_2 l0_2.length l0_2)(hc0_2:l0_2.length≤c0_2)(h:impl_onlyOne.f k a0_0 l0_1 l0_2=some r) :
  Calls Try.prog 68 #[.agg #[.int .i64 a0_0,.slice A0_1 l0_1.length c0_1,.slice A0_2 l0_2.length c0_2]] w fun e w'=>e= .returned (.bool r)∧Below w.heap.size w w':=by
 have hu37:=Try.underlying37
 have HR0_1:=yam hr0_1
 have HC0_1:=yam hc0_1
 clear hr0_1 hc0_1
 have HR0_2:=yam hr0_2
 have HC0_2:=yam hc0_2
 clear hr0_2 hc0_2
 have HB:=yam (Below.refl w.heap.size w)
 unfold impl_onlyOne.f at h
 have H:=h
 clear h
 replace H:=ybi H;obtain ⟨t602,A2,H⟩:=H
 try dsimp only at H
 obtain rfl:=ysi H
 go_enter Try.func68,Try.ntmps68
 go_wp2_with (first|(refine ybe 1 #[.int .i64 a0_0,.slice A0_1 l0_1.length c0_1,.slice A0_2 l0_2.length c0_2] 37 ?_;intro gb601 hg w3 hbox hb;have BK601:=yam (hbox);have GW601:=yam ((by rw [hg];exact (below_size (yez HB.out)):w.heap.size≤gb601));replace HB:=yam (below_step (yez HB.out) hb);have GE601:=GW601;clear hb hbox hg;obtain ⟨hcz4_0,hcz4_1,hcz4_2,hfz4_0,hfz4_1,hfz4_2⟩:=ybc BK601.out)|(refine goesL_ (some 4) rfl rfl Try.func33 (by kernel_rfl) rfl #[.agg #[.int .i64 a0_0,.slice A0_1 l0_1.length c0_1,.slice A0_2 l0_2.length c0_2],.int .i64 2] rfl ymd ?_;(with_reducible refine (impl_CountSolutions.calls k a0_0 _ _ l0_1 _ _ l0_2 2 t602 _ ?_ ?_ ?_ ?_ A2.out).mono ?_);exact Kd.Cz ((Kd.C_below HR0_1.out HB.out));exact HC0_1.out;exact Kd.Cz ((Kd.C_below HR0_2.out HB.out));exact HC0_2.out;rintro e w5 ⟨rfl,hb⟩;refine ⟨_,rfl,?_⟩;replace BK601:=yam (ybb BK601.out hb);replace HB:=yam (below_step yhb hb);(try clear hb)))
 go_ret
 exact ⟨yer,yhb⟩
def impl_without.l0:Nat→List Int→Int→Int→Int→List Int→List (S73)→Option (Int × List Int × (List (S73)))
 | 0,_,_,_,_,_,_=>none
 | k + 1,x10,x11,x12,x613000,x613001,x613002=>if x12 < x11 then (if 0≤x12 then (if x12 < (x10.length:Int) then (if 0≤(rd x10 x12) then (if (rd x10 x12) < (x613001.length:Int) then (impl_without.l0 k x10 x11 (wrap64 (x12 + 1)) x613000 (x613001.set ((rd x10 x12):Int).toNat 0) x613002) else (none)) else (none)) else (none)) else (none)) else (some (x613000,x613001,x613002))
def impl_without.f (k:Nat)(a0_0:Int)(l0_1:List Int)(l0_2:List (S73))(l1:List Int):Option (Int × List Int × (List (S73))):=(impl_copyPuzzle.f k a0_0 l0_1 l0_2).bind fun bt605=>(impl_without.l0 k l1 (l1.length:Int) 0 bt605.1 bt605.2.1 bt605.2.2)
theorem impl_without.calls (k:Nat)(a0_0:Int)(A0_1:Option Addr)(c0_1:Nat)(l0_1:List Int)(A0_2:Option Addr)(c0_2:Nat)(l0_2:List (S73))(A1:Option Addr)(c1:Nat)(l1:List Int)(r1:Int)(r2:List Int)(r3:List (S73))(w:World)(hr0_1:Kd.C (Kd.int .i64) w A0_1 l0_1.length l0_1)(hc0_1:l0_1.length≤c0_1)(hr0_2:Kd.C k73 w A0_2 l0_2.length l0_2)(hc0_2:l0_2.length≤c0_2)(hr1:Kd.C (Kd.int .i64) w A1 l1.length l1)(hc1:l1.length≤c1)(h:impl_without.f k a0_0 l0_1 l0_2 l1=some (r1,r2,r3)) :
  Calls Try.prog 69 #[.agg #[.int .i64 a0_0,.slice A0_1 l0_1.length c0_1,.slice A0_2 l0_2.length c0_2],.slice A1 l1.length c1] w fun e w'=>∃ v1_ v2_:Value,e= .returned (.agg #[.int .i64 r1,v1_,v2_])∧Kd.R (Kd.int .i64) 3 w' w.heap.size (fun _=>True) v1_ r2∧Kd.S k73 73 w' w.heap.size (fun k_=>some k_≠(v1_:Value).ownBlock) v2_ r3∧Below w.heap.size w w':=by
 have hu37:=Try.underlying37
 have HR0_1:=yam hr0_1
 have HC0_1:=yam hc0_1
 clear hr0_1 hc0_1
 have HR0_2:=yam hr0_2
 have HC0_2:=yam hc0_2
 clear hr0_2 hc0_2
 have HR1:=yam hr1
 have HC1:=yam hc1
 clear hr1 hc1
 have HB:=yam (Below.refl w.heap.size w)
 unfold impl_without.f at h
 have H:=h
 clear h
 replace H:=ybi H;obtain ⟨⟨t605,t606,t609⟩,A3,H⟩:=H
 replace H:(impl_without.l0 k l1 (l1.length:Int) 0 t605 t606 t609)=some (r1,r2,r3):=H
 replace H:=yam H
 go_enter Try.func69,Try.ntmps69
 go_wp2_with (first|(refine ybe 2 #[.int .i64 a0_0,.slice A0_1 l0_1.length c0_1,.slice A0_2 l0_2.length c0_2] 37 ?_;intro gb603 hg w4 hbox hb;have BK603:=yam (hbox);have GW603:=yam ((by rw [hg];exact (below_size (yez HB.out)):w.heap.size≤gb603));replace HB:=yam (below_step (yez HB.out) hb);have GE603:=GW603;clear hb hbox hg)|(refine ybe 4 #[.int .i64 0,.slice none 0 0,.slice none 0 0] 37 ?_;intro gb604 hg w5 hbox hb;have BK604:=yam (hbox);have GW604:=yam ((by rw [hg];exact (below_size yhb):w.heap.size≤gb604));replace HB:=yam (below_step yhb hb);have GE604:=GW604;have NB603_604:=yam ((by rw [hg];exact Nat.ne_of_lt (blk_lt (g:=gb603) (o:= .cells #[.int .i64 a0_0,.slice A0_1 l0_1.length c0_1,.slice A0_2 l0_2.length c0_2] 37 (0,0)) (ybz BK603.out)):gb603≠gb604));have NB604_603:=yam ((by rw [hg];exact Nat.ne_of_gt (blk_lt (g:=gb603) (o:= .cells #[.int .i64 a0_0,.slice A0_1 l0_1.length c0_1,.slice A0_2 l0_2.length c0_2] 37 (0,0)) (ybz BK603.out)):gb604≠gb603));replace BK603:=yam (ybb BK603.out hb);clear hb hbox hg;have hnb6:=NB603_604.out;have hnc6:=NB604_603.out;obtain ⟨hcz7_0,hcz7_1,hcz7_2,hfz7_0,hfz7_1,hfz7_2⟩:=ybc BK603.out)|(refine goesL_ (some 9) rfl rfl Try.func58 (by kernel_rfl) rfl #[.agg #[.int .i64 a0_0,.slice A0_1 l0_1.length c0_1,.slice A0_2 l0_2.length c0_2]] rfl ymd ?_;(with_reducible refine (impl_copyPuzzle.calls k a0_0 _ _ l0_1 _ _ l0_2 t605 t606 t609 _ ?_ ?_ ?_ ?_ A3.out).mono ?_);exact Kd.Cz ((Kd.C_below HR0_1.out HB.out));exact HC0_1.out;exact Kd.Cz ((Kd.C_below HR0_2.out HB.out));exact HC0_2.out;rintro e w8 ⟨v607,v610,rfl,ho0,ho1,hb⟩;refine ⟨_,rfl,?_⟩;have HO608:=yam (Kd.R_lower ho0 (below_size yhb));have HO611:=yam (Kd.S_lower ho1 (below_size yhb));replace BK603:=yam (ybb BK603.out hb);replace BK604:=yam (ybb BK604.out hb);replace HB:=yam (below_step yhb hb);(try clear hb);(try clear ho0);(try clear ho1))|(refine ybe 5 #[.int .i64 0,.slice none 0 0,.slice none 0 0] 37 ?_;intro gb612 hg w9 hbox hb;replace HO608:=yam (Kd.R_below (Kd.Yz HO608.out) hb);replace HO611:=yam (Kd.S_below (by (with_reducible repeat (first|apply Kd.S_alloc|apply Kd.S_drewN|apply Kd.S_drew));exact HO611.out) hb);have BK612:=yam (hbox);have GW612:=yam ((by rw [hg];exact (below_size yhb):w.heap.size≤gb612));replace HB:=yam (below_step yhb hb);have GE612:=GW612;have NB603_612:=yam ((by rw [hg];exact Nat.ne_of_lt (blk_lt (g:=gb603) (o:= .cells #[.int .i64 a0_0,.slice A0_1 l0_1.length c0_1,.slice A0_2 l0_2.length c0_2] 37 (0,0)) (ybz BK603.out)):gb603≠gb612));have NB612_603:=yam ((by rw [hg];exact Nat.ne_of_gt (blk_lt (g:=gb603) (o:= .cells #[.int .i64 a0_0,.slice A0_1 l0_1.length c0_1,.slice A0_2 l0_2.length c0_2] 37 (0,0)) (ybz BK603.out)):gb612≠gb603));replace BK603:=yam (ybb BK603.out hb);have NB604_612:=yam ((by rw [hg];exact Nat.ne_of_lt (blk_lt (g:=gb604) (o:= .cells #[.int .i64 0,.slice none 0 0,.slice none 0 0] 37 (0,0)) (ybz BK604.out)):gb604≠gb612));have NB612_604:=yam ((by rw [hg];exact Nat.ne_of_gt (blk_lt (g:=gb604) (o:= .cells #[.int .i64 0,.slice none 0 0,.slice none 0 0] 37 (0,0)) (ybz BK604.out)):gb612≠gb604));replace BK604:=yam (ybb BK604.out hb);clear hb hbox hg;have hnb10:=NB612_603.out;have hnc10:=NB603_612.out;have hnb11:=NB612_604.out;have hnc11:=NB604_612.out;obtain ⟨hcz12_0,hcz12_1,hcz12_2,hfz12_0,hfz12_1,hfz12_2⟩:=ybc BK612.out;obtain ⟨Ao13,co13,eo13⟩:=Kd.R_slice HO608.out;subst eo13;obtain ⟨Ao14,co14,eo14⟩:=Kd.S_slice HO611.out;subst eo14))
 go_loopg [12] k (fun kq v12 w'=>∃ (x12_1:Int) (x613001_1:List Int) (u613001:Value),v12= .int .i64 x12_1∧Aside0 (impl_without.l0 kq l1 (l1.length:Int) x12_1 t605 x613001_1 t609=some (r1,r2,r3))∧Aside0 (kq≤k)∧Aside0 (Kd.R (Kd.int .i64) 3 w' w.heap.size (fun _=>True) u613001 x613001_1)∧Aside0 (Kd.S k73 73 w' w.heap.size (fun k_=>some k_≠(u613001:Value).ownBlock) (.slice Ao14 t609.length co14) t609)∧Aside0 (w'.heap[gb603]?=some (.cells #[.int .i64 a0_0,(.slice A0_1 l0_1.length c0_1),(.slice A0_2 l0_2.length c0_2)] 37 (0,0)))∧Aside0 (w'.heap[gb604]?=some (.cells #[.int .i64 0,(.slice none 0 0),(.slice none 0 0)] 37 (0,0)))∧Aside0 (w'.heap[gb612]?=some (.cells #[.int .i64 t605,u613001,(.slice Ao14 t609.length co14)] 37 (0,0)))∧Aside0 (Below w.heap.size w w'))
 case atStart=>exact ⟨(0),(t606),(.slice Ao13 t606.length co13),yeq,H,⟨Nat.le_refl _⟩,⟨by (with_reducible repeat (first|apply Kd.Ya|apply Kd.Yn|apply Kd.Yd));exact Kd.R_mono (Kd.R_far (p:=⟨gb612,2,none⟩) (Kd.R_far (p:=⟨gb612,1,none⟩) (Kd.R_far (p:=⟨gb612,0,none⟩) (Kd.R_types HO608.out BK612.out (by decide)) (fun _ hk=>hk.2) (.int .i64 t605)) (fun _ hk=>hk.2) (.slice Ao13 t606.length co13)) (fun _ hk=>hk.2) (.slice Ao14 t609.length co14)) (fun _ hk=>trivial)⟩,⟨by (with_reducible repeat (first|apply Kd.S_alloc|apply Kd.S_drewN|apply Kd.S_drew));exact Kd.S_mono (Kd.S_far (p:=⟨gb612,2,none⟩) (Kd.S_far (p:=⟨gb612,1,none⟩) (Kd.S_far (p:=⟨gb612,0,none⟩) (Kd.S_types HO611.out BK612.out (by decide)) (fun _ hk=>hk.2) (.int .i64 t605)) (fun _ hk=>hk.2) (.slice Ao13 t606.length co13)) (fun _ hk=>hk.2) (.slice Ao14 t609.length co14)) (fun _ hk=>hk.1)⟩,⟨by (with_reducible repeat (first|refine ybn ?_ _|refine ybd ?_|refine yba ?_ _));refine blk_far ?_ NB603_612.out _;(with_reducible repeat (first|refine ybn ?_ _|refine ybd ?_|refine yba ?_ _));refine blk_far ?_ NB603_612.out _;(with_reducible repeat (first|refine ybn ?_ _|refine ybd ?_|refine yba ?_ _));refine blk_far ?_ NB603_612.out _;(with_reducible repeat (first|refine ybn ?_ _|refine ybd ?_|refine yba ?_ _));exact BK603.out⟩,⟨by (with_reducible repeat (first|refine ybn ?_ _|refine ybd ?_|refine yba ?_ _));refine blk_far ?_ NB604_612.out _;(with_reducible repeat (first|refine ybn ?_ _|refine ybd ?_|refine yba ?_ _));refine blk_far ?_ NB604_612.out _;(with_reducible repeat (first|refine ybn ?_ _|refine ybd ?_|refine yba ?_ _));refine blk_far ?_ NB604_612.out _;(with_reducible repeat (first|refine ybn ?_ _|refine ybd ?_|refine yba ?_ _));exact BK604.out⟩,⟨by (with_reducible repeat (first|refine ybn ?_ _|refine ybd ?_|refine yba ?_ _));refine blk_put (cs:= #[.int .i64 t605,.slice Ao13 t606.length co13,.slice none 0 0]) ?_ 2 _ rfl;(with_reducible repeat (first|refine ybn ?_ _|refine ybd ?_|refine yba ?_ _));refine blk_put (cs:= #[.int .i64 t605,.slice none 0 0,.slice none 0 0]) ?_ 1 _ rfl;(with_reducible repeat (first|refine ybn ?_ _|refine ybd ?_|refine yba ?_ _));refine blk_put (cs:= #[.int .i64 0,.slice none 0 0,.slice none 0 0]) ?_ 0 _ rfl;(with_reducible repeat (first|refine ybn ?_ _|refine ybd ?_|refine yba ?_ _));exact BK612.out⟩,⟨yhb⟩⟩
 case round =>
  clear H
  try clear c1
  try clear hcz12_0
  try clear hcz12_1
  try clear hcz12_2
  try clear hcz7_0
  try clear hcz7_1
  try clear hcz7_2
  try clear hfz12_0
  try clear hfz12_1
  try clear hfz12_2
  try clear hfz7_0
  try clear hfz7_1
  try clear hfz7_2
  obtain ⟨x12_1,x613001_1,u613001,rfl,HA,HK1,HO_613001,HO_613002,BK603,BK604,BK612,HB⟩:=hrel
  rcases gk with _|k1
  ·exact absurd HA.out (by simp [impl_without.l0])
  obtain ⟨H⟩:=HA
  simp only [impl_without.l0] at H
  replace H:=yis H;obtain ⟨c15b0,H⟩ | ⟨c15b0,H⟩:=H
  rotate_left
  ·simp only [Option.some.injEq,Prod.mk.injEq] at H
   obtain ⟨rfl,rfl,rfl⟩:=H
   have hnb26:=NB612_603.out
   have hnc26:=NB603_612.out
   have hnb27:=NB612_604.out
   have hnc27:=NB604_612.out
   obtain ⟨hcz28_0,hcz28_1,hcz28_2,hfz28_0,hfz28_1,hfz28_2⟩:=ybc BK612.out
   have hnb29:=NB604_603.out
   have hnc29:=NB603_604.out
   obtain ⟨hcz30_0,hcz30_1,hcz30_2,hfz30_0,hfz30_1,hfz30_2⟩:=ybc BK604.out
   obtain ⟨Ao31,co31,eo31⟩:=Kd.R_slice HO_613001.out
   subst eo31
   go_wp2
   refine bodyPost_ret (results_cell_row rfl _ _ gb604 37 #[.int .i64 t605,.slice Ao31 x613001_1.length co31,.slice Ao14 t609.length co14] (0,0) _ rfl (by (with_reducible repeat (first|refine ybn ?_ _|refine ybd ?_|refine yba ?_ _));refine blk_put (cs:= #[.int .i64 t605,.slice Ao31 x613001_1.length co31,.slice none 0 0]) ?_ 2 _ rfl;(with_reducible repeat (first|refine ybn ?_ _|refine ybd ?_|refine yba ?_ _));refine blk_put (cs:= #[.int .i64 t605,.slice none 0 0,.slice none 0 0]) ?_ 1 _ rfl;(with_reducible repeat (first|refine ybn ?_ _|refine ybd ?_|refine yba ?_ _));refine blk_put (cs:= #[.int .i64 0,.slice none 0 0,.slice none 0 0]) ?_ 0 _ rfl;(with_reducible repeat (first|refine ybn ?_ _|refine ybd ?_|refine yba ?_ _));exact BK604.out) Try.underlying37 rfl (by kernel_rfl)) rfl ?_
   exact ⟨_,_,yer,by (with_reducible repeat (first|apply Kd.Ya|apply Kd.Yn|apply Kd.Yd));exact Kd.R_mono (Kd.R_far (p:=⟨gb604,2,none⟩) (Kd.R_far (p:=⟨gb604,1,none⟩) (Kd.R_far (p:=⟨gb604,0,none⟩) (Kd.R_types HO_613001.out BK604.out (by decide)) (fun _ hk=>hk.2) (.int .i64 t605)) (fun _ hk=>hk.2) (.slice Ao31 x613001_1.length co31)) (fun _ hk=>hk.2) (.slice Ao14 t609.length co14)) (fun _ hk=>trivial),by (with_reducible repeat (first|apply Kd.S_alloc|apply Kd.S_drewN|apply Kd.S_drew));exact Kd.S_mono (Kd.S_far (p:=⟨gb604,2,none⟩) (Kd.S_far (p:=⟨gb604,1,none⟩) (Kd.S_far (p:=⟨gb604,0,none⟩) (Kd.S_types HO_613002.out BK604.out (by decide)) (fun _ hk=>hk.2) (.int .i64 t605)) (fun _ hk=>hk.2) (.slice Ao31 x613001_1.length co31)) (fun _ hk=>hk.2) (.slice Ao14 t609.length co14)) (fun _ hk=>hk.1),yhb⟩
  replace H:=yif H;obtain ⟨c16b0,H⟩:=H
  replace H:=yif H;obtain ⟨c17b0,H⟩:=H
  replace H:=yif H;obtain ⟨c18b0,H⟩:=H
  replace H:=yif H;obtain ⟨c19b0,H⟩:=H
  obtain ⟨y614,Ny614⟩:∃ y_:List Int,Aside0 (y_=(x613001_1.set ((rd l1 x12_1):Int).toNat 0)):=⟨_,⟨rfl⟩⟩
  replace H:(impl_without.l0 k1 l1 (l1.length:Int) (wrap64 (x12_1 + 1)) t605 y614 t609)=some (r1,r2,r3):=yhn Ny614.out H
  replace H:=yam H
  obtain ⟨ad613,e613,hx613_0,p613,q613⟩:=yat HR1.out x12_1
  cases e613
  replace hx613_0:=ybx HB.out hx613_0
  have hnb21:=NB612_603.out
  have hnc21:=NB603_612.out
  have hnb22:=NB612_604.out
  have hnc22:=NB604_612.out
  obtain ⟨hcz23_0,hcz23_1,hcz23_2,hfz23_0,hfz23_1,hfz23_2⟩:=ybc BK612.out
  have p20:0≤((rd l1 x12_1):Int):=ydt
  have q20:((rd l1 x12_1):Int) < ((x613001_1.length:Int):Int):=ydt
  obtain ⟨go20,co20,eo20,gb20,gl20,cl20,HG20⟩:=Kd.R_form HO_613001.out (by omega)
  (first|cases eo20|(injection eo20 with ea_ en_ ec_;(first|subst ea_|(injection ea_ with ea_;subst ea_));subst ec_;clear en_))
  have GB20:=yam gb20
  have GG20:=yam HG20
  clear gb20 gl20 HG20
  obtain ⟨hx20_0,hf20_0⟩:=Kd.R_celln 0 HO_613001.out ((rd l1 x12_1):Int) p20 q20
  replace p20:=eq_true p20
  replace q20:=eq_true q20
  have HP24:=Kd.R_putg HO_613001.out ((rd l1 x12_1):Int) 0
  go_wp2_with (first|((with_reducible refine gate_store (t:=3) (p:=19) rfl ?_);refine store_event (t:=3) (p:=19) (v:=?vo_w25) (w1:=(wr.setCell ⟨go20,((rd l1 x12_1):Int).toNat,none⟩ (.int .i64 0))) ?hg ?ho ?hn ?hr ?_;(case ho=>rfl);(case hg=>rfl);(case hn=>rfl);(case hr=>first|(go_simp;done)|(go_simp;rfl));intro w25 hw;have hg:wr.grownBy w25 (some go20):=(by rw [hw];exact HP24.2);have hp_:Kd.R (Kd.int .i64) 3 w25 w.heap.size (fun _=>True) (.slice (some ⟨go20,0,none⟩) x613001_1.length co20) y614:=(by rw [hw,Ny614.out];exact HP24.1);clear HP24;replace HO_613002:=yam (Kd.S_after (v:=(.slice (some ⟨go20,0,none⟩) x613001_1.length co20)) (v1:=(.slice (some ⟨go20,0,none⟩) x613001_1.length co20)) (ok:=(fun _=>True)) (by (with_reducible repeat (first|apply Kd.S_alloc|apply Kd.S_drewN|apply Kd.S_drew));exact Kd.S_mono HO_613002.out (fun _ hk=>⟨trivial,hk⟩)) hg (.inl rfl));replace BK603:=yam (blk_grown (g:=gb603) (o:= .cells #[.int .i64 a0_0,.slice A0_1 l0_1.length c0_1,.slice A0_2 l0_2.length c0_2] 37 (0,0)) (ybz BK603.out) hg (Kd.R_ne HO_613001.out BK603.out (by decide)));replace BK604:=yam (blk_grown (g:=gb604) (o:= .cells #[.int .i64 0,.slice none 0 0,.slice none 0 0] 37 (0,0)) (ybz BK604.out) hg (Kd.R_ne HO_613001.out BK604.out (by decide)));replace BK612:=yam (blk_grown (g:=gb612) (o:= .cells #[.int .i64 t605,.slice (some ⟨go20,0,none⟩) x613001_1.length co20,.slice Ao14 t609.length co14] 37 (0,0)) (ybz BK612.out) hg (Kd.R_ne HO_613001.out BK612.out (by decide)));replace HO_613001:=yam (hp_);replace HB:=yam ((by rw [hw];exact below_set (HB.out) GB20.out:Below w.heap.size w w25));clear hg hw hp_))
  go_roundg k1
  case measure=>have:=HK1.out;omega
  case rel=>exact ⟨(wrap64 (x12_1 + 1)),(y614),(.slice (some ⟨go20,0,none⟩) x613001_1.length co20),yeq,H,⟨by have:=HK1.out;omega⟩,⟨yka HO_613001.out⟩,⟨by (with_reducible repeat (first|apply Kd.S_alloc|apply Kd.S_drewN|apply Kd.S_drew));exact Kd.S_mono HO_613002.out (fun _ hk=>hk.2)⟩,⟨ybk BK603.out⟩,⟨ybk BK604.out⟩,⟨ybk BK612.out⟩,⟨yhb⟩⟩
mutual
def impl_MakeEven.l0:Nat→Int→Int→Int→List Int→List (S73)→Option (Int × List Int × (List (S73)) × Bool)
 | 0,_,_,_,_,_=>none
 | k + 1,x5,x6,x769000,x769001,x769002=>if x6≤(wrap64 ((wrap64 (x5 - 1)) - x6)) then (if 0≤x6 then (if x6 < (x769001.length:Int) then (if (rd x769001 x6)=0 then (if 0≤(wrap64 ((wrap64 (x5 - 1)) - x6)) then (if (wrap64 ((wrap64 (x5 - 1)) - x6)) < (x769001.length:Int) then (impl_MakeEven.j1 k x5 x6 ((rd x769001 (wrap64 ((wrap64 (x5 - 1)) - x6))) == 0) x769000 x769001 x769002) else (none)) else (none)) else (impl_MakeEven.j1 k x5 x6 false x769000 x769001 x769002)) else (none)) else (none)) else (some (x769000,x769001,x769002,true))
def impl_MakeEven.j1:Nat→Int→Int→Bool→Int→List Int→List (S73)→Option (Int × List Int × (List (S73)) × Bool)
 | 0,_,_,_,_,_,_=>none
 | k + 1,x5,x6,x41,x769000,x769001,x769002=>if x41=true then (impl_MakeEven.l0 k x5 (wrap64 (x6 + 1)) x769000 x769001 x769002) else ((impl_without.f k x769000 x769001 x769002 (([x6,wrap64 ((wrap64 (x5 - 1)) - x6)]:List Int))).bind fun bt774=>((impl_onlyOne.f k bt774.1 bt774.2.1 bt774.2.2).bind fun t782=>(if t782=true then (impl_MakeEven.l0 k x5 (wrap64 (x6 + 1)) bt774.1 bt774.2.1 bt774.2.2) else (impl_MakeEven.l0 k x5 (wrap64 (x6 + 1)) x769000 x769001 x769002))))
end
def impl_MakeEven.f (k:Nat)(a0_0:Int)(l0_1:List Int)(l0_2:List (S73)):Option (Int × List Int × (List (S73)) × Bool):=(impl_onlyOne.f k a0_0 l0_1 l0_2).bind fun t760=>(if t760=true then ((impl_copyPuzzle.f k a0_0 l0_1 l0_2).bind fun bt761=>(impl_MakeEven.l0 k (bt761.2.1.length:Int) 0 bt761.1 bt761.2.1 bt761.2.2)) else (some (0,([]:List Int),([]:List (S73)),false)))
theorem impl_MakeEven.calls (k:Nat)(a0_0:Int)(A0_1:Option Addr)(c0_1:Nat)(l0_1:List Int)(A0_2:Option Addr)(c0_2:Nat)(l0_2:List (S73))(r1:Int)(r2:List Int)(r3:List (S73))(r4:Bool)(w:World)(hr0_1:Kd.C (Kd.int .i64) w A0_1 l0_1.length l0_1)(hc0_1:l0_1.length≤c0_1)(hr0_2:Kd.C k73 w A0_2 l0_2.length l0_2)(hc0_2:l0_2.length≤c0_2)(h:impl_MakeEven.f k a0_0 l0_1 l0_2=some (r1,r2,r3,r4)) :
  Calls Try.prog 41 #[.agg #[.int .i64 a0_0,.slice A0_1 l0_1.length c0_1,.slice A0_2 l0_2.length c0_2]] w fun e w'=>∃ v1_ v2_:Value,e= .returned (.tuple #[.agg #[.int .i64 r1,v1_,v2_],.bool r4])∧Kd.R (Kd.int .i64) 3 w' w.heap.size (fun _=>True) v1_ r2∧Kd.S k73 73 w' w.heap.size (fun k_=>some k_≠(v1_:Value).ownBlock) v2_ r3∧Below w.heap.size w w':=by
 have hu37:=Try.underlying37
 have HR0_1:=yam hr0_1
 have HC0_1:=yam hc0_1
 clear hr0_1 hc0_1
 have HR0_2:=yam hr0_2
 have HC0_2:=yam hc0_2
 clear hr0_2 hc0_2
 have HB:=yam (Below.refl w.heap.size w)
 unfold impl_MakeEven.f at h
 have H:=h
 clear h
 replace H:=ybi H;obtain ⟨t760,A2,H⟩:=H
 replace H:(if t760=true then ((impl_copyPuzzle.f k a0_0 l0_1 l0_2).bind fun bt761=>(impl_MakeEven.l0 k (bt761.2.1.length:Int) 0 bt761.1 bt761.2.1 bt761.2.2)) else (some (0,([]:List Int),([]:List (S73)),false)))=some (r1,r2,r3,r4):=H
 cases t760
 ·replace H:=yff H
  simp only [Option.some.injEq,Prod.mk.injEq] at H
  obtain ⟨rfl,rfl,rfl,rfl⟩:=H
  go_enter Try.func41,Try.ntmps41
  go_wp2_with (first|(refine ybe 1 #[.int .i64 a0_0,.slice A0_1 l0_1.length c0_1,.slice A0_2 l0_2.length c0_2] 37 ?_;intro gb758 hg w81 hbox hb;have BK758:=yam (hbox);have GW758:=yam ((by rw [hg];exact (below_size (yez HB.out)):w.heap.size≤gb758));replace HB:=yam (below_step (yez HB.out) hb);have GE758:=GW758;clear hb hbox hg)|(refine ybe 2 #[.int .i64 0,.slice none 0 0,.slice none 0 0] 37 ?_;intro gb759 hg w82 hbox hb;have BK759:=yam (hbox);have GW759:=yam ((by rw [hg];exact (below_size yhb):w.heap.size≤gb759));replace HB:=yam (below_step yhb hb);have GE759:=GW759;have NB758_759:=yam ((by rw [hg];exact Nat.ne_of_lt (blk_lt (g:=gb758) (o:= .cells #[.int .i64 a0_0,.slice A0_1 l0_1.length c0_1,.slice A0_2 l0_2.length c0_2] 37 (0,0)) (ybz BK758.out)):gb758≠gb759));have NB759_758:=yam ((by rw [hg];exact Nat.ne_of_gt (blk_lt (g:=gb758) (o:= .cells #[.int .i64 a0_0,.slice A0_1 l0_1.length c0_1,.slice A0_2 l0_2.length c0_2] 37 (0,0)) (ybz BK758.out)):gb759≠gb758));replace BK758:=yam (ybb BK758.out hb);clear hb hbox hg;have hnb83:=NB758_759.out;have hnc83:=NB759_758.out;obtain ⟨hcz84_0,hcz84_1,hcz84_2,hfz84_0,hfz84_1,hfz84_2⟩:=ybc BK758.out)|(refine goesL_ (some 9) rfl rfl Try.func68 (by kernel_rfl) rfl #[.agg #[.int .i64 a0_0,.slice A0_1 l0_1.length c0_1,.slice A0_2 l0_2.length c0_2]] rfl ymd ?_;(with_reducible refine (impl_onlyOne.calls k a0_0 _ _ l0_1 _ _ l0_2 false _ ?_ ?_ ?_ ?_ A2.out).mono ?_);exact Kd.Cz ((Kd.C_below HR0_1.out HB.out));exact HC0_1.out;exact Kd.Cz ((Kd.C_below HR0_2.out HB.out));exact HC0_2.out;rintro e w85 ⟨rfl,hb⟩;refine ⟨_,rfl,?_⟩;replace BK758:=yam (ybb BK758.out hb);replace BK759:=yam (ybb BK759.out hb);replace HB:=yam (below_step yhb hb);(try clear hb);obtain ⟨hcz86_0,hcz86_1,hcz86_2,hfz86_0,hfz86_1,hfz86_2⟩:=ybc BK759.out))
  refine bodyPost_ret (results_ct rfl _ _ gb759 37 #[.int .i64 0,.slice none 0 0,.slice none 0 0] (0,0) _ rfl (by (with_reducible repeat (first|refine ybn ?_ _|refine ybd ?_|refine yba ?_ _));refine blk_put (cs:= #[.int .i64 0,.slice none 0 0,.slice none 0 0]) ?_ 2 _ rfl;(with_reducible repeat (first|refine ybn ?_ _|refine ybd ?_|refine yba ?_ _));refine blk_put (cs:= #[.int .i64 0,.slice none 0 0,.slice none 0 0]) ?_ 1 _ rfl;(with_reducible repeat (first|refine ybn ?_ _|refine ybd ?_|refine yba ?_ _));refine blk_put (cs:= #[.int .i64 0,.slice none 0 0,.slice none 0 0]) ?_ 0 _ rfl;(with_reducible repeat (first|refine ybn ?_ _|refine ybd ?_|refine yba ?_ _));exact BK759.out) Try.underlying37 rfl (by kernel_rfl)) rfl ?_
  exact ⟨_,_,yer,by first|exact Kd.R_nil _ _ _ _ _|exact Kd.N_nil _ _ _ _ _|exact Kd.V_nil _ _ _ _ _|exact Kd.Q_nil _ _ _ _ _|exact Kd.S_nil _ _ _ _ _,by first|exact Kd.S_nil _ _ _ _ _|exact Kd.N_nil _ _ _ _ _|exact Kd.V_nil _ _ _ _ _|exact Kd.Q_nil _ _ _ _ _|exact Kd.R_nil _ _ _ _ _,yhb⟩
 replace H:=ytt H
 replace H:=ybi H;obtain ⟨⟨t761,t762,t765⟩,A4,H⟩:=H
 replace H:(impl_MakeEven.l0 k (t762.length:Int) 0 t761 t762 t765)=some (r1,r2,r3,r4):=H
 replace H:=yam H
 go_enter Try.func41,Try.ntmps41
 go_wp2_with (first|(refine ybe 1 #[.int .i64 a0_0,.slice A0_1 l0_1.length c0_1,.slice A0_2 l0_2.length c0_2] 37 ?_;intro gb758 hg w5 hbox hb;have BK758:=yam (hbox);have GW758:=yam ((by rw [hg];exact (below_size (yez HB.out)):w.heap.size≤gb758));replace HB:=yam (below_step (yez HB.out) hb);have GE758:=GW758;clear hb hbox hg)|(refine ybe 2 #[.int .i64 0,.slice none 0 0,.slice none 0 0] 37 ?_;intro gb759 hg w6 hbox hb;have BK759:=yam (hbox);have GW759:=yam ((by rw [hg];exact (below_size yhb):w.heap.size≤gb759));replace HB:=yam (below_step yhb hb);have GE759:=GW759;have NB758_759:=yam ((by rw [hg];exact Nat.ne_of_lt (blk_lt (g:=gb758) (o:= .cells #[.int .i64 a0_0,.slice A0_1 l0_1.length c0_1,.slice A0_2 l0_2.length c0_2] 37 (0,0)) (ybz BK758.out)):gb758≠gb759));have NB759_758:=yam ((by rw [hg];exact Nat.ne_of_gt (blk_lt (g:=gb758) (o:= .cells #[.int .i64 a0_0,.slice A0_1 l0_1.length c0_1,.slice A0_2 l0_2.length c0_2] 37 (0,0)) (ybz BK758.out)):gb759≠gb758));replace BK758:=yam (ybb BK758.out hb);clear hb hbox hg;have hnb7:=NB758_759.out;have hnc7:=NB759_758.out;obtain ⟨hcz8_0,hcz8_1,hcz8_2,hfz8_0,hfz8_1,hfz8_2⟩:=ybc BK758.out)|(refine goesL_ (some 9) rfl rfl Try.func68 (by kernel_rfl) rfl #[.agg #[.int .i64 a0_0,.slice A0_1 l0_1.length c0_1,.slice A0_2 l0_2.length c0_2]] rfl ymd ?_;(with_reducible refine (impl_onlyOne.calls k a0_0 _ _ l0_1 _ _ l0_2 true _ ?_ ?_ ?_ ?_ A2.out).mono ?_);exact Kd.Cz ((Kd.C_below HR0_1.out HB.out));exact HC0_1.out;exact Kd.Cz ((Kd.C_below HR0_2.out HB.out));exact HC0_2.out;rintro e w9 ⟨rfl,hb⟩;refine ⟨_,rfl,?_⟩;replace BK758:=yam (ybb BK758.out hb);replace BK759:=yam (ybb BK759.out hb);replace HB:=yam (below_step yhb hb);(try clear hb);obtain ⟨hcz10_0,hcz10_1,hcz10_2,hfz10_0,hfz10_1,hfz10_2⟩:=ybc BK758.out)|(refine goesL_ (some 13) rfl rfl Try.func58 (by kernel_rfl) rfl #[.agg #[.int .i64 a0_0,.slice A0_1 l0_1.length c0_1,.slice A0_2 l0_2.length c0_2]] rfl ymd ?_;(with_reducible refine (impl_copyPuzzle.calls k a0_0 _ _ l0_1 _ _ l0_2 t761 t762 t765 _ ?_ ?_ ?_ ?_ A4.out).mono ?_);exact Kd.Cz ((Kd.C_below HR0_1.out HB.out));exact HC0_1.out;exact Kd.Cz ((Kd.C_below HR0_2.out HB.out));exact HC0_2.out;rintro e w11 ⟨v763,v766,rfl,ho0,ho1,hb⟩;refine ⟨_,rfl,?_⟩;have HO764:=yam (Kd.R_lower ho0 (below_size yhb));have HO767:=yam (Kd.S_lower ho1 (below_size yhb));replace BK758:=yam (ybb BK758.out hb);replace BK759:=yam (ybb BK759.out hb);replace HB:=yam (below_step yhb hb);(try clear hb);(try clear ho0);(try clear ho1))|(refine ybe 4 #[.int .i64 0,.slice none 0 0,.slice none 0 0] 37 ?_;intro gb768 hg w12 hbox hb;replace HO764:=yam (Kd.R_below (Kd.Yz HO764.out) hb);replace HO767:=yam (Kd.S_below (by (with_reducible repeat (first|apply Kd.S_alloc|apply Kd.S_drewN|apply Kd.S_drew));exact HO767.out) hb);have BK768:=yam (hbox);have GW768:=yam ((by rw [hg];exact (below_size yhb):w.heap.size≤gb768));replace HB:=yam (below_step yhb hb);have GE768:=GW768;have NB758_768:=yam ((by rw [hg];exact Nat.ne_of_lt (blk_lt (g:=gb758) (o:= .cells #[.int .i64 a0_0,.slice A0_1 l0_1.length c0_1,.slice A0_2 l0_2.length c0_2] 37 (0,0)) (ybz BK758.out)):gb758≠gb768));have NB768_758:=yam ((by rw [hg];exact Nat.ne_of_gt (blk_lt (g:=gb758) (o:= .cells #[.int .i64 a0_0,.slice A0_1 l0_1.length c0_1,.slice A0_2 l0_2.length c0_2] 37 (0,0)) (ybz BK758.out)):gb768≠gb758));replace BK758:=yam (ybb BK758.out hb);have NB759_768:=yam ((by rw [hg];exact Nat.ne_of_lt (blk_lt (g:=gb759) (o:= .cells #[.int .i64 0,.slice none 0 0,.slice none 0 0] 37 (0,0)) (ybz BK759.out)):gb759≠gb768));have NB768_759:=yam ((by rw [hg];exact Nat.ne_of_gt (blk_lt (g:=gb759) (o:= .cells #[.int .i64 0,.slice none 0 0,.slice none 0 0] 37 (0,0)) (ybz BK759.out)):gb768≠gb759));replace BK759:=yam (ybb BK759.out hb);clear hb hbox hg;have hnb13:=NB768_758.out;have hnc13:=NB758_768.out;have hnb14:=NB768_759.out;have hnc14:=NB759_768.out;obtain ⟨hcz15_0,hcz15_1,hcz15_2,hfz15_0,hfz15_1,hfz15_2⟩:=ybc BK768.out;obtain ⟨Ao16,co16,eo16⟩:=Kd.R_slice HO764.out;subst eo16;obtain ⟨Ao17,co17,eo17⟩:=Kd.S_slice HO767.out;subst eo17))
 go_loopg [6] k (fun kq v6 w'=>∃ (x6_1:Int) (x769000_1:Int) (x769001_1:List Int) (x769002_1:List (S73)) (u769001:Value) (u769002:Value),v6= .int .i64 x6_1∧Aside0 (impl_MakeEven.l0 kq (t762.length:Int) x6_1 x769000_1 x769001_1 x769002_1=some (r1,r2,r3,r4))∧Aside0 (kq≤k)∧Aside0 (Kd.R (Kd.int .i64) 3 w' w.heap.size (fun _=>True) u769001 x769001_1)∧Aside0 (Kd.S k73 73 w' w.heap.size (fun k_=>some k_≠(u769001:Value).ownBlock) u769002 x769002_1)∧Aside0 (w'.heap[gb758]?=some (.cells #[.int .i64 a0_0,(.slice A0_1 l0_1.length c0_1),(.slice A0_2 l0_2.length c0_2)] 37 (0,0)))∧Aside0 (w'.heap[gb759]?=some (.cells #[.int .i64 0,(.slice none 0 0),(.slice none 0 0)] 37 (0,0)))∧Aside0 (w'.heap[gb768]?=some (.cells #[.int .i64 x769000_1,u769001,u769002] 37 (0,0)))∧Aside0 (Below w.heap.size w w'))
 case atStart=>exact ⟨(0),(t761),(t762),(t765),(.slice Ao16 t762.length co16),(.slice Ao17 t765.length co17),yeq,H,⟨Nat.le_refl _⟩,⟨by (with_reducible repeat (first|apply Kd.Ya|apply Kd.Yn|apply Kd.Yd));exact Kd.R_mono (Kd.R_far (p:=⟨gb768,2,none⟩) (Kd.R_far (p:=⟨gb768,1,none⟩) (Kd.R_far (p:=⟨gb768,0,none⟩) (Kd.R_types HO764.out BK768.out (by decide)) (fun _ hk=>hk.2) (.int .i64 t761)) (fun _ hk=>hk.2) (.slice Ao16 t762.length co16)) (fun _ hk=>hk.2) (.slice Ao17 t765.length co17)) (fun _ hk=>trivial)⟩,⟨by (with_reducible repeat (first|apply Kd.S_alloc|apply Kd.S_drewN|apply Kd.S_drew));exact Kd.S_mono (Kd.S_far (p:=⟨gb768,2,none⟩) (Kd.S_far (p:=⟨gb768,1,none⟩) (Kd.S_far (p:=⟨gb768,0,none⟩) (Kd.S_types HO767.out BK768.out (by decide)) (fun _ hk=>hk.2) (.int .i64 t761)) (fun _ hk=>hk.2) (.slice Ao16 t762.length co16)) (fun _ hk=>hk.2) (.slice Ao17 t765.length co17)) (fun _ hk=>hk.1)⟩,⟨by (with_reducible repeat (first|refine ybn ?_ _|refine ybd ?_|refine yba ?_ _));refine blk_far ?_ NB758_768.out _;(with_reducible repeat (first|refine ybn ?_ _|refine ybd ?_|refine yba ?_ _));refine blk_far ?_ NB758_768.out _;(with_reducible repeat (first|refine ybn ?_ _|refine ybd ?_|refine yba ?_ _));refine blk_far ?_ NB758_768.out _;(with_reducible repeat (first|refine ybn ?_ _|refine ybd ?_|refine yba ?_ _));exact BK758.out⟩,⟨by (with_reducible repeat (first|refine ybn ?_ _|refine ybd ?_|refine yba ?_ _));refine blk_far ?_ NB759_768.out _;(with_reducible repeat (first|refine ybn ?_ _|refine ybd ?_|refine yba ?_ _));refine blk_far ?_ NB759_768.out _;(with_reducible repeat (first|refine ybn ?_ _|refine ybd ?_|refine yba ?_ _));refine blk_far ?_ NB759_768.out _;(with_reducible repeat (first|refine ybn ?_ _|refine ybd ?_|refine yba ?_ _));exact BK759.out⟩,⟨by (with_reducible repeat (first|refine ybn ?_ _|refine ybd ?_|refine yba ?_ _));refine blk_put (cs:= #[.int .i64 t761,.slice Ao16 t762.length co16,.slice none 0 0]) ?_ 2 _ rfl;(with_reducible repeat (first|refine ybn ?_ _|refine ybd ?_|refine yba ?_ _));refine blk_put (cs:= #[.int .i64 t761,.slice none 0 0,.slice none 0 0]) ?_ 1 _ rfl;(with_reducible repeat (first|refine ybn ?_ _|refine ybd ?_|refine yba ?_ _));refine blk_put (cs:= #[.int .i64 0,.slice none 0 0,.slice none 0 0]) ?_ 0 _ rfl;(with_reducible repeat (first|refine ybn ?_ _|refine ybd ?_|refine yba ?_ _));exact BK768.out⟩,⟨yhb⟩⟩
 case round =>
  clear H
  try clear hcz10_0
  try clear hcz10_1
  try clear hcz10_2
  try clear hcz15_0
  try clear hcz15_1
  try clear hcz15_2
  try clear hcz8_0
  try clear hcz8_1
  try clear hcz8_2
  try clear hfz10_0
  try clear hfz10_1
  try clear hfz10_2
  try clear hfz15_0
  try clear hfz15_1
  try clear hfz15_2
  try clear hfz8_0
  try clear hfz8_1
  try clear hfz8_2
  obtain ⟨x6_1,x769000_1,x769001_1,x769002_1,u769001,u769002,rfl,HA,HK1,HO_769001,HO_769002,BK758,BK759,BK768,HB⟩:=hrel
  rcases gk with _|k1
  ·exact absurd HA.out (by simp [impl_MakeEven.l0])
  obtain ⟨H⟩:=HA
  simp only [impl_MakeEven.l0] at H
  replace H:=yis H;obtain ⟨c18b0,H⟩ | ⟨c18b0,H⟩:=H
  rotate_left
  ·simp only [Option.some.injEq,Prod.mk.injEq] at H
   obtain ⟨rfl,rfl,rfl,rfl⟩:=H
   have hnb74:=NB768_758.out
   have hnc74:=NB758_768.out
   have hnb75:=NB768_759.out
   have hnc75:=NB759_768.out
   obtain ⟨hcz76_0,hcz76_1,hcz76_2,hfz76_0,hfz76_1,hfz76_2⟩:=ybc BK768.out
   have hnb77:=NB759_758.out
   have hnc77:=NB758_759.out
   obtain ⟨hcz78_0,hcz78_1,hcz78_2,hfz78_0,hfz78_1,hfz78_2⟩:=ybc BK759.out
   obtain ⟨Ao79,co79,eo79⟩:=Kd.R_slice HO_769001.out
   subst eo79
   obtain ⟨Ao80,co80,eo80⟩:=Kd.S_slice HO_769002.out
   subst eo80
   go_wp2
   refine bodyPost_ret (results_ct rfl _ _ gb759 37 #[.int .i64 x769000_1,.slice Ao79 x769001_1.length co79,.slice Ao80 x769002_1.length co80] (0,0) _ rfl (by (with_reducible repeat (first|refine ybn ?_ _|refine ybd ?_|refine yba ?_ _));refine blk_put (cs:= #[.int .i64 x769000_1,.slice Ao79 x769001_1.length co79,.slice none 0 0]) ?_ 2 _ rfl;(with_reducible repeat (first|refine ybn ?_ _|refine ybd ?_|refine yba ?_ _));refine blk_put (cs:= #[.int .i64 x769000_1,.slice none 0 0,.slice none 0 0]) ?_ 1 _ rfl;(with_reducible repeat (first|refine ybn ?_ _|refine ybd ?_|refine yba ?_ _));refine blk_put (cs:= #[.int .i64 0,.slice none 0 0,.slice none 0 0]) ?_ 0 _ rfl;(with_reducible repeat (first|refine ybn ?_ _|refine ybd ?_|refine yba ?_ _));exact BK759.out) Try.underlying37 rfl (by kernel_rfl)) rfl ?_
   exact ⟨_,_,yer,by (with_reducible repeat (first|apply Kd.Ya|apply Kd.Yn|apply Kd.Yd));exact Kd.R_mono (Kd.R_far (p:=⟨gb759,2,none⟩) (Kd.R_far (p:=⟨gb759,1,none⟩) (Kd.R_far (p:=⟨gb759,0,none⟩) (Kd.R_types HO_769001.out BK759.out (by decide)) (fun _ hk=>hk.2) (.int .i64 x769000_1)) (fun _ hk=>hk.2) (.slice Ao79 x769001_1.length co79)) (fun _ hk=>hk.2) (.slice Ao80 x769002_1.length co80)) (fun _ hk=>trivial),by (with_reducible repeat (first|apply Kd.S_alloc|apply Kd.S_drewN|apply Kd.S_drew));exact Kd.S_mono (Kd.S_far (p:=⟨gb759,2,none⟩) (Kd.S_far (p:=⟨gb759,1,none⟩) (Kd.S_far (p:=⟨gb759,0,none⟩) (Kd.S_types HO_769002.out BK759.out (by decide)) (fun _ hk=>hk.2) (.int .i64 x769000_1)) (fun _ hk=>hk.2) (.slice Ao79 x769001_1.length co79)) (fun _ hk=>hk.2) (.slice Ao80 x769002_1.length co80)) (fun _ hk=>hk.1),yhb⟩
  have HC19:=yam H
  clear H
  go_upto_region 8 with (fail)
  go_cut [41] (fun v41 wc=>∃ (kq:Nat) (x41_18:Bool),v41= .bool x41_18∧Aside0 (impl_MakeEven.j1 kq (t762.length:Int) x6_1 x41_18 x769000_1 x769001_1 x769002_1=some (r1,r2,r3,r4))∧Aside0 (kq≤k1)∧Aside0 (Kd.R (Kd.int .i64) 3 wc w.heap.size (fun _=>True) u769001 x769001_1)∧Aside0 (Kd.S k73 73 wc w.heap.size (fun k_=>some k_≠(u769001:Value).ownBlock) u769002 x769002_1)∧Aside0 (wc.heap[gb758]?=some (.cells #[.int .i64 a0_0,(.slice A0_1 l0_1.length c0_1),(.slice A0_2 l0_2.length c0_2)] 37 (0,0)))∧Aside0 (wc.heap[gb759]?=some (.cells #[.int .i64 0,(.slice none 0 0),(.slice none 0 0)] 37 (0,0)))∧Aside0 (wc.heap[gb768]?=some (.cells #[.int .i64 x769000_1,u769001,u769002] 37 (0,0)))∧Aside0 (Below w.heap.size w wc))
  case first =>
   have H:=HC19.out
   clear HC19
   replace H:=yif H;obtain ⟨c20b0,H⟩:=H
   (first|rw [c20b0]|(simp only [i64_w,i32_w];rw [c20b0])|skip)
   replace H:=yif H;obtain ⟨c21b0,H⟩:=H
   replace H:=yit H;obtain ⟨c22,H⟩ | ⟨c22,H⟩:=H
   rotate_left
   ·have c22b0:((rd x769001_1 x6_1) == 0)=false:=beq_eq_false_iff_ne.mpr c22
    have c22b1:((rd x769001_1 x6_1) != 0)=true:=bne_iff_ne.mpr c22
    replace H:=yam H
    have hnb30:=NB768_758.out
    have hnc30:=NB758_768.out
    have hnb31:=NB768_759.out
    have hnc31:=NB759_768.out
    obtain ⟨hcz32_0,hcz32_1,hcz32_2,hfz32_0,hfz32_1,hfz32_2⟩:=ybc BK768.out
    obtain ⟨Ao33,co33,eo33⟩:=Kd.R_slice HO_769001.out
    subst eo33
    obtain ⟨ad769,e769,hx769_0,p769,q769⟩:=yat (Kd.Yr HO_769001.out).2.2 x6_1
    cases e769
    go_wp2
    go_meet
    case rel=>exact ⟨_,(false),yeq,H,⟨by have:=HK1.out;first|omega|exact Nat.le_refl _⟩,⟨yka HO_769001.out⟩,⟨by (with_reducible repeat (first|apply Kd.S_alloc|apply Kd.S_drewN|apply Kd.S_drew));exact HO_769002.out⟩,⟨ybk BK758.out⟩,⟨ybk BK759.out⟩,⟨ybk BK768.out⟩,⟨yhb⟩⟩
   have c22b0:((rd x769001_1 x6_1) == 0)=true:=beq_iff_eq.mpr c22
   have c22b1:((rd x769001_1 x6_1) != 0)=false:=bne_eq_false_iff_eq.mpr c22
   clear c22
   obtain ⟨ji23,hji23⟩:∃ j_:Int,(wrap64 ((wrap64 ((t762.length:Int) - 1)) - x6_1))=j_:=⟨_,rfl⟩
   replace H:(if 0≤(ji23) then (if (ji23) < (x769001_1.length:Int) then (impl_MakeEven.j1 k1 (t762.length:Int) x6_1 ((rd x769001_1 (ji23)) == 0) x769000_1 x769001_1 x769002_1) else (none)) else (none))=some (r1,r2,r3,r4):=by first|(rw [hji23] at H;exact H)|(simp only [hji23] at H ⊢;exact H)
   (try rw [hji23] at c18b0)
   have hji23w:(IntKind.i64.wrap ((wrap64 ((t762.length:Int) - 1)) - x6_1))=ji23:=(i64_w _).trans hji23
   replace H:=yif H;obtain ⟨c24b0,H⟩:=H
   replace H:=yif H;obtain ⟨c25b0,H⟩:=H
   replace H:=yam H
   have hnb26:=NB768_758.out
   have hnc26:=NB758_768.out
   have hnb27:=NB768_759.out
   have hnc27:=NB759_768.out
   obtain ⟨hcz28_0,hcz28_1,hcz28_2,hfz28_0,hfz28_1,hfz28_2⟩:=ybc BK768.out
   obtain ⟨Ao29,co29,eo29⟩:=Kd.R_slice HO_769001.out
   subst eo29
   obtain ⟨ad769,e769,hx769_0,p769,q769⟩:=yat (Kd.Yr HO_769001.out).2.2 x6_1
   cases e769
   obtain ⟨ad770,e770,hx770_0,p770,q770⟩:=yat (Kd.Yr HO_769001.out).2.2 (ji23)
   obtain rfl:ad769=ad770:=(by injection e770)
   go_wp2
   go_meet
   case rel=>exact ⟨_,(((rd x769001_1 (ji23)) == 0)),(by first|rfl|(simp;done)|(simp only [← hji23] <;> (first|rfl|simp))|(simp [*];done)),H,⟨by have:=HK1.out;first|omega|exact Nat.le_refl _⟩,⟨yka HO_769001.out⟩,⟨by (with_reducible repeat (first|apply Kd.S_alloc|apply Kd.S_drewN|apply Kd.S_drew));exact HO_769002.out⟩,⟨ybk BK758.out⟩,⟨ybk BK759.out⟩,⟨ybk BK768.out⟩,⟨yhb⟩⟩
  case rest =>
   clear HC19
   try clear c18b0
   obtain ⟨kq,x41_18,rfl,HA,HJ18,HO_769001,HO_769002,BK758,BK759,BK768,HB⟩:=hcut
   rcases kq with _|kj18
   ·exact absurd HA.out (by simp [impl_MakeEven.j1])
   obtain ⟨H⟩:=HA
   simp only [impl_MakeEven.j1] at H
   cases x41_18
   rotate_left
   ·replace H:=ytt H
    replace H:=yam H
    go_wp2
    go_roundg kj18
    case measure=>have:=HK1.out;have:=HJ18.out;omega
    case rel=>exact ⟨(wrap64 (x6_1 + 1)),(x769000_1),(x769001_1),(x769002_1),(u769001),(u769002),yeq,H,⟨by have:=HK1.out;have:=HJ18.out;omega⟩,⟨yka HO_769001.out⟩,⟨by (with_reducible repeat (first|apply Kd.S_alloc|apply Kd.S_drewN|apply Kd.S_drew));exact HO_769002.out⟩,⟨ybk BK758.out⟩,⟨ybk BK759.out⟩,⟨ybk BK768.out⟩,⟨yhb⟩⟩
   replace H:=yff H
   obtain ⟨y771,Ny771⟩:∃ y_:List Int,Aside0 (y_=(([x6_1,wrap64 ((wrap64 ((t762.length:Int) - 1)) - x6_1)]:List Int))):=⟨_,⟨rfl⟩⟩
   replace H:((impl_without.f kj18 x769000_1 x769001_1 x769002_1 y771).bind fun bt774=>((impl_onlyOne.f kj18 bt774.1 bt774.2.1 bt774.2.2).bind fun t782=>(if t782=true then (impl_MakeEven.l0 kj18 (t762.length:Int) (wrap64 (x6_1 + 1)) bt774.1 bt774.2.1 bt774.2.2) else (impl_MakeEven.l0 kj18 (t762.length:Int) (wrap64 (x6_1 + 1)) x769000_1 x769001_1 x769002_1))))=some (r1,r2,r3,r4):=yhn Ny771.out H
   replace H:=ybi H;obtain ⟨⟨t774,t775,t778⟩,A35,H⟩:=H
   replace H:((impl_onlyOne.f kj18 t774 t775 t778).bind fun t782=>(if t782=true then (impl_MakeEven.l0 kj18 (t762.length:Int) (wrap64 (x6_1 + 1)) t774 t775 t778) else (impl_MakeEven.l0 kj18 (t762.length:Int) (wrap64 (x6_1 + 1)) x769000_1 x769001_1 x769002_1)))=some (r1,r2,r3,r4):=H
   replace H:=ybi H;obtain ⟨t782,A36,H⟩:=H
   replace H:(if t782=true then (impl_MakeEven.l0 kj18 (t762.length:Int) (wrap64 (x6_1 + 1)) t774 t775 t778) else (impl_MakeEven.l0 kj18 (t762.length:Int) (wrap64 (x6_1 + 1)) x769000_1 x769001_1 x769002_1))=some (r1,r2,r3,r4):=H
   cases t782
   ·replace H:=yff H
    replace H:=yam H
    have hnb57:=NB768_758.out
    have hnc57:=NB758_768.out
    have hnb58:=NB768_759.out
    have hnc58:=NB759_768.out
    obtain ⟨hcz59_0,hcz59_1,hcz59_2,hfz59_0,hfz59_1,hfz59_2⟩:=ybc BK768.out
    go_wp2_with (first|((with_reducible refine gate_dst (N:=48) rfl ?_);refine Kd.R_lit (Kd.int .i64) _ 3 ?hg (N:=48) ?hd (xs:=([x6_1,wrap64 ((wrap64 ((t762.length:Int) - 1)) - x6_1)]:List Int)) (inner:=[.int .i64 x6_1,.int .i64 (wrap64 ((wrap64 ((t762.length:Int) - 1)) - x6_1))]) (ok:=fun _=>True) (okp:=fun _=>True) ?hr ?hp (fun _ hk=>hk) trivial (Below.refl _ _) (Nat.le_refl _) (by simp) ?_;(case hd=>rfl);(case hg=>rfl);(case hr=>first|(go_simp;done)|(go_simp;rfl));(case hp=>exact (Reps.one (show Kd.M (Kd.int .i64) _ _ _ x6_1 [.int .i64 x6_1] from rfl) (Reps.one (show Kd.M (Kd.int .i64) _ _ _ (wrap64 ((wrap64 ((t762.length:Int) - 1)) - x6_1)) [.int .i64 (wrap64 ((wrap64 ((t762.length:Int) - 1)) - x6_1))] from rfl) (Reps.none _ _))));intro v772 w60 ho61 hb hg_ hnew_;clear hg_ hnew_;(first|rw [← Ny771.out] at ho61|(simp only [Int.reduceToNat] at ho61;rw [← Ny771.out] at ho61));replace HO_769002:=yam (Kd.S_elder' (by (with_reducible repeat (first|apply Kd.S_alloc|apply Kd.S_drewN|apply Kd.S_drew));exact HO_769002.out) (Kd.Yb ho61) hb);have HO773:=yam (Kd.R_lower (Kd.Yw ho61 (Kd.R_lt (Kd.Yz HO_769001.out))) (below_size yhb));replace HO_769001:=yam (Kd.Ye (Kd.Yz HO_769001.out) (Kd.Yb ho61) hb);replace BK758:=yam (ybb BK758.out hb);replace BK759:=yam (ybb BK759.out hb);replace BK768:=yam (ybb BK768.out hb);replace HB:=yam (below_step yhb hb);clear hb ho61;obtain ⟨Ao62,co62,eo62⟩:=Kd.R_slice HO_769001.out;subst eo62;obtain ⟨Ao63,co63,eo63⟩:=Kd.S_slice HO_769002.out;subst eo63;obtain ⟨Ao64,co64,eo64⟩:=Kd.R_slice HO773.out;subst eo64)|(refine goesL_ (some 49) rfl rfl Try.func69 (by kernel_rfl) rfl #[.agg #[.int .i64 x769000_1,.slice Ao62 x769001_1.length co62,.slice Ao63 x769002_1.length co63],.slice Ao64 y771.length co64] rfl ymd ?_;(with_reducible refine (impl_without.calls kj18 x769000_1 _ _ x769001_1 _ _ x769002_1 _ _ y771 t774 t775 t778 _ ?side1 ?side2 ?side3 ?side4 ?side5 ?side6 A35.out).mono ?_);(case side1=>exact Kd.Cz (Kd.Yr HO_769001.out).2.2);(case side2=>exact (Kd.Yr HO_769001.out).2.1);(case side3=>repeat (first|exact (Kd.S_reads' HO_769002.out).2.2|(with_reducible refine Kd.C_alloc ?_ _)|(with_reducible refine Kd.C_drewN ?_ _)|(with_reducible refine Kd.C_drew ?_)));(case side4=>exact (Kd.S_reads' HO_769002.out).2.1);(case side5=>exact Kd.Cz (Kd.Yr HO773.out).2.2);(case side6=>exact (Kd.Yr HO773.out).2.1);rintro e w65 ⟨v776,v779,rfl,ho0,ho1,hb⟩;refine ⟨_,rfl,?_⟩;have HO777:=yam (Kd.R_lower (Kd.Yw (Kd.Yw ho0 (Kd.R_lt (Kd.Yz HO_769001.out))) (Kd.R_lt (Kd.Yz HO773.out))) (below_size yhb));have HO780:=yam (Kd.S_lower (Kd.S_new' (Kd.S_new' (Kd.S_new' ho1 (Kd.R_lt (Kd.Yz HO_769001.out))) (Kd.S_lt (by (with_reducible repeat (first|apply Kd.S_alloc|apply Kd.S_drewN|apply Kd.S_drew));exact HO_769002.out))) (Kd.R_lt (Kd.Yz HO773.out))) (below_size yhb));replace HO_769001:=yam (Kd.Ye (Kd.Yz HO_769001.out) (Kd.Yb ho0) hb);replace HO_769002:=yam (Kd.S_mono (Kd.S_told (Kd.S_told (Kd.S_old (by (with_reducible repeat (first|apply Kd.S_alloc|apply Kd.S_drewN|apply Kd.S_drew));exact HO_769002.out) hb) (Kd.Yb ho0)) (Kd.S_base ho1)) (fun _ h_=>h_.1));replace HO773:=yam (Kd.Ye (Kd.Yz HO773.out) (Kd.Yb ho0) hb);replace BK758:=yam (ybb BK758.out hb);replace BK759:=yam (ybb BK759.out hb);replace BK768:=yam (ybb BK768.out hb);replace HB:=yam (below_step yhb hb);(try clear hb);(try clear ho0);(try clear ho1))|(refine ybe 7 #[.int .i64 0,.slice none 0 0,.slice none 0 0] 37 ?_;intro gb781 hg w66 hbox hb;replace HO_769001:=yam (Kd.R_below (Kd.Yz HO_769001.out) hb);replace HO_769002:=yam (Kd.S_below (by (with_reducible repeat (first|apply Kd.S_alloc|apply Kd.S_drewN|apply Kd.S_drew));exact HO_769002.out) hb);replace HO773:=yam (Kd.R_below (Kd.Yz HO773.out) hb);replace HO777:=yam (Kd.R_below (Kd.Yz HO777.out) hb);replace HO780:=yam (Kd.S_below (by (with_reducible repeat (first|apply Kd.S_alloc|apply Kd.S_drewN|apply Kd.S_drew));exact HO780.out) hb);have BK781:=yam (hbox);have GW781:=yam ((by rw [hg];exact (below_size yhb):w.heap.size≤gb781));replace HB:=yam (below_step yhb hb);have GE781:=GW781;have NB758_781:=yam ((by rw [hg];exact Nat.ne_of_lt (blk_lt (g:=gb758) (o:= .cells #[.int .i64 a0_0,.slice A0_1 l0_1.length c0_1,.slice A0_2 l0_2.length c0_2] 37 (0,0)) (ybz BK758.out)):gb758≠gb781));have NB781_758:=yam ((by rw [hg];exact Nat.ne_of_gt (blk_lt (g:=gb758) (o:= .cells #[.int .i64 a0_0,.slice A0_1 l0_1.length c0_1,.slice A0_2 l0_2.length c0_2] 37 (0,0)) (ybz BK758.out)):gb781≠gb758));replace BK758:=yam (ybb BK758.out hb);have NB759_781:=yam ((by rw [hg];exact Nat.ne_of_lt (blk_lt (g:=gb759) (o:= .cells #[.int .i64 0,.slice none 0 0,.slice none 0 0] 37 (0,0)) (ybz BK759.out)):gb759≠gb781));have NB781_759:=yam ((by rw [hg];exact Nat.ne_of_gt (blk_lt (g:=gb759) (o:= .cells #[.int .i64 0,.slice none 0 0,.slice none 0 0] 37 (0,0)) (ybz BK759.out)):gb781≠gb759));replace BK759:=yam (ybb BK759.out hb);have NB768_781:=yam ((by rw [hg];exact Nat.ne_of_lt (blk_lt (g:=gb768) (o:= .cells #[.int .i64 x769000_1,.slice Ao62 x769001_1.length co62,.slice Ao63 x769002_1.length co63] 37 (0,0)) (ybz BK768.out)):gb768≠gb781));have NB781_768:=yam ((by rw [hg];exact Nat.ne_of_gt (blk_lt (g:=gb768) (o:= .cells #[.int .i64 x769000_1,.slice Ao62 x769001_1.length co62,.slice Ao63 x769002_1.length co63] 37 (0,0)) (ybz BK768.out)):gb781≠gb768));replace BK768:=yam (ybb BK768.out hb);clear hb hbox hg;have hnb67:=NB781_758.out;have hnc67:=NB758_781.out;have hnb68:=NB781_759.out;have hnc68:=NB759_781.out;have hnb69:=NB781_768.out;have hnc69:=NB768_781.out;obtain ⟨hcz70_0,hcz70_1,hcz70_2,hfz70_0,hfz70_1,hfz70_2⟩:=ybc BK781.out;obtain ⟨Ao71,co71,eo71⟩:=Kd.R_slice HO777.out;subst eo71;obtain ⟨Ao72,co72,eo72⟩:=Kd.S_slice HO780.out;subst eo72)|(refine goesL_ (some 51) rfl rfl Try.func68 (by kernel_rfl) rfl #[.agg #[.int .i64 t774,.slice Ao71 t775.length co71,.slice Ao72 t778.length co72]] rfl ymd ?_;(with_reducible refine (impl_onlyOne.calls kj18 t774 _ _ t775 _ _ t778 false _ ?side1 ?side2 ?side3 ?side4 A36.out).mono ?_);(case side1=>refine (Kd.Yr (e:=3) (base:=w.heap.size) (ok:=fun k_=>((True∧some k_≠(.slice Ao62 x769001_1.length co62:Value).ownBlock)∧some k_≠(.slice Ao64 y771.length co64:Value).ownBlock)) (n:=t775.length) (c:=co71) ?_).2.2;exact (by (with_reducible repeat (first|apply Kd.Ya|apply Kd.Yn|apply Kd.Yd));exact (Kd.R_mono (Kd.R_far (p:=⟨gb781,2,none⟩) (Kd.R_far (p:=⟨gb781,1,none⟩) (Kd.R_far (p:=⟨gb781,0,none⟩) (Kd.R_types HO777.out BK781.out (by decide)) (fun _ hk=>hk.2) (.int .i64 t774)) (fun _ hk=>hk.2) (.slice Ao71 t775.length co71)) (fun _ hk=>hk.2) (.slice Ao72 t778.length co72)) (fun _ h_=>h_.1))));(case side2=>exact (Kd.Yr HO777.out).2.1);(case side3=>refine (Kd.S_reads' (e:=73) (base:=w.heap.size) (ok:=fun k_=>(((some k_≠(.slice Ao71 t775.length co71:Value).ownBlock∧some k_≠(.slice Ao62 x769001_1.length co62:Value).ownBlock)∧some k_≠(.slice Ao63 x769002_1.length co63:Value).ownBlock)∧some k_≠(.slice Ao64 y771.length co64:Value).ownBlock)) (n:=t778.length) (c:=co72) ?_).2.2;exact (by (with_reducible repeat (first|apply Kd.S_alloc|apply Kd.S_drewN|apply Kd.S_drew));exact (Kd.S_mono (Kd.S_far (p:=⟨gb781,2,none⟩) (Kd.S_far (p:=⟨gb781,1,none⟩) (Kd.S_far (p:=⟨gb781,0,none⟩) (Kd.S_types HO780.out BK781.out (by decide)) (fun _ hk=>hk.2) (.int .i64 t774)) (fun _ hk=>hk.2) (.slice Ao71 t775.length co71)) (fun _ hk=>hk.2) (.slice Ao72 t778.length co72)) (fun _ h_=>h_.1))));(case side4=>exact (Kd.S_reads' HO780.out).2.1);rintro e w73 ⟨rfl,hb⟩;refine ⟨_,rfl,?_⟩;replace HO_769001:=yam (Kd.R_below (by (with_reducible repeat (first|apply Kd.Ya|apply Kd.Yn|apply Kd.Yd));exact (Kd.R_mono (Kd.R_far (p:=⟨gb781,2,none⟩) (Kd.R_far (p:=⟨gb781,1,none⟩) (Kd.R_far (p:=⟨gb781,0,none⟩) (Kd.R_types HO_769001.out BK781.out (by decide)) (fun _ hk=>hk.2) (.int .i64 t774)) (fun _ hk=>hk.2) (.slice Ao71 t775.length co71)) (fun _ hk=>hk.2) (.slice Ao72 t778.length co72)) (fun _ h_=>h_.1))) hb);replace HO_769002:=yam (Kd.S_below (by (with_reducible repeat (first|apply Kd.S_alloc|apply Kd.S_drewN|apply Kd.S_drew));exact (Kd.S_mono (Kd.S_far (p:=⟨gb781,2,none⟩) (Kd.S_far (p:=⟨gb781,1,none⟩) (Kd.S_far (p:=⟨gb781,0,none⟩) (Kd.S_types HO_769002.out BK781.out (by decide)) (fun _ hk=>hk.2) (.int .i64 t774)) (fun _ hk=>hk.2) (.slice Ao71 t775.length co71)) (fun _ hk=>hk.2) (.slice Ao72 t778.length co72)) (fun _ h_=>h_.1))) hb);replace HO773:=yam (Kd.R_below (by (with_reducible repeat (first|apply Kd.Ya|apply Kd.Yn|apply Kd.Yd));exact (Kd.R_mono (Kd.R_far (p:=⟨gb781,2,none⟩) (Kd.R_far (p:=⟨gb781,1,none⟩) (Kd.R_far (p:=⟨gb781,0,none⟩) (Kd.R_types HO773.out BK781.out (by decide)) (fun _ hk=>hk.2) (.int .i64 t774)) (fun _ hk=>hk.2) (.slice Ao71 t775.length co71)) (fun _ hk=>hk.2) (.slice Ao72 t778.length co72)) (fun _ h_=>h_.1))) hb);replace HO777:=yam (Kd.R_below (by (with_reducible repeat (first|apply Kd.Ya|apply Kd.Yn|apply Kd.Yd));exact (Kd.R_mono (Kd.R_far (p:=⟨gb781,2,none⟩) (Kd.R_far (p:=⟨gb781,1,none⟩) (Kd.R_far (p:=⟨gb781,0,none⟩) (Kd.R_types HO777.out BK781.out (by decide)) (fun _ hk=>hk.2) (.int .i64 t774)) (fun _ hk=>hk.2) (.slice Ao71 t775.length co71)) (fun _ hk=>hk.2) (.slice Ao72 t778.length co72)) (fun _ h_=>h_.1))) hb);replace HO780:=yam (Kd.S_below (by (with_reducible repeat (first|apply Kd.S_alloc|apply Kd.S_drewN|apply Kd.S_drew));exact (Kd.S_mono (Kd.S_far (p:=⟨gb781,2,none⟩) (Kd.S_far (p:=⟨gb781,1,none⟩) (Kd.S_far (p:=⟨gb781,0,none⟩) (Kd.S_types HO780.out BK781.out (by decide)) (fun _ hk=>hk.2) (.int .i64 t774)) (fun _ hk=>hk.2) (.slice Ao71 t775.length co71)) (fun _ hk=>hk.2) (.slice Ao72 t778.length co72)) (fun _ h_=>h_.1))) hb);replace BK758:=yam (blk_below (g:=gb758) (o:= .cells #[.int .i64 a0_0,.slice A0_1 l0_1.length c0_1,.slice A0_2 l0_2.length c0_2] 37 (0,0)) (by (with_reducible repeat (first|refine ybn ?_ _|refine ybd ?_|refine yba ?_ _));refine blk_far ?_ NB758_781.out _;(with_reducible repeat (first|refine ybn ?_ _|refine ybd ?_|refine yba ?_ _));refine blk_far ?_ NB758_781.out _;(with_reducible repeat (first|refine ybn ?_ _|refine ybd ?_|refine yba ?_ _));refine blk_far ?_ NB758_781.out _;(with_reducible repeat (first|refine ybn ?_ _|refine ybd ?_|refine yba ?_ _));exact BK758.out) hb);replace BK759:=yam (blk_below (g:=gb759) (o:= .cells #[.int .i64 0,.slice none 0 0,.slice none 0 0] 37 (0,0)) (by (with_reducible repeat (first|refine ybn ?_ _|refine ybd ?_|refine yba ?_ _));refine blk_far ?_ NB759_781.out _;(with_reducible repeat (first|refine ybn ?_ _|refine ybd ?_|refine yba ?_ _));refine blk_far ?_ NB759_781.out _;(with_reducible repeat (first|refine ybn ?_ _|refine ybd ?_|refine yba ?_ _));refine blk_far ?_ NB759_781.out _;(with_reducible repeat (first|refine ybn ?_ _|refine ybd ?_|refine yba ?_ _));exact BK759.out) hb);replace BK768:=yam (blk_below (g:=gb768) (o:= .cells #[.int .i64 x769000_1,.slice Ao62 x769001_1.length co62,.slice Ao63 x769002_1.length co63] 37 (0,0)) (by (with_reducible repeat (first|refine ybn ?_ _|refine ybd ?_|refine yba ?_ _));refine blk_far ?_ NB768_781.out _;(with_reducible repeat (first|refine ybn ?_ _|refine ybd ?_|refine yba ?_ _));refine blk_far ?_ NB768_781.out _;(with_reducible repeat (first|refine ybn ?_ _|refine ybd ?_|refine yba ?_ _));refine blk_far ?_ NB768_781.out _;(with_reducible repeat (first|refine ybn ?_ _|refine ybd ?_|refine yba ?_ _));exact BK768.out) hb);replace BK781:=yam (blk_below (g:=gb781) (o:= .cells #[.int .i64 t774,.slice Ao71 t775.length co71,.slice Ao72 t778.length co72] 37 (0,0)) (by (with_reducible repeat (first|refine ybn ?_ _|refine ybd ?_|refine yba ?_ _));refine blk_put (cs:= #[.int .i64 t774,.slice Ao71 t775.length co71,.slice none 0 0]) ?_ 2 _ rfl;(with_reducible repeat (first|refine ybn ?_ _|refine ybd ?_|refine yba ?_ _));refine blk_put (cs:= #[.int .i64 t774,.slice none 0 0,.slice none 0 0]) ?_ 1 _ rfl;(with_reducible repeat (first|refine ybn ?_ _|refine ybd ?_|refine yba ?_ _));refine blk_put (cs:= #[.int .i64 0,.slice none 0 0,.slice none 0 0]) ?_ 0 _ rfl;(with_reducible repeat (first|refine ybn ?_ _|refine ybd ?_|refine yba ?_ _));exact BK781.out) hb);replace HB:=yam (below_step yhb hb);(try clear hb);(try clear hk)))
    go_roundg kj18
    case measure=>have:=HK1.out;have:=HJ18.out;omega
    case rel=>exact ⟨(wrap64 (x6_1 + 1)),(x769000_1),(x769001_1),(x769002_1),(.slice Ao62 x769001_1.length co62),(.slice Ao63 x769002_1.length co63),yeq,H,⟨by have:=HK1.out;have:=HJ18.out;omega⟩,⟨by (with_reducible repeat (first|apply Kd.Ya|apply Kd.Yn|apply Kd.Yd));exact Kd.R_mono HO_769001.out (fun _ hk=>trivial)⟩,⟨by (with_reducible repeat (first|apply Kd.S_alloc|apply Kd.S_drewN|apply Kd.S_drew));exact Kd.S_mono HO_769002.out (fun _ hk=>hk.1.1.1)⟩,⟨ybk BK758.out⟩,⟨ybk BK759.out⟩,⟨ybk BK768.out⟩,⟨yhb⟩⟩
   replace H:=ytt H
   replace H:=yam H
   have hnb38:=NB768_758.out
   have hnc38:=NB758_768.out
   have hnb39:=NB768_759.out
   have hnc39:=NB759_768.out
   obtain ⟨hcz40_0,hcz40_1,hcz40_2,hfz40_0,hfz40_1,hfz40_2⟩:=ybc BK768.out
   go_wp2_with (first|((with_reducible refine gate_dst (N:=48) rfl ?_);refine Kd.R_lit (Kd.int .i64) _ 3 ?hg (N:=48) ?hd (xs:=([x6_1,wrap64 ((wrap64 ((t762.length:Int) - 1)) - x6_1)]:List Int)) (inner:=[.int .i64 x6_1,.int .i64 (wrap64 ((wrap64 ((t762.length:Int) - 1)) - x6_1))]) (ok:=fun _=>True) (okp:=fun _=>True) ?hr ?hp (fun _ hk=>hk) trivial (Below.refl _ _) (Nat.le_refl _) (by simp) ?_;(case hd=>rfl);(case hg=>rfl);(case hr=>first|(go_simp;done)|(go_simp;rfl));(case hp=>exact (Reps.one (show Kd.M (Kd.int .i64) _ _ _ x6_1 [.int .i64 x6_1] from rfl) (Reps.one (show Kd.M (Kd.int .i64) _ _ _ (wrap64 ((wrap64 ((t762.length:Int) - 1)) - x6_1)) [.int .i64 (wrap64 ((wrap64 ((t762.length:Int) - 1)) - x6_1))] from rfl) (Reps.none _ _))));intro v772 w41 ho42 hb hg_ hnew_;clear hg_ hnew_;(first|rw [← Ny771.out] at ho42|(simp only [Int.reduceToNat] at ho42;rw [← Ny771.out] at ho42));replace HO_769002:=yam (Kd.S_elder' (by (with_reducible repeat (first|apply Kd.S_alloc|apply Kd.S_drewN|apply Kd.S_drew));exact HO_769002.out) (Kd.Yb ho42) hb);have HO773:=yam (Kd.R_lower (Kd.Yw ho42 (Kd.R_lt (Kd.Yz HO_769001.out))) (below_size yhb));replace HO_769001:=yam (Kd.Ye (Kd.Yz HO_769001.out) (Kd.Yb ho42) hb);replace BK758:=yam (ybb BK758.out hb);replace BK759:=yam (ybb BK759.out hb);replace BK768:=yam (ybb BK768.out hb);replace HB:=yam (below_step yhb hb);clear hb ho42;obtain ⟨Ao43,co43,eo43⟩:=Kd.R_slice HO_769001.out;subst eo43;obtain ⟨Ao44,co44,eo44⟩:=Kd.S_slice HO_769002.out;subst eo44;obtain ⟨Ao45,co45,eo45⟩:=Kd.R_slice HO773.out;subst eo45)|(refine goesL_ (some 49) rfl rfl Try.func69 (by kernel_rfl) rfl #[.agg #[.int .i64 x769000_1,.slice Ao43 x769001_1.length co43,.slice Ao44 x769002_1.length co44],.slice Ao45 y771.length co45] rfl ymd ?_;(with_reducible refine (impl_without.calls kj18 x769000_1 _ _ x769001_1 _ _ x769002_1 _ _ y771 t774 t775 t778 _ ?side1 ?side2 ?side3 ?side4 ?side5 ?side6 A35.out).mono ?_);(case side1=>exact Kd.Cz (Kd.Yr HO_769001.out).2.2);(case side2=>exact (Kd.Yr HO_769001.out).2.1);(case side3=>repeat (first|exact (Kd.S_reads' HO_769002.out).2.2|(with_reducible refine Kd.C_alloc ?_ _)|(with_reducible refine Kd.C_drewN ?_ _)|(with_reducible refine Kd.C_drew ?_)));(case side4=>exact (Kd.S_reads' HO_769002.out).2.1);(case side5=>exact Kd.Cz (Kd.Yr HO773.out).2.2);(case side6=>exact (Kd.Yr HO773.out).2.1);rintro e w46 ⟨v776,v779,rfl,ho0,ho1,hb⟩;refine ⟨_,rfl,?_⟩;have HO777:=yam (Kd.R_lower (Kd.Yw (Kd.Yw ho0 (Kd.R_lt (Kd.Yz HO_769001.out))) (Kd.R_lt (Kd.Yz HO773.out))) (below_size yhb));have HO780:=yam (Kd.S_lower (Kd.S_new' (Kd.S_new' (Kd.S_new' ho1 (Kd.R_lt (Kd.Yz HO_769001.out))) (Kd.S_lt (by (with_reducible repeat (first|apply Kd.S_alloc|apply Kd.S_drewN|apply Kd.S_drew));exact HO_769002.out))) (Kd.R_lt (Kd.Yz HO773.out))) (below_size yhb));replace HO_769001:=yam (Kd.Ye (Kd.Yz HO_769001.out) (Kd.Yb ho0) hb);replace HO_769002:=yam (Kd.S_mono (Kd.S_told (Kd.S_told (Kd.S_old (by (with_reducible repeat (first|apply Kd.S_alloc|apply Kd.S_drewN|apply Kd.S_drew));exact HO_769002.out) hb) (Kd.Yb ho0)) (Kd.S_base ho1)) (fun _ h_=>h_.1));replace HO773:=yam (Kd.Ye (Kd.Yz HO773.out) (Kd.Yb ho0) hb);replace BK758:=yam (ybb BK758.out hb);replace BK759:=yam (ybb BK759.out hb);replace BK768:=yam (ybb BK768.out hb);replace HB:=yam (below_step yhb hb);(try clear hb);(try clear ho0);(try clear ho1))|(refine ybe 7 #[.int .i64 0,.slice none 0 0,.slice none 0 0] 37 ?_;intro gb781 hg w47 hbox hb;replace HO_769001:=yam (Kd.R_below (Kd.Yz HO_769001.out) hb);replace HO_769002:=yam (Kd.S_below (by (with_reducible repeat (first|apply Kd.S_alloc|apply Kd.S_drewN|apply Kd.S_drew));exact HO_769002.out) hb);replace HO773:=yam (Kd.R_below (Kd.Yz HO773.out) hb);replace HO777:=yam (Kd.R_below (Kd.Yz HO777.out) hb);replace HO780:=yam (Kd.S_below (by (with_reducible repeat (first|apply Kd.S_alloc|apply Kd.S_drewN|apply Kd.S_drew));exact HO780.out) hb);have BK781:=yam (hbox);have GW781:=yam ((by rw [hg];exact (below_size yhb):w.heap.size≤gb781));replace HB:=yam (below_step yhb hb);have GE781:=GW781;have NB758_781:=yam ((by rw [hg];exact Nat.ne_of_lt (blk_lt (g:=gb758) (o:= .cells #[.int .i64 a0_0,.slice A0_1 l0_1.length c0_1,.slice A0_2 l0_2.length c0_2] 37 (0,0)) (ybz BK758.out)):gb758≠gb781));have NB781_758:=yam ((by rw [hg];exact Nat.ne_of_gt (blk_lt (g:=gb758) (o:= .cells #[.int .i64 a0_0,.slice A0_1 l0_1.length c0_1,.slice A0_2 l0_2.length c0_2] 37 (0,0)) (ybz BK758.out)):gb781≠gb758));replace BK758:=yam (ybb BK758.out hb);have NB759_781:=yam ((by rw [hg];exact Nat.ne_of_lt (blk_lt (g:=gb759) (o:= .cells #[.int .i64 0,.slice none 0 0,.slice none 0 0] 37 (0,0)) (ybz BK759.out)):gb759≠gb781));have NB781_759:=yam ((by rw [hg];exact Nat.ne_of_gt (blk_lt (g:=gb759) (o:= .cells #[.int .i64 0,.slice none 0 0,.slice none 0 0] 37 (0,0)) (ybz BK759.out)):gb781≠gb759));replace BK759:=yam (ybb BK759.out hb);have NB768_781:=yam ((by rw [hg];exact Nat.ne_of_lt (blk_lt (g:=gb768) (o:= .cells #[.int .i64 x769000_1,.slice Ao43 x769001_1.length co43,.slice Ao44 x769002_1.length co44] 37 (0,0)) (ybz BK768.out)):gb768≠gb781));have NB781_768:=yam ((by rw [hg];exact Nat.ne_of_gt (blk_lt (g:=gb768) (o:= .cells #[.int .i64 x769000_1,.slice Ao43 x769001_1.length co43,.slice Ao44 x769002_1.length co44] 37 (0,0)) (ybz BK768.out)):gb781≠gb768));replace BK768:=yam (ybb BK768.out hb);clear hb hbox hg;have hnb48:=NB781_758.out;have hnc48:=NB758_781.out;have hnb49:=NB781_759.out;have hnc49:=NB759_781.out;have hnb50:=NB781_768.out;have hnc50:=NB768_781.out;obtain ⟨hcz51_0,hcz51_1,hcz51_2,hfz51_0,hfz51_1,hfz51_2⟩:=ybc BK781.out;obtain ⟨Ao52,co52,eo52⟩:=Kd.R_slice HO777.out;subst eo52;obtain ⟨Ao53,co53,eo53⟩:=Kd.S_slice HO780.out;subst eo53)|(refine goesL_ (some 51) rfl rfl Try.func68 (by kernel_rfl) rfl #[.agg #[.int .i64 t774,.slice Ao52 t775.length co52,.slice Ao53 t778.length co53]] rfl ymd ?_;(with_reducible refine (impl_onlyOne.calls kj18 t774 _ _ t775 _ _ t778 true _ ?side1 ?side2 ?side3 ?side4 A36.out).mono ?_);(case side1=>refine (Kd.Yr (e:=3) (base:=w.heap.size) (ok:=fun k_=>((True∧some k_≠(.slice Ao43 x769001_1.length co43:Value).ownBlock)∧some k_≠(.slice Ao45 y771.length co45:Value).ownBlock)) (n:=t775.length) (c:=co52) ?_).2.2;exact (by (with_reducible repeat (first|apply Kd.Ya|apply Kd.Yn|apply Kd.Yd));exact (Kd.R_mono (Kd.R_far (p:=⟨gb781,2,none⟩) (Kd.R_far (p:=⟨gb781,1,none⟩) (Kd.R_far (p:=⟨gb781,0,none⟩) (Kd.R_types HO777.out BK781.out (by decide)) (fun _ hk=>hk.2) (.int .i64 t774)) (fun _ hk=>hk.2) (.slice Ao52 t775.length co52)) (fun _ hk=>hk.2) (.slice Ao53 t778.length co53)) (fun _ h_=>h_.1))));(case side2=>exact (Kd.Yr HO777.out).2.1);(case side3=>refine (Kd.S_reads' (e:=73) (base:=w.heap.size) (ok:=fun k_=>(((some k_≠(.slice Ao52 t775.length co52:Value).ownBlock∧some k_≠(.slice Ao43 x769001_1.length co43:Value).ownBlock)∧some k_≠(.slice Ao44 x769002_1.length co44:Value).ownBlock)∧some k_≠(.slice Ao45 y771.length co45:Value).ownBlock)) (n:=t778.length) (c:=co53) ?_).2.2;exact (by (with_reducible repeat (first|apply Kd.S_alloc|apply Kd.S_drewN|apply Kd.S_drew));exact (Kd.S_mono (Kd.S_far (p:=⟨gb781,2,none⟩) (Kd.S_far (p:=⟨gb781,1,none⟩) (Kd.S_far (p:=⟨gb781,0,none⟩) (Kd.S_types HO780.out BK781.out (by decide)) (fun _ hk=>hk.2) (.int .i64 t774)) (fun _ hk=>hk.2) (.slice Ao52 t775.length co52)) (fun _ hk=>hk.2) (.slice Ao53 t778.length co53)) (fun _ h_=>h_.1))));(case side4=>exact (Kd.S_reads' HO780.out).2.1);rintro e w54 ⟨rfl,hb⟩;refine ⟨_,rfl,?_⟩;replace HO_769001:=yam (Kd.R_below (by (with_reducible repeat (first|apply Kd.Ya|apply Kd.Yn|apply Kd.Yd));exact (Kd.R_mono (Kd.R_far (p:=⟨gb781,2,none⟩) (Kd.R_far (p:=⟨gb781,1,none⟩) (Kd.R_far (p:=⟨gb781,0,none⟩) (Kd.R_types HO_769001.out BK781.out (by decide)) (fun _ hk=>hk.2) (.int .i64 t774)) (fun _ hk=>hk.2) (.slice Ao52 t775.length co52)) (fun _ hk=>hk.2) (.slice Ao53 t778.length co53)) (fun _ h_=>h_.1))) hb);replace HO_769002:=yam (Kd.S_below (by (with_reducible repeat (first|apply Kd.S_alloc|apply Kd.S_drewN|apply Kd.S_drew));exact (Kd.S_mono (Kd.S_far (p:=⟨gb781,2,none⟩) (Kd.S_far (p:=⟨gb781,1,none⟩) (Kd.S_far (p:=⟨gb781,0,none⟩) (Kd.S_types HO_769002.out BK781.out (by decide)) (fun _ hk=>hk.2) (.int .i64 t774)) (fun _ hk=>hk.2) (.slice Ao52 t775.length co52)) (fun _ hk=>hk.2) (.slice Ao53 t778.length co53)) (fun _ h_=>h_.1))) hb);replace HO773:=yam (Kd.R_below (by (with_reducible repeat (first|apply Kd.Ya|apply Kd.Yn|apply Kd.Yd));exact (Kd.R_mono (Kd.R_far (p:=⟨gb781,2,none⟩) (Kd.R_far (p:=⟨gb781,1,none⟩) (Kd.R_far (p:=⟨gb781,0,none⟩) (Kd.R_types HO773.out BK781.out (by decide)) (fun _ hk=>hk.2) (.int .i64 t774)) (fun _ hk=>hk.2) (.slice Ao52 t775.length co52)) (fun _ hk=>hk.2) (.slice Ao53 t778.length co53)) (fun _ h_=>h_.1))) hb);replace HO777:=yam (Kd.R_below (by (with_reducible repeat (first|apply Kd.Ya|apply Kd.Yn|apply Kd.Yd));exact (Kd.R_mono (Kd.R_far (p:=⟨gb781,2,none⟩) (Kd.R_far (p:=⟨gb781,1,none⟩) (Kd.R_far (p:=⟨gb781,0,none⟩) (Kd.R_types HO777.out BK781.out (by decide)) (fun _ hk=>hk.2) (.int .i64 t774)) (fun _ hk=>hk.2) (.slice Ao52 t775.length co52)) (fun _ hk=>hk.2) (.slice Ao53 t778.length co53)) (fun _ h_=>h_.1))) hb);replace HO780:=yam (Kd.S_below (by (with_reducible repeat (first|apply Kd.S_alloc|apply Kd.S_drewN|apply Kd.S_drew));exact (Kd.S_mono (Kd.S_far (p:=⟨gb781,2,none⟩) (Kd.S_far (p:=⟨gb781,1,none⟩) (Kd.S_far (p:=⟨gb781,0,none⟩) (Kd.S_types HO780.out BK781.out (by decide)) (fun _ hk=>hk.2) (.int .i64 t774)) (fun _ hk=>hk.2) (.slice Ao52 t775.length co52)) (fun _ hk=>hk.2) (.slice Ao53 t778.length co53)) (fun _ h_=>h_.1))) hb);replace BK758:=yam (blk_below (g:=gb758) (o:= .cells #[.int .i64 a0_0,.slice A0_1 l0_1.length c0_1,.slice A0_2 l0_2.length c0_2] 37 (0,0)) (by (with_reducible repeat (first|refine ybn ?_ _|refine ybd ?_|refine yba ?_ _));refine blk_far ?_ NB758_781.out _;(with_reducible repeat (first|refine ybn ?_ _|refine ybd ?_|refine yba ?_ _));refine blk_far ?_ NB758_781.out _;(with_reducible repeat (first|refine ybn ?_ _|refine ybd ?_|refine yba ?_ _));refine blk_far ?_ NB758_781.out _;(with_reducible repeat (first|refine ybn ?_ _|refine ybd ?_|refine yba ?_ _));exact BK758.out) hb);replace BK759:=yam (blk_below (g:=gb759) (o:= .cells #[.int .i64 0,.slice none 0 0,.slice none 0 0] 37 (0,0)) (by (with_reducible repeat (first|refine ybn ?_ _|refine ybd ?_|refine yba ?_ _));refine blk_far ?_ NB759_781.out _;(with_reducible repeat (first|refine ybn ?_ _|refine ybd ?_|refine yba ?_ _));refine blk_far ?_ NB759_781.out _;(with_reducible repeat (first|refine ybn ?_ _|refine ybd ?_|refine yba ?_ _));refine blk_far ?_ NB759_781.out _;(with_reducible repeat (first|refine ybn ?_ _|refine ybd ?_|refine yba ?_ _));exact BK759.out) hb);replace BK768:=yam (blk_below (g:=gb768) (o:= .cells #[.int .i64 x769000_1,.slice Ao43 x769001_1.length co43,.slice Ao44 x769002_1.length co44] 37 (0,0)) (by (with_reducible repeat (first|refine ybn ?_ _|refine ybd ?_|refine yba ?_ _));refine blk_far ?_ NB768_781.out _;(with_reducible repeat (first|refine ybn ?_ _|refine ybd ?_|refine yba ?_ _));refine blk_far ?_ NB768_781.out _;(with_reducible repeat (first|refine ybn ?_ _|refine ybd ?_|refine yba ?_ _));refine blk_far ?_ NB768_781.out _;(with_reducible repeat (first|refine ybn ?_ _|refine ybd ?_|refine yba ?_ _));exact BK768.out) hb);replace BK781:=yam (blk_below (g:=gb781) (o:= .cells #[.int .i64 t774,.slice Ao52 t775.length co52,.slice Ao53 t778.length co53] 37 (0,0)) (by (with_reducible repeat (first|refine ybn ?_ _|refine ybd ?_|refine yba ?_ _));refine blk_put (cs:= #[.int .i64 t774,.slice Ao52 t775.length co52,.slice none 0 0]) ?_ 2 _ rfl;(with_reducible repeat (first|refine ybn ?_ _|refine ybd ?_|refine yba ?_ _));refine blk_put (cs:= #[.int .i64 t774,.slice none 0 0,.slice none 0 0]) ?_ 1 _ rfl;(with_reducible repeat (first|refine ybn ?_ _|refine ybd ?_|refine yba ?_ _));refine blk_put (cs:= #[.int .i64 0,.slice none 0 0,.slice none 0 0]) ?_ 0 _ rfl;(with_reducible repeat (first|refine ybn ?_ _|refine ybd ?_|refine yba ?_ _));exact BK781.out) hb);replace HB:=yam (below_step yhb hb);(try clear hb);(try clear hk);obtain ⟨hcz55_0,hcz55_1,hcz55_2,hfz55_0,hfz55_1,hfz55_2⟩:=ybc BK781.out;obtain ⟨hcz56_0,hcz56_1,hcz56_2,hfz56_0,hfz56_1,hfz56_2⟩:=ybc BK768.out))
   go_roundg kj18
   case measure=>have:=HK1.out;have:=HJ18.out;omega
   case rel=>exact ⟨(wrap64 (x6_1 + 1)),(t774),(t775),(t778),(.slice Ao52 t775.length co52),(.slice Ao53 t778.length co53),yeq,H,⟨by have:=HK1.out;have:=HJ18.out;omega⟩,⟨by (with_reducible repeat (first|apply Kd.Ya|apply Kd.Yn|apply Kd.Yd));exact Kd.R_mono (Kd.R_far (p:=⟨gb768,2,none⟩) (Kd.R_far (p:=⟨gb768,1,none⟩) (Kd.R_far (p:=⟨gb768,0,none⟩) (Kd.R_types HO777.out BK768.out (by decide)) (fun _ hk=>hk.2) (.int .i64 t774)) (fun _ hk=>hk.2) (.slice Ao52 t775.length co52)) (fun _ hk=>hk.2) (.slice Ao53 t778.length co53)) (fun _ hk=>trivial)⟩,⟨by (with_reducible repeat (first|apply Kd.S_alloc|apply Kd.S_drewN|apply Kd.S_drew));exact Kd.S_mono (Kd.S_far (p:=⟨gb768,2,none⟩) (Kd.S_far (p:=⟨gb768,1,none⟩) (Kd.S_far (p:=⟨gb768,0,none⟩) (Kd.S_types HO780.out BK768.out (by decide)) (fun _ hk=>hk.2) (.int .i64 t774)) (fun _ hk=>hk.2) (.slice Ao52 t775.length co52)) (fun _ hk=>hk.2) (.slice Ao53 t778.length co53)) (fun _ hk=>hk.1.1.1.1)⟩,⟨by (with_reducible repeat (first|refine ybn ?_ _|refine ybd ?_|refine yba ?_ _));refine blk_far ?_ NB758_768.out _;(with_reducible repeat (first|refine ybn ?_ _|refine ybd ?_|refine yba ?_ _));refine blk_far ?_ NB758_768.out _;(with_reducible repeat (first|refine ybn ?_ _|refine ybd ?_|refine yba ?_ _));refine blk_far ?_ NB758_768.out _;(with_reducible repeat (first|refine ybn ?_ _|refine ybd ?_|refine yba ?_ _));exact BK758.out⟩,⟨by (with_reducible repeat (first|refine ybn ?_ _|refine ybd ?_|refine yba ?_ _));refine blk_far ?_ NB759_768.out _;(with_reducible repeat (first|refine ybn ?_ _|refine ybd ?_|refine yba ?_ _));refine blk_far ?_ NB759_768.out _;(with_reducible repeat (first|refine ybn ?_ _|refine ybd ?_|refine yba ?_ _));refine blk_far ?_ NB759_768.out _;(with_reducible repeat (first|refine ybn ?_ _|refine ybd ?_|refine yba ?_ _));exact BK759.out⟩,⟨by (with_reducible repeat (first|refine ybn ?_ _|refine ybd ?_|refine yba ?_ _));refine blk_put (cs:= #[.int .i64 t774,.slice Ao52 t775.length co52,.slice Ao44 x769002_1.length co44]) ?_ 2 _ rfl;(with_reducible repeat (first|refine ybn ?_ _|refine ybd ?_|refine yba ?_ _));refine blk_put (cs:= #[.int .i64 t774,.slice Ao43 x769001_1.length co43,.slice Ao44 x769002_1.length co44]) ?_ 1 _ rfl;(with_reducible repeat (first|refine ybn ?_ _|refine ybd ?_|refine yba ?_ _));refine blk_put (cs:= #[.int .i64 x769000_1,.slice Ao43 x769001_1.length co43,.slice Ao44 x769002_1.length co44]) ?_ 0 _ rfl;(with_reducible repeat (first|refine ybn ?_ _|refine ybd ?_|refine yba ?_ _));exact BK768.out⟩,⟨yhb⟩⟩
def laws_FnExactMakeEven.f (k:Nat)(a0_0:Int)(l0_1:List Int)(l0_2:List S70):Option Bool:=(laws_szPuzzle.f k a0_0 l0_1 l0_2 1048576).bind fun u101=>if u101 < 0 then some true else (laws_toPuzzle.f k a0_0 l0_1 l0_2).bind fun u102=>(spec_MakeEven.f k u102.1 u102.2.1 u102.2.2).bind fun u103=>(laws_toPuzzle.f k a0_0 l0_1 l0_2).bind fun u104=>(impl_MakeEven.f k u104.1 u104.2.1 u104.2.2).bind fun u105=>(laws_eqPuzzle.f k u105.1 u105.2.1 u105.2.2.1 u103.1 u103.2.1 u103.2.2.1).bind fun u106=>if u106=true then if (u105.2.2.2 != u103.2.2.2)=true then some false else (laws_toPuzzle.f k a0_0 l0_1 l0_2).bind fun u107=>(laws_eqPuzzle.f k u104.1 u104.2.1 u104.2.2 u107.1 u107.2.1 u107.2.2).bind fun u108=>if u108=true then (laws_markPuzzle.f k u104.1 u104.2.1 u104.2.2 1).bind fun u109=>if u109.1 < 0 then some false else (laws_eqPuzzle.f k u105.1 u105.2.1 u105.2.2.1 u103.1 u103.2.1 u103.2.2.1).bind fun u110=>if u110=true then if (u105.2.2.2 != u103.2.2.2)=true then some false else (laws_markPuzzle.f k u105.1 u105.2.1 u105.2.2.1 1).bind fun u111=>(laws_heldPuzzle.f k u105.1 u111.2.1 u111.2.2 1).bind fun u112=>if u112 < 0 then some false else if (u112 != u111.1)=true then some false else (laws_toPuzzle.f k a0_0 l0_1 l0_2).bind fun u113=>(impl_MakeEven.f k u113.1 u113.2.1 u113.2.2).bind fun u114=>(laws_eqPuzzle.f k u114.1 u114.2.1 u114.2.2.1 u103.1 u103.2.1 u103.2.2.1).bind fun u115=>if u115=true then if (u114.2.2.2 != u103.2.2.2)=true then some false else (laws_heldPuzzle.f k u105.1 u111.2.1 u111.2.2 1).bind fun u116=>if u116 < 0 then some false else if (u116 != u111.1)=true then some false else some true else some false else some false else some false else some false
theorem v_born {α:Type}{d:Kd α}{e b b':Nat}{ok:Nat→Prop}{V:World}{v:Value}{xs:List α}(h:Kd.V d e V b (fun k=>b≤k∧ok k) v xs)(hb:b'≤b):Kd.V d e V b' (fun k=>(b≤k∧k < V.heap.size)∧ok k) v xs:=Kd.V_lower (Kd.V_mono (Kd.V_bound h) (fun _ hk=>⟨⟨hk.1.1,hk.2⟩,hk.1.2⟩)) hb
theorem laws_FnExactMakeEven.calls (k:Nat)(a0_0:Int)(A0_1:Option Addr)(c0_1:Nat)(l0_1:List Int)(A0_2:Option Addr)(c0_2:Nat)(l0_2:List S70)(_r:Bool)(w:World)(hr0_1:Kd.C (Kd.int .i64) w A0_1 l0_1.length l0_1)(hc0_1:l0_1.length≤c0_1)(hr0_2:Kd.C k70 w A0_2 l0_2.length l0_2)(hc0_2:l0_2.length≤c0_2)(h:laws_FnExactMakeEven.f k a0_0 l0_1 l0_2=some true) :
  Calls Try.prog 10 #[.agg #[.int .i64 a0_0,.slice A0_1 l0_1.length c0_1,.slice A0_2 l0_2.length c0_2]] w fun e w'=>e= .returned (.bool true)∧Below w.heap.size w w':=by
 have HR0_1:=yam hr0_1
 have HC0_1:=yam hc0_1
 clear hr0_1 hc0_1
 have HR0_2:=yam hr0_2
 have HC0_2:=yam hc0_2
 clear hr0_2 hc0_2
 have HB:=yam (Below.refl w.heap.size w)
 unfold laws_FnExactMakeEven.f at h
 replace h:=Option.bind_eq_some_iff.1 h
 obtain ⟨t3,e_,h⟩:=h
 try dsimp only at h
 have E2:=yam e_
 clear e_
 by_cases q1:t3 < 0
 ·clear h
  have b1:=decide_eq_true q1
  clear q1
  go_enter Try.func10,Try.ntmps10
  go_wp2_with (first
   | (refine ybe 1 #[.int .i64 a0_0,.slice A0_1 l0_1.length c0_1,.slice A0_2 l0_2.length c0_2] 48 ?_;intro g1 hg w1_ hbox hb;have Bg1:=yam hbox;have Gg1:=yam (show w.heap.size≤g1∧g1 < w1_.heap.size from ⟨Nat.le_of_eq hg.symm,blk_lt hbox⟩);have Zw1_:=yam hb.size;replace HB:=yam (below_step HB.out hb);obtain ⟨hzg1_0,hzg1_1,hzg1_2,-⟩:=ybc Bg1.out;clear hb hbox hg)
   | (refine goesL_ (some 16) rfl rfl Try.func30 (by kernel_rfl) rfl #[.agg #[.int .i64 a0_0,.slice A0_1 l0_1.length c0_1,.slice A0_2 l0_2.length c0_2],.int .i64 1048576] rfl yma ?_;(with_reducible refine (laws_szPuzzle.calls k a0_0 _ _ l0_1 _ _ l0_2 1048576 t3 _ (Kd.C_below HR0_1.out HB.out) HC0_1.out (Kd.C_below HR0_2.out HB.out) HC0_2.out E2.out).mono ?_);rintro e w2_ ⟨rfl,hb⟩;refine ⟨_,rfl,?_⟩;clear Bg1;have Zw2_:=yam hb.size;replace HB:=yam (below_step HB.out hb);clear hb;clear hzg1_0;clear hzg1_1;clear hzg1_2;skip))
  go_ret
  exact ⟨rfl,HB.out⟩
 rw [if_neg q1] at h
 have b1:=decide_eq_false q1
 clear q1
 replace h:=Option.bind_eq_some_iff.1 h
 obtain ⟨⟨t5,t6,t10⟩,e_,h⟩:=h
 try dsimp only at h
 have E4:=yam e_
 clear e_
 replace h:=Option.bind_eq_some_iff.1 h
 obtain ⟨⟨t15,t16,t20,t24⟩,e_,h⟩:=h
 try dsimp only at h
 have E14:=yam e_
 clear e_
 replace h:=Option.bind_eq_some_iff.1 h
 obtain ⟨⟨t27,t28,t32⟩,e_,h⟩:=h
 try dsimp only at h
 have E26:=yam e_
 clear e_
 replace h:=Option.bind_eq_some_iff.1 h
 obtain ⟨⟨t38,t39,t43,t47⟩,e_,h⟩:=h
 try dsimp only at h
 have E37:=yam e_
 clear e_
 replace h:=Option.bind_eq_some_iff.1 h
 obtain ⟨t50,e_,h⟩:=h
 try dsimp only at h
 have E49:=yam e_
 clear e_
 by_cases q2:t50=true
 rotate_left
 ·rw [if_neg q2] at h
  exact absurd h (by decide)
 rw [if_pos q2] at h
 subst q2
 by_cases q3:(t47 != t24)=true
 ·rw [if_pos q3] at h
  exact absurd h (by decide)
 rw [if_neg q3] at h
 have b3:(t47 != t24)=false:=by simpa using q3
 have bb3:t47=t24:=by simpa using q3
 clear q3
 have bc3:=yam bb3
 clear bb3
 have be3:(t47 == t24)=true:=beq_iff_eq.2 bc3.out
 replace h:=Option.bind_eq_some_iff.1 h
 obtain ⟨⟨t52,t53,t57⟩,e_,h⟩:=h
 try dsimp only at h
 have E51:=yam e_
 clear e_
 replace h:=Option.bind_eq_some_iff.1 h
 obtain ⟨t62,e_,h⟩:=h
 try dsimp only at h
 have E61:=yam e_
 clear e_
 by_cases q4:t62=true
 rotate_left
 ·rw [if_neg q4] at h
  exact absurd h (by decide)
 rw [if_pos q4] at h
 subst q4
 replace h:=Option.bind_eq_some_iff.1 h
 obtain ⟨⟨t64,t65,t66⟩,e_,h⟩:=h
 try dsimp only at h
 have E63:=yam e_
 clear e_
 by_cases q5:t64 < 0
 ·rw [if_pos q5] at h
  exact absurd h (by decide)
 rw [if_neg q5] at h
 have b5:=decide_eq_false q5
 clear q5
 replace h:=Option.bind_eq_some_iff.1 h
 obtain ⟨t68,e_,h⟩:=h
 try dsimp only at h
 have E67:=yam e_
 clear e_
 by_cases q6:t68=true
 rotate_left
 ·rw [if_neg q6] at h
  exact absurd h (by decide)
 rw [if_pos q6] at h
 subst q6
 by_cases q7:(t47 != t24)=true
 ·rw [if_pos q7] at h
  exact absurd h (by decide)
 rw [if_neg q7] at h
 have b7:(t47 != t24)=false:=by simpa using q7
 have bb7:t47=t24:=by simpa using q7
 clear q7
 have bc7:=yam bb7
 clear bb7
 have be7:(t47 == t24)=true:=beq_iff_eq.2 bc7.out
 replace h:=Option.bind_eq_some_iff.1 h
 obtain ⟨⟨t70,t71,t72⟩,e_,h⟩:=h
 try dsimp only at h
 have E69:=yam e_
 clear e_
 replace h:=Option.bind_eq_some_iff.1 h
 obtain ⟨t74,e_,h⟩:=h
 try dsimp only at h
 have E73:=yam e_
 clear e_
 by_cases q8:t74 < 0
 ·rw [if_pos q8] at h
  exact absurd h (by decide)
 rw [if_neg q8] at h
 have b8:=decide_eq_false q8
 clear q8
 by_cases q9:(t74 != t70)=true
 ·rw [if_pos q9] at h
  exact absurd h (by decide)
 rw [if_neg q9] at h
 have b9:(t74 != t70)=false:=by simpa using q9
 have bb9:t74=t70:=by simpa using q9
 clear q9
 have bc9:=yam bb9
 clear bb9
 replace h:=Option.bind_eq_some_iff.1 h
 obtain ⟨⟨t76,t77,t81⟩,e_,h⟩:=h
 try dsimp only at h
 have E75:=yam e_
 clear e_
 replace h:=Option.bind_eq_some_iff.1 h
 obtain ⟨⟨t86,t87,t91,t95⟩,e_,h⟩:=h
 try dsimp only at h
 have E85:=yam e_
 clear e_
 replace h:=Option.bind_eq_some_iff.1 h
 obtain ⟨t98,e_,h⟩:=h
 try dsimp only at h
 have E97:=yam e_
 clear e_
 by_cases q10:t98=true
 rotate_left
 ·rw [if_neg q10] at h
  exact absurd h (by decide)
 rw [if_pos q10] at h
 subst q10
 by_cases q11:(t95 != t24)=true
 ·rw [if_pos q11] at h
  exact absurd h (by decide)
 rw [if_neg q11] at h
 have b11:(t95 != t24)=false:=by simpa using q11
 have bb11:t95=t24:=by simpa using q11
 clear q11
 have bc11:=yam bb11
 clear bb11
 have be11:(t95 == t24)=true:=beq_iff_eq.2 bc11.out
 replace h:=Option.bind_eq_some_iff.1 h
 obtain ⟨t100,e_,h⟩:=h
 try dsimp only at h
 have E99:=yam e_
 clear e_
 by_cases q12:t100 < 0
 ·rw [if_pos q12] at h
  exact absurd h (by decide)
 rw [if_neg q12] at h
 have b12:=decide_eq_false q12
 clear q12
 by_cases q13:(t100 != t70)=true
 ·rw [if_pos q13] at h
  exact absurd h (by decide)
 rw [if_neg q13] at h
 have b13:(t100 != t70)=false:=by simpa using q13
 have bb13:t100=t70:=by simpa using q13
 clear q13
 have bc13:=yam bb13
 clear bb13
 clear h
 go_enter Try.func10,Try.ntmps10
 go_wp2_with (first
  | (refine ybe 1 #[.int .i64 a0_0,.slice A0_1 l0_1.length c0_1,.slice A0_2 l0_2.length c0_2] 48 ?_;intro g1 hg w1_ hbox hb;have Bg1:=yam hbox;have Gg1:=yam (show w.heap.size≤g1∧g1 < w1_.heap.size from ⟨Nat.le_of_eq hg.symm,blk_lt hbox⟩);have Zw1_:=yam hb.size;replace HB:=yam (below_step HB.out hb);obtain ⟨hzg1_0,hzg1_1,hzg1_2,-⟩:=ybc Bg1.out;clear hb hbox hg)
  | (refine goesL_ (some 16) rfl rfl Try.func30 (by kernel_rfl) rfl #[.agg #[.int .i64 a0_0,.slice A0_1 l0_1.length c0_1,.slice A0_2 l0_2.length c0_2],.int .i64 1048576] rfl yma ?_;(with_reducible refine (laws_szPuzzle.calls k a0_0 _ _ l0_1 _ _ l0_2 1048576 t3 _ (Kd.C_below HR0_1.out HB.out) HC0_1.out (Kd.C_below HR0_2.out HB.out) HC0_2.out E2.out).mono ?_);rintro e w2_ ⟨rfl,hb⟩;refine ⟨_,rfl,?_⟩;replace Bg1:=yam (blk_below Bg1.out hb);have Zw2_:=yam hb.size;replace HB:=yam (below_step HB.out hb);clear hb;clear hzg1_0;clear hzg1_1;clear hzg1_2;obtain ⟨hzg1_0,hzg1_1,hzg1_2,-⟩:=ybc Bg1.out;skip)
  | (refine goesL_ (some 21) rfl rfl Try.func32 (by kernel_rfl) rfl #[.agg #[.int .i64 a0_0,.slice A0_1 l0_1.length c0_1,.slice A0_2 l0_2.length c0_2]] rfl yma ?_;(with_reducible refine (laws_toPuzzle.calls k a0_0 _ _ l0_1 _ _ l0_2 t5 t6 t10 _ (Kd.C_below HR0_1.out HB.out) HC0_1.out (Kd.C_below HR0_2.out HB.out) HC0_2.out E4.out).mono ?_);rintro e w3_ ⟨v0_,v1_,rfl,ho0_,ho1_,hb⟩;refine ⟨_,rfl,?_⟩;replace Bg1:=yam (blk_below Bg1.out hb);have O7:=yam (Kd.R_born ho0_ (below_size HB.out));obtain ⟨A8,c9,e_⟩:=Kd.R_slice O7.out;subst e_;have O11:=yam (Kd.S_born ho1_ (below_size HB.out));obtain ⟨A12,c13,e_⟩:=Kd.S_slice O11.out;subst e_;have Zw3_:=yam hb.size;replace HB:=yam (below_step HB.out hb);clear hb ho0_ ho1_;clear hzg1_0;clear hzg1_1;clear hzg1_2;obtain ⟨hzg1_0,hzg1_1,hzg1_2,-⟩:=ybc Bg1.out;skip)
  | (refine goesL_ (some 22) rfl rfl Try.func40 (by kernel_rfl) rfl #[.agg #[.int .i64 t5,.slice A8 t6.length c9,.slice A12 t10.length c13]] rfl yma ?_;(with_reducible refine (spec_MakeEven.calls k t5 _ _ t6 _ _ t10 t15 t16 t20 t24 _ (Kd.R_reads' O7.out).2.2 (Kd.R_reads' O7.out).2.1 (Kd.R_reads' (Kd.S_R O11.out)).2.2 (Kd.R_reads' (Kd.S_R O11.out)).2.1 E14.out).mono ?_);rintro e w4_ ⟨v0_,v1_,rfl,ho0_,ho1_,hb⟩;refine ⟨_,rfl,?_⟩;replace Bg1:=yam (blk_below Bg1.out hb);clear O7;clear O11;have O17:=yam (Kd.R_born ho0_ (below_size HB.out));obtain ⟨A18,c19,e_⟩:=Kd.R_slice O17.out;subst e_;have O21:=yam (v_born ho1_ (below_size HB.out));obtain ⟨A22,c23,e_⟩:=Kd.V_slice O21.out;subst e_;have Zw4_:=yam hb.size;replace HB:=yam (below_step HB.out hb);clear hb ho0_ ho1_;clear hzg1_0;clear hzg1_1;clear hzg1_2;obtain ⟨hzg1_0,hzg1_1,hzg1_2,-⟩:=ybc Bg1.out;skip)
  | (refine ybe 4 #[.int .i64 0,.slice none 0 0,.slice none 0 0] 37 ?_;intro g25 hg w5_ hbox hb;replace O17:=yam (Kd.R_below O17.out hb);replace O21:=yam (Kd.V_below O21.out hb);replace Bg1:=yam (blk_below Bg1.out hb);have Bg25:=yam hbox;have Gg25:=yam (show w4_.heap.size≤g25∧g25 < w5_.heap.size from ⟨Nat.le_of_eq hg.symm,blk_lt hbox⟩);have Zw5_:=yam hb.size;have Lg25:=yam (show w.heap.size≤g25 from Nat.le_trans (below_size HB.out) (Nat.le_of_eq hg.symm));replace HB:=yam (below_step HB.out hb);clear hzg1_0;clear hzg1_1;clear hzg1_2;obtain ⟨hzg1_0,hzg1_1,hzg1_2,-⟩:=ybc Bg1.out;obtain ⟨hzg25_0,hzg25_1,hzg25_2,-⟩:=ybc Bg25.out;have hzfg25_0:=blk_frozen Bg25.out 0;have hzfg25_1:=blk_frozen Bg25.out 1;have hzfg25_2:=blk_frozen Bg25.out 2;clear hb hbox hg)
  | ((with_reducible refine gate_store (t:=37) (p:=4) rfl ?_);refine store_event (t:=37) (p:=4) (v:=?vog25) (w1:=((w5_.setCell ⟨g25,0,none⟩ (.int .i64 t15)).setCell ⟨g25,1,none⟩ (.slice A18 t16.length c19)).setCell ⟨g25,2,none⟩ (.slice A22 t20.length c23)) ?hg ?ho ?hn ?hr ?_;(case ho=>rfl);(case hg=>rfl);(case hn=>rfl);(case hr=>first|(go_simp;done)|(go_simp;rfl));intro w6_ hw;have hk:Kept w5_ w6_ (fun k_=>k_=g25):=(by rw [hw];exact box3_kept _ _ _ _ _);have hx:w6_.heap[g25]?=some (.cells #[.int .i64 t15,.slice A18 t16.length c19,.slice A22 t20.length c23] 37 (0,0)):=(by rw [hw];exact box3_blk Bg25.out _ _ _);have hb:Below w.heap.size w w6_:=(by rw [hw];exact box3_below HB.out Lg25.out _ _ _);clear hw;replace O17:=yam (Kd.R_kept O17.out hk (fun k_ h_ s_=>by have hx_:=Gg25.out;have hy_:=h_.1;have hz_:=s_;have:=Zw1_.out;have:=Zw2_.out;have:=Zw3_.out;have:=Zw4_.out;have:=Zw5_.out;omega));replace O21:=yam (Kd.V_kept O21.out hk (fun k_ h_ s_=>by have hx_:=Gg25.out;have hy_:=h_.1;have hz_:=s_;have:=Zw1_.out;have:=Zw2_.out;have:=Zw3_.out;have:=Zw4_.out;have:=Zw5_.out;omega));replace Bg1:=yam (blk_kept Bg1.out hk (fun s_=>by have hx_:=Gg25.out;have hy_:=Gg1.out;have hz_:=s_;have:=Zw1_.out;have:=Zw2_.out;have:=Zw3_.out;have:=Zw4_.out;have:=Zw5_.out;omega));replace Bg25:=yam hx;have Zw6_:=yam hk.1;replace HB:=yam hb;clear hzfg25_0;clear hzfg25_1;clear hzfg25_2;clear hzg1_0;clear hzg1_1;clear hzg1_2;clear hzg25_0;clear hzg25_1;clear hzg25_2;obtain ⟨hzg1_0,hzg1_1,hzg1_2,-⟩:=ybc Bg1.out;obtain ⟨hzg25_0,hzg25_1,hzg25_2,-⟩:=ybc Bg25.out;clear hk hx hb)
  | (refine goesL_ (some 26) rfl rfl Try.func32 (by kernel_rfl) rfl #[.agg #[.int .i64 a0_0,.slice A0_1 l0_1.length c0_1,.slice A0_2 l0_2.length c0_2]] rfl yma ?_;(with_reducible refine (laws_toPuzzle.calls k a0_0 _ _ l0_1 _ _ l0_2 t27 t28 t32 _ (Kd.C_below HR0_1.out HB.out) HC0_1.out (Kd.C_below HR0_2.out HB.out) HC0_2.out E26.out).mono ?_);rintro e w7_ ⟨v0_,v1_,rfl,ho0_,ho1_,hb⟩;refine ⟨_,rfl,?_⟩;replace O17:=yam (Kd.R_below O17.out hb);replace O21:=yam (Kd.V_below O21.out hb);replace Bg1:=yam (blk_below Bg1.out hb);replace Bg25:=yam (blk_below Bg25.out hb);have O29:=yam (Kd.R_born ho0_ (below_size HB.out));obtain ⟨A30,c31,e_⟩:=Kd.R_slice O29.out;subst e_;have O33:=yam (Kd.S_born ho1_ (below_size HB.out));obtain ⟨A34,c35,e_⟩:=Kd.S_slice O33.out;subst e_;have Zw7_:=yam hb.size;replace HB:=yam (below_step HB.out hb);clear hb ho0_ ho1_;clear hzg1_0;clear hzg1_1;clear hzg1_2;clear hzg25_0;clear hzg25_1;clear hzg25_2;obtain ⟨hzg25_0,hzg25_1,hzg25_2,-⟩:=ybc Bg25.out;skip)
  | (refine ybe 6 #[.int .i64 0,.slice none 0 0,.slice none 0 0] 37 ?_;intro g36 hg w8_ hbox hb;replace O17:=yam (Kd.R_below O17.out hb);replace O21:=yam (Kd.V_below O21.out hb);replace O29:=yam (Kd.R_below O29.out hb);replace O33:=yam (Kd.S_below O33.out hb);replace Bg1:=yam (blk_below Bg1.out hb);replace Bg25:=yam (blk_below Bg25.out hb);have Bg36:=yam hbox;have Gg36:=yam (show w7_.heap.size≤g36∧g36 < w8_.heap.size from ⟨Nat.le_of_eq hg.symm,blk_lt hbox⟩);have Zw8_:=yam hb.size;have Lg36:=yam (show w.heap.size≤g36 from Nat.le_trans (below_size HB.out) (Nat.le_of_eq hg.symm));replace HB:=yam (below_step HB.out hb);clear hzg25_0;clear hzg25_1;clear hzg25_2;obtain ⟨hzg25_0,hzg25_1,hzg25_2,-⟩:=ybc Bg25.out;obtain ⟨hzg36_0,hzg36_1,hzg36_2,-⟩:=ybc Bg36.out;have hzfg36_0:=blk_frozen Bg36.out 0;have hzfg36_1:=blk_frozen Bg36.out 1;have hzfg36_2:=blk_frozen Bg36.out 2;clear hb hbox hg)
  | ((with_reducible refine gate_store (t:=37) (p:=6) rfl ?_);refine store_event (t:=37) (p:=6) (v:=?vog36) (w1:=((w8_.setCell ⟨g36,0,none⟩ (.int .i64 t27)).setCell ⟨g36,1,none⟩ (.slice A30 t28.length c31)).setCell ⟨g36,2,none⟩ (.slice A34 t32.length c35)) ?hg ?ho ?hn ?hr ?_;(case ho=>rfl);(case hg=>rfl);(case hn=>rfl);(case hr=>first|(go_simp;done)|(go_simp;rfl));intro w9_ hw;have hk:Kept w8_ w9_ (fun k_=>k_=g36):=(by rw [hw];exact box3_kept _ _ _ _ _);have hx:w9_.heap[g36]?=some (.cells #[.int .i64 t27,.slice A30 t28.length c31,.slice A34 t32.length c35] 37 (0,0)):=(by rw [hw];exact box3_blk Bg36.out _ _ _);have hb:Below w.heap.size w w9_:=(by rw [hw];exact box3_below HB.out Lg36.out _ _ _);clear hw;replace O17:=yam (Kd.R_kept O17.out hk (fun k_ h_ s_=>by have hx_:=Gg36.out;have hy_:=h_.1;have hz_:=s_;have:=Zw1_.out;have:=Zw2_.out;have:=Zw3_.out;have:=Zw4_.out;have:=Zw5_.out;have:=Zw6_.out;have:=Zw7_.out;have:=Zw8_.out;omega));replace O21:=yam (Kd.V_kept O21.out hk (fun k_ h_ s_=>by have hx_:=Gg36.out;have hy_:=h_.1;have hz_:=s_;have:=Zw1_.out;have:=Zw2_.out;have:=Zw3_.out;have:=Zw4_.out;have:=Zw5_.out;have:=Zw6_.out;have:=Zw7_.out;have:=Zw8_.out;omega));replace O29:=yam (Kd.R_kept O29.out hk (fun k_ h_ s_=>by have hx_:=Gg36.out;have hy_:=h_.1;have hz_:=s_;have:=Zw1_.out;have:=Zw2_.out;have:=Zw3_.out;have:=Zw4_.out;have:=Zw5_.out;have:=Zw6_.out;have:=Zw7_.out;have:=Zw8_.out;omega));replace O33:=yam (Kd.S_kept O33.out hk (fun k_ h_ s_=>by have hx_:=Gg36.out;have hy_:=h_.1;have hz_:=s_;have:=Zw1_.out;have:=Zw2_.out;have:=Zw3_.out;have:=Zw4_.out;have:=Zw5_.out;have:=Zw6_.out;have:=Zw7_.out;have:=Zw8_.out;omega));replace Bg1:=yam (blk_kept Bg1.out hk (fun s_=>by have hx_:=Gg36.out;have hy_:=Gg1.out;have hz_:=s_;have:=Zw1_.out;have:=Zw2_.out;have:=Zw3_.out;have:=Zw4_.out;have:=Zw5_.out;have:=Zw6_.out;have:=Zw7_.out;have:=Zw8_.out;omega));replace Bg25:=yam (blk_kept Bg25.out hk (fun s_=>by have hx_:=Gg36.out;have hy_:=Gg25.out;have hz_:=s_;have:=Zw1_.out;have:=Zw2_.out;have:=Zw3_.out;have:=Zw4_.out;have:=Zw5_.out;have:=Zw6_.out;have:=Zw7_.out;have:=Zw8_.out;omega));replace Bg36:=yam hx;have Zw9_:=yam hk.1;replace HB:=yam hb;clear hzfg36_0;clear hzfg36_1;clear hzfg36_2;clear hzg25_0;clear hzg25_1;clear hzg25_2;clear hzg36_0;clear hzg36_1;clear hzg36_2;obtain ⟨hzg25_0,hzg25_1,hzg25_2,-⟩:=ybc Bg25.out;obtain ⟨hzg36_0,hzg36_1,hzg36_2,-⟩:=ybc Bg36.out;clear hk hx hb)
  | (refine goesL_ (some 29) rfl rfl Try.func41 (by kernel_rfl) rfl #[.agg #[.int .i64 t27,.slice A30 t28.length c31,.slice A34 t32.length c35]] rfl yma ?_;(with_reducible refine (impl_MakeEven.calls k t27 _ _ t28 _ _ t32 t38 t39 t43 t47 _ (Kd.R_reads' O29.out).2.2 (Kd.R_reads' O29.out).2.1 (Kd.R_reads' (Kd.S_R O33.out)).2.2 (Kd.R_reads' (Kd.S_R O33.out)).2.1 E37.out).mono ?_);rintro e w10_ ⟨v0_,v1_,rfl,ho0_,ho1_,hb⟩;refine ⟨_,rfl,?_⟩;replace O17:=yam (Kd.R_below O17.out hb);replace O21:=yam (Kd.V_below O21.out hb);replace O29:=yam (Kd.R_below O29.out hb);replace O33:=yam (Kd.S_below O33.out hb);replace Bg1:=yam (blk_below Bg1.out hb);replace Bg25:=yam (blk_below Bg25.out hb);replace Bg36:=yam (blk_below Bg36.out hb);have O40:=yam (Kd.R_born ho0_ (below_size HB.out));obtain ⟨A41,c42,e_⟩:=Kd.R_slice O40.out;subst e_;have O44:=yam (Kd.S_born ho1_ (below_size HB.out));obtain ⟨A45,c46,e_⟩:=Kd.S_slice O44.out;subst e_;have Zw10_:=yam hb.size;replace HB:=yam (below_step HB.out hb);clear hb ho0_ ho1_;clear hzg25_0;clear hzg25_1;clear hzg25_2;clear hzg36_0;clear hzg36_1;clear hzg36_2;obtain ⟨hzg25_0,hzg25_1,hzg25_2,-⟩:=ybc Bg25.out;skip)
  | (refine ybe 7 #[.int .i64 0,.slice none 0 0,.slice none 0 0] 37 ?_;intro g48 hg w11_ hbox hb;replace O17:=yam (Kd.R_below O17.out hb);replace O21:=yam (Kd.V_below O21.out hb);replace O29:=yam (Kd.R_below O29.out hb);replace O33:=yam (Kd.S_below O33.out hb);replace O40:=yam (Kd.R_below O40.out hb);replace O44:=yam (Kd.S_below O44.out hb);replace Bg1:=yam (blk_below Bg1.out hb);replace Bg25:=yam (blk_below Bg25.out hb);replace Bg36:=yam (blk_below Bg36.out hb);have Bg48:=yam hbox;have Gg48:=yam (show w10_.heap.size≤g48∧g48 < w11_.heap.size from ⟨Nat.le_of_eq hg.symm,blk_lt hbox⟩);have Zw11_:=yam hb.size;have Lg48:=yam (show w.heap.size≤g48 from Nat.le_trans (below_size HB.out) (Nat.le_of_eq hg.symm));replace HB:=yam (below_step HB.out hb);clear hzg25_0;clear hzg25_1;clear hzg25_2;obtain ⟨hzg25_0,hzg25_1,hzg25_2,-⟩:=ybc Bg25.out;obtain ⟨hzg48_0,hzg48_1,hzg48_2,-⟩:=ybc Bg48.out;have hzfg48_0:=blk_frozen Bg48.out 0;have hzfg48_1:=blk_frozen Bg48.out 1;have hzfg48_2:=blk_frozen Bg48.out 2;clear hb hbox hg)
  | ((with_reducible refine gate_store (t:=37) (p:=7) rfl ?_);refine store_event (t:=37) (p:=7) (v:=?vog48) (w1:=((w11_.setCell ⟨g48,0,none⟩ (.int .i64 t38)).setCell ⟨g48,1,none⟩ (.slice A41 t39.length c42)).setCell ⟨g48,2,none⟩ (.slice A45 t43.length c46)) ?hg ?ho ?hn ?hr ?_;(case ho=>rfl);(case hg=>rfl);(case hn=>rfl);(case hr=>first|(go_simp;done)|(go_simp;rfl));intro w12_ hw;have hk:Kept w11_ w12_ (fun k_=>k_=g48):=(by rw [hw];exact box3_kept _ _ _ _ _);have hx:w12_.heap[g48]?=some (.cells #[.int .i64 t38,.slice A41 t39.length c42,.slice A45 t43.length c46] 37 (0,0)):=(by rw [hw];exact box3_blk Bg48.out _ _ _);have hb:Below w.heap.size w w12_:=(by rw [hw];exact box3_below HB.out Lg48.out _ _ _);clear hw;replace O17:=yam (Kd.R_kept O17.out hk (fun k_ h_ s_=>by have hx_:=Gg48.out;have hy_:=h_.1;have hz_:=s_;have:=Zw1_.out;have:=Zw2_.out;have:=Zw3_.out;have:=Zw4_.out;have:=Zw5_.out;have:=Zw6_.out;have:=Zw7_.out;have:=Zw8_.out;have:=Zw9_.out;have:=Zw10_.out;have:=Zw11_.out;omega));replace O21:=yam (Kd.V_kept O21.out hk (fun k_ h_ s_=>by have hx_:=Gg48.out;have hy_:=h_.1;have hz_:=s_;have:=Zw1_.out;have:=Zw2_.out;have:=Zw3_.out;have:=Zw4_.out;have:=Zw5_.out;have:=Zw6_.out;have:=Zw7_.out;have:=Zw8_.out;have:=Zw9_.out;have:=Zw10_.out;have:=Zw11_.out;omega));replace O29:=yam (Kd.R_kept O29.out hk (fun k_ h_ s_=>by have hx_:=Gg48.out;have hy_:=h_.1;have hz_:=s_;have:=Zw1_.out;have:=Zw2_.out;have:=Zw3_.out;have:=Zw4_.out;have:=Zw5_.out;have:=Zw6_.out;have:=Zw7_.out;have:=Zw8_.out;have:=Zw9_.out;have:=Zw10_.out;have:=Zw11_.out;omega));replace O33:=yam (Kd.S_kept O33.out hk (fun k_ h_ s_=>by have hx_:=Gg48.out;have hy_:=h_.1;have hz_:=s_;have:=Zw1_.out;have:=Zw2_.out;have:=Zw3_.out;have:=Zw4_.out;have:=Zw5_.out;have:=Zw6_.out;have:=Zw7_.out;have:=Zw8_.out;have:=Zw9_.out;have:=Zw10_.out;have:=Zw11_.out;omega));replace O40:=yam (Kd.R_kept O40.out hk (fun k_ h_ s_=>by have hx_:=Gg48.out;have hy_:=h_.1;have hz_:=s_;have:=Zw1_.out;have:=Zw2_.out;have:=Zw3_.out;have:=Zw4_.out;have:=Zw5_.out;have:=Zw6_.out;have:=Zw7_.out;have:=Zw8_.out;have:=Zw9_.out;have:=Zw10_.out;have:=Zw11_.out;omega));replace O44:=yam (Kd.S_kept O44.out hk (fun k_ h_ s_=>by have hx_:=Gg48.out;have hy_:=h_.1;have hz_:=s_;have:=Zw1_.out;have:=Zw2_.out;have:=Zw3_.out;have:=Zw4_.out;have:=Zw5_.out;have:=Zw6_.out;have:=Zw7_.out;have:=Zw8_.out;have:=Zw9_.out;have:=Zw10_.out;have:=Zw11_.out;omega));replace Bg1:=yam (blk_kept Bg1.out hk (fun s_=>by have hx_:=Gg48.out;have hy_:=Gg1.out;have hz_:=s_;have:=Zw1_.out;have:=Zw2_.out;have:=Zw3_.out;have:=Zw4_.out;have:=Zw5_.out;have:=Zw6_.out;have:=Zw7_.out;have:=Zw8_.out;have:=Zw9_.out;have:=Zw10_.out;have:=Zw11_.out;omega));replace Bg25:=yam (blk_kept Bg25.out hk (fun s_=>by have hx_:=Gg48.out;have hy_:=Gg25.out;have hz_:=s_;have:=Zw1_.out;have:=Zw2_.out;have:=Zw3_.out;have:=Zw4_.out;have:=Zw5_.out;have:=Zw6_.out;have:=Zw7_.out;have:=Zw8_.out;have:=Zw9_.out;have:=Zw10_.out;have:=Zw11_.out;omega));replace Bg36:=yam (blk_kept Bg36.out hk (fun s_=>by have hx_:=Gg48.out;have hy_:=Gg36.out;have hz_:=s_;have:=Zw1_.out;have:=Zw2_.out;have:=Zw3_.out;have:=Zw4_.out;have:=Zw5_.out;have:=Zw6_.out;have:=Zw7_.out;have:=Zw8_.out;have:=Zw9_.out;have:=Zw10_.out;have:=Zw11_.out;omega));replace Bg48:=yam hx;have Zw12_:=yam hk.1;replace HB:=yam hb;clear hzfg48_0;clear hzfg48_1;clear hzfg48_2;clear hzg25_0;clear hzg25_1;clear hzg25_2;clear hzg48_0;clear hzg48_1;clear hzg48_2;obtain ⟨hzg25_0,hzg25_1,hzg25_2,-⟩:=ybc Bg25.out;obtain ⟨hzg48_0,hzg48_1,hzg48_2,-⟩:=ybc Bg48.out;clear hk hx hb)
  | (refine goesL_ (some 34) rfl rfl Try.func25 (by kernel_rfl) rfl #[.agg #[.int .i64 t38,.slice A41 t39.length c42,.slice A45 t43.length c46],.agg #[.int .i64 t15,.slice A18 t16.length c19,.slice A22 t20.length c23]] rfl yma ?_;(with_reducible refine (laws_eqPuzzle.calls k t38 _ _ t39 _ _ t43 t15 _ _ t16 _ _ t20 true _ (Kd.R_reads' O40.out).2.2 (Kd.R_reads' O40.out).2.1 (Kd.R_reads' (Kd.S_R O44.out)).2.2 (Kd.R_reads' (Kd.S_R O44.out)).2.1 (Kd.R_reads' O17.out).2.2 (Kd.R_reads' O17.out).2.1 (Kd.V_reads' O21.out).2.2 (Kd.V_reads' O21.out).2.1 E49.out).mono ?_);rintro e w13_ ⟨rfl,hb⟩;refine ⟨_,rfl,?_⟩;replace O17:=yam (Kd.R_below O17.out hb);replace O21:=yam (Kd.V_below O21.out hb);replace O29:=yam (Kd.R_below O29.out hb);replace O33:=yam (Kd.S_below O33.out hb);replace O40:=yam (Kd.R_below O40.out hb);replace O44:=yam (Kd.S_below O44.out hb);replace Bg1:=yam (blk_below Bg1.out hb);replace Bg25:=yam (blk_below Bg25.out hb);replace Bg36:=yam (blk_below Bg36.out hb);replace Bg48:=yam (blk_below Bg48.out hb);have Zw13_:=yam hb.size;replace HB:=yam (below_step HB.out hb);clear hb;clear hzg25_0;clear hzg25_1;clear hzg25_2;clear hzg48_0;clear hzg48_1;clear hzg48_2;skip))
 refine start_ (n:=5) (S:=fun w'=>w'.cell? ⟨g36,0,none⟩=some (.int .i64 t27)∧w'.cell? ⟨g36,1,none⟩=some (.slice A30 t28.length c31)∧w'.cell? ⟨g36,2,none⟩=some (.slice A34 t32.length c35)∧w'.cell? ⟨g1,0,none⟩=some (.int .i64 a0_0)∧w'.cell? ⟨g1,1,none⟩=some (.slice A0_1 l0_1.length c0_1)∧w'.cell? ⟨g1,2,none⟩=some (.slice A0_2 l0_2.length c0_2)) (ds:=[]) (yvb 5 0) (by kernel_rfl) rfl rfl ⟨(blk_cell Bg36.out 0).trans rfl,(blk_cell Bg36.out 1).trans rfl,(blk_cell Bg36.out 2).trans rfl,(blk_cell Bg1.out 0).trans rfl,(blk_cell Bg1.out 1).trans rfl,(blk_cell Bg1.out 2).trans rfl⟩ (fun hHeld=>?_)
 replace O17:=yam (Kd.R_drew O17.out)
 replace O21:=yam (Kd.V_drew O21.out)
 replace O29:=yam (Kd.R_drew O29.out)
 replace O33:=yam (Kd.S_drew O33.out)
 replace O40:=yam (Kd.R_drew O40.out)
 replace O44:=yam (Kd.S_drew O44.out)
 have HB_:=yam (show Below w.heap.size w w13_.drew from below_drew HB.out)
 have hdz_:=yam (show w13_.heap.size≤w13_.drew.heap.size from Nat.le_refl _)
 clear HB
 have HB:=HB_
 clear HB_
 have n_:=yam (show w13_.drew.heap[g1]?=_ from Bg1.out)
 clear Bg1
 have Bg1:=n_
 clear n_
 have n_:=yam (show w13_.drew.heap[g25]?=_ from Bg25.out)
 clear Bg25
 have Bg25:=n_
 clear n_
 have n_:=yam (show w13_.drew.heap[g36]?=_ from Bg36.out)
 clear Bg36
 have Bg36:=n_
 clear n_
 have n_:=yam (show w13_.drew.heap[g48]?=_ from Bg48.out)
 clear Bg48
 have Bg48:=n_
 clear n_
 generalize w13_.drew=w14_ at hHeld HB hdz_ O17 O21 O29 O33 O40 O44 Bg1 Bg25 Bg36 Bg48 ⊢
 have Zw14_:=hdz_
 clear hdz_
 refine take_ (i:=0) (N:=some 41) (v:=?_) (a':=?_) (yvb 5 1) rfl rfl (by kernel_rfl) (fun _ _ _ h=>h) (Or.inl ⟨by rfl,?_⟩) hHeld ?_ ?_
 rotate_left
 ·rintro w' ⟨s0,s1,s2,s3,s4,s5⟩
  go_simp
  with_reducible rfl
 rotate_left
 ·simp only [Act.put,yps,i64_w,i32_w]
  rfl
 refine take_ (i:=1) (N:=some 42) (v:=?_) (a':=?_) (yvb 5 3) rfl rfl (by kernel_rfl) (fun _ _ _ h=>h) (Or.inl ⟨by rfl,?_⟩) hHeld ?_ ?_
 rotate_left
 ·rintro w' ⟨s0,s1,s2,s3,s4,s5⟩
  go_simp
  with_reducible rfl
 rotate_left
 ·simp only [Act.put,yps,i64_w,i32_w]
  rfl
 refine one_ (i:=2) (N:=some 43) (yvb 5 7) rfl rfl (by kernel_rfl) (by decide) (fun K hK=>?_)
 refine goes_ Try.func32 (by kernel_rfl) rfl #[.agg #[.int .i64 a0_0,.slice A0_1 l0_1.length c0_1,.slice A0_2 l0_2.length c0_2]] (by rfl) rfl rfl yma ?_
 with_reducible refine (laws_toPuzzle.calls k a0_0 _ _ l0_1 _ _ l0_2 t52 t53 t57 _ (Kd.C_below HR0_1.out HB.out) HC0_1.out (Kd.C_below HR0_2.out HB.out) HC0_2.out E51.out).mono ?_
 rintro e w15_ ⟨v0_,v1_,rfl,ho0_,ho1_,hb⟩
 refine ⟨_,rfl,?_⟩
 replace O17:=yam (Kd.R_below O17.out hb)
 replace O21:=yam (Kd.V_below O21.out hb)
 replace O29:=yam (Kd.R_below O29.out hb)
 replace O33:=yam (Kd.S_below O33.out hb)
 replace O40:=yam (Kd.R_below O40.out hb)
 replace O44:=yam (Kd.S_below O44.out hb)
 replace Bg1:=yam (blk_below Bg1.out hb)
 replace Bg25:=yam (blk_below Bg25.out hb)
 replace Bg36:=yam (blk_below Bg36.out hb)
 replace Bg48:=yam (blk_below Bg48.out hb)
 have O54:=yam (Kd.R_born ho0_ (below_size HB.out))
 obtain ⟨A55,c56,e_⟩:=Kd.R_slice O54.out
 subst e_
 have O58:=yam (Kd.S_born ho1_ (below_size HB.out))
 obtain ⟨A59,c60,e_⟩:=Kd.S_slice O58.out
 subst e_
 have Zw15_:=yam hb.size
 replace HB:=yam (below_step HB.out hb)
 clear hb ho0_ ho1_
 refine hK.out _ _ ⟨(blk_cell Bg36.out 0).trans rfl,(blk_cell Bg36.out 1).trans rfl,(blk_cell Bg36.out 2).trans rfl,(blk_cell Bg1.out 0).trans rfl,(blk_cell Bg1.out 1).trans rfl,(blk_cell Bg1.out 2).trans rfl⟩ (fun hHeld=>?_)
 clear hK K
 refine norm_ (a':=?_) ?_ ?_
 rotate_left
 ·show Act.put _ (some 43) _=_
  simp only [Act.put,yps,i64_w,i32_w]
  rfl
 refine one_ (i:=3) (N:=some 44) (yvb 5 15) rfl rfl (by kernel_rfl) (by decide) (fun K hK=>?_)
 refine goes_ Try.func25 (by kernel_rfl) rfl #[.agg #[.int .i64 t27,.slice A30 t28.length c31,.slice A34 t32.length c35],.agg #[.int .i64 t52,.slice A55 t53.length c56,.slice A59 t57.length c60]] (by rfl) rfl rfl yma ?_
 with_reducible refine (laws_eqPuzzle.calls k t27 _ _ t28 _ _ t32 t52 _ _ t53 _ _ t57 true _ (Kd.R_reads' O29.out).2.2 (Kd.R_reads' O29.out).2.1 (Kd.R_reads' (Kd.S_R O33.out)).2.2 (Kd.R_reads' (Kd.S_R O33.out)).2.1 (Kd.R_reads' O54.out).2.2 (Kd.R_reads' O54.out).2.1 (Kd.R_reads' (Kd.S_R O58.out)).2.2 (Kd.R_reads' (Kd.S_R O58.out)).2.1 E61.out).mono ?_
 rintro e w16_ ⟨rfl,hb⟩
 refine ⟨_,rfl,?_⟩
 replace O17:=yam (Kd.R_below O17.out hb)
 replace O21:=yam (Kd.V_below O21.out hb)
 replace O29:=yam (Kd.R_below O29.out hb)
 replace O33:=yam (Kd.S_below O33.out hb)
 replace O40:=yam (Kd.R_below O40.out hb)
 replace O44:=yam (Kd.S_below O44.out hb)
 replace Bg1:=yam (blk_below Bg1.out hb)
 replace Bg25:=yam (blk_below Bg25.out hb)
 replace Bg36:=yam (blk_below Bg36.out hb)
 replace Bg48:=yam (blk_below Bg48.out hb)
 clear O54
 clear O58
 have Zw16_:=yam hb.size
 replace HB:=yam (below_step HB.out hb)
 clear hb
 refine hK.out _ _ ⟨(blk_cell Bg36.out 0).trans rfl,(blk_cell Bg36.out 1).trans rfl,(blk_cell Bg36.out 2).trans rfl,(blk_cell Bg1.out 0).trans rfl,(blk_cell Bg1.out 1).trans rfl,(blk_cell Bg1.out 2).trans rfl⟩ (fun hHeld=>?_)
 clear hK K
 refine norm_ (a':=?_) ?_ ?_
 rotate_left
 ·show Act.put _ (some 44) _=_
  simp only [Act.put,yps,i64_w,i32_w]
  rfl
 refine pure_ (i:=4) (N:=some 45) (v:=?_) (a':=?_) (yvb 5 31) rfl rfl (by kernel_rfl) (fun _ _ _ h=>h) (Or.inl ⟨by rfl,?_⟩) ?_ ?_
 rotate_left
 ·intro w'
  go_simp
  with_reducible rfl
 rotate_left
 ·simp only [Act.put,yps,i64_w,i32_w]
  rfl
 refine done_ (by kernel_rfl) ?_
 obtain ⟨hzg1_0,hzg1_1,hzg1_2,-⟩:=ybc Bg1.out
 obtain ⟨hzg25_0,hzg25_1,hzg25_2,-⟩:=ybc Bg25.out
 obtain ⟨hzg36_0,hzg36_1,hzg36_2,-⟩:=ybc Bg36.out
 obtain ⟨hzg48_0,hzg48_1,hzg48_2,-⟩:=ybc Bg48.out
 go_wp2_with (first
  | (refine goesL_ (some 48) rfl rfl Try.func28 (by kernel_rfl) rfl #[.agg #[.int .i64 t27,.slice A30 t28.length c31,.slice A34 t32.length c35],.int .i64 1] rfl yma ?_;(with_reducible refine (laws_markPuzzle.calls k t27 _ _ _ _ t28 _ _ t32 1 t64 t65 t66 w w16_ HB.out apart_own (Kd.R_tight rfl O29.out) O33.out E63.out).mono ?_);rintro e w17_ ⟨rfl,hm0_,hm1_,hb,hk⟩;refine ⟨_,rfl,?_⟩;replace O17:=yam (Kd.R_kept O17.out hk (fun k_ h_ s_=>s_.elim (fun p_=>by have hx_:=(O29.out.1 _ p_.symm).1;have hy_:=h_.1;have:=Zw1_.out;have:=Zw2_.out;have:=Zw3_.out;have:=Zw4_.out;have:=Zw5_.out;have:=Zw6_.out;have:=Zw7_.out;have:=Zw8_.out;have:=Zw9_.out;have:=Zw10_.out;have:=Zw11_.out;have:=Zw12_.out;have:=Zw13_.out;have:=Zw14_.out;have:=Zw15_.out;have:=Zw16_.out;omega) (fun q_=>by have hx_:=q_.1;have hy_:=h_.1;have:=Zw1_.out;have:=Zw2_.out;have:=Zw3_.out;have:=Zw4_.out;have:=Zw5_.out;have:=Zw6_.out;have:=Zw7_.out;have:=Zw8_.out;have:=Zw9_.out;have:=Zw10_.out;have:=Zw11_.out;have:=Zw12_.out;have:=Zw13_.out;have:=Zw14_.out;have:=Zw15_.out;have:=Zw16_.out;omega)));replace O21:=yam (Kd.V_kept O21.out hk (fun k_ h_ s_=>s_.elim (fun p_=>by have hx_:=(O29.out.1 _ p_.symm).1;have hy_:=h_.1;have:=Zw1_.out;have:=Zw2_.out;have:=Zw3_.out;have:=Zw4_.out;have:=Zw5_.out;have:=Zw6_.out;have:=Zw7_.out;have:=Zw8_.out;have:=Zw9_.out;have:=Zw10_.out;have:=Zw11_.out;have:=Zw12_.out;have:=Zw13_.out;have:=Zw14_.out;have:=Zw15_.out;have:=Zw16_.out;omega) (fun q_=>by have hx_:=q_.1;have hy_:=h_.1;have:=Zw1_.out;have:=Zw2_.out;have:=Zw3_.out;have:=Zw4_.out;have:=Zw5_.out;have:=Zw6_.out;have:=Zw7_.out;have:=Zw8_.out;have:=Zw9_.out;have:=Zw10_.out;have:=Zw11_.out;have:=Zw12_.out;have:=Zw13_.out;have:=Zw14_.out;have:=Zw15_.out;have:=Zw16_.out;omega)));replace O40:=yam (Kd.R_kept O40.out hk (fun k_ h_ s_=>s_.elim (fun p_=>by have hx_:=(O29.out.1 _ p_.symm).1;have hy_:=h_.1;have:=Zw1_.out;have:=Zw2_.out;have:=Zw3_.out;have:=Zw4_.out;have:=Zw5_.out;have:=Zw6_.out;have:=Zw7_.out;have:=Zw8_.out;have:=Zw9_.out;have:=Zw10_.out;have:=Zw11_.out;have:=Zw12_.out;have:=Zw13_.out;have:=Zw14_.out;have:=Zw15_.out;have:=Zw16_.out;omega) (fun q_=>by have hx_:=q_.1;have hy_:=h_.1;have:=Zw1_.out;have:=Zw2_.out;have:=Zw3_.out;have:=Zw4_.out;have:=Zw5_.out;have:=Zw6_.out;have:=Zw7_.out;have:=Zw8_.out;have:=Zw9_.out;have:=Zw10_.out;have:=Zw11_.out;have:=Zw12_.out;have:=Zw13_.out;have:=Zw14_.out;have:=Zw15_.out;have:=Zw16_.out;omega)));replace O44:=yam (Kd.S_kept O44.out hk (fun k_ h_ s_=>s_.elim (fun p_=>by have hx_:=(O29.out.1 _ p_.symm).1;have hy_:=h_.1;have:=Zw1_.out;have:=Zw2_.out;have:=Zw3_.out;have:=Zw4_.out;have:=Zw5_.out;have:=Zw6_.out;have:=Zw7_.out;have:=Zw8_.out;have:=Zw9_.out;have:=Zw10_.out;have:=Zw11_.out;have:=Zw12_.out;have:=Zw13_.out;have:=Zw14_.out;have:=Zw15_.out;have:=Zw16_.out;omega) (fun q_=>by have hx_:=q_.1;have hy_:=h_.1;have:=Zw1_.out;have:=Zw2_.out;have:=Zw3_.out;have:=Zw4_.out;have:=Zw5_.out;have:=Zw6_.out;have:=Zw7_.out;have:=Zw8_.out;have:=Zw9_.out;have:=Zw10_.out;have:=Zw11_.out;have:=Zw12_.out;have:=Zw13_.out;have:=Zw14_.out;have:=Zw15_.out;have:=Zw16_.out;omega)));replace Bg1:=yam (blk_kept Bg1.out hk (fun s_=>s_.elim (fun p_=>by have hx_:=(O29.out.1 _ p_.symm).1;have hy_:=Gg1.out;have:=Zw1_.out;have:=Zw2_.out;have:=Zw3_.out;have:=Zw4_.out;have:=Zw5_.out;have:=Zw6_.out;have:=Zw7_.out;have:=Zw8_.out;have:=Zw9_.out;have:=Zw10_.out;have:=Zw11_.out;have:=Zw12_.out;have:=Zw13_.out;have:=Zw14_.out;have:=Zw15_.out;have:=Zw16_.out;omega) (fun q_=>by have hx_:=q_.1;have hy_:=Gg1.out;have:=Zw1_.out;have:=Zw2_.out;have:=Zw3_.out;have:=Zw4_.out;have:=Zw5_.out;have:=Zw6_.out;have:=Zw7_.out;have:=Zw8_.out;have:=Zw9_.out;have:=Zw10_.out;have:=Zw11_.out;have:=Zw12_.out;have:=Zw13_.out;have:=Zw14_.out;have:=Zw15_.out;have:=Zw16_.out;omega)));replace Bg25:=yam (blk_kept Bg25.out hk (fun s_=>s_.elim (fun p_=>by have hx_:=(O29.out.1 _ p_.symm).1;have hy_:=Gg25.out;have:=Zw1_.out;have:=Zw2_.out;have:=Zw3_.out;have:=Zw4_.out;have:=Zw5_.out;have:=Zw6_.out;have:=Zw7_.out;have:=Zw8_.out;have:=Zw9_.out;have:=Zw10_.out;have:=Zw11_.out;have:=Zw12_.out;have:=Zw13_.out;have:=Zw14_.out;have:=Zw15_.out;have:=Zw16_.out;omega) (fun q_=>by have hx_:=q_.1;have hy_:=Gg25.out;have:=Zw1_.out;have:=Zw2_.out;have:=Zw3_.out;have:=Zw4_.out;have:=Zw5_.out;have:=Zw6_.out;have:=Zw7_.out;have:=Zw8_.out;have:=Zw9_.out;have:=Zw10_.out;have:=Zw11_.out;have:=Zw12_.out;have:=Zw13_.out;have:=Zw14_.out;have:=Zw15_.out;have:=Zw16_.out;omega)));replace Bg48:=yam (blk_kept Bg48.out hk (fun s_=>s_.elim (fun p_=>by have hx_:=(O29.out.1 _ p_.symm).1;have hy_:=Gg48.out;have:=Zw1_.out;have:=Zw2_.out;have:=Zw3_.out;have:=Zw4_.out;have:=Zw5_.out;have:=Zw6_.out;have:=Zw7_.out;have:=Zw8_.out;have:=Zw9_.out;have:=Zw10_.out;have:=Zw11_.out;have:=Zw12_.out;have:=Zw13_.out;have:=Zw14_.out;have:=Zw15_.out;have:=Zw16_.out;omega) (fun q_=>by have hx_:=q_.1;have hy_:=Gg48.out;have:=Zw1_.out;have:=Zw2_.out;have:=Zw3_.out;have:=Zw4_.out;have:=Zw5_.out;have:=Zw6_.out;have:=Zw7_.out;have:=Zw8_.out;have:=Zw9_.out;have:=Zw10_.out;have:=Zw11_.out;have:=Zw12_.out;have:=Zw13_.out;have:=Zw14_.out;have:=Zw15_.out;have:=Zw16_.out;omega)));clear O29;clear O33;clear Bg36;have Zw17_:=yam hk.1;replace HB:=yam hb;clear hk hb hm0_ hm1_;clear hzg1_0;clear hzg1_1;clear hzg1_2;clear hzg25_0;clear hzg25_1;clear hzg25_2;clear hzg36_0;clear hzg36_1;clear hzg36_2;clear hzg48_0;clear hzg48_1;clear hzg48_2;obtain ⟨hzg1_0,hzg1_1,hzg1_2,-⟩:=ybc Bg1.out;obtain ⟨hzg25_0,hzg25_1,hzg25_2,-⟩:=ybc Bg25.out;obtain ⟨hzg48_0,hzg48_1,hzg48_2,-⟩:=ybc Bg48.out;skip)
  | (go_at_call 25;(with_reducible refine (laws_eqPuzzle.calls k t38 _ _ t39 _ _ t43 t15 _ _ t16 _ _ t20 true _ (Kd.R_reads' O40.out).2.2 (Kd.R_reads' O40.out).2.1 (Kd.R_reads' (Kd.S_R O44.out)).2.2 (Kd.R_reads' (Kd.S_R O44.out)).2.1 (Kd.R_reads' O17.out).2.2 (Kd.R_reads' O17.out).2.1 (Kd.V_reads' O21.out).2.2 (Kd.V_reads' O21.out).2.1 E67.out).mono ?_);rintro e w18_ ⟨rfl,hb⟩;replace O17:=yam (Kd.R_below O17.out hb);replace O21:=yam (Kd.V_below O21.out hb);replace O40:=yam (Kd.R_below O40.out hb);replace O44:=yam (Kd.S_below O44.out hb);replace Bg1:=yam (blk_below Bg1.out hb);replace Bg25:=yam (blk_below Bg25.out hb);replace Bg48:=yam (blk_below Bg48.out hb);have Zw18_:=yam hb.size;replace HB:=yam (below_step HB.out hb);clear hb;clear hzg1_0;clear hzg1_1;clear hzg1_2;clear hzg25_0;clear hzg25_1;clear hzg25_2;clear hzg48_0;clear hzg48_1;clear hzg48_2;obtain ⟨hzg1_0,hzg1_1,hzg1_2,-⟩:=ybc Bg1.out;obtain ⟨hzg25_0,hzg25_1,hzg25_2,-⟩:=ybc Bg25.out;obtain ⟨hzg48_0,hzg48_1,hzg48_2,-⟩:=ybc Bg48.out;skip)
  | (refine goesL_ (some 64) rfl rfl Try.func28 (by kernel_rfl) rfl #[.agg #[.int .i64 t38,.slice A41 t39.length c42,.slice A45 t43.length c46],.int .i64 1] rfl yma ?_;(with_reducible refine (laws_markPuzzle.calls k t38 _ _ _ _ t39 _ _ t43 1 t70 t71 t72 w w18_ HB.out apart_own (Kd.R_tight rfl O40.out) O44.out E69.out).mono ?_);rintro e w19_ ⟨rfl,hm0_,hm1_,hb,hk⟩;refine ⟨_,rfl,?_⟩;replace O17:=yam (Kd.R_kept O17.out hk (fun k_ h_ s_=>s_.elim (fun p_=>by have hx_:=(O40.out.1 _ p_.symm).1;have hy_:=h_.1;have:=Zw1_.out;have:=Zw2_.out;have:=Zw3_.out;have:=Zw4_.out;have:=Zw5_.out;have:=Zw6_.out;have:=Zw7_.out;have:=Zw8_.out;have:=Zw9_.out;have:=Zw10_.out;have:=Zw11_.out;have:=Zw12_.out;have:=Zw13_.out;have:=Zw14_.out;have:=Zw15_.out;have:=Zw16_.out;have:=Zw17_.out;have:=Zw18_.out;omega) (fun q_=>by have hx_:=q_.1;have hy_:=h_.1;have:=Zw1_.out;have:=Zw2_.out;have:=Zw3_.out;have:=Zw4_.out;have:=Zw5_.out;have:=Zw6_.out;have:=Zw7_.out;have:=Zw8_.out;have:=Zw9_.out;have:=Zw10_.out;have:=Zw11_.out;have:=Zw12_.out;have:=Zw13_.out;have:=Zw14_.out;have:=Zw15_.out;have:=Zw16_.out;have:=Zw17_.out;have:=Zw18_.out;omega)));replace O21:=yam (Kd.V_kept O21.out hk (fun k_ h_ s_=>s_.elim (fun p_=>by have hx_:=(O40.out.1 _ p_.symm).1;have hy_:=h_.1;have:=Zw1_.out;have:=Zw2_.out;have:=Zw3_.out;have:=Zw4_.out;have:=Zw5_.out;have:=Zw6_.out;have:=Zw7_.out;have:=Zw8_.out;have:=Zw9_.out;have:=Zw10_.out;have:=Zw11_.out;have:=Zw12_.out;have:=Zw13_.out;have:=Zw14_.out;have:=Zw15_.out;have:=Zw16_.out;have:=Zw17_.out;have:=Zw18_.out;omega) (fun q_=>by have hx_:=q_.1;have hy_:=h_.1;have:=Zw1_.out;have:=Zw2_.out;have:=Zw3_.out;have:=Zw4_.out;have:=Zw5_.out;have:=Zw6_.out;have:=Zw7_.out;have:=Zw8_.out;have:=Zw9_.out;have:=Zw10_.out;have:=Zw11_.out;have:=Zw12_.out;have:=Zw13_.out;have:=Zw14_.out;have:=Zw15_.out;have:=Zw16_.out;have:=Zw17_.out;have:=Zw18_.out;omega)));replace Bg1:=yam (blk_kept Bg1.out hk (fun s_=>s_.elim (fun p_=>by have hx_:=(O40.out.1 _ p_.symm).1;have hy_:=Gg1.out;have:=Zw1_.out;have:=Zw2_.out;have:=Zw3_.out;have:=Zw4_.out;have:=Zw5_.out;have:=Zw6_.out;have:=Zw7_.out;have:=Zw8_.out;have:=Zw9_.out;have:=Zw10_.out;have:=Zw11_.out;have:=Zw12_.out;have:=Zw13_.out;have:=Zw14_.out;have:=Zw15_.out;have:=Zw16_.out;have:=Zw17_.out;have:=Zw18_.out;omega) (fun q_=>by have hx_:=q_.1;have hy_:=Gg1.out;have:=Zw1_.out;have:=Zw2_.out;have:=Zw3_.out;have:=Zw4_.out;have:=Zw5_.out;have:=Zw6_.out;have:=Zw7_.out;have:=Zw8_.out;have:=Zw9_.out;have:=Zw10_.out;have:=Zw11_.out;have:=Zw12_.out;have:=Zw13_.out;have:=Zw14_.out;have:=Zw15_.out;have:=Zw16_.out;have:=Zw17_.out;have:=Zw18_.out;omega)));replace Bg25:=yam (blk_kept Bg25.out hk (fun s_=>s_.elim (fun p_=>by have hx_:=(O40.out.1 _ p_.symm).1;have hy_:=Gg25.out;have:=Zw1_.out;have:=Zw2_.out;have:=Zw3_.out;have:=Zw4_.out;have:=Zw5_.out;have:=Zw6_.out;have:=Zw7_.out;have:=Zw8_.out;have:=Zw9_.out;have:=Zw10_.out;have:=Zw11_.out;have:=Zw12_.out;have:=Zw13_.out;have:=Zw14_.out;have:=Zw15_.out;have:=Zw16_.out;have:=Zw17_.out;have:=Zw18_.out;omega) (fun q_=>by have hx_:=q_.1;have hy_:=Gg25.out;have:=Zw1_.out;have:=Zw2_.out;have:=Zw3_.out;have:=Zw4_.out;have:=Zw5_.out;have:=Zw6_.out;have:=Zw7_.out;have:=Zw8_.out;have:=Zw9_.out;have:=Zw10_.out;have:=Zw11_.out;have:=Zw12_.out;have:=Zw13_.out;have:=Zw14_.out;have:=Zw15_.out;have:=Zw16_.out;have:=Zw17_.out;have:=Zw18_.out;omega)));replace Bg48:=yam (blk_kept Bg48.out hk (fun s_=>s_.elim (fun p_=>by have hx_:=(O40.out.1 _ p_.symm).1;have hy_:=Gg48.out;have:=Zw1_.out;have:=Zw2_.out;have:=Zw3_.out;have:=Zw4_.out;have:=Zw5_.out;have:=Zw6_.out;have:=Zw7_.out;have:=Zw8_.out;have:=Zw9_.out;have:=Zw10_.out;have:=Zw11_.out;have:=Zw12_.out;have:=Zw13_.out;have:=Zw14_.out;have:=Zw15_.out;have:=Zw16_.out;have:=Zw17_.out;have:=Zw18_.out;omega) (fun q_=>by have hx_:=q_.1;have hy_:=Gg48.out;have:=Zw1_.out;have:=Zw2_.out;have:=Zw3_.out;have:=Zw4_.out;have:=Zw5_.out;have:=Zw6_.out;have:=Zw7_.out;have:=Zw8_.out;have:=Zw9_.out;have:=Zw10_.out;have:=Zw11_.out;have:=Zw12_.out;have:=Zw13_.out;have:=Zw14_.out;have:=Zw15_.out;have:=Zw16_.out;have:=Zw17_.out;have:=Zw18_.out;omega)));replace O40:=yam (Kd.R_mono hm0_ (fun k_ h_=>O40.out.1 k_ h_.symm));have Lt71:=yam (Kd.R_reads' hm0_).1.symm;replace O44:=yam hm1_;have Lt72:=yam (Kd.R_reads' (Kd.S_R hm1_)).1.symm;have Zw19_:=yam hk.1;replace HB:=yam hb;clear hk hb hm0_ hm1_;clear hzg1_0;clear hzg1_1;clear hzg1_2;clear hzg25_0;clear hzg25_1;clear hzg25_2;clear hzg48_0;clear hzg48_1;clear hzg48_2;obtain ⟨hzg1_0,hzg1_1,hzg1_2,-⟩:=ybc Bg1.out;obtain ⟨hzg25_0,hzg25_1,hzg25_2,-⟩:=ybc Bg25.out;obtain ⟨hzg48_0,hzg48_1,hzg48_2,-⟩:=ybc Bg48.out;skip)
  | (refine goesL_ (some 67) rfl rfl Try.func29 (by kernel_rfl) rfl #[.agg #[.int .i64 t38,.slice A41 t71.length c42,.slice A45 t72.length c46],.int .i64 1] rfl (by (try simp only [List.map_toArray,List.map_cons,List.map_nil]);first|done|rfl|(rw [Lt71.out,Lt72.out];rfl)) ?_;(with_reducible refine (laws_heldPuzzle.calls k t38 _ _ t71 _ _ t72 1 t74 _ (Kd.R_reads' O40.out).2.2 (by rw [Lt71.out];exact (Kd.R_reads' O40.out).2.1) (Kd.R_reads' (Kd.S_R O44.out)).2.2 (by rw [Lt72.out];exact (Kd.R_reads' (Kd.S_R O44.out)).2.1) E73.out).mono ?_);rintro e w20_ ⟨rfl,hb⟩;refine ⟨_,rfl,?_⟩;replace O17:=yam (Kd.R_below O17.out hb);replace O21:=yam (Kd.V_below O21.out hb);replace O40:=yam (Kd.R_below O40.out hb);replace O44:=yam (Kd.S_below O44.out hb);replace Bg1:=yam (blk_below Bg1.out hb);replace Bg25:=yam (blk_below Bg25.out hb);replace Bg48:=yam (blk_below Bg48.out hb);have Zw20_:=yam hb.size;replace HB:=yam (below_step HB.out hb);clear hb;clear hzg1_0;clear hzg1_1;clear hzg1_2;clear hzg25_0;clear hzg25_1;clear hzg25_2;clear hzg48_0;clear hzg48_1;clear hzg48_2;obtain ⟨hzg1_0,hzg1_1,hzg1_2,-⟩:=ybc Bg1.out;obtain ⟨hzg25_0,hzg25_1,hzg25_2,-⟩:=ybc Bg25.out;obtain ⟨hzg48_0,hzg48_1,hzg48_2,-⟩:=ybc Bg48.out;skip)
  | (refine goesL_ (some 75) rfl rfl Try.func32 (by kernel_rfl) rfl #[.agg #[.int .i64 a0_0,.slice A0_1 l0_1.length c0_1,.slice A0_2 l0_2.length c0_2]] rfl yma ?_;(with_reducible refine (laws_toPuzzle.calls k a0_0 _ _ l0_1 _ _ l0_2 t76 t77 t81 _ (Kd.C_below HR0_1.out HB.out) HC0_1.out (Kd.C_below HR0_2.out HB.out) HC0_2.out E75.out).mono ?_);rintro e w21_ ⟨v0_,v1_,rfl,ho0_,ho1_,hb⟩;refine ⟨_,rfl,?_⟩;replace O17:=yam (Kd.R_below O17.out hb);replace O21:=yam (Kd.V_below O21.out hb);replace O40:=yam (Kd.R_below O40.out hb);replace O44:=yam (Kd.S_below O44.out hb);replace Bg25:=yam (blk_below Bg25.out hb);replace Bg48:=yam (blk_below Bg48.out hb);clear Bg1;have O78:=yam (Kd.R_born ho0_ (below_size HB.out));obtain ⟨A79,c80,e_⟩:=Kd.R_slice O78.out;subst e_;have O82:=yam (Kd.S_born ho1_ (below_size HB.out));obtain ⟨A83,c84,e_⟩:=Kd.S_slice O82.out;subst e_;have Zw21_:=yam hb.size;replace HB:=yam (below_step HB.out hb);clear hb ho0_ ho1_;clear hzg1_0;clear hzg1_1;clear hzg1_2;clear hzg25_0;clear hzg25_1;clear hzg25_2;clear hzg48_0;clear hzg48_1;clear hzg48_2;obtain ⟨hzg25_0,hzg25_1,hzg25_2,-⟩:=ybc Bg25.out;obtain ⟨hzg48_0,hzg48_1,hzg48_2,-⟩:=ybc Bg48.out;skip)
  | (refine goesL_ (some 76) rfl rfl Try.func41 (by kernel_rfl) rfl #[.agg #[.int .i64 t76,.slice A79 t77.length c80,.slice A83 t81.length c84]] rfl yma ?_;(with_reducible refine (impl_MakeEven.calls k t76 _ _ t77 _ _ t81 t86 t87 t91 t95 _ (Kd.R_reads' O78.out).2.2 (Kd.R_reads' O78.out).2.1 (Kd.R_reads' (Kd.S_R O82.out)).2.2 (Kd.R_reads' (Kd.S_R O82.out)).2.1 E85.out).mono ?_);rintro e w22_ ⟨v0_,v1_,rfl,ho0_,ho1_,hb⟩;refine ⟨_,rfl,?_⟩;replace O17:=yam (Kd.R_below O17.out hb);replace O21:=yam (Kd.V_below O21.out hb);replace O40:=yam (Kd.R_below O40.out hb);replace O44:=yam (Kd.S_below O44.out hb);replace Bg25:=yam (blk_below Bg25.out hb);replace Bg48:=yam (blk_below Bg48.out hb);clear O78;clear O82;have O88:=yam (Kd.R_born ho0_ (below_size HB.out));obtain ⟨A89,c90,e_⟩:=Kd.R_slice O88.out;subst e_;have O92:=yam (Kd.S_born ho1_ (below_size HB.out));obtain ⟨A93,c94,e_⟩:=Kd.S_slice O92.out;subst e_;have Zw22_:=yam hb.size;replace HB:=yam (below_step HB.out hb);clear hb ho0_ ho1_;clear hzg25_0;clear hzg25_1;clear hzg25_2;clear hzg48_0;clear hzg48_1;clear hzg48_2;obtain ⟨hzg25_0,hzg25_1,hzg25_2,-⟩:=ybc Bg25.out;obtain ⟨hzg48_0,hzg48_1,hzg48_2,-⟩:=ybc Bg48.out;skip)
  | (refine ybe 12 #[.int .i64 0,.slice none 0 0,.slice none 0 0] 37 ?_;intro g96 hg w23_ hbox hb;replace O17:=yam (Kd.R_below O17.out hb);replace O21:=yam (Kd.V_below O21.out hb);replace O40:=yam (Kd.R_below O40.out hb);replace O44:=yam (Kd.S_below O44.out hb);replace O88:=yam (Kd.R_below O88.out hb);replace O92:=yam (Kd.S_below O92.out hb);replace Bg25:=yam (blk_below Bg25.out hb);replace Bg48:=yam (blk_below Bg48.out hb);have Bg96:=yam hbox;have Gg96:=yam (show w22_.heap.size≤g96∧g96 < w23_.heap.size from ⟨Nat.le_of_eq hg.symm,blk_lt hbox⟩);have Zw23_:=yam hb.size;have Lg96:=yam (show w.heap.size≤g96 from Nat.le_trans (below_size HB.out) (Nat.le_of_eq hg.symm));replace HB:=yam (below_step HB.out hb);clear hzg25_0;clear hzg25_1;clear hzg25_2;clear hzg48_0;clear hzg48_1;clear hzg48_2;obtain ⟨hzg25_0,hzg25_1,hzg25_2,-⟩:=ybc Bg25.out;obtain ⟨hzg48_0,hzg48_1,hzg48_2,-⟩:=ybc Bg48.out;obtain ⟨hzg96_0,hzg96_1,hzg96_2,-⟩:=ybc Bg96.out;have hzfg96_0:=blk_frozen Bg96.out 0;have hzfg96_1:=blk_frozen Bg96.out 1;have hzfg96_2:=blk_frozen Bg96.out 2;clear hb hbox hg)
  | ((with_reducible refine gate_store (t:=37) (p:=12) rfl ?_);refine store_event (t:=37) (p:=12) (v:=?vog96) (w1:=((w23_.setCell ⟨g96,0,none⟩ (.int .i64 t86)).setCell ⟨g96,1,none⟩ (.slice A89 t87.length c90)).setCell ⟨g96,2,none⟩ (.slice A93 t91.length c94)) ?hg ?ho ?hn ?hr ?_;(case ho=>rfl);(case hg=>rfl);(case hn=>rfl);(case hr=>first|(go_simp;done)|(go_simp;rfl));intro w24_ hw;have hk:Kept w23_ w24_ (fun k_=>k_=g96):=(by rw [hw];exact box3_kept _ _ _ _ _);have hx:w24_.heap[g96]?=some (.cells #[.int .i64 t86,.slice A89 t87.length c90,.slice A93 t91.length c94] 37 (0,0)):=(by rw [hw];exact box3_blk Bg96.out _ _ _);have hb:Below w.heap.size w w24_:=(by rw [hw];exact box3_below HB.out Lg96.out _ _ _);clear hw;replace O17:=yam (Kd.R_kept O17.out hk (fun k_ h_ s_=>by have hx_:=Gg96.out;have hy_:=h_.1;have hz_:=s_;have:=Zw1_.out;have:=Zw2_.out;have:=Zw3_.out;have:=Zw4_.out;have:=Zw5_.out;have:=Zw6_.out;have:=Zw7_.out;have:=Zw8_.out;have:=Zw9_.out;have:=Zw10_.out;have:=Zw11_.out;have:=Zw12_.out;have:=Zw13_.out;have:=Zw14_.out;have:=Zw15_.out;have:=Zw16_.out;have:=Zw17_.out;have:=Zw18_.out;have:=Zw19_.out;have:=Zw20_.out;have:=Zw21_.out;have:=Zw22_.out;have:=Zw23_.out;omega));replace O21:=yam (Kd.V_kept O21.out hk (fun k_ h_ s_=>by have hx_:=Gg96.out;have hy_:=h_.1;have hz_:=s_;have:=Zw1_.out;have:=Zw2_.out;have:=Zw3_.out;have:=Zw4_.out;have:=Zw5_.out;have:=Zw6_.out;have:=Zw7_.out;have:=Zw8_.out;have:=Zw9_.out;have:=Zw10_.out;have:=Zw11_.out;have:=Zw12_.out;have:=Zw13_.out;have:=Zw14_.out;have:=Zw15_.out;have:=Zw16_.out;have:=Zw17_.out;have:=Zw18_.out;have:=Zw19_.out;have:=Zw20_.out;have:=Zw21_.out;have:=Zw22_.out;have:=Zw23_.out;omega));replace O40:=yam (Kd.R_kept O40.out hk (fun k_ h_ s_=>by have hx_:=Gg96.out;have hy_:=h_.1;have hz_:=s_;have:=Zw1_.out;have:=Zw2_.out;have:=Zw3_.out;have:=Zw4_.out;have:=Zw5_.out;have:=Zw6_.out;have:=Zw7_.out;have:=Zw8_.out;have:=Zw9_.out;have:=Zw10_.out;have:=Zw11_.out;have:=Zw12_.out;have:=Zw13_.out;have:=Zw14_.out;have:=Zw15_.out;have:=Zw16_.out;have:=Zw17_.out;have:=Zw18_.out;have:=Zw19_.out;have:=Zw20_.out;have:=Zw21_.out;have:=Zw22_.out;have:=Zw23_.out;omega));replace O44:=yam (Kd.S_kept O44.out hk (fun k_ h_ s_=>by have hx_:=Gg96.out;have hy_:=h_.1;have hz_:=s_;have:=Zw1_.out;have:=Zw2_.out;have:=Zw3_.out;have:=Zw4_.out;have:=Zw5_.out;have:=Zw6_.out;have:=Zw7_.out;have:=Zw8_.out;have:=Zw9_.out;have:=Zw10_.out;have:=Zw11_.out;have:=Zw12_.out;have:=Zw13_.out;have:=Zw14_.out;have:=Zw15_.out;have:=Zw16_.out;have:=Zw17_.out;have:=Zw18_.out;have:=Zw19_.out;have:=Zw20_.out;have:=Zw21_.out;have:=Zw22_.out;have:=Zw23_.out;omega));replace O88:=yam (Kd.R_kept O88.out hk (fun k_ h_ s_=>by have hx_:=Gg96.out;have hy_:=h_.1;have hz_:=s_;have:=Zw1_.out;have:=Zw2_.out;have:=Zw3_.out;have:=Zw4_.out;have:=Zw5_.out;have:=Zw6_.out;have:=Zw7_.out;have:=Zw8_.out;have:=Zw9_.out;have:=Zw10_.out;have:=Zw11_.out;have:=Zw12_.out;have:=Zw13_.out;have:=Zw14_.out;have:=Zw15_.out;have:=Zw16_.out;have:=Zw17_.out;have:=Zw18_.out;have:=Zw19_.out;have:=Zw20_.out;have:=Zw21_.out;have:=Zw22_.out;have:=Zw23_.out;omega));replace O92:=yam (Kd.S_kept O92.out hk (fun k_ h_ s_=>by have hx_:=Gg96.out;have hy_:=h_.1;have hz_:=s_;have:=Zw1_.out;have:=Zw2_.out;have:=Zw3_.out;have:=Zw4_.out;have:=Zw5_.out;have:=Zw6_.out;have:=Zw7_.out;have:=Zw8_.out;have:=Zw9_.out;have:=Zw10_.out;have:=Zw11_.out;have:=Zw12_.out;have:=Zw13_.out;have:=Zw14_.out;have:=Zw15_.out;have:=Zw16_.out;have:=Zw17_.out;have:=Zw18_.out;have:=Zw19_.out;have:=Zw20_.out;have:=Zw21_.out;have:=Zw22_.out;have:=Zw23_.out;omega));replace Bg25:=yam (blk_kept Bg25.out hk (fun s_=>by have hx_:=Gg96.out;have hy_:=Gg25.out;have hz_:=s_;have:=Zw1_.out;have:=Zw2_.out;have:=Zw3_.out;have:=Zw4_.out;have:=Zw5_.out;have:=Zw6_.out;have:=Zw7_.out;have:=Zw8_.out;have:=Zw9_.out;have:=Zw10_.out;have:=Zw11_.out;have:=Zw12_.out;have:=Zw13_.out;have:=Zw14_.out;have:=Zw15_.out;have:=Zw16_.out;have:=Zw17_.out;have:=Zw18_.out;have:=Zw19_.out;have:=Zw20_.out;have:=Zw21_.out;have:=Zw22_.out;have:=Zw23_.out;omega));replace Bg48:=yam (blk_kept Bg48.out hk (fun s_=>by have hx_:=Gg96.out;have hy_:=Gg48.out;have hz_:=s_;have:=Zw1_.out;have:=Zw2_.out;have:=Zw3_.out;have:=Zw4_.out;have:=Zw5_.out;have:=Zw6_.out;have:=Zw7_.out;have:=Zw8_.out;have:=Zw9_.out;have:=Zw10_.out;have:=Zw11_.out;have:=Zw12_.out;have:=Zw13_.out;have:=Zw14_.out;have:=Zw15_.out;have:=Zw16_.out;have:=Zw17_.out;have:=Zw18_.out;have:=Zw19_.out;have:=Zw20_.out;have:=Zw21_.out;have:=Zw22_.out;have:=Zw23_.out;omega));replace Bg96:=yam hx;have Zw24_:=yam hk.1;replace HB:=yam hb;clear hzfg96_0;clear hzfg96_1;clear hzfg96_2;clear hzg25_0;clear hzg25_1;clear hzg25_2;clear hzg48_0;clear hzg48_1;clear hzg48_2;clear hzg96_0;clear hzg96_1;clear hzg96_2;obtain ⟨hzg25_0,hzg25_1,hzg25_2,-⟩:=ybc Bg25.out;obtain ⟨hzg48_0,hzg48_1,hzg48_2,-⟩:=ybc Bg48.out;obtain ⟨hzg96_0,hzg96_1,hzg96_2,-⟩:=ybc Bg96.out;clear hk hx hb)
  | (refine goesL_ (some 81) rfl rfl Try.func25 (by kernel_rfl) rfl #[.agg #[.int .i64 t86,.slice A89 t87.length c90,.slice A93 t91.length c94],.agg #[.int .i64 t15,.slice A18 t16.length c19,.slice A22 t20.length c23]] rfl yma ?_;(with_reducible refine (laws_eqPuzzle.calls k t86 _ _ t87 _ _ t91 t15 _ _ t16 _ _ t20 true _ (Kd.R_reads' O88.out).2.2 (Kd.R_reads' O88.out).2.1 (Kd.R_reads' (Kd.S_R O92.out)).2.2 (Kd.R_reads' (Kd.S_R O92.out)).2.1 (Kd.R_reads' O17.out).2.2 (Kd.R_reads' O17.out).2.1 (Kd.V_reads' O21.out).2.2 (Kd.V_reads' O21.out).2.1 E97.out).mono ?_);rintro e w25_ ⟨rfl,hb⟩;refine ⟨_,rfl,?_⟩;replace O40:=yam (Kd.R_below O40.out hb);replace O44:=yam (Kd.S_below O44.out hb);replace Bg48:=yam (blk_below Bg48.out hb);clear O17;clear O21;clear O88;clear O92;clear Bg25;clear Bg96;have Zw25_:=yam hb.size;replace HB:=yam (below_step HB.out hb);clear hb;clear hzg25_0;clear hzg25_1;clear hzg25_2;clear hzg48_0;clear hzg48_1;clear hzg48_2;clear hzg96_0;clear hzg96_1;clear hzg96_2;obtain ⟨hzg48_0,hzg48_1,hzg48_2,-⟩:=ybc Bg48.out;skip)
  | (refine goesL_ (some 90) rfl rfl Try.func29 (by kernel_rfl) rfl #[.agg #[.int .i64 t38,.slice A41 t71.length c42,.slice A45 t72.length c46],.int .i64 1] rfl (by (try simp only [List.map_toArray,List.map_cons,List.map_nil]);first|done|rfl|(rw [Lt71.out,Lt72.out];rfl)) ?_;(with_reducible refine (laws_heldPuzzle.calls k t38 _ _ t71 _ _ t72 1 t100 _ (Kd.R_reads' O40.out).2.2 (by rw [Lt71.out];exact (Kd.R_reads' O40.out).2.1) (Kd.R_reads' (Kd.S_R O44.out)).2.2 (by rw [Lt72.out];exact (Kd.R_reads' (Kd.S_R O44.out)).2.1) E99.out).mono ?_);rintro e w26_ ⟨rfl,hb⟩;refine ⟨_,rfl,?_⟩;clear O40;clear O44;clear Bg48;have Zw26_:=yam hb.size;replace HB:=yam (below_step HB.out hb);clear hb;clear hzg48_0;clear hzg48_1;clear hzg48_2;skip))
 go_ret
 exact ⟨rfl,HB.out⟩
end Go.Proofs.Ytmjbnghhfadapaa.P
