/- The machine's side: each Go function as a plain Lean function and the proof that the machine's call does what that function says; written by this session's own program over the kit's print. -/
import Derived.Test.YthfbjkniinfgcaaZP1
import Derived.Test.YthfbjkniinfgcaaZP2
import Derived.Test.YthfbjkniinfgcaaZP3
namespace Go.Proofs.Ythfbjkniinfgcaa.P
set_option maxHeartbeats 8000000
set_option maxRecDepth 100000
open Go.RowKit Go.Proofs.YthfbjkniinfgcaaW.PrintWords Go.Proofs.YthfbjkniinfgcaaW.PrintLast Go.Proofs.YthfbjkniinfgcaaW.PrintMore
attribute [local go_sem] max2_int min2_int max_two min_two max_three min_three max_four min_four   -- for this text's walks alone
set_option linter.unusedVariables false
set_option linter.unusedSimpArgs false
mutual
def spec_l20Case.j0:Nat→Bool→Int→List Int→List Int→Int→Int→List Int→Int→Option (Int × List Int × Int × List Int × Int × Int)
 | 0,_,_,_,_,_,_,_,_=>none
 | k + 1,x1,x7,x8,x1000,x1001,x767000,x767001,x767002=>spec_l20Case.l0 k x1 x7 x8 0 x1000 x1001 x767000 x767001 x767002
def spec_l20Case.l0:Nat→Bool→Int→List Int→Int→List Int→Int→Int→List Int→Int→Option (Int × List Int × Int × List Int × Int × Int)
 | 0,_,_,_,_,_,_,_,_,_=>none
 | k + 1,x1,x7,x8,x10,x1000,x1001,x767000,x767001,x767002=>if x10 < (x8.length:Int) then (spec_l20Case.j2 k x1 x7 x8 x10 (!x1) x1000 x1001 x767000 x767001 x767002) else (spec_l20Case.j2 k x1 x7 x8 x10 false x1000 x1001 x767000 x767001 x767002)
def spec_l20Case.j2:Nat→Bool→Int→List Int→Int→Bool→List Int→Int→Int→List Int→Int→Option (Int × List Int × Int × List Int × Int × Int)
 | 0,_,_,_,_,_,_,_,_,_,_=>none
 | k + 1,x1,x7,x8,x10,x33,x1000,x1001,x767000,x767001,x767002=>if x33=true then ((spec_l20Rd_pick.f k x1000 x1001 3).bind fun bt773=>(if bt773.1=0 then (if 0≤x10 then (if x10 < (x8.length:Int) then (spec_l20Case.l0 k x1 x7 (x8.set (x10:Int).toNat 0) (wrap64 (x10 + 1)) x1000 bt773.2 x767000 x767001 x767002) else (none)) else (none)) else (spec_l20Case.l0 k x1 x7 x8 (wrap64 (x10 + 1)) x1000 bt773.2 x767000 x767001 x767002))) else ((spec_l20Rd_odd.f k x1000 x1001 12).bind fun bt776=>(if bt776.1=true then ((some (([0,(-1),wrap64 (x7 + 1)]:List Int):List Int)).bind fun y778=>((spec_l20Rd_pick.f k x1000 bt776.2 3).bind fun bt781=>(if 0≤bt781.1 then (if bt781.1 < (y778.length:Int) then (if 0 < (x8.length:Int) then (some (x767000,x767001,x767002,(x8.set (0:Int).toNat (rd y778 bt781.1)),x7,bt781.2)) else (none)) else (none)) else (none)))) else (some (x767000,x767001,x767002,x8,x7,bt776.2))))
end
def spec_l20Case.f (k:Nat)(s0_0:List Int)(s0_1:Int)(a1:Bool):Option (Int × List Int × Int × List Int × Int × Int):=(spec_l20Size.f k s0_0 s0_1 0).bind fun bt754=>((spec_l20Solved.f k s0_0 bt754.2 bt754.1).bind fun bt756=>((spec_l20Rule.f k s0_0 bt756.2 bt756.1 bt754.1 12).bind fun bt760=>((spec_l20Rd_pick.f k s0_0 bt760.2.2.2 2).bind fun bt767=>(if bt767.1=0 then ((spec_l20Solved.f k s0_0 bt767.2 bt754.1).bind fun bt769=>(spec_l20Case.j0 k a1 bt754.1 bt769.1 s0_0 bt769.2 bt760.1 bt760.2.1 bt760.2.2.1)) else (spec_l20Case.j0 k a1 bt754.1 bt756.1 s0_0 bt767.2 bt760.1 bt760.2.1 bt760.2.2.1)))))
theorem spec_l20Case.calls (k:Nat)(g:Nat)(s0_0:List Int)(s0_1:Int)(a1:Bool)(r1:Int)(r2:List Int)(r3:Int)(r4:List Int)(r5:Int)(r6:Int)(w0 w:World)(hI:IsS86 w0 w g s0_0 s0_1)(hB:Below w0.heap.size w0 w)(h:spec_l20Case.f k s0_0 s0_1 a1=some (r1,r2,r3,r4,r5,r6)) :
  Calls Try.prog 80 #[.pointer (some ⟨g,0,none⟩),.bool a1] w fun e w'=>∃ v1_ v3_:Value,e= .returned (.tuple #[.agg #[.int .i64 r1,v1_,.int .i64 r3],v3_,.int .i64 r5])∧Kd.R (Kd.int .i64) 3 w' w.heap.size (fun k_=>some k_≠(v3_:Value).ownBlock) v1_ r2∧Kd.R (Kd.int .i64) 3 w' w.heap.size (fun k_=>some k_≠(v1_:Value).ownBlock) v3_ r4∧IsS86 w0 w' g s0_0 r6∧Below w0.heap.size w0 w'∧KeepBut w w' g none:=by
 have hu32:=Try.underlying32
 have HI0:=yam hI
 have HK:=yam (KeepBut.refl w g none)
 have HL:=yam hB.size
 clear hI
 have HW0:=yam hB.size
 have HB:=yam hB
 clear hB
 unfold spec_l20Case.f at h
 have H:=h
 clear h
 replace H:=ybi H;obtain ⟨⟨t754,t755⟩,A3,H⟩:=H
 replace H:((spec_l20Solved.f k s0_0 t755 t754).bind fun bt756=>((spec_l20Rule.f k s0_0 bt756.2 bt756.1 t754 12).bind fun bt760=>((spec_l20Rd_pick.f k s0_0 bt760.2.2.2 2).bind fun bt767=>(if bt767.1=0 then ((spec_l20Solved.f k s0_0 bt767.2 t754).bind fun bt769=>(spec_l20Case.j0 k a1 t754 bt769.1 s0_0 bt769.2 bt760.1 bt760.2.1 bt760.2.2.1)) else (spec_l20Case.j0 k a1 t754 bt756.1 s0_0 bt767.2 bt760.1 bt760.2.1 bt760.2.2.1)))))=some (r1,r2,r3,r4,r5,r6):=H
 replace H:=ybi H;obtain ⟨⟨t756,t759⟩,A4,H⟩:=H
 replace H:((spec_l20Rule.f k s0_0 t759 t756 t754 12).bind fun bt760=>((spec_l20Rd_pick.f k s0_0 bt760.2.2.2 2).bind fun bt767=>(if bt767.1=0 then ((spec_l20Solved.f k s0_0 bt767.2 t754).bind fun bt769=>(spec_l20Case.j0 k a1 t754 bt769.1 s0_0 bt769.2 bt760.1 bt760.2.1 bt760.2.2.1)) else (spec_l20Case.j0 k a1 t754 t756 s0_0 bt767.2 bt760.1 bt760.2.1 bt760.2.2.1))))=some (r1,r2,r3,r4,r5,r6):=H
 replace H:=ybi H;obtain ⟨⟨t760,t761,t764,t765⟩,A5,H⟩:=H
 replace H:((spec_l20Rd_pick.f k s0_0 t765 2).bind fun bt767=>(if bt767.1=0 then ((spec_l20Solved.f k s0_0 bt767.2 t754).bind fun bt769=>(spec_l20Case.j0 k a1 t754 bt769.1 s0_0 bt769.2 t760 t761 t764)) else (spec_l20Case.j0 k a1 t754 t756 s0_0 bt767.2 t760 t761 t764)))=some (r1,r2,r3,r4,r5,r6):=H
 replace H:=ybi H;obtain ⟨⟨t767,t768⟩,A6,H⟩:=H
 replace H:(if t767=0 then ((spec_l20Solved.f k s0_0 t768 t754).bind fun bt769=>(spec_l20Case.j0 k a1 t754 bt769.1 s0_0 bt769.2 t760 t761 t764)) else (spec_l20Case.j0 k a1 t754 t756 s0_0 t768 t760 t761 t764))=some (r1,r2,r3,r4,r5,r6):=H
 have HC7:=yam H
 clear H
 go_enter Try.func80,Try.ntmps80
 go_upto_if 22 with (first|(refine ybe 4 #[.int .i64 0,.slice none 0 0,.int .i64 0] 32 ?_;intro gb753 hg w8 hbox hb;replace HB:=yam (below_step (by repeat (first|(with_reducible first|exact HB.out|apply yea|apply yen|apply yed|refine below_set ?_ (IsS86.ge HI0.out))|exact HB.out)) hb);have BK753:=yam (hbox);have GW753:=yam ((by rw [hg];exact (keep_size (w:=w) (g:=g) (row:=none) (by repeat (first|(with_reducible first|exact HK.out|apply KeepBut.set_|apply keep_drewN|apply keep_drew|apply keep_alloc)|exact HK.out))):w.heap.size≤gb753));have GE753:=yam ((Nat.le_trans HW0.out (by rw [hg];exact (keep_size (w:=w) (g:=g) (row:=none) (by repeat (first|(with_reducible first|exact HK.out|apply KeepBut.set_|apply keep_drewN|apply keep_drew|apply keep_alloc)|exact HK.out))):w.heap.size≤gb753):w0.heap.size≤gb753));replace HK:=yam (KeepBut.trans (by repeat (first|(with_reducible first|exact HK.out|apply KeepBut.set_|apply keep_drewN|apply keep_drew|apply keep_alloc)|exact HK.out)) (KeepBut.of_below hb g none) (.inl rfl));have NB0_753:=yam ((by rw [hg];exact Nat.ne_of_lt (IsS86.lt (show IsS86 w0 _ g s0_0 s0_1 from by repeat (first|(with_reducible first|exact HI0.out|apply IsS86.alloc|apply IsS86.drewN|apply IsS86.drew|apply IsS86.set_1)|exact HI0.out))):g≠gb753));have NB753_0:=yam ((by rw [hg];exact Nat.ne_of_gt (IsS86.lt (show IsS86 w0 _ g s0_0 s0_1 from by repeat (first|(with_reducible first|exact HI0.out|apply IsS86.alloc|apply IsS86.drewN|apply IsS86.drew|apply IsS86.set_1)|exact HI0.out))):gb753≠g));replace HI0:=yam (IsS86.below (by repeat (first|(with_reducible first|exact HI0.out|apply IsS86.alloc|apply IsS86.drewN|apply IsS86.drew|apply IsS86.set_1)|exact HI0.out)) hb);clear hb hbox hg)|(refine goesL_ (some 12) rfl rfl Try.func65 (by kernel_rfl) rfl #[.pointer (some ⟨g,0,none⟩),.int .i64 0] rfl ymd ?_;(with_reducible refine (spec_l20Size.calls k g s0_0 s0_1 0 t754 t755 w0 _ ?side1 ?side2 A3.out).mono ?_);(case side1=>repeat (first|(with_reducible first|exact HI0.out|apply IsS86.alloc|apply IsS86.drewN|apply IsS86.drew|apply IsS86.set_1|refine IsS86.far ?_ NB0_753.out _)|exact HI0.out));(case side2=>repeat (first|(with_reducible first|exact HB.out|apply yea|apply yen|apply yed|refine below_set ?_ (IsS86.ge HI0.out)|refine below_set ?_ GE753.out)|exact HB.out));rintro e w9 ⟨rfl,hi,hb,hk⟩;refine ⟨_,rfl,?_⟩;replace BK753:=yam (KeepBut.blk hk (g':=gb753) (o:= .cells #[.int .i64 0,.slice none 0 0,.int .i64 0] 32 (0,0)) (ybz BK753.out) NB753_0.out (by simp));replace HK:=yam (KeepBut.trans (by repeat (first|(with_reducible first|exact HK.out|apply KeepBut.set_|apply keep_drewN|apply keep_drew|apply keep_alloc|refine keep_far ?_ GW753.out _)|exact HK.out)) hk (.inl rfl));replace HB:=yam (hb);replace HI0:=yam (hi);(try clear hb);(try clear hk);(try clear hi))|(refine goesL_ (some 15) rfl rfl Try.func67 (by kernel_rfl) rfl #[.pointer (some ⟨g,0,none⟩),.int .i64 t754] rfl ymd ?_;(with_reducible refine (spec_l20Solved.calls k g s0_0 t755 t754 t756 t759 w0 _ ?side1 ?side2 A4.out).mono ?_);(case side1=>repeat (first|(with_reducible first|exact HI0.out|apply IsS86.alloc|apply IsS86.drewN|apply IsS86.drew|apply IsS86.set_1|refine IsS86.far ?_ NB0_753.out _)|exact HI0.out));(case side2=>repeat (first|(with_reducible first|exact HB.out|apply yea|apply yen|apply yed|refine below_set ?_ (IsS86.ge HI0.out)|refine below_set ?_ GE753.out)|exact HB.out));rintro e w10 ⟨v757,rfl,ho0,hi,hb,hk⟩;refine ⟨_,rfl,?_⟩;replace BK753:=yam (KeepBut.blk hk (g':=gb753) (o:= .cells #[.int .i64 0,.slice none 0 0,.int .i64 0] 32 (0,0)) (ybz BK753.out) NB753_0.out (by simp));have HO758:=yam (Kd.R_lower ho0 (keep_size (w:=w) (g:=g) (row:=none) (by repeat (first|(with_reducible first|exact HK.out|apply KeepBut.set_|apply keep_drewN|apply keep_drew|apply keep_alloc|refine keep_far ?_ GW753.out _)|exact HK.out))));replace HK:=yam (KeepBut.trans (by repeat (first|(with_reducible first|exact HK.out|apply KeepBut.set_|apply keep_drewN|apply keep_drew|apply keep_alloc|refine keep_far ?_ GW753.out _)|exact HK.out)) hk (.inl rfl));replace HB:=yam (hb);replace HI0:=yam (hi);(try clear hb);(try clear hk);(try clear hi);(try clear ho0);obtain ⟨Ao11,co11,eo11⟩:=Kd.R_slice HO758.out;subst eo11)|(refine goesL_ (some 19) rfl rfl Try.func66 (by kernel_rfl) rfl #[.pointer (some ⟨g,0,none⟩),.slice Ao11 t756.length co11,.int .i64 t754,.int .i64 12] rfl ymd ?_;(with_reducible refine (spec_l20Rule.calls k g s0_0 t759 _ _ t756 t754 12 t760 t761 t764 t765 w0 _ ?side1 ?side2 ?side3 ?side4 ?side5 A5.out).mono ?_);(case side1=>repeat (first|(with_reducible first|exact HI0.out|apply IsS86.alloc|apply IsS86.drewN|apply IsS86.drew|apply IsS86.set_1|refine IsS86.far ?_ NB0_753.out _)|exact HI0.out));(case side2=>repeat (first|(with_reducible first|exact HB.out|apply yea|apply yen|apply yed|refine below_set ?_ (IsS86.ge HI0.out)|refine below_set ?_ GE753.out)|exact HB.out));(case side3=>exact Kd.Cz (Kd.Yr HO758.out).2.2);(case side4=>exact (Kd.Yr HO758.out).2.1);(case side5=>exact far_slice (IsS86.own_ne HI0.out HO758.out (by decide)));rintro e w12 ⟨v762,rfl,ho0,hi,hb,hk⟩;refine ⟨_,rfl,?_⟩;replace BK753:=yam (KeepBut.blk hk (g':=gb753) (o:= .cells #[.int .i64 0,.slice none 0 0,.int .i64 0] 32 (0,0)) (ybz BK753.out) NB753_0.out (by simp));have HO763:=yam (Kd.R_lower (Kd.Yw ho0 (Kd.R_lt (Kd.Yz HO758.out))) (keep_size (w:=w) (g:=g) (row:=none) (by repeat (first|(with_reducible first|exact HK.out|apply KeepBut.set_|apply keep_drewN|apply keep_drew|apply keep_alloc|refine keep_far ?_ GW753.out _)|exact HK.out))));replace HO758:=yam (Kd.R_mono (Kd.R_told (Kd.R_oldK (IsS86.apart (show IsS86 w0 _ g s0_0 t759 from by repeat (first|(with_reducible first|exact HI0.out|apply IsS86.alloc|apply IsS86.drewN|apply IsS86.drew|apply IsS86.set_1|refine IsS86.far ?_ NB0_753.out _)|exact HI0.out)) (Kd.Yz HO758.out) (by decide)) hk) (Kd.Yb ho0)) (fun _ h_=>h_.1));replace HK:=yam (KeepBut.trans (by repeat (first|(with_reducible first|exact HK.out|apply KeepBut.set_|apply keep_drewN|apply keep_drew|apply keep_alloc|refine keep_far ?_ GW753.out _)|exact HK.out)) hk (.inl rfl));replace HB:=yam (hb);replace HI0:=yam (hi);(try clear hb);(try clear hk);(try clear hi);(try clear ho0))|(refine ybe 9 #[.int .i64 0,.slice none 0 0,.int .i64 0] 32 ?_;intro gb766 hg w13 hbox hb;replace HO758:=yam (Kd.R_below (Kd.Yz HO758.out) hb);replace HO763:=yam (Kd.R_below (Kd.Yz HO763.out) hb);replace HB:=yam (below_step (by repeat (first|(with_reducible first|exact HB.out|apply yea|apply yen|apply yed|refine below_set ?_ (IsS86.ge HI0.out)|refine below_set ?_ GE753.out)|exact HB.out)) hb);have BK766:=yam (hbox);have GW766:=yam ((by rw [hg];exact (keep_size (w:=w) (g:=g) (row:=none) (by repeat (first|(with_reducible first|exact HK.out|apply KeepBut.set_|apply keep_drewN|apply keep_drew|apply keep_alloc|refine keep_far ?_ GW753.out _)|exact HK.out))):w.heap.size≤gb766));have GE766:=yam ((Nat.le_trans HW0.out (by rw [hg];exact (keep_size (w:=w) (g:=g) (row:=none) (by repeat (first|(with_reducible first|exact HK.out|apply KeepBut.set_|apply keep_drewN|apply keep_drew|apply keep_alloc|refine keep_far ?_ GW753.out _)|exact HK.out))):w.heap.size≤gb766):w0.heap.size≤gb766));replace HK:=yam (KeepBut.trans (by repeat (first|(with_reducible first|exact HK.out|apply KeepBut.set_|apply keep_drewN|apply keep_drew|apply keep_alloc|refine keep_far ?_ GW753.out _)|exact HK.out)) (KeepBut.of_below hb g none) (.inl rfl));have NB753_766:=yam ((by rw [hg];exact Nat.ne_of_lt (blk_lt (g:=gb753) (o:= .cells #[.int .i64 0,.slice none 0 0,.int .i64 0] 32 (0,0)) (ybz BK753.out)):gb753≠gb766));have NB766_753:=yam ((by rw [hg];exact Nat.ne_of_gt (blk_lt (g:=gb753) (o:= .cells #[.int .i64 0,.slice none 0 0,.int .i64 0] 32 (0,0)) (ybz BK753.out)):gb766≠gb753));replace BK753:=yam (ybb BK753.out hb);have NB0_766:=yam ((by rw [hg];exact Nat.ne_of_lt (IsS86.lt (show IsS86 w0 _ g s0_0 t765 from by repeat (first|(with_reducible first|exact HI0.out|apply IsS86.alloc|apply IsS86.drewN|apply IsS86.drew|apply IsS86.set_1|refine IsS86.far ?_ NB0_753.out _)|exact HI0.out))):g≠gb766));have NB766_0:=yam ((by rw [hg];exact Nat.ne_of_gt (IsS86.lt (show IsS86 w0 _ g s0_0 t765 from by repeat (first|(with_reducible first|exact HI0.out|apply IsS86.alloc|apply IsS86.drewN|apply IsS86.drew|apply IsS86.set_1|refine IsS86.far ?_ NB0_753.out _)|exact HI0.out))):gb766≠g));replace HI0:=yam (IsS86.below (by repeat (first|(with_reducible first|exact HI0.out|apply IsS86.alloc|apply IsS86.drewN|apply IsS86.drew|apply IsS86.set_1|refine IsS86.far ?_ NB0_753.out _)|exact HI0.out)) hb);clear hb hbox hg;have hnb14:=NB766_753.out;have hnc14:=NB753_766.out;have hnb15:=NB766_0.out;have hnc15:=NB0_766.out;obtain ⟨hcz16_0,hcz16_1,hcz16_2,hfz16_0,hfz16_1,hfz16_2⟩:=ybc BK766.out;obtain ⟨Ao17,co17,eo17⟩:=Kd.R_slice HO763.out;subst eo17)|(refine goesL_ (some 21) rfl rfl Try.func81 (by kernel_rfl) rfl #[.pointer (some ⟨g,0,none⟩),.int .i64 2] rfl ymd ?_;(with_reducible refine (spec_l20Rd_pick.calls k g s0_0 t765 2 t767 t768 w0 _ ?side1 ?side2 A6.out).mono ?_);(case side1=>repeat (first|(with_reducible first|exact HI0.out|apply IsS86.alloc|apply IsS86.drewN|apply IsS86.drew|apply IsS86.set_1|refine IsS86.far ?_ NB0_753.out _|refine IsS86.far ?_ NB0_766.out _)|exact HI0.out));(case side2=>repeat (first|(with_reducible first|exact HB.out|apply yea|apply yen|apply yed|refine below_set ?_ (IsS86.ge HI0.out)|refine below_set ?_ GE753.out|refine below_set ?_ GE766.out)|exact HB.out));rintro e w18 ⟨rfl,hi,hb,hk⟩;refine ⟨_,rfl,?_⟩;replace BK753:=yam (KeepBut.blk hk (g':=gb753) (o:= .cells #[.int .i64 0,.slice none 0 0,.int .i64 0] 32 (0,0)) (by (with_reducible repeat (first|refine ybn ?_ _|refine ybd ?_|refine yba ?_ _));refine blk_far ?_ NB753_766.out _;(with_reducible repeat (first|refine ybn ?_ _|refine ybd ?_|refine yba ?_ _));refine blk_far ?_ NB753_766.out _;(with_reducible repeat (first|refine ybn ?_ _|refine ybd ?_|refine yba ?_ _));refine blk_far ?_ NB753_766.out _;(with_reducible repeat (first|refine ybn ?_ _|refine ybd ?_|refine yba ?_ _));exact BK753.out) NB753_0.out (by simp));replace HO758:=yam (Kd.R_mono (Kd.R_keep (IsS86.apart (show IsS86 w0 _ g s0_0 t765 from by repeat (first|(with_reducible first|exact HI0.out|apply IsS86.alloc|apply IsS86.drewN|apply IsS86.drew|apply IsS86.set_1|refine IsS86.far ?_ NB0_753.out _|refine IsS86.far ?_ NB0_766.out _)|exact HI0.out)) (by (with_reducible repeat (first|apply Kd.Ya|apply Kd.Yn|apply Kd.Yd));exact (Kd.R_mono (Kd.R_far (p:=⟨gb766,2,none⟩) (Kd.R_far (p:=⟨gb766,1,none⟩) (Kd.R_far (p:=⟨gb766,0,none⟩) (Kd.R_types HO758.out BK766.out (by decide)) (fun _ hk=>hk.2) (.int .i64 t760)) (fun _ hk=>hk.2) (.slice Ao17 t761.length co17)) (fun _ hk=>hk.2) (.int .i64 t764)) (fun _ h_=>h_.1))) (by decide)) hk (fun _ h=>h.2)) (fun _ h=>h.1));replace HO763:=yam (Kd.R_mono (Kd.R_keep (IsS86.apart (show IsS86 w0 _ g s0_0 t765 from by repeat (first|(with_reducible first|exact HI0.out|apply IsS86.alloc|apply IsS86.drewN|apply IsS86.drew|apply IsS86.set_1|refine IsS86.far ?_ NB0_753.out _|refine IsS86.far ?_ NB0_766.out _)|exact HI0.out)) (by (with_reducible repeat (first|apply Kd.Ya|apply Kd.Yn|apply Kd.Yd));exact (Kd.R_mono (Kd.R_far (p:=⟨gb766,2,none⟩) (Kd.R_far (p:=⟨gb766,1,none⟩) (Kd.R_far (p:=⟨gb766,0,none⟩) (Kd.R_types HO763.out BK766.out (by decide)) (fun _ hk=>hk.2) (.int .i64 t760)) (fun _ hk=>hk.2) (.slice Ao17 t761.length co17)) (fun _ hk=>hk.2) (.int .i64 t764)) (fun _ h_=>h_.1))) (by decide)) hk (fun _ h=>h.2)) (fun _ h=>h.1));replace BK766:=yam (KeepBut.blk hk (g':=gb766) (o:= .cells #[.int .i64 t760,.slice Ao17 t761.length co17,.int .i64 t764] 32 (0,0)) (by (with_reducible repeat (first|refine ybn ?_ _|refine ybd ?_|refine yba ?_ _));refine blk_put (cs:= #[.int .i64 t760,.slice Ao17 t761.length co17,.int .i64 0]) ?_ 2 _ rfl;(with_reducible repeat (first|refine ybn ?_ _|refine ybd ?_|refine yba ?_ _));refine blk_put (cs:= #[.int .i64 t760,.slice none 0 0,.int .i64 0]) ?_ 1 _ rfl;(with_reducible repeat (first|refine ybn ?_ _|refine ybd ?_|refine yba ?_ _));refine blk_put (cs:= #[.int .i64 0,.slice none 0 0,.int .i64 0]) ?_ 0 _ rfl;(with_reducible repeat (first|refine ybn ?_ _|refine ybd ?_|refine yba ?_ _));exact BK766.out) NB766_0.out (by simp));replace HK:=yam (KeepBut.trans (by repeat (first|(with_reducible first|exact HK.out|apply KeepBut.set_|apply keep_drewN|apply keep_drew|apply keep_alloc|refine keep_far ?_ GW753.out _|refine keep_far ?_ GW766.out _)|exact HK.out)) hk (.inl rfl));replace HB:=yam (hb);replace HI0:=yam (hi);(try clear hb);(try clear hk);(try clear hi)))
 (try simp only [Act.put,yps])
 go_cut [8] (fun v8 wc=>∃ (kq:Nat) (x8_6:List Int) (x1001_6:Int),Aside0 (spec_l20Case.j0 kq a1 t754 x8_6 s0_0 x1001_6 t760 t761 t764=some (r1,r2,r3,r4,r5,r6))∧Aside0 (kq≤k)∧Aside0 (Kd.R (Kd.int .i64) 3 wc w.heap.size (fun k_=>some k_≠((.slice Ao17 t761.length co17):Value).ownBlock) v8 x8_6)∧Aside0 (Kd.R (Kd.int .i64) 3 wc w.heap.size (fun k_=>some k_≠(v8:Value).ownBlock) (.slice Ao17 t761.length co17) t761)∧Aside0 (wc.heap[gb753]?=some (.cells #[.int .i64 0,(.slice none 0 0),.int .i64 0] 32 (0,0)))∧Aside0 (wc.heap[gb766]?=some (.cells #[.int .i64 t760,(.slice Ao17 t761.length co17),.int .i64 t764] 32 (0,0)))∧Aside0 (IsS86 w0 wc g s0_0 x1001_6)∧Aside0 (KeepBut w wc g none)∧Aside0 (Below w0.heap.size w0 wc))
 case first =>
  have H:=HC7.out
  clear HC7
  replace H:=yit H;obtain ⟨c19,H⟩ | ⟨c19,H⟩:=H
  rotate_left
  ·have c19b0:(t767 == 0)=false:=beq_eq_false_iff_ne.mpr c19
   have c19b1:(t767 != 0)=true:=bne_iff_ne.mpr c19
   (first|rw [c19b0]|(simp only [i64_w,i32_w];rw [c19b0])|skip)
   replace H:=yam H
   go_wp2
   go_meet
   case rel=>exact ⟨_,(t756),(t768),H,⟨by first|omega|exact Nat.le_refl _⟩,⟨by (with_reducible repeat (first|apply Kd.Ya|apply Kd.Yn|apply Kd.Yd));exact Kd.R_mono HO758.out (fun _ hk=>hk.2)⟩,⟨by (with_reducible repeat (first|apply Kd.Ya|apply Kd.Yn|apply Kd.Yd));exact Kd.R_mono HO763.out (fun _ hk=>hk.2)⟩,⟨ybk BK753.out⟩,⟨ybk BK766.out⟩,⟨by repeat (first|(with_reducible first|exact HI0.out|apply IsS86.alloc|apply IsS86.drewN|apply IsS86.drew|apply IsS86.set_1|refine IsS86.far ?_ NB0_753.out _|refine IsS86.far ?_ NB0_766.out _)|exact HI0.out)⟩,⟨by repeat (first|(with_reducible first|exact HK.out|apply KeepBut.set_|apply keep_drewN|apply keep_drew|apply keep_alloc|refine keep_far ?_ GW753.out _|refine keep_far ?_ GW766.out _)|exact HK.out)⟩,⟨by repeat (first|(with_reducible first|exact HB.out|apply yea|apply yen|apply yed|refine below_set ?_ (IsS86.ge HI0.out)|refine below_set ?_ GE753.out|refine below_set ?_ GE766.out)|exact HB.out)⟩⟩
  have c19b0:(t767 == 0)=true:=beq_iff_eq.mpr c19
  have c19b1:(t767 != 0)=false:=bne_eq_false_iff_eq.mpr c19
  clear c19
  (first|rw [c19b0]|(simp only [i64_w,i32_w];rw [c19b0])|skip)
  replace H:=ybi H;obtain ⟨⟨t769,t772⟩,A20,H⟩:=H
  replace H:(spec_l20Case.j0 k a1 t754 t769 s0_0 t772 t760 t761 t764)=some (r1,r2,r3,r4,r5,r6):=H
  replace H:=yam H
  go_wp2_with (first|(refine goesL_ (some 25) rfl rfl Try.func67 (by kernel_rfl) rfl #[.pointer (some ⟨g,0,none⟩),.int .i64 t754] rfl ymd ?_;(with_reducible refine (spec_l20Solved.calls k g s0_0 t768 t754 t769 t772 w0 _ ?side1 ?side2 A20.out).mono ?_);(case side1=>repeat (first|(with_reducible first|exact HI0.out|apply IsS86.alloc|apply IsS86.drewN|apply IsS86.drew|apply IsS86.set_1|refine IsS86.far ?_ NB0_753.out _|refine IsS86.far ?_ NB0_766.out _)|exact HI0.out));(case side2=>repeat (first|(with_reducible first|exact HB.out|apply yea|apply yen|apply yed|refine below_set ?_ (IsS86.ge HI0.out)|refine below_set ?_ GE753.out|refine below_set ?_ GE766.out)|exact HB.out));rintro e w21 ⟨v770,rfl,ho0,hi,hb,hk⟩;refine ⟨_,rfl,?_⟩;replace BK753:=yam (KeepBut.blk hk (g':=gb753) (o:= .cells #[.int .i64 0,.slice none 0 0,.int .i64 0] 32 (0,0)) (ybz BK753.out) NB753_0.out (by simp));replace BK766:=yam (KeepBut.blk hk (g':=gb766) (o:= .cells #[.int .i64 t760,.slice Ao17 t761.length co17,.int .i64 t764] 32 (0,0)) (ybz BK766.out) NB766_0.out (by simp));have HO771:=yam (Kd.R_lower (Kd.Yw (Kd.Yw ho0 (Kd.R_lt (Kd.Yz HO758.out))) (Kd.R_lt (Kd.Yz HO763.out))) (keep_size (w:=w) (g:=g) (row:=none) (by repeat (first|(with_reducible first|exact HK.out|apply KeepBut.set_|apply keep_drewN|apply keep_drew|apply keep_alloc|refine keep_far ?_ GW753.out _|refine keep_far ?_ GW766.out _)|exact HK.out))));replace HO758:=yam (Kd.R_mono (Kd.R_told (Kd.R_oldK (IsS86.apart (show IsS86 w0 _ g s0_0 t768 from by repeat (first|(with_reducible first|exact HI0.out|apply IsS86.alloc|apply IsS86.drewN|apply IsS86.drew|apply IsS86.set_1|refine IsS86.far ?_ NB0_753.out _|refine IsS86.far ?_ NB0_766.out _)|exact HI0.out)) (Kd.Yz HO758.out) (by decide)) hk) (Kd.Yb ho0)) (fun _ h_=>h_.1));replace HO763:=yam (Kd.R_mono (Kd.R_told (Kd.R_oldK (IsS86.apart (show IsS86 w0 _ g s0_0 t768 from by repeat (first|(with_reducible first|exact HI0.out|apply IsS86.alloc|apply IsS86.drewN|apply IsS86.drew|apply IsS86.set_1|refine IsS86.far ?_ NB0_753.out _|refine IsS86.far ?_ NB0_766.out _)|exact HI0.out)) (Kd.Yz HO763.out) (by decide)) hk) (Kd.Yb ho0)) (fun _ h_=>h_.1));replace HK:=yam (KeepBut.trans (by repeat (first|(with_reducible first|exact HK.out|apply KeepBut.set_|apply keep_drewN|apply keep_drew|apply keep_alloc|refine keep_far ?_ GW753.out _|refine keep_far ?_ GW766.out _)|exact HK.out)) hk (.inl rfl));replace HB:=yam (hb);replace HI0:=yam (hi);(try clear hb);(try clear hk);(try clear hi);(try clear ho0)))
  go_meet
  case rel=>exact ⟨_,(t769),(t772),H,⟨by first|omega|exact Nat.le_refl _⟩,⟨by (with_reducible repeat (first|apply Kd.Ya|apply Kd.Yn|apply Kd.Yd));exact Kd.R_mono HO771.out (fun _ hk=>hk.2)⟩,⟨by (with_reducible repeat (first|apply Kd.Ya|apply Kd.Yn|apply Kd.Yd));exact Kd.R_mono HO763.out (fun _ hk=>hk.2)⟩,⟨ybk BK753.out⟩,⟨ybk BK766.out⟩,⟨by repeat (first|(with_reducible first|exact HI0.out|apply IsS86.alloc|apply IsS86.drewN|apply IsS86.drew|apply IsS86.set_1|refine IsS86.far ?_ NB0_753.out _|refine IsS86.far ?_ NB0_766.out _)|exact HI0.out)⟩,⟨by repeat (first|(with_reducible first|exact HK.out|apply KeepBut.set_|apply keep_drewN|apply keep_drew|apply keep_alloc|refine keep_far ?_ GW753.out _|refine keep_far ?_ GW766.out _)|exact HK.out)⟩,⟨by repeat (first|(with_reducible first|exact HB.out|apply yea|apply yen|apply yed|refine below_set ?_ (IsS86.ge HI0.out)|refine below_set ?_ GE753.out|refine below_set ?_ GE766.out)|exact HB.out)⟩⟩
 case rest =>
  clear HC7
  try clear hcz16_0
  try clear hcz16_1
  try clear hcz16_2
  try clear hfz16_0
  try clear hfz16_1
  try clear hfz16_2
  obtain ⟨kq,x8_6,x1001_6,HA,HJ6,HO_8,HO_767001,BK753,BK766,HI0,HK,HB⟩:=hcut
  rcases kq with _|kj6
  ·exact absurd HA.out (by simp [spec_l20Case.j0])
  obtain ⟨H⟩:=HA
  simp only [spec_l20Case.j0] at H
  replace H:=yam H
  go_wp2
  go_loopg [10] kj6 (fun kq v10 w'=>∃ (x8_2:List Int) (x10_2:Int) (x1001_2:Int),v10= .int .i64 x10_2∧Aside0 (spec_l20Case.l0 kq a1 t754 x8_2 x10_2 s0_0 x1001_2 t760 t761 t764=some (r1,r2,r3,r4,r5,r6))∧Aside0 (kq≤kj6)∧Aside0 (Kd.R (Kd.int .i64) 3 w' w.heap.size (fun k_=>some k_≠((.slice Ao17 t761.length co17):Value).ownBlock) u8 x8_2)∧Aside0 (Kd.R (Kd.int .i64) 3 w' w.heap.size (fun k_=>some k_≠(u8:Value).ownBlock) (.slice Ao17 t761.length co17) t761)∧Aside0 (w'.heap[gb753]?=some (.cells #[.int .i64 0,(.slice none 0 0),.int .i64 0] 32 (0,0)))∧Aside0 (w'.heap[gb766]?=some (.cells #[.int .i64 t760,(.slice Ao17 t761.length co17),.int .i64 t764] 32 (0,0)))∧Aside0 (IsS86 w0 w' g s0_0 x1001_2)∧Aside0 (KeepBut w w' g none)∧Aside0 (Below w0.heap.size w0 w'))
  case atStart=>exact ⟨(x8_6),(0),(x1001_6),yeq,H,⟨Nat.le_refl _⟩,⟨yka HO_8.out⟩,⟨yka HO_767001.out⟩,⟨ybk BK753.out⟩,⟨ybk BK766.out⟩,⟨by repeat (first|(with_reducible first|exact HI0.out|apply IsS86.alloc|apply IsS86.drewN|apply IsS86.drew|apply IsS86.set_1|refine IsS86.far ?_ NB0_753.out _|refine IsS86.far ?_ NB0_766.out _)|exact HI0.out)⟩,⟨by repeat (first|(with_reducible first|exact HK.out|apply KeepBut.set_|apply keep_drewN|apply keep_drew|apply keep_alloc|refine keep_far ?_ GW753.out _|refine keep_far ?_ GW766.out _)|exact HK.out)⟩,⟨by repeat (first|(with_reducible first|exact HB.out|apply yea|apply yen|apply yed|refine below_set ?_ (IsS86.ge HI0.out)|refine below_set ?_ GE753.out|refine below_set ?_ GE766.out)|exact HB.out)⟩⟩
  case round =>
   clear H
   obtain ⟨x8_2,x10_2,x1001_2,rfl,HA,HK2,HO_8,HO_767001,BK753,BK766,HI0,HK,HB⟩:=hrel
   rcases gk with _|k2
   ·exact absurd HA.out (by simp [spec_l20Case.l0])
   obtain ⟨H⟩:=HA
   simp only [spec_l20Case.l0] at H
   have HC22:=yam H
   clear H
   go_upto_region 7 with (fail)
   go_cut [33] (fun v33 wc=>∃ (kq:Nat) (x33_21:Bool),v33= .bool x33_21∧Aside0 (spec_l20Case.j2 kq a1 t754 x8_2 x10_2 x33_21 s0_0 x1001_2 t760 t761 t764=some (r1,r2,r3,r4,r5,r6))∧Aside0 (kq≤k2)∧Aside0 (Kd.R (Kd.int .i64) 3 wc w.heap.size (fun k_=>some k_≠((.slice Ao17 t761.length co17):Value).ownBlock) u8 x8_2)∧Aside0 (Kd.R (Kd.int .i64) 3 wc w.heap.size (fun k_=>some k_≠(u8:Value).ownBlock) (.slice Ao17 t761.length co17) t761)∧Aside0 (wc.heap[gb753]?=some (.cells #[.int .i64 0,(.slice none 0 0),.int .i64 0] 32 (0,0)))∧Aside0 (wc.heap[gb766]?=some (.cells #[.int .i64 t760,(.slice Ao17 t761.length co17),.int .i64 t764] 32 (0,0)))∧Aside0 (IsS86 w0 wc g s0_0 x1001_2)∧Aside0 (KeepBut w wc g none)∧Aside0 (Below w0.heap.size w0 wc))
   case first =>
    have H:=HC22.out
    clear HC22
    replace H:=yis H;obtain ⟨c23b0,H⟩ | ⟨c23b0,H⟩:=H
    ·(first|rw [c23b0]|(simp only [i64_w,i32_w];rw [c23b0])|skip)
     replace H:=yam H
     obtain ⟨Ao24,co24,eo24⟩:=Kd.R_slice HO_8.out
     subst eo24
     go_wp2
     go_meet
     case rel=>exact ⟨_,(!a1),yeq,H,⟨by have:=HJ6.out;have:=HK2.out;first|omega|exact Nat.le_refl _⟩,⟨yka HO_8.out⟩,⟨yka HO_767001.out⟩,⟨ybk BK753.out⟩,⟨ybk BK766.out⟩,⟨by repeat (first|(with_reducible first|exact HI0.out|apply IsS86.alloc|apply IsS86.drewN|apply IsS86.drew|apply IsS86.set_1|refine IsS86.far ?_ NB0_753.out _|refine IsS86.far ?_ NB0_766.out _)|exact HI0.out)⟩,⟨by repeat (first|(with_reducible first|exact HK.out|apply KeepBut.set_|apply keep_drewN|apply keep_drew|apply keep_alloc|refine keep_far ?_ GW753.out _|refine keep_far ?_ GW766.out _)|exact HK.out)⟩,⟨by repeat (first|(with_reducible first|exact HB.out|apply yea|apply yen|apply yed|refine below_set ?_ (IsS86.ge HI0.out)|refine below_set ?_ GE753.out|refine below_set ?_ GE766.out)|exact HB.out)⟩⟩
    (first|rw [c23b0]|(simp only [i64_w,i32_w];rw [c23b0])|skip)
    replace H:=yam H
    obtain ⟨Ao25,co25,eo25⟩:=Kd.R_slice HO_8.out
    subst eo25
    go_wp2
    go_meet
    case rel=>exact ⟨_,(false),yeq,H,⟨by have:=HJ6.out;have:=HK2.out;first|omega|exact Nat.le_refl _⟩,⟨yka HO_8.out⟩,⟨yka HO_767001.out⟩,⟨ybk BK753.out⟩,⟨ybk BK766.out⟩,⟨by repeat (first|(with_reducible first|exact HI0.out|apply IsS86.alloc|apply IsS86.drewN|apply IsS86.drew|apply IsS86.set_1|refine IsS86.far ?_ NB0_753.out _|refine IsS86.far ?_ NB0_766.out _)|exact HI0.out)⟩,⟨by repeat (first|(with_reducible first|exact HK.out|apply KeepBut.set_|apply keep_drewN|apply keep_drew|apply keep_alloc|refine keep_far ?_ GW753.out _|refine keep_far ?_ GW766.out _)|exact HK.out)⟩,⟨by repeat (first|(with_reducible first|exact HB.out|apply yea|apply yen|apply yed|refine below_set ?_ (IsS86.ge HI0.out)|refine below_set ?_ GE753.out|refine below_set ?_ GE766.out)|exact HB.out)⟩⟩
   case rest =>
    clear HC22
    obtain ⟨kq,x33_21,rfl,HA,HJ21,HO_8,HO_767001,BK753,BK766,HI0,HK,HB⟩:=hcut
    rcases kq with _|kj21
    ·exact absurd HA.out (by simp [spec_l20Case.j2])
    obtain ⟨H⟩:=HA
    simp only [spec_l20Case.j2] at H
    cases x33_21
    rotate_left
    ·replace H:=ytt H
     replace H:=ybi H;obtain ⟨⟨t773,t774⟩,A27,H⟩:=H
     replace H:(if t773=0 then (if 0≤x10_2 then (if x10_2 < (x8_2.length:Int) then (spec_l20Case.l0 kj21 a1 t754 (x8_2.set (x10_2:Int).toNat 0) (wrap64 (x10_2 + 1)) s0_0 t774 t760 t761 t764) else (none)) else (none)) else (spec_l20Case.l0 kj21 a1 t754 x8_2 (wrap64 (x10_2 + 1)) s0_0 t774 t760 t761 t764))=some (r1,r2,r3,r4,r5,r6):=H
     replace H:=yit H;obtain ⟨c28,H⟩ | ⟨c28,H⟩:=H
     rotate_left
     ·have c28b0:(t773 == 0)=false:=beq_eq_false_iff_ne.mpr c28
      have c28b1:(t773 != 0)=true:=bne_iff_ne.mpr c28
      replace H:=yam H
      go_wp2_with (first|(refine goesL_ (some 37) rfl rfl Try.func81 (by kernel_rfl) rfl #[.pointer (some ⟨g,0,none⟩),.int .i64 3] rfl ymd ?_;(with_reducible refine (spec_l20Rd_pick.calls kj21 g s0_0 x1001_2 3 t773 t774 w0 _ ?side1 ?side2 A27.out).mono ?_);(case side1=>repeat (first|(with_reducible first|exact HI0.out|apply IsS86.alloc|apply IsS86.drewN|apply IsS86.drew|apply IsS86.set_1|refine IsS86.far ?_ NB0_753.out _|refine IsS86.far ?_ NB0_766.out _)|exact HI0.out));(case side2=>repeat (first|(with_reducible first|exact HB.out|apply yea|apply yen|apply yed|refine below_set ?_ (IsS86.ge HI0.out)|refine below_set ?_ GE753.out|refine below_set ?_ GE766.out)|exact HB.out));rintro e w35 ⟨rfl,hi,hb,hk⟩;refine ⟨_,rfl,?_⟩;replace HO_8:=yam (Kd.R_mono (Kd.R_keep (IsS86.apart (show IsS86 w0 _ g s0_0 x1001_2 from by repeat (first|(with_reducible first|exact HI0.out|apply IsS86.alloc|apply IsS86.drewN|apply IsS86.drew|apply IsS86.set_1|refine IsS86.far ?_ NB0_753.out _|refine IsS86.far ?_ NB0_766.out _)|exact HI0.out)) (Kd.Yz HO_8.out) (by decide)) hk (fun _ h=>h.2)) (fun _ h=>h.1));replace HO_767001:=yam (Kd.R_mono (Kd.R_keep (IsS86.apart (show IsS86 w0 _ g s0_0 x1001_2 from by repeat (first|(with_reducible first|exact HI0.out|apply IsS86.alloc|apply IsS86.drewN|apply IsS86.drew|apply IsS86.set_1|refine IsS86.far ?_ NB0_753.out _|refine IsS86.far ?_ NB0_766.out _)|exact HI0.out)) (Kd.Yz HO_767001.out) (by decide)) hk (fun _ h=>h.2)) (fun _ h=>h.1));replace BK753:=yam (KeepBut.blk hk (g':=gb753) (o:= .cells #[.int .i64 0,.slice none 0 0,.int .i64 0] 32 (0,0)) (ybz BK753.out) NB753_0.out (by simp));replace BK766:=yam (KeepBut.blk hk (g':=gb766) (o:= .cells #[.int .i64 t760,.slice Ao17 t761.length co17,.int .i64 t764] 32 (0,0)) (ybz BK766.out) NB766_0.out (by simp));replace HK:=yam (KeepBut.trans (by repeat (first|(with_reducible first|exact HK.out|apply KeepBut.set_|apply keep_drewN|apply keep_drew|apply keep_alloc|refine keep_far ?_ GW753.out _|refine keep_far ?_ GW766.out _)|exact HK.out)) hk (.inl rfl));replace HB:=yam (hb);replace HI0:=yam (hi);(try clear hb);(try clear hk);(try clear hi)))
      go_roundg kj21
      case measure=>have:=HJ6.out;have:=HK2.out;have:=HJ21.out;omega
      case rel=>exact ⟨(x8_2),(wrap64 (x10_2 + 1)),(t774),yeq,H,⟨by have:=HJ6.out;have:=HK2.out;have:=HJ21.out;omega⟩,⟨yka HO_8.out⟩,⟨yka HO_767001.out⟩,⟨ybk BK753.out⟩,⟨ybk BK766.out⟩,⟨by repeat (first|(with_reducible first|exact HI0.out|apply IsS86.alloc|apply IsS86.drewN|apply IsS86.drew|apply IsS86.set_1|refine IsS86.far ?_ NB0_753.out _|refine IsS86.far ?_ NB0_766.out _)|exact HI0.out)⟩,⟨by repeat (first|(with_reducible first|exact HK.out|apply KeepBut.set_|apply keep_drewN|apply keep_drew|apply keep_alloc|refine keep_far ?_ GW753.out _|refine keep_far ?_ GW766.out _)|exact HK.out)⟩,⟨by repeat (first|(with_reducible first|exact HB.out|apply yea|apply yen|apply yed|refine below_set ?_ (IsS86.ge HI0.out)|refine below_set ?_ GE753.out|refine below_set ?_ GE766.out)|exact HB.out)⟩⟩
     have c28b0:(t773 == 0)=true:=beq_iff_eq.mpr c28
     have c28b1:(t773 != 0)=false:=bne_eq_false_iff_eq.mpr c28
     clear c28
     replace H:=yif H;obtain ⟨c29b0,H⟩:=H
     replace H:=yif H;obtain ⟨c30b0,H⟩:=H
     obtain ⟨y775,Ny775⟩:∃ y_:List Int,Aside0 (y_=(x8_2.set (x10_2:Int).toNat 0)):=⟨_,⟨rfl⟩⟩
     replace H:(spec_l20Case.l0 kj21 a1 t754 y775 (wrap64 (x10_2 + 1)) s0_0 t774 t760 t761 t764)=some (r1,r2,r3,r4,r5,r6):=yhn Ny775.out H
     replace H:=yam H
     go_wp2_with (first|(refine goesL_ (some 37) rfl rfl Try.func81 (by kernel_rfl) rfl #[.pointer (some ⟨g,0,none⟩),.int .i64 3] rfl ymd ?_;(with_reducible refine (spec_l20Rd_pick.calls kj21 g s0_0 x1001_2 3 t773 t774 w0 _ ?side1 ?side2 A27.out).mono ?_);(case side1=>repeat (first|(with_reducible first|exact HI0.out|apply IsS86.alloc|apply IsS86.drewN|apply IsS86.drew|apply IsS86.set_1|refine IsS86.far ?_ NB0_753.out _|refine IsS86.far ?_ NB0_766.out _)|exact HI0.out));(case side2=>repeat (first|(with_reducible first|exact HB.out|apply yea|apply yen|apply yed|refine below_set ?_ (IsS86.ge HI0.out)|refine below_set ?_ GE753.out|refine below_set ?_ GE766.out)|exact HB.out));rintro e w32 ⟨rfl,hi,hb,hk⟩;refine ⟨_,rfl,?_⟩;replace HO_8:=yam (Kd.R_mono (Kd.R_keep (IsS86.apart (show IsS86 w0 _ g s0_0 x1001_2 from by repeat (first|(with_reducible first|exact HI0.out|apply IsS86.alloc|apply IsS86.drewN|apply IsS86.drew|apply IsS86.set_1|refine IsS86.far ?_ NB0_753.out _|refine IsS86.far ?_ NB0_766.out _)|exact HI0.out)) (Kd.Yz HO_8.out) (by decide)) hk (fun _ h=>h.2)) (fun _ h=>h.1));replace HO_767001:=yam (Kd.R_mono (Kd.R_keep (IsS86.apart (show IsS86 w0 _ g s0_0 x1001_2 from by repeat (first|(with_reducible first|exact HI0.out|apply IsS86.alloc|apply IsS86.drewN|apply IsS86.drew|apply IsS86.set_1|refine IsS86.far ?_ NB0_753.out _|refine IsS86.far ?_ NB0_766.out _)|exact HI0.out)) (Kd.Yz HO_767001.out) (by decide)) hk (fun _ h=>h.2)) (fun _ h=>h.1));replace BK753:=yam (KeepBut.blk hk (g':=gb753) (o:= .cells #[.int .i64 0,.slice none 0 0,.int .i64 0] 32 (0,0)) (ybz BK753.out) NB753_0.out (by simp));replace BK766:=yam (KeepBut.blk hk (g':=gb766) (o:= .cells #[.int .i64 t760,.slice Ao17 t761.length co17,.int .i64 t764] 32 (0,0)) (ybz BK766.out) NB766_0.out (by simp));replace HK:=yam (KeepBut.trans (by repeat (first|(with_reducible first|exact HK.out|apply KeepBut.set_|apply keep_drewN|apply keep_drew|apply keep_alloc|refine keep_far ?_ GW753.out _|refine keep_far ?_ GW766.out _)|exact HK.out)) hk (.inl rfl));replace HB:=yam (hb);replace HI0:=yam (hi);(try clear hb);(try clear hk);(try clear hi);have p31:0≤(x10_2:Int):=ydt;have q31:(x10_2:Int) < ((x8_2.length:Int):Int):=ydt;obtain ⟨go31,co31,eo31,gb31,gl31,cl31,HG31⟩:=Kd.R_form HO_8.out (by omega);(first|cases eo31|(injection eo31 with ea_ en_ ec_;(first|subst ea_|(injection ea_ with ea_;subst ea_));subst ec_;clear en_));have GB31:=yam gb31;have GG31:=yam HG31;clear gb31 gl31 HG31;obtain ⟨hx31_0,hf31_0⟩:=Kd.R_celln 0 HO_8.out (x10_2:Int) p31 q31;replace p31:=eq_true p31;replace q31:=eq_true q31;obtain ⟨hy33_,hz33_⟩:=Kd.R_celln 0 HO_8.out (x10_2:Int) (ydt) (ydt);have HP33:=Kd.R_putg HO_8.out (x10_2:Int) 0)|((with_reducible refine gate_store (t:=3) (p:=41) rfl ?_);refine store_event (t:=3) (p:=41) (v:=?vo_w34) (w1:=(w32.setCell ⟨go31,(x10_2:Int).toNat,none⟩ (.int .i64 0))) ?hg ?ho ?hn ?hr ?_;(case ho=>rfl);(case hg=>rfl);(case hn=>rfl);(case hr=>first|(go_simp;done)|(go_simp;rfl));intro w34 hw;have hg:w32.grownBy w34 (some go31):=(by rw [hw];exact HP33.2);have hp_:Kd.R (Kd.int .i64) 3 w34 w.heap.size (fun k_=>some k_≠(.slice Ao17 t761.length co17:Value).ownBlock) (.slice (some ⟨go31,0,none⟩) x8_2.length co31) y775:=(by rw [hw,Ny775.out];exact HP33.1);clear HP33;replace HO_767001:=yam (Kd.R_after (v:=(.slice (some ⟨go31,0,none⟩) x8_2.length co31)) (v1:=(.slice (some ⟨go31,0,none⟩) x8_2.length co31)) (ok:=(fun _=>True)) (by (with_reducible repeat (first|apply Kd.Ya|apply Kd.Yn|apply Kd.Yd));exact Kd.R_mono HO_767001.out (fun _ hk=>⟨trivial,hk⟩)) hg (.inl rfl));replace BK753:=yam (blk_grown (g:=gb753) (o:= .cells #[.int .i64 0,.slice none 0 0,.int .i64 0] 32 (0,0)) (ybz BK753.out) hg (Kd.R_ne HO_8.out BK753.out (by decide)));replace BK766:=yam (blk_grown (g:=gb766) (o:= .cells #[.int .i64 t760,.slice Ao17 t761.length co17,.int .i64 t764] 32 (0,0)) (ybz BK766.out) hg (Kd.R_ne HO_8.out BK766.out (by decide)));replace HI0:=yam (IsS86.grown (by repeat (first|(with_reducible first|exact HI0.out|apply IsS86.alloc|apply IsS86.drewN|apply IsS86.drew|apply IsS86.set_1|refine IsS86.far ?_ NB0_753.out _|refine IsS86.far ?_ NB0_766.out _)|exact HI0.out)) hg (IsS86.own_ne HI0.out HO_8.out (by decide)));replace HB:=yam ((by rw [hw];exact below_set (HB.out) (Nat.le_trans HL.out GB31.out):Below w0.heap.size w0 w34));replace HK:=yam (KeepBut.trans (by repeat (first|(with_reducible first|exact HK.out|apply KeepBut.set_|apply keep_drewN|apply keep_drew|apply keep_alloc|refine keep_far ?_ GW753.out _|refine keep_far ?_ GW766.out _)|exact HK.out)) (KeepBut.of_grown hg g) (Kd.R_base2 HO_8.out));replace HO_8:=yam (hp_);clear hg hw hp_))
     go_roundg kj21
     case measure=>have:=HJ6.out;have:=HK2.out;have:=HJ21.out;omega
     case rel=>exact ⟨(y775),(wrap64 (x10_2 + 1)),(t774),yeq,H,⟨by have:=HJ6.out;have:=HK2.out;have:=HJ21.out;omega⟩,⟨yka HO_8.out⟩,⟨by (with_reducible repeat (first|apply Kd.Ya|apply Kd.Yn|apply Kd.Yd));exact Kd.R_mono HO_767001.out (fun _ hk=>hk.2)⟩,⟨ybk BK753.out⟩,⟨ybk BK766.out⟩,⟨by repeat (first|(with_reducible first|exact HI0.out|apply IsS86.alloc|apply IsS86.drewN|apply IsS86.drew|apply IsS86.set_1|refine IsS86.far ?_ NB0_753.out _|refine IsS86.far ?_ NB0_766.out _)|exact HI0.out)⟩,⟨by repeat (first|(with_reducible first|exact HK.out|apply KeepBut.set_|apply keep_drewN|apply keep_drew|apply keep_alloc|refine keep_far ?_ GW753.out _|refine keep_far ?_ GW766.out _)|exact HK.out)⟩,⟨by repeat (first|(with_reducible first|exact HB.out|apply yea|apply yen|apply yed|refine below_set ?_ (IsS86.ge HI0.out)|refine below_set ?_ GE753.out|refine below_set ?_ GE766.out)|exact HB.out)⟩⟩
    replace H:=yff H
    replace H:=ybi H;obtain ⟨⟨t776,t777⟩,A36,H⟩:=H
    replace H:(if t776=true then ((some (([0,(-1),wrap64 (t754 + 1)]:List Int):List Int)).bind fun y778=>((spec_l20Rd_pick.f kj21 s0_0 t777 3).bind fun bt781=>(if 0≤bt781.1 then (if bt781.1 < (y778.length:Int) then (if 0 < (x8_2.length:Int) then (some (t760,t761,t764,(x8_2.set (0:Int).toNat (rd y778 bt781.1)),t754,bt781.2)) else (none)) else (none)) else (none)))) else (some (t760,t761,t764,x8_2,t754,t777)))=some (r1,r2,r3,r4,r5,r6):=H
    cases t776
    ·replace H:=yff H
     simp only [Option.some.injEq,Prod.mk.injEq] at H
     obtain ⟨rfl,rfl,rfl,rfl,rfl,rfl⟩:=H
     go_wp2_with (first|(refine goesL_ (some 43) rfl rfl Try.func68 (by kernel_rfl) rfl #[.pointer (some ⟨g,0,none⟩),.int .i64 12] rfl ymd ?_;(with_reducible refine (spec_l20Rd_odd.calls kj21 g s0_0 x1001_2 12 false t777 w0 _ ?side1 ?side2 A36.out).mono ?_);(case side1=>repeat (first|(with_reducible first|exact HI0.out|apply IsS86.alloc|apply IsS86.drewN|apply IsS86.drew|apply IsS86.set_1|refine IsS86.far ?_ NB0_753.out _|refine IsS86.far ?_ NB0_766.out _)|exact HI0.out));(case side2=>repeat (first|(with_reducible first|exact HB.out|apply yea|apply yen|apply yed|refine below_set ?_ (IsS86.ge HI0.out)|refine below_set ?_ GE753.out|refine below_set ?_ GE766.out)|exact HB.out));rintro e w55 ⟨rfl,hi,hb,hk⟩;refine ⟨_,rfl,?_⟩;replace HO_8:=yam (Kd.R_mono (Kd.R_keep (IsS86.apart (show IsS86 w0 _ g s0_0 x1001_2 from by repeat (first|(with_reducible first|exact HI0.out|apply IsS86.alloc|apply IsS86.drewN|apply IsS86.drew|apply IsS86.set_1|refine IsS86.far ?_ NB0_753.out _|refine IsS86.far ?_ NB0_766.out _)|exact HI0.out)) (Kd.Yz HO_8.out) (by decide)) hk (fun _ h=>h.2)) (fun _ h=>h.1));replace HO_767001:=yam (Kd.R_mono (Kd.R_keep (IsS86.apart (show IsS86 w0 _ g s0_0 x1001_2 from by repeat (first|(with_reducible first|exact HI0.out|apply IsS86.alloc|apply IsS86.drewN|apply IsS86.drew|apply IsS86.set_1|refine IsS86.far ?_ NB0_753.out _|refine IsS86.far ?_ NB0_766.out _)|exact HI0.out)) (Kd.Yz HO_767001.out) (by decide)) hk (fun _ h=>h.2)) (fun _ h=>h.1));replace BK753:=yam (KeepBut.blk hk (g':=gb753) (o:= .cells #[.int .i64 0,.slice none 0 0,.int .i64 0] 32 (0,0)) (ybz BK753.out) NB753_0.out (by simp));replace BK766:=yam (KeepBut.blk hk (g':=gb766) (o:= .cells #[.int .i64 t760,.slice Ao17 t761.length co17,.int .i64 t764] 32 (0,0)) (ybz BK766.out) NB766_0.out (by simp));replace HK:=yam (KeepBut.trans (by repeat (first|(with_reducible first|exact HK.out|apply KeepBut.set_|apply keep_drewN|apply keep_drew|apply keep_alloc|refine keep_far ?_ GW753.out _|refine keep_far ?_ GW766.out _)|exact HK.out)) hk (.inl rfl));replace HB:=yam (hb);replace HI0:=yam (hi);(try clear hb);(try clear hk);(try clear hi);have hnb56:=NB766_753.out;have hnc56:=NB753_766.out;have hnb57:=NB766_0.out;have hnc57:=NB0_766.out;obtain ⟨hcz58_0,hcz58_1,hcz58_2,hfz58_0,hfz58_1,hfz58_2⟩:=ybc BK766.out;have hnb59:=NB753_0.out;have hnc59:=NB0_753.out;obtain ⟨hcz60_0,hcz60_1,hcz60_2,hfz60_0,hfz60_1,hfz60_2⟩:=ybc BK753.out))
     refine bodyPost_ret (results_ctt rfl _ _ gb753 32 #[.int .i64 t760,.slice Ao17 t761.length co17,.int .i64 t764] (0,0) _ rfl (by (with_reducible repeat (first|refine ybn ?_ _|refine ybd ?_|refine yba ?_ _));refine blk_put (cs:= #[.int .i64 t760,.slice Ao17 t761.length co17,.int .i64 0]) ?_ 2 _ rfl;(with_reducible repeat (first|refine ybn ?_ _|refine ybd ?_|refine yba ?_ _));refine blk_put (cs:= #[.int .i64 t760,.slice none 0 0,.int .i64 0]) ?_ 1 _ rfl;(with_reducible repeat (first|refine ybn ?_ _|refine ybd ?_|refine yba ?_ _));refine blk_put (cs:= #[.int .i64 0,.slice none 0 0,.int .i64 0]) ?_ 0 _ rfl;(with_reducible repeat (first|refine ybn ?_ _|refine ybd ?_|refine yba ?_ _));exact BK753.out) Try.underlying32 rfl (by kernel_rfl)) rfl ?_
     exact ⟨_,_,yer,by (with_reducible repeat (first|apply Kd.Ya|apply Kd.Yn|apply Kd.Yd));exact Kd.R_mono (Kd.R_far (p:=⟨gb753,2,none⟩) (Kd.R_far (p:=⟨gb753,1,none⟩) (Kd.R_far (p:=⟨gb753,0,none⟩) (Kd.R_types HO_767001.out BK753.out (by decide)) (fun _ hk=>hk.2) (.int .i64 t760)) (fun _ hk=>hk.2) (.slice Ao17 t761.length co17)) (fun _ hk=>hk.2) (.int .i64 t764)) (fun _ hk=>hk.1),by (with_reducible repeat (first|apply Kd.Ya|apply Kd.Yn|apply Kd.Yd));exact Kd.R_mono (Kd.R_far (p:=⟨gb753,2,none⟩) (Kd.R_far (p:=⟨gb753,1,none⟩) (Kd.R_far (p:=⟨gb753,0,none⟩) (Kd.R_types HO_8.out BK753.out (by decide)) (fun _ hk=>hk.2) (.int .i64 t760)) (fun _ hk=>hk.2) (.slice Ao17 t761.length co17)) (fun _ hk=>hk.2) (.int .i64 t764)) (fun _ hk=>hk.1),by repeat (first|(with_reducible first|exact HI0.out|apply IsS86.alloc|apply IsS86.drewN|apply IsS86.drew|apply IsS86.set_1|refine IsS86.far ?_ NB0_753.out _|refine IsS86.far ?_ NB0_766.out _)|exact HI0.out),by repeat (first|(with_reducible first|exact HB.out|apply yea|apply yen|apply yed|refine below_set ?_ (IsS86.ge HI0.out)|refine below_set ?_ GE753.out|refine below_set ?_ GE766.out)|exact HB.out),by repeat (first|(with_reducible first|exact HK.out|apply KeepBut.set_|apply keep_drewN|apply keep_drew|apply keep_alloc|refine keep_far ?_ GW753.out _|refine keep_far ?_ GW766.out _)|exact HK.out)⟩
    replace H:=ytt H
    obtain ⟨y778,Ny778⟩:∃ y_:List Int,Aside0 (y_=(([0,(-1),wrap64 (t754 + 1)]:List Int))):=⟨_,⟨rfl⟩⟩
    replace H:((spec_l20Rd_pick.f kj21 s0_0 t777 3).bind fun bt781=>(if 0≤bt781.1 then (if bt781.1 < (y778.length:Int) then (if 0 < (x8_2.length:Int) then (some (t760,t761,t764,(x8_2.set (0:Int).toNat (rd y778 bt781.1)),t754,bt781.2)) else (none)) else (none)) else (none)))=some (r1,r2,r3,r4,r5,r6):=yhn Ny778.out H
    replace H:=ybi H;obtain ⟨⟨t781,t782⟩,A38,H⟩:=H
    replace H:(if 0≤t781 then (if t781 < (y778.length:Int) then (if 0 < (x8_2.length:Int) then (some (t760,t761,t764,(x8_2.set (0:Int).toNat (rd y778 t781)),t754,t782)) else (none)) else (none)) else (none))=some (r1,r2,r3,r4,r5,r6):=H
    replace H:=yif H;obtain ⟨c39b0,H⟩:=H
    replace H:=yif H;obtain ⟨c40b0,H⟩:=H
    replace H:=yig H;obtain ⟨c41,H⟩:=H
    have c41b0:decide (0 < (x8_2.length:Int))=true:=decide_eq_true c41
    have c41b1:decide (0 < x8_2.length)=true:=decide_eq_true (by omega)
    clear c41
    obtain ⟨y784,Ny784⟩:∃ y_:List Int,Aside0 (y_=(x8_2.set (0:Int).toNat (rd y778 t781))):=⟨_,⟨rfl⟩⟩
    replace H:(some (t760,t761,t764,y784,t754,t782))=some (r1,r2,r3,r4,r5,r6):=yhn Ny784.out H
    simp only [Option.some.injEq,Prod.mk.injEq] at H
    obtain ⟨rfl,rfl,rfl,rfl,rfl,rfl⟩:=H
    go_wp2_with (first|(refine goesL_ (some 43) rfl rfl Try.func68 (by kernel_rfl) rfl #[.pointer (some ⟨g,0,none⟩),.int .i64 12] rfl ymd ?_;(with_reducible refine (spec_l20Rd_odd.calls kj21 g s0_0 x1001_2 12 true t777 w0 _ ?side1 ?side2 A36.out).mono ?_);(case side1=>repeat (first|(with_reducible first|exact HI0.out|apply IsS86.alloc|apply IsS86.drewN|apply IsS86.drew|apply IsS86.set_1|refine IsS86.far ?_ NB0_753.out _|refine IsS86.far ?_ NB0_766.out _)|exact HI0.out));(case side2=>repeat (first|(with_reducible first|exact HB.out|apply yea|apply yen|apply yed|refine below_set ?_ (IsS86.ge HI0.out)|refine below_set ?_ GE753.out|refine below_set ?_ GE766.out)|exact HB.out));rintro e w43 ⟨rfl,hi,hb,hk⟩;refine ⟨_,rfl,?_⟩;replace HO_8:=yam (Kd.R_mono (Kd.R_keep (IsS86.apart (show IsS86 w0 _ g s0_0 x1001_2 from by repeat (first|(with_reducible first|exact HI0.out|apply IsS86.alloc|apply IsS86.drewN|apply IsS86.drew|apply IsS86.set_1|refine IsS86.far ?_ NB0_753.out _|refine IsS86.far ?_ NB0_766.out _)|exact HI0.out)) (Kd.Yz HO_8.out) (by decide)) hk (fun _ h=>h.2)) (fun _ h=>h.1));replace HO_767001:=yam (Kd.R_mono (Kd.R_keep (IsS86.apart (show IsS86 w0 _ g s0_0 x1001_2 from by repeat (first|(with_reducible first|exact HI0.out|apply IsS86.alloc|apply IsS86.drewN|apply IsS86.drew|apply IsS86.set_1|refine IsS86.far ?_ NB0_753.out _|refine IsS86.far ?_ NB0_766.out _)|exact HI0.out)) (Kd.Yz HO_767001.out) (by decide)) hk (fun _ h=>h.2)) (fun _ h=>h.1));replace BK753:=yam (KeepBut.blk hk (g':=gb753) (o:= .cells #[.int .i64 0,.slice none 0 0,.int .i64 0] 32 (0,0)) (ybz BK753.out) NB753_0.out (by simp));replace BK766:=yam (KeepBut.blk hk (g':=gb766) (o:= .cells #[.int .i64 t760,.slice Ao17 t761.length co17,.int .i64 t764] 32 (0,0)) (ybz BK766.out) NB766_0.out (by simp));replace HK:=yam (KeepBut.trans (by repeat (first|(with_reducible first|exact HK.out|apply KeepBut.set_|apply keep_drewN|apply keep_drew|apply keep_alloc|refine keep_far ?_ GW753.out _|refine keep_far ?_ GW766.out _)|exact HK.out)) hk (.inl rfl));replace HB:=yam (hb);replace HI0:=yam (hi);(try clear hb);(try clear hk);(try clear hi))|((with_reducible refine gate_dst (N:=47) rfl ?_);refine Kd.R_lit (Kd.int .i64) _ 3 ?hg (N:=47) ?hd (xs:=([0,(-1),wrap64 (t754 + 1)]:List Int)) (inner:=[.int .i64 0,.int .i64 (-1),.int .i64 (wrap64 (t754 + 1))]) (ok:=fun _=>True) (okp:=fun _=>True) ?hr ?hp (fun _ hk=>hk) trivial (Below.refl _ _) (Nat.le_refl _) (by simp) ?_;(case hd=>rfl);(case hg=>rfl);(case hr=>first|(go_simp;done)|(go_simp;rfl));(case hp=>exact (Reps.one (show Kd.M (Kd.int .i64) _ _ _ 0 [.int .i64 0] from rfl) (Reps.one (show Kd.M (Kd.int .i64) _ _ _ (-1) [.int .i64 (-1)] from rfl) (Reps.one (show Kd.M (Kd.int .i64) _ _ _ (wrap64 (t754 + 1)) [.int .i64 (wrap64 (t754 + 1))] from rfl) (Reps.none _ _)))));intro v779 w44 ho45 hb hg_ hnew_;clear hg_ hnew_;(first|rw [← Ny778.out] at ho45|(simp only [Int.reduceToNat] at ho45;rw [← Ny778.out] at ho45));have HO780:=yam (Kd.R_lower (Kd.Yw (Kd.Yw ho45 (Kd.R_lt (Kd.Yz HO_8.out))) (Kd.R_lt (Kd.Yz HO_767001.out))) (keep_size (w:=w) (g:=g) (row:=none) (by repeat (first|(with_reducible first|exact HK.out|apply KeepBut.set_|apply keep_drewN|apply keep_drew|apply keep_alloc|refine keep_far ?_ GW753.out _|refine keep_far ?_ GW766.out _)|exact HK.out))));replace HO_8:=yam (Kd.Ye (Kd.Yz HO_8.out) (Kd.Yb ho45) hb);replace HO_767001:=yam (Kd.Ye (Kd.Yz HO_767001.out) (Kd.Yb ho45) hb);replace BK753:=yam (ybb BK753.out hb);replace BK766:=yam (ybb BK766.out hb);replace HK:=yam (KeepBut.trans (by repeat (first|(with_reducible first|exact HK.out|apply KeepBut.set_|apply keep_drewN|apply keep_drew|apply keep_alloc|refine keep_far ?_ GW753.out _|refine keep_far ?_ GW766.out _)|exact HK.out)) (KeepBut.of_below hb g none) (.inl rfl));replace HB:=yam (below_step (by repeat (first|(with_reducible first|exact HB.out|apply yea|apply yen|apply yed|refine below_set ?_ (IsS86.ge HI0.out)|refine below_set ?_ GE753.out|refine below_set ?_ GE766.out)|exact HB.out)) hb);replace HI0:=yam (IsS86.below (by repeat (first|(with_reducible first|exact HI0.out|apply IsS86.alloc|apply IsS86.drewN|apply IsS86.drew|apply IsS86.set_1|refine IsS86.far ?_ NB0_753.out _|refine IsS86.far ?_ NB0_766.out _)|exact HI0.out)) hb);clear hb ho45)|(refine goesL_ (some 49) rfl rfl Try.func81 (by kernel_rfl) rfl #[.pointer (some ⟨g,0,none⟩),.int .i64 3] rfl ymd ?_;(with_reducible refine (spec_l20Rd_pick.calls kj21 g s0_0 t777 3 t781 t782 w0 _ ?side1 ?side2 A38.out).mono ?_);(case side1=>repeat (first|(with_reducible first|exact HI0.out|apply IsS86.alloc|apply IsS86.drewN|apply IsS86.drew|apply IsS86.set_1|refine IsS86.far ?_ NB0_753.out _|refine IsS86.far ?_ NB0_766.out _)|exact HI0.out));(case side2=>repeat (first|(with_reducible first|exact HB.out|apply yea|apply yen|apply yed|refine below_set ?_ (IsS86.ge HI0.out)|refine below_set ?_ GE753.out|refine below_set ?_ GE766.out)|exact HB.out));rintro e w46 ⟨rfl,hi,hb,hk⟩;refine ⟨_,rfl,?_⟩;replace HO_8:=yam (Kd.R_mono (Kd.R_keep (IsS86.apart (show IsS86 w0 _ g s0_0 t777 from by repeat (first|(with_reducible first|exact HI0.out|apply IsS86.alloc|apply IsS86.drewN|apply IsS86.drew|apply IsS86.set_1|refine IsS86.far ?_ NB0_753.out _|refine IsS86.far ?_ NB0_766.out _)|exact HI0.out)) (Kd.Yz HO_8.out) (by decide)) hk (fun _ h=>h.2)) (fun _ h=>h.1));replace HO_767001:=yam (Kd.R_mono (Kd.R_keep (IsS86.apart (show IsS86 w0 _ g s0_0 t777 from by repeat (first|(with_reducible first|exact HI0.out|apply IsS86.alloc|apply IsS86.drewN|apply IsS86.drew|apply IsS86.set_1|refine IsS86.far ?_ NB0_753.out _|refine IsS86.far ?_ NB0_766.out _)|exact HI0.out)) (Kd.Yz HO_767001.out) (by decide)) hk (fun _ h=>h.2)) (fun _ h=>h.1));replace BK753:=yam (KeepBut.blk hk (g':=gb753) (o:= .cells #[.int .i64 0,.slice none 0 0,.int .i64 0] 32 (0,0)) (ybz BK753.out) NB753_0.out (by simp));replace BK766:=yam (KeepBut.blk hk (g':=gb766) (o:= .cells #[.int .i64 t760,.slice Ao17 t761.length co17,.int .i64 t764] 32 (0,0)) (ybz BK766.out) NB766_0.out (by simp));replace HO780:=yam (Kd.R_mono (Kd.R_keep (IsS86.apart (show IsS86 w0 _ g s0_0 t777 from by repeat (first|(with_reducible first|exact HI0.out|apply IsS86.alloc|apply IsS86.drewN|apply IsS86.drew|apply IsS86.set_1|refine IsS86.far ?_ NB0_753.out _|refine IsS86.far ?_ NB0_766.out _)|exact HI0.out)) (Kd.Yz HO780.out) (by decide)) hk (fun _ h=>h.2)) (fun _ h=>h.1));replace HK:=yam (KeepBut.trans (by repeat (first|(with_reducible first|exact HK.out|apply KeepBut.set_|apply keep_drewN|apply keep_drew|apply keep_alloc|refine keep_far ?_ GW753.out _|refine keep_far ?_ GW766.out _)|exact HK.out)) hk (.inl rfl));replace HB:=yam (hb);replace HI0:=yam (hi);(try clear hb);(try clear hk);(try clear hi);obtain ⟨Ao47,co47,eo47⟩:=Kd.R_slice HO780.out;subst eo47;have p783:0≤(t781:Int):=ydt;have q783:t781 < (y778.length:Int):=ydt;obtain ⟨ad783,e783,hx783_0⟩:=Kd.at_int (Kd.Yr HO780.out).2.2 t781 p783 q783;cases e783;replace p783:=eq_true p783;replace q783:=eq_true q783;have p42:0≤(0:Int):=(by omega);have q42:(0:Int) < ((x8_2.length:Int):Int):=ydt;have qi42:(0 < x8_2.length)=True:=eq_true (by omega);obtain ⟨go42,co42,eo42,gb42,gl42,cl42,HG42⟩:=Kd.R_form HO_8.out (by omega);(first|cases eo42|(injection eo42 with ea_ en_ ec_;(first|subst ea_|(injection ea_ with ea_;subst ea_));subst ec_;clear en_));have GB42:=yam gb42;have GG42:=yam HG42;clear gb42 gl42 HG42;obtain ⟨hx42_0,hf42_0⟩:=Kd.R_celln 0 HO_8.out (0:Int) p42 q42;(try rw [show ((0:Int)).toNat=0 from rfl] at hx42_0);(try simp only [Nat.reduceMul,Nat.zero_mul,Nat.zero_add,Nat.reduceAdd] at hx42_0);(try rw [show ((0:Int)).toNat=0 from rfl] at hf42_0);(try simp only [Nat.reduceMul,Nat.zero_mul,Nat.zero_add,Nat.reduceAdd] at hf42_0);replace p42:=eq_true p42;replace q42:=eq_true q42;obtain ⟨hy48_,hz48_⟩:=Kd.R_celln 0 HO_8.out (0:Int) (by omega) (ydt);(try simp only [Int.reduceToNat,Int.toNat_zero,Int.toNat_ofNat,Nat.reduceMul,Nat.zero_mul,Nat.zero_add] at hy48_ hz48_);(try rw [show ((0:Int)).toNat=0 from rfl] at hy48_);(try rw [show ((0:Int)).toNat=0 from rfl] at hz48_);have HP48:=Kd.R_putg HO_8.out (0:Int) (rd y778 t781))|((with_reducible refine gate_store (t:=3) (p:=52) rfl ?_);refine store_event (t:=3) (p:=52) (v:=?vo_w49) (w1:=(w46.setCell ⟨go42,(0:Int).toNat,none⟩ (.int .i64 (rd y778 t781)))) ?hg ?ho ?hn ?hr ?_;(case ho=>rfl);(case hg=>rfl);(case hn=>rfl);(case hr=>first|(go_simp;done)|(go_simp;rfl));intro w49 hw;have hg:w46.grownBy w49 (some go42):=(by rw [hw];exact HP48.2);have hp_:Kd.R (Kd.int .i64) 3 w49 w.heap.size (fun k_=>some k_≠(.slice Ao17 t761.length co17:Value).ownBlock∧some k_≠(.slice (some ad783) y778.length co47:Value).ownBlock) (.slice (some ⟨go42,0,none⟩) x8_2.length co42) y784:=(by rw [hw,Ny784.out];exact HP48.1);clear HP48;replace HO_767001:=yam (Kd.R_after (v:=(.slice (some ⟨go42,0,none⟩) x8_2.length co42)) (v1:=(.slice (some ⟨go42,0,none⟩) x8_2.length co42)) (ok:=(fun k_=>some k_≠(.slice (some ad783) y778.length co47:Value).ownBlock)) (by (with_reducible repeat (first|apply Kd.Ya|apply Kd.Yn|apply Kd.Yd));exact Kd.R_mono HO_767001.out (fun _ hk=>⟨hk.2,hk.1⟩)) hg (.inl rfl));replace BK753:=yam (blk_grown (g:=gb753) (o:= .cells #[.int .i64 0,.slice none 0 0,.int .i64 0] 32 (0,0)) (ybz BK753.out) hg (Kd.R_ne HO_8.out BK753.out (by decide)));replace BK766:=yam (blk_grown (g:=gb766) (o:= .cells #[.int .i64 t760,.slice Ao17 t761.length co17,.int .i64 t764] 32 (0,0)) (ybz BK766.out) hg (Kd.R_ne HO_8.out BK766.out (by decide)));replace HI0:=yam (IsS86.grown (by repeat (first|(with_reducible first|exact HI0.out|apply IsS86.alloc|apply IsS86.drewN|apply IsS86.drew|apply IsS86.set_1|refine IsS86.far ?_ NB0_753.out _|refine IsS86.far ?_ NB0_766.out _)|exact HI0.out)) hg (IsS86.own_ne HI0.out HO_8.out (by decide)));replace HO780:=yam (Kd.R_after (v:=(.slice (some ⟨go42,0,none⟩) x8_2.length co42)) (v1:=(.slice (some ⟨go42,0,none⟩) x8_2.length co42)) (ok:=(fun k_=>some k_≠(.slice Ao17 t761.length co17:Value).ownBlock)) (by (with_reducible repeat (first|apply Kd.Ya|apply Kd.Yn|apply Kd.Yd));exact Kd.R_mono HO780.out (fun _ hk=>⟨hk.2,hk.1.2⟩)) hg (.inl rfl));replace HB:=yam ((by rw [hw];exact below_set (HB.out) (Nat.le_trans HL.out GB42.out):Below w0.heap.size w0 w49));replace HK:=yam (KeepBut.trans (by repeat (first|(with_reducible first|exact HK.out|apply KeepBut.set_|apply keep_drewN|apply keep_drew|apply keep_alloc|refine keep_far ?_ GW753.out _|refine keep_far ?_ GW766.out _)|exact HK.out)) (KeepBut.of_grown hg g) (Kd.R_base2 HO_8.out));replace HO_8:=yam (hp_);clear hg hw hp_;have hnb50:=NB766_753.out;have hnc50:=NB753_766.out;have hnb51:=NB766_0.out;have hnc51:=NB0_766.out;obtain ⟨hcz52_0,hcz52_1,hcz52_2,hfz52_0,hfz52_1,hfz52_2⟩:=ybc BK766.out;have hnb53:=NB753_0.out;have hnc53:=NB0_753.out;obtain ⟨hcz54_0,hcz54_1,hcz54_2,hfz54_0,hfz54_1,hfz54_2⟩:=ybc BK753.out))
    refine bodyPost_ret (results_ctt rfl _ _ gb753 32 #[.int .i64 t760,.slice Ao17 t761.length co17,.int .i64 t764] (0,0) _ rfl (by (with_reducible repeat (first|refine ybn ?_ _|refine ybd ?_|refine yba ?_ _));refine blk_put (cs:= #[.int .i64 t760,.slice Ao17 t761.length co17,.int .i64 0]) ?_ 2 _ rfl;(with_reducible repeat (first|refine ybn ?_ _|refine ybd ?_|refine yba ?_ _));refine blk_put (cs:= #[.int .i64 t760,.slice none 0 0,.int .i64 0]) ?_ 1 _ rfl;(with_reducible repeat (first|refine ybn ?_ _|refine ybd ?_|refine yba ?_ _));refine blk_put (cs:= #[.int .i64 0,.slice none 0 0,.int .i64 0]) ?_ 0 _ rfl;(with_reducible repeat (first|refine ybn ?_ _|refine ybd ?_|refine yba ?_ _));exact BK753.out) Try.underlying32 rfl (by kernel_rfl)) rfl ?_
    exact ⟨_,_,yer,by (with_reducible repeat (first|apply Kd.Ya|apply Kd.Yn|apply Kd.Yd));exact Kd.R_mono (Kd.R_far (p:=⟨gb753,2,none⟩) (Kd.R_far (p:=⟨gb753,1,none⟩) (Kd.R_far (p:=⟨gb753,0,none⟩) (Kd.R_types HO_767001.out BK753.out (by decide)) (fun _ hk=>hk.2) (.int .i64 t760)) (fun _ hk=>hk.2) (.slice Ao17 t761.length co17)) (fun _ hk=>hk.2) (.int .i64 t764)) (fun _ hk=>hk.1.2),by (with_reducible repeat (first|apply Kd.Ya|apply Kd.Yn|apply Kd.Yd));exact Kd.R_mono (Kd.R_far (p:=⟨gb753,2,none⟩) (Kd.R_far (p:=⟨gb753,1,none⟩) (Kd.R_far (p:=⟨gb753,0,none⟩) (Kd.R_types HO_8.out BK753.out (by decide)) (fun _ hk=>hk.2) (.int .i64 t760)) (fun _ hk=>hk.2) (.slice Ao17 t761.length co17)) (fun _ hk=>hk.2) (.int .i64 t764)) (fun _ hk=>hk.1.1),by repeat (first|(with_reducible first|exact HI0.out|apply IsS86.alloc|apply IsS86.drewN|apply IsS86.drew|apply IsS86.set_1|refine IsS86.far ?_ NB0_753.out _|refine IsS86.far ?_ NB0_766.out _)|exact HI0.out),by repeat (first|(with_reducible first|exact HB.out|apply yea|apply yen|apply yed|refine below_set ?_ (IsS86.ge HI0.out)|refine below_set ?_ GE753.out|refine below_set ?_ GE766.out)|exact HB.out),by repeat (first|(with_reducible first|exact HK.out|apply KeepBut.set_|apply keep_drewN|apply keep_drew|apply keep_alloc|refine keep_far ?_ GW753.out _|refine keep_far ?_ GW766.out _)|exact HK.out)⟩
def spec_DrawRuleHolds.f (k:Nat)(l0:List Int):Option (Int × List Int × Int × List Int × Int):=(spec_l20Open.f l0).bind fun bt786=>((spec_l20Rd_pick.f k bt786.1 bt786.2 3).bind fun bt789=>((spec_l20Case.f k bt786.1 bt789.2 (decide (bt789.1 > 0))).bind fun bt791=>(some (bt791.1,bt791.2.1,bt791.2.2.1,bt791.2.2.2.1,bt791.2.2.2.2.1))))
theorem spec_DrawRuleHolds.calls (k:Nat)(A0:Option Addr)(c0:Nat)(l0:List Int)(r1:Int)(r2:List Int)(r3:Int)(r4:List Int)(r5:Int)(w:World)(hr0:Kd.C (Kd.int .u8) w A0 l0.length l0)(hc0:l0.length≤c0)(h:spec_DrawRuleHolds.f k l0=some (r1,r2,r3,r4,r5)) :
  Calls Try.prog 45 #[.slice A0 l0.length c0] w fun e w'=>∃ v1_ v3_:Value,e= .returned (.tuple #[.agg #[.int .i64 r1,v1_,.int .i64 r3],v3_,.int .i64 r5])∧Kd.R (Kd.int .i64) 3 w' w.heap.size (fun k_=>some k_≠(v3_:Value).ownBlock) v1_ r2∧Kd.R (Kd.int .i64) 3 w' w.heap.size (fun k_=>some k_≠(v1_:Value).ownBlock) v3_ r4∧Below w.heap.size w w':=by
 have hu32:=Try.underlying32
 have HR0:=yam hr0
 have HC0:=yam hc0
 clear hr0 hc0
 have HB:=yam (Below.refl w.heap.size w)
 unfold spec_DrawRuleHolds.f at h
 have H:=h
 clear h
 replace H:=ybi H;obtain ⟨⟨t786,t787⟩,A2,H⟩:=H
 replace H:((spec_l20Rd_pick.f k t786 t787 3).bind fun bt789=>((spec_l20Case.f k t786 bt789.2 (decide (bt789.1 > 0))).bind fun bt791=>(some (bt791.1,bt791.2.1,bt791.2.2.1,bt791.2.2.2.1,bt791.2.2.2.2.1))))=some (r1,r2,r3,r4,r5):=H
 replace H:=ybi H;obtain ⟨⟨t789,t790⟩,A3,H⟩:=H
 replace H:((spec_l20Case.f k t786 t790 (decide (t789 > 0))).bind fun bt791=>(some (bt791.1,bt791.2.1,bt791.2.2.1,bt791.2.2.2.1,bt791.2.2.2.2.1)))=some (r1,r2,r3,r4,r5):=H
 replace H:=ybi H;obtain ⟨⟨t791,t792,t795,t796,t799,t800⟩,A4,H⟩:=H
 replace H:(some (t791,t792,t795,t796,t799))=some (r1,r2,r3,r4,r5):=H
 simp only [Option.some.injEq,Prod.mk.injEq] at H
 obtain ⟨rfl,rfl,rfl,rfl,rfl⟩:=H
 go_enter Try.func45,Try.ntmps45
 go_wp2_with (first|(refine ybe 2 #[.int .i64 0,.slice none 0 0,.int .i64 0] 32 ?_;intro gb785 hg w5 hbox hb;have BK785:=yam (hbox);have GW785:=yam ((by rw [hg];exact (below_size (yez HB.out)):w.heap.size≤gb785));replace HB:=yam (below_step (yez HB.out) hb);have GE785:=GW785;clear hb hbox hg)|(refine goesL_ (some 7) rfl rfl Try.func59 (by kernel_rfl) rfl #[.slice A0 l0.length c0] rfl ymd ?_;(with_reducible refine (spec_l20Open.calls _ _ l0 t786 t787 w _ ?side1 ?side2 ?side3 A2.out).mono ?_);(case side1=>repeat (first|(with_reducible first|exact HB.out|apply yea|apply yen|apply yed|refine below_set ?_ GE785.out)|exact HB.out));(case side2=>exact HR0.out);(case side3=>exact HC0.out);rintro e w6 ⟨g788,rfl,hi,hb,hb2⟩;refine ⟨_,rfl,?_⟩;replace HB:=yam (hb);have HI788:=yam (hi);have NB788_785:=yam (IsS86.ne_blk hi (blk_below (g:=gb785) (o:= .cells #[.int .i64 0,.slice none 0 0,.int .i64 0] 32 (0,0)) (ybz BK785.out) hb2) (by decide));have NB785_788:=yam (Ne.symm (IsS86.ne_blk hi (blk_below (g:=gb785) (o:= .cells #[.int .i64 0,.slice none 0 0,.int .i64 0] 32 (0,0)) (ybz BK785.out) hb2) (by decide)));replace BK785:=yam (blk_below (g:=gb785) (o:= .cells #[.int .i64 0,.slice none 0 0,.int .i64 0] 32 (0,0)) (ybz BK785.out) hb2);(try clear hb);(try clear hb2);(try clear hi))|(refine goesL_ (some 10) rfl rfl Try.func81 (by kernel_rfl) rfl #[.pointer (some ⟨g788,0,none⟩),.int .i64 3] rfl ymd ?_;(with_reducible refine (spec_l20Rd_pick.calls k g788 t786 t787 3 t789 t790 w _ ?side1 ?side2 A3.out).mono ?_);(case side1=>repeat (first|(with_reducible first|exact HI788.out|apply IsS86.alloc|apply IsS86.drewN|apply IsS86.drew|apply IsS86.set_1|refine IsS86.far ?_ NB788_785.out _)|exact HI788.out));(case side2=>repeat (first|(with_reducible first|exact HB.out|apply yea|apply yen|apply yed|refine below_set ?_ (IsS86.ge HI788.out)|refine below_set ?_ GE785.out)|exact HB.out));rintro e w7 ⟨rfl,hi,hb,hk⟩;refine ⟨_,rfl,?_⟩;replace BK785:=yam (KeepBut.blk hk (g':=gb785) (o:= .cells #[.int .i64 0,.slice none 0 0,.int .i64 0] 32 (0,0)) (ybz BK785.out) NB785_788.out (by simp));replace HB:=yam (hb);replace HI788:=yam (hi);(try clear hb);(try clear hk);(try clear hi))|(refine goesL_ (some 12) rfl rfl Try.func80 (by kernel_rfl) rfl #[.pointer (some ⟨g788,0,none⟩),.bool (decide (t789 > 0))] rfl ymd ?_;(with_reducible refine (spec_l20Case.calls k g788 t786 t790 (decide (t789 > 0)) t791 t792 t795 t796 t799 t800 w _ ?side1 ?side2 A4.out).mono ?_);(case side1=>repeat (first|(with_reducible first|exact HI788.out|apply IsS86.alloc|apply IsS86.drewN|apply IsS86.drew|apply IsS86.set_1|refine IsS86.far ?_ NB788_785.out _)|exact HI788.out));(case side2=>repeat (first|(with_reducible first|exact HB.out|apply yea|apply yen|apply yed|refine below_set ?_ (IsS86.ge HI788.out)|refine below_set ?_ GE785.out)|exact HB.out));rintro e w8 ⟨v793,v797,rfl,ho0,ho1,hi,hb,hk⟩;refine ⟨_,rfl,?_⟩;replace BK785:=yam (KeepBut.blk hk (g':=gb785) (o:= .cells #[.int .i64 0,.slice none 0 0,.int .i64 0] 32 (0,0)) (ybz BK785.out) NB785_788.out (by simp));have HO794:=yam (Kd.R_lower ho0 (below_size (by repeat (first|(with_reducible first|exact HB.out|apply yea|apply yen|apply yed|refine below_set ?_ (IsS86.ge HI788.out)|refine below_set ?_ GE785.out)|exact HB.out))));have HO798:=yam (Kd.R_lower ho1 (below_size (by repeat (first|(with_reducible first|exact HB.out|apply yea|apply yen|apply yed|refine below_set ?_ (IsS86.ge HI788.out)|refine below_set ?_ GE785.out)|exact HB.out))));replace HB:=yam (hb);replace HI788:=yam (hi);(try clear hb);(try clear hk);(try clear hi);(try clear ho0);(try clear ho1);have hnb9:=NB785_788.out;have hnc9:=NB788_785.out;obtain ⟨hcz10_0,hcz10_1,hcz10_2,hfz10_0,hfz10_1,hfz10_2⟩:=ybc BK785.out;obtain ⟨Ao11,co11,eo11⟩:=Kd.R_slice HO794.out;subst eo11))
 refine bodyPost_ret (results_ctt rfl _ _ gb785 32 #[.int .i64 t791,.slice Ao11 t792.length co11,.int .i64 t795] (0,0) _ rfl (by (with_reducible repeat (first|refine ybn ?_ _|refine ybd ?_|refine yba ?_ _));refine blk_put (cs:= #[.int .i64 t791,.slice Ao11 t792.length co11,.int .i64 0]) ?_ 2 _ rfl;(with_reducible repeat (first|refine ybn ?_ _|refine ybd ?_|refine yba ?_ _));refine blk_put (cs:= #[.int .i64 t791,.slice none 0 0,.int .i64 0]) ?_ 1 _ rfl;(with_reducible repeat (first|refine ybn ?_ _|refine ybd ?_|refine yba ?_ _));refine blk_put (cs:= #[.int .i64 0,.slice none 0 0,.int .i64 0]) ?_ 0 _ rfl;(with_reducible repeat (first|refine ybn ?_ _|refine ybd ?_|refine yba ?_ _));exact BK785.out) Try.underlying32 rfl (by kernel_rfl)) rfl ?_
 exact ⟨_,_,yer,by (with_reducible repeat (first|apply Kd.Ya|apply Kd.Yn|apply Kd.Yd));exact Kd.R_mono (Kd.R_far (p:=⟨gb785,2,none⟩) (Kd.R_far (p:=⟨gb785,1,none⟩) (Kd.R_far (p:=⟨gb785,0,none⟩) (Kd.R_types HO794.out BK785.out (by decide)) (fun _ hk=>hk.2) (.int .i64 t791)) (fun _ hk=>hk.2) (.slice Ao11 t792.length co11)) (fun _ hk=>hk.2) (.int .i64 t795)) (fun _ hk=>hk.1),by (with_reducible repeat (first|apply Kd.Ya|apply Kd.Yn|apply Kd.Yd));exact Kd.R_mono (Kd.R_far (p:=⟨gb785,2,none⟩) (Kd.R_far (p:=⟨gb785,1,none⟩) (Kd.R_far (p:=⟨gb785,0,none⟩) (Kd.R_types HO798.out BK785.out (by decide)) (fun _ hk=>hk.2) (.int .i64 t791)) (fun _ hk=>hk.2) (.slice Ao11 t792.length co11)) (fun _ hk=>hk.2) (.int .i64 t795)) (fun _ hk=>hk.1),by repeat (first|(with_reducible first|exact HB.out|apply yea|apply yen|apply yed|refine below_set ?_ (IsS86.ge HI788.out)|refine below_set ?_ GE785.out)|exact HB.out)⟩
mutual
def impl_RuleHolds.j0:Nat→List Int→Bool→Int→List Int→Int→Option (Bool)
 | 0,_,_,_,_,_=>none
 | k + 1,x1,x19,x802000,x802001,x802002=>if x19=true then (some false) else (impl_RuleHolds.l0 k x1 (([]:List Int)) x802001 (x802001.length:Int) 0 x802000 x802001 x802002)
def impl_RuleHolds.l0:Nat→List Int→List Int→List Int→Int→Int→Int→List Int→Int→Option (Bool)
 | 0,_,_,_,_,_,_,_,_=>none
 | k + 1,x1,x7,x22,x23,x24,x802000,x802001,x802002=>if x24 < x23 then (if 0≤x24 then (if x24 < (x22.length:Int) then (if 0≤(rd x22 x24) then (if (rd x22 x24) < (x1.length:Int) then (if (rd x1 (rd x22 x24))=0 then (some false) else (if x7.length < 17592186044416 then (impl_RuleHolds.l0 k x1 (x7 ++ [rd x1 (rd x22 x24)]) x22 x23 (wrap64 (x24 + 1)) x802000 x802001 x802002) else (none))) else (none)) else (none)) else (none)) else (none)) else ((impl_valuesHold.f k x802000 x802001 x802002 x7).bind fun t813=>(some t813))
end
def impl_RuleHolds.f (k:Nat)(a0_0:Int)(l0_1:List Int)(a0_2:Int)(l1:List Int)(a2:Int):Option (Bool):=(impl_RuleValid.f k a0_0 l0_1 a0_2 a2).bind fun t802=>(if t802=true then ((impl_GridValid.f k l1 a2).bind fun t803=>(impl_RuleHolds.j0 k l1 (!t803) a0_0 l0_1 a0_2)) else (impl_RuleHolds.j0 k l1 true a0_0 l0_1 a0_2))
theorem impl_RuleHolds.calls (k:Nat)(a0_0:Int)(A0_1:Option Addr)(c0_1:Nat)(l0_1:List Int)(a0_2:Int)(A1:Option Addr)(c1:Nat)(l1:List Int)(a2:Int)(r:Bool)(w:World)(hr0_1:Kd.C (Kd.int .i64) w A0_1 l0_1.length l0_1)(hc0_1:l0_1.length≤c0_1)(hr1:Kd.C (Kd.int .i64) w A1 l1.length l1)(hc1:l1.length≤c1)(h:impl_RuleHolds.f k a0_0 l0_1 a0_2 l1 a2=some r) :
  Calls Try.prog 46 #[.agg #[.int .i64 a0_0,.slice A0_1 l0_1.length c0_1,.int .i64 a0_2],.slice A1 l1.length c1,.int .i64 a2] w fun e w'=>e= .returned (.bool r)∧Below w.heap.size w w':=by
 have hu32:=Try.underlying32
 have HR0_1:=yam hr0_1
 have HC0_1:=yam hc0_1
 clear hr0_1 hc0_1
 have HR1:=yam hr1
 have HC1:=yam hc1
 clear hr1 hc1
 have HB:=yam (Below.refl w.heap.size w)
 unfold impl_RuleHolds.f at h
 have H:=h
 clear h
 have HC4:=yam H
 clear H
 go_enter Try.func46,Try.ntmps46
 go_upto_region 1 with (first|(refine ybe 3 #[.int .i64 a0_0,.slice A0_1 l0_1.length c0_1,.int .i64 a0_2] 32 ?_;intro gb801 hg w5 hbox hb;have BK801:=yam (hbox);have GW801:=yam ((by rw [hg];exact (below_size (yez HB.out)):w.heap.size≤gb801));replace HB:=yam (below_step (yez HB.out) hb);have GE801:=GW801;clear hb hbox hg))
 (try simp only [Act.put,yps])
 go_cut [19] (fun v19 wc=>∃ (kq:Nat) (x19_3:Bool),v19= .bool x19_3∧Aside0 (impl_RuleHolds.j0 kq l1 x19_3 a0_0 l0_1 a0_2=some r)∧Aside0 (kq≤k)∧Aside0 (wc.heap[gb801]?=some (.cells #[.int .i64 a0_0,(.slice A0_1 l0_1.length c0_1),.int .i64 a0_2] 32 (0,0)))∧Aside0 (Below w.heap.size w wc))
 case first =>
  have H:=HC4.out
  clear HC4
  replace H:=ybi H;obtain ⟨t802,A6,H⟩:=H
  try dsimp only at H
  cases t802
  ·replace H:=yff H
   replace H:=yam H
   obtain ⟨hcz11_0,hcz11_1,hcz11_2,hfz11_0,hfz11_1,hfz11_2⟩:=ybc BK801.out
   go_wp2_with (first|(refine goesL_ (some 12) rfl rfl Try.func23 (by kernel_rfl) rfl #[.agg #[.int .i64 a0_0,.slice A0_1 l0_1.length c0_1,.int .i64 a0_2],.int .i64 a2] rfl ymd ?_;(with_reducible refine (impl_RuleValid.calls k a0_0 _ _ l0_1 a0_2 a2 false _ ?_ ?_ A6.out).mono ?_);exact Kd.Cz ((Kd.C_below HR0_1.out HB.out));exact HC0_1.out;rintro e w12 ⟨rfl,hb⟩;refine ⟨_,rfl,?_⟩;replace BK801:=yam (ybb BK801.out hb);replace HB:=yam (below_step yhb hb);(try clear hb)))
   go_meet
   case rel=>exact ⟨_,(true),yeq,H,⟨by first|omega|exact Nat.le_refl _⟩,⟨ybk BK801.out⟩,⟨yhb⟩⟩
  replace H:=ytt H
  replace H:=ybi H;obtain ⟨t803,A8,H⟩:=H
  try dsimp only at H
  replace H:=yam H
  obtain ⟨hcz9_0,hcz9_1,hcz9_2,hfz9_0,hfz9_1,hfz9_2⟩:=ybc BK801.out
  go_wp2_with (first|(refine goesL_ (some 12) rfl rfl Try.func23 (by kernel_rfl) rfl #[.agg #[.int .i64 a0_0,.slice A0_1 l0_1.length c0_1,.int .i64 a0_2],.int .i64 a2] rfl ymd ?_;(with_reducible refine (impl_RuleValid.calls k a0_0 _ _ l0_1 a0_2 a2 true _ ?_ ?_ A6.out).mono ?_);exact Kd.Cz ((Kd.C_below HR0_1.out HB.out));exact HC0_1.out;rintro e w10 ⟨rfl,hb⟩;refine ⟨_,rfl,?_⟩;replace BK801:=yam (ybb BK801.out hb);replace HB:=yam (below_step yhb hb);(try clear hb))|(go_at_call 60;(with_reducible refine (impl_GridValid.calls k _ _ l1 a2 t803 _ ?_ ?_ A8.out).mono ?_);exact Kd.Cz ((Kd.C_below HR1.out HB.out));exact HC1.out;rintro e w' ⟨rfl,⟨nd,rfl⟩⟩))
  go_meet
  case rel=>exact ⟨_,(!t803),yeq,H,⟨by first|omega|exact Nat.le_refl _⟩,⟨ybk BK801.out⟩,⟨yhb⟩⟩
 case rest =>
  clear HC4
  try clear c1
  obtain ⟨kq,x19_3,rfl,HA,HJ3,BK801,HB⟩:=hcut
  rcases kq with _|kj3
  ·exact absurd HA.out (by simp [impl_RuleHolds.j0])
  obtain ⟨H⟩:=HA
  simp only [impl_RuleHolds.j0] at H
  cases x19_3
  rotate_left
  ·replace H:=ytt H
   obtain rfl:=ysi H
   go_wp2
   go_ret
   exact ⟨yer,yhb⟩
  replace H:=yff H
  obtain ⟨y804,Ny804⟩:∃ y_:List Int,Aside0 (y_=(([]:List Int))):=⟨_,⟨rfl⟩⟩
  replace H:(impl_RuleHolds.l0 kj3 l1 y804 l0_1 (l0_1.length:Int) 0 a0_0 l0_1 a0_2)=some r:=yhn Ny804.out H
  replace H:=yam H
  go_wp2_with (first|((with_reducible refine gate_dst (N:=20) rfl ?_);refine Kd.R_lit (Kd.int .i64) _ 3 ?hg (N:=20) ?hd (xs:=([]:List Int)) (inner:=[]) (ok:=fun _=>True) (okp:=fun _=>True) ?hr ?hp (fun _ hk=>hk) trivial (Below.refl _ _) (Nat.le_refl _) (by simp) ?_;(case hd=>rfl);(case hg=>rfl);(case hr=>first|(go_simp;done)|(go_simp;rfl));(case hp=>exact (Reps.none _ _));intro v805 w14 ho15 hb hg_ hnew_;clear hg_ hnew_;(first|rw [← Ny804.out] at ho15|(simp only [Int.reduceToNat] at ho15;rw [← Ny804.out] at ho15));have HO806:=yam (Kd.R_lower ho15 (below_size yhb));replace BK801:=yam (ybb BK801.out hb);replace HB:=yam (below_step yhb hb);clear hb ho15;obtain ⟨hcz16_0,hcz16_1,hcz16_2,hfz16_0,hfz16_1,hfz16_2⟩:=ybc BK801.out))
  go_loopg [7,24] kj3 (fun kq v7 v24 w'=>∃ (x7_2:List Int) (x24_2:Int),v24= .int .i64 x24_2∧Aside0 (impl_RuleHolds.l0 kq l1 x7_2 l0_1 (l0_1.length:Int) x24_2 a0_0 l0_1 a0_2=some r)∧Aside0 (kq≤kj3)∧Aside0 (Kd.R (Kd.int .i64) 3 w' w.heap.size (fun _=>True) v7 x7_2)∧Aside0 (w'.heap[gb801]?=some (.cells #[.int .i64 a0_0,(.slice A0_1 l0_1.length c0_1),.int .i64 a0_2] 32 (0,0)))∧Aside0 (Below w.heap.size w w'))
  case atStart=>exact ⟨(y804),(0),yeq,H,⟨Nat.le_refl _⟩,⟨yka HO806.out⟩,⟨ybk BK801.out⟩,⟨yhb⟩⟩
  case round =>
   clear H
   try clear hcz16_0
   try clear hcz16_1
   try clear hcz16_2
   try clear hfz16_0
   try clear hfz16_1
   try clear hfz16_2
   obtain ⟨x7_2,x24_2,rfl,HA,HK2,HO_7,BK801,HB⟩:=hrel
   rcases gk with _|k2
   ·exact absurd HA.out (by simp [impl_RuleHolds.l0])
   obtain ⟨H⟩:=HA
   simp only [impl_RuleHolds.l0] at H
   replace H:=yis H;obtain ⟨c17b0,H⟩ | ⟨c17b0,H⟩:=H
   rotate_left
   ·replace H:=ybi H;obtain ⟨t813,A25,H⟩:=H
    try dsimp only at H
    obtain rfl:=ysi H
    obtain ⟨hcz26_0,hcz26_1,hcz26_2,hfz26_0,hfz26_1,hfz26_2⟩:=ybc BK801.out
    obtain ⟨Ao27,co27,eo27⟩:=Kd.R_slice HO_7.out
    subst eo27
    go_wp2_with (first|(refine goesL_ (some 43) rfl rfl Try.func82 (by kernel_rfl) rfl #[.agg #[.int .i64 a0_0,.slice A0_1 l0_1.length c0_1,.int .i64 a0_2],.slice Ao27 x7_2.length co27] rfl ymd ?_;(with_reducible refine (impl_valuesHold.calls k2 a0_0 _ _ l0_1 a0_2 _ _ x7_2 t813 _ ?_ ?_ ?_ ?_ A25.out).mono ?_);exact Kd.Cz ((Kd.C_below HR0_1.out HB.out));exact HC0_1.out;exact Kd.Cz (Kd.Yr HO_7.out).2.2;exact (Kd.Yr HO_7.out).2.1;rintro e w28 ⟨rfl,hb⟩;refine ⟨_,rfl,?_⟩;replace HO_7:=yam (Kd.R_below (Kd.Yz HO_7.out) hb);replace BK801:=yam (ybb BK801.out hb);replace HB:=yam (below_step yhb hb);(try clear hb)))
    go_ret
    exact ⟨yer,yhb⟩
   replace H:=yif H;obtain ⟨c18b0,H⟩:=H
   replace H:=yif H;obtain ⟨c19b0,H⟩:=H
   replace H:=yif H;obtain ⟨c20b0,H⟩:=H
   replace H:=yif H;obtain ⟨c21b0,H⟩:=H
   replace H:=yit H;obtain ⟨c22,H⟩ | ⟨c22,H⟩:=H
   ·have c22b0:((rd l1 (rd l0_1 x24_2)) == 0)=true:=beq_iff_eq.mpr c22
    have c22b1:((rd l1 (rd l0_1 x24_2)) != 0)=false:=bne_eq_false_iff_eq.mpr c22
    clear c22
    obtain rfl:=ysi H
    obtain ⟨ad807,e807,hx807_0,p807,q807⟩:=yat HR0_1.out x24_2
    cases e807
    replace hx807_0:=ybx HB.out hx807_0
    obtain ⟨ad808,e808,hx808_0,p808,q808⟩:=yat HR1.out (rd l0_1 x24_2)
    cases e808
    replace hx808_0:=ybx HB.out hx808_0
    go_wp2
    go_ret
    exact ⟨yer,yhb⟩
   have c22b0:((rd l1 (rd l0_1 x24_2)) == 0)=false:=beq_eq_false_iff_ne.mpr c22
   have c22b1:((rd l1 (rd l0_1 x24_2)) != 0)=true:=bne_iff_ne.mpr c22
   replace H:=yig H;obtain ⟨c23,H⟩:=H
   have LMc23:=yam c23
   clear c23
   obtain ⟨y810,Ny810⟩:∃ y_:List Int,Aside0 (y_=(x7_2 ++ [rd l1 (rd l0_1 x24_2)])):=⟨_,⟨rfl⟩⟩
   replace H:(impl_RuleHolds.l0 k2 l1 y810 l0_1 (l0_1.length:Int) (wrap64 (x24_2 + 1)) a0_0 l0_1 a0_2)=some r:=yhn Ny810.out H
   replace H:=yam H
   obtain ⟨ad807,e807,hx807_0,p807,q807⟩:=yat HR0_1.out x24_2
   cases e807
   replace hx807_0:=ybx HB.out hx807_0
   obtain ⟨ad808,e808,hx808_0,p808,q808⟩:=yat HR1.out (rd l0_1 x24_2)
   cases e808
   replace hx808_0:=ybx HB.out hx808_0
   obtain ⟨ad809,e809,hx809_0,p809,q809⟩:=yat HR1.out (rd l0_1 x24_2)
   obtain rfl:ad808=ad809:=(by injection e809)
   replace hx809_0:=ybx HB.out hx809_0
   go_wp2_with (first|((with_reducible refine gate_builtin (b:= .append) (xs:= #[.tmp 33,.tmp 38]) rfl ?_);at_builtin;refine Kd.R_append (Kd.int .i64) (w0:=w) w.heap.size rfl (.tmp 33) (.tmp 38) 23 3 (.int .i64 0) 8 rfl Try.underlying23 info3 rfl (by decide) (by omega) u7 x7_2 (rd l1 (rd l0_1 x24_2)) [.int .i64 (rd l1 (rd l0_1 x24_2))] (fun _=>True) (fun _=>False) rfl rfl ?aP (fun _ hk=>hk.elim) ?aF ?aO ?aB ?aS ?aL ?_;(case aP=>exact rfl);(case aB=>exact yhb);(case aF=>exact (fun _ _=>trivial));(case aO=>exact (Kd.Yz HO_7.out));(case aS=>exact (below_size yhb));(case aL=>have:=LMc23.out;omega);intro v811 w24 ho hb hg hat;rw [← Ny810.out] at ho;replace BK801:=yam (blk_grown (g:=gb801) (o:= .cells #[.int .i64 a0_0,.slice (some ad807) l0_1.length c0_1,.int .i64 a0_2] 32 (0,0)) (ybz BK801.out) hg (Kd.R_ne HO_7.out BK801.out (by decide)));replace HB:=yam (hb);have HO812:=yam (ho);clear HO_7;clear ho hb hg hat))
   go_roundg k2
   case measure=>have:=HJ3.out;have:=HK2.out;omega
   case rel=>exact ⟨(y810),(wrap64 (x24_2 + 1)),yeq,H,⟨by have:=HJ3.out;have:=HK2.out;omega⟩,⟨yka HO812.out⟩,⟨ybk BK801.out⟩,⟨yhb⟩⟩
mutual
def spec_l4Holds.l0:Nat→List Int→Int→Int→Bool→Int→Int→List Int→Int→Option (Bool)
 | 0,_,_,_,_,_,_,_,_=>none
 | k + 1,x1,x5,x6,x7,x8,x519000,x519001,x519002=>if x8 < (x1.length:Int) then (if 0≤x8 then (spec_l4Holds.l1 k x1 (wrap64 (x5 + (rd x1 x8))) (wrap64 (x6 * (rd x1 x8))) x7 x8 0 x519000 x519001 x519002) else (none)) else (if x519000=1 then (some x7) else (if x519000=2 then (some (x5 == x519002)) else (if x519000=3 then (some (x6 == x519002)) else (if x519000=4 then (if 0 < (x1.length:Int) then (if 1 < (x1.length:Int) then (some (decide ((rd x1 0) < (rd x1 1)))) else (none)) else (none)) else (if 0 < (x1.length:Int) then (if 1 < (x1.length:Int) then (some ((mx (wrap64 ((rd x1 0) - (rd x1 1))) (wrap64 (-(wrap64 ((rd x1 0) - (rd x1 1)))))) == x519002)) else (none)) else (none))))))
def spec_l4Holds.l1:Nat→List Int→Int→Int→Bool→Int→Int→Int→List Int→Int→Option (Bool)
 | 0,_,_,_,_,_,_,_,_,_=>none
 | k + 1,x1,x5,x6,x7,x8,x9,x519000,x519001,x519002=>if x9 < x8 then (if x7=true then (if 0≤x9 then (if x9 < (x1.length:Int) then (if 0≤x8 then (if x8 < (x1.length:Int) then (spec_l4Holds.l1 k x1 x5 x6 ((rd x1 x9) != (rd x1 x8)) x8 (wrap64 (x9 + 1)) x519000 x519001 x519002) else (none)) else (none)) else (none)) else (none)) else (spec_l4Holds.l1 k x1 x5 x6 false x8 (wrap64 (x9 + 1)) x519000 x519001 x519002)) else (spec_l4Holds.l0 k x1 x5 x6 x7 (wrap64 (x8 + 1)) x519000 x519001 x519002)
end
def spec_l4Holds.f (k:Nat)(a0_0:Int)(l0_1:List Int)(a0_2:Int)(l1:List Int):Option (Bool):=spec_l4Holds.l0 k l1 0 1 true 0 a0_0 l0_1 a0_2
theorem spec_l4Holds.calls (k:Nat)(a0_0:Int)(A0_1:Option Addr)(c0_1:Nat)(l0_1:List Int)(a0_2:Int)(A1:Option Addr)(c1:Nat)(l1:List Int)(r:Bool)(w:World)(hr0_1:Kd.C (Kd.int .i64) w A0_1 l0_1.length l0_1)(hc0_1:l0_1.length≤c0_1)(hr1:Kd.C (Kd.int .i64) w A1 l1.length l1)(hc1:l1.length≤c1)(h:spec_l4Holds.f k a0_0 l0_1 a0_2 l1=some r) :
  Calls Try.prog 83 #[.agg #[.int .i64 a0_0,.slice A0_1 l0_1.length c0_1,.int .i64 a0_2],.slice A1 l1.length c1] w fun e w'=>e= .returned (.bool r)∧Below w.heap.size w w':=by
 have hu32:=Try.underlying32
 have HR0_1:=yam hr0_1
 have HC0_1:=yam hc0_1
 clear hr0_1 hc0_1
 have HR1:=yam hr1
 have HC1:=yam hc1
 clear hr1 hc1
 have HB:=yam (Below.refl w.heap.size w)
 unfold spec_l4Holds.f at h
 have H:=h
 clear h
 replace H:=yam H
 go_enter Try.func83,Try.ntmps83
 go_wp2_with (first|(refine ybe 2 #[.int .i64 a0_0,.slice A0_1 l0_1.length c0_1,.int .i64 a0_2] 32 ?_;intro gb518 hg w3 hbox hb;have BK518:=yam (hbox);have GW518:=yam ((by rw [hg];exact (below_size (yez HB.out)):w.heap.size≤gb518));replace HB:=yam (below_step (yez HB.out) hb);have GE518:=GW518;clear hb hbox hg))
 repeat (go_quiet (first|(refine ybe 2 #[.int .i64 a0_0,.slice A0_1 l0_1.length c0_1,.int .i64 a0_2] 32 ?_;intro gb518 hg w3 hbox hb;have BK518:=yam (hbox);have GW518:=yam ((by rw [hg];exact (below_size (yez HB.out)):w.heap.size≤gb518));replace HB:=yam (below_step (yez HB.out) hb);have GE518:=GW518;clear hb hbox hg));try go_wp2_with (first|(refine ybe 2 #[.int .i64 a0_0,.slice A0_1 l0_1.length c0_1,.int .i64 a0_2] 32 ?_;intro gb518 hg w3 hbox hb;have BK518:=yam (hbox);have GW518:=yam ((by rw [hg];exact (below_size (yez HB.out)):w.heap.size≤gb518));replace HB:=yam (below_step (yez HB.out) hb);have GE518:=GW518;clear hb hbox hg)))
 go_loopg [5,6,7,8] k (fun kq v5 v6 v7 v8 w'=>∃ (x5_1:Int) (x6_1:Int) (x7_1:Bool) (x8_1:Int),v5= .int .i64 x5_1∧v6= .int .i64 x6_1∧v7= .bool x7_1∧v8= .int .i64 x8_1∧Aside0 (spec_l4Holds.l0 kq l1 x5_1 x6_1 x7_1 x8_1 a0_0 l0_1 a0_2=some r)∧Aside0 (kq≤k)∧Aside0 (w'.heap[gb518]?=some (.cells #[.int .i64 a0_0,(.slice A0_1 l0_1.length c0_1),.int .i64 a0_2] 32 (0,0)))∧Aside0 (Below w.heap.size w w'))
 case atStart=>exact ⟨(0),(1),(true),(0),yeq,yeq,yeq,yeq,H,⟨Nat.le_refl _⟩,⟨ybk BK518.out⟩,⟨yhb⟩⟩
 case round =>
  clear H
  try clear c1
  obtain ⟨x5_1,x6_1,x7_1,x8_1,rfl,rfl,rfl,rfl,HA,HK1,BK518,HB⟩:=hrel
  rcases gk with _|k1
  ·exact absurd HA.out (by simp [spec_l4Holds.l0])
  obtain ⟨H⟩:=HA
  simp only [spec_l4Holds.l0] at H
  replace H:=yis H;obtain ⟨c4b0,H⟩ | ⟨c4b0,H⟩:=H
  ·replace H:=yif H;obtain ⟨c5b0,H⟩:=H
   replace H:=yam H
   obtain ⟨ad519,e519,hx519_0,p519,q519⟩:=yat HR1.out x8_1
   cases e519
   replace hx519_0:=ybx HB.out hx519_0
   obtain ⟨ad520,e520,hx520_0,p520,q520⟩:=yat HR1.out x8_1
   obtain rfl:ad519=ad520:=(by injection e520)
   replace hx520_0:=ybx HB.out hx520_0
   go_wp2
   repeat (go_quiet (fail);try go_wp2)
   go_loopg [7,9] k1 (fun kq v7 v9 w'=>∃ (x7_2:Bool) (x9_2:Int),v7= .bool x7_2∧v9= .int .i64 x9_2∧Aside0 (spec_l4Holds.l1 kq l1 (wrap64 (x5_1 + (rd l1 x8_1))) (wrap64 (x6_1 * (rd l1 x8_1))) x7_2 x8_1 x9_2 a0_0 l0_1 a0_2=some r)∧Aside0 (kq≤k1)∧Aside0 (w'.heap[gb518]?=some (.cells #[.int .i64 a0_0,(.slice A0_1 l0_1.length c0_1),.int .i64 a0_2] 32 (0,0)))∧Aside0 (Below w.heap.size w w'))
   case atStart=>exact ⟨(x7_1),(0),yeq,yeq,H,⟨Nat.le_refl _⟩,⟨ybk BK518.out⟩,⟨yhb⟩⟩
   case round =>
    clear H
    try clear c4b0
    try clear c5b0
    try clear hx519_0
    try clear hx520_0
    try clear p519
    try clear p520
    try clear q519
    try clear q520
    obtain ⟨x7_2,x9_2,rfl,rfl,HA,HK2,BK518,HB⟩:=hrel
    rcases gk with _|k2
    ·exact absurd HA.out (by simp [spec_l4Holds.l1])
    obtain ⟨H⟩:=HA
    simp only [spec_l4Holds.l1] at H
    replace H:=yis H;obtain ⟨c6b0,H⟩ | ⟨c6b0,H⟩:=H
    rotate_left
    ·replace H:=yam H
     go_wp2
     repeat (go_quiet (fail);try go_wp2)
     go_roundg k2
     case measure=>have:=HK1.out;have:=HK2.out;omega
     case rel=>exact ⟨((wrap64 (x5_1 + (rd l1 x8_1)))),((wrap64 (x6_1 * (rd l1 x8_1)))),(x7_2),(wrap64 (x8_1 + 1)),yeq,yeq,yeq,yeq,H,⟨by have:=HK1.out;have:=HK2.out;omega⟩,⟨ybk BK518.out⟩,⟨yhb⟩⟩
    cases x7_2
    ·replace H:=yff H
     replace H:=yam H
     go_wp2
     repeat (go_quiet (fail);try go_wp2)
     go_roundg k2
     case measure=>have:=HK1.out;have:=HK2.out;omega
     case rel=>exact ⟨(false),(wrap64 (x9_2 + 1)),yeq,yeq,H,⟨by have:=HK1.out;have:=HK2.out;omega⟩,⟨ybk BK518.out⟩,⟨yhb⟩⟩
    replace H:=ytt H
    replace H:=yif H;obtain ⟨c8b0,H⟩:=H
    replace H:=yif H;obtain ⟨c9b0,H⟩:=H
    replace H:=yif H;obtain ⟨c10b0,H⟩:=H
    replace H:=yif H;obtain ⟨c11b0,H⟩:=H
    replace H:=yam H
    obtain ⟨ad521,e521,hx521_0,p521,q521⟩:=yat HR1.out x9_2
    obtain rfl:ad519=ad521:=(by injection e521)
    replace hx521_0:=ybx HB.out hx521_0
    obtain ⟨ad522,e522,hx522_0,p522,q522⟩:=yat HR1.out x8_1
    obtain rfl:ad519=ad522:=(by injection e522)
    replace hx522_0:=ybx HB.out hx522_0
    go_wp2
    repeat (go_quiet (fail);try go_wp2)
    go_roundg k2
    case measure=>have:=HK1.out;have:=HK2.out;omega
    case rel=>exact ⟨(((rd l1 x9_2) != (rd l1 x8_1))),(wrap64 (x9_2 + 1)),yeq,yeq,H,⟨by have:=HK1.out;have:=HK2.out;omega⟩,⟨ybk BK518.out⟩,⟨yhb⟩⟩
  replace H:=yit H;obtain ⟨c12,H⟩ | ⟨c12,H⟩:=H
  ·have c12b0:(a0_0 == 1)=true:=beq_iff_eq.mpr c12
   have c12b1:(a0_0 != 1)=false:=bne_eq_false_iff_eq.mpr c12
   clear c12
   obtain rfl:=ysi H
   obtain ⟨hcz13_0,hcz13_1,hcz13_2,hfz13_0,hfz13_1,hfz13_2⟩:=ybc BK518.out
   go_wp2
   repeat (go_quiet (fail);try go_wp2)
   go_ret
   exact ⟨yer,yhb⟩
  have c12b0:(a0_0 == 1)=false:=beq_eq_false_iff_ne.mpr c12
  have c12b1:(a0_0 != 1)=true:=bne_iff_ne.mpr c12
  replace H:=yit H;obtain ⟨c14,H⟩ | ⟨c14,H⟩:=H
  ·have c14b0:(a0_0 == 2)=true:=beq_iff_eq.mpr c14
   have c14b1:(a0_0 != 2)=false:=bne_eq_false_iff_eq.mpr c14
   clear c14
   obtain rfl:=ysi H
   obtain ⟨hcz15_0,hcz15_1,hcz15_2,hfz15_0,hfz15_1,hfz15_2⟩:=ybc BK518.out
   go_wp2
   repeat (go_quiet (fail);try go_wp2)
   go_ret
   exact ⟨yer,yhb⟩
  have c14b0:(a0_0 == 2)=false:=beq_eq_false_iff_ne.mpr c14
  have c14b1:(a0_0 != 2)=true:=bne_iff_ne.mpr c14
  replace H:=yit H;obtain ⟨c16,H⟩ | ⟨c16,H⟩:=H
  ·have c16b0:(a0_0 == 3)=true:=beq_iff_eq.mpr c16
   have c16b1:(a0_0 != 3)=false:=bne_eq_false_iff_eq.mpr c16
   clear c16
   obtain rfl:=ysi H
   obtain ⟨hcz17_0,hcz17_1,hcz17_2,hfz17_0,hfz17_1,hfz17_2⟩:=ybc BK518.out
   go_wp2
   repeat (go_quiet (fail);try go_wp2)
   go_ret
   exact ⟨yer,yhb⟩
  have c16b0:(a0_0 == 3)=false:=beq_eq_false_iff_ne.mpr c16
  have c16b1:(a0_0 != 3)=true:=bne_iff_ne.mpr c16
  replace H:=yit H;obtain ⟨c18,H⟩ | ⟨c18,H⟩:=H
  ·have c18b0:(a0_0 == 4)=true:=beq_iff_eq.mpr c18
   have c18b1:(a0_0 != 4)=false:=bne_eq_false_iff_eq.mpr c18
   clear c18
   replace H:=yig H;obtain ⟨c19,H⟩:=H
   have c19b0:decide (0 < (l1.length:Int))=true:=decide_eq_true c19
   have c19b1:decide (0 < l1.length)=true:=decide_eq_true (by omega)
   clear c19
   replace H:=yig H;obtain ⟨c20,H⟩:=H
   have c20b0:decide (1 < (l1.length:Int))=true:=decide_eq_true c20
   have c20b1:decide (1 < l1.length)=true:=decide_eq_true (by omega)
   clear c20
   obtain rfl:=ysi H
   obtain ⟨hcz21_0,hcz21_1,hcz21_2,hfz21_0,hfz21_1,hfz21_2⟩:=ybc BK518.out
   have p523:0≤(0:Int):=(by omega)
   have q523:0 < (l1.length:Int):=ydt
   obtain ⟨ad523,e523,hx523_0⟩:=Kd.at_int HR1.out 0 p523 q523
   cases e523
   have qi523:(0 < l1.length)=True:=eq_true (by omega)
   (try rw [show ((0:Int)).toNat=0 from rfl] at hx523_0)
   (try rw [Addr.add_zero'] at hx523_0)
   replace hx523_0:=ybx HB.out hx523_0
   replace p523:=eq_true p523
   replace q523:=eq_true q523
   have p524:0≤(1:Int):=(by omega)
   have q524:1 < (l1.length:Int):=ydt
   obtain ⟨ad524,e524,hx524_0⟩:=Kd.at_int HR1.out 1 p524 q524
   obtain rfl:ad523=ad524:=(by injection e524)
   (try simp only [show (1:Int).toNat=1 from rfl,Nat.reduceMul,Nat.reduceEqDiff,Go.Addr.add,↓reduceIte] at hx524_0)
   have qi524:(1 < l1.length)=True:=eq_true (by omega)
   (try rw [show ((1:Int)).toNat=1 from rfl] at hx524_0)
   replace hx524_0:=ybx HB.out hx524_0
   replace p524:=eq_true p524
   replace q524:=eq_true q524
   go_wp2
   repeat (go_quiet (fail);try go_wp2)
   go_ret
   exact ⟨yer,yhb⟩
  have c18b0:(a0_0 == 4)=false:=beq_eq_false_iff_ne.mpr c18
  have c18b1:(a0_0 != 4)=true:=bne_iff_ne.mpr c18
  replace H:=yit H;obtain ⟨c22,H⟩ | ⟨c22,H⟩:=H
  rotate_left
  ·exact absurd H (by simp)
  have c22b0:decide (0 < (l1.length:Int))=true:=decide_eq_true c22
  have c22b1:decide (0 < l1.length)=true:=decide_eq_true (by omega)
  clear c22
  replace H:=yig H;obtain ⟨c23,H⟩:=H
  have c23b0:decide (1 < (l1.length:Int))=true:=decide_eq_true c23
  have c23b1:decide (1 < l1.length)=true:=decide_eq_true (by omega)
  clear c23
  obtain ⟨ji24,hji24⟩:∃ j_:Int,(mx (wrap64 ((rd l1 0) - (rd l1 1))) (wrap64 (-(wrap64 ((rd l1 0) - (rd l1 1))))))=j_:=⟨_,rfl⟩
  replace H:(some ((ji24) == a0_2))=some r:=by first|(rw [hji24] at H;exact H)|(simp only [hji24] at H ⊢;exact H)
  have hji24_:(if (wrap64 ((rd l1 0) - (rd l1 1))) < (wrap64 (-(wrap64 ((rd l1 0) - (rd l1 1))))) then (wrap64 (-(wrap64 ((rd l1 0) - (rd l1 1))))) else (wrap64 ((rd l1 0) - (rd l1 1))))=ji24:=hji24
  obtain rfl:=ysi H
  obtain ⟨hcz25_0,hcz25_1,hcz25_2,hfz25_0,hfz25_1,hfz25_2⟩:=ybc BK518.out
  have p525:0≤(0:Int):=(by omega)
  have q525:0 < (l1.length:Int):=ydt
  obtain ⟨ad525,e525,hx525_0⟩:=Kd.at_int HR1.out 0 p525 q525
  cases e525
  have qi525:(0 < l1.length)=True:=eq_true (by omega)
  (try rw [show ((0:Int)).toNat=0 from rfl] at hx525_0)
  (try rw [Addr.add_zero'] at hx525_0)
  replace hx525_0:=ybx HB.out hx525_0
  replace p525:=eq_true p525
  replace q525:=eq_true q525
  have p526:0≤(1:Int):=(by omega)
  have q526:1 < (l1.length:Int):=ydt
  obtain ⟨ad526,e526,hx526_0⟩:=Kd.at_int HR1.out 1 p526 q526
  obtain rfl:ad525=ad526:=(by injection e526)
  (try simp only [show (1:Int).toNat=1 from rfl,Nat.reduceMul,Nat.reduceEqDiff,Go.Addr.add,↓reduceIte] at hx526_0)
  have qi526:(1 < l1.length)=True:=eq_true (by omega)
  (try rw [show ((1:Int)).toNat=1 from rfl] at hx526_0)
  replace hx526_0:=ybx HB.out hx526_0
  replace p526:=eq_true p526
  replace q526:=eq_true q526
  go_wp2
  repeat (go_quiet (fail);try go_wp2)
  go_ret
  exact ⟨by first|rfl|(simp [errW_none,errW_some] <;> rfl)|(simp only [← hji24];first|rfl|(simp [errW_none,errW_some] <;> rfl))|(simp [*,errW_none,errW_some] <;> rfl),yhb⟩
mutual
def spec_RuleHolds.j0:Nat→List Int→Bool→Int→List Int→Int→Option (Bool)
 | 0,_,_,_,_,_=>none
 | k + 1,x1,x18,x815000,x815001,x815002=>if x18=true then (some false) else (spec_RuleHolds.l0 k x1 (([]:List Int)) 0 x815000 x815001 x815002)
def spec_RuleHolds.l0:Nat→List Int→List Int→Int→Int→List Int→Int→Option (Bool)
 | 0,_,_,_,_,_,_=>none
 | k + 1,x1,x7,x8,x815000,x815001,x815002=>if x8 < (x815001.length:Int) then (if 0≤x8 then (if 0≤(rd x815001 x8) then (if (rd x815001 x8) < (x1.length:Int) then (if (rd x1 (rd x815001 x8))=0 then (some false) else (if x7.length < 17592186044416 then (spec_RuleHolds.l0 k x1 (x7 ++ [rd x1 (rd x815001 x8)]) (wrap64 (x8 + 1)) x815000 x815001 x815002) else (none))) else (none)) else (none)) else (none)) else ((spec_l4Holds.f k x815000 x815001 x815002 x7).bind fun t827=>(some t827))
end
def spec_RuleHolds.f (k:Nat)(a0_0:Int)(l0_1:List Int)(a0_2:Int)(l1:List Int)(a2:Int):Option (Bool):=(spec_RuleValid.f k a0_0 l0_1 a0_2 a2).bind fun t815=>(if t815=true then ((spec_GridValid.f k l1 a2).bind fun t816=>(spec_RuleHolds.j0 k l1 (!t816) a0_0 l0_1 a0_2)) else (spec_RuleHolds.j0 k l1 true a0_0 l0_1 a0_2))
theorem spec_RuleHolds.calls (k:Nat)(a0_0:Int)(A0_1:Option Addr)(c0_1:Nat)(l0_1:List Int)(a0_2:Int)(A1:Option Addr)(c1:Nat)(l1:List Int)(a2:Int)(r:Bool)(w:World)(hr0_1:Kd.C (Kd.int .i64) w A0_1 l0_1.length l0_1)(hc0_1:l0_1.length≤c0_1)(hr1:Kd.C (Kd.int .i64) w A1 l1.length l1)(hc1:l1.length≤c1)(h:spec_RuleHolds.f k a0_0 l0_1 a0_2 l1 a2=some r) :
  Calls Try.prog 47 #[.agg #[.int .i64 a0_0,.slice A0_1 l0_1.length c0_1,.int .i64 a0_2],.slice A1 l1.length c1,.int .i64 a2] w fun e w'=>e= .returned (.bool r)∧Below w.heap.size w w':=by
 have hu32:=Try.underlying32
 have HR0_1:=yam hr0_1
 have HC0_1:=yam hc0_1
 clear hr0_1 hc0_1
 have HR1:=yam hr1
 have HC1:=yam hc1
 clear hr1 hc1
 have HB:=yam (Below.refl w.heap.size w)
 unfold spec_RuleHolds.f at h
 have H:=h
 clear h
 have HC4:=yam H
 clear H
 go_enter Try.func47,Try.ntmps47
 go_upto_region 1 with (first|(refine ybe 3 #[.int .i64 a0_0,.slice A0_1 l0_1.length c0_1,.int .i64 a0_2] 32 ?_;intro gb814 hg w5 hbox hb;have BK814:=yam (hbox);have GW814:=yam ((by rw [hg];exact (below_size (yez HB.out)):w.heap.size≤gb814));replace HB:=yam (below_step (yez HB.out) hb);have GE814:=GW814;clear hb hbox hg))
 (try simp only [Act.put,yps])
 go_cut [18] (fun v18 wc=>∃ (kq:Nat) (x18_3:Bool),v18= .bool x18_3∧Aside0 (spec_RuleHolds.j0 kq l1 x18_3 a0_0 l0_1 a0_2=some r)∧Aside0 (kq≤k)∧Aside0 (wc.heap[gb814]?=some (.cells #[.int .i64 a0_0,(.slice A0_1 l0_1.length c0_1),.int .i64 a0_2] 32 (0,0)))∧Aside0 (Below w.heap.size w wc))
 case first =>
  have H:=HC4.out
  clear HC4
  replace H:=ybi H;obtain ⟨t815,A6,H⟩:=H
  try dsimp only at H
  cases t815
  ·replace H:=yff H
   replace H:=yam H
   obtain ⟨hcz11_0,hcz11_1,hcz11_2,hfz11_0,hfz11_1,hfz11_2⟩:=ybc BK814.out
   go_wp2_with (first|(refine goesL_ (some 11) rfl rfl Try.func24 (by kernel_rfl) rfl #[.agg #[.int .i64 a0_0,.slice A0_1 l0_1.length c0_1,.int .i64 a0_2],.int .i64 a2] rfl ymd ?_;(with_reducible refine (spec_RuleValid.calls k a0_0 _ _ l0_1 a0_2 a2 false _ ?_ ?_ A6.out).mono ?_);exact Kd.Cz ((Kd.C_below HR0_1.out HB.out));exact HC0_1.out;rintro e w12 ⟨rfl,hb⟩;refine ⟨_,rfl,?_⟩;replace BK814:=yam (ybb BK814.out hb);replace HB:=yam (below_step yhb hb);(try clear hb)))
   go_meet
   case rel=>exact ⟨_,(true),yeq,H,⟨by first|omega|exact Nat.le_refl _⟩,⟨ybk BK814.out⟩,⟨yhb⟩⟩
  replace H:=ytt H
  replace H:=ybi H;obtain ⟨t816,A8,H⟩:=H
  try dsimp only at H
  replace H:=yam H
  obtain ⟨hcz9_0,hcz9_1,hcz9_2,hfz9_0,hfz9_1,hfz9_2⟩:=ybc BK814.out
  go_wp2_with (first|(refine goesL_ (some 11) rfl rfl Try.func24 (by kernel_rfl) rfl #[.agg #[.int .i64 a0_0,.slice A0_1 l0_1.length c0_1,.int .i64 a0_2],.int .i64 a2] rfl ymd ?_;(with_reducible refine (spec_RuleValid.calls k a0_0 _ _ l0_1 a0_2 a2 true _ ?_ ?_ A6.out).mono ?_);exact Kd.Cz ((Kd.C_below HR0_1.out HB.out));exact HC0_1.out;rintro e w10 ⟨rfl,hb⟩;refine ⟨_,rfl,?_⟩;replace BK814:=yam (ybb BK814.out hb);replace HB:=yam (below_step yhb hb);(try clear hb))|(go_at_call 49;(with_reducible refine (spec_GridValid.calls k _ _ l1 a2 t816 _ ?_ ?_ A8.out).mono ?_);exact Kd.Cz ((Kd.C_below HR1.out HB.out));exact HC1.out;rintro e w' ⟨rfl,⟨nd,rfl⟩⟩))
  go_meet
  case rel=>exact ⟨_,(!t816),yeq,H,⟨by first|omega|exact Nat.le_refl _⟩,⟨ybk BK814.out⟩,⟨yhb⟩⟩
 case rest =>
  clear HC4
  try clear c1
  obtain ⟨kq,x18_3,rfl,HA,HJ3,BK814,HB⟩:=hcut
  rcases kq with _|kj3
  ·exact absurd HA.out (by simp [spec_RuleHolds.j0])
  obtain ⟨H⟩:=HA
  simp only [spec_RuleHolds.j0] at H
  cases x18_3
  rotate_left
  ·replace H:=ytt H
   obtain rfl:=ysi H
   go_wp2
   go_ret
   exact ⟨yer,yhb⟩
  replace H:=yff H
  obtain ⟨y817,Ny817⟩:∃ y_:List Int,Aside0 (y_=(([]:List Int))):=⟨_,⟨rfl⟩⟩
  replace H:(spec_RuleHolds.l0 kj3 l1 y817 0 a0_0 l0_1 a0_2)=some r:=yhn Ny817.out H
  replace H:=yam H
  go_wp2_with (first|((with_reducible refine gate_dst (N:=19) rfl ?_);refine Kd.R_lit (Kd.int .i64) _ 3 ?hg (N:=19) ?hd (xs:=([]:List Int)) (inner:=[]) (ok:=fun _=>True) (okp:=fun _=>True) ?hr ?hp (fun _ hk=>hk) trivial (Below.refl _ _) (Nat.le_refl _) (by simp) ?_;(case hd=>rfl);(case hg=>rfl);(case hr=>first|(go_simp;done)|(go_simp;rfl));(case hp=>exact (Reps.none _ _));intro v818 w14 ho15 hb hg_ hnew_;clear hg_ hnew_;(first|rw [← Ny817.out] at ho15|(simp only [Int.reduceToNat] at ho15;rw [← Ny817.out] at ho15));have HO819:=yam (Kd.R_lower ho15 (below_size yhb));replace BK814:=yam (ybb BK814.out hb);replace HB:=yam (below_step yhb hb);clear hb ho15))
  go_loopg [7,8] kj3 (fun kq v7 v8 w'=>∃ (x7_2:List Int) (x8_2:Int),v8= .int .i64 x8_2∧Aside0 (spec_RuleHolds.l0 kq l1 x7_2 x8_2 a0_0 l0_1 a0_2=some r)∧Aside0 (kq≤kj3)∧Aside0 (Kd.R (Kd.int .i64) 3 w' w.heap.size (fun _=>True) v7 x7_2)∧Aside0 (w'.heap[gb814]?=some (.cells #[.int .i64 a0_0,(.slice A0_1 l0_1.length c0_1),.int .i64 a0_2] 32 (0,0)))∧Aside0 (Below w.heap.size w w'))
  case atStart=>exact ⟨(y817),(0),yeq,H,⟨Nat.le_refl _⟩,⟨yka HO819.out⟩,⟨ybk BK814.out⟩,⟨yhb⟩⟩
  case round =>
   clear H
   obtain ⟨x7_2,x8_2,rfl,HA,HK2,HO_7,BK814,HB⟩:=hrel
   rcases gk with _|k2
   ·exact absurd HA.out (by simp [spec_RuleHolds.l0])
   obtain ⟨H⟩:=HA
   simp only [spec_RuleHolds.l0] at H
   replace H:=yis H;obtain ⟨c16b0,H⟩ | ⟨c16b0,H⟩:=H
   rotate_left
   ·replace H:=ybi H;obtain ⟨t827,A25,H⟩:=H
    try dsimp only at H
    obtain rfl:=ysi H
    obtain ⟨hcz26_0,hcz26_1,hcz26_2,hfz26_0,hfz26_1,hfz26_2⟩:=ybc BK814.out
    obtain ⟨Ao27,co27,eo27⟩:=Kd.R_slice HO_7.out
    subst eo27
    go_wp2_with (first|(refine goesL_ (some 49) rfl rfl Try.func83 (by kernel_rfl) rfl #[.agg #[.int .i64 a0_0,.slice A0_1 l0_1.length c0_1,.int .i64 a0_2],.slice Ao27 x7_2.length co27] rfl ymd ?_;(with_reducible refine (spec_l4Holds.calls k2 a0_0 _ _ l0_1 a0_2 _ _ x7_2 t827 _ ?_ ?_ ?_ ?_ A25.out).mono ?_);exact Kd.Cz ((Kd.C_below HR0_1.out HB.out));exact HC0_1.out;exact Kd.Cz (Kd.Yr HO_7.out).2.2;exact (Kd.Yr HO_7.out).2.1;rintro e w28 ⟨rfl,hb⟩;refine ⟨_,rfl,?_⟩;replace HO_7:=yam (Kd.R_below (Kd.Yz HO_7.out) hb);replace BK814:=yam (ybb BK814.out hb);replace HB:=yam (below_step yhb hb);(try clear hb)))
    go_ret
    exact ⟨yer,yhb⟩
   replace H:=yif H;obtain ⟨c17b0,H⟩:=H
   replace H:=yif H;obtain ⟨c18b0,H⟩:=H
   replace H:=yif H;obtain ⟨c19b0,H⟩:=H
   replace H:=yit H;obtain ⟨c20,H⟩ | ⟨c20,H⟩:=H
   ·have c20b0:((rd l1 (rd l0_1 x8_2)) == 0)=true:=beq_iff_eq.mpr c20
    have c20b1:((rd l1 (rd l0_1 x8_2)) != 0)=false:=bne_eq_false_iff_eq.mpr c20
    clear c20
    obtain rfl:=ysi H
    obtain ⟨hcz21_0,hcz21_1,hcz21_2,hfz21_0,hfz21_1,hfz21_2⟩:=ybc BK814.out
    obtain ⟨ad820,e820,hx820_0,p820,q820⟩:=yat HR0_1.out x8_2
    cases e820
    replace hx820_0:=ybx HB.out hx820_0
    obtain ⟨ad821,e821,hx821_0,p821,q821⟩:=yat HR1.out (rd l0_1 x8_2)
    cases e821
    replace hx821_0:=ybx HB.out hx821_0
    go_wp2
    go_ret
    exact ⟨yer,yhb⟩
   have c20b0:((rd l1 (rd l0_1 x8_2)) == 0)=false:=beq_eq_false_iff_ne.mpr c20
   have c20b1:((rd l1 (rd l0_1 x8_2)) != 0)=true:=bne_iff_ne.mpr c20
   replace H:=yig H;obtain ⟨c22,H⟩:=H
   have LMc22:=yam c22
   clear c22
   obtain ⟨y824,Ny824⟩:∃ y_:List Int,Aside0 (y_=(x7_2 ++ [rd l1 (rd l0_1 x8_2)])):=⟨_,⟨rfl⟩⟩
   replace H:(spec_RuleHolds.l0 k2 l1 y824 (wrap64 (x8_2 + 1)) a0_0 l0_1 a0_2)=some r:=yhn Ny824.out H
   replace H:=yam H
   obtain ⟨hcz23_0,hcz23_1,hcz23_2,hfz23_0,hfz23_1,hfz23_2⟩:=ybc BK814.out
   obtain ⟨ad820,e820,hx820_0,p820,q820⟩:=yat HR0_1.out x8_2
   cases e820
   replace hx820_0:=ybx HB.out hx820_0
   obtain ⟨ad821,e821,hx821_0,p821,q821⟩:=yat HR1.out (rd l0_1 x8_2)
   cases e821
   replace hx821_0:=ybx HB.out hx821_0
   obtain ⟨ad822,e822,hx822_0,p822,q822⟩:=yat HR0_1.out x8_2
   obtain rfl:ad820=ad822:=(by injection e822)
   replace hx822_0:=ybx HB.out hx822_0
   obtain ⟨ad823,e823,hx823_0,p823,q823⟩:=yat HR1.out (rd l0_1 x8_2)
   obtain rfl:ad821=ad823:=(by injection e823)
   replace hx823_0:=ybx HB.out hx823_0
   go_wp2_with (first|((with_reducible refine gate_builtin (b:= .append) (xs:= #[.tmp 36,.tmp 45]) rfl ?_);at_builtin;refine Kd.R_append (Kd.int .i64) (w0:=w) w.heap.size rfl (.tmp 36) (.tmp 45) 23 3 (.int .i64 0) 8 rfl Try.underlying23 info3 rfl (by decide) (by omega) u7 x7_2 (rd l1 (rd l0_1 x8_2)) [.int .i64 (rd l1 (rd l0_1 x8_2))] (fun _=>True) (fun _=>False) rfl rfl ?aP (fun _ hk=>hk.elim) ?aF ?aO ?aB ?aS ?aL ?_;(case aP=>exact rfl);(case aB=>exact yhb);(case aF=>exact (fun _ _=>trivial));(case aO=>exact (Kd.Yz HO_7.out));(case aS=>exact (below_size yhb));(case aL=>have:=LMc22.out;omega);intro v825 w24 ho hb hg hat;rw [← Ny824.out] at ho;replace BK814:=yam (blk_grown (g:=gb814) (o:= .cells #[.int .i64 a0_0,.slice (some ad820) l0_1.length c0_1,.int .i64 a0_2] 32 (0,0)) (ybz BK814.out) hg (Kd.R_ne HO_7.out BK814.out (by decide)));replace HB:=yam (hb);have HO826:=yam (ho);clear HO_7;clear ho hb hg hat))
   go_roundg k2
   case measure=>have:=HJ3.out;have:=HK2.out;omega
   case rel=>exact ⟨(y824),(wrap64 (x8_2 + 1)),yeq,H,⟨by have:=HJ3.out;have:=HK2.out;omega⟩,⟨yka HO826.out⟩,⟨ybk BK814.out⟩,⟨yhb⟩⟩
end Go.Proofs.Ythfbjkniinfgcaa.P
