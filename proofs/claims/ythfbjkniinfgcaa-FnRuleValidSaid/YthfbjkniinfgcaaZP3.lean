/- The machine's side: each Go function as a plain Lean function and the proof that the machine's call does what that function says; written by this session's own program over the kit's print. -/
import Derived.Test.YthfbjkniinfgcaaZP1
import Derived.Test.YthfbjkniinfgcaaZP2
namespace Go.Proofs.Ythfbjkniinfgcaa.P
set_option maxHeartbeats 8000000
set_option maxRecDepth 100000
open Go.RowKit Go.Proofs.YthfbjkniinfgcaaW.PrintWords Go.Proofs.YthfbjkniinfgcaaW.PrintLast Go.Proofs.YthfbjkniinfgcaaW.PrintMore
attribute [local go_sem] max2_int min2_int max_two min_two max_three min_three max_four min_four   -- for this text's walks alone
set_option linter.unusedVariables false
set_option linter.unusedSimpArgs false
def spec_DrawRuleValid.f (k:Nat)(l0:List Int):Option (Int × List Int × Int × Int):=(spec_l20Open.f l0).bind fun bt369=>((spec_l20Size.f k bt369.1 bt369.2 0).bind fun bt372=>((spec_l20Solved.f k bt369.1 bt372.2 bt372.1).bind fun bt374=>((spec_l20Rule.f k bt369.1 bt374.2 bt374.1 bt372.1 2).bind fun bt378=>((spec_l20Rd_odd.f k bt369.1 bt378.2.2.2 9).bind fun bt385=>(if bt385.1=true then ((spec_l20Size.f k bt369.1 bt385.2 1).bind fun bt387=>(some (bt378.1,bt378.2.1,bt378.2.2.1,bt387.1))) else (some (bt378.1,bt378.2.1,bt378.2.2.1,bt372.1)))))))
theorem spec_DrawRuleValid.calls (k:Nat)(A0:Option Addr)(c0:Nat)(l0:List Int)(r1:Int)(r2:List Int)(r3:Int)(r4:Int)(w:World)(hr0:Kd.C (Kd.int .u8) w A0 l0.length l0)(hc0:l0.length≤c0)(h:spec_DrawRuleValid.f k l0=some (r1,r2,r3,r4)) :
  Calls Try.prog 22 #[.slice A0 l0.length c0] w fun e w'=>∃ v1_:Value,e= .returned (.tuple #[.agg #[.int .i64 r1,v1_,.int .i64 r3],.int .i64 r4])∧Kd.R (Kd.int .i64) 3 w' w.heap.size (fun _=>True) v1_ r2∧Below w.heap.size w w':=by
 have hu32:=Try.underlying32
 have HR0:=yam hr0
 have HC0:=yam hc0
 clear hr0 hc0
 have HB:=yam (Below.refl w.heap.size w)
 unfold spec_DrawRuleValid.f at h
 have H:=h
 clear h
 replace H:=ybi H;obtain ⟨⟨t369,t370⟩,A2,H⟩:=H
 replace H:((spec_l20Size.f k t369 t370 0).bind fun bt372=>((spec_l20Solved.f k t369 bt372.2 bt372.1).bind fun bt374=>((spec_l20Rule.f k t369 bt374.2 bt374.1 bt372.1 2).bind fun bt378=>((spec_l20Rd_odd.f k t369 bt378.2.2.2 9).bind fun bt385=>(if bt385.1=true then ((spec_l20Size.f k t369 bt385.2 1).bind fun bt387=>(some (bt378.1,bt378.2.1,bt378.2.2.1,bt387.1))) else (some (bt378.1,bt378.2.1,bt378.2.2.1,bt372.1)))))))=some (r1,r2,r3,r4):=H
 replace H:=ybi H;obtain ⟨⟨t372,t373⟩,A3,H⟩:=H
 replace H:((spec_l20Solved.f k t369 t373 t372).bind fun bt374=>((spec_l20Rule.f k t369 bt374.2 bt374.1 t372 2).bind fun bt378=>((spec_l20Rd_odd.f k t369 bt378.2.2.2 9).bind fun bt385=>(if bt385.1=true then ((spec_l20Size.f k t369 bt385.2 1).bind fun bt387=>(some (bt378.1,bt378.2.1,bt378.2.2.1,bt387.1))) else (some (bt378.1,bt378.2.1,bt378.2.2.1,t372))))))=some (r1,r2,r3,r4):=H
 replace H:=ybi H;obtain ⟨⟨t374,t377⟩,A4,H⟩:=H
 replace H:((spec_l20Rule.f k t369 t377 t374 t372 2).bind fun bt378=>((spec_l20Rd_odd.f k t369 bt378.2.2.2 9).bind fun bt385=>(if bt385.1=true then ((spec_l20Size.f k t369 bt385.2 1).bind fun bt387=>(some (bt378.1,bt378.2.1,bt378.2.2.1,bt387.1))) else (some (bt378.1,bt378.2.1,bt378.2.2.1,t372)))))=some (r1,r2,r3,r4):=H
 replace H:=ybi H;obtain ⟨⟨t378,t379,t382,t383⟩,A5,H⟩:=H
 replace H:((spec_l20Rd_odd.f k t369 t383 9).bind fun bt385=>(if bt385.1=true then ((spec_l20Size.f k t369 bt385.2 1).bind fun bt387=>(some (t378,t379,t382,bt387.1))) else (some (t378,t379,t382,t372))))=some (r1,r2,r3,r4):=H
 replace H:=ybi H;obtain ⟨⟨t385,t386⟩,A6,H⟩:=H
 replace H:(if t385=true then ((spec_l20Size.f k t369 t386 1).bind fun bt387=>(some (t378,t379,t382,bt387.1))) else (some (t378,t379,t382,t372)))=some (r1,r2,r3,r4):=H
 cases t385
 ·replace H:=yff H
  simp only [Option.some.injEq,Prod.mk.injEq] at H
  obtain ⟨rfl,rfl,rfl,rfl⟩:=H
  go_enter Try.func22,Try.ntmps22
  go_wp2_with (first|(refine ybe 2 #[.int .i64 0,.slice none 0 0,.int .i64 0] 32 ?_;intro gb368 hg w25 hbox hb;have BK368:=yam (hbox);have GW368:=yam ((by rw [hg];exact (below_size (yez HB.out)):w.heap.size≤gb368));replace HB:=yam (below_step (yez HB.out) hb);have GE368:=GW368;clear hb hbox hg)|(refine goesL_ (some 8) rfl rfl Try.func59 (by kernel_rfl) rfl #[.slice A0 l0.length c0] rfl ymd ?_;(with_reducible refine (spec_l20Open.calls _ _ l0 t369 t370 w _ ?side1 ?side2 ?side3 A2.out).mono ?_);(case side1=>repeat (first|(with_reducible first|exact HB.out|apply yea|apply yen|apply yed|refine below_set ?_ GE368.out)|exact HB.out));(case side2=>exact HR0.out);(case side3=>exact HC0.out);rintro e w26 ⟨g371,rfl,hi,hb,hb2⟩;refine ⟨_,rfl,?_⟩;replace HB:=yam (hb);have HI371:=yam (hi);have NB371_368:=yam (IsS86.ne_blk hi (blk_below (g:=gb368) (o:= .cells #[.int .i64 0,.slice none 0 0,.int .i64 0] 32 (0,0)) (ybz BK368.out) hb2) (by decide));have NB368_371:=yam (Ne.symm (IsS86.ne_blk hi (blk_below (g:=gb368) (o:= .cells #[.int .i64 0,.slice none 0 0,.int .i64 0] 32 (0,0)) (ybz BK368.out) hb2) (by decide)));replace BK368:=yam (blk_below (g:=gb368) (o:= .cells #[.int .i64 0,.slice none 0 0,.int .i64 0] 32 (0,0)) (ybz BK368.out) hb2);(try clear hb);(try clear hb2);(try clear hi))|(refine goesL_ (some 10) rfl rfl Try.func65 (by kernel_rfl) rfl #[.pointer (some ⟨g371,0,none⟩),.int .i64 0] rfl ymd ?_;(with_reducible refine (spec_l20Size.calls k g371 t369 t370 0 t372 t373 w _ ?side1 ?side2 A3.out).mono ?_);(case side1=>repeat (first|(with_reducible first|exact HI371.out|apply IsS86.alloc|apply IsS86.drewN|apply IsS86.drew|apply IsS86.set_1|refine IsS86.far ?_ NB371_368.out _)|exact HI371.out));(case side2=>repeat (first|(with_reducible first|exact HB.out|apply yea|apply yen|apply yed|refine below_set ?_ (IsS86.ge HI371.out)|refine below_set ?_ GE368.out)|exact HB.out));rintro e w27 ⟨rfl,hi,hb,hk⟩;refine ⟨_,rfl,?_⟩;replace BK368:=yam (KeepBut.blk hk (g':=gb368) (o:= .cells #[.int .i64 0,.slice none 0 0,.int .i64 0] 32 (0,0)) (ybz BK368.out) NB368_371.out (by simp));replace HB:=yam (hb);replace HI371:=yam (hi);(try clear hb);(try clear hk);(try clear hi))|(refine goesL_ (some 14) rfl rfl Try.func67 (by kernel_rfl) rfl #[.pointer (some ⟨g371,0,none⟩),.int .i64 t372] rfl ymd ?_;(with_reducible refine (spec_l20Solved.calls k g371 t369 t373 t372 t374 t377 w _ ?side1 ?side2 A4.out).mono ?_);(case side1=>repeat (first|(with_reducible first|exact HI371.out|apply IsS86.alloc|apply IsS86.drewN|apply IsS86.drew|apply IsS86.set_1|refine IsS86.far ?_ NB371_368.out _)|exact HI371.out));(case side2=>repeat (first|(with_reducible first|exact HB.out|apply yea|apply yen|apply yed|refine below_set ?_ (IsS86.ge HI371.out)|refine below_set ?_ GE368.out)|exact HB.out));rintro e w28 ⟨v375,rfl,ho0,hi,hb,hk⟩;refine ⟨_,rfl,?_⟩;replace BK368:=yam (KeepBut.blk hk (g':=gb368) (o:= .cells #[.int .i64 0,.slice none 0 0,.int .i64 0] 32 (0,0)) (ybz BK368.out) NB368_371.out (by simp));have HO376:=yam (Kd.R_lower ho0 (below_size (by repeat (first|(with_reducible first|exact HB.out|apply yea|apply yen|apply yed|refine below_set ?_ (IsS86.ge HI371.out)|refine below_set ?_ GE368.out)|exact HB.out))));replace HB:=yam (hb);replace HI371:=yam (hi);(try clear hb);(try clear hk);(try clear hi);(try clear ho0);obtain ⟨Ao29,co29,eo29⟩:=Kd.R_slice HO376.out;subst eo29)|(refine goesL_ (some 16) rfl rfl Try.func66 (by kernel_rfl) rfl #[.pointer (some ⟨g371,0,none⟩),.slice Ao29 t374.length co29,.int .i64 t372,.int .i64 2] rfl ymd ?_;(with_reducible refine (spec_l20Rule.calls k g371 t369 t377 _ _ t374 t372 2 t378 t379 t382 t383 w _ ?side1 ?side2 ?side3 ?side4 ?side5 A5.out).mono ?_);(case side1=>repeat (first|(with_reducible first|exact HI371.out|apply IsS86.alloc|apply IsS86.drewN|apply IsS86.drew|apply IsS86.set_1|refine IsS86.far ?_ NB371_368.out _)|exact HI371.out));(case side2=>repeat (first|(with_reducible first|exact HB.out|apply yea|apply yen|apply yed|refine below_set ?_ (IsS86.ge HI371.out)|refine below_set ?_ GE368.out)|exact HB.out));(case side3=>exact Kd.Cz (Kd.Yr HO376.out).2.2);(case side4=>exact (Kd.Yr HO376.out).2.1);(case side5=>exact far_slice (IsS86.own_ne HI371.out HO376.out (by decide)));rintro e w30 ⟨v380,rfl,ho0,hi,hb,hk⟩;refine ⟨_,rfl,?_⟩;replace BK368:=yam (KeepBut.blk hk (g':=gb368) (o:= .cells #[.int .i64 0,.slice none 0 0,.int .i64 0] 32 (0,0)) (ybz BK368.out) NB368_371.out (by simp));have HO381:=yam (Kd.R_lower (Kd.Yw ho0 (Kd.R_lt (Kd.Yz HO376.out))) (below_size (by repeat (first|(with_reducible first|exact HB.out|apply yea|apply yen|apply yed|refine below_set ?_ (IsS86.ge HI371.out)|refine below_set ?_ GE368.out)|exact HB.out))));replace HO376:=yam (Kd.R_mono (Kd.R_told (Kd.R_oldK (IsS86.apart (show IsS86 w _ g371 t369 t377 from by repeat (first|(with_reducible first|exact HI371.out|apply IsS86.alloc|apply IsS86.drewN|apply IsS86.drew|apply IsS86.set_1|refine IsS86.far ?_ NB371_368.out _)|exact HI371.out)) (Kd.Yz HO376.out) (by decide)) hk) (Kd.Yb ho0)) (fun _ h_=>h_.1));replace HB:=yam (hb);replace HI371:=yam (hi);(try clear hb);(try clear hk);(try clear hi);(try clear ho0))|(refine ybe 6 #[.int .i64 0,.slice none 0 0,.int .i64 0] 32 ?_;intro gb384 hg w31 hbox hb;replace HO376:=yam (Kd.R_below (Kd.Yz HO376.out) hb);replace HO381:=yam (Kd.R_below (Kd.Yz HO381.out) hb);have BK384:=yam (hbox);have GW384:=yam ((by rw [hg];exact (below_size (by repeat (first|(with_reducible first|exact HB.out|apply yea|apply yen|apply yed|refine below_set ?_ (IsS86.ge HI371.out)|refine below_set ?_ GE368.out)|exact HB.out))):w.heap.size≤gb384));replace HB:=yam (below_step (by repeat (first|(with_reducible first|exact HB.out|apply yea|apply yen|apply yed|refine below_set ?_ (IsS86.ge HI371.out)|refine below_set ?_ GE368.out)|exact HB.out)) hb);have GE384:=GW384;have NB368_384:=yam ((by rw [hg];exact Nat.ne_of_lt (blk_lt (g:=gb368) (o:= .cells #[.int .i64 0,.slice none 0 0,.int .i64 0] 32 (0,0)) (ybz BK368.out)):gb368≠gb384));have NB384_368:=yam ((by rw [hg];exact Nat.ne_of_gt (blk_lt (g:=gb368) (o:= .cells #[.int .i64 0,.slice none 0 0,.int .i64 0] 32 (0,0)) (ybz BK368.out)):gb384≠gb368));replace BK368:=yam (ybb BK368.out hb);have NB371_384:=yam ((by rw [hg];exact Nat.ne_of_lt (IsS86.lt (show IsS86 w _ g371 t369 t383 from by repeat (first|(with_reducible first|exact HI371.out|apply IsS86.alloc|apply IsS86.drewN|apply IsS86.drew|apply IsS86.set_1|refine IsS86.far ?_ NB371_368.out _)|exact HI371.out))):g371≠gb384));have NB384_371:=yam ((by rw [hg];exact Nat.ne_of_gt (IsS86.lt (show IsS86 w _ g371 t369 t383 from by repeat (first|(with_reducible first|exact HI371.out|apply IsS86.alloc|apply IsS86.drewN|apply IsS86.drew|apply IsS86.set_1|refine IsS86.far ?_ NB371_368.out _)|exact HI371.out))):gb384≠g371));replace HI371:=yam (IsS86.below (by repeat (first|(with_reducible first|exact HI371.out|apply IsS86.alloc|apply IsS86.drewN|apply IsS86.drew|apply IsS86.set_1|refine IsS86.far ?_ NB371_368.out _)|exact HI371.out)) hb);clear hb hbox hg;have hnb32:=NB384_368.out;have hnc32:=NB368_384.out;have hnb33:=NB384_371.out;have hnc33:=NB371_384.out;obtain ⟨hcz34_0,hcz34_1,hcz34_2,hfz34_0,hfz34_1,hfz34_2⟩:=ybc BK384.out;obtain ⟨Ao35,co35,eo35⟩:=Kd.R_slice HO381.out;subst eo35)|(refine goesL_ (some 18) rfl rfl Try.func68 (by kernel_rfl) rfl #[.pointer (some ⟨g371,0,none⟩),.int .i64 9] rfl ymd ?_;(with_reducible refine (spec_l20Rd_odd.calls k g371 t369 t383 9 false t386 w _ ?side1 ?side2 A6.out).mono ?_);(case side1=>repeat (first|(with_reducible first|exact HI371.out|apply IsS86.alloc|apply IsS86.drewN|apply IsS86.drew|apply IsS86.set_1|refine IsS86.far ?_ NB371_368.out _|refine IsS86.far ?_ NB371_384.out _)|exact HI371.out));(case side2=>repeat (first|(with_reducible first|exact HB.out|apply yea|apply yen|apply yed|refine below_set ?_ (IsS86.ge HI371.out)|refine below_set ?_ GE368.out|refine below_set ?_ GE384.out)|exact HB.out));rintro e w36 ⟨rfl,hi,hb,hk⟩;refine ⟨_,rfl,?_⟩;replace BK368:=yam (KeepBut.blk hk (g':=gb368) (o:= .cells #[.int .i64 0,.slice none 0 0,.int .i64 0] 32 (0,0)) (by (with_reducible repeat (first|refine ybn ?_ _|refine ybd ?_|refine yba ?_ _));refine blk_far ?_ NB368_384.out _;(with_reducible repeat (first|refine ybn ?_ _|refine ybd ?_|refine yba ?_ _));refine blk_far ?_ NB368_384.out _;(with_reducible repeat (first|refine ybn ?_ _|refine ybd ?_|refine yba ?_ _));refine blk_far ?_ NB368_384.out _;(with_reducible repeat (first|refine ybn ?_ _|refine ybd ?_|refine yba ?_ _));exact BK368.out) NB368_371.out (by simp));replace HO376:=yam (Kd.R_mono (Kd.R_keep (IsS86.apart (show IsS86 w _ g371 t369 t383 from by repeat (first|(with_reducible first|exact HI371.out|apply IsS86.alloc|apply IsS86.drewN|apply IsS86.drew|apply IsS86.set_1|refine IsS86.far ?_ NB371_368.out _|refine IsS86.far ?_ NB371_384.out _)|exact HI371.out)) (by (with_reducible repeat (first|apply Kd.Ya|apply Kd.Yn|apply Kd.Yd));exact (Kd.R_mono (Kd.R_far (p:=⟨gb384,2,none⟩) (Kd.R_far (p:=⟨gb384,1,none⟩) (Kd.R_far (p:=⟨gb384,0,none⟩) (Kd.R_types HO376.out BK384.out (by decide)) (fun _ hk=>hk.2) (.int .i64 t378)) (fun _ hk=>hk.2) (.slice Ao35 t379.length co35)) (fun _ hk=>hk.2) (.int .i64 t382)) (fun _ h_=>h_.1))) (by decide)) hk (fun _ h=>h.2)) (fun _ h=>h.1));replace HO381:=yam (Kd.R_mono (Kd.R_keep (IsS86.apart (show IsS86 w _ g371 t369 t383 from by repeat (first|(with_reducible first|exact HI371.out|apply IsS86.alloc|apply IsS86.drewN|apply IsS86.drew|apply IsS86.set_1|refine IsS86.far ?_ NB371_368.out _|refine IsS86.far ?_ NB371_384.out _)|exact HI371.out)) (by (with_reducible repeat (first|apply Kd.Ya|apply Kd.Yn|apply Kd.Yd));exact (Kd.R_mono (Kd.R_far (p:=⟨gb384,2,none⟩) (Kd.R_far (p:=⟨gb384,1,none⟩) (Kd.R_far (p:=⟨gb384,0,none⟩) (Kd.R_types HO381.out BK384.out (by decide)) (fun _ hk=>hk.2) (.int .i64 t378)) (fun _ hk=>hk.2) (.slice Ao35 t379.length co35)) (fun _ hk=>hk.2) (.int .i64 t382)) (fun _ h_=>h_.1))) (by decide)) hk (fun _ h=>h.2)) (fun _ h=>h.1));replace BK384:=yam (KeepBut.blk hk (g':=gb384) (o:= .cells #[.int .i64 t378,.slice Ao35 t379.length co35,.int .i64 t382] 32 (0,0)) (by (with_reducible repeat (first|refine ybn ?_ _|refine ybd ?_|refine yba ?_ _));refine blk_put (cs:= #[.int .i64 t378,.slice Ao35 t379.length co35,.int .i64 0]) ?_ 2 _ rfl;(with_reducible repeat (first|refine ybn ?_ _|refine ybd ?_|refine yba ?_ _));refine blk_put (cs:= #[.int .i64 t378,.slice none 0 0,.int .i64 0]) ?_ 1 _ rfl;(with_reducible repeat (first|refine ybn ?_ _|refine ybd ?_|refine yba ?_ _));refine blk_put (cs:= #[.int .i64 0,.slice none 0 0,.int .i64 0]) ?_ 0 _ rfl;(with_reducible repeat (first|refine ybn ?_ _|refine ybd ?_|refine yba ?_ _));exact BK384.out) NB384_371.out (by simp));replace HB:=yam (hb);replace HI371:=yam (hi);(try clear hb);(try clear hk);(try clear hi);obtain ⟨hcz37_0,hcz37_1,hcz37_2,hfz37_0,hfz37_1,hfz37_2⟩:=ybc BK384.out;have hnb38:=NB368_371.out;have hnc38:=NB371_368.out;obtain ⟨hcz39_0,hcz39_1,hcz39_2,hfz39_0,hfz39_1,hfz39_2⟩:=ybc BK368.out))
  refine bodyPost_ret (results_ct rfl _ _ gb368 32 #[.int .i64 t378,.slice Ao35 t379.length co35,.int .i64 t382] (0,0) _ rfl (by (with_reducible repeat (first|refine ybn ?_ _|refine ybd ?_|refine yba ?_ _));refine blk_put (cs:= #[.int .i64 t378,.slice Ao35 t379.length co35,.int .i64 0]) ?_ 2 _ rfl;(with_reducible repeat (first|refine ybn ?_ _|refine ybd ?_|refine yba ?_ _));refine blk_put (cs:= #[.int .i64 t378,.slice none 0 0,.int .i64 0]) ?_ 1 _ rfl;(with_reducible repeat (first|refine ybn ?_ _|refine ybd ?_|refine yba ?_ _));refine blk_put (cs:= #[.int .i64 0,.slice none 0 0,.int .i64 0]) ?_ 0 _ rfl;(with_reducible repeat (first|refine ybn ?_ _|refine ybd ?_|refine yba ?_ _));exact BK368.out) Try.underlying32 rfl (by kernel_rfl)) rfl ?_
  exact ⟨_,yer,by (with_reducible repeat (first|apply Kd.Ya|apply Kd.Yn|apply Kd.Yd));exact Kd.R_mono (Kd.R_far (p:=⟨gb368,2,none⟩) (Kd.R_far (p:=⟨gb368,1,none⟩) (Kd.R_far (p:=⟨gb368,0,none⟩) (Kd.R_types HO381.out BK368.out (by decide)) (fun _ hk=>hk.2) (.int .i64 t378)) (fun _ hk=>hk.2) (.slice Ao35 t379.length co35)) (fun _ hk=>hk.2) (.int .i64 t382)) (fun _ hk=>trivial),by repeat (first|(with_reducible first|exact HB.out|apply yea|apply yen|apply yed|refine below_set ?_ (IsS86.ge HI371.out)|refine below_set ?_ GE368.out|refine below_set ?_ GE384.out)|exact HB.out)⟩
 replace H:=ytt H
 replace H:=ybi H;obtain ⟨⟨t387,t388⟩,A8,H⟩:=H
 replace H:(some (t378,t379,t382,t387))=some (r1,r2,r3,r4):=H
 simp only [Option.some.injEq,Prod.mk.injEq] at H
 obtain ⟨rfl,rfl,rfl,rfl⟩:=H
 go_enter Try.func22,Try.ntmps22
 go_wp2_with (first|(refine ybe 2 #[.int .i64 0,.slice none 0 0,.int .i64 0] 32 ?_;intro gb368 hg w9 hbox hb;have BK368:=yam (hbox);have GW368:=yam ((by rw [hg];exact (below_size (yez HB.out)):w.heap.size≤gb368));replace HB:=yam (below_step (yez HB.out) hb);have GE368:=GW368;clear hb hbox hg)|(refine goesL_ (some 8) rfl rfl Try.func59 (by kernel_rfl) rfl #[.slice A0 l0.length c0] rfl ymd ?_;(with_reducible refine (spec_l20Open.calls _ _ l0 t369 t370 w _ ?side1 ?side2 ?side3 A2.out).mono ?_);(case side1=>repeat (first|(with_reducible first|exact HB.out|apply yea|apply yen|apply yed|refine below_set ?_ GE368.out)|exact HB.out));(case side2=>exact HR0.out);(case side3=>exact HC0.out);rintro e w10 ⟨g371,rfl,hi,hb,hb2⟩;refine ⟨_,rfl,?_⟩;replace HB:=yam (hb);have HI371:=yam (hi);have NB371_368:=yam (IsS86.ne_blk hi (blk_below (g:=gb368) (o:= .cells #[.int .i64 0,.slice none 0 0,.int .i64 0] 32 (0,0)) (ybz BK368.out) hb2) (by decide));have NB368_371:=yam (Ne.symm (IsS86.ne_blk hi (blk_below (g:=gb368) (o:= .cells #[.int .i64 0,.slice none 0 0,.int .i64 0] 32 (0,0)) (ybz BK368.out) hb2) (by decide)));replace BK368:=yam (blk_below (g:=gb368) (o:= .cells #[.int .i64 0,.slice none 0 0,.int .i64 0] 32 (0,0)) (ybz BK368.out) hb2);(try clear hb);(try clear hb2);(try clear hi))|(refine goesL_ (some 10) rfl rfl Try.func65 (by kernel_rfl) rfl #[.pointer (some ⟨g371,0,none⟩),.int .i64 0] rfl ymd ?_;(with_reducible refine (spec_l20Size.calls k g371 t369 t370 0 t372 t373 w _ ?side1 ?side2 A3.out).mono ?_);(case side1=>repeat (first|(with_reducible first|exact HI371.out|apply IsS86.alloc|apply IsS86.drewN|apply IsS86.drew|apply IsS86.set_1|refine IsS86.far ?_ NB371_368.out _)|exact HI371.out));(case side2=>repeat (first|(with_reducible first|exact HB.out|apply yea|apply yen|apply yed|refine below_set ?_ (IsS86.ge HI371.out)|refine below_set ?_ GE368.out)|exact HB.out));rintro e w11 ⟨rfl,hi,hb,hk⟩;refine ⟨_,rfl,?_⟩;replace BK368:=yam (KeepBut.blk hk (g':=gb368) (o:= .cells #[.int .i64 0,.slice none 0 0,.int .i64 0] 32 (0,0)) (ybz BK368.out) NB368_371.out (by simp));replace HB:=yam (hb);replace HI371:=yam (hi);(try clear hb);(try clear hk);(try clear hi))|(refine goesL_ (some 14) rfl rfl Try.func67 (by kernel_rfl) rfl #[.pointer (some ⟨g371,0,none⟩),.int .i64 t372] rfl ymd ?_;(with_reducible refine (spec_l20Solved.calls k g371 t369 t373 t372 t374 t377 w _ ?side1 ?side2 A4.out).mono ?_);(case side1=>repeat (first|(with_reducible first|exact HI371.out|apply IsS86.alloc|apply IsS86.drewN|apply IsS86.drew|apply IsS86.set_1|refine IsS86.far ?_ NB371_368.out _)|exact HI371.out));(case side2=>repeat (first|(with_reducible first|exact HB.out|apply yea|apply yen|apply yed|refine below_set ?_ (IsS86.ge HI371.out)|refine below_set ?_ GE368.out)|exact HB.out));rintro e w12 ⟨v375,rfl,ho0,hi,hb,hk⟩;refine ⟨_,rfl,?_⟩;replace BK368:=yam (KeepBut.blk hk (g':=gb368) (o:= .cells #[.int .i64 0,.slice none 0 0,.int .i64 0] 32 (0,0)) (ybz BK368.out) NB368_371.out (by simp));have HO376:=yam (Kd.R_lower ho0 (below_size (by repeat (first|(with_reducible first|exact HB.out|apply yea|apply yen|apply yed|refine below_set ?_ (IsS86.ge HI371.out)|refine below_set ?_ GE368.out)|exact HB.out))));replace HB:=yam (hb);replace HI371:=yam (hi);(try clear hb);(try clear hk);(try clear hi);(try clear ho0);obtain ⟨Ao13,co13,eo13⟩:=Kd.R_slice HO376.out;subst eo13)|(refine goesL_ (some 16) rfl rfl Try.func66 (by kernel_rfl) rfl #[.pointer (some ⟨g371,0,none⟩),.slice Ao13 t374.length co13,.int .i64 t372,.int .i64 2] rfl ymd ?_;(with_reducible refine (spec_l20Rule.calls k g371 t369 t377 _ _ t374 t372 2 t378 t379 t382 t383 w _ ?side1 ?side2 ?side3 ?side4 ?side5 A5.out).mono ?_);(case side1=>repeat (first|(with_reducible first|exact HI371.out|apply IsS86.alloc|apply IsS86.drewN|apply IsS86.drew|apply IsS86.set_1|refine IsS86.far ?_ NB371_368.out _)|exact HI371.out));(case side2=>repeat (first|(with_reducible first|exact HB.out|apply yea|apply yen|apply yed|refine below_set ?_ (IsS86.ge HI371.out)|refine below_set ?_ GE368.out)|exact HB.out));(case side3=>exact Kd.Cz (Kd.Yr HO376.out).2.2);(case side4=>exact (Kd.Yr HO376.out).2.1);(case side5=>exact far_slice (IsS86.own_ne HI371.out HO376.out (by decide)));rintro e w14 ⟨v380,rfl,ho0,hi,hb,hk⟩;refine ⟨_,rfl,?_⟩;replace BK368:=yam (KeepBut.blk hk (g':=gb368) (o:= .cells #[.int .i64 0,.slice none 0 0,.int .i64 0] 32 (0,0)) (ybz BK368.out) NB368_371.out (by simp));have HO381:=yam (Kd.R_lower (Kd.Yw ho0 (Kd.R_lt (Kd.Yz HO376.out))) (below_size (by repeat (first|(with_reducible first|exact HB.out|apply yea|apply yen|apply yed|refine below_set ?_ (IsS86.ge HI371.out)|refine below_set ?_ GE368.out)|exact HB.out))));replace HO376:=yam (Kd.R_mono (Kd.R_told (Kd.R_oldK (IsS86.apart (show IsS86 w _ g371 t369 t377 from by repeat (first|(with_reducible first|exact HI371.out|apply IsS86.alloc|apply IsS86.drewN|apply IsS86.drew|apply IsS86.set_1|refine IsS86.far ?_ NB371_368.out _)|exact HI371.out)) (Kd.Yz HO376.out) (by decide)) hk) (Kd.Yb ho0)) (fun _ h_=>h_.1));replace HB:=yam (hb);replace HI371:=yam (hi);(try clear hb);(try clear hk);(try clear hi);(try clear ho0))|(refine ybe 6 #[.int .i64 0,.slice none 0 0,.int .i64 0] 32 ?_;intro gb384 hg w15 hbox hb;replace HO376:=yam (Kd.R_below (Kd.Yz HO376.out) hb);replace HO381:=yam (Kd.R_below (Kd.Yz HO381.out) hb);have BK384:=yam (hbox);have GW384:=yam ((by rw [hg];exact (below_size (by repeat (first|(with_reducible first|exact HB.out|apply yea|apply yen|apply yed|refine below_set ?_ (IsS86.ge HI371.out)|refine below_set ?_ GE368.out)|exact HB.out))):w.heap.size≤gb384));replace HB:=yam (below_step (by repeat (first|(with_reducible first|exact HB.out|apply yea|apply yen|apply yed|refine below_set ?_ (IsS86.ge HI371.out)|refine below_set ?_ GE368.out)|exact HB.out)) hb);have GE384:=GW384;have NB368_384:=yam ((by rw [hg];exact Nat.ne_of_lt (blk_lt (g:=gb368) (o:= .cells #[.int .i64 0,.slice none 0 0,.int .i64 0] 32 (0,0)) (ybz BK368.out)):gb368≠gb384));have NB384_368:=yam ((by rw [hg];exact Nat.ne_of_gt (blk_lt (g:=gb368) (o:= .cells #[.int .i64 0,.slice none 0 0,.int .i64 0] 32 (0,0)) (ybz BK368.out)):gb384≠gb368));replace BK368:=yam (ybb BK368.out hb);have NB371_384:=yam ((by rw [hg];exact Nat.ne_of_lt (IsS86.lt (show IsS86 w _ g371 t369 t383 from by repeat (first|(with_reducible first|exact HI371.out|apply IsS86.alloc|apply IsS86.drewN|apply IsS86.drew|apply IsS86.set_1|refine IsS86.far ?_ NB371_368.out _)|exact HI371.out))):g371≠gb384));have NB384_371:=yam ((by rw [hg];exact Nat.ne_of_gt (IsS86.lt (show IsS86 w _ g371 t369 t383 from by repeat (first|(with_reducible first|exact HI371.out|apply IsS86.alloc|apply IsS86.drewN|apply IsS86.drew|apply IsS86.set_1|refine IsS86.far ?_ NB371_368.out _)|exact HI371.out))):gb384≠g371));replace HI371:=yam (IsS86.below (by repeat (first|(with_reducible first|exact HI371.out|apply IsS86.alloc|apply IsS86.drewN|apply IsS86.drew|apply IsS86.set_1|refine IsS86.far ?_ NB371_368.out _)|exact HI371.out)) hb);clear hb hbox hg;have hnb16:=NB384_368.out;have hnc16:=NB368_384.out;have hnb17:=NB384_371.out;have hnc17:=NB371_384.out;obtain ⟨hcz18_0,hcz18_1,hcz18_2,hfz18_0,hfz18_1,hfz18_2⟩:=ybc BK384.out;obtain ⟨Ao19,co19,eo19⟩:=Kd.R_slice HO381.out;subst eo19)|(refine goesL_ (some 18) rfl rfl Try.func68 (by kernel_rfl) rfl #[.pointer (some ⟨g371,0,none⟩),.int .i64 9] rfl ymd ?_;(with_reducible refine (spec_l20Rd_odd.calls k g371 t369 t383 9 true t386 w _ ?side1 ?side2 A6.out).mono ?_);(case side1=>repeat (first|(with_reducible first|exact HI371.out|apply IsS86.alloc|apply IsS86.drewN|apply IsS86.drew|apply IsS86.set_1|refine IsS86.far ?_ NB371_368.out _|refine IsS86.far ?_ NB371_384.out _)|exact HI371.out));(case side2=>repeat (first|(with_reducible first|exact HB.out|apply yea|apply yen|apply yed|refine below_set ?_ (IsS86.ge HI371.out)|refine below_set ?_ GE368.out|refine below_set ?_ GE384.out)|exact HB.out));rintro e w20 ⟨rfl,hi,hb,hk⟩;refine ⟨_,rfl,?_⟩;replace BK368:=yam (KeepBut.blk hk (g':=gb368) (o:= .cells #[.int .i64 0,.slice none 0 0,.int .i64 0] 32 (0,0)) (by (with_reducible repeat (first|refine ybn ?_ _|refine ybd ?_|refine yba ?_ _));refine blk_far ?_ NB368_384.out _;(with_reducible repeat (first|refine ybn ?_ _|refine ybd ?_|refine yba ?_ _));refine blk_far ?_ NB368_384.out _;(with_reducible repeat (first|refine ybn ?_ _|refine ybd ?_|refine yba ?_ _));refine blk_far ?_ NB368_384.out _;(with_reducible repeat (first|refine ybn ?_ _|refine ybd ?_|refine yba ?_ _));exact BK368.out) NB368_371.out (by simp));replace HO376:=yam (Kd.R_mono (Kd.R_keep (IsS86.apart (show IsS86 w _ g371 t369 t383 from by repeat (first|(with_reducible first|exact HI371.out|apply IsS86.alloc|apply IsS86.drewN|apply IsS86.drew|apply IsS86.set_1|refine IsS86.far ?_ NB371_368.out _|refine IsS86.far ?_ NB371_384.out _)|exact HI371.out)) (by (with_reducible repeat (first|apply Kd.Ya|apply Kd.Yn|apply Kd.Yd));exact (Kd.R_mono (Kd.R_far (p:=⟨gb384,2,none⟩) (Kd.R_far (p:=⟨gb384,1,none⟩) (Kd.R_far (p:=⟨gb384,0,none⟩) (Kd.R_types HO376.out BK384.out (by decide)) (fun _ hk=>hk.2) (.int .i64 t378)) (fun _ hk=>hk.2) (.slice Ao19 t379.length co19)) (fun _ hk=>hk.2) (.int .i64 t382)) (fun _ h_=>h_.1))) (by decide)) hk (fun _ h=>h.2)) (fun _ h=>h.1));replace HO381:=yam (Kd.R_mono (Kd.R_keep (IsS86.apart (show IsS86 w _ g371 t369 t383 from by repeat (first|(with_reducible first|exact HI371.out|apply IsS86.alloc|apply IsS86.drewN|apply IsS86.drew|apply IsS86.set_1|refine IsS86.far ?_ NB371_368.out _|refine IsS86.far ?_ NB371_384.out _)|exact HI371.out)) (by (with_reducible repeat (first|apply Kd.Ya|apply Kd.Yn|apply Kd.Yd));exact (Kd.R_mono (Kd.R_far (p:=⟨gb384,2,none⟩) (Kd.R_far (p:=⟨gb384,1,none⟩) (Kd.R_far (p:=⟨gb384,0,none⟩) (Kd.R_types HO381.out BK384.out (by decide)) (fun _ hk=>hk.2) (.int .i64 t378)) (fun _ hk=>hk.2) (.slice Ao19 t379.length co19)) (fun _ hk=>hk.2) (.int .i64 t382)) (fun _ h_=>h_.1))) (by decide)) hk (fun _ h=>h.2)) (fun _ h=>h.1));replace BK384:=yam (KeepBut.blk hk (g':=gb384) (o:= .cells #[.int .i64 t378,.slice Ao19 t379.length co19,.int .i64 t382] 32 (0,0)) (by (with_reducible repeat (first|refine ybn ?_ _|refine ybd ?_|refine yba ?_ _));refine blk_put (cs:= #[.int .i64 t378,.slice Ao19 t379.length co19,.int .i64 0]) ?_ 2 _ rfl;(with_reducible repeat (first|refine ybn ?_ _|refine ybd ?_|refine yba ?_ _));refine blk_put (cs:= #[.int .i64 t378,.slice none 0 0,.int .i64 0]) ?_ 1 _ rfl;(with_reducible repeat (first|refine ybn ?_ _|refine ybd ?_|refine yba ?_ _));refine blk_put (cs:= #[.int .i64 0,.slice none 0 0,.int .i64 0]) ?_ 0 _ rfl;(with_reducible repeat (first|refine ybn ?_ _|refine ybd ?_|refine yba ?_ _));exact BK384.out) NB384_371.out (by simp));replace HB:=yam (hb);replace HI371:=yam (hi);(try clear hb);(try clear hk);(try clear hi))|(refine goesL_ (some 20) rfl rfl Try.func65 (by kernel_rfl) rfl #[.pointer (some ⟨g371,0,none⟩),.int .i64 1] rfl ymd ?_;(with_reducible refine (spec_l20Size.calls k g371 t369 t386 1 t387 t388 w _ ?side1 ?side2 A8.out).mono ?_);(case side1=>repeat (first|(with_reducible first|exact HI371.out|apply IsS86.alloc|apply IsS86.drewN|apply IsS86.drew|apply IsS86.set_1|refine IsS86.far ?_ NB371_368.out _|refine IsS86.far ?_ NB371_384.out _)|exact HI371.out));(case side2=>repeat (first|(with_reducible first|exact HB.out|apply yea|apply yen|apply yed|refine below_set ?_ (IsS86.ge HI371.out)|refine below_set ?_ GE368.out|refine below_set ?_ GE384.out)|exact HB.out));rintro e w21 ⟨rfl,hi,hb,hk⟩;refine ⟨_,rfl,?_⟩;replace BK368:=yam (KeepBut.blk hk (g':=gb368) (o:= .cells #[.int .i64 0,.slice none 0 0,.int .i64 0] 32 (0,0)) (ybz BK368.out) NB368_371.out (by simp));replace HO376:=yam (Kd.R_mono (Kd.R_keep (IsS86.apart (show IsS86 w _ g371 t369 t386 from by repeat (first|(with_reducible first|exact HI371.out|apply IsS86.alloc|apply IsS86.drewN|apply IsS86.drew|apply IsS86.set_1|refine IsS86.far ?_ NB371_368.out _|refine IsS86.far ?_ NB371_384.out _)|exact HI371.out)) (Kd.Yz HO376.out) (by decide)) hk (fun _ h=>h.2)) (fun _ h=>h.1));replace HO381:=yam (Kd.R_mono (Kd.R_keep (IsS86.apart (show IsS86 w _ g371 t369 t386 from by repeat (first|(with_reducible first|exact HI371.out|apply IsS86.alloc|apply IsS86.drewN|apply IsS86.drew|apply IsS86.set_1|refine IsS86.far ?_ NB371_368.out _|refine IsS86.far ?_ NB371_384.out _)|exact HI371.out)) (Kd.Yz HO381.out) (by decide)) hk (fun _ h=>h.2)) (fun _ h=>h.1));replace BK384:=yam (KeepBut.blk hk (g':=gb384) (o:= .cells #[.int .i64 t378,.slice Ao19 t379.length co19,.int .i64 t382] 32 (0,0)) (ybz BK384.out) NB384_371.out (by simp));replace HB:=yam (hb);replace HI371:=yam (hi);(try clear hb);(try clear hk);(try clear hi);obtain ⟨hcz22_0,hcz22_1,hcz22_2,hfz22_0,hfz22_1,hfz22_2⟩:=ybc BK384.out;have hnb23:=NB368_371.out;have hnc23:=NB371_368.out;obtain ⟨hcz24_0,hcz24_1,hcz24_2,hfz24_0,hfz24_1,hfz24_2⟩:=ybc BK368.out))
 refine bodyPost_ret (results_ct rfl _ _ gb368 32 #[.int .i64 t378,.slice Ao19 t379.length co19,.int .i64 t382] (0,0) _ rfl (by (with_reducible repeat (first|refine ybn ?_ _|refine ybd ?_|refine yba ?_ _));refine blk_put (cs:= #[.int .i64 t378,.slice Ao19 t379.length co19,.int .i64 0]) ?_ 2 _ rfl;(with_reducible repeat (first|refine ybn ?_ _|refine ybd ?_|refine yba ?_ _));refine blk_put (cs:= #[.int .i64 t378,.slice none 0 0,.int .i64 0]) ?_ 1 _ rfl;(with_reducible repeat (first|refine ybn ?_ _|refine ybd ?_|refine yba ?_ _));refine blk_put (cs:= #[.int .i64 0,.slice none 0 0,.int .i64 0]) ?_ 0 _ rfl;(with_reducible repeat (first|refine ybn ?_ _|refine ybd ?_|refine yba ?_ _));exact BK368.out) Try.underlying32 rfl (by kernel_rfl)) rfl ?_
 exact ⟨_,yer,by (with_reducible repeat (first|apply Kd.Ya|apply Kd.Yn|apply Kd.Yd));exact Kd.R_mono (Kd.R_far (p:=⟨gb368,2,none⟩) (Kd.R_far (p:=⟨gb368,1,none⟩) (Kd.R_far (p:=⟨gb368,0,none⟩) (Kd.R_types HO381.out BK368.out (by decide)) (fun _ hk=>hk.2) (.int .i64 t378)) (fun _ hk=>hk.2) (.slice Ao19 t379.length co19)) (fun _ hk=>hk.2) (.int .i64 t382)) (fun _ hk=>trivial),by repeat (first|(with_reducible first|exact HB.out|apply yea|apply yen|apply yed|refine below_set ?_ (IsS86.ge HI371.out)|refine below_set ?_ GE368.out|refine below_set ?_ GE384.out)|exact HB.out)⟩
def slices_Index_int_int.l0:Nat→List Int→Int→Int→Int→Option (Int)
 | 0,_,_,_,_=>none
 | k + 1,x0,x1,x7,x8=>if x8 < x7 then (if 0≤x8 then (if x8 < (x0.length:Int) then (if x1=(rd x0 x8) then (some x8) else (slices_Index_int_int.l0 k x0 x1 x7 (wrap64 (x8 + 1)))) else (none)) else (none)) else (some (-1))
def slices_Index_int_int.f (k:Nat)(l0:List Int)(a1:Int):Option (Int):=slices_Index_int_int.l0 k l0 a1 (l0.length:Int) 0
theorem slices_Index_int_int.calls (k:Nat)(A0:Option Addr)(c0:Nat)(l0:List Int)(a1:Int)(r:Int)(w:World)(hr0:Kd.C (Kd.int .i64) w A0 l0.length l0)(hc0:l0.length≤c0)(h:slices_Index_int_int.f k l0 a1=some r) :
  Calls Try.prog 89 #[.slice A0 l0.length c0,.int .i64 a1] w fun e w'=>e= .returned (.int .i64 r)∧Drawn0 w w':=by
 have HR0:=yam hr0
 have HC0:=yam hc0
 clear hr0 hc0
 unfold slices_Index_int_int.f at h
 have H:=h
 clear h
 replace H:=yam H
 go_enter Try.func89,Try.ntmps89
 go_wp2
 go_loopg [8] k (fun kq v8 w'=>∃ (x8_1:Int),v8= .int .i64 x8_1∧Aside0 (slices_Index_int_int.l0 kq l0 a1 (l0.length:Int) x8_1=some r)∧Aside0 (kq≤k)∧Drawn0 w w')
 case atStart=>exact ⟨(0),yeq,H,⟨Nat.le_refl _⟩,by repeat (first|exact Drawn0.refl _|apply Drawn0.step)⟩
 case round =>
  clear H
  obtain ⟨x8_1,rfl,HA,HK1,⟨m1,rfl⟩⟩:=hrel
  rcases gk with _|k1
  ·exact absurd HA.out (by simp [slices_Index_int_int.l0])
  obtain ⟨H⟩:=HA
  simp only [slices_Index_int_int.l0] at H
  replace H:=yis H;obtain ⟨c3b0,H⟩ | ⟨c3b0,H⟩:=H
  rotate_left
  ·obtain rfl:=ysi H
   go_wp2
   go_ret
   exact ⟨yeq,by repeat (first|exact Drawn0.refl _|apply Drawn0.step)⟩
  replace H:=yif H;obtain ⟨c4b0,H⟩:=H
  replace H:=yif H;obtain ⟨c5b0,H⟩:=H
  replace H:=yit H;obtain ⟨c6,H⟩ | ⟨c6,H⟩:=H
  ·have c6b0:(a1 == (rd l0 x8_1))=true:=beq_iff_eq.mpr c6
   have c6b1:(a1 != (rd l0 x8_1))=false:=bne_eq_false_iff_eq.mpr c6
   clear c6
   obtain rfl:=ysi H
   obtain ⟨ad389,e389,hx389_0,p389,q389⟩:=yat HR0.out x8_1
   cases e389
   go_wp2
   go_ret
   exact ⟨yeq,by repeat (first|exact Drawn0.refl _|apply Drawn0.step)⟩
  have c6b0:(a1 == (rd l0 x8_1))=false:=beq_eq_false_iff_ne.mpr c6
  have c6b1:(a1 != (rd l0 x8_1))=true:=bne_iff_ne.mpr c6
  replace H:=yam H
  obtain ⟨ad389,e389,hx389_0,p389,q389⟩:=yat HR0.out x8_1
  cases e389
  go_wp2
  go_roundg k1
  case measure=>have:=HK1.out;omega
  case rel=>exact ⟨(wrap64 (x8_1 + 1)),yeq,H,⟨by have:=HK1.out;omega⟩,by repeat (first|exact Drawn0.refl _|apply Drawn0.step)⟩
def slices_Contains_int_int.f (k:Nat)(l0:List Int)(a1:Int):Option (Bool):=(slices_Index_int_int.f k l0 a1).bind fun t390=>(some (decide (t390 ≥ 0)))
theorem slices_Contains_int_int.calls (k:Nat)(A0:Option Addr)(c0:Nat)(l0:List Int)(a1:Int)(r:Bool)(w:World)(hr0:Kd.C (Kd.int .i64) w A0 l0.length l0)(hc0:l0.length≤c0)(h:slices_Contains_int_int.f k l0 a1=some r) :
  Calls Try.prog 69 #[.slice A0 l0.length c0,.int .i64 a1] w fun e w'=>e= .returned (.bool r)∧Drawn0 w w':=by
 have HR0:=yam hr0
 have HC0:=yam hc0
 clear hr0 hc0
 unfold slices_Contains_int_int.f at h
 have H:=h
 clear h
 replace H:=ybi H;obtain ⟨t390,A3,H⟩:=H
 try dsimp only at H
 obtain rfl:=ysi H
 go_enter Try.func69,Try.ntmps69
 go_wp2_with (first|(refine goesL_ (some 7) rfl rfl Try.func89 (by kernel_rfl) rfl #[.slice A0 l0.length c0,.int .i64 a1] rfl ymd ?_;(with_reducible refine (slices_Index_int_int.calls k _ _ l0 a1 t390 _ ?_ ?_ A3.out).mono ?_);exact Kd.Cz (HR0.out);exact HC0.out;rintro e w' ⟨rfl,⟨nd,rfl⟩⟩;refine ⟨_,rfl,?_⟩))
 go_ret
 exact ⟨yeq,by repeat (first|exact Drawn0.refl _|apply Drawn0.step)⟩
mutual
def impl_RuleValid.l0:Nat→Int→List Int→Int→Int→Int→List Int→Int→Option (Bool)
 | 0,_,_,_,_,_,_,_=>none
 | k + 1,x1,x12,x13,x14,x392000,x392001,x392002=>if x14 < x13 then (if 0≤x14 then (if x14 < (x12.length:Int) then (if (rd x12 x14) < 0 then (some false) else (if (rd x12 x14) ≥ (wrap64 (x1 * x1)) then (some false) else (if x14≤(x392001.length:Int) then ((slices_Contains_int_int.f k (x392001.take (x14:Int).toNat) (rd x12 x14)).bind fun t395=>(if t395=true then (some false) else (impl_RuleValid.l0 k x1 x12 x13 (wrap64 (x14 + 1)) x392000 x392001 x392002))) else (none)))) else (none)) else (none)) else (if x392000=1 then (if (x392001.length:Int) ≥ 2 then (if (x392001.length:Int)≤4 then (some (x392002 == 0)) else (some false)) else (some false)) else (if x392000=2 then (impl_RuleValid.j1 k x1 (x392001.length:Int) x392000 (x392000 == 2) x392000 x392001 x392002) else (impl_RuleValid.j1 k x1 (x392001.length:Int) x392000 (x392000 == 3) x392000 x392001 x392002)))
def impl_RuleValid.j1:Nat→Int→Int→Int→Bool→Int→List Int→Int→Option (Bool)
 | 0,_,_,_,_,_,_,_=>none
 | k + 1,x1,x7,x41,x55,x392000,x392001,x392002=>if x55=true then (if x7 ≥ 1 then (if x7≤4 then (if x392002 ≥ 1 then (some (decide (x392002≤(wrap64 ((wrap64 ((wrap64 (x1 * x1)) * x1)) * x1))))) else (some false)) else (some false)) else (some false)) else (if x41=4 then (if x7=2 then (some (x392002 == 0)) else (some false)) else (if x41=5 then (if x7=2 then (if x392002 ≥ 0 then (some (decide (x392002 < x1))) else (some false)) else (some false)) else (some false)))
end
def impl_RuleValid.f (k:Nat)(a0_0:Int)(l0_1:List Int)(a0_2:Int)(a1:Int):Option (Bool):=(impl_sizeOk.f a1).bind fun t392=>(if t392=true then (impl_RuleValid.l0 k a1 l0_1 (l0_1.length:Int) 0 a0_0 l0_1 a0_2) else (some false))
theorem impl_RuleValid.calls (k:Nat)(a0_0:Int)(A0_1:Option Addr)(c0_1:Nat)(l0_1:List Int)(a0_2:Int)(a1:Int)(r:Bool)(w:World)(hr0_1:Kd.C (Kd.int .i64) w A0_1 l0_1.length l0_1)(hc0_1:l0_1.length≤c0_1)(h:impl_RuleValid.f k a0_0 l0_1 a0_2 a1=some r) :
  Calls Try.prog 23 #[.agg #[.int .i64 a0_0,.slice A0_1 l0_1.length c0_1,.int .i64 a0_2],.int .i64 a1] w fun e w'=>e= .returned (.bool r)∧Below w.heap.size w w':=by
 have hu32:=Try.underlying32
 have HR0_1:=yam hr0_1
 have HC0_1:=yam hc0_1
 clear hr0_1 hc0_1
 have HB:=yam (Below.refl w.heap.size w)
 unfold impl_RuleValid.f at h
 have H:=h
 clear h
 replace H:=ybi H;obtain ⟨t392,A3,H⟩:=H
 try dsimp only at H
 cases t392
 ·replace H:=yff H
  obtain rfl:=ysi H
  go_enter Try.func23,Try.ntmps23
  go_wp2_with (first|(refine ybe 2 #[.int .i64 a0_0,.slice A0_1 l0_1.length c0_1,.int .i64 a0_2] 32 ?_;intro gb391 hg w43 hbox hb;have BK391:=yam (hbox);have GW391:=yam ((by rw [hg];exact (below_size (yez HB.out)):w.heap.size≤gb391));replace HB:=yam (below_step (yez HB.out) hb);have GE391:=GW391;clear hb hbox hg)|(refine goesL_ (some 9) rfl rfl Try.func64 (by kernel_rfl) rfl #[.int .i64 a1] rfl ymd ?_;(with_reducible refine (impl_sizeOk.calls a1 false _ A3.out).mono ?_);rintro e w' ⟨rfl,⟨nd,rfl⟩⟩;refine ⟨_,rfl,?_⟩))
  go_ret
  exact ⟨yer,yhb⟩
 replace H:=ytt H
 replace H:=yam H
 go_enter Try.func23,Try.ntmps23
 go_wp2_with (first|(refine ybe 2 #[.int .i64 a0_0,.slice A0_1 l0_1.length c0_1,.int .i64 a0_2] 32 ?_;intro gb391 hg w5 hbox hb;have BK391:=yam (hbox);have GW391:=yam ((by rw [hg];exact (below_size (yez HB.out)):w.heap.size≤gb391));replace HB:=yam (below_step (yez HB.out) hb);have GE391:=GW391;clear hb hbox hg)|(refine goesL_ (some 9) rfl rfl Try.func64 (by kernel_rfl) rfl #[.int .i64 a1] rfl ymd ?_;(with_reducible refine (impl_sizeOk.calls a1 true _ A3.out).mono ?_);rintro e w' ⟨rfl,⟨nd,rfl⟩⟩;refine ⟨_,rfl,?_⟩;obtain ⟨hcz6_0,hcz6_1,hcz6_2,hfz6_0,hfz6_1,hfz6_2⟩:=ybc BK391.out))
 go_loopg [14] k (fun kq v14 w'=>∃ (x14_1:Int),v14= .int .i64 x14_1∧Aside0 (impl_RuleValid.l0 kq a1 l0_1 (l0_1.length:Int) x14_1 a0_0 l0_1 a0_2=some r)∧Aside0 (kq≤k)∧Aside0 (w'.heap[gb391]?=some (.cells #[.int .i64 a0_0,(.slice A0_1 l0_1.length c0_1),.int .i64 a0_2] 32 (0,0)))∧Aside0 (Below w.heap.size w w'))
 case atStart=>exact ⟨(0),yeq,H,⟨Nat.le_refl _⟩,⟨ybk BK391.out⟩,⟨yhb⟩⟩
 case round =>
  clear H
  try clear hcz6_0
  try clear hcz6_1
  try clear hcz6_2
  try clear hfz6_0
  try clear hfz6_1
  try clear hfz6_2
  obtain ⟨x14_1,rfl,HA,HK1,BK391,HB⟩:=hrel
  rcases gk with _|k1
  ·exact absurd HA.out (by simp [impl_RuleValid.l0])
  obtain ⟨H⟩:=HA
  simp only [impl_RuleValid.l0] at H
  replace H:=yis H;obtain ⟨c7b0,H⟩ | ⟨c7b0,H⟩:=H
  ·replace H:=yif H;obtain ⟨c8b0,H⟩:=H
   replace H:=yif H;obtain ⟨c9b0,H⟩:=H
   replace H:=yis H;obtain ⟨c10b0,H⟩ | ⟨c10b0,H⟩:=H
   ·obtain rfl:=ysi H
    obtain ⟨ad393,e393,hx393_0,p393,q393⟩:=yat HR0_1.out x14_1
    cases e393
    replace hx393_0:=ybx HB.out hx393_0
    go_wp2
    go_ret
    exact ⟨yer,yhb⟩
   replace H:=yis H;obtain ⟨c11b0,H⟩ | ⟨c11b0,H⟩:=H
   ·obtain rfl:=ysi H
    obtain ⟨ad393,e393,hx393_0,p393,q393⟩:=yat HR0_1.out x14_1
    cases e393
    replace hx393_0:=ybx HB.out hx393_0
    go_wp2
    go_ret
    exact ⟨yer,yhb⟩
   have c12b0:=eq_true (ydt:0≤x14_1)
   replace H:=yig H;obtain ⟨c13,H⟩:=H
   have c13b0:=eq_true c13
   have c13b1:decide (x14_1≤(l0_1.length:Int))=true:=decide_eq_true c13
   clear c13
   replace H:=ybi H;obtain ⟨t395,A14,H⟩:=H
   try dsimp only at H
   cases t395
   rotate_left
   ·replace H:=ytt H
    obtain rfl:=ysi H
    obtain ⟨ad393,e393,hx393_0,p393,q393⟩:=yat HR0_1.out x14_1
    cases e393
    replace hx393_0:=ybx HB.out hx393_0
    obtain ⟨hcz16_0,hcz16_1,hcz16_2,hfz16_0,hfz16_1,hfz16_2⟩:=ybc BK391.out
    obtain ⟨i017,hi017,_,hsz17,_⟩:=info_parts info3
    obtain ⟨hcut17,hA17,hC17⟩:=print_take_of (P:=Try.prog) (Value.int .i64) 0 23 3 .i64 Try.underlying23 hi017 hsz17 (some ad393) c0_1 l0_1 x14_1 (ydt) (ydt) HC0_1.out
    have hl17_:(l0_1.take (x14_1:Int).toNat).length=(x14_1:Int).toNat:=by
     have e0_:0≤(x14_1:Int):=ydt
     have e1_:(x14_1:Int)≤(l0_1.length:Int):=ydt
     rw [List.length_take];omega
    have HR394:=yam (Kd.C_of_reads (h1:=fun _=>rfl) (hA17 _ (Kd.reads_of_C HR0_1.out)))
    have HC394:=yam hC17
    clear hA17 hC17 hi017 hsz17
    go_wp2_with (first|(go_at_call 69;(first|(with_reducible refine (slices_Contains_int_int.calls k1 _ _ (l0_1.take (x14_1:Int).toNat) (rd l0_1 x14_1) true _ ?side1 ?side2 A14.out).mono ?_)|(rw [← hl17_];(with_reducible refine (slices_Contains_int_int.calls k1 _ _ (l0_1.take (x14_1:Int).toNat) (rd l0_1 x14_1) true _ ?_ ?_ A14.out).mono ?_)));exact Kd.Cz ((Kd.C_below HR394.out HB.out));exact HC394.out;rintro e w' ⟨rfl,⟨nd,rfl⟩⟩))
    go_ret
    exact ⟨yer,yhb⟩
   replace H:=yff H
   replace H:=yam H
   obtain ⟨ad393,e393,hx393_0,p393,q393⟩:=yat HR0_1.out x14_1
   cases e393
   replace hx393_0:=ybx HB.out hx393_0
   obtain ⟨hcz18_0,hcz18_1,hcz18_2,hfz18_0,hfz18_1,hfz18_2⟩:=ybc BK391.out
   obtain ⟨i019,hi019,_,hsz19,_⟩:=info_parts info3
   obtain ⟨hcut19,hA19,hC19⟩:=print_take_of (P:=Try.prog) (Value.int .i64) 0 23 3 .i64 Try.underlying23 hi019 hsz19 (some ad393) c0_1 l0_1 x14_1 (ydt) (ydt) HC0_1.out
   have hl19_:(l0_1.take (x14_1:Int).toNat).length=(x14_1:Int).toNat:=by
    have e0_:0≤(x14_1:Int):=ydt
    have e1_:(x14_1:Int)≤(l0_1.length:Int):=ydt
    rw [List.length_take];omega
   have HR394:=yam (Kd.C_of_reads (h1:=fun _=>rfl) (hA19 _ (Kd.reads_of_C HR0_1.out)))
   have HC394:=yam hC19
   clear hA19 hC19 hi019 hsz19
   go_wp2_with (first|(go_at_call 69;(first|(with_reducible refine (slices_Contains_int_int.calls k1 _ _ (l0_1.take (x14_1:Int).toNat) (rd l0_1 x14_1) false _ ?side1 ?side2 A14.out).mono ?_)|(rw [← hl19_];(with_reducible refine (slices_Contains_int_int.calls k1 _ _ (l0_1.take (x14_1:Int).toNat) (rd l0_1 x14_1) false _ ?_ ?_ A14.out).mono ?_)));exact Kd.Cz ((Kd.C_below HR394.out HB.out));exact HC394.out;rintro e w' ⟨rfl,⟨nd,rfl⟩⟩))
   go_roundg k1
   case measure=>have:=HK1.out;omega
   case rel=>exact ⟨(wrap64 (x14_1 + 1)),yeq,H,⟨by have:=HK1.out;omega⟩,⟨ybk BK391.out⟩,⟨yhb⟩⟩
  replace H:=yit H;obtain ⟨c20,H⟩ | ⟨c20,H⟩:=H
  ·have c20b0:(a0_0 == 1)=true:=beq_iff_eq.mpr c20
   have c20b1:(a0_0 != 1)=false:=bne_eq_false_iff_eq.mpr c20
   clear c20
   replace H:=yit H;obtain ⟨c21,H⟩ | ⟨c21,H⟩:=H
   rotate_left
   ·have c21b0:decide (2≤(l0_1.length:Int))=false:=decide_eq_false c21
    have c21b1:decide (2≤l0_1.length)=false:=decide_eq_false (by omega)
    clear c21
    obtain rfl:=ysi H
    obtain ⟨hcz25_0,hcz25_1,hcz25_2,hfz25_0,hfz25_1,hfz25_2⟩:=ybc BK391.out
    go_wp2
    go_ret
    exact ⟨yer,yhb⟩
   have c21b0:decide (2≤(l0_1.length:Int))=true:=decide_eq_true c21
   have c21b1:decide (2≤l0_1.length)=true:=decide_eq_true (by omega)
   clear c21
   replace H:=yit H;obtain ⟨c22,H⟩ | ⟨c22,H⟩:=H
   ·have c22b0:decide ((l0_1.length:Int)≤4)=true:=decide_eq_true c22
    have c22b1:decide (l0_1.length≤4)=true:=decide_eq_true (by omega)
    clear c22
    obtain rfl:=ysi H
    obtain ⟨hcz23_0,hcz23_1,hcz23_2,hfz23_0,hfz23_1,hfz23_2⟩:=ybc BK391.out
    go_wp2
    go_ret
    exact ⟨yer,yhb⟩
   have c22b0:decide ((l0_1.length:Int)≤4)=false:=decide_eq_false c22
   have c22b1:decide (l0_1.length≤4)=false:=decide_eq_false (by omega)
   clear c22
   obtain rfl:=ysi H
   obtain ⟨hcz24_0,hcz24_1,hcz24_2,hfz24_0,hfz24_1,hfz24_2⟩:=ybc BK391.out
   go_wp2
   go_ret
   exact ⟨yer,yhb⟩
  have c20b0:(a0_0 == 1)=false:=beq_eq_false_iff_ne.mpr c20
  have c20b1:(a0_0 != 1)=true:=bne_iff_ne.mpr c20
  have HC26:=yam H
  clear H
  obtain ⟨hcz27_0,hcz27_1,hcz27_2,hfz27_0,hfz27_1,hfz27_2⟩:=ybc BK391.out
  go_upto_if 55 with (fail)
  go_cut [55] (fun v55 wc=>∃ (kq:Nat) (x55_25:Bool),v55= .bool x55_25∧Aside0 (impl_RuleValid.j1 kq a1 (l0_1.length:Int) a0_0 x55_25 a0_0 l0_1 a0_2=some r)∧Aside0 (kq≤k1)∧Aside0 (wc.heap[gb391]?=some (.cells #[.int .i64 a0_0,(.slice A0_1 l0_1.length c0_1),.int .i64 a0_2] 32 (0,0)))∧Aside0 (Below w.heap.size w wc))
  case first =>
   have H:=HC26.out
   clear HC26
   replace H:=yit H;obtain ⟨c28,H⟩ | ⟨c28,H⟩:=H
   rotate_left
   ·have c28b0:(a0_0 == 2)=false:=beq_eq_false_iff_ne.mpr c28
    have c28b1:(a0_0 != 2)=true:=bne_iff_ne.mpr c28
    (first|rw [c28b0]|(simp only [i64_w,i32_w];rw [c28b0])|skip)
    replace H:=yam H
    go_wp2
    go_meet
    case rel=>exact ⟨_,((a0_0 == 3)),yeq,H,⟨by have:=HK1.out;first|omega|exact Nat.le_refl _⟩,⟨ybk BK391.out⟩,⟨yhb⟩⟩
   have c28b0:(a0_0 == 2)=true:=beq_iff_eq.mpr c28
   have c28b1:(a0_0 != 2)=false:=bne_eq_false_iff_eq.mpr c28
   clear c28
   (first|rw [c28b0]|(simp only [i64_w,i32_w];rw [c28b0])|skip)
   replace H:=yam H
   go_wp2
   go_meet
   case rel=>exact ⟨_,((a0_0 == 2)),yeq,H,⟨by have:=HK1.out;first|omega|exact Nat.le_refl _⟩,⟨ybk BK391.out⟩,⟨yhb⟩⟩
  case rest =>
   clear HC26
   try clear c7b0
   try clear c20
   try clear c20b0
   try clear c20b1
   try clear hcz27_0
   try clear hcz27_1
   try clear hcz27_2
   try clear hfz27_0
   try clear hfz27_1
   try clear hfz27_2
   obtain ⟨kq,x55_25,rfl,HA,HJ25,BK391,HB⟩:=hcut
   rcases kq with _|kj25
   ·exact absurd HA.out (by simp [impl_RuleValid.j1])
   obtain ⟨H⟩:=HA
   simp only [impl_RuleValid.j1] at H
   cases x55_25
   rotate_left
   ·replace H:=ytt H
    replace H:=yit H;obtain ⟨c30,H⟩ | ⟨c30,H⟩:=H
    rotate_left
    ·have c30b0:decide (1≤(l0_1.length:Int))=false:=decide_eq_false c30
     have c30b1:decide (1≤l0_1.length)=false:=decide_eq_false (by omega)
     clear c30
     obtain rfl:=ysi H
     go_wp2
     go_ret
     exact ⟨yer,yhb⟩
    have c30b0:decide (1≤(l0_1.length:Int))=true:=decide_eq_true c30
    have c30b1:decide (1≤l0_1.length)=true:=decide_eq_true (by omega)
    clear c30
    replace H:=yit H;obtain ⟨c31,H⟩ | ⟨c31,H⟩:=H
    rotate_left
    ·have c31b0:decide ((l0_1.length:Int)≤4)=false:=decide_eq_false c31
     have c31b1:decide (l0_1.length≤4)=false:=decide_eq_false (by omega)
     clear c31
     obtain rfl:=ysi H
     go_wp2
     go_ret
     exact ⟨yer,yhb⟩
    have c31b0:decide ((l0_1.length:Int)≤4)=true:=decide_eq_true c31
    have c31b1:decide (l0_1.length≤4)=true:=decide_eq_true (by omega)
    clear c31
    replace H:=yis H;obtain ⟨c32b0,H⟩ | ⟨c32b0,H⟩:=H
    ·obtain rfl:=ysi H
     obtain ⟨hcz33_0,hcz33_1,hcz33_2,hfz33_0,hfz33_1,hfz33_2⟩:=ybc BK391.out
     go_wp2
     go_ret
     exact ⟨yer,yhb⟩
    obtain rfl:=ysi H
    obtain ⟨hcz34_0,hcz34_1,hcz34_2,hfz34_0,hfz34_1,hfz34_2⟩:=ybc BK391.out
    go_wp2
    go_ret
    exact ⟨yer,yhb⟩
   replace H:=yff H
   replace H:=yit H;obtain ⟨c35,H⟩ | ⟨c35,H⟩:=H
   ·have c35b0:(a0_0 == 4)=true:=beq_iff_eq.mpr c35
    have c35b1:(a0_0 != 4)=false:=bne_eq_false_iff_eq.mpr c35
    clear c35
    replace H:=yit H;obtain ⟨c36,H⟩ | ⟨c36,H⟩:=H
    rotate_left
    ·have c36b0:((l0_1.length:Int) == 2)=false:=beq_eq_false_iff_ne.mpr c36
     have c36b1:((l0_1.length:Int) != 2)=true:=bne_iff_ne.mpr c36
     obtain rfl:=ysi H
     go_wp2
     go_ret
     exact ⟨yer,yhb⟩
    have c36b0:((l0_1.length:Int) == 2)=true:=beq_iff_eq.mpr c36
    have c36b1:((l0_1.length:Int) != 2)=false:=bne_eq_false_iff_eq.mpr c36
    clear c36
    obtain rfl:=ysi H
    obtain ⟨hcz37_0,hcz37_1,hcz37_2,hfz37_0,hfz37_1,hfz37_2⟩:=ybc BK391.out
    go_wp2
    go_ret
    exact ⟨yer,yhb⟩
   have c35b0:(a0_0 == 4)=false:=beq_eq_false_iff_ne.mpr c35
   have c35b1:(a0_0 != 4)=true:=bne_iff_ne.mpr c35
   replace H:=yit H;obtain ⟨c38,H⟩ | ⟨c38,H⟩:=H
   rotate_left
   ·have c38b0:(a0_0 == 5)=false:=beq_eq_false_iff_ne.mpr c38
    have c38b1:(a0_0 != 5)=true:=bne_iff_ne.mpr c38
    obtain rfl:=ysi H
    go_wp2
    go_ret
    exact ⟨yer,yhb⟩
   have c38b0:(a0_0 == 5)=true:=beq_iff_eq.mpr c38
   have c38b1:(a0_0 != 5)=false:=bne_eq_false_iff_eq.mpr c38
   clear c38
   replace H:=yit H;obtain ⟨c39,H⟩ | ⟨c39,H⟩:=H
   rotate_left
   ·have c39b0:((l0_1.length:Int) == 2)=false:=beq_eq_false_iff_ne.mpr c39
    have c39b1:((l0_1.length:Int) != 2)=true:=bne_iff_ne.mpr c39
    obtain rfl:=ysi H
    go_wp2
    go_ret
    exact ⟨yer,yhb⟩
   have c39b0:((l0_1.length:Int) == 2)=true:=beq_iff_eq.mpr c39
   have c39b1:((l0_1.length:Int) != 2)=false:=bne_eq_false_iff_eq.mpr c39
   clear c39
   replace H:=yis H;obtain ⟨c40b0,H⟩ | ⟨c40b0,H⟩:=H
   ·obtain rfl:=ysi H
    obtain ⟨hcz41_0,hcz41_1,hcz41_2,hfz41_0,hfz41_1,hfz41_2⟩:=ybc BK391.out
    go_wp2
    go_ret
    exact ⟨yer,yhb⟩
   obtain rfl:=ysi H
   obtain ⟨hcz42_0,hcz42_1,hcz42_2,hfz42_0,hfz42_1,hfz42_2⟩:=ybc BK391.out
   go_wp2
   go_ret
   exact ⟨yer,yhb⟩
mutual
def spec_RuleValid.l0:Nat→Int→Int→Int→List Int→Int→Option (Bool)
 | 0,_,_,_,_,_=>none
 | k + 1,x1,x5,x397000,x397001,x397002=>if x5 < (x397001.length:Int) then (if 0≤x5 then ((spec_l1In.f (rd x397001 x5) 0 (wrap64 ((wrap64 (x1 * x1)) - 1))).bind fun t398=>(if t398=true then (spec_RuleValid.l1 k x1 x5 0 x397000 x397001 x397002) else (some false))) else (none)) else ((spec_l1In.f x1 2 4).bind fun t401=>(if t401=true then (spec_RuleValid.j2 k x1 (x397001.length:Int) (decide ((x397001.length:Int) > 4)) x397000 x397001 x397002) else (spec_RuleValid.j2 k x1 (x397001.length:Int) true x397000 x397001 x397002)))
def spec_RuleValid.l1:Nat→Int→Int→Int→Int→List Int→Int→Option (Bool)
 | 0,_,_,_,_,_,_=>none
 | k + 1,x1,x5,x6,x397000,x397001,x397002=>if x6 < x5 then (if 0≤x6 then (if x6 < (x397001.length:Int) then (if 0≤x5 then (if x5 < (x397001.length:Int) then (if (rd x397001 x6)=(rd x397001 x5) then (some false) else (spec_RuleValid.l1 k x1 x5 (wrap64 (x6 + 1)) x397000 x397001 x397002)) else (none)) else (none)) else (none)) else (none)) else (spec_RuleValid.l0 k x1 (wrap64 (x5 + 1)) x397000 x397001 x397002)
def spec_RuleValid.j2:Nat→Int→Int→Bool→Int→List Int→Int→Option (Bool)
 | 0,_,_,_,_,_,_=>none
 | k + 1,x1,x7,x51,x397000,x397001,x397002=>if x51=true then (some false) else (if x397000=1 then (if x7 ≥ 2 then (some (x397002 == 0)) else (some false)) else (if x397000=2 then (spec_RuleValid.j3 k x1 x7 x397000 (x397000 == 2) x397000 x397001 x397002) else (spec_RuleValid.j3 k x1 x7 x397000 (x397000 == 3) x397000 x397001 x397002)))
def spec_RuleValid.j3:Nat→Int→Int→Int→Bool→Int→List Int→Int→Option (Bool)
 | 0,_,_,_,_,_,_,_=>none
 | k + 1,x1,x7,x53,x63,x397000,x397001,x397002=>if x63=true then (if x7 ≥ 1 then ((spec_l1In.f x397002 1 (wrap64 ((wrap64 ((wrap64 (x1 * x1)) * x1)) * x1))).bind fun t402=>(some t402)) else (some false)) else (if x53=4 then (if x7=2 then (some (x397002 == 0)) else (some false)) else (if x53=5 then (if x7=2 then ((spec_l1In.f x397002 0 (wrap64 (x1 - 1))).bind fun t403=>(some t403)) else (some false)) else (some false)))
end
def spec_RuleValid.f (k:Nat)(a0_0:Int)(l0_1:List Int)(a0_2:Int)(a1:Int):Option (Bool):=spec_RuleValid.l0 k a1 0 a0_0 l0_1 a0_2
theorem spec_RuleValid.calls (k:Nat)(a0_0:Int)(A0_1:Option Addr)(c0_1:Nat)(l0_1:List Int)(a0_2:Int)(a1:Int)(r:Bool)(w:World)(hr0_1:Kd.C (Kd.int .i64) w A0_1 l0_1.length l0_1)(hc0_1:l0_1.length≤c0_1)(h:spec_RuleValid.f k a0_0 l0_1 a0_2 a1=some r) :
  Calls Try.prog 24 #[.agg #[.int .i64 a0_0,.slice A0_1 l0_1.length c0_1,.int .i64 a0_2],.int .i64 a1] w fun e w'=>e= .returned (.bool r)∧Below w.heap.size w w':=by
 have hu32:=Try.underlying32
 have HR0_1:=yam hr0_1
 have HC0_1:=yam hc0_1
 clear hr0_1 hc0_1
 have HB:=yam (Below.refl w.heap.size w)
 unfold spec_RuleValid.f at h
 have H:=h
 clear h
 replace H:=yam H
 go_enter Try.func24,Try.ntmps24
 go_wp2_with (first|(refine ybe 2 #[.int .i64 a0_0,.slice A0_1 l0_1.length c0_1,.int .i64 a0_2] 32 ?_;intro gb396 hg w3 hbox hb;have BK396:=yam (hbox);have GW396:=yam ((by rw [hg];exact (below_size (yez HB.out)):w.heap.size≤gb396));replace HB:=yam (below_step (yez HB.out) hb);have GE396:=GW396;clear hb hbox hg))
 repeat (go_quiet (first|(refine ybe 2 #[.int .i64 a0_0,.slice A0_1 l0_1.length c0_1,.int .i64 a0_2] 32 ?_;intro gb396 hg w3 hbox hb;have BK396:=yam (hbox);have GW396:=yam ((by rw [hg];exact (below_size (yez HB.out)):w.heap.size≤gb396));replace HB:=yam (below_step (yez HB.out) hb);have GE396:=GW396;clear hb hbox hg));try go_wp2_with (first|(refine ybe 2 #[.int .i64 a0_0,.slice A0_1 l0_1.length c0_1,.int .i64 a0_2] 32 ?_;intro gb396 hg w3 hbox hb;have BK396:=yam (hbox);have GW396:=yam ((by rw [hg];exact (below_size (yez HB.out)):w.heap.size≤gb396));replace HB:=yam (below_step (yez HB.out) hb);have GE396:=GW396;clear hb hbox hg)))
 go_loopg [5] k (fun kq v5 w'=>∃ (x5_1:Int),v5= .int .i64 x5_1∧Aside0 (spec_RuleValid.l0 kq a1 x5_1 a0_0 l0_1 a0_2=some r)∧Aside0 (kq≤k)∧Aside0 (w'.heap[gb396]?=some (.cells #[.int .i64 a0_0,(.slice A0_1 l0_1.length c0_1),.int .i64 a0_2] 32 (0,0)))∧Aside0 (Below w.heap.size w w'))
 case atStart=>exact ⟨(0),yeq,H,⟨Nat.le_refl _⟩,⟨ybk BK396.out⟩,⟨yhb⟩⟩
 case round =>
  clear H
  obtain ⟨x5_1,rfl,HA,HK1,BK396,HB⟩:=hrel
  rcases gk with _|k1
  ·exact absurd HA.out (by simp [spec_RuleValid.l0])
  obtain ⟨H⟩:=HA
  simp only [spec_RuleValid.l0] at H
  replace H:=yis H;obtain ⟨c4b0,H⟩ | ⟨c4b0,H⟩:=H
  ·replace H:=yif H;obtain ⟨c5b0,H⟩:=H
   replace H:=ybi H;obtain ⟨t398,A6,H⟩:=H
   try dsimp only at H
   cases t398
   ·replace H:=yff H
    obtain rfl:=ysi H
    obtain ⟨hcz17_0,hcz17_1,hcz17_2,hfz17_0,hfz17_1,hfz17_2⟩:=ybc BK396.out
    obtain ⟨ad397,e397,hx397_0,p397,q397⟩:=yat HR0_1.out x5_1
    cases e397
    replace hx397_0:=ybx HB.out hx397_0
    have hwq0_:IntKind.i64.wrap (a1 * a1)=wrap64 (a1 * a1):=i64_w _
    have hwq1_:IntKind.i64.wrap ((wrap64 (a1 * a1)) - 1)=wrap64 ((wrap64 (a1 * a1)) - 1):=i64_w _
    go_wp2_with (first|(go_at_call 70;(with_reducible refine (spec_l1In.calls (rd l0_1 x5_1) 0 (wrap64 ((wrap64 (a1 * a1)) - 1)) false _ A6.out).mono ?_);rintro e w' ⟨rfl,⟨nd,rfl⟩⟩;(try first|exact ⟨rfl,_,World.drewN_drewN _ _ _⟩|exact ⟨rfl,_,Eq.trans (World.drewN_drewN _ _ _) (congrArg (World.drewN _) (Nat.add_assoc _ _ _))⟩)))
    repeat (go_quiet (first|(go_at_call 70;(with_reducible refine (spec_l1In.calls (rd l0_1 x5_1) 0 (wrap64 ((wrap64 (a1 * a1)) - 1)) false _ A6.out).mono ?_);rintro e w' ⟨rfl,⟨nd,rfl⟩⟩;(try first|exact ⟨rfl,_,World.drewN_drewN _ _ _⟩|exact ⟨rfl,_,Eq.trans (World.drewN_drewN _ _ _) (congrArg (World.drewN _) (Nat.add_assoc _ _ _))⟩)));try go_wp2_with (first|(go_at_call 70;(with_reducible refine (spec_l1In.calls (rd l0_1 x5_1) 0 (wrap64 ((wrap64 (a1 * a1)) - 1)) false _ A6.out).mono ?_);rintro e w' ⟨rfl,⟨nd,rfl⟩⟩;(try first|exact ⟨rfl,_,World.drewN_drewN _ _ _⟩|exact ⟨rfl,_,Eq.trans (World.drewN_drewN _ _ _) (congrArg (World.drewN _) (Nat.add_assoc _ _ _))⟩))))
    go_ret
    exact ⟨yer,yhb⟩
   replace H:=ytt H
   replace H:=yam H
   obtain ⟨hcz8_0,hcz8_1,hcz8_2,hfz8_0,hfz8_1,hfz8_2⟩:=ybc BK396.out
   obtain ⟨ad397,e397,hx397_0,p397,q397⟩:=yat HR0_1.out x5_1
   cases e397
   replace hx397_0:=ybx HB.out hx397_0
   have hwq0_:IntKind.i64.wrap (a1 * a1)=wrap64 (a1 * a1):=i64_w _
   have hwq1_:IntKind.i64.wrap ((wrap64 (a1 * a1)) - 1)=wrap64 ((wrap64 (a1 * a1)) - 1):=i64_w _
   go_wp2_with (first|(go_at_call 70;(with_reducible refine (spec_l1In.calls (rd l0_1 x5_1) 0 (wrap64 ((wrap64 (a1 * a1)) - 1)) true _ A6.out).mono ?_);rintro e w' ⟨rfl,⟨nd,rfl⟩⟩;(try first|exact ⟨rfl,_,World.drewN_drewN _ _ _⟩|exact ⟨rfl,_,Eq.trans (World.drewN_drewN _ _ _) (congrArg (World.drewN _) (Nat.add_assoc _ _ _))⟩)))
   repeat (go_quiet (first|(go_at_call 70;(with_reducible refine (spec_l1In.calls (rd l0_1 x5_1) 0 (wrap64 ((wrap64 (a1 * a1)) - 1)) true _ A6.out).mono ?_);rintro e w' ⟨rfl,⟨nd,rfl⟩⟩;(try first|exact ⟨rfl,_,World.drewN_drewN _ _ _⟩|exact ⟨rfl,_,Eq.trans (World.drewN_drewN _ _ _) (congrArg (World.drewN _) (Nat.add_assoc _ _ _))⟩)));try go_wp2_with (first|(go_at_call 70;(with_reducible refine (spec_l1In.calls (rd l0_1 x5_1) 0 (wrap64 ((wrap64 (a1 * a1)) - 1)) true _ A6.out).mono ?_);rintro e w' ⟨rfl,⟨nd,rfl⟩⟩;(try first|exact ⟨rfl,_,World.drewN_drewN _ _ _⟩|exact ⟨rfl,_,Eq.trans (World.drewN_drewN _ _ _) (congrArg (World.drewN _) (Nat.add_assoc _ _ _))⟩))))
   go_loopg [6] k1 (fun kq v6 w'=>∃ (x6_2:Int),v6= .int .i64 x6_2∧Aside0 (spec_RuleValid.l1 kq a1 x5_1 x6_2 a0_0 l0_1 a0_2=some r)∧Aside0 (kq≤k1)∧Aside0 (w'.heap[gb396]?=some (.cells #[.int .i64 a0_0,(.slice (some ad397) l0_1.length c0_1),.int .i64 a0_2] 32 (0,0)))∧Aside0 (Below w.heap.size w w'))
   case atStart=>exact ⟨(0),yeq,H,⟨Nat.le_refl _⟩,⟨ybk BK396.out⟩,⟨yhb⟩⟩
   case round =>
    clear H
    try clear c4b0
    try clear c5b0
    try clear hcz8_0
    try clear hcz8_1
    try clear hcz8_2
    try clear hfz8_0
    try clear hfz8_1
    try clear hfz8_2
    try clear hx397_0
    try clear p397
    try clear q397
    obtain ⟨x6_2,rfl,HA,HK2,BK396,HB⟩:=hrel
    rcases gk with _|k2
    ·exact absurd HA.out (by simp [spec_RuleValid.l1])
    obtain ⟨H⟩:=HA
    simp only [spec_RuleValid.l1] at H
    replace H:=yis H;obtain ⟨c9b0,H⟩ | ⟨c9b0,H⟩:=H
    rotate_left
    ·replace H:=yam H
     go_wp2
     repeat (go_quiet (fail);try go_wp2)
     go_roundg k2
     case measure=>have:=HK1.out;have:=HK2.out;omega
     case rel=>exact ⟨(wrap64 (x5_1 + 1)),yeq,H,⟨by have:=HK1.out;have:=HK2.out;omega⟩,⟨ybk BK396.out⟩,⟨yhb⟩⟩
    replace H:=yif H;obtain ⟨c10b0,H⟩:=H
    replace H:=yif H;obtain ⟨c11b0,H⟩:=H
    replace H:=yif H;obtain ⟨c12b0,H⟩:=H
    replace H:=yif H;obtain ⟨c13b0,H⟩:=H
    replace H:=yit H;obtain ⟨c14,H⟩ | ⟨c14,H⟩:=H
    ·have c14b0:((rd l0_1 x6_2) == (rd l0_1 x5_1))=true:=beq_iff_eq.mpr c14
     have c14b1:((rd l0_1 x6_2) != (rd l0_1 x5_1))=false:=bne_eq_false_iff_eq.mpr c14
     clear c14
     obtain rfl:=ysi H
     obtain ⟨hcz15_0,hcz15_1,hcz15_2,hfz15_0,hfz15_1,hfz15_2⟩:=ybc BK396.out
     obtain ⟨ad399,e399,hx399_0,p399,q399⟩:=yat HR0_1.out x6_2
     obtain rfl:ad397=ad399:=(by injection e399)
     replace hx399_0:=ybx HB.out hx399_0
     obtain ⟨ad400,e400,hx400_0,p400,q400⟩:=yat HR0_1.out x5_1
     obtain rfl:ad397=ad400:=(by injection e400)
     replace hx400_0:=ybx HB.out hx400_0
     go_wp2
     repeat (go_quiet (fail);try go_wp2)
     go_ret
     exact ⟨yer,yhb⟩
    have c14b0:((rd l0_1 x6_2) == (rd l0_1 x5_1))=false:=beq_eq_false_iff_ne.mpr c14
    have c14b1:((rd l0_1 x6_2) != (rd l0_1 x5_1))=true:=bne_iff_ne.mpr c14
    replace H:=yam H
    obtain ⟨hcz16_0,hcz16_1,hcz16_2,hfz16_0,hfz16_1,hfz16_2⟩:=ybc BK396.out
    obtain ⟨ad399,e399,hx399_0,p399,q399⟩:=yat HR0_1.out x6_2
    obtain rfl:ad397=ad399:=(by injection e399)
    replace hx399_0:=ybx HB.out hx399_0
    obtain ⟨ad400,e400,hx400_0,p400,q400⟩:=yat HR0_1.out x5_1
    obtain rfl:ad397=ad400:=(by injection e400)
    replace hx400_0:=ybx HB.out hx400_0
    go_wp2
    repeat (go_quiet (fail);try go_wp2)
    go_roundg k2
    case measure=>have:=HK1.out;have:=HK2.out;omega
    case rel=>exact ⟨(wrap64 (x6_2 + 1)),yeq,H,⟨by have:=HK1.out;have:=HK2.out;omega⟩,⟨ybk BK396.out⟩,⟨yhb⟩⟩
  have HC18:=yam H
  clear H
  obtain ⟨hcz19_0,hcz19_1,hcz19_2,hfz19_0,hfz19_1,hfz19_2⟩:=ybc BK396.out
  go_upto_region 12 with (fail)
  repeat (go_quiet (fail);go_upto_region 12 with (fail))
  go_cut [51] (fun v51 wc=>∃ (kq:Nat) (x51_17:Bool),v51= .bool x51_17∧Aside0 (spec_RuleValid.j2 kq a1 (l0_1.length:Int) x51_17 a0_0 l0_1 a0_2=some r)∧Aside0 (kq≤k1)∧Aside0 (wc.heap[gb396]?=some (.cells #[.int .i64 a0_0,(.slice A0_1 l0_1.length c0_1),.int .i64 a0_2] 32 (0,0)))∧Aside0 (Below w.heap.size w wc))
  case first =>
   have H:=HC18.out
   clear HC18
   replace H:=ybi H;obtain ⟨t401,A20,H⟩:=H
   try dsimp only at H
   cases t401
   rotate_left
   ·replace H:=ytt H
    replace H:=yam H
    go_wp2_with (first|(go_at_call 70;(with_reducible refine (spec_l1In.calls a1 2 4 true _ A20.out).mono ?_);rintro e w' ⟨rfl,⟨nd,rfl⟩⟩;(try first|exact ⟨rfl,_,World.drewN_drewN _ _ _⟩|exact ⟨rfl,_,Eq.trans (World.drewN_drewN _ _ _) (congrArg (World.drewN _) (Nat.add_assoc _ _ _))⟩)))
    repeat (go_quiet (first|(go_at_call 70;(with_reducible refine (spec_l1In.calls a1 2 4 true _ A20.out).mono ?_);rintro e w' ⟨rfl,⟨nd,rfl⟩⟩;(try first|exact ⟨rfl,_,World.drewN_drewN _ _ _⟩|exact ⟨rfl,_,Eq.trans (World.drewN_drewN _ _ _) (congrArg (World.drewN _) (Nat.add_assoc _ _ _))⟩)));try go_wp2_with (first|(go_at_call 70;(with_reducible refine (spec_l1In.calls a1 2 4 true _ A20.out).mono ?_);rintro e w' ⟨rfl,⟨nd,rfl⟩⟩;(try first|exact ⟨rfl,_,World.drewN_drewN _ _ _⟩|exact ⟨rfl,_,Eq.trans (World.drewN_drewN _ _ _) (congrArg (World.drewN _) (Nat.add_assoc _ _ _))⟩))))
    go_meet
    case rel=>exact ⟨_,(decide ((l0_1.length:Int) > 4)),yeq,H,⟨by have:=HK1.out;first|omega|exact Nat.le_refl _⟩,⟨ybk BK396.out⟩,⟨yhb⟩⟩
   replace H:=yff H
   replace H:=yam H
   go_wp2_with (first|(go_at_call 70;(with_reducible refine (spec_l1In.calls a1 2 4 false _ A20.out).mono ?_);rintro e w' ⟨rfl,⟨nd,rfl⟩⟩;(try first|exact ⟨rfl,_,World.drewN_drewN _ _ _⟩|exact ⟨rfl,_,Eq.trans (World.drewN_drewN _ _ _) (congrArg (World.drewN _) (Nat.add_assoc _ _ _))⟩)))
   repeat (go_quiet (first|(go_at_call 70;(with_reducible refine (spec_l1In.calls a1 2 4 false _ A20.out).mono ?_);rintro e w' ⟨rfl,⟨nd,rfl⟩⟩;(try first|exact ⟨rfl,_,World.drewN_drewN _ _ _⟩|exact ⟨rfl,_,Eq.trans (World.drewN_drewN _ _ _) (congrArg (World.drewN _) (Nat.add_assoc _ _ _))⟩)));try go_wp2_with (first|(go_at_call 70;(with_reducible refine (spec_l1In.calls a1 2 4 false _ A20.out).mono ?_);rintro e w' ⟨rfl,⟨nd,rfl⟩⟩;(try first|exact ⟨rfl,_,World.drewN_drewN _ _ _⟩|exact ⟨rfl,_,Eq.trans (World.drewN_drewN _ _ _) (congrArg (World.drewN _) (Nat.add_assoc _ _ _))⟩))))
   go_meet
   case rel=>exact ⟨_,(true),yeq,H,⟨by have:=HK1.out;first|omega|exact Nat.le_refl _⟩,⟨ybk BK396.out⟩,⟨yhb⟩⟩
  case rest =>
   clear HC18
   try clear c4b0
   try clear hcz19_0
   try clear hcz19_1
   try clear hcz19_2
   try clear hfz19_0
   try clear hfz19_1
   try clear hfz19_2
   obtain ⟨kq,x51_17,rfl,HA,HJ17,BK396,HB⟩:=hcut
   rcases kq with _|kj17
   ·exact absurd HA.out (by simp [spec_RuleValid.j2])
   obtain ⟨H⟩:=HA
   simp only [spec_RuleValid.j2] at H
   cases x51_17
   rotate_left
   ·replace H:=ytt H
    obtain rfl:=ysi H
    go_wp2
    repeat (go_quiet (fail);try go_wp2)
    go_ret
    exact ⟨yer,yhb⟩
   replace H:=yff H
   replace H:=yit H;obtain ⟨c23,H⟩ | ⟨c23,H⟩:=H
   ·have c23b0:(a0_0 == 1)=true:=beq_iff_eq.mpr c23
    have c23b1:(a0_0 != 1)=false:=bne_eq_false_iff_eq.mpr c23
    clear c23
    replace H:=yit H;obtain ⟨c24,H⟩ | ⟨c24,H⟩:=H
    ·have c24b0:decide (2≤(l0_1.length:Int))=true:=decide_eq_true c24
     have c24b1:decide (2≤l0_1.length)=true:=decide_eq_true (by omega)
     clear c24
     obtain rfl:=ysi H
     obtain ⟨hcz25_0,hcz25_1,hcz25_2,hfz25_0,hfz25_1,hfz25_2⟩:=ybc BK396.out
     go_wp2
     repeat (go_quiet (fail);try go_wp2)
     go_ret
     exact ⟨yer,yhb⟩
    have c24b0:decide (2≤(l0_1.length:Int))=false:=decide_eq_false c24
    have c24b1:decide (2≤l0_1.length)=false:=decide_eq_false (by omega)
    clear c24
    obtain rfl:=ysi H
    obtain ⟨hcz26_0,hcz26_1,hcz26_2,hfz26_0,hfz26_1,hfz26_2⟩:=ybc BK396.out
    go_wp2
    repeat (go_quiet (fail);try go_wp2)
    go_ret
    exact ⟨yer,yhb⟩
   have c23b0:(a0_0 == 1)=false:=beq_eq_false_iff_ne.mpr c23
   have c23b1:(a0_0 != 1)=true:=bne_iff_ne.mpr c23
   have HC27:=yam H
   clear H
   obtain ⟨hcz28_0,hcz28_1,hcz28_2,hfz28_0,hfz28_1,hfz28_2⟩:=ybc BK396.out
   go_upto_if 63 with (fail)
   repeat (go_quiet (fail);go_upto_if 63 with (fail))
   go_cut [63] (fun v63 wc=>∃ (kq:Nat) (x63_26:Bool),v63= .bool x63_26∧Aside0 (spec_RuleValid.j3 kq a1 (l0_1.length:Int) a0_0 x63_26 a0_0 l0_1 a0_2=some r)∧Aside0 (kq≤kj17)∧Aside0 (wc.heap[gb396]?=some (.cells #[.int .i64 a0_0,(.slice A0_1 l0_1.length c0_1),.int .i64 a0_2] 32 (0,0)))∧Aside0 (Below w.heap.size w wc))
   case first =>
    have H:=HC27.out
    clear HC27
    replace H:=yit H;obtain ⟨c29,H⟩ | ⟨c29,H⟩:=H
    rotate_left
    ·have c29b0:(a0_0 == 2)=false:=beq_eq_false_iff_ne.mpr c29
     have c29b1:(a0_0 != 2)=true:=bne_iff_ne.mpr c29
     (first|rw [c29b0]|(simp only [i64_w,i32_w];rw [c29b0])|skip)
     replace H:=yam H
     go_wp2
     repeat (go_quiet (fail);try go_wp2)
     go_meet
     case rel=>exact ⟨_,((a0_0 == 3)),yeq,H,⟨by have:=HK1.out;have:=HJ17.out;first|omega|exact Nat.le_refl _⟩,⟨ybk BK396.out⟩,⟨yhb⟩⟩
    have c29b0:(a0_0 == 2)=true:=beq_iff_eq.mpr c29
    have c29b1:(a0_0 != 2)=false:=bne_eq_false_iff_eq.mpr c29
    clear c29
    (first|rw [c29b0]|(simp only [i64_w,i32_w];rw [c29b0])|skip)
    replace H:=yam H
    go_wp2
    repeat (go_quiet (fail);try go_wp2)
    go_meet
    case rel=>exact ⟨_,((a0_0 == 2)),yeq,H,⟨by have:=HK1.out;have:=HJ17.out;first|omega|exact Nat.le_refl _⟩,⟨ybk BK396.out⟩,⟨yhb⟩⟩
   case rest =>
    clear HC27
    try clear c23
    try clear c23b0
    try clear c23b1
    try clear hcz28_0
    try clear hcz28_1
    try clear hcz28_2
    try clear hfz28_0
    try clear hfz28_1
    try clear hfz28_2
    obtain ⟨kq,x63_26,rfl,HA,HJ26,BK396,HB⟩:=hcut
    rcases kq with _|kj26
    ·exact absurd HA.out (by simp [spec_RuleValid.j3])
    obtain ⟨H⟩:=HA
    simp only [spec_RuleValid.j3] at H
    cases x63_26
    rotate_left
    ·replace H:=ytt H
     replace H:=yit H;obtain ⟨c31,H⟩ | ⟨c31,H⟩:=H
     rotate_left
     ·have c31b0:decide (1≤(l0_1.length:Int))=false:=decide_eq_false c31
      have c31b1:decide (1≤l0_1.length)=false:=decide_eq_false (by omega)
      clear c31
      obtain rfl:=ysi H
      go_wp2
      repeat (go_quiet (fail);try go_wp2)
      go_ret
      exact ⟨yer,yhb⟩
     have c31b0:decide (1≤(l0_1.length:Int))=true:=decide_eq_true c31
     have c31b1:decide (1≤l0_1.length)=true:=decide_eq_true (by omega)
     clear c31
     replace H:=ybi H;obtain ⟨t402,A32,H⟩:=H
     try dsimp only at H
     obtain rfl:=ysi H
     obtain ⟨hcz33_0,hcz33_1,hcz33_2,hfz33_0,hfz33_1,hfz33_2⟩:=ybc BK396.out
     have hwq0_:IntKind.i64.wrap (a1 * a1)=wrap64 (a1 * a1):=i64_w _
     have hwq1_:IntKind.i64.wrap ((wrap64 (a1 * a1)) * a1)=wrap64 ((wrap64 (a1 * a1)) * a1):=i64_w _
     have hwq2_:IntKind.i64.wrap ((wrap64 ((wrap64 (a1 * a1)) * a1)) * a1)=wrap64 ((wrap64 ((wrap64 (a1 * a1)) * a1)) * a1):=i64_w _
     go_wp2_with (first|(go_at_call 70;(with_reducible refine (spec_l1In.calls a0_2 1 (wrap64 ((wrap64 ((wrap64 (a1 * a1)) * a1)) * a1)) t402 _ A32.out).mono ?_);rintro e w' ⟨rfl,⟨nd,rfl⟩⟩;(try first|exact ⟨rfl,_,World.drewN_drewN _ _ _⟩|exact ⟨rfl,_,Eq.trans (World.drewN_drewN _ _ _) (congrArg (World.drewN _) (Nat.add_assoc _ _ _))⟩)))
     repeat (go_quiet (first|(go_at_call 70;(with_reducible refine (spec_l1In.calls a0_2 1 (wrap64 ((wrap64 ((wrap64 (a1 * a1)) * a1)) * a1)) t402 _ A32.out).mono ?_);rintro e w' ⟨rfl,⟨nd,rfl⟩⟩;(try first|exact ⟨rfl,_,World.drewN_drewN _ _ _⟩|exact ⟨rfl,_,Eq.trans (World.drewN_drewN _ _ _) (congrArg (World.drewN _) (Nat.add_assoc _ _ _))⟩)));try go_wp2_with (first|(go_at_call 70;(with_reducible refine (spec_l1In.calls a0_2 1 (wrap64 ((wrap64 ((wrap64 (a1 * a1)) * a1)) * a1)) t402 _ A32.out).mono ?_);rintro e w' ⟨rfl,⟨nd,rfl⟩⟩;(try first|exact ⟨rfl,_,World.drewN_drewN _ _ _⟩|exact ⟨rfl,_,Eq.trans (World.drewN_drewN _ _ _) (congrArg (World.drewN _) (Nat.add_assoc _ _ _))⟩))))
     go_ret
     exact ⟨yer,yhb⟩
    replace H:=yff H
    replace H:=yit H;obtain ⟨c34,H⟩ | ⟨c34,H⟩:=H
    ·have c34b0:(a0_0 == 4)=true:=beq_iff_eq.mpr c34
     have c34b1:(a0_0 != 4)=false:=bne_eq_false_iff_eq.mpr c34
     clear c34
     replace H:=yit H;obtain ⟨c35,H⟩ | ⟨c35,H⟩:=H
     rotate_left
     ·have c35b0:((l0_1.length:Int) == 2)=false:=beq_eq_false_iff_ne.mpr c35
      have c35b1:((l0_1.length:Int) != 2)=true:=bne_iff_ne.mpr c35
      obtain rfl:=ysi H
      go_wp2
      repeat (go_quiet (fail);try go_wp2)
      go_ret
      exact ⟨yer,yhb⟩
     have c35b0:((l0_1.length:Int) == 2)=true:=beq_iff_eq.mpr c35
     have c35b1:((l0_1.length:Int) != 2)=false:=bne_eq_false_iff_eq.mpr c35
     clear c35
     obtain rfl:=ysi H
     obtain ⟨hcz36_0,hcz36_1,hcz36_2,hfz36_0,hfz36_1,hfz36_2⟩:=ybc BK396.out
     go_wp2
     repeat (go_quiet (fail);try go_wp2)
     go_ret
     exact ⟨yer,yhb⟩
    have c34b0:(a0_0 == 4)=false:=beq_eq_false_iff_ne.mpr c34
    have c34b1:(a0_0 != 4)=true:=bne_iff_ne.mpr c34
    replace H:=yit H;obtain ⟨c37,H⟩ | ⟨c37,H⟩:=H
    rotate_left
    ·have c37b0:(a0_0 == 5)=false:=beq_eq_false_iff_ne.mpr c37
     have c37b1:(a0_0 != 5)=true:=bne_iff_ne.mpr c37
     obtain rfl:=ysi H
     go_wp2
     repeat (go_quiet (fail);try go_wp2)
     go_ret
     exact ⟨yer,yhb⟩
    have c37b0:(a0_0 == 5)=true:=beq_iff_eq.mpr c37
    have c37b1:(a0_0 != 5)=false:=bne_eq_false_iff_eq.mpr c37
    clear c37
    replace H:=yit H;obtain ⟨c38,H⟩ | ⟨c38,H⟩:=H
    rotate_left
    ·have c38b0:((l0_1.length:Int) == 2)=false:=beq_eq_false_iff_ne.mpr c38
     have c38b1:((l0_1.length:Int) != 2)=true:=bne_iff_ne.mpr c38
     obtain rfl:=ysi H
     go_wp2
     repeat (go_quiet (fail);try go_wp2)
     go_ret
     exact ⟨yer,yhb⟩
    have c38b0:((l0_1.length:Int) == 2)=true:=beq_iff_eq.mpr c38
    have c38b1:((l0_1.length:Int) != 2)=false:=bne_eq_false_iff_eq.mpr c38
    clear c38
    replace H:=ybi H;obtain ⟨t403,A39,H⟩:=H
    try dsimp only at H
    obtain rfl:=ysi H
    obtain ⟨hcz40_0,hcz40_1,hcz40_2,hfz40_0,hfz40_1,hfz40_2⟩:=ybc BK396.out
    have hwq0_:IntKind.i64.wrap (a1 - 1)=wrap64 (a1 - 1):=i64_w _
    go_wp2_with (first|(go_at_call 70;(with_reducible refine (spec_l1In.calls a0_2 0 (wrap64 (a1 - 1)) t403 _ A39.out).mono ?_);rintro e w' ⟨rfl,⟨nd,rfl⟩⟩;(try first|exact ⟨rfl,_,World.drewN_drewN _ _ _⟩|exact ⟨rfl,_,Eq.trans (World.drewN_drewN _ _ _) (congrArg (World.drewN _) (Nat.add_assoc _ _ _))⟩)))
    repeat (go_quiet (first|(go_at_call 70;(with_reducible refine (spec_l1In.calls a0_2 0 (wrap64 (a1 - 1)) t403 _ A39.out).mono ?_);rintro e w' ⟨rfl,⟨nd,rfl⟩⟩;(try first|exact ⟨rfl,_,World.drewN_drewN _ _ _⟩|exact ⟨rfl,_,Eq.trans (World.drewN_drewN _ _ _) (congrArg (World.drewN _) (Nat.add_assoc _ _ _))⟩)));try go_wp2_with (first|(go_at_call 70;(with_reducible refine (spec_l1In.calls a0_2 0 (wrap64 (a1 - 1)) t403 _ A39.out).mono ?_);rintro e w' ⟨rfl,⟨nd,rfl⟩⟩;(try first|exact ⟨rfl,_,World.drewN_drewN _ _ _⟩|exact ⟨rfl,_,Eq.trans (World.drewN_drewN _ _ _) (congrArg (World.drewN _) (Nat.add_assoc _ _ _))⟩))))
    go_ret
    exact ⟨yer,yhb⟩
def laws_FnRuleValid.j0:Nat→Int→Bool→Int→List Int→Int→Option (Bool)
 | 0,_,_,_,_,_=>none
 | k + 1,x4,x29,x411000,x411001,x411002=>if x29=true then ((laws_alive.f k).bind fun t413=>(some t413)) else ((some (([]:List Int):List Int)).bind fun y414=>(if y414.length + x411001.length < 17592186044416 then ((some (y414 ++ x411001:List Int)).bind fun y417=>(if 0 < (x411001.length:Int) then ((some (([rd x411001 0]:List Int):List Int)).bind fun y421=>(if y417.length + y421.length < 17592186044416 then ((impl_RuleValid.f k x411000 (y417 ++ y421) x411002 x4).bind fun t427=>(if t427=true then (some false) else ((impl_RuleValid.f k 6 x411001 x411002 x4).bind fun t428=>(some (!t428))))) else (none))) else (none))) else (none)))
def laws_FnRuleValid.f (k:Nat)(l0:List Int):Option (Bool):=if (l0.length:Int) > 1048576 then (some true) else ((spec_DrawRuleValid.f k l0).bind fun bt404=>((impl_RuleValid.f k bt404.1 bt404.2.1 bt404.2.2.1 bt404.2.2.2).bind fun t411=>((spec_RuleValid.f k bt404.1 bt404.2.1 bt404.2.2.1 bt404.2.2.2).bind fun t412=>(if (t411 != t412)=true then (some false) else (if t411=true then (laws_FnRuleValid.j0 k bt404.2.2.2 ((bt404.2.1.length:Int) == 0) bt404.1 bt404.2.1 bt404.2.2.1) else (laws_FnRuleValid.j0 k bt404.2.2.2 true bt404.1 bt404.2.1 bt404.2.2.1))))))
def laws_FnRuleValid.T9:Bool × List (List Nat × List Nat):=(true,[([],[]),([0],[0]),([],[]),([],[]),([3],[3]),([2,4],[2,4]),([],[]),([6],[6]),([7],[7]),([8],[8]),([9],[9]),([5,10,5],[5,10]),([],[]),([12],[12]),([1,11,13],[1,11,13]),([],[]),([14,15,11],[14,15]),([16],[16]),([17,16],[17]),([18],[18]),([19,18],[18,19]),([18],[18]),([21,18],[18,21]),([20,22,18],[18,20,22]),([18],[18]),([23,24,18,18],[18,23,24]),([25,18],[18,25]),([18,26],[18,26]),([27,25,0,1,2,3,4,5,6,7,8,9,10,11,12,13,14,15,16,17,18,19,20,21,22,23,24,25,26,27],[27])])
def laws_FnRuleValid.B9:List Nat:=[0,1,0,0,8,28,0,64,192,448,960,2044,0,4096,16383,0,65535,131071,262143,524287,1048575,524287,2621439,8388607,524287,33554431,67108863,134217727,268435455]
theorem laws_FnRuleValid.tab9:rtab .any (opsOf Try.f4 9)=laws_FnRuleValid.T9:=by kernel_rfl
theorem laws_FnRuleValid.bits9:waitsOk laws_FnRuleValid.T9.2 laws_FnRuleValid.B9=true:=by kernel_rfl
theorem laws_FnRuleValid.calls (k:Nat)(A0:Option Addr)(c0:Nat)(l0:List Int)(r:Bool)(w:World)(hr0:Kd.C (Kd.int .u8) w A0 l0.length l0)(hc0:l0.length≤c0)(h:laws_FnRuleValid.f k l0=some r) :
  Calls Try.prog 4 #[.slice A0 l0.length c0] w fun e w'=>e= .returned (.bool r)∧Below w.heap.size w w':=by
 have hu32:=Try.underlying32
 have HR0:=yam hr0
 have HC0:=yam hc0
 clear hr0 hc0
 have HB:=yam (Below.refl w.heap.size w)
 unfold laws_FnRuleValid.f at h
 have H:=h
 clear h
 replace H:=yit H;obtain ⟨c2,H⟩ | ⟨c2,H⟩:=H
 ·have c2b0:decide (1048576 < (l0.length:Int))=true:=decide_eq_true c2
  have c2b1:decide (1048576 < l0.length)=true:=decide_eq_true (by omega)
  clear c2
  obtain rfl:=ysi H
  go_enter Try.func4,Try.ntmps4
  go_wp2
  go_ret
  exact ⟨yer,yhb⟩
 have c2b0:decide (1048576 < (l0.length:Int))=false:=decide_eq_false c2
 have c2b1:decide (1048576 < l0.length)=false:=decide_eq_false (by omega)
 clear c2
 replace H:=ybi H;obtain ⟨⟨t404,t405,t408,t409⟩,A3,H⟩:=H
 try dsimp only at H
 replace H:=ybi H;obtain ⟨t411,A4,H⟩:=H
 try dsimp only at H
 replace H:=ybi H;obtain ⟨t412,A5,H⟩:=H
 try dsimp only at H
 replace H:=yit H;obtain ⟨c6,H⟩ | ⟨c6,H⟩:=H
 ·have c6b0:(t411 != t412)=true:=c6
  (try (have c6b1:decide (t411=t412)=false:=by simpa using c6))
  (try (have c6b2:(t411 == t412)=false:=by simpa using c6))
  (try (have c6b3:¬ (t411=t412):=by simpa using c6))
  clear c6
  obtain rfl:=ysi H
  go_enter Try.func4,Try.ntmps4
  go_wp2_with (first|(refine goesL_ (some 11) rfl rfl Try.func22 (by kernel_rfl) rfl #[.slice A0 l0.length c0] rfl ymd ?_;(with_reducible refine (spec_DrawRuleValid.calls k _ _ l0 t404 t405 t408 t409 _ ?_ ?_ A3.out).mono ?_);exact Kd.Cz (HR0.out);exact HC0.out;rintro e w7 ⟨v406,rfl,ho0,hb⟩;refine ⟨_,rfl,?_⟩;have HO407:=yam (Kd.R_lower ho0 (below_size (yez HB.out)));replace HB:=yam (below_step (yez HB.out) hb);(try clear hb);(try clear ho0))|((with_reducible refine gate_dst (N:=3) rfl ?_);(try (refine gate_guard (by rfl) ?_;dsimp only));refine ybe 3 #[.int .i64 0,.slice none 0 0,.int .i64 0] 32 ?_;intro gb410 hg w8 hbox hb;replace HO407:=yam (Kd.R_below (Kd.Yz HO407.out) hb);have BK410:=yam (hbox);have GW410:=yam ((by rw [hg];exact (below_size (yez HB.out)):w.heap.size≤gb410));replace HB:=yam (below_step (yez HB.out) hb);have GE410:=GW410;clear hb hbox hg;obtain ⟨hcz9_0,hcz9_1,hcz9_2,hfz9_0,hfz9_1,hfz9_2⟩:=ybc BK410.out;obtain ⟨Ao10,co10,eo10⟩:=Kd.R_slice HO407.out;subst eo10)|(refine goesL_ (some 16) rfl rfl Try.func23 (by kernel_rfl) rfl #[.agg #[.int .i64 t404,.slice Ao10 t405.length co10,.int .i64 t408],.int .i64 t409] rfl ymd ?_;(with_reducible refine (impl_RuleValid.calls k t404 _ _ t405 t408 t409 t411 _ ?side1 ?side2 A4.out).mono ?_);(case side1=>refine (Kd.Yr (e:=3) (base:=w.heap.size) (ok:=fun k_=>True) (n:=t405.length) (c:=co10) ?_).2.2;exact (by (with_reducible repeat (first|apply Kd.Ya|apply Kd.Yn|apply Kd.Yd));exact (Kd.R_mono (Kd.R_far (p:=⟨gb410,2,none⟩) (Kd.R_far (p:=⟨gb410,1,none⟩) (Kd.R_far (p:=⟨gb410,0,none⟩) (Kd.R_types HO407.out BK410.out (by decide)) (fun _ hk=>hk.2) (.int .i64 t404)) (fun _ hk=>hk.2) (.slice Ao10 t405.length co10)) (fun _ hk=>hk.2) (.int .i64 t408)) (fun _ h_=>h_.1))));(case side2=>exact (Kd.Yr HO407.out).2.1);rintro e w11 ⟨rfl,hb⟩;refine ⟨_,rfl,?_⟩;replace HO407:=yam (Kd.R_below (by (with_reducible repeat (first|apply Kd.Ya|apply Kd.Yn|apply Kd.Yd));exact (Kd.R_mono (Kd.R_far (p:=⟨gb410,2,none⟩) (Kd.R_far (p:=⟨gb410,1,none⟩) (Kd.R_far (p:=⟨gb410,0,none⟩) (Kd.R_types HO407.out BK410.out (by decide)) (fun _ hk=>hk.2) (.int .i64 t404)) (fun _ hk=>hk.2) (.slice Ao10 t405.length co10)) (fun _ hk=>hk.2) (.int .i64 t408)) (fun _ h_=>h_.1))) hb);replace BK410:=yam (blk_below (g:=gb410) (o:= .cells #[.int .i64 t404,.slice Ao10 t405.length co10,.int .i64 t408] 32 (0,0)) (by (with_reducible repeat (first|refine ybn ?_ _|refine ybd ?_|refine yba ?_ _));refine blk_put (cs:= #[.int .i64 t404,.slice Ao10 t405.length co10,.int .i64 0]) ?_ 2 _ rfl;(with_reducible repeat (first|refine ybn ?_ _|refine ybd ?_|refine yba ?_ _));refine blk_put (cs:= #[.int .i64 t404,.slice none 0 0,.int .i64 0]) ?_ 1 _ rfl;(with_reducible repeat (first|refine ybn ?_ _|refine ybd ?_|refine yba ?_ _));refine blk_put (cs:= #[.int .i64 0,.slice none 0 0,.int .i64 0]) ?_ 0 _ rfl;(with_reducible repeat (first|refine ybn ?_ _|refine ybd ?_|refine yba ?_ _));exact BK410.out) hb);replace HB:=yam (below_step yhb hb);(try clear hb);(try clear hk);obtain ⟨hcz12_0,hcz12_1,hcz12_2,hfz12_0,hfz12_1,hfz12_2⟩:=ybc BK410.out)|(refine goesL_ (some 20) rfl rfl Try.func24 (by kernel_rfl) rfl #[.agg #[.int .i64 t404,.slice Ao10 t405.length co10,.int .i64 t408],.int .i64 t409] rfl ymd ?_;(with_reducible refine (spec_RuleValid.calls k t404 _ _ t405 t408 t409 t412 _ ?_ ?_ A5.out).mono ?_);exact Kd.Cz (Kd.Yr HO407.out).2.2;exact (Kd.Yr HO407.out).2.1;rintro e w13 ⟨rfl,hb⟩;refine ⟨_,rfl,?_⟩;replace HO407:=yam (Kd.R_below (Kd.Yz HO407.out) hb);replace BK410:=yam (ybb BK410.out hb);replace HB:=yam (below_step yhb hb);(try clear hb)))
  go_ret
  exact ⟨yer,yhb⟩
 have c6b0:(t411 != t412)=false:=by simpa using c6
 (try (have c6b1:decide (t411=t412)=true:=by simpa using c6))
 (try (have c6b2:(t411 == t412)=true:=by simpa using c6))
 clear c6
 have HC14:=yam H
 clear H
 go_enter Try.func4,Try.ntmps4
 go_upto_region 7 with (first|(refine goesL_ (some 11) rfl rfl Try.func22 (by kernel_rfl) rfl #[.slice A0 l0.length c0] rfl ymd ?_;(with_reducible refine (spec_DrawRuleValid.calls k _ _ l0 t404 t405 t408 t409 _ ?_ ?_ A3.out).mono ?_);exact Kd.Cz (HR0.out);exact HC0.out;rintro e w15 ⟨v406,rfl,ho0,hb⟩;refine ⟨_,rfl,?_⟩;have HO407:=yam (Kd.R_lower ho0 (below_size (yez HB.out)));replace HB:=yam (below_step (yez HB.out) hb);(try clear hb);(try clear ho0))|((with_reducible refine gate_dst (N:=3) rfl ?_);(try (refine gate_guard (by rfl) ?_;dsimp only));refine ybe 3 #[.int .i64 0,.slice none 0 0,.int .i64 0] 32 ?_;intro gb410 hg w16 hbox hb;replace HO407:=yam (Kd.R_below (Kd.Yz HO407.out) hb);have BK410:=yam (hbox);have GW410:=yam ((by rw [hg];exact (below_size (yez HB.out)):w.heap.size≤gb410));replace HB:=yam (below_step (yez HB.out) hb);have GE410:=GW410;clear hb hbox hg;obtain ⟨hcz17_0,hcz17_1,hcz17_2,hfz17_0,hfz17_1,hfz17_2⟩:=ybc BK410.out;obtain ⟨Ao18,co18,eo18⟩:=Kd.R_slice HO407.out;subst eo18)|(refine goesL_ (some 16) rfl rfl Try.func23 (by kernel_rfl) rfl #[.agg #[.int .i64 t404,.slice Ao18 t405.length co18,.int .i64 t408],.int .i64 t409] rfl ymd ?_;(with_reducible refine (impl_RuleValid.calls k t404 _ _ t405 t408 t409 t411 _ ?side1 ?side2 A4.out).mono ?_);(case side1=>refine (Kd.Yr (e:=3) (base:=w.heap.size) (ok:=fun k_=>True) (n:=t405.length) (c:=co18) ?_).2.2;exact (by (with_reducible repeat (first|apply Kd.Ya|apply Kd.Yn|apply Kd.Yd));exact (Kd.R_mono (Kd.R_far (p:=⟨gb410,2,none⟩) (Kd.R_far (p:=⟨gb410,1,none⟩) (Kd.R_far (p:=⟨gb410,0,none⟩) (Kd.R_types HO407.out BK410.out (by decide)) (fun _ hk=>hk.2) (.int .i64 t404)) (fun _ hk=>hk.2) (.slice Ao18 t405.length co18)) (fun _ hk=>hk.2) (.int .i64 t408)) (fun _ h_=>h_.1))));(case side2=>exact (Kd.Yr HO407.out).2.1);rintro e w19 ⟨rfl,hb⟩;refine ⟨_,rfl,?_⟩;replace HO407:=yam (Kd.R_below (by (with_reducible repeat (first|apply Kd.Ya|apply Kd.Yn|apply Kd.Yd));exact (Kd.R_mono (Kd.R_far (p:=⟨gb410,2,none⟩) (Kd.R_far (p:=⟨gb410,1,none⟩) (Kd.R_far (p:=⟨gb410,0,none⟩) (Kd.R_types HO407.out BK410.out (by decide)) (fun _ hk=>hk.2) (.int .i64 t404)) (fun _ hk=>hk.2) (.slice Ao18 t405.length co18)) (fun _ hk=>hk.2) (.int .i64 t408)) (fun _ h_=>h_.1))) hb);replace BK410:=yam (blk_below (g:=gb410) (o:= .cells #[.int .i64 t404,.slice Ao18 t405.length co18,.int .i64 t408] 32 (0,0)) (by (with_reducible repeat (first|refine ybn ?_ _|refine ybd ?_|refine yba ?_ _));refine blk_put (cs:= #[.int .i64 t404,.slice Ao18 t405.length co18,.int .i64 0]) ?_ 2 _ rfl;(with_reducible repeat (first|refine ybn ?_ _|refine ybd ?_|refine yba ?_ _));refine blk_put (cs:= #[.int .i64 t404,.slice none 0 0,.int .i64 0]) ?_ 1 _ rfl;(with_reducible repeat (first|refine ybn ?_ _|refine ybd ?_|refine yba ?_ _));refine blk_put (cs:= #[.int .i64 0,.slice none 0 0,.int .i64 0]) ?_ 0 _ rfl;(with_reducible repeat (first|refine ybn ?_ _|refine ybd ?_|refine yba ?_ _));exact BK410.out) hb);replace HB:=yam (below_step yhb hb);(try clear hb);(try clear hk);obtain ⟨hcz20_0,hcz20_1,hcz20_2,hfz20_0,hfz20_1,hfz20_2⟩:=ybc BK410.out)|(refine goesL_ (some 20) rfl rfl Try.func24 (by kernel_rfl) rfl #[.agg #[.int .i64 t404,.slice Ao18 t405.length co18,.int .i64 t408],.int .i64 t409] rfl ymd ?_;(with_reducible refine (spec_RuleValid.calls k t404 _ _ t405 t408 t409 t412 _ ?_ ?_ A5.out).mono ?_);exact Kd.Cz (Kd.Yr HO407.out).2.2;exact (Kd.Yr HO407.out).2.1;rintro e w21 ⟨rfl,hb⟩;refine ⟨_,rfl,?_⟩;replace HO407:=yam (Kd.R_below (Kd.Yz HO407.out) hb);replace BK410:=yam (ybb BK410.out hb);replace HB:=yam (below_step yhb hb);(try clear hb)))
 (try simp only [Act.put,yps])
 go_cut [29] (fun v29 wc=>∃ (kq:Nat) (x29_13:Bool),v29= .bool x29_13∧Aside0 (laws_FnRuleValid.j0 kq t409 x29_13 t404 t405 t408=some r)∧Aside0 (kq≤k)∧Aside0 (Kd.R (Kd.int .i64) 3 wc w.heap.size (fun _=>True) (.slice Ao18 t405.length co18) t405)∧Aside0 (wc.heap[gb410]?=some (.cells #[.int .i64 t404,(.slice Ao18 t405.length co18),.int .i64 t408] 32 (0,0)))∧Aside0 (Below w.heap.size w wc))
 case first =>
  have H:=HC14.out
  clear HC14
  cases t411
  ·replace H:=yff H
   replace H:=yam H
   go_wp2
   go_meet
   case rel=>exact ⟨_,(true),yeq,H,⟨by first|omega|exact Nat.le_refl _⟩,⟨yka HO407.out⟩,⟨ybk BK410.out⟩,⟨yhb⟩⟩
  replace H:=ytt H
  replace H:=yam H
  obtain ⟨hcz23_0,hcz23_1,hcz23_2,hfz23_0,hfz23_1,hfz23_2⟩:=ybc BK410.out
  go_wp2
  go_meet
  case rel=>exact ⟨_,(((t405.length:Int) == 0)),yeq,H,⟨by first|omega|exact Nat.le_refl _⟩,⟨yka HO407.out⟩,⟨ybk BK410.out⟩,⟨yhb⟩⟩
 case rest =>
  clear HC14
  try clear c2b0
  try clear c2b1
  try clear c6b0
  try clear c6b1
  try clear c6b2
  try clear hcz17_0
  try clear hcz17_1
  try clear hcz17_2
  try clear hcz20_0
  try clear hcz20_1
  try clear hcz20_2
  try clear hfz17_0
  try clear hfz17_1
  try clear hfz17_2
  try clear hfz20_0
  try clear hfz20_1
  try clear hfz20_2
  obtain ⟨kq,x29_13,rfl,HA,HJ13,HO_411001,BK410,HB⟩:=hcut
  rcases kq with _|kj13
  ·exact absurd HA.out (by simp [laws_FnRuleValid.j0])
  obtain ⟨H⟩:=HA
  simp only [laws_FnRuleValid.j0] at H
  cases x29_13
  rotate_left
  ·replace H:=ytt H
   replace H:=ybi H;obtain ⟨t413,A25,H⟩:=H
   try dsimp only at H
   obtain rfl:=ysi H
   go_wp2_with (first|(refine goesL_ (some 30) rfl rfl Try.func19 (by kernel_rfl) rfl #[] rfl ymd ?_;(with_reducible refine (laws_alive.calls kj13  t413 _ A25.out).mono ?_);rintro e w26 ⟨rfl,hb⟩;refine ⟨_,rfl,?_⟩;replace HO_411001:=yam (Kd.R_below (Kd.Yz HO_411001.out) hb);replace BK410:=yam (ybb BK410.out hb);replace HB:=yam (below_step yhb hb);(try clear hb)))
   go_ret
   exact ⟨yer,yhb⟩
  replace H:=yff H
  obtain ⟨y414,Ny414⟩:∃ y_:List Int,Aside0 (y_=(([]:List Int))):=⟨_,⟨rfl⟩⟩
  replace H:(if y414.length + t405.length < 17592186044416 then ((some (y414 ++ t405:List Int)).bind fun y417=>(if 0 < (t405.length:Int) then ((some (([rd t405 0]:List Int):List Int)).bind fun y421=>(if y417.length + y421.length < 17592186044416 then ((impl_RuleValid.f kj13 t404 (y417 ++ y421) t408 t409).bind fun t427=>(if t427=true then (some false) else ((impl_RuleValid.f kj13 6 t405 t408 t409).bind fun t428=>(some (!t428))))) else (none))) else (none))) else (none))=some r:=yhn Ny414.out H
  replace H:=yit H;obtain ⟨c27,H⟩ | ⟨c27,H⟩:=H
  rotate_left
  ·exact absurd H (by simp)
  have LMc27:=yam c27
  clear c27
  obtain ⟨y417,Ny417⟩:∃ y_:List Int,Aside0 (y_=(y414 ++ t405)):=⟨_,⟨rfl⟩⟩
  replace H:(if 0 < (t405.length:Int) then ((some (([rd t405 0]:List Int):List Int)).bind fun y421=>(if y417.length + y421.length < 17592186044416 then ((impl_RuleValid.f kj13 t404 (y417 ++ y421) t408 t409).bind fun t427=>(if t427=true then (some false) else ((impl_RuleValid.f kj13 6 t405 t408 t409).bind fun t428=>(some (!t428))))) else (none))) else (none))=some r:=yhn Ny417.out H
  replace H:=yig H;obtain ⟨c28,H⟩:=H
  have c28b0:decide (0 < (t405.length:Int))=true:=decide_eq_true c28
  have c28b1:decide (0 < t405.length)=true:=decide_eq_true (by omega)
  clear c28
  obtain ⟨y421,Ny421⟩:∃ y_:List Int,Aside0 (y_=(([rd t405 0]:List Int))):=⟨_,⟨rfl⟩⟩
  replace H:(if y417.length + y421.length < 17592186044416 then ((impl_RuleValid.f kj13 t404 (y417 ++ y421) t408 t409).bind fun t427=>(if t427=true then (some false) else ((impl_RuleValid.f kj13 6 t405 t408 t409).bind fun t428=>(some (!t428))))) else (none))=some r:=yhn Ny421.out H
  replace H:=yig H;obtain ⟨c29,H⟩:=H
  have LMc29:=yam c29
  clear c29
  obtain ⟨y424,Ny424⟩:∃ y_:List Int,Aside0 (y_=(y417 ++ y421)):=⟨_,⟨rfl⟩⟩
  replace H:((impl_RuleValid.f kj13 t404 y424 t408 t409).bind fun t427=>(if t427=true then (some false) else ((impl_RuleValid.f kj13 6 t405 t408 t409).bind fun t428=>(some (!t428)))))=some r:=yhn Ny424.out H
  replace H:=ybi H;obtain ⟨t427,A30,H⟩:=H
  try dsimp only at H
  cases t427
  rotate_left
  ·replace H:=ytt H
   obtain rfl:=ysi H
   try go_wp2
   replace HO_411001:=yam (Kd.Yd HO_411001.out)
   replace BK410:=yam (ybd BK410.out)
   replace HB:=yam (yed HB.out)
   have p420:0≤(0:Int):=(by omega)
   have q420:0 < (t405.length:Int):=ydt
   obtain ⟨ad420,e420,hx420_0⟩:=Kd.at_int (Kd.Yr HO_411001.out).2.2 0 p420 q420
   cases e420
   have qi420:(0 < t405.length)=True:=eq_true (by omega)
   (try rw [show ((0:Int)).toNat=0 from rfl] at hx420_0)
   (try rw [Addr.add_zero'] at hx420_0)
   replace p420:=eq_true p420
   replace q420:=eq_true q420
   refine start_ (n:=29) (S:=fun w'=>w'.cell? ⟨gb410,0,none⟩=some (.int .i64 t404)∧w'.cell? ⟨gb410,1,none⟩=some (.slice (some ad420) t405.length co18)∧w'.cell? ⟨gb410,2,none⟩=some (.int .i64 t408)∧w'.cell? ad420=some (.int .i64 (rd t405 0))) (ds:=[]) (yvb 29 0) (by kernel_rfl) rfl rfl ⟨(blk_cell BK410.out 0).trans rfl,(blk_cell BK410.out 1).trans rfl,(blk_cell BK410.out 2).trans rfl,hx420_0⟩ (fun hHeld=>?_);refine with_tabW laws_FnRuleValid.tab9 laws_FnRuleValid.bits9 (fun HT_ HW_=>?_)
   generalize wc.drew=w32 at HO_411001 BK410 HB hx420_0 hHeld ⊢
   refine yvp 0 31 (yvb 29 1) HT_.out ?_
   refine yvp 3 34 (yvb 29 9) HT_.out ?_
   refine yvp 6 37 (yvb 29 73) HT_.out ?_
   refine yvp 12 43 (yvb 29 4169) HT_.out ?_
   refine yvp 15 46 (yvb 29 36937) HT_.out ?_
   refine yvt 1 32 (yvb 29 36939) HT_.out HW_.out hHeld ?_
   refine yvt 4 35 (yvb 29 36955) HT_.out HW_.out hHeld ?_
   refine yvt 7 38 (yvb 29 37083) HT_.out HW_.out hHeld ?_
   refine yvp 8 39 (yvb 29 37339) HT_.out ?_
   refine yvt 9 40 (yvb 29 37851) HT_.out HW_.out hHeld ?_
   refine yvt 13 44 (yvb 29 46043) HT_.out HW_.out hHeld ?_
   refine join_ (σ:=Value × Value × Value) 15 (yvb 29 47103) (fun s_=>[(33,s_.1),(36,s_.2.1),(41,s_.2.2)]) (fun s_ w'=>(w'.cell? ⟨gb410,0,none⟩=some (.int .i64 t404)∧w'.cell? ⟨gb410,1,none⟩=some (.slice (some ad420) t405.length co18)∧w'.cell? ⟨gb410,2,none⟩=some (.int .i64 t408)∧w'.cell? ad420=some (.int .i64 (rd t405 0)))∧(Kd.R (Kd.int .i64) 3 w' w.heap.size (fun k_=>some k_≠(s_.2.2:Value).ownBlock∧some k_≠(.slice (some ad420) t405.length co18:Value).ownBlock) s_.2.1 y417)∧(Kd.R (Kd.int .i64) 3 w' w.heap.size (fun k_=>some k_≠(s_.2.1:Value).ownBlock∧some k_≠(.slice (some ad420) t405.length co18:Value).ownBlock) s_.2.2 y421)∧(Kd.R (Kd.int .i64) 3 w' w.heap.size (fun k_=>some k_≠(s_.2.1:Value).ownBlock∧some k_≠(s_.2.2:Value).ownBlock) (.slice (some ad420) t405.length co18) t405)∧(w'.heap[gb410]?=some (.cells #[.int .i64 t404,.slice (some ad420) t405.length co18,.int .i64 t408] 32 (0,0)))∧(Below w.heap.size w w')) ?_ ?_
   rotate_left
   ·intro hCont
    refine two_ (i:=2) (j:=10) (Ni:=some 33) (Nj:=some 41) (yvb 29 46047) (yvb 29 47067) rfl rfl rfl rfl (two_of HT_.out (by kernel_rfl)) (by decide) (by decide) (fun K hK=>?_) (fun K hK=>?_)
    ·skip
     refine Kd.R_lit_step (Kd.int .i64) _ 3 ?hg (N:=33) ?hd (xs:=([]:List Int)) (inner:=[]) (ok:=fun _=>True) (okp:=fun _=>True) ?hr ?hp (fun _ hk=>hk) trivial (Below.refl _ _) (Nat.le_refl _) (by simp) ?_;(case hd=>rfl);(case hg=>rfl);(case hr=>first|(go_simp;done)|(go_simp;rfl));(case hp=>exact (Reps.none _ _))
     intro v415 w33 ho34 hb hg_ hnew_
     have HS3_:=(hb.cell (World.block_lt_of_cell? _ _ (hHeld.2.2.2))).trans (hHeld.2.2.2)
     clear hg_ hnew_
     (first|rw [← Ny414.out] at ho34|(simp only [Int.reduceToNat] at ho34;rw [← Ny414.out] at ho34))
     have HO416:=yam (Kd.R_lower (Kd.Yw ho34 (Kd.R_lt (Kd.Yz HO_411001.out))) (below_size yhb))
     replace HO_411001:=yam (Kd.Ye (Kd.Yz HO_411001.out) (Kd.Yb ho34) hb)
     replace BK410:=yam (ybb BK410.out hb)
     replace HB:=yam (below_step yhb hb)
     clear hb ho34
     refine hK.out _ _ ⟨(blk_cell BK410.out 0).trans rfl,(blk_cell BK410.out 1).trans rfl,(blk_cell BK410.out 2).trans rfl,HS3_⟩ (fun hHeld=>?_)
     clear hK K
     refine norm_ (a':=?_) ?_ ?_
     rotate_left
     ·show Act.put _ (some 33) _=_
      simp only [Act.put,yps,i64_w,i32_w]
      rfl
     refine two_ (i:=5) (j:=10) (Ni:=some 36) (Nj:=some 41) (yvb 29 46079) (yvb 29 47071) rfl rfl rfl rfl (two_of HT_.out (by kernel_rfl)) (by decide) (by decide) (fun K hK=>?_) (fun K hK=>?_)
     ·skip
      refine Kd.R_append_rows_step (Kd.int .i64) (w0:=w) w.heap.size (by rfl) (.tmp 33) (.tmp 35) 23 3 (.int .i64 0) 8 rfl Try.underlying23 info3 rfl (by decide) (by omega) v415 y414 t405 _ _ _ (fun k_=>some k_≠(.slice (some ad420) t405.length co18:Value).ownBlock) (fun _=>False) rfl rfl ?aO ?aR (fun _ _ h=>h) (fun _ h=>h.elim) ?aF ?aB ?aS ?aL ?_
      (case aR=>repeat (first|exact (Kd.Yr HO_411001.out).2.2|(with_reducible refine Kd.C_alloc ?_ _)|(with_reducible refine Kd.C_drewN ?_ _)|(with_reducible refine Kd.C_drew ?_)))
      (case aB=>exact yhb)
      (case aF=>exact (fun k_ hk=>Kd.fresh' (Kd.R_lt (Kd.Yz HO_411001.out)) k_ hk))
      (case aO=>exact (by (with_reducible repeat (first|apply Kd.Ya|apply Kd.Yn|apply Kd.Yd));exact Kd.R_mono HO416.out (fun _ hk=>hk.2)))
      (case aS=>exact (below_size yhb))
      (case aL=>have:=LMc27.out;omega)
      intro v418 w35 ho hb hg hat
      have HS3_:=cell_grown hg (hHeld.2.2.2) (by first|(rw [add_block];exact (fun e_=>(by have h_:=HO416.out.1 _ e_.symm;simp [Value.ownBlock] at h_)))|(show some (Addr.add _ _).block≠_;rw [add_block];exact (fun e_=>(by have h_:=HO416.out.1 _ e_.symm;simp [Value.ownBlock] at h_)))|exact (fun e_=>(by have h_:=HO416.out.1 _ e_.symm;simp [Value.ownBlock] at h_)))
      rw [← Ny417.out] at ho
      replace HO_411001:=yam (Kd.R_after (ok:=(fun _=>True)) (Kd.Yz HO_411001.out) hg hat)
      replace BK410:=yam (blk_grown (g:=gb410) (o:= .cells #[.int .i64 t404,.slice (some ad420) t405.length co18,.int .i64 t408] 32 (0,0)) (ybz BK410.out) hg (Kd.R_ne HO416.out BK410.out (by decide)))
      replace HB:=yam (hb)
      have HO419:=yam (ho)
      clear HO416
      clear ho hb hg hat
      refine hK.out _ _ ⟨(blk_cell BK410.out 0).trans rfl,(blk_cell BK410.out 1).trans rfl,(blk_cell BK410.out 2).trans rfl,HS3_⟩ (fun hHeld=>?_)
      clear hK K
      refine norm_ (a':=?_) ?_ ?_
      rotate_left
      ·show Act.put _ (some 36) _=_
       simp only [Act.put,yps,i64_w,i32_w]
       rfl
      refine one_ (i:=10) (N:=some 41) (yvb 29 47103) rfl rfl (one_of HT_.out (by kernel_rfl)) (by decide) (fun K hK=>?_)
      refine Kd.R_lit_step (Kd.int .i64) _ 3 ?hg (N:=41) ?hd (xs:=([rd t405 0]:List Int)) (inner:=[.int .i64 (rd t405 0)]) (ok:=fun _=>True) (okp:=fun _=>True) ?hr ?hp (fun _ hk=>hk) trivial (Below.refl _ _) (Nat.le_refl _) (by simp) ?_;(case hd=>rfl);(case hg=>rfl);(case hr=>first|(go_simp;done)|(go_simp;rfl));(case hp=>exact (Reps.one (show Kd.M (Kd.int .i64) _ _ _ (rd t405 0) [.int .i64 (rd t405 0)] from rfl) (Reps.none _ _)))
      intro v422 w36 ho37 hb hg_ hnew_
      have HS3_:=(hb.cell (World.block_lt_of_cell? _ _ (hHeld.2.2.2))).trans (hHeld.2.2.2)
      clear hg_ hnew_
      (first|rw [← Ny421.out] at ho37|(simp only [Int.reduceToNat] at ho37;rw [← Ny421.out] at ho37))
      have HO423:=yam (Kd.R_lower (Kd.Yw (Kd.Yw ho37 (Kd.R_lt (Kd.Yz HO_411001.out))) (Kd.R_lt (Kd.Yz HO419.out))) (below_size yhb))
      replace HO_411001:=yam (Kd.Ye (Kd.Yz HO_411001.out) (Kd.Yb ho37) hb)
      replace HO419:=yam (Kd.Ye (Kd.Yz HO419.out) (Kd.Yb ho37) hb)
      replace BK410:=yam (ybb BK410.out hb)
      replace HB:=yam (below_step yhb hb)
      clear hb ho37
      refine hK.out _ _ ⟨(blk_cell BK410.out 0).trans rfl,(blk_cell BK410.out 1).trans rfl,(blk_cell BK410.out 2).trans rfl,HS3_⟩ (fun hHeld=>?_)
      clear hK K
      refine norm_ (a':=?_) ?_ ?_
      rotate_left
      ·show Act.put _ (some 41) _=_
       simp only [Act.put,yps,i64_w,i32_w]
       rfl
      exact norm_ (by simp only [putAll,Act.put,yps]) (hCont (v415,v418,v422) _ ⟨hHeld,(by (with_reducible repeat (first|apply Kd.Ya|apply Kd.Yn|apply Kd.Yd));exact Kd.R_mono HO419.out (fun _ hk=>⟨hk.2,hk.1⟩)),(by (with_reducible repeat (first|apply Kd.Ya|apply Kd.Yn|apply Kd.Yd));exact Kd.R_mono HO423.out (fun _ hk=>⟨hk.2,hk.1.2⟩)),(by (with_reducible repeat (first|apply Kd.Ya|apply Kd.Yn|apply Kd.Yd));exact Kd.R_mono HO_411001.out (fun _ hk=>⟨hk.1.2,hk.2⟩)),(ybz BK410.out),yhb⟩)
     ·skip
      refine Kd.R_lit_step (Kd.int .i64) _ 3 ?hg (N:=41) ?hd (xs:=([rd t405 0]:List Int)) (inner:=[.int .i64 (rd t405 0)]) (ok:=fun _=>True) (okp:=fun _=>True) ?hr ?hp (fun _ hk=>hk) trivial (Below.refl _ _) (Nat.le_refl _) (by simp) ?_;(case hd=>rfl);(case hg=>rfl);(case hr=>first|(go_simp;done)|(go_simp;rfl));(case hp=>exact (Reps.one (show Kd.M (Kd.int .i64) _ _ _ (rd t405 0) [.int .i64 (rd t405 0)] from rfl) (Reps.none _ _)))
      intro v422 w35 ho36 hb hg_ hnew_
      have HS3_:=(hb.cell (World.block_lt_of_cell? _ _ (hHeld.2.2.2))).trans (hHeld.2.2.2)
      clear hg_ hnew_
      (first|rw [← Ny421.out] at ho36|(simp only [Int.reduceToNat] at ho36;rw [← Ny421.out] at ho36))
      have HO423:=yam (Kd.R_lower (Kd.Yw (Kd.Yw ho36 (Kd.R_lt (Kd.Yz HO_411001.out))) (Kd.R_lt (Kd.Yz HO416.out))) (below_size yhb))
      replace HO_411001:=yam (Kd.Ye (Kd.Yz HO_411001.out) (Kd.Yb ho36) hb)
      replace HO416:=yam (Kd.Ye (Kd.Yz HO416.out) (Kd.Yb ho36) hb)
      replace BK410:=yam (ybb BK410.out hb)
      replace HB:=yam (below_step yhb hb)
      clear hb ho36
      refine hK.out _ _ ⟨(blk_cell BK410.out 0).trans rfl,(blk_cell BK410.out 1).trans rfl,(blk_cell BK410.out 2).trans rfl,HS3_⟩ (fun hHeld=>?_)
      clear hK K
      refine norm_ (a':=?_) ?_ ?_
      rotate_left
      ·show Act.put _ (some 41) _=_
       simp only [Act.put,yps,i64_w,i32_w]
       rfl
      refine one_ (i:=5) (N:=some 36) (yvb 29 47103) rfl rfl (one_of HT_.out (by kernel_rfl)) (by decide) (fun K hK=>?_)
      refine Kd.R_append_rows_step (Kd.int .i64) (w0:=w) w.heap.size (by rfl) (.tmp 33) (.tmp 35) 23 3 (.int .i64 0) 8 rfl Try.underlying23 info3 rfl (by decide) (by omega) v415 y414 t405 _ _ _ (fun k_=>some k_≠(.slice (some ad420) t405.length co18:Value).ownBlock∧some k_≠(v422:Value).ownBlock) (fun _=>False) rfl rfl ?aO ?aR (fun _ _ h=>h) (fun _ h=>h.elim) ?aF ?aB ?aS ?aL ?_
      (case aR=>repeat (first|exact (Kd.Yr HO_411001.out).2.2|(with_reducible refine Kd.C_alloc ?_ _)|(with_reducible refine Kd.C_drewN ?_ _)|(with_reducible refine Kd.C_drew ?_)))
      (case aB=>exact yhb)
      (case aF=>exact (fun k_ hk=>⟨Kd.fresh' (Kd.R_lt (Kd.Yz HO_411001.out)) k_ hk,Kd.fresh' (Kd.R_lt (Kd.Yz HO423.out)) k_ hk⟩))
      (case aO=>exact (by (with_reducible repeat (first|apply Kd.Ya|apply Kd.Yn|apply Kd.Yd));exact Kd.R_mono HO416.out (fun _ hk=>⟨hk.1.2,hk.2⟩)))
      (case aS=>exact (below_size yhb))
      (case aL=>have:=LMc27.out;omega)
      intro v418 w37 ho hb hg hat
      have HS3_:=cell_grown hg (hHeld.2.2.2) (by first|(rw [add_block];exact (fun e_=>(by have h_:=HO416.out.1 _ e_.symm;simp [Value.ownBlock] at h_)))|(show some (Addr.add _ _).block≠_;rw [add_block];exact (fun e_=>(by have h_:=HO416.out.1 _ e_.symm;simp [Value.ownBlock] at h_)))|exact (fun e_=>(by have h_:=HO416.out.1 _ e_.symm;simp [Value.ownBlock] at h_)))
      rw [← Ny417.out] at ho
      replace HO_411001:=yam (Kd.R_after (ok:=(fun k_=>some k_≠(v422:Value).ownBlock)) (by (with_reducible repeat (first|apply Kd.Ya|apply Kd.Yn|apply Kd.Yd));exact Kd.R_mono HO_411001.out (fun _ hk=>⟨hk.2,hk.1.2⟩)) hg hat)
      replace BK410:=yam (blk_grown (g:=gb410) (o:= .cells #[.int .i64 t404,.slice (some ad420) t405.length co18,.int .i64 t408] 32 (0,0)) (ybz BK410.out) hg (Kd.R_ne HO416.out BK410.out (by decide)))
      replace HO423:=yam (Kd.R_after (ok:=(fun k_=>some k_≠(.slice (some ad420) t405.length co18:Value).ownBlock)) (by (with_reducible repeat (first|apply Kd.Ya|apply Kd.Yn|apply Kd.Yd));exact Kd.R_mono HO423.out (fun _ hk=>⟨hk.1.2,hk.2⟩)) hg hat)
      replace HB:=yam (hb)
      have HO419:=yam (ho)
      clear HO416
      clear ho hb hg hat
      refine hK.out _ _ ⟨(blk_cell BK410.out 0).trans rfl,(blk_cell BK410.out 1).trans rfl,(blk_cell BK410.out 2).trans rfl,HS3_⟩ (fun hHeld=>?_)
      clear hK K
      refine norm_ (a':=?_) ?_ ?_
      rotate_left
      ·show Act.put _ (some 36) _=_
       simp only [Act.put,yps,i64_w,i32_w]
       rfl
      exact norm_ (by simp only [putAll,Act.put,yps]) (hCont (v415,v418,v422) _ ⟨hHeld,(by (with_reducible repeat (first|apply Kd.Ya|apply Kd.Yn|apply Kd.Yd));exact Kd.R_mono HO419.out (fun _ hk=>⟨hk.2,hk.1⟩)),(by (with_reducible repeat (first|apply Kd.Ya|apply Kd.Yn|apply Kd.Yd));exact Kd.R_mono HO423.out (fun _ hk=>⟨hk.2,hk.1⟩)),(by (with_reducible repeat (first|apply Kd.Ya|apply Kd.Yn|apply Kd.Yd));exact Kd.R_mono HO_411001.out (fun _ hk=>⟨hk.2,hk.1⟩)),(ybz BK410.out),yhb⟩)
    ·skip
     refine Kd.R_lit_step (Kd.int .i64) _ 3 ?hg (N:=41) ?hd (xs:=([rd t405 0]:List Int)) (inner:=[.int .i64 (rd t405 0)]) (ok:=fun _=>True) (okp:=fun _=>True) ?hr ?hp (fun _ hk=>hk) trivial (Below.refl _ _) (Nat.le_refl _) (by simp) ?_;(case hd=>rfl);(case hg=>rfl);(case hr=>first|(go_simp;done)|(go_simp;rfl));(case hp=>exact (Reps.one (show Kd.M (Kd.int .i64) _ _ _ (rd t405 0) [.int .i64 (rd t405 0)] from rfl) (Reps.none _ _)))
     intro v422 w33 ho34 hb hg_ hnew_
     have HS3_:=(hb.cell (World.block_lt_of_cell? _ _ (hHeld.2.2.2))).trans (hHeld.2.2.2)
     clear hg_ hnew_
     (first|rw [← Ny421.out] at ho34|(simp only [Int.reduceToNat] at ho34;rw [← Ny421.out] at ho34))
     have HO423:=yam (Kd.R_lower (Kd.Yw ho34 (Kd.R_lt (Kd.Yz HO_411001.out))) (below_size yhb))
     replace HO_411001:=yam (Kd.Ye (Kd.Yz HO_411001.out) (Kd.Yb ho34) hb)
     replace BK410:=yam (ybb BK410.out hb)
     replace HB:=yam (below_step yhb hb)
     clear hb ho34
     refine hK.out _ _ ⟨(blk_cell BK410.out 0).trans rfl,(blk_cell BK410.out 1).trans rfl,(blk_cell BK410.out 2).trans rfl,HS3_⟩ (fun hHeld=>?_)
     clear hK K
     refine norm_ (a':=?_) ?_ ?_
     rotate_left
     ·show Act.put _ (some 41) _=_
      simp only [Act.put,yps,i64_w,i32_w]
      rfl
     refine one_ (i:=2) (N:=some 33) (yvb 29 47071) rfl rfl (one_of HT_.out (by kernel_rfl)) (by decide) (fun K hK=>?_)
     refine Kd.R_lit_step (Kd.int .i64) _ 3 ?hg (N:=33) ?hd (xs:=([]:List Int)) (inner:=[]) (ok:=fun _=>True) (okp:=fun _=>True) ?hr ?hp (fun _ hk=>hk) trivial (Below.refl _ _) (Nat.le_refl _) (by simp) ?_;(case hd=>rfl);(case hg=>rfl);(case hr=>first|(go_simp;done)|(go_simp;rfl));(case hp=>exact (Reps.none _ _))
     intro v415 w35 ho36 hb hg_ hnew_
     have HS3_:=(hb.cell (World.block_lt_of_cell? _ _ (hHeld.2.2.2))).trans (hHeld.2.2.2)
     clear hg_ hnew_
     (first|rw [← Ny414.out] at ho36|(simp only [Int.reduceToNat] at ho36;rw [← Ny414.out] at ho36))
     have HO416:=yam (Kd.R_lower (Kd.Yw (Kd.Yw ho36 (Kd.R_lt (Kd.Yz HO_411001.out))) (Kd.R_lt (Kd.Yz HO423.out))) (below_size yhb))
     replace HO_411001:=yam (Kd.Ye (Kd.Yz HO_411001.out) (Kd.Yb ho36) hb)
     replace HO423:=yam (Kd.Ye (Kd.Yz HO423.out) (Kd.Yb ho36) hb)
     replace BK410:=yam (ybb BK410.out hb)
     replace HB:=yam (below_step yhb hb)
     clear hb ho36
     refine hK.out _ _ ⟨(blk_cell BK410.out 0).trans rfl,(blk_cell BK410.out 1).trans rfl,(blk_cell BK410.out 2).trans rfl,HS3_⟩ (fun hHeld=>?_)
     clear hK K
     refine norm_ (a':=?_) ?_ ?_
     rotate_left
     ·show Act.put _ (some 33) _=_
      simp only [Act.put,yps,i64_w,i32_w]
      rfl
     refine one_ (i:=5) (N:=some 36) (yvb 29 47103) rfl rfl (one_of HT_.out (by kernel_rfl)) (by decide) (fun K hK=>?_)
     refine Kd.R_append_rows_step (Kd.int .i64) (w0:=w) w.heap.size (by rfl) (.tmp 33) (.tmp 35) 23 3 (.int .i64 0) 8 rfl Try.underlying23 info3 rfl (by decide) (by omega) v415 y414 t405 _ _ _ (fun k_=>some k_≠(.slice (some ad420) t405.length co18:Value).ownBlock∧some k_≠(v422:Value).ownBlock) (fun _=>False) rfl rfl ?aO ?aR (fun _ _ h=>h) (fun _ h=>h.elim) ?aF ?aB ?aS ?aL ?_
     (case aR=>repeat (first|exact (Kd.Yr HO_411001.out).2.2|(with_reducible refine Kd.C_alloc ?_ _)|(with_reducible refine Kd.C_drewN ?_ _)|(with_reducible refine Kd.C_drew ?_)))
     (case aB=>exact yhb)
     (case aF=>exact (fun k_ hk=>⟨Kd.fresh' (Kd.R_lt (Kd.Yz HO_411001.out)) k_ hk,Kd.fresh' (Kd.R_lt (Kd.Yz HO423.out)) k_ hk⟩))
     (case aO=>exact (by (with_reducible repeat (first|apply Kd.Ya|apply Kd.Yn|apply Kd.Yd));exact Kd.R_mono HO416.out (fun _ hk=>⟨hk.1.2,hk.2⟩)))
     (case aS=>exact (below_size yhb))
     (case aL=>have:=LMc27.out;omega)
     intro v418 w37 ho hb hg hat
     have HS3_:=cell_grown hg (hHeld.2.2.2) (by first|(rw [add_block];exact (fun e_=>(by have h_:=HO416.out.1 _ e_.symm;simp [Value.ownBlock] at h_)))|(show some (Addr.add _ _).block≠_;rw [add_block];exact (fun e_=>(by have h_:=HO416.out.1 _ e_.symm;simp [Value.ownBlock] at h_)))|exact (fun e_=>(by have h_:=HO416.out.1 _ e_.symm;simp [Value.ownBlock] at h_)))
     rw [← Ny417.out] at ho
     replace HO_411001:=yam (Kd.R_after (ok:=(fun k_=>some k_≠(v422:Value).ownBlock)) (by (with_reducible repeat (first|apply Kd.Ya|apply Kd.Yn|apply Kd.Yd));exact Kd.R_mono HO_411001.out (fun _ hk=>⟨hk.1.2,hk.2⟩)) hg hat)
     replace BK410:=yam (blk_grown (g:=gb410) (o:= .cells #[.int .i64 t404,.slice (some ad420) t405.length co18,.int .i64 t408] 32 (0,0)) (ybz BK410.out) hg (Kd.R_ne HO416.out BK410.out (by decide)))
     replace HO423:=yam (Kd.R_after (ok:=(fun k_=>some k_≠(.slice (some ad420) t405.length co18:Value).ownBlock)) (by (with_reducible repeat (first|apply Kd.Ya|apply Kd.Yn|apply Kd.Yd));exact Kd.R_mono HO423.out (fun _ hk=>⟨hk.1.2,hk.2⟩)) hg hat)
     replace HB:=yam (hb)
     have HO419:=yam (ho)
     clear HO416
     clear ho hb hg hat
     refine hK.out _ _ ⟨(blk_cell BK410.out 0).trans rfl,(blk_cell BK410.out 1).trans rfl,(blk_cell BK410.out 2).trans rfl,HS3_⟩ (fun hHeld=>?_)
     clear hK K
     refine norm_ (a':=?_) ?_ ?_
     rotate_left
     ·show Act.put _ (some 36) _=_
      simp only [Act.put,yps,i64_w,i32_w]
      rfl
     exact norm_ (by simp only [putAll,Act.put,yps]) (hCont (v415,v418,v422) _ ⟨hHeld,(by (with_reducible repeat (first|apply Kd.Ya|apply Kd.Yn|apply Kd.Yd));exact Kd.R_mono HO419.out (fun _ hk=>⟨hk.2,hk.1⟩)),(by (with_reducible repeat (first|apply Kd.Ya|apply Kd.Yn|apply Kd.Yd));exact Kd.R_mono HO423.out (fun _ hk=>⟨hk.2,hk.1⟩)),(by (with_reducible repeat (first|apply Kd.Ya|apply Kd.Yn|apply Kd.Yd));exact Kd.R_mono HO_411001.out (fun _ hk=>⟨hk.2,hk.1⟩)),(ybz BK410.out),yhb⟩)
   rintro ⟨v415,v418,v422⟩ w38 ⟨hS_,h0_,h1_,h2_,h3_,h4_⟩
   have HO419:Aside0 (Kd.R (Kd.int .i64) 3 w38 w.heap.size (fun k_=>some k_≠(v422:Value).ownBlock∧some k_≠(.slice (some ad420) t405.length co18:Value).ownBlock) v418 y417):=⟨h0_⟩
   have HO423:Aside0 (Kd.R (Kd.int .i64) 3 w38 w.heap.size (fun k_=>some k_≠(v418:Value).ownBlock∧some k_≠(.slice (some ad420) t405.length co18:Value).ownBlock) v422 y421):=⟨h1_⟩
   replace HO_411001:Aside0 (Kd.R (Kd.int .i64) 3 w38 w.heap.size (fun k_=>some k_≠(v418:Value).ownBlock∧some k_≠(v422:Value).ownBlock) (.slice (some ad420) t405.length co18) t405):=⟨h2_⟩
   replace BK410:Aside0 (w38.heap[gb410]?=some (.cells #[.int .i64 t404,.slice (some ad420) t405.length co18,.int .i64 t408] 32 (0,0))):=⟨h3_⟩
   replace HB:Aside0 (Below w.heap.size w w38):=⟨h4_⟩
   clear h0_ h1_ h2_ h3_ h4_
   have hHeld:w38.cell? ⟨gb410,0,none⟩=some (.int .i64 t404)∧w38.cell? ⟨gb410,1,none⟩=some (.slice (some ad420) t405.length co18)∧w38.cell? ⟨gb410,2,none⟩=some (.int .i64 t408)∧w38.cell? ad420=some (.int .i64 (rd t405 0)):=hS_
   obtain ⟨Ao40,co40,eo40⟩:=Kd.R_slice HO423.out
   (first|subst eo40|(injection eo40 with f1_ f2_ f3_;have f4_:=f1_.symm;have f5_:=f3_.symm;clear f1_ f2_ f3_;subst f4_;subst f5_))
   refine norm_ (a':=?_) ?_ ?_
   rotate_left
   ·simp only [putAll,Act.put,yps]
    rfl
   refine one_ (i:=11) (N:=some 42) (yvb 29 49151) rfl rfl (one_of HT_.out (by kernel_rfl)) (by decide) (fun K hK=>?_)
   refine Kd.R_append_rows_step (Kd.int .i64) (w0:=w) w.heap.size (by rfl) (.tmp 36) (.tmp 41) 23 3 (.int .i64 0) 8 rfl Try.underlying23 info3 rfl (by decide) (by omega) v418 y417 y421 _ _ _ (fun k_=>some k_≠(.slice (some ad420) t405.length co18:Value).ownBlock∧some k_≠(.slice Ao40 y421.length co40:Value).ownBlock) (fun _=>False) rfl rfl ?aO ?aR (fun _ _ h=>h) (fun _ h=>h.elim) ?aF ?aB ?aS ?aL ?_
   (case aR=>repeat (first|exact (Kd.Yr HO423.out).2.2|(with_reducible refine Kd.C_alloc ?_ _)|(with_reducible refine Kd.C_drewN ?_ _)|(with_reducible refine Kd.C_drew ?_)))
   (case aB=>exact yhb)
   (case aF=>exact (fun k_ hk=>⟨Kd.fresh' (Kd.R_lt (Kd.Yz HO_411001.out)) k_ hk,Kd.fresh' (Kd.R_lt (Kd.Yz HO423.out)) k_ hk⟩))
   (case aO=>exact (by (with_reducible repeat (first|apply Kd.Ya|apply Kd.Yn|apply Kd.Yd));exact Kd.R_mono HO419.out (fun _ hk=>⟨hk.2,hk.1⟩)))
   (case aS=>exact (below_size yhb))
   (case aL=>have:=LMc29.out;omega)
   intro v425 w39 ho hb hg hat
   have HS3_:=cell_grown hg (hHeld.2.2.2) (by first|(rw [add_block];exact (fun e_=>(by have h_:=HO419.out.1 _ e_.symm;simp [Value.ownBlock] at h_)))|(show some (Addr.add _ _).block≠_;rw [add_block];exact (fun e_=>(by have h_:=HO419.out.1 _ e_.symm;simp [Value.ownBlock] at h_)))|exact (fun e_=>(by have h_:=HO419.out.1 _ e_.symm;simp [Value.ownBlock] at h_)))
   rw [← Ny424.out] at ho
   replace HO_411001:=yam (Kd.R_after (ok:=(fun k_=>some k_≠(.slice Ao40 y421.length co40:Value).ownBlock)) (by (with_reducible repeat (first|apply Kd.Ya|apply Kd.Yn|apply Kd.Yd));exact Kd.R_mono HO_411001.out (fun _ hk=>⟨hk.2,hk.1⟩)) hg hat)
   replace BK410:=yam (blk_grown (g:=gb410) (o:= .cells #[.int .i64 t404,.slice (some ad420) t405.length co18,.int .i64 t408] 32 (0,0)) (ybz BK410.out) hg (Kd.R_ne HO419.out BK410.out (by decide)))
   replace HO423:=yam (Kd.R_after (ok:=(fun k_=>some k_≠(.slice (some ad420) t405.length co18:Value).ownBlock)) (by (with_reducible repeat (first|apply Kd.Ya|apply Kd.Yn|apply Kd.Yd));exact Kd.R_mono HO423.out (fun _ hk=>⟨hk.2,hk.1⟩)) hg hat)
   replace HB:=yam (hb)
   have HO426:=yam (ho)
   clear HO419
   clear ho hb hg hat
   obtain ⟨Ao41,co41,eo41⟩:=Kd.R_slice HO426.out
   (first|subst eo41|(injection eo41 with f1_ f2_ f3_;have f4_:=f1_.symm;have f5_:=f3_.symm;clear f1_ f2_ f3_;subst f4_;subst f5_))
   refine hK.out _ _ ⟨(blk_cell BK410.out 0).trans rfl,(blk_cell BK410.out 1).trans rfl,(blk_cell BK410.out 2).trans rfl,HS3_⟩ (fun hHeld=>?_)
   clear hK K
   refine norm_ (a':=?_) ?_ ?_
   rotate_left
   ·show Act.put _ (some 42) _=_
    simp only [Act.put,yps,i64_w,i32_w]
    rfl
   refine yvp 14 45 (yvb 29 65535) HT_.out ?_
   refine one_ (i:=16) (N:=some 47) (yvb 29 131071) rfl rfl (one_of HT_.out (by kernel_rfl)) (by decide) (fun K hK=>?_)
   refine goes_ Try.func23 (by kernel_rfl) rfl #[.agg #[.int .i64 t404,.slice Ao41 y424.length co41,.int .i64 t408],.int .i64 t409] (by rfl) rfl rfl ymd ?_
   with_reducible refine (impl_RuleValid.calls kj13 t404 _ _ y424 t408 t409 true _ ?_ ?_ A30.out).mono ?_
   exact Kd.Cz (Kd.Yr HO426.out).2.2
   exact (Kd.Yr HO426.out).2.1
   rintro e w42 ⟨rfl,hb⟩
   have HS3_:=(hb.cell (World.block_lt_of_cell? _ _ (hHeld.2.2.2))).trans (hHeld.2.2.2)
   refine ⟨_,rfl,?_⟩
   replace HO_411001:=yam (Kd.R_below (Kd.Yz HO_411001.out) hb)
   replace HO423:=yam (Kd.R_below (Kd.Yz HO423.out) hb)
   replace HO426:=yam (Kd.R_below (Kd.Yz HO426.out) hb)
   replace BK410:=yam (ybb BK410.out hb)
   replace HB:=yam (below_step yhb hb)
   (try clear hb)
   (try clear hb2)
   (try clear hk)
   (try clear hi)
   refine hK.out _ _ ⟨(blk_cell BK410.out 0).trans rfl,(blk_cell BK410.out 1).trans rfl,(blk_cell BK410.out 2).trans rfl,HS3_⟩ (fun hHeld=>?_)
   clear hK K
   refine norm_ (a':=?_) ?_ ?_
   rotate_left
   ·show Act.put _ (some 47) _=_
    simp only [Act.put,yps,i64_w,i32_w]
    rfl
   refine yvp 17 48 (yvb 29 262143) HT_.out ?_
   refine yvp 18 49 (yvb 29 524287) HT_.out ?_
   refine yvu 19 50 (yvb 29 1048575) HT_.out ?_
   refine yvu 20 51 (yvb 29 2097151) HT_.out ?_
   refine yvu 21 52 (yvb 29 4194303) HT_.out ?_
   refine yvu 22 53 (yvb 29 8388607) HT_.out ?_
   refine yvu 23 54 (yvb 29 16777215) HT_.out ?_
   refine yvu 24 55 (yvb 29 33554431) HT_.out ?_
   refine yvu 25 56 (yvb 29 67108863) HT_.out ?_
   refine yvu 26 57 (yvb 29 134217727) HT_.out ?_
   refine yvp 27 58 (yvb 29 268435455) HT_.out ?_
   refine yvp 28 2 (yvb 29 536870911) HT_.out ?_
   refine done_ (done_of HT_.out (by kernel_rfl)) ?_
   try go_wp2
   go_ret
   exact ⟨yer,yhb⟩
  replace H:=yff H
  replace H:=ybi H;obtain ⟨t428,A43,H⟩:=H
  try dsimp only at H
  obtain rfl:=ysi H
  try go_wp2
  replace HO_411001:=yam (Kd.Yd HO_411001.out)
  replace BK410:=yam (ybd BK410.out)
  replace HB:=yam (yed HB.out)
  have p420:0≤(0:Int):=(by omega)
  have q420:0 < (t405.length:Int):=ydt
  obtain ⟨ad420,e420,hx420_0⟩:=Kd.at_int (Kd.Yr HO_411001.out).2.2 0 p420 q420
  cases e420
  have qi420:(0 < t405.length)=True:=eq_true (by omega)
  (try rw [show ((0:Int)).toNat=0 from rfl] at hx420_0)
  (try rw [Addr.add_zero'] at hx420_0)
  replace p420:=eq_true p420
  replace q420:=eq_true q420
  refine start_ (n:=29) (S:=fun w'=>w'.cell? ⟨gb410,0,none⟩=some (.int .i64 t404)∧w'.cell? ⟨gb410,1,none⟩=some (.slice (some ad420) t405.length co18)∧w'.cell? ⟨gb410,2,none⟩=some (.int .i64 t408)∧w'.cell? ad420=some (.int .i64 (rd t405 0))) (ds:=[]) (yvb 29 0) (by kernel_rfl) rfl rfl ⟨(blk_cell BK410.out 0).trans rfl,(blk_cell BK410.out 1).trans rfl,(blk_cell BK410.out 2).trans rfl,hx420_0⟩ (fun hHeld=>?_);refine with_tabW laws_FnRuleValid.tab9 laws_FnRuleValid.bits9 (fun HT_ HW_=>?_)
  generalize wc.drew=w44 at HO_411001 BK410 HB hx420_0 hHeld ⊢
  refine yvp 0 31 (yvb 29 1) HT_.out ?_
  refine yvp 3 34 (yvb 29 9) HT_.out ?_
  refine yvp 6 37 (yvb 29 73) HT_.out ?_
  refine yvp 12 43 (yvb 29 4169) HT_.out ?_
  refine yvp 15 46 (yvb 29 36937) HT_.out ?_
  refine yvt 1 32 (yvb 29 36939) HT_.out HW_.out hHeld ?_
  refine yvt 4 35 (yvb 29 36955) HT_.out HW_.out hHeld ?_
  refine yvt 7 38 (yvb 29 37083) HT_.out HW_.out hHeld ?_
  refine yvp 8 39 (yvb 29 37339) HT_.out ?_
  refine yvt 9 40 (yvb 29 37851) HT_.out HW_.out hHeld ?_
  refine yvt 13 44 (yvb 29 46043) HT_.out HW_.out hHeld ?_
  refine join_ (σ:=Value × Value × Value) 15 (yvb 29 47103) (fun s_=>[(33,s_.1),(36,s_.2.1),(41,s_.2.2)]) (fun s_ w'=>(w'.cell? ⟨gb410,0,none⟩=some (.int .i64 t404)∧w'.cell? ⟨gb410,1,none⟩=some (.slice (some ad420) t405.length co18)∧w'.cell? ⟨gb410,2,none⟩=some (.int .i64 t408)∧w'.cell? ad420=some (.int .i64 (rd t405 0)))∧(Kd.R (Kd.int .i64) 3 w' w.heap.size (fun k_=>some k_≠(s_.2.2:Value).ownBlock∧some k_≠(.slice (some ad420) t405.length co18:Value).ownBlock) s_.2.1 y417)∧(Kd.R (Kd.int .i64) 3 w' w.heap.size (fun k_=>some k_≠(s_.2.1:Value).ownBlock∧some k_≠(.slice (some ad420) t405.length co18:Value).ownBlock) s_.2.2 y421)∧(Kd.R (Kd.int .i64) 3 w' w.heap.size (fun k_=>some k_≠(s_.2.1:Value).ownBlock∧some k_≠(s_.2.2:Value).ownBlock) (.slice (some ad420) t405.length co18) t405)∧(w'.heap[gb410]?=some (.cells #[.int .i64 t404,.slice (some ad420) t405.length co18,.int .i64 t408] 32 (0,0)))∧(Below w.heap.size w w')) ?_ ?_
  rotate_left
  ·intro hCont
   refine two_ (i:=2) (j:=10) (Ni:=some 33) (Nj:=some 41) (yvb 29 46047) (yvb 29 47067) rfl rfl rfl rfl (two_of HT_.out (by kernel_rfl)) (by decide) (by decide) (fun K hK=>?_) (fun K hK=>?_)
   ·skip
    refine Kd.R_lit_step (Kd.int .i64) _ 3 ?hg (N:=33) ?hd (xs:=([]:List Int)) (inner:=[]) (ok:=fun _=>True) (okp:=fun _=>True) ?hr ?hp (fun _ hk=>hk) trivial (Below.refl _ _) (Nat.le_refl _) (by simp) ?_;(case hd=>rfl);(case hg=>rfl);(case hr=>first|(go_simp;done)|(go_simp;rfl));(case hp=>exact (Reps.none _ _))
    intro v415 w45 ho46 hb hg_ hnew_
    have HS3_:=(hb.cell (World.block_lt_of_cell? _ _ (hHeld.2.2.2))).trans (hHeld.2.2.2)
    clear hg_ hnew_
    (first|rw [← Ny414.out] at ho46|(simp only [Int.reduceToNat] at ho46;rw [← Ny414.out] at ho46))
    have HO416:=yam (Kd.R_lower (Kd.Yw ho46 (Kd.R_lt (Kd.Yz HO_411001.out))) (below_size yhb))
    replace HO_411001:=yam (Kd.Ye (Kd.Yz HO_411001.out) (Kd.Yb ho46) hb)
    replace BK410:=yam (ybb BK410.out hb)
    replace HB:=yam (below_step yhb hb)
    clear hb ho46
    refine hK.out _ _ ⟨(blk_cell BK410.out 0).trans rfl,(blk_cell BK410.out 1).trans rfl,(blk_cell BK410.out 2).trans rfl,HS3_⟩ (fun hHeld=>?_)
    clear hK K
    refine norm_ (a':=?_) ?_ ?_
    rotate_left
    ·show Act.put _ (some 33) _=_
     simp only [Act.put,yps,i64_w,i32_w]
     rfl
    refine two_ (i:=5) (j:=10) (Ni:=some 36) (Nj:=some 41) (yvb 29 46079) (yvb 29 47071) rfl rfl rfl rfl (two_of HT_.out (by kernel_rfl)) (by decide) (by decide) (fun K hK=>?_) (fun K hK=>?_)
    ·skip
     refine Kd.R_append_rows_step (Kd.int .i64) (w0:=w) w.heap.size (by rfl) (.tmp 33) (.tmp 35) 23 3 (.int .i64 0) 8 rfl Try.underlying23 info3 rfl (by decide) (by omega) v415 y414 t405 _ _ _ (fun k_=>some k_≠(.slice (some ad420) t405.length co18:Value).ownBlock) (fun _=>False) rfl rfl ?aO ?aR (fun _ _ h=>h) (fun _ h=>h.elim) ?aF ?aB ?aS ?aL ?_
     (case aR=>repeat (first|exact (Kd.Yr HO_411001.out).2.2|(with_reducible refine Kd.C_alloc ?_ _)|(with_reducible refine Kd.C_drewN ?_ _)|(with_reducible refine Kd.C_drew ?_)))
     (case aB=>exact yhb)
     (case aF=>exact (fun k_ hk=>Kd.fresh' (Kd.R_lt (Kd.Yz HO_411001.out)) k_ hk))
     (case aO=>exact (by (with_reducible repeat (first|apply Kd.Ya|apply Kd.Yn|apply Kd.Yd));exact Kd.R_mono HO416.out (fun _ hk=>hk.2)))
     (case aS=>exact (below_size yhb))
     (case aL=>have:=LMc27.out;omega)
     intro v418 w47 ho hb hg hat
     have HS3_:=cell_grown hg (hHeld.2.2.2) (by first|(rw [add_block];exact (fun e_=>(by have h_:=HO416.out.1 _ e_.symm;simp [Value.ownBlock] at h_)))|(show some (Addr.add _ _).block≠_;rw [add_block];exact (fun e_=>(by have h_:=HO416.out.1 _ e_.symm;simp [Value.ownBlock] at h_)))|exact (fun e_=>(by have h_:=HO416.out.1 _ e_.symm;simp [Value.ownBlock] at h_)))
     rw [← Ny417.out] at ho
     replace HO_411001:=yam (Kd.R_after (ok:=(fun _=>True)) (Kd.Yz HO_411001.out) hg hat)
     replace BK410:=yam (blk_grown (g:=gb410) (o:= .cells #[.int .i64 t404,.slice (some ad420) t405.length co18,.int .i64 t408] 32 (0,0)) (ybz BK410.out) hg (Kd.R_ne HO416.out BK410.out (by decide)))
     replace HB:=yam (hb)
     have HO419:=yam (ho)
     clear HO416
     clear ho hb hg hat
     refine hK.out _ _ ⟨(blk_cell BK410.out 0).trans rfl,(blk_cell BK410.out 1).trans rfl,(blk_cell BK410.out 2).trans rfl,HS3_⟩ (fun hHeld=>?_)
     clear hK K
     refine norm_ (a':=?_) ?_ ?_
     rotate_left
     ·show Act.put _ (some 36) _=_
      simp only [Act.put,yps,i64_w,i32_w]
      rfl
     refine one_ (i:=10) (N:=some 41) (yvb 29 47103) rfl rfl (one_of HT_.out (by kernel_rfl)) (by decide) (fun K hK=>?_)
     refine Kd.R_lit_step (Kd.int .i64) _ 3 ?hg (N:=41) ?hd (xs:=([rd t405 0]:List Int)) (inner:=[.int .i64 (rd t405 0)]) (ok:=fun _=>True) (okp:=fun _=>True) ?hr ?hp (fun _ hk=>hk) trivial (Below.refl _ _) (Nat.le_refl _) (by simp) ?_;(case hd=>rfl);(case hg=>rfl);(case hr=>first|(go_simp;done)|(go_simp;rfl));(case hp=>exact (Reps.one (show Kd.M (Kd.int .i64) _ _ _ (rd t405 0) [.int .i64 (rd t405 0)] from rfl) (Reps.none _ _)))
     intro v422 w48 ho49 hb hg_ hnew_
     have HS3_:=(hb.cell (World.block_lt_of_cell? _ _ (hHeld.2.2.2))).trans (hHeld.2.2.2)
     clear hg_ hnew_
     (first|rw [← Ny421.out] at ho49|(simp only [Int.reduceToNat] at ho49;rw [← Ny421.out] at ho49))
     have HO423:=yam (Kd.R_lower (Kd.Yw (Kd.Yw ho49 (Kd.R_lt (Kd.Yz HO_411001.out))) (Kd.R_lt (Kd.Yz HO419.out))) (below_size yhb))
     replace HO_411001:=yam (Kd.Ye (Kd.Yz HO_411001.out) (Kd.Yb ho49) hb)
     replace HO419:=yam (Kd.Ye (Kd.Yz HO419.out) (Kd.Yb ho49) hb)
     replace BK410:=yam (ybb BK410.out hb)
     replace HB:=yam (below_step yhb hb)
     clear hb ho49
     refine hK.out _ _ ⟨(blk_cell BK410.out 0).trans rfl,(blk_cell BK410.out 1).trans rfl,(blk_cell BK410.out 2).trans rfl,HS3_⟩ (fun hHeld=>?_)
     clear hK K
     refine norm_ (a':=?_) ?_ ?_
     rotate_left
     ·show Act.put _ (some 41) _=_
      simp only [Act.put,yps,i64_w,i32_w]
      rfl
     exact norm_ (by simp only [putAll,Act.put,yps]) (hCont (v415,v418,v422) _ ⟨hHeld,(by (with_reducible repeat (first|apply Kd.Ya|apply Kd.Yn|apply Kd.Yd));exact Kd.R_mono HO419.out (fun _ hk=>⟨hk.2,hk.1⟩)),(by (with_reducible repeat (first|apply Kd.Ya|apply Kd.Yn|apply Kd.Yd));exact Kd.R_mono HO423.out (fun _ hk=>⟨hk.2,hk.1.2⟩)),(by (with_reducible repeat (first|apply Kd.Ya|apply Kd.Yn|apply Kd.Yd));exact Kd.R_mono HO_411001.out (fun _ hk=>⟨hk.1.2,hk.2⟩)),(ybz BK410.out),yhb⟩)
    ·skip
     refine Kd.R_lit_step (Kd.int .i64) _ 3 ?hg (N:=41) ?hd (xs:=([rd t405 0]:List Int)) (inner:=[.int .i64 (rd t405 0)]) (ok:=fun _=>True) (okp:=fun _=>True) ?hr ?hp (fun _ hk=>hk) trivial (Below.refl _ _) (Nat.le_refl _) (by simp) ?_;(case hd=>rfl);(case hg=>rfl);(case hr=>first|(go_simp;done)|(go_simp;rfl));(case hp=>exact (Reps.one (show Kd.M (Kd.int .i64) _ _ _ (rd t405 0) [.int .i64 (rd t405 0)] from rfl) (Reps.none _ _)))
     intro v422 w47 ho48 hb hg_ hnew_
     have HS3_:=(hb.cell (World.block_lt_of_cell? _ _ (hHeld.2.2.2))).trans (hHeld.2.2.2)
     clear hg_ hnew_
     (first|rw [← Ny421.out] at ho48|(simp only [Int.reduceToNat] at ho48;rw [← Ny421.out] at ho48))
     have HO423:=yam (Kd.R_lower (Kd.Yw (Kd.Yw ho48 (Kd.R_lt (Kd.Yz HO_411001.out))) (Kd.R_lt (Kd.Yz HO416.out))) (below_size yhb))
     replace HO_411001:=yam (Kd.Ye (Kd.Yz HO_411001.out) (Kd.Yb ho48) hb)
     replace HO416:=yam (Kd.Ye (Kd.Yz HO416.out) (Kd.Yb ho48) hb)
     replace BK410:=yam (ybb BK410.out hb)
     replace HB:=yam (below_step yhb hb)
     clear hb ho48
     refine hK.out _ _ ⟨(blk_cell BK410.out 0).trans rfl,(blk_cell BK410.out 1).trans rfl,(blk_cell BK410.out 2).trans rfl,HS3_⟩ (fun hHeld=>?_)
     clear hK K
     refine norm_ (a':=?_) ?_ ?_
     rotate_left
     ·show Act.put _ (some 41) _=_
      simp only [Act.put,yps,i64_w,i32_w]
      rfl
     refine one_ (i:=5) (N:=some 36) (yvb 29 47103) rfl rfl (one_of HT_.out (by kernel_rfl)) (by decide) (fun K hK=>?_)
     refine Kd.R_append_rows_step (Kd.int .i64) (w0:=w) w.heap.size (by rfl) (.tmp 33) (.tmp 35) 23 3 (.int .i64 0) 8 rfl Try.underlying23 info3 rfl (by decide) (by omega) v415 y414 t405 _ _ _ (fun k_=>some k_≠(.slice (some ad420) t405.length co18:Value).ownBlock∧some k_≠(v422:Value).ownBlock) (fun _=>False) rfl rfl ?aO ?aR (fun _ _ h=>h) (fun _ h=>h.elim) ?aF ?aB ?aS ?aL ?_
     (case aR=>repeat (first|exact (Kd.Yr HO_411001.out).2.2|(with_reducible refine Kd.C_alloc ?_ _)|(with_reducible refine Kd.C_drewN ?_ _)|(with_reducible refine Kd.C_drew ?_)))
     (case aB=>exact yhb)
     (case aF=>exact (fun k_ hk=>⟨Kd.fresh' (Kd.R_lt (Kd.Yz HO_411001.out)) k_ hk,Kd.fresh' (Kd.R_lt (Kd.Yz HO423.out)) k_ hk⟩))
     (case aO=>exact (by (with_reducible repeat (first|apply Kd.Ya|apply Kd.Yn|apply Kd.Yd));exact Kd.R_mono HO416.out (fun _ hk=>⟨hk.1.2,hk.2⟩)))
     (case aS=>exact (below_size yhb))
     (case aL=>have:=LMc27.out;omega)
     intro v418 w49 ho hb hg hat
     have HS3_:=cell_grown hg (hHeld.2.2.2) (by first|(rw [add_block];exact (fun e_=>(by have h_:=HO416.out.1 _ e_.symm;simp [Value.ownBlock] at h_)))|(show some (Addr.add _ _).block≠_;rw [add_block];exact (fun e_=>(by have h_:=HO416.out.1 _ e_.symm;simp [Value.ownBlock] at h_)))|exact (fun e_=>(by have h_:=HO416.out.1 _ e_.symm;simp [Value.ownBlock] at h_)))
     rw [← Ny417.out] at ho
     replace HO_411001:=yam (Kd.R_after (ok:=(fun k_=>some k_≠(v422:Value).ownBlock)) (by (with_reducible repeat (first|apply Kd.Ya|apply Kd.Yn|apply Kd.Yd));exact Kd.R_mono HO_411001.out (fun _ hk=>⟨hk.2,hk.1.2⟩)) hg hat)
     replace BK410:=yam (blk_grown (g:=gb410) (o:= .cells #[.int .i64 t404,.slice (some ad420) t405.length co18,.int .i64 t408] 32 (0,0)) (ybz BK410.out) hg (Kd.R_ne HO416.out BK410.out (by decide)))
     replace HO423:=yam (Kd.R_after (ok:=(fun k_=>some k_≠(.slice (some ad420) t405.length co18:Value).ownBlock)) (by (with_reducible repeat (first|apply Kd.Ya|apply Kd.Yn|apply Kd.Yd));exact Kd.R_mono HO423.out (fun _ hk=>⟨hk.1.2,hk.2⟩)) hg hat)
     replace HB:=yam (hb)
     have HO419:=yam (ho)
     clear HO416
     clear ho hb hg hat
     refine hK.out _ _ ⟨(blk_cell BK410.out 0).trans rfl,(blk_cell BK410.out 1).trans rfl,(blk_cell BK410.out 2).trans rfl,HS3_⟩ (fun hHeld=>?_)
     clear hK K
     refine norm_ (a':=?_) ?_ ?_
     rotate_left
     ·show Act.put _ (some 36) _=_
      simp only [Act.put,yps,i64_w,i32_w]
      rfl
     exact norm_ (by simp only [putAll,Act.put,yps]) (hCont (v415,v418,v422) _ ⟨hHeld,(by (with_reducible repeat (first|apply Kd.Ya|apply Kd.Yn|apply Kd.Yd));exact Kd.R_mono HO419.out (fun _ hk=>⟨hk.2,hk.1⟩)),(by (with_reducible repeat (first|apply Kd.Ya|apply Kd.Yn|apply Kd.Yd));exact Kd.R_mono HO423.out (fun _ hk=>⟨hk.2,hk.1⟩)),(by (with_reducible repeat (first|apply Kd.Ya|apply Kd.Yn|apply Kd.Yd));exact Kd.R_mono HO_411001.out (fun _ hk=>⟨hk.2,hk.1⟩)),(ybz BK410.out),yhb⟩)
   ·skip
    refine Kd.R_lit_step (Kd.int .i64) _ 3 ?hg (N:=41) ?hd (xs:=([rd t405 0]:List Int)) (inner:=[.int .i64 (rd t405 0)]) (ok:=fun _=>True) (okp:=fun _=>True) ?hr ?hp (fun _ hk=>hk) trivial (Below.refl _ _) (Nat.le_refl _) (by simp) ?_;(case hd=>rfl);(case hg=>rfl);(case hr=>first|(go_simp;done)|(go_simp;rfl));(case hp=>exact (Reps.one (show Kd.M (Kd.int .i64) _ _ _ (rd t405 0) [.int .i64 (rd t405 0)] from rfl) (Reps.none _ _)))
    intro v422 w45 ho46 hb hg_ hnew_
    have HS3_:=(hb.cell (World.block_lt_of_cell? _ _ (hHeld.2.2.2))).trans (hHeld.2.2.2)
    clear hg_ hnew_
    (first|rw [← Ny421.out] at ho46|(simp only [Int.reduceToNat] at ho46;rw [← Ny421.out] at ho46))
    have HO423:=yam (Kd.R_lower (Kd.Yw ho46 (Kd.R_lt (Kd.Yz HO_411001.out))) (below_size yhb))
    replace HO_411001:=yam (Kd.Ye (Kd.Yz HO_411001.out) (Kd.Yb ho46) hb)
    replace BK410:=yam (ybb BK410.out hb)
    replace HB:=yam (below_step yhb hb)
    clear hb ho46
    refine hK.out _ _ ⟨(blk_cell BK410.out 0).trans rfl,(blk_cell BK410.out 1).trans rfl,(blk_cell BK410.out 2).trans rfl,HS3_⟩ (fun hHeld=>?_)
    clear hK K
    refine norm_ (a':=?_) ?_ ?_
    rotate_left
    ·show Act.put _ (some 41) _=_
     simp only [Act.put,yps,i64_w,i32_w]
     rfl
    refine one_ (i:=2) (N:=some 33) (yvb 29 47071) rfl rfl (one_of HT_.out (by kernel_rfl)) (by decide) (fun K hK=>?_)
    refine Kd.R_lit_step (Kd.int .i64) _ 3 ?hg (N:=33) ?hd (xs:=([]:List Int)) (inner:=[]) (ok:=fun _=>True) (okp:=fun _=>True) ?hr ?hp (fun _ hk=>hk) trivial (Below.refl _ _) (Nat.le_refl _) (by simp) ?_;(case hd=>rfl);(case hg=>rfl);(case hr=>first|(go_simp;done)|(go_simp;rfl));(case hp=>exact (Reps.none _ _))
    intro v415 w47 ho48 hb hg_ hnew_
    have HS3_:=(hb.cell (World.block_lt_of_cell? _ _ (hHeld.2.2.2))).trans (hHeld.2.2.2)
    clear hg_ hnew_
    (first|rw [← Ny414.out] at ho48|(simp only [Int.reduceToNat] at ho48;rw [← Ny414.out] at ho48))
    have HO416:=yam (Kd.R_lower (Kd.Yw (Kd.Yw ho48 (Kd.R_lt (Kd.Yz HO_411001.out))) (Kd.R_lt (Kd.Yz HO423.out))) (below_size yhb))
    replace HO_411001:=yam (Kd.Ye (Kd.Yz HO_411001.out) (Kd.Yb ho48) hb)
    replace HO423:=yam (Kd.Ye (Kd.Yz HO423.out) (Kd.Yb ho48) hb)
    replace BK410:=yam (ybb BK410.out hb)
    replace HB:=yam (below_step yhb hb)
    clear hb ho48
    refine hK.out _ _ ⟨(blk_cell BK410.out 0).trans rfl,(blk_cell BK410.out 1).trans rfl,(blk_cell BK410.out 2).trans rfl,HS3_⟩ (fun hHeld=>?_)
    clear hK K
    refine norm_ (a':=?_) ?_ ?_
    rotate_left
    ·show Act.put _ (some 33) _=_
     simp only [Act.put,yps,i64_w,i32_w]
     rfl
    refine one_ (i:=5) (N:=some 36) (yvb 29 47103) rfl rfl (one_of HT_.out (by kernel_rfl)) (by decide) (fun K hK=>?_)
    refine Kd.R_append_rows_step (Kd.int .i64) (w0:=w) w.heap.size (by rfl) (.tmp 33) (.tmp 35) 23 3 (.int .i64 0) 8 rfl Try.underlying23 info3 rfl (by decide) (by omega) v415 y414 t405 _ _ _ (fun k_=>some k_≠(.slice (some ad420) t405.length co18:Value).ownBlock∧some k_≠(v422:Value).ownBlock) (fun _=>False) rfl rfl ?aO ?aR (fun _ _ h=>h) (fun _ h=>h.elim) ?aF ?aB ?aS ?aL ?_
    (case aR=>repeat (first|exact (Kd.Yr HO_411001.out).2.2|(with_reducible refine Kd.C_alloc ?_ _)|(with_reducible refine Kd.C_drewN ?_ _)|(with_reducible refine Kd.C_drew ?_)))
    (case aB=>exact yhb)
    (case aF=>exact (fun k_ hk=>⟨Kd.fresh' (Kd.R_lt (Kd.Yz HO_411001.out)) k_ hk,Kd.fresh' (Kd.R_lt (Kd.Yz HO423.out)) k_ hk⟩))
    (case aO=>exact (by (with_reducible repeat (first|apply Kd.Ya|apply Kd.Yn|apply Kd.Yd));exact Kd.R_mono HO416.out (fun _ hk=>⟨hk.1.2,hk.2⟩)))
    (case aS=>exact (below_size yhb))
    (case aL=>have:=LMc27.out;omega)
    intro v418 w49 ho hb hg hat
    have HS3_:=cell_grown hg (hHeld.2.2.2) (by first|(rw [add_block];exact (fun e_=>(by have h_:=HO416.out.1 _ e_.symm;simp [Value.ownBlock] at h_)))|(show some (Addr.add _ _).block≠_;rw [add_block];exact (fun e_=>(by have h_:=HO416.out.1 _ e_.symm;simp [Value.ownBlock] at h_)))|exact (fun e_=>(by have h_:=HO416.out.1 _ e_.symm;simp [Value.ownBlock] at h_)))
    rw [← Ny417.out] at ho
    replace HO_411001:=yam (Kd.R_after (ok:=(fun k_=>some k_≠(v422:Value).ownBlock)) (by (with_reducible repeat (first|apply Kd.Ya|apply Kd.Yn|apply Kd.Yd));exact Kd.R_mono HO_411001.out (fun _ hk=>⟨hk.1.2,hk.2⟩)) hg hat)
    replace BK410:=yam (blk_grown (g:=gb410) (o:= .cells #[.int .i64 t404,.slice (some ad420) t405.length co18,.int .i64 t408] 32 (0,0)) (ybz BK410.out) hg (Kd.R_ne HO416.out BK410.out (by decide)))
    replace HO423:=yam (Kd.R_after (ok:=(fun k_=>some k_≠(.slice (some ad420) t405.length co18:Value).ownBlock)) (by (with_reducible repeat (first|apply Kd.Ya|apply Kd.Yn|apply Kd.Yd));exact Kd.R_mono HO423.out (fun _ hk=>⟨hk.1.2,hk.2⟩)) hg hat)
    replace HB:=yam (hb)
    have HO419:=yam (ho)
    clear HO416
    clear ho hb hg hat
    refine hK.out _ _ ⟨(blk_cell BK410.out 0).trans rfl,(blk_cell BK410.out 1).trans rfl,(blk_cell BK410.out 2).trans rfl,HS3_⟩ (fun hHeld=>?_)
    clear hK K
    refine norm_ (a':=?_) ?_ ?_
    rotate_left
    ·show Act.put _ (some 36) _=_
     simp only [Act.put,yps,i64_w,i32_w]
     rfl
    exact norm_ (by simp only [putAll,Act.put,yps]) (hCont (v415,v418,v422) _ ⟨hHeld,(by (with_reducible repeat (first|apply Kd.Ya|apply Kd.Yn|apply Kd.Yd));exact Kd.R_mono HO419.out (fun _ hk=>⟨hk.2,hk.1⟩)),(by (with_reducible repeat (first|apply Kd.Ya|apply Kd.Yn|apply Kd.Yd));exact Kd.R_mono HO423.out (fun _ hk=>⟨hk.2,hk.1⟩)),(by (with_reducible repeat (first|apply Kd.Ya|apply Kd.Yn|apply Kd.Yd));exact Kd.R_mono HO_411001.out (fun _ hk=>⟨hk.2,hk.1⟩)),(ybz BK410.out),yhb⟩)
  rintro ⟨v415,v418,v422⟩ w50 ⟨hS_,h0_,h1_,h2_,h3_,h4_⟩
  have HO419:Aside0 (Kd.R (Kd.int .i64) 3 w50 w.heap.size (fun k_=>some k_≠(v422:Value).ownBlock∧some k_≠(.slice (some ad420) t405.length co18:Value).ownBlock) v418 y417):=⟨h0_⟩
  have HO423:Aside0 (Kd.R (Kd.int .i64) 3 w50 w.heap.size (fun k_=>some k_≠(v418:Value).ownBlock∧some k_≠(.slice (some ad420) t405.length co18:Value).ownBlock) v422 y421):=⟨h1_⟩
  replace HO_411001:Aside0 (Kd.R (Kd.int .i64) 3 w50 w.heap.size (fun k_=>some k_≠(v418:Value).ownBlock∧some k_≠(v422:Value).ownBlock) (.slice (some ad420) t405.length co18) t405):=⟨h2_⟩
  replace BK410:Aside0 (w50.heap[gb410]?=some (.cells #[.int .i64 t404,.slice (some ad420) t405.length co18,.int .i64 t408] 32 (0,0))):=⟨h3_⟩
  replace HB:Aside0 (Below w.heap.size w w50):=⟨h4_⟩
  clear h0_ h1_ h2_ h3_ h4_
  have hHeld:w50.cell? ⟨gb410,0,none⟩=some (.int .i64 t404)∧w50.cell? ⟨gb410,1,none⟩=some (.slice (some ad420) t405.length co18)∧w50.cell? ⟨gb410,2,none⟩=some (.int .i64 t408)∧w50.cell? ad420=some (.int .i64 (rd t405 0)):=hS_
  obtain ⟨Ao52,co52,eo52⟩:=Kd.R_slice HO423.out
  (first|subst eo52|(injection eo52 with f1_ f2_ f3_;have f4_:=f1_.symm;have f5_:=f3_.symm;clear f1_ f2_ f3_;subst f4_;subst f5_))
  refine norm_ (a':=?_) ?_ ?_
  rotate_left
  ·simp only [putAll,Act.put,yps]
   rfl
  refine one_ (i:=11) (N:=some 42) (yvb 29 49151) rfl rfl (one_of HT_.out (by kernel_rfl)) (by decide) (fun K hK=>?_)
  refine Kd.R_append_rows_step (Kd.int .i64) (w0:=w) w.heap.size (by rfl) (.tmp 36) (.tmp 41) 23 3 (.int .i64 0) 8 rfl Try.underlying23 info3 rfl (by decide) (by omega) v418 y417 y421 _ _ _ (fun k_=>some k_≠(.slice (some ad420) t405.length co18:Value).ownBlock∧some k_≠(.slice Ao52 y421.length co52:Value).ownBlock) (fun _=>False) rfl rfl ?aO ?aR (fun _ _ h=>h) (fun _ h=>h.elim) ?aF ?aB ?aS ?aL ?_
  (case aR=>repeat (first|exact (Kd.Yr HO423.out).2.2|(with_reducible refine Kd.C_alloc ?_ _)|(with_reducible refine Kd.C_drewN ?_ _)|(with_reducible refine Kd.C_drew ?_)))
  (case aB=>exact yhb)
  (case aF=>exact (fun k_ hk=>⟨Kd.fresh' (Kd.R_lt (Kd.Yz HO_411001.out)) k_ hk,Kd.fresh' (Kd.R_lt (Kd.Yz HO423.out)) k_ hk⟩))
  (case aO=>exact (by (with_reducible repeat (first|apply Kd.Ya|apply Kd.Yn|apply Kd.Yd));exact Kd.R_mono HO419.out (fun _ hk=>⟨hk.2,hk.1⟩)))
  (case aS=>exact (below_size yhb))
  (case aL=>have:=LMc29.out;omega)
  intro v425 w51 ho hb hg hat
  have HS3_:=cell_grown hg (hHeld.2.2.2) (by first|(rw [add_block];exact (fun e_=>(by have h_:=HO419.out.1 _ e_.symm;simp [Value.ownBlock] at h_)))|(show some (Addr.add _ _).block≠_;rw [add_block];exact (fun e_=>(by have h_:=HO419.out.1 _ e_.symm;simp [Value.ownBlock] at h_)))|exact (fun e_=>(by have h_:=HO419.out.1 _ e_.symm;simp [Value.ownBlock] at h_)))
  rw [← Ny424.out] at ho
  replace HO_411001:=yam (Kd.R_after (ok:=(fun k_=>some k_≠(.slice Ao52 y421.length co52:Value).ownBlock)) (by (with_reducible repeat (first|apply Kd.Ya|apply Kd.Yn|apply Kd.Yd));exact Kd.R_mono HO_411001.out (fun _ hk=>⟨hk.2,hk.1⟩)) hg hat)
  replace BK410:=yam (blk_grown (g:=gb410) (o:= .cells #[.int .i64 t404,.slice (some ad420) t405.length co18,.int .i64 t408] 32 (0,0)) (ybz BK410.out) hg (Kd.R_ne HO419.out BK410.out (by decide)))
  replace HO423:=yam (Kd.R_after (ok:=(fun k_=>some k_≠(.slice (some ad420) t405.length co18:Value).ownBlock)) (by (with_reducible repeat (first|apply Kd.Ya|apply Kd.Yn|apply Kd.Yd));exact Kd.R_mono HO423.out (fun _ hk=>⟨hk.2,hk.1⟩)) hg hat)
  replace HB:=yam (hb)
  have HO426:=yam (ho)
  clear HO419
  clear ho hb hg hat
  obtain ⟨Ao53,co53,eo53⟩:=Kd.R_slice HO426.out
  (first|subst eo53|(injection eo53 with f1_ f2_ f3_;have f4_:=f1_.symm;have f5_:=f3_.symm;clear f1_ f2_ f3_;subst f4_;subst f5_))
  refine hK.out _ _ ⟨(blk_cell BK410.out 0).trans rfl,(blk_cell BK410.out 1).trans rfl,(blk_cell BK410.out 2).trans rfl,HS3_⟩ (fun hHeld=>?_)
  clear hK K
  refine norm_ (a':=?_) ?_ ?_
  rotate_left
  ·show Act.put _ (some 42) _=_
   simp only [Act.put,yps,i64_w,i32_w]
   rfl
  refine yvp 14 45 (yvb 29 65535) HT_.out ?_
  refine one_ (i:=16) (N:=some 47) (yvb 29 131071) rfl rfl (one_of HT_.out (by kernel_rfl)) (by decide) (fun K hK=>?_)
  refine goes_ Try.func23 (by kernel_rfl) rfl #[.agg #[.int .i64 t404,.slice Ao53 y424.length co53,.int .i64 t408],.int .i64 t409] (by rfl) rfl rfl ymd ?_
  with_reducible refine (impl_RuleValid.calls kj13 t404 _ _ y424 t408 t409 false _ ?_ ?_ A30.out).mono ?_
  exact Kd.Cz (Kd.Yr HO426.out).2.2
  exact (Kd.Yr HO426.out).2.1
  rintro e w54 ⟨rfl,hb⟩
  have HS3_:=(hb.cell (World.block_lt_of_cell? _ _ (hHeld.2.2.2))).trans (hHeld.2.2.2)
  refine ⟨_,rfl,?_⟩
  replace HO_411001:=yam (Kd.R_below (Kd.Yz HO_411001.out) hb)
  replace HO423:=yam (Kd.R_below (Kd.Yz HO423.out) hb)
  replace HO426:=yam (Kd.R_below (Kd.Yz HO426.out) hb)
  replace BK410:=yam (ybb BK410.out hb)
  replace HB:=yam (below_step yhb hb)
  (try clear hb)
  (try clear hb2)
  (try clear hk)
  (try clear hi)
  refine hK.out _ _ ⟨(blk_cell BK410.out 0).trans rfl,(blk_cell BK410.out 1).trans rfl,(blk_cell BK410.out 2).trans rfl,HS3_⟩ (fun hHeld=>?_)
  clear hK K
  refine norm_ (a':=?_) ?_ ?_
  rotate_left
  ·show Act.put _ (some 47) _=_
   simp only [Act.put,yps,i64_w,i32_w]
   rfl
  refine yvp 17 48 (yvb 29 262143) HT_.out ?_
  refine yvp 18 49 (yvb 29 524287) HT_.out ?_
  refine yvp 19 50 (yvb 29 1048575) HT_.out ?_
  refine yvp 21 52 (yvb 29 3145727) HT_.out ?_
  refine yvp 24 55 (yvb 29 19922943) HT_.out ?_
  refine yvt 20 51 (yvb 29 20971519) HT_.out HW_.out hHeld ?_
  refine yvt 22 53 (yvb 29 25165823) HT_.out HW_.out hHeld ?_
  refine yvp 23 54 (yvb 29 33554431) HT_.out ?_
  refine one_ (i:=25) (N:=some 56) (yvb 29 67108863) rfl rfl (one_of HT_.out (by kernel_rfl)) (by decide) (fun K hK=>?_)
  refine goes_ Try.func23 (by kernel_rfl) rfl #[.agg #[.int .i64 6,.slice (some ad420) t405.length co18,.int .i64 t408],.int .i64 t409] (by rfl) rfl rfl ymd ?_
  with_reducible refine (impl_RuleValid.calls kj13 6 _ _ t405 t408 t409 t428 _ ?_ ?_ A43.out).mono ?_
  exact Kd.Cz (Kd.Yr HO_411001.out).2.2
  exact (Kd.Yr HO_411001.out).2.1
  rintro e w55 ⟨rfl,hb⟩
  have HS3_:=(hb.cell (World.block_lt_of_cell? _ _ (hHeld.2.2.2))).trans (hHeld.2.2.2)
  refine ⟨_,rfl,?_⟩
  replace HO_411001:=yam (Kd.R_below (Kd.Yz HO_411001.out) hb)
  replace HO423:=yam (Kd.R_below (Kd.Yz HO423.out) hb)
  replace HO426:=yam (Kd.R_below (Kd.Yz HO426.out) hb)
  replace BK410:=yam (ybb BK410.out hb)
  replace HB:=yam (below_step yhb hb)
  (try clear hb)
  (try clear hb2)
  (try clear hk)
  (try clear hi)
  refine hK.out _ _ ⟨(blk_cell BK410.out 0).trans rfl,(blk_cell BK410.out 1).trans rfl,(blk_cell BK410.out 2).trans rfl,HS3_⟩ (fun hHeld=>?_)
  clear hK K
  refine norm_ (a':=?_) ?_ ?_
  rotate_left
  ·show Act.put _ (some 56) _=_
   simp only [Act.put,yps,i64_w,i32_w]
   rfl
  refine yvp 26 57 (yvb 29 134217727) HT_.out ?_
  refine yvp 27 58 (yvb 29 268435455) HT_.out ?_
  refine yvp 28 2 (yvb 29 536870911) HT_.out ?_
  refine done_ (done_of HT_.out (by kernel_rfl)) ?_
  try go_wp2
  go_ret
  exact ⟨yer,yhb⟩
def laws_FnRuleValid.Pure:Prop:=∀ (l0:List Int),l0.length≤maxLen→l0.length * 1≤140737488351232→(∀ x∈l0,(Lit.int .u8 x).wf=true)→∃ k,laws_FnRuleValid.f k l0=some true
theorem laws_FnRuleValid.walk (P:laws_FnRuleValid.Pure)(a0:Option Addr)(len0 cap0:Nat)(z0:List Int)(w:World)(w0:(a0=none∧len0=0∧cap0=0∧z0=[])∨∃ x,a0=some x∧len0≤cap0∧cap0≤maxLen∧z0.length=cap0∧(∀ i,i < z0.length→w.cell? (x.add i)=some (.int .u8 (z0.getD i 0)))∧∀ n∈z0,(Lit.int .u8 n).wf=true)(y0:len0 * 1≤140737488351232) :
  Calls Try.prog 4 #[.slice a0 len0 cap0] w fun e w'=>e= .returned (.bool true)∧Below w.heap.size w w':=by
 obtain ⟨l0,rfl,hr0,hm0,hw0,hc0⟩:=ReadsInt.ofRowC w0
 obtain ⟨k,h⟩:=P l0 hm0 y0 hw0
 refine (laws_FnRuleValid.calls k _ _ l0 true w (Kd.C_of_reads (d:=(0:Int)) (h1:=fun _=>rfl) hr0) hc0 h).mono ?_
 rintro e w' ⟨rfl,hd⟩
 exact ⟨rfl,hd⟩
end Go.Proofs.Ythfbjkniinfgcaa.P
