/- The machine's side: each Go function as a plain Lean function and the proof that the machine's call does what that function says; written by this session's own program over the kit's print. -/
import Derived.Test.YtdemlminhkhonaaZP1
import Derived.Test.YtdemlminhkhonaaZP4
import Derived.Test.YtdemlminhkhonaaZP7
namespace Go.Proofs.Ytdemlminhkhonaa.P
set_option maxHeartbeats 8000000
set_option maxRecDepth 100000
open Go.RowKit Go.Proofs.YtdemlminhkhonaaW.PrintWords Go.Proofs.YtdemlminhkhonaaW.PrintLast Go.Proofs.YtdemlminhkhonaaW.PrintMore
attribute [local go_sem] max2_int min2_int max_two min_two max_three min_three max_four min_four   -- for this text's walks alone
set_option linter.unusedVariables false
set_option linter.unusedSimpArgs false
def laws_FnExactGradePuzzle.f (k:Nat)(a0_0:Int)(l0_1:List Int)(l0_2:List (S65)):Option (Bool):=(laws_szPuzzle.f k a0_0 l0_1 l0_2 1048576).bind fun t728=>(if t728 < 0 then (some true) else ((laws_toPuzzle.f k a0_0 l0_1 l0_2).bind fun bt729=>((spec_GradePuzzle.f k bt729.1 bt729.2.1 bt729.2.2).bind fun t736=>((laws_toPuzzle.f k a0_0 l0_1 l0_2).bind fun bt737=>((impl_GradePuzzle.f k bt737.1 bt737.2.1 bt737.2.2).bind fun t745=>(if t745=t736 then ((laws_toPuzzle.f k a0_0 l0_1 l0_2).bind fun bt746=>((laws_eqPuzzle.f k bt737.1 bt737.2.1 bt737.2.2 bt746.1 bt746.2.1 bt746.2.2).bind fun t753=>(if t753=true then (some true) else (some false)))) else (some false)))))))
theorem laws_FnExactGradePuzzle.calls (k:Nat)(a0_0:Int)(A0_1:Option Addr)(c0_1:Nat)(l0_1:List Int)(A0_2:Option Addr)(c0_2:Nat)(l0_2:List (S65))(r:Bool)(w:World)(hr0_1:Kd.C (Kd.int .i64) w A0_1 l0_1.length l0_1)(hc0_1:l0_1.length≤c0_1)(hr0_2:Kd.C k65 w A0_2 l0_2.length l0_2)(hc0_2:l0_2.length≤c0_2)(h:laws_FnExactGradePuzzle.f k a0_0 l0_1 l0_2=some r) :
  Calls Try.prog 5 #[.agg #[.int .i64 a0_0,.slice A0_1 l0_1.length c0_1,.slice A0_2 l0_2.length c0_2]] w fun e w'=>e= .returned (.bool r)∧Below w.heap.size w w':=by
 have hu25:=Try.underlying25
 have hu30:=Try.underlying30
 have HR0_1:=yam hr0_1
 have HC0_1:=yam hc0_1
 clear hr0_1 hc0_1
 have HR0_2:=yam hr0_2
 have HC0_2:=yam hc0_2
 clear hr0_2 hc0_2
 have HB:=yam (Below.refl w.heap.size w)
 unfold laws_FnExactGradePuzzle.f at h
 have H:=h
 clear h
 replace H:=ybi H;obtain ⟨t728,A2,H⟩:=H
 try dsimp only at H
 replace H:=yis H;obtain ⟨c3b0,H⟩ | ⟨c3b0,H⟩:=H
 ·obtain rfl:=ysi H
  go_enter Try.func5,Try.ntmps5
  go_wp2_with (first|(refine ybe 1 #[.int .i64 a0_0,.slice A0_1 l0_1.length c0_1,.slice A0_2 l0_2.length c0_2] 25 ?_;intro gb727 hg w4 hbox hb;have BK727:=yam (hbox);have GW727:=yam ((by rw [hg];exact (below_size (yez HB.out)):w.heap.size≤gb727));replace HB:=yam (below_step (yez HB.out) hb);have GE727:=GW727;clear hb hbox hg;obtain ⟨hcz5_0,hcz5_1,hcz5_2,hfz5_0,hfz5_1,hfz5_2⟩:=ybc BK727.out)|(refine goesL_ (some 9) rfl rfl Try.func9 (by kernel_rfl) rfl #[.agg #[.int .i64 a0_0,.slice A0_1 l0_1.length c0_1,.slice A0_2 l0_2.length c0_2],.int .i64 1048576] rfl ymd ?_;(with_reducible refine (laws_szPuzzle.calls k a0_0 _ _ l0_1 _ _ l0_2 1048576 t728 _ ?_ ?_ ?_ ?_ A2.out).mono ?_);exact Kd.Cz ((Kd.C_below HR0_1.out HB.out));exact HC0_1.out;exact Kd.Cz ((Kd.C_below HR0_2.out HB.out));exact HC0_2.out;rintro e w6 ⟨rfl,hb⟩;refine ⟨_,rfl,?_⟩;replace BK727:=yam (ybb BK727.out hb);replace HB:=yam (below_step yhb hb);(try clear hb)))
  go_ret
  exact ⟨yer,yhb⟩
 replace H:=ybi H;obtain ⟨⟨t729,t730,t733⟩,A7,H⟩:=H
 try dsimp only at H
 replace H:=ybi H;obtain ⟨t736,A8,H⟩:=H
 try dsimp only at H
 replace H:=ybi H;obtain ⟨⟨t737,t738,t741⟩,A9,H⟩:=H
 try dsimp only at H
 replace H:=ybi H;obtain ⟨t745,A10,H⟩:=H
 try dsimp only at H
 replace H:=yit H;obtain ⟨c11,H⟩ | ⟨c11,H⟩:=H
 rotate_left
 ·have c11b0:(t745 == t736)=false:=beq_eq_false_iff_ne.mpr c11
  have c11b1:(t745 != t736)=true:=bne_iff_ne.mpr c11
  obtain rfl:=ysi H
  go_enter Try.func5,Try.ntmps5
  go_wp2_with (first|(refine ybe 1 #[.int .i64 a0_0,.slice A0_1 l0_1.length c0_1,.slice A0_2 l0_2.length c0_2] 25 ?_;intro gb727 hg w57 hbox hb;have BK727:=yam (hbox);have GW727:=yam ((by rw [hg];exact (below_size (yez HB.out)):w.heap.size≤gb727));replace HB:=yam (below_step (yez HB.out) hb);have GE727:=GW727;clear hb hbox hg;obtain ⟨hcz58_0,hcz58_1,hcz58_2,hfz58_0,hfz58_1,hfz58_2⟩:=ybc BK727.out)|(refine goesL_ (some 9) rfl rfl Try.func9 (by kernel_rfl) rfl #[.agg #[.int .i64 a0_0,.slice A0_1 l0_1.length c0_1,.slice A0_2 l0_2.length c0_2],.int .i64 1048576] rfl ymd ?_;(with_reducible refine (laws_szPuzzle.calls k a0_0 _ _ l0_1 _ _ l0_2 1048576 t728 _ ?_ ?_ ?_ ?_ A2.out).mono ?_);exact Kd.Cz ((Kd.C_below HR0_1.out HB.out));exact HC0_1.out;exact Kd.Cz ((Kd.C_below HR0_2.out HB.out));exact HC0_2.out;rintro e w59 ⟨rfl,hb⟩;refine ⟨_,rfl,?_⟩;replace BK727:=yam (ybb BK727.out hb);replace HB:=yam (below_step yhb hb);(try clear hb);obtain ⟨hcz60_0,hcz60_1,hcz60_2,hfz60_0,hfz60_1,hfz60_2⟩:=ybc BK727.out)|(refine goesL_ (some 13) rfl rfl Try.func11 (by kernel_rfl) rfl #[.agg #[.int .i64 a0_0,.slice A0_1 l0_1.length c0_1,.slice A0_2 l0_2.length c0_2]] rfl ymd ?_;(with_reducible refine (laws_toPuzzle.calls k a0_0 _ _ l0_1 _ _ l0_2 t729 t730 t733 _ ?_ ?_ ?_ ?_ A7.out).mono ?_);exact Kd.Cz ((Kd.C_below HR0_1.out HB.out));exact HC0_1.out;exact Kd.Cz ((Kd.C_below HR0_2.out HB.out));exact HC0_2.out;rintro e w61 ⟨v731,v734,rfl,ho0,ho1,hb⟩;refine ⟨_,rfl,?_⟩;have HO732:=yam (Kd.R_lower ho0 (below_size yhb));have HO735:=yam (Kd.S_lower ho1 (below_size yhb));replace BK727:=yam (ybb BK727.out hb);replace HB:=yam (below_step yhb hb);(try clear hb);(try clear ho0);(try clear ho1);obtain ⟨Ao62,co62,eo62⟩:=Kd.R_slice HO732.out;subst eo62;obtain ⟨Ao63,co63,eo63⟩:=Kd.S_slice HO735.out;subst eo63)|(refine goesL_ (some 14) rfl rfl Try.func23 (by kernel_rfl) rfl #[.agg #[.int .i64 t729,.slice Ao62 t730.length co62,.slice Ao63 t733.length co63]] rfl ymd ?_;(with_reducible refine (spec_GradePuzzle.calls k t729 _ _ t730 _ _ t733 t736 _ ?side1 ?side2 ?side3 ?side4 A8.out).mono ?_);(case side1=>exact Kd.Cz (Kd.Yr HO732.out).2.2);(case side2=>exact (Kd.Yr HO732.out).2.1);(case side3=>repeat (first|exact (Kd.S_reads' HO735.out).2.2|(with_reducible refine Kd.C_alloc ?_ _)|(with_reducible refine Kd.C_drewN ?_ _)|(with_reducible refine Kd.C_drew ?_)));(case side4=>exact (Kd.S_reads' HO735.out).2.1);rintro e w64 ⟨rfl,hb⟩;refine ⟨_,rfl,?_⟩;replace HO732:=yam (Kd.R_below (Kd.Yz HO732.out) hb);replace HO735:=yam (Kd.S_below (by (with_reducible repeat (first|apply Kd.S_alloc|apply Kd.S_drewN|apply Kd.S_drew));exact HO735.out) hb);replace BK727:=yam (ybb BK727.out hb);replace HB:=yam (below_step yhb hb);(try clear hb);obtain ⟨hcz65_0,hcz65_1,hcz65_2,hfz65_0,hfz65_1,hfz65_2⟩:=ybc BK727.out)|(refine goesL_ (some 16) rfl rfl Try.func11 (by kernel_rfl) rfl #[.agg #[.int .i64 a0_0,.slice A0_1 l0_1.length c0_1,.slice A0_2 l0_2.length c0_2]] rfl ymd ?_;(with_reducible refine (laws_toPuzzle.calls k a0_0 _ _ l0_1 _ _ l0_2 t737 t738 t741 _ ?_ ?_ ?_ ?_ A9.out).mono ?_);exact Kd.Cz ((Kd.C_below HR0_1.out HB.out));exact HC0_1.out;exact Kd.Cz ((Kd.C_below HR0_2.out HB.out));exact HC0_2.out;rintro e w66 ⟨v739,v742,rfl,ho0,ho1,hb⟩;refine ⟨_,rfl,?_⟩;have HO740:=yam (Kd.R_lower (Kd.Yw ho0 (Kd.R_lt (Kd.Yz HO732.out))) (below_size yhb));have HO743:=yam (Kd.S_lower (Kd.S_new' (Kd.S_new' ho1 (Kd.R_lt (Kd.Yz HO732.out))) (Kd.S_lt (by (with_reducible repeat (first|apply Kd.S_alloc|apply Kd.S_drewN|apply Kd.S_drew));exact HO735.out))) (below_size yhb));replace HO732:=yam (Kd.Ye (Kd.Yz HO732.out) (Kd.Yb ho0) hb);replace HO735:=yam (Kd.S_mono (Kd.S_told (Kd.S_told (Kd.S_old (by (with_reducible repeat (first|apply Kd.S_alloc|apply Kd.S_drewN|apply Kd.S_drew));exact HO735.out) hb) (Kd.Yb ho0)) (Kd.S_base ho1)) (fun _ h_=>h_.1));replace BK727:=yam (ybb BK727.out hb);replace HB:=yam (below_step yhb hb);(try clear hb);(try clear ho0);(try clear ho1))|(refine ybe 5 #[.int .i64 0,.slice none 0 0,.slice none 0 0] 30 ?_;intro gb744 hg w67 hbox hb;replace HO732:=yam (Kd.R_below (Kd.Yz HO732.out) hb);replace HO735:=yam (Kd.S_below (by (with_reducible repeat (first|apply Kd.S_alloc|apply Kd.S_drewN|apply Kd.S_drew));exact HO735.out) hb);replace HO740:=yam (Kd.R_below (Kd.Yz HO740.out) hb);replace HO743:=yam (Kd.S_below (by (with_reducible repeat (first|apply Kd.S_alloc|apply Kd.S_drewN|apply Kd.S_drew));exact HO743.out) hb);have BK744:=yam (hbox);have GW744:=yam ((by rw [hg];exact (below_size yhb):w.heap.size≤gb744));replace HB:=yam (below_step yhb hb);have GE744:=GW744;have NB727_744:=yam ((by rw [hg];exact Nat.ne_of_lt (blk_lt (g:=gb727) (o:= .cells #[.int .i64 a0_0,.slice A0_1 l0_1.length c0_1,.slice A0_2 l0_2.length c0_2] 25 (0,0)) (ybz BK727.out)):gb727≠gb744));have NB744_727:=yam ((by rw [hg];exact Nat.ne_of_gt (blk_lt (g:=gb727) (o:= .cells #[.int .i64 a0_0,.slice A0_1 l0_1.length c0_1,.slice A0_2 l0_2.length c0_2] 25 (0,0)) (ybz BK727.out)):gb744≠gb727));replace BK727:=yam (ybb BK727.out hb);clear hb hbox hg;have hnb68:=NB744_727.out;have hnc68:=NB727_744.out;obtain ⟨hcz69_0,hcz69_1,hcz69_2,hfz69_0,hfz69_1,hfz69_2⟩:=ybc BK744.out;obtain ⟨Ao70,co70,eo70⟩:=Kd.R_slice HO740.out;subst eo70;obtain ⟨Ao71,co71,eo71⟩:=Kd.S_slice HO743.out;subst eo71)|(refine goesL_ (some 18) rfl rfl Try.func24 (by kernel_rfl) rfl #[.agg #[.int .i64 t737,.slice Ao70 t738.length co70,.slice Ao71 t741.length co71]] rfl ymd ?_;(with_reducible refine (impl_GradePuzzle.calls k t737 _ _ t738 _ _ t741 t745 _ ?side1 ?side2 ?side3 ?side4 A10.out).mono ?_);(case side1=>refine (Kd.Yr (e:=3) (base:=w.heap.size) (ok:=fun k_=>(True∧some k_≠(.slice Ao62 t730.length co62:Value).ownBlock)) (n:=t738.length) (c:=co70) ?_).2.2;exact (by (with_reducible repeat (first|apply Kd.Ya|apply Kd.Yn|apply Kd.Yd));exact (Kd.R_mono (Kd.R_far (p:=⟨gb744,2,none⟩) (Kd.R_far (p:=⟨gb744,1,none⟩) (Kd.R_far (p:=⟨gb744,0,none⟩) (Kd.R_types HO740.out BK744.out (by decide)) (fun _ hk=>hk.2) (.int .i64 t737)) (fun _ hk=>hk.2) (.slice Ao70 t738.length co70)) (fun _ hk=>hk.2) (.slice Ao71 t741.length co71)) (fun _ h_=>h_.1))));(case side2=>exact (Kd.Yr HO740.out).2.1);(case side3=>refine (Kd.S_reads' (e:=67) (base:=w.heap.size) (ok:=fun k_=>((some k_≠(.slice Ao70 t738.length co70:Value).ownBlock∧some k_≠(.slice Ao62 t730.length co62:Value).ownBlock)∧some k_≠(.slice Ao63 t733.length co63:Value).ownBlock)) (n:=t741.length) (c:=co71) ?_).2.2;exact (by (with_reducible repeat (first|apply Kd.S_alloc|apply Kd.S_drewN|apply Kd.S_drew));exact (Kd.S_mono (Kd.S_far (p:=⟨gb744,2,none⟩) (Kd.S_far (p:=⟨gb744,1,none⟩) (Kd.S_far (p:=⟨gb744,0,none⟩) (Kd.S_types HO743.out BK744.out (by decide)) (fun _ hk=>hk.2) (.int .i64 t737)) (fun _ hk=>hk.2) (.slice Ao70 t738.length co70)) (fun _ hk=>hk.2) (.slice Ao71 t741.length co71)) (fun _ h_=>h_.1))));(case side4=>exact (Kd.S_reads' HO743.out).2.1);rintro e w72 ⟨rfl,hb⟩;refine ⟨_,rfl,?_⟩;replace HO732:=yam (Kd.R_below (by (with_reducible repeat (first|apply Kd.Ya|apply Kd.Yn|apply Kd.Yd));exact (Kd.R_mono (Kd.R_far (p:=⟨gb744,2,none⟩) (Kd.R_far (p:=⟨gb744,1,none⟩) (Kd.R_far (p:=⟨gb744,0,none⟩) (Kd.R_types HO732.out BK744.out (by decide)) (fun _ hk=>hk.2) (.int .i64 t737)) (fun _ hk=>hk.2) (.slice Ao70 t738.length co70)) (fun _ hk=>hk.2) (.slice Ao71 t741.length co71)) (fun _ h_=>h_.1))) hb);replace HO735:=yam (Kd.S_below (by (with_reducible repeat (first|apply Kd.S_alloc|apply Kd.S_drewN|apply Kd.S_drew));exact (Kd.S_mono (Kd.S_far (p:=⟨gb744,2,none⟩) (Kd.S_far (p:=⟨gb744,1,none⟩) (Kd.S_far (p:=⟨gb744,0,none⟩) (Kd.S_types HO735.out BK744.out (by decide)) (fun _ hk=>hk.2) (.int .i64 t737)) (fun _ hk=>hk.2) (.slice Ao70 t738.length co70)) (fun _ hk=>hk.2) (.slice Ao71 t741.length co71)) (fun _ h_=>h_.1))) hb);replace HO740:=yam (Kd.R_below (by (with_reducible repeat (first|apply Kd.Ya|apply Kd.Yn|apply Kd.Yd));exact (Kd.R_mono (Kd.R_far (p:=⟨gb744,2,none⟩) (Kd.R_far (p:=⟨gb744,1,none⟩) (Kd.R_far (p:=⟨gb744,0,none⟩) (Kd.R_types HO740.out BK744.out (by decide)) (fun _ hk=>hk.2) (.int .i64 t737)) (fun _ hk=>hk.2) (.slice Ao70 t738.length co70)) (fun _ hk=>hk.2) (.slice Ao71 t741.length co71)) (fun _ h_=>h_.1))) hb);replace HO743:=yam (Kd.S_below (by (with_reducible repeat (first|apply Kd.S_alloc|apply Kd.S_drewN|apply Kd.S_drew));exact (Kd.S_mono (Kd.S_far (p:=⟨gb744,2,none⟩) (Kd.S_far (p:=⟨gb744,1,none⟩) (Kd.S_far (p:=⟨gb744,0,none⟩) (Kd.S_types HO743.out BK744.out (by decide)) (fun _ hk=>hk.2) (.int .i64 t737)) (fun _ hk=>hk.2) (.slice Ao70 t738.length co70)) (fun _ hk=>hk.2) (.slice Ao71 t741.length co71)) (fun _ h_=>h_.1))) hb);replace BK727:=yam (blk_below (g:=gb727) (o:= .cells #[.int .i64 a0_0,.slice A0_1 l0_1.length c0_1,.slice A0_2 l0_2.length c0_2] 25 (0,0)) (by (with_reducible repeat (first|refine ybn ?_ _|refine ybd ?_|refine yba ?_ _));refine blk_far ?_ NB727_744.out _;(with_reducible repeat (first|refine ybn ?_ _|refine ybd ?_|refine yba ?_ _));refine blk_far ?_ NB727_744.out _;(with_reducible repeat (first|refine ybn ?_ _|refine ybd ?_|refine yba ?_ _));refine blk_far ?_ NB727_744.out _;(with_reducible repeat (first|refine ybn ?_ _|refine ybd ?_|refine yba ?_ _));exact BK727.out) hb);replace BK744:=yam (blk_below (g:=gb744) (o:= .cells #[.int .i64 t737,.slice Ao70 t738.length co70,.slice Ao71 t741.length co71] 30 (0,0)) (by (with_reducible repeat (first|refine ybn ?_ _|refine ybd ?_|refine yba ?_ _));refine blk_put (cs:= #[.int .i64 t737,.slice Ao70 t738.length co70,.slice none 0 0]) ?_ 2 _ rfl;(with_reducible repeat (first|refine ybn ?_ _|refine ybd ?_|refine yba ?_ _));refine blk_put (cs:= #[.int .i64 t737,.slice none 0 0,.slice none 0 0]) ?_ 1 _ rfl;(with_reducible repeat (first|refine ybn ?_ _|refine ybd ?_|refine yba ?_ _));refine blk_put (cs:= #[.int .i64 0,.slice none 0 0,.slice none 0 0]) ?_ 0 _ rfl;(with_reducible repeat (first|refine ybn ?_ _|refine ybd ?_|refine yba ?_ _));exact BK744.out) hb);replace HB:=yam (below_step yhb hb);(try clear hb);(try clear hk)))
  go_ret
  exact ⟨yer,yhb⟩
 have c11b0:(t745 == t736)=true:=beq_iff_eq.mpr c11
 have c11b1:(t745 != t736)=false:=bne_eq_false_iff_eq.mpr c11
 clear c11
 replace H:=ybi H;obtain ⟨⟨t746,t747,t750⟩,A12,H⟩:=H
 try dsimp only at H
 replace H:=ybi H;obtain ⟨t753,A13,H⟩:=H
 try dsimp only at H
 cases t753
 rotate_left
 ·replace H:=ytt H
  obtain rfl:=ysi H
  go_enter Try.func5,Try.ntmps5
  try go_wp2_with (first|(refine ybe 1 #[.int .i64 a0_0,.slice A0_1 l0_1.length c0_1,.slice A0_2 l0_2.length c0_2] 25 ?_;intro gb727 hg w15 hbox hb;have BK727:=yam (hbox);have GW727:=yam ((by rw [hg];exact (below_size (yez HB.out)):w.heap.size≤gb727));replace HB:=yam (below_step (yez HB.out) hb);have GE727:=GW727;clear hb hbox hg;obtain ⟨hcz16_0,hcz16_1,hcz16_2,hfz16_0,hfz16_1,hfz16_2⟩:=ybc BK727.out)|(refine goesL_ (some 9) rfl rfl Try.func9 (by kernel_rfl) rfl #[.agg #[.int .i64 a0_0,.slice A0_1 l0_1.length c0_1,.slice A0_2 l0_2.length c0_2],.int .i64 1048576] rfl ymd ?_;(with_reducible refine (laws_szPuzzle.calls k a0_0 _ _ l0_1 _ _ l0_2 1048576 t728 _ ?_ ?_ ?_ ?_ A2.out).mono ?_);exact Kd.Cz ((Kd.C_below HR0_1.out HB.out));exact HC0_1.out;exact Kd.Cz ((Kd.C_below HR0_2.out HB.out));exact HC0_2.out;rintro e w17 ⟨rfl,hb⟩;refine ⟨_,rfl,?_⟩;replace BK727:=yam (ybb BK727.out hb);replace HB:=yam (below_step yhb hb);(try clear hb);obtain ⟨hcz18_0,hcz18_1,hcz18_2,hfz18_0,hfz18_1,hfz18_2⟩:=ybc BK727.out)|(refine goesL_ (some 13) rfl rfl Try.func11 (by kernel_rfl) rfl #[.agg #[.int .i64 a0_0,.slice A0_1 l0_1.length c0_1,.slice A0_2 l0_2.length c0_2]] rfl ymd ?_;(with_reducible refine (laws_toPuzzle.calls k a0_0 _ _ l0_1 _ _ l0_2 t729 t730 t733 _ ?_ ?_ ?_ ?_ A7.out).mono ?_);exact Kd.Cz ((Kd.C_below HR0_1.out HB.out));exact HC0_1.out;exact Kd.Cz ((Kd.C_below HR0_2.out HB.out));exact HC0_2.out;rintro e w19 ⟨v731,v734,rfl,ho0,ho1,hb⟩;refine ⟨_,rfl,?_⟩;have HO732:=yam (Kd.R_lower ho0 (below_size yhb));have HO735:=yam (Kd.S_lower ho1 (below_size yhb));replace BK727:=yam (ybb BK727.out hb);replace HB:=yam (below_step yhb hb);(try clear hb);(try clear ho0);(try clear ho1);obtain ⟨Ao20,co20,eo20⟩:=Kd.R_slice HO732.out;subst eo20;obtain ⟨Ao21,co21,eo21⟩:=Kd.S_slice HO735.out;subst eo21)|(refine goesL_ (some 14) rfl rfl Try.func23 (by kernel_rfl) rfl #[.agg #[.int .i64 t729,.slice Ao20 t730.length co20,.slice Ao21 t733.length co21]] rfl ymd ?_;(with_reducible refine (spec_GradePuzzle.calls k t729 _ _ t730 _ _ t733 t736 _ ?side1 ?side2 ?side3 ?side4 A8.out).mono ?_);(case side1=>exact Kd.Cz (Kd.Yr HO732.out).2.2);(case side2=>exact (Kd.Yr HO732.out).2.1);(case side3=>repeat (first|exact (Kd.S_reads' HO735.out).2.2|(with_reducible refine Kd.C_alloc ?_ _)|(with_reducible refine Kd.C_drewN ?_ _)|(with_reducible refine Kd.C_drew ?_)));(case side4=>exact (Kd.S_reads' HO735.out).2.1);rintro e w22 ⟨rfl,hb⟩;refine ⟨_,rfl,?_⟩;replace HO732:=yam (Kd.R_below (Kd.Yz HO732.out) hb);replace HO735:=yam (Kd.S_below (by (with_reducible repeat (first|apply Kd.S_alloc|apply Kd.S_drewN|apply Kd.S_drew));exact HO735.out) hb);replace BK727:=yam (ybb BK727.out hb);replace HB:=yam (below_step yhb hb);(try clear hb);obtain ⟨hcz23_0,hcz23_1,hcz23_2,hfz23_0,hfz23_1,hfz23_2⟩:=ybc BK727.out)|(refine goesL_ (some 16) rfl rfl Try.func11 (by kernel_rfl) rfl #[.agg #[.int .i64 a0_0,.slice A0_1 l0_1.length c0_1,.slice A0_2 l0_2.length c0_2]] rfl ymd ?_;(with_reducible refine (laws_toPuzzle.calls k a0_0 _ _ l0_1 _ _ l0_2 t737 t738 t741 _ ?_ ?_ ?_ ?_ A9.out).mono ?_);exact Kd.Cz ((Kd.C_below HR0_1.out HB.out));exact HC0_1.out;exact Kd.Cz ((Kd.C_below HR0_2.out HB.out));exact HC0_2.out;rintro e w24 ⟨v739,v742,rfl,ho0,ho1,hb⟩;refine ⟨_,rfl,?_⟩;have HO740:=yam (Kd.R_lower (Kd.Yw ho0 (Kd.R_lt (Kd.Yz HO732.out))) (below_size yhb));have HO743:=yam (Kd.S_lower (Kd.S_new' (Kd.S_new' ho1 (Kd.R_lt (Kd.Yz HO732.out))) (Kd.S_lt (by (with_reducible repeat (first|apply Kd.S_alloc|apply Kd.S_drewN|apply Kd.S_drew));exact HO735.out))) (below_size yhb));replace HO732:=yam (Kd.Ye (Kd.Yz HO732.out) (Kd.Yb ho0) hb);replace HO735:=yam (Kd.S_mono (Kd.S_told (Kd.S_told (Kd.S_old (by (with_reducible repeat (first|apply Kd.S_alloc|apply Kd.S_drewN|apply Kd.S_drew));exact HO735.out) hb) (Kd.Yb ho0)) (Kd.S_base ho1)) (fun _ h_=>h_.1));replace BK727:=yam (ybb BK727.out hb);replace HB:=yam (below_step yhb hb);(try clear hb);(try clear ho0);(try clear ho1))|(refine ybe 5 #[.int .i64 0,.slice none 0 0,.slice none 0 0] 30 ?_;intro gb744 hg w25 hbox hb;replace HO732:=yam (Kd.R_below (Kd.Yz HO732.out) hb);replace HO735:=yam (Kd.S_below (by (with_reducible repeat (first|apply Kd.S_alloc|apply Kd.S_drewN|apply Kd.S_drew));exact HO735.out) hb);replace HO740:=yam (Kd.R_below (Kd.Yz HO740.out) hb);replace HO743:=yam (Kd.S_below (by (with_reducible repeat (first|apply Kd.S_alloc|apply Kd.S_drewN|apply Kd.S_drew));exact HO743.out) hb);have BK744:=yam (hbox);have GW744:=yam ((by rw [hg];exact (below_size yhb):w.heap.size≤gb744));replace HB:=yam (below_step yhb hb);have GE744:=GW744;have NB727_744:=yam ((by rw [hg];exact Nat.ne_of_lt (blk_lt (g:=gb727) (o:= .cells #[.int .i64 a0_0,.slice A0_1 l0_1.length c0_1,.slice A0_2 l0_2.length c0_2] 25 (0,0)) (ybz BK727.out)):gb727≠gb744));have NB744_727:=yam ((by rw [hg];exact Nat.ne_of_gt (blk_lt (g:=gb727) (o:= .cells #[.int .i64 a0_0,.slice A0_1 l0_1.length c0_1,.slice A0_2 l0_2.length c0_2] 25 (0,0)) (ybz BK727.out)):gb744≠gb727));replace BK727:=yam (ybb BK727.out hb);clear hb hbox hg;have hnb26:=NB744_727.out;have hnc26:=NB727_744.out;obtain ⟨hcz27_0,hcz27_1,hcz27_2,hfz27_0,hfz27_1,hfz27_2⟩:=ybc BK744.out;obtain ⟨Ao28,co28,eo28⟩:=Kd.R_slice HO740.out;subst eo28;obtain ⟨Ao29,co29,eo29⟩:=Kd.S_slice HO743.out;subst eo29)|(refine goesL_ (some 18) rfl rfl Try.func24 (by kernel_rfl) rfl #[.agg #[.int .i64 t737,.slice Ao28 t738.length co28,.slice Ao29 t741.length co29]] rfl ymd ?_;(with_reducible refine (impl_GradePuzzle.calls k t737 _ _ t738 _ _ t741 t745 _ ?side1 ?side2 ?side3 ?side4 A10.out).mono ?_);(case side1=>refine (Kd.Yr (e:=3) (base:=w.heap.size) (ok:=fun k_=>(True∧some k_≠(.slice Ao20 t730.length co20:Value).ownBlock)) (n:=t738.length) (c:=co28) ?_).2.2;exact (by (with_reducible repeat (first|apply Kd.Ya|apply Kd.Yn|apply Kd.Yd));exact (Kd.R_mono (Kd.R_far (p:=⟨gb744,2,none⟩) (Kd.R_far (p:=⟨gb744,1,none⟩) (Kd.R_far (p:=⟨gb744,0,none⟩) (Kd.R_types HO740.out BK744.out (by decide)) (fun _ hk=>hk.2) (.int .i64 t737)) (fun _ hk=>hk.2) (.slice Ao28 t738.length co28)) (fun _ hk=>hk.2) (.slice Ao29 t741.length co29)) (fun _ h_=>h_.1))));(case side2=>exact (Kd.Yr HO740.out).2.1);(case side3=>refine (Kd.S_reads' (e:=67) (base:=w.heap.size) (ok:=fun k_=>((some k_≠(.slice Ao28 t738.length co28:Value).ownBlock∧some k_≠(.slice Ao20 t730.length co20:Value).ownBlock)∧some k_≠(.slice Ao21 t733.length co21:Value).ownBlock)) (n:=t741.length) (c:=co29) ?_).2.2;exact (by (with_reducible repeat (first|apply Kd.S_alloc|apply Kd.S_drewN|apply Kd.S_drew));exact (Kd.S_mono (Kd.S_far (p:=⟨gb744,2,none⟩) (Kd.S_far (p:=⟨gb744,1,none⟩) (Kd.S_far (p:=⟨gb744,0,none⟩) (Kd.S_types HO743.out BK744.out (by decide)) (fun _ hk=>hk.2) (.int .i64 t737)) (fun _ hk=>hk.2) (.slice Ao28 t738.length co28)) (fun _ hk=>hk.2) (.slice Ao29 t741.length co29)) (fun _ h_=>h_.1))));(case side4=>exact (Kd.S_reads' HO743.out).2.1);rintro e w30 ⟨rfl,hb⟩;refine ⟨_,rfl,?_⟩;replace HO732:=yam (Kd.R_below (by (with_reducible repeat (first|apply Kd.Ya|apply Kd.Yn|apply Kd.Yd));exact (Kd.R_mono (Kd.R_far (p:=⟨gb744,2,none⟩) (Kd.R_far (p:=⟨gb744,1,none⟩) (Kd.R_far (p:=⟨gb744,0,none⟩) (Kd.R_types HO732.out BK744.out (by decide)) (fun _ hk=>hk.2) (.int .i64 t737)) (fun _ hk=>hk.2) (.slice Ao28 t738.length co28)) (fun _ hk=>hk.2) (.slice Ao29 t741.length co29)) (fun _ h_=>h_.1))) hb);replace HO735:=yam (Kd.S_below (by (with_reducible repeat (first|apply Kd.S_alloc|apply Kd.S_drewN|apply Kd.S_drew));exact (Kd.S_mono (Kd.S_far (p:=⟨gb744,2,none⟩) (Kd.S_far (p:=⟨gb744,1,none⟩) (Kd.S_far (p:=⟨gb744,0,none⟩) (Kd.S_types HO735.out BK744.out (by decide)) (fun _ hk=>hk.2) (.int .i64 t737)) (fun _ hk=>hk.2) (.slice Ao28 t738.length co28)) (fun _ hk=>hk.2) (.slice Ao29 t741.length co29)) (fun _ h_=>h_.1))) hb);replace HO740:=yam (Kd.R_below (by (with_reducible repeat (first|apply Kd.Ya|apply Kd.Yn|apply Kd.Yd));exact (Kd.R_mono (Kd.R_far (p:=⟨gb744,2,none⟩) (Kd.R_far (p:=⟨gb744,1,none⟩) (Kd.R_far (p:=⟨gb744,0,none⟩) (Kd.R_types HO740.out BK744.out (by decide)) (fun _ hk=>hk.2) (.int .i64 t737)) (fun _ hk=>hk.2) (.slice Ao28 t738.length co28)) (fun _ hk=>hk.2) (.slice Ao29 t741.length co29)) (fun _ h_=>h_.1))) hb);replace HO743:=yam (Kd.S_below (by (with_reducible repeat (first|apply Kd.S_alloc|apply Kd.S_drewN|apply Kd.S_drew));exact (Kd.S_mono (Kd.S_far (p:=⟨gb744,2,none⟩) (Kd.S_far (p:=⟨gb744,1,none⟩) (Kd.S_far (p:=⟨gb744,0,none⟩) (Kd.S_types HO743.out BK744.out (by decide)) (fun _ hk=>hk.2) (.int .i64 t737)) (fun _ hk=>hk.2) (.slice Ao28 t738.length co28)) (fun _ hk=>hk.2) (.slice Ao29 t741.length co29)) (fun _ h_=>h_.1))) hb);replace BK727:=yam (blk_below (g:=gb727) (o:= .cells #[.int .i64 a0_0,.slice A0_1 l0_1.length c0_1,.slice A0_2 l0_2.length c0_2] 25 (0,0)) (by (with_reducible repeat (first|refine ybn ?_ _|refine ybd ?_|refine yba ?_ _));refine blk_far ?_ NB727_744.out _;(with_reducible repeat (first|refine ybn ?_ _|refine ybd ?_|refine yba ?_ _));refine blk_far ?_ NB727_744.out _;(with_reducible repeat (first|refine ybn ?_ _|refine ybd ?_|refine yba ?_ _));refine blk_far ?_ NB727_744.out _;(with_reducible repeat (first|refine ybn ?_ _|refine ybd ?_|refine yba ?_ _));exact BK727.out) hb);replace BK744:=yam (blk_below (g:=gb744) (o:= .cells #[.int .i64 t737,.slice Ao28 t738.length co28,.slice Ao29 t741.length co29] 30 (0,0)) (by (with_reducible repeat (first|refine ybn ?_ _|refine ybd ?_|refine yba ?_ _));refine blk_put (cs:= #[.int .i64 t737,.slice Ao28 t738.length co28,.slice none 0 0]) ?_ 2 _ rfl;(with_reducible repeat (first|refine ybn ?_ _|refine ybd ?_|refine yba ?_ _));refine blk_put (cs:= #[.int .i64 t737,.slice none 0 0,.slice none 0 0]) ?_ 1 _ rfl;(with_reducible repeat (first|refine ybn ?_ _|refine ybd ?_|refine yba ?_ _));refine blk_put (cs:= #[.int .i64 0,.slice none 0 0,.slice none 0 0]) ?_ 0 _ rfl;(with_reducible repeat (first|refine ybn ?_ _|refine ybd ?_|refine yba ?_ _));exact BK744.out) hb);replace HB:=yam (below_step yhb hb);(try clear hb);(try clear hk)))
  replace HO732:=yam (Kd.Yd HO732.out)
  replace HO735:=yam (Kd.S_drew HO735.out)
  replace HO740:=yam (Kd.Yd HO740.out)
  replace HO743:=yam (Kd.S_drew HO743.out)
  replace BK727:=yam (ybd BK727.out)
  replace BK744:=yam (ybd BK744.out)
  replace HB:=yam (yed HB.out)
  refine start_ (n:=5) (S:=fun w'=>w'.cell? ⟨gb744,0,none⟩=some (.int .i64 t737)∧w'.cell? ⟨gb744,1,none⟩=some (.slice Ao28 t738.length co28)∧w'.cell? ⟨gb744,2,none⟩=some (.slice Ao29 t741.length co29)∧w'.cell? ⟨gb727,0,none⟩=some (.int .i64 a0_0)∧w'.cell? ⟨gb727,1,none⟩=some (.slice A0_1 l0_1.length c0_1)∧w'.cell? ⟨gb727,2,none⟩=some (.slice A0_2 l0_2.length c0_2)) (ds:=[]) (yvb 5 0) (by kernel_rfl) rfl rfl ⟨(blk_cell BK744.out 0).trans rfl,(blk_cell BK744.out 1).trans rfl,(blk_cell BK744.out 2).trans rfl,(blk_cell BK727.out 0).trans rfl,(blk_cell BK727.out 1).trans rfl,(blk_cell BK727.out 2).trans rfl⟩ (fun hHeld=>?_)
  generalize w30.drew=w31 at HO732 HO735 HO740 HO743 BK727 BK744 HB hHeld ⊢
  refine take_ (i:=0) (N:=some 22) (v:=?_) (a':=?_) (yvb 5 1) rfl rfl (by kernel_rfl) (fun _ _ _ h=>h) (Or.inl ⟨by rfl,?_⟩) hHeld ?_ ?_
  rotate_left
  ·rintro w' ⟨s0,s1,s2,s3,s4,s5⟩
   go_simp
   with_reducible rfl
  rotate_left
  ·simp only [Act.put,yps,i64_w,i32_w]
   rfl
  refine take_ (i:=1) (N:=some 23) (v:=?_) (a':=?_) (yvb 5 3) rfl rfl (by kernel_rfl) (fun _ _ _ h=>h) (Or.inl ⟨by rfl,?_⟩) hHeld ?_ ?_
  rotate_left
  ·rintro w' ⟨s0,s1,s2,s3,s4,s5⟩
   go_simp
   with_reducible rfl
  rotate_left
  ·simp only [Act.put,yps,i64_w,i32_w]
   rfl
  refine one_ (i:=2) (N:=some 24) (yvb 5 7) rfl rfl (by kernel_rfl) (by decide) (fun K hK=>?_)
  refine goes_ Try.func11 (by kernel_rfl) rfl #[.agg #[.int .i64 a0_0,.slice A0_1 l0_1.length c0_1,.slice A0_2 l0_2.length c0_2]] (by rfl) rfl rfl ymd ?_
  with_reducible refine (laws_toPuzzle.calls k a0_0 _ _ l0_1 _ _ l0_2 t746 t747 t750 _ ?_ ?_ ?_ ?_ A12.out).mono ?_
  exact Kd.Cz ((Kd.C_below HR0_1.out HB.out))
  exact HC0_1.out
  exact Kd.Cz ((Kd.C_below HR0_2.out HB.out))
  exact HC0_2.out
  rintro e w32 ⟨v748,v751,rfl,ho0,ho1,hb⟩
  refine ⟨_,rfl,?_⟩
  have HO749:=yam (Kd.R_lower (Kd.Yw (Kd.Yw ho0 (Kd.R_lt (Kd.Yz HO732.out))) (Kd.R_lt (Kd.Yz HO740.out))) (below_size yhb))
  have HO752:=yam (Kd.S_lower (Kd.S_new' (Kd.S_new' (Kd.S_new' (Kd.S_new' ho1 (Kd.R_lt (Kd.Yz HO732.out))) (Kd.S_lt (by (with_reducible repeat (first|apply Kd.S_alloc|apply Kd.S_drewN|apply Kd.S_drew));exact HO735.out))) (Kd.R_lt (Kd.Yz HO740.out))) (Kd.S_lt (by (with_reducible repeat (first|apply Kd.S_alloc|apply Kd.S_drewN|apply Kd.S_drew));exact HO743.out))) (below_size yhb))
  replace HO732:=yam (Kd.Ye (Kd.Yz HO732.out) (Kd.Yb ho0) hb)
  replace HO735:=yam (Kd.S_mono (Kd.S_told (Kd.S_told (Kd.S_old (by (with_reducible repeat (first|apply Kd.S_alloc|apply Kd.S_drewN|apply Kd.S_drew));exact HO735.out) hb) (Kd.Yb ho0)) (Kd.S_base ho1)) (fun _ h_=>h_.1))
  replace HO740:=yam (Kd.Ye (Kd.Yz HO740.out) (Kd.Yb ho0) hb)
  replace HO743:=yam (Kd.S_mono (Kd.S_told (Kd.S_told (Kd.S_old (by (with_reducible repeat (first|apply Kd.S_alloc|apply Kd.S_drewN|apply Kd.S_drew));exact HO743.out) hb) (Kd.Yb ho0)) (Kd.S_base ho1)) (fun _ h_=>h_.1))
  replace BK727:=yam (ybb BK727.out hb)
  replace BK744:=yam (ybb BK744.out hb)
  replace HB:=yam (below_step yhb hb)
  (try clear hb)
  (try clear hb2)
  (try clear hk)
  (try clear hi)
  (try clear ho0)
  (try clear ho1)
  obtain ⟨Ao33,co33,eo33⟩:=Kd.R_slice HO749.out
  (first|subst eo33|(injection eo33 with f1_ f2_ f3_;have f4_:=f1_.symm;have f5_:=f3_.symm;clear f1_ f2_ f3_;subst f4_;subst f5_))
  obtain ⟨Ao34,co34,eo34⟩:=Kd.S_slice HO752.out
  (first|subst eo34|(injection eo34 with f1_ f2_ f3_;have f4_:=f1_.symm;have f5_:=f3_.symm;clear f1_ f2_ f3_;subst f4_;subst f5_))
  refine hK.out _ _ ⟨(blk_cell BK744.out 0).trans rfl,(blk_cell BK744.out 1).trans rfl,(blk_cell BK744.out 2).trans rfl,(blk_cell BK727.out 0).trans rfl,(blk_cell BK727.out 1).trans rfl,(blk_cell BK727.out 2).trans rfl⟩ (fun hHeld=>?_)
  clear hK K
  refine norm_ (a':=?_) ?_ ?_
  rotate_left
  ·show Act.put _ (some 24) _=_
   simp only [Act.put,yps,i64_w,i32_w]
   rfl
  refine one_ (i:=3) (N:=some 25) (yvb 5 15) rfl rfl (by kernel_rfl) (by decide) (fun K hK=>?_)
  refine goes_ Try.func14 (by kernel_rfl) rfl #[.agg #[.int .i64 t737,.slice Ao28 t738.length co28,.slice Ao29 t741.length co29],.agg #[.int .i64 t746,.slice Ao33 t747.length co33,.slice Ao34 t750.length co34]] (by rfl) rfl rfl ymd ?_
  with_reducible refine (laws_eqPuzzle.calls k t737 _ _ t738 _ _ t741 t746 _ _ t747 _ _ t750 true _ ?side1 ?side2 ?side3 ?side4 ?side5 ?side6 ?side7 ?side8 A13.out).mono ?_
  (case side1=>exact Kd.Cz (Kd.Yr HO740.out).2.2)
  (case side2=>exact (Kd.Yr HO740.out).2.1)
  (case side3=>repeat (first|exact (Kd.S_reads' HO743.out).2.2|(with_reducible refine Kd.C_alloc ?_ _)|(with_reducible refine Kd.C_drewN ?_ _)|(with_reducible refine Kd.C_drew ?_)))
  (case side4=>exact (Kd.S_reads' HO743.out).2.1)
  (case side5=>exact Kd.Cz (Kd.Yr HO749.out).2.2)
  (case side6=>exact (Kd.Yr HO749.out).2.1)
  (case side7=>repeat (first|exact (Kd.S_reads' HO752.out).2.2|(with_reducible refine Kd.C_alloc ?_ _)|(with_reducible refine Kd.C_drewN ?_ _)|(with_reducible refine Kd.C_drew ?_)))
  (case side8=>exact (Kd.S_reads' HO752.out).2.1)
  rintro e w35 ⟨rfl,hb⟩
  refine ⟨_,rfl,?_⟩
  replace HO732:=yam (Kd.R_below (Kd.Yz HO732.out) hb)
  replace HO735:=yam (Kd.S_below (by (with_reducible repeat (first|apply Kd.S_alloc|apply Kd.S_drewN|apply Kd.S_drew));exact HO735.out) hb)
  replace HO740:=yam (Kd.R_below (Kd.Yz HO740.out) hb)
  replace HO743:=yam (Kd.S_below (by (with_reducible repeat (first|apply Kd.S_alloc|apply Kd.S_drewN|apply Kd.S_drew));exact HO743.out) hb)
  replace HO749:=yam (Kd.R_below (Kd.Yz HO749.out) hb)
  replace HO752:=yam (Kd.S_below (by (with_reducible repeat (first|apply Kd.S_alloc|apply Kd.S_drewN|apply Kd.S_drew));exact HO752.out) hb)
  replace BK727:=yam (ybb BK727.out hb)
  replace BK744:=yam (ybb BK744.out hb)
  replace HB:=yam (below_step yhb hb)
  (try clear hb)
  (try clear hb2)
  (try clear hk)
  (try clear hi)
  refine hK.out _ _ ⟨(blk_cell BK744.out 0).trans rfl,(blk_cell BK744.out 1).trans rfl,(blk_cell BK744.out 2).trans rfl,(blk_cell BK727.out 0).trans rfl,(blk_cell BK727.out 1).trans rfl,(blk_cell BK727.out 2).trans rfl⟩ (fun hHeld=>?_)
  clear hK K
  refine norm_ (a':=?_) ?_ ?_
  rotate_left
  ·show Act.put _ (some 25) _=_
   simp only [Act.put,yps,i64_w,i32_w]
   rfl
  refine pure_ (i:=4) (N:=some 26) (v:=?_) (a':=?_) (yvb 5 31) rfl rfl (by kernel_rfl) (fun _ _ _ h=>h) (Or.inl ⟨by rfl,?_⟩) ?_ ?_
  rotate_left
  ·intro w'
   go_simp
   with_reducible rfl
  rotate_left
  ·simp only [Act.put,yps,i64_w,i32_w]
   rfl
  refine done_ (by kernel_rfl) ?_
  try go_wp2
  go_ret
  exact ⟨yer,yhb⟩
 replace H:=yff H
 obtain rfl:=ysi H
 go_enter Try.func5,Try.ntmps5
 try go_wp2_with (first|(refine ybe 1 #[.int .i64 a0_0,.slice A0_1 l0_1.length c0_1,.slice A0_2 l0_2.length c0_2] 25 ?_;intro gb727 hg w36 hbox hb;have BK727:=yam (hbox);have GW727:=yam ((by rw [hg];exact (below_size (yez HB.out)):w.heap.size≤gb727));replace HB:=yam (below_step (yez HB.out) hb);have GE727:=GW727;clear hb hbox hg;obtain ⟨hcz37_0,hcz37_1,hcz37_2,hfz37_0,hfz37_1,hfz37_2⟩:=ybc BK727.out)|(refine goesL_ (some 9) rfl rfl Try.func9 (by kernel_rfl) rfl #[.agg #[.int .i64 a0_0,.slice A0_1 l0_1.length c0_1,.slice A0_2 l0_2.length c0_2],.int .i64 1048576] rfl ymd ?_;(with_reducible refine (laws_szPuzzle.calls k a0_0 _ _ l0_1 _ _ l0_2 1048576 t728 _ ?_ ?_ ?_ ?_ A2.out).mono ?_);exact Kd.Cz ((Kd.C_below HR0_1.out HB.out));exact HC0_1.out;exact Kd.Cz ((Kd.C_below HR0_2.out HB.out));exact HC0_2.out;rintro e w38 ⟨rfl,hb⟩;refine ⟨_,rfl,?_⟩;replace BK727:=yam (ybb BK727.out hb);replace HB:=yam (below_step yhb hb);(try clear hb);obtain ⟨hcz39_0,hcz39_1,hcz39_2,hfz39_0,hfz39_1,hfz39_2⟩:=ybc BK727.out)|(refine goesL_ (some 13) rfl rfl Try.func11 (by kernel_rfl) rfl #[.agg #[.int .i64 a0_0,.slice A0_1 l0_1.length c0_1,.slice A0_2 l0_2.length c0_2]] rfl ymd ?_;(with_reducible refine (laws_toPuzzle.calls k a0_0 _ _ l0_1 _ _ l0_2 t729 t730 t733 _ ?_ ?_ ?_ ?_ A7.out).mono ?_);exact Kd.Cz ((Kd.C_below HR0_1.out HB.out));exact HC0_1.out;exact Kd.Cz ((Kd.C_below HR0_2.out HB.out));exact HC0_2.out;rintro e w40 ⟨v731,v734,rfl,ho0,ho1,hb⟩;refine ⟨_,rfl,?_⟩;have HO732:=yam (Kd.R_lower ho0 (below_size yhb));have HO735:=yam (Kd.S_lower ho1 (below_size yhb));replace BK727:=yam (ybb BK727.out hb);replace HB:=yam (below_step yhb hb);(try clear hb);(try clear ho0);(try clear ho1);obtain ⟨Ao41,co41,eo41⟩:=Kd.R_slice HO732.out;subst eo41;obtain ⟨Ao42,co42,eo42⟩:=Kd.S_slice HO735.out;subst eo42)|(refine goesL_ (some 14) rfl rfl Try.func23 (by kernel_rfl) rfl #[.agg #[.int .i64 t729,.slice Ao41 t730.length co41,.slice Ao42 t733.length co42]] rfl ymd ?_;(with_reducible refine (spec_GradePuzzle.calls k t729 _ _ t730 _ _ t733 t736 _ ?side1 ?side2 ?side3 ?side4 A8.out).mono ?_);(case side1=>exact Kd.Cz (Kd.Yr HO732.out).2.2);(case side2=>exact (Kd.Yr HO732.out).2.1);(case side3=>repeat (first|exact (Kd.S_reads' HO735.out).2.2|(with_reducible refine Kd.C_alloc ?_ _)|(with_reducible refine Kd.C_drewN ?_ _)|(with_reducible refine Kd.C_drew ?_)));(case side4=>exact (Kd.S_reads' HO735.out).2.1);rintro e w43 ⟨rfl,hb⟩;refine ⟨_,rfl,?_⟩;replace HO732:=yam (Kd.R_below (Kd.Yz HO732.out) hb);replace HO735:=yam (Kd.S_below (by (with_reducible repeat (first|apply Kd.S_alloc|apply Kd.S_drewN|apply Kd.S_drew));exact HO735.out) hb);replace BK727:=yam (ybb BK727.out hb);replace HB:=yam (below_step yhb hb);(try clear hb);obtain ⟨hcz44_0,hcz44_1,hcz44_2,hfz44_0,hfz44_1,hfz44_2⟩:=ybc BK727.out)|(refine goesL_ (some 16) rfl rfl Try.func11 (by kernel_rfl) rfl #[.agg #[.int .i64 a0_0,.slice A0_1 l0_1.length c0_1,.slice A0_2 l0_2.length c0_2]] rfl ymd ?_;(with_reducible refine (laws_toPuzzle.calls k a0_0 _ _ l0_1 _ _ l0_2 t737 t738 t741 _ ?_ ?_ ?_ ?_ A9.out).mono ?_);exact Kd.Cz ((Kd.C_below HR0_1.out HB.out));exact HC0_1.out;exact Kd.Cz ((Kd.C_below HR0_2.out HB.out));exact HC0_2.out;rintro e w45 ⟨v739,v742,rfl,ho0,ho1,hb⟩;refine ⟨_,rfl,?_⟩;have HO740:=yam (Kd.R_lower (Kd.Yw ho0 (Kd.R_lt (Kd.Yz HO732.out))) (below_size yhb));have HO743:=yam (Kd.S_lower (Kd.S_new' (Kd.S_new' ho1 (Kd.R_lt (Kd.Yz HO732.out))) (Kd.S_lt (by (with_reducible repeat (first|apply Kd.S_alloc|apply Kd.S_drewN|apply Kd.S_drew));exact HO735.out))) (below_size yhb));replace HO732:=yam (Kd.Ye (Kd.Yz HO732.out) (Kd.Yb ho0) hb);replace HO735:=yam (Kd.S_mono (Kd.S_told (Kd.S_told (Kd.S_old (by (with_reducible repeat (first|apply Kd.S_alloc|apply Kd.S_drewN|apply Kd.S_drew));exact HO735.out) hb) (Kd.Yb ho0)) (Kd.S_base ho1)) (fun _ h_=>h_.1));replace BK727:=yam (ybb BK727.out hb);replace HB:=yam (below_step yhb hb);(try clear hb);(try clear ho0);(try clear ho1))|(refine ybe 5 #[.int .i64 0,.slice none 0 0,.slice none 0 0] 30 ?_;intro gb744 hg w46 hbox hb;replace HO732:=yam (Kd.R_below (Kd.Yz HO732.out) hb);replace HO735:=yam (Kd.S_below (by (with_reducible repeat (first|apply Kd.S_alloc|apply Kd.S_drewN|apply Kd.S_drew));exact HO735.out) hb);replace HO740:=yam (Kd.R_below (Kd.Yz HO740.out) hb);replace HO743:=yam (Kd.S_below (by (with_reducible repeat (first|apply Kd.S_alloc|apply Kd.S_drewN|apply Kd.S_drew));exact HO743.out) hb);have BK744:=yam (hbox);have GW744:=yam ((by rw [hg];exact (below_size yhb):w.heap.size≤gb744));replace HB:=yam (below_step yhb hb);have GE744:=GW744;have NB727_744:=yam ((by rw [hg];exact Nat.ne_of_lt (blk_lt (g:=gb727) (o:= .cells #[.int .i64 a0_0,.slice A0_1 l0_1.length c0_1,.slice A0_2 l0_2.length c0_2] 25 (0,0)) (ybz BK727.out)):gb727≠gb744));have NB744_727:=yam ((by rw [hg];exact Nat.ne_of_gt (blk_lt (g:=gb727) (o:= .cells #[.int .i64 a0_0,.slice A0_1 l0_1.length c0_1,.slice A0_2 l0_2.length c0_2] 25 (0,0)) (ybz BK727.out)):gb744≠gb727));replace BK727:=yam (ybb BK727.out hb);clear hb hbox hg;have hnb47:=NB744_727.out;have hnc47:=NB727_744.out;obtain ⟨hcz48_0,hcz48_1,hcz48_2,hfz48_0,hfz48_1,hfz48_2⟩:=ybc BK744.out;obtain ⟨Ao49,co49,eo49⟩:=Kd.R_slice HO740.out;subst eo49;obtain ⟨Ao50,co50,eo50⟩:=Kd.S_slice HO743.out;subst eo50)|(refine goesL_ (some 18) rfl rfl Try.func24 (by kernel_rfl) rfl #[.agg #[.int .i64 t737,.slice Ao49 t738.length co49,.slice Ao50 t741.length co50]] rfl ymd ?_;(with_reducible refine (impl_GradePuzzle.calls k t737 _ _ t738 _ _ t741 t745 _ ?side1 ?side2 ?side3 ?side4 A10.out).mono ?_);(case side1=>refine (Kd.Yr (e:=3) (base:=w.heap.size) (ok:=fun k_=>(True∧some k_≠(.slice Ao41 t730.length co41:Value).ownBlock)) (n:=t738.length) (c:=co49) ?_).2.2;exact (by (with_reducible repeat (first|apply Kd.Ya|apply Kd.Yn|apply Kd.Yd));exact (Kd.R_mono (Kd.R_far (p:=⟨gb744,2,none⟩) (Kd.R_far (p:=⟨gb744,1,none⟩) (Kd.R_far (p:=⟨gb744,0,none⟩) (Kd.R_types HO740.out BK744.out (by decide)) (fun _ hk=>hk.2) (.int .i64 t737)) (fun _ hk=>hk.2) (.slice Ao49 t738.length co49)) (fun _ hk=>hk.2) (.slice Ao50 t741.length co50)) (fun _ h_=>h_.1))));(case side2=>exact (Kd.Yr HO740.out).2.1);(case side3=>refine (Kd.S_reads' (e:=67) (base:=w.heap.size) (ok:=fun k_=>((some k_≠(.slice Ao49 t738.length co49:Value).ownBlock∧some k_≠(.slice Ao41 t730.length co41:Value).ownBlock)∧some k_≠(.slice Ao42 t733.length co42:Value).ownBlock)) (n:=t741.length) (c:=co50) ?_).2.2;exact (by (with_reducible repeat (first|apply Kd.S_alloc|apply Kd.S_drewN|apply Kd.S_drew));exact (Kd.S_mono (Kd.S_far (p:=⟨gb744,2,none⟩) (Kd.S_far (p:=⟨gb744,1,none⟩) (Kd.S_far (p:=⟨gb744,0,none⟩) (Kd.S_types HO743.out BK744.out (by decide)) (fun _ hk=>hk.2) (.int .i64 t737)) (fun _ hk=>hk.2) (.slice Ao49 t738.length co49)) (fun _ hk=>hk.2) (.slice Ao50 t741.length co50)) (fun _ h_=>h_.1))));(case side4=>exact (Kd.S_reads' HO743.out).2.1);rintro e w51 ⟨rfl,hb⟩;refine ⟨_,rfl,?_⟩;replace HO732:=yam (Kd.R_below (by (with_reducible repeat (first|apply Kd.Ya|apply Kd.Yn|apply Kd.Yd));exact (Kd.R_mono (Kd.R_far (p:=⟨gb744,2,none⟩) (Kd.R_far (p:=⟨gb744,1,none⟩) (Kd.R_far (p:=⟨gb744,0,none⟩) (Kd.R_types HO732.out BK744.out (by decide)) (fun _ hk=>hk.2) (.int .i64 t737)) (fun _ hk=>hk.2) (.slice Ao49 t738.length co49)) (fun _ hk=>hk.2) (.slice Ao50 t741.length co50)) (fun _ h_=>h_.1))) hb);replace HO735:=yam (Kd.S_below (by (with_reducible repeat (first|apply Kd.S_alloc|apply Kd.S_drewN|apply Kd.S_drew));exact (Kd.S_mono (Kd.S_far (p:=⟨gb744,2,none⟩) (Kd.S_far (p:=⟨gb744,1,none⟩) (Kd.S_far (p:=⟨gb744,0,none⟩) (Kd.S_types HO735.out BK744.out (by decide)) (fun _ hk=>hk.2) (.int .i64 t737)) (fun _ hk=>hk.2) (.slice Ao49 t738.length co49)) (fun _ hk=>hk.2) (.slice Ao50 t741.length co50)) (fun _ h_=>h_.1))) hb);replace HO740:=yam (Kd.R_below (by (with_reducible repeat (first|apply Kd.Ya|apply Kd.Yn|apply Kd.Yd));exact (Kd.R_mono (Kd.R_far (p:=⟨gb744,2,none⟩) (Kd.R_far (p:=⟨gb744,1,none⟩) (Kd.R_far (p:=⟨gb744,0,none⟩) (Kd.R_types HO740.out BK744.out (by decide)) (fun _ hk=>hk.2) (.int .i64 t737)) (fun _ hk=>hk.2) (.slice Ao49 t738.length co49)) (fun _ hk=>hk.2) (.slice Ao50 t741.length co50)) (fun _ h_=>h_.1))) hb);replace HO743:=yam (Kd.S_below (by (with_reducible repeat (first|apply Kd.S_alloc|apply Kd.S_drewN|apply Kd.S_drew));exact (Kd.S_mono (Kd.S_far (p:=⟨gb744,2,none⟩) (Kd.S_far (p:=⟨gb744,1,none⟩) (Kd.S_far (p:=⟨gb744,0,none⟩) (Kd.S_types HO743.out BK744.out (by decide)) (fun _ hk=>hk.2) (.int .i64 t737)) (fun _ hk=>hk.2) (.slice Ao49 t738.length co49)) (fun _ hk=>hk.2) (.slice Ao50 t741.length co50)) (fun _ h_=>h_.1))) hb);replace BK727:=yam (blk_below (g:=gb727) (o:= .cells #[.int .i64 a0_0,.slice A0_1 l0_1.length c0_1,.slice A0_2 l0_2.length c0_2] 25 (0,0)) (by (with_reducible repeat (first|refine ybn ?_ _|refine ybd ?_|refine yba ?_ _));refine blk_far ?_ NB727_744.out _;(with_reducible repeat (first|refine ybn ?_ _|refine ybd ?_|refine yba ?_ _));refine blk_far ?_ NB727_744.out _;(with_reducible repeat (first|refine ybn ?_ _|refine ybd ?_|refine yba ?_ _));refine blk_far ?_ NB727_744.out _;(with_reducible repeat (first|refine ybn ?_ _|refine ybd ?_|refine yba ?_ _));exact BK727.out) hb);replace BK744:=yam (blk_below (g:=gb744) (o:= .cells #[.int .i64 t737,.slice Ao49 t738.length co49,.slice Ao50 t741.length co50] 30 (0,0)) (by (with_reducible repeat (first|refine ybn ?_ _|refine ybd ?_|refine yba ?_ _));refine blk_put (cs:= #[.int .i64 t737,.slice Ao49 t738.length co49,.slice none 0 0]) ?_ 2 _ rfl;(with_reducible repeat (first|refine ybn ?_ _|refine ybd ?_|refine yba ?_ _));refine blk_put (cs:= #[.int .i64 t737,.slice none 0 0,.slice none 0 0]) ?_ 1 _ rfl;(with_reducible repeat (first|refine ybn ?_ _|refine ybd ?_|refine yba ?_ _));refine blk_put (cs:= #[.int .i64 0,.slice none 0 0,.slice none 0 0]) ?_ 0 _ rfl;(with_reducible repeat (first|refine ybn ?_ _|refine ybd ?_|refine yba ?_ _));exact BK744.out) hb);replace HB:=yam (below_step yhb hb);(try clear hb);(try clear hk)))
 replace HO732:=yam (Kd.Yd HO732.out)
 replace HO735:=yam (Kd.S_drew HO735.out)
 replace HO740:=yam (Kd.Yd HO740.out)
 replace HO743:=yam (Kd.S_drew HO743.out)
 replace BK727:=yam (ybd BK727.out)
 replace BK744:=yam (ybd BK744.out)
 replace HB:=yam (yed HB.out)
 refine start_ (n:=5) (S:=fun w'=>w'.cell? ⟨gb744,0,none⟩=some (.int .i64 t737)∧w'.cell? ⟨gb744,1,none⟩=some (.slice Ao49 t738.length co49)∧w'.cell? ⟨gb744,2,none⟩=some (.slice Ao50 t741.length co50)∧w'.cell? ⟨gb727,0,none⟩=some (.int .i64 a0_0)∧w'.cell? ⟨gb727,1,none⟩=some (.slice A0_1 l0_1.length c0_1)∧w'.cell? ⟨gb727,2,none⟩=some (.slice A0_2 l0_2.length c0_2)) (ds:=[]) (yvb 5 0) (by kernel_rfl) rfl rfl ⟨(blk_cell BK744.out 0).trans rfl,(blk_cell BK744.out 1).trans rfl,(blk_cell BK744.out 2).trans rfl,(blk_cell BK727.out 0).trans rfl,(blk_cell BK727.out 1).trans rfl,(blk_cell BK727.out 2).trans rfl⟩ (fun hHeld=>?_)
 generalize w51.drew=w52 at HO732 HO735 HO740 HO743 BK727 BK744 HB hHeld ⊢
 refine take_ (i:=0) (N:=some 22) (v:=?_) (a':=?_) (yvb 5 1) rfl rfl (by kernel_rfl) (fun _ _ _ h=>h) (Or.inl ⟨by rfl,?_⟩) hHeld ?_ ?_
 rotate_left
 ·rintro w' ⟨s0,s1,s2,s3,s4,s5⟩
  go_simp
  with_reducible rfl
 rotate_left
 ·simp only [Act.put,yps,i64_w,i32_w]
  rfl
 refine take_ (i:=1) (N:=some 23) (v:=?_) (a':=?_) (yvb 5 3) rfl rfl (by kernel_rfl) (fun _ _ _ h=>h) (Or.inl ⟨by rfl,?_⟩) hHeld ?_ ?_
 rotate_left
 ·rintro w' ⟨s0,s1,s2,s3,s4,s5⟩
  go_simp
  with_reducible rfl
 rotate_left
 ·simp only [Act.put,yps,i64_w,i32_w]
  rfl
 refine one_ (i:=2) (N:=some 24) (yvb 5 7) rfl rfl (by kernel_rfl) (by decide) (fun K hK=>?_)
 refine goes_ Try.func11 (by kernel_rfl) rfl #[.agg #[.int .i64 a0_0,.slice A0_1 l0_1.length c0_1,.slice A0_2 l0_2.length c0_2]] (by rfl) rfl rfl ymd ?_
 with_reducible refine (laws_toPuzzle.calls k a0_0 _ _ l0_1 _ _ l0_2 t746 t747 t750 _ ?_ ?_ ?_ ?_ A12.out).mono ?_
 exact Kd.Cz ((Kd.C_below HR0_1.out HB.out))
 exact HC0_1.out
 exact Kd.Cz ((Kd.C_below HR0_2.out HB.out))
 exact HC0_2.out
 rintro e w53 ⟨v748,v751,rfl,ho0,ho1,hb⟩
 refine ⟨_,rfl,?_⟩
 have HO749:=yam (Kd.R_lower (Kd.Yw (Kd.Yw ho0 (Kd.R_lt (Kd.Yz HO732.out))) (Kd.R_lt (Kd.Yz HO740.out))) (below_size yhb))
 have HO752:=yam (Kd.S_lower (Kd.S_new' (Kd.S_new' (Kd.S_new' (Kd.S_new' ho1 (Kd.R_lt (Kd.Yz HO732.out))) (Kd.S_lt (by (with_reducible repeat (first|apply Kd.S_alloc|apply Kd.S_drewN|apply Kd.S_drew));exact HO735.out))) (Kd.R_lt (Kd.Yz HO740.out))) (Kd.S_lt (by (with_reducible repeat (first|apply Kd.S_alloc|apply Kd.S_drewN|apply Kd.S_drew));exact HO743.out))) (below_size yhb))
 replace HO732:=yam (Kd.Ye (Kd.Yz HO732.out) (Kd.Yb ho0) hb)
 replace HO735:=yam (Kd.S_mono (Kd.S_told (Kd.S_told (Kd.S_old (by (with_reducible repeat (first|apply Kd.S_alloc|apply Kd.S_drewN|apply Kd.S_drew));exact HO735.out) hb) (Kd.Yb ho0)) (Kd.S_base ho1)) (fun _ h_=>h_.1))
 replace HO740:=yam (Kd.Ye (Kd.Yz HO740.out) (Kd.Yb ho0) hb)
 replace HO743:=yam (Kd.S_mono (Kd.S_told (Kd.S_told (Kd.S_old (by (with_reducible repeat (first|apply Kd.S_alloc|apply Kd.S_drewN|apply Kd.S_drew));exact HO743.out) hb) (Kd.Yb ho0)) (Kd.S_base ho1)) (fun _ h_=>h_.1))
 replace BK727:=yam (ybb BK727.out hb)
 replace BK744:=yam (ybb BK744.out hb)
 replace HB:=yam (below_step yhb hb)
 (try clear hb)
 (try clear hb2)
 (try clear hk)
 (try clear hi)
 (try clear ho0)
 (try clear ho1)
 obtain ⟨Ao54,co54,eo54⟩:=Kd.R_slice HO749.out
 (first|subst eo54|(injection eo54 with f1_ f2_ f3_;have f4_:=f1_.symm;have f5_:=f3_.symm;clear f1_ f2_ f3_;subst f4_;subst f5_))
 obtain ⟨Ao55,co55,eo55⟩:=Kd.S_slice HO752.out
 (first|subst eo55|(injection eo55 with f1_ f2_ f3_;have f4_:=f1_.symm;have f5_:=f3_.symm;clear f1_ f2_ f3_;subst f4_;subst f5_))
 refine hK.out _ _ ⟨(blk_cell BK744.out 0).trans rfl,(blk_cell BK744.out 1).trans rfl,(blk_cell BK744.out 2).trans rfl,(blk_cell BK727.out 0).trans rfl,(blk_cell BK727.out 1).trans rfl,(blk_cell BK727.out 2).trans rfl⟩ (fun hHeld=>?_)
 clear hK K
 refine norm_ (a':=?_) ?_ ?_
 rotate_left
 ·show Act.put _ (some 24) _=_
  simp only [Act.put,yps,i64_w,i32_w]
  rfl
 refine one_ (i:=3) (N:=some 25) (yvb 5 15) rfl rfl (by kernel_rfl) (by decide) (fun K hK=>?_)
 refine goes_ Try.func14 (by kernel_rfl) rfl #[.agg #[.int .i64 t737,.slice Ao49 t738.length co49,.slice Ao50 t741.length co50],.agg #[.int .i64 t746,.slice Ao54 t747.length co54,.slice Ao55 t750.length co55]] (by rfl) rfl rfl ymd ?_
 with_reducible refine (laws_eqPuzzle.calls k t737 _ _ t738 _ _ t741 t746 _ _ t747 _ _ t750 false _ ?side1 ?side2 ?side3 ?side4 ?side5 ?side6 ?side7 ?side8 A13.out).mono ?_
 (case side1=>exact Kd.Cz (Kd.Yr HO740.out).2.2)
 (case side2=>exact (Kd.Yr HO740.out).2.1)
 (case side3=>repeat (first|exact (Kd.S_reads' HO743.out).2.2|(with_reducible refine Kd.C_alloc ?_ _)|(with_reducible refine Kd.C_drewN ?_ _)|(with_reducible refine Kd.C_drew ?_)))
 (case side4=>exact (Kd.S_reads' HO743.out).2.1)
 (case side5=>exact Kd.Cz (Kd.Yr HO749.out).2.2)
 (case side6=>exact (Kd.Yr HO749.out).2.1)
 (case side7=>repeat (first|exact (Kd.S_reads' HO752.out).2.2|(with_reducible refine Kd.C_alloc ?_ _)|(with_reducible refine Kd.C_drewN ?_ _)|(with_reducible refine Kd.C_drew ?_)))
 (case side8=>exact (Kd.S_reads' HO752.out).2.1)
 rintro e w56 ⟨rfl,hb⟩
 refine ⟨_,rfl,?_⟩
 replace HO732:=yam (Kd.R_below (Kd.Yz HO732.out) hb)
 replace HO735:=yam (Kd.S_below (by (with_reducible repeat (first|apply Kd.S_alloc|apply Kd.S_drewN|apply Kd.S_drew));exact HO735.out) hb)
 replace HO740:=yam (Kd.R_below (Kd.Yz HO740.out) hb)
 replace HO743:=yam (Kd.S_below (by (with_reducible repeat (first|apply Kd.S_alloc|apply Kd.S_drewN|apply Kd.S_drew));exact HO743.out) hb)
 replace HO749:=yam (Kd.R_below (Kd.Yz HO749.out) hb)
 replace HO752:=yam (Kd.S_below (by (with_reducible repeat (first|apply Kd.S_alloc|apply Kd.S_drewN|apply Kd.S_drew));exact HO752.out) hb)
 replace BK727:=yam (ybb BK727.out hb)
 replace BK744:=yam (ybb BK744.out hb)
 replace HB:=yam (below_step yhb hb)
 (try clear hb)
 (try clear hb2)
 (try clear hk)
 (try clear hi)
 refine hK.out _ _ ⟨(blk_cell BK744.out 0).trans rfl,(blk_cell BK744.out 1).trans rfl,(blk_cell BK744.out 2).trans rfl,(blk_cell BK727.out 0).trans rfl,(blk_cell BK727.out 1).trans rfl,(blk_cell BK727.out 2).trans rfl⟩ (fun hHeld=>?_)
 clear hK K
 refine norm_ (a':=?_) ?_ ?_
 rotate_left
 ·show Act.put _ (some 25) _=_
  simp only [Act.put,yps,i64_w,i32_w]
  rfl
 refine pure_ (i:=4) (N:=some 26) (v:=?_) (a':=?_) (yvb 5 31) rfl rfl (by kernel_rfl) (fun _ _ _ h=>h) (Or.inl ⟨by rfl,?_⟩) ?_ ?_
 rotate_left
 ·intro w'
  go_simp
  with_reducible rfl
 rotate_left
 ·simp only [Act.put,yps,i64_w,i32_w]
  rfl
 refine done_ (by kernel_rfl) ?_
 try go_wp2
 go_ret
 exact ⟨yer,yhb⟩
end Go.Proofs.Ytdemlminhkhonaa.P
