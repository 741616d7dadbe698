/- The machine's side: each Go function as a plain Lean function and the proof that the machine's call does what that function says; written by this session's own program over the kit's print. -/
import Derived.Test.YtmjbnghhfadapaaZP1
import Derived.Test.YtmjbnghhfadapaaZP2
namespace Go.Proofs.Ytmjbnghhfadapaa.P
set_option maxHeartbeats 8000000
set_option maxRecDepth 100000
open Go.RowKit Go.Proofs.YtmjbnghhfadapaaW.PrintWords Go.Proofs.YtmjbnghhfadapaaW.PrintLast Go.Proofs.YtmjbnghhfadapaaW.PrintMore
attribute [local go_sem] max2_int min2_int max_two min_two max_three min_three max_four min_four   -- for this text's walks alone
set_option linter.unusedVariables false
set_option linter.unusedSimpArgs false
def spec_PuzzleOf.f (k:Nat)(l0:List Int)(a1:Int)(l2:List (S73)):Option (Int × List Int × (List (S73)) × Bool):=(spec_l1OwnRuleList.f k l2).bind fun t431=>((some (([]:List Int):List Int)).bind fun y434=>(if y434.length + l0.length < 17592186044416 then ((some (y434 ++ l0:List Int)).bind fun y437=>((some (([]:List (S73)):List (S73))).bind fun y440=>(if y440.length + t431.length < 3518437208883 then ((some (y440 ++ t431:List (S73))).bind fun y443=>((spec_PuzzleSolved.f k a1 y437 y443 l0).bind fun t447=>(if t447=true then (some (a1,y437,y443,true)) else (some (0,([]:List Int),([]:List (S73)),false))))) else (none)))) else (none)))
theorem spec_PuzzleOf.calls (k:Nat)(A0:Option Addr)(c0:Nat)(l0:List Int)(a1:Int)(A2:Option Addr)(c2:Nat)(l2:List (S73))(r1:Int)(r2:List Int)(r3:List (S73))(r4:Bool)(w:World)(hr0:Kd.C (Kd.int .i64) w A0 l0.length l0)(hc0:l0.length≤c0)(hr2:Kd.C k73 w A2 l2.length l2)(hc2:l2.length≤c2)(h:spec_PuzzleOf.f k l0 a1 l2=some (r1,r2,r3,r4)) :
  Calls Try.prog 21 #[.slice A0 l0.length c0,.int .i64 a1,.slice A2 l2.length c2] w fun e w'=>∃ v1_ v2_:Value,e= .returned (.tuple #[.agg #[.int .i64 r1,v1_,v2_],.bool r4])∧Kd.R (Kd.int .i64) 3 w' w.heap.size (fun k_=>(w.heap.size≤k_)) v1_ r2∧Kd.N k73 73 w' w.heap.size (fun k_=>(w.heap.size≤k_)∧some k_≠(v1_:Value).ownBlock) v2_ r3∧Below w.heap.size w w':=by
 have hu37:=Try.underlying37
 have HR0:=yam hr0
 have HC0:=yam hc0
 clear hr0 hc0
 have HR2:=yam hr2
 have HC2:=yam hc2
 clear hr2 hc2
 have HB:=yam (Below.refl w.heap.size w)
 unfold spec_PuzzleOf.f at h
 have H:=h
 clear h
 replace H:=ybi H;obtain ⟨t431,A4,H⟩:=H
 replace H:((some (([]:List Int):List Int)).bind fun y434=>(if y434.length + l0.length < 17592186044416 then ((some (y434 ++ l0:List Int)).bind fun y437=>((some (([]:List (S73)):List (S73))).bind fun y440=>(if y440.length + t431.length < 3518437208883 then ((some (y440 ++ t431:List (S73))).bind fun y443=>((spec_PuzzleSolved.f k a1 y437 y443 l0).bind fun t447=>(if t447=true then (some (a1,y437,y443,true)) else (some (0,([]:List Int),([]:List (S73)),false))))) else (none)))) else (none)))=some (r1,r2,r3,r4):=H
 obtain ⟨y434,Ny434⟩:∃ y_:List Int,Aside0 (y_=(([]:List Int))):=⟨_,⟨rfl⟩⟩
 replace H:(if y434.length + l0.length < 17592186044416 then ((some (y434 ++ l0:List Int)).bind fun y437=>((some (([]:List (S73)):List (S73))).bind fun y440=>(if y440.length + t431.length < 3518437208883 then ((some (y440 ++ t431:List (S73))).bind fun y443=>((spec_PuzzleSolved.f k a1 y437 y443 l0).bind fun t447=>(if t447=true then (some (a1,y437,y443,true)) else (some (0,([]:List Int),([]:List (S73)),false))))) else (none)))) else (none))=some (r1,r2,r3,r4):=yhn Ny434.out H
 replace H:=yit H;obtain ⟨c5,H⟩ | ⟨c5,H⟩:=H
 rotate_left
 ·exact absurd H (by simp)
 have LMc5:=yam c5
 clear c5
 obtain ⟨y437,Ny437⟩:∃ y_:List Int,Aside0 (y_=(y434 ++ l0)):=⟨_,⟨rfl⟩⟩
 replace H:((some (([]:List (S73)):List (S73))).bind fun y440=>(if y440.length + t431.length < 3518437208883 then ((some (y440 ++ t431:List (S73))).bind fun y443=>((spec_PuzzleSolved.f k a1 y437 y443 l0).bind fun t447=>(if t447=true then (some (a1,y437,y443,true)) else (some (0,([]:List Int),([]:List (S73)),false))))) else (none)))=some (r1,r2,r3,r4):=yhn Ny437.out H
 obtain ⟨y440,Ny440⟩:∃ y_:List (S73),Aside0 (y_=(([]:List (S73)))):=⟨_,⟨rfl⟩⟩
 replace H:(if y440.length + t431.length < 3518437208883 then ((some (y440 ++ t431:List (S73))).bind fun y443=>((spec_PuzzleSolved.f k a1 y437 y443 l0).bind fun t447=>(if t447=true then (some (a1,y437,y443,true)) else (some (0,([]:List Int),([]:List (S73)),false))))) else (none))=some (r1,r2,r3,r4):=yhn Ny440.out H
 replace H:=yig H;obtain ⟨c6,H⟩:=H
 have LMc6:=yam c6
 clear c6
 obtain ⟨y443,Ny443⟩:∃ y_:List (S73),Aside0 (y_=(y440 ++ t431)):=⟨_,⟨rfl⟩⟩
 replace H:((spec_PuzzleSolved.f k a1 y437 y443 l0).bind fun t447=>(if t447=true then (some (a1,y437,y443,true)) else (some (0,([]:List Int),([]:List (S73)),false))))=some (r1,r2,r3,r4):=yhn Ny443.out H
 replace H:=ybi H;obtain ⟨t447,A7,H⟩:=H
 replace H:(if t447=true then (some (a1,y437,y443,true)) else (some (0,([]:List Int),([]:List (S73)),false)))=some (r1,r2,r3,r4):=H
 cases t447
 ·replace H:=yff H
  simp only [Option.some.injEq,Prod.mk.injEq] at H
  obtain ⟨rfl,rfl,rfl,rfl⟩:=H
  go_enter Try.func21,Try.ntmps21
  go_wp2_with (first|(refine ybe 6 #[.int .i64 0,.slice none 0 0,.slice none 0 0] 37 ?_;intro gb430 hg w26 hbox hb;have BK430:=yam (hbox);have GW430:=yam ((by rw [hg];exact (below_size (yez HB.out)):w.heap.size≤gb430));replace HB:=yam (below_step (yez HB.out) hb);have GE430:=GW430;clear hb hbox hg)|(refine goesL_ (some 10) rfl rfl Try.func54 (by kernel_rfl) rfl #[.slice A2 l2.length c2] rfl ymd ?_;(with_reducible refine (spec_l1OwnRuleList.calls k _ _ l2 t431 _ ?_ ?_ A4.out).mono ?_);exact Kd.Cz ((Kd.C_below HR2.out HB.out));exact HC2.out;rintro e w27 ⟨v432,rfl,ho0,hb⟩;refine ⟨_,rfl,?_⟩;have HO433:=yam (Kd.N_lower (Kd.N_mono (ok':=fun k_=>(w.heap.size≤k_)∧k_≠gb430) (Kd.S_N (Kd.S_bound ho0)) (fun k_ hk_=>⟨(Nat.le_trans (below_size yhb) hk_.2.1),(Kd.freshB (g:=gb430) (o:= .cells #[.int .i64 0,.slice none 0 0,.slice none 0 0] 37 (0,0)) (ybz BK430.out) k_ hk_.2.1)⟩)) (below_size yhb));replace BK430:=yam (ybb BK430.out hb);replace HB:=yam (below_step yhb hb);(try clear hb);(try clear ho0))|((with_reducible refine gate_dst (N:=12) rfl ?_);refine Kd.R_lit (Kd.int .i64) _ 3 ?hg (N:=12) ?hd (xs:=([]:List Int)) (inner:=[]) (ok:=fun _=>True) (okp:=fun _=>True) ?hr ?hp (fun _ hk=>hk) trivial (Below.refl _ _) (Nat.le_refl _) (by simp) ?_;(case hd=>rfl);(case hg=>rfl);(case hr=>first|(go_simp;done)|(go_simp;rfl));(case hp=>exact (Reps.none _ _));intro v435 w28 ho29 hb hg_ hnew_;clear hg_ hnew_;(first|rw [← Ny434.out] at ho29|(simp only [Int.reduceToNat] at ho29;rw [← Ny434.out] at ho29));replace HO433:=yam (Kd.N_elder' (by (with_reducible repeat (first|apply Kd.N_alloc|apply Kd.N_drewN|apply Kd.N_drew));exact HO433.out) (Kd.Yb ho29) hb);have HO436:=yam (Kd.R_lower (Kd.R_newM (M:=fun k_=>(w.heap.size≤k_)) ho29 (below_size yhb) (fun k_ h_=>h_)) (below_size yhb));replace BK430:=yam (ybb BK430.out hb);replace HB:=yam (below_step yhb hb);clear hb ho29)|((with_reducible refine gate_builtin (b:= .append) (xs:= #[.tmp 12,.tmp 13]) rfl ?_);at_builtin;refine Kd.R_append_rows (Kd.int .i64) (w0:=w) w.heap.size rfl (.tmp 12) (.tmp 13) 22 3 (.int .i64 0) 8 rfl Try.underlying22 info3 rfl (by decide) (by omega) v435 y434 l0 _ _ _ (fun k_=>(w.heap.size≤k_)) (fun _=>False) rfl rfl ?aO ?aR (fun _ _ h=>h) (fun _ h=>h.elim) ?aF ?aB ?aS ?aL ?_;(case aR=>exact Kd.Cz ((Kd.C_below HR0.out HB.out)));(case aB=>exact yhb);(case aF=>exact (fun k_ hk=>(Nat.le_trans (below_size yhb) hk)));(case aO=>exact (by (with_reducible repeat (first|apply Kd.Ya|apply Kd.Yn|apply Kd.Yd));exact Kd.R_mono HO436.out (fun _ hk=>hk.1)));(case aS=>exact (below_size yhb));(case aL=>have:=LMc5.out;omega);intro v438 w30 ho hb hg hat;rw [← Ny437.out] at ho;replace BK430:=yam (blk_grown (g:=gb430) (o:= .cells #[.int .i64 0,.slice none 0 0,.slice none 0 0] 37 (0,0)) (ybz BK430.out) hg (Kd.R_ne HO436.out BK430.out (by decide)));replace HO433:=yam (Kd.N_afterv (ok:=(fun k_=>(w.heap.size≤k_)∧k_≠gb430)) (by (with_reducible repeat (first|apply Kd.N_alloc|apply Kd.N_drewN|apply Kd.N_drew));exact HO433.out) hg hat);replace HB:=yam (hb);have HO439:=yam (ho);clear HO436;clear ho hb hg hat)|((with_reducible refine gate_dst (N:=15) rfl ?_);refine Kd.N_lit k73 _ 73 ?hg (N':=15) ?hd (xs:=([]:List (S73))) (inner:=[]) (ok:=(fun k_=>(w.heap.size≤k_)∧some k_≠(v432:Value).ownBlock∧some k_≠(v438:Value).ownBlock∧k_≠gb430)) (okp:=(fun k_=>(w.heap.size≤k_)∧some k_≠(v432:Value).ownBlock∧some k_≠(v438:Value).ownBlock∧k_≠gb430)) ?hr ?hp (fun _ hk=>hk) ((show ∀ k_,w30.heap.size≤k_→(fun k_=>(w.heap.size≤k_)∧some k_≠(v432:Value).ownBlock∧some k_≠(v438:Value).ownBlock∧k_≠gb430) k_ from fun k_ hk=>⟨(Nat.le_trans (below_size yhb) hk),Kd.fresh' (Kd.N_lt (by (with_reducible repeat (first|apply Kd.N_alloc|apply Kd.N_drewN|apply Kd.N_drew));exact HO433.out)) k_ hk,Kd.fresh' (Kd.R_lt (Kd.Yz HO439.out)) k_ hk,Kd.freshB (g:=gb430) (o:= .cells #[.int .i64 0,.slice none 0 0,.slice none 0 0] 37 (0,0)) (ybz BK430.out) k_ hk⟩) _ (Nat.le_refl _)) (Below.refl _ _) (Nat.le_refl _) (by simp) ?_;(case hd=>rfl);(case hg=>rfl);(case hr=>first|(go_simp;done)|(go_simp;rfl));(case hp=>exact (Reps.none _ _));intro v441 w31 ho32 hb hg_ hnew_;clear hg_ hnew_;(first|rw [← Ny440.out] at ho32|(simp only [Int.reduceToNat] at ho32;rw [← Ny440.out] at ho32));replace HO433:=yam (Kd.N_elder' (by (with_reducible repeat (first|apply Kd.N_alloc|apply Kd.N_drewN|apply Kd.N_drew));exact HO433.out) (Kd.N_base ho32) hb);replace HO439:=yam (Kd.R_below (Kd.Yz HO439.out) hb);have HO442:=yam (Kd.N_lower ho32 (below_size yhb));replace BK430:=yam (ybb BK430.out hb);replace HB:=yam (below_step yhb hb);clear hb ho32;obtain ⟨Ao34,co34,eo34⟩:=Kd.N_slice HO433.out;subst eo34)|((with_reducible refine gate_builtin (b:= .append) (xs:= #[.tmp 15,.tmp 16]) rfl ?_);at_builtin;refine Kd.N_append_rows k73 (w0:=w) w.heap.size rfl (.tmp 15) (.tmp 16) 35 73 (.agg #[(.int .i64 0),(.slice none 0 0),(.int .i64 0)]) 40 rfl Try.underlying35 info73 rfl (by decide) (by omega) v441 y440 t431 _ _ _ (fun k_=>(w.heap.size≤k_)∧some k_≠(v438:Value).ownBlock∧k_≠gb430) (fun k_=>((fun k_=>(w.heap.size≤k_)∧some k_≠(v438:Value).ownBlock∧k_≠gb430)) k_∧some k_≠(v441:Value).ownBlock) rfl rfl ?aO ?aR (fun _ hk=>hk) ?aF ?aB ?aS ?aL ?_;(case aR=>exact (by skip;exact Kd.N_F (Kd.N_mono (ok':=(fun k_=>((fun k_=>(w.heap.size≤k_)∧some k_≠(v438:Value).ownBlock∧k_≠gb430)) k_∧some k_≠(v441:Value).ownBlock)) (HO433.out) (fun k_ hk=>⟨⟨hk.1.1.1,⟨hk.1.2,hk.1.1.2⟩⟩,hk.2⟩))));(case aB=>exact yhb);(case aF=>exact (fun k_ hk=>⟨(Nat.le_trans (below_size yhb) hk),Kd.fresh' (Kd.R_lt (Kd.Yz HO439.out)) k_ hk,Kd.freshB (g:=gb430) (o:= .cells #[.int .i64 0,.slice none 0 0,.slice none 0 0] 37 (0,0)) (ybz BK430.out) k_ hk⟩));(case aO=>exact (by (with_reducible repeat (first|apply Kd.N_alloc|apply Kd.N_drewN|apply Kd.N_drew));exact Kd.N_mono HO442.out (fun _ hk=>⟨hk.1,⟨hk.2.2.1,hk.2.2.2⟩⟩)));(case aS=>exact (below_size yhb));(case aL=>have:=LMc6.out;omega);intro v444 w33 ho hb hg hat;rw [← Ny443.out] at ho;replace BK430:=yam (blk_grown (g:=gb430) (o:= .cells #[.int .i64 0,.slice none 0 0,.slice none 0 0] 37 (0,0)) (ybz BK430.out) hg (Kd.N_ne HO442.out BK430.out (by decide)));replace HO433:=yam (Kd.N_afterv (ok:=(fun k_=>(w.heap.size≤k_)∧some k_≠(v438:Value).ownBlock∧k_≠gb430)) (by (with_reducible repeat (first|apply Kd.N_alloc|apply Kd.N_drewN|apply Kd.N_drew));exact Kd.N_mono HO433.out (fun _ hk=>⟨⟨hk.1.1.1,⟨hk.1.2,hk.1.1.2⟩⟩,hk.2⟩)) hg hat);replace HO439:=yam (Kd.R_over' (Kd.Yz HO439.out) (Kd.N_typed (by (with_reducible repeat (first|apply Kd.N_alloc|apply Kd.N_drewN|apply Kd.N_drew));exact HO442.out)) (by decide) hg);replace HB:=yam (hb);have HO445:=yam (ho);clear HO442;clear ho hb hg hat;obtain ⟨Ao35,co35,eo35⟩:=Kd.N_slice HO445.out;subst eo35;obtain ⟨Ao36,co36,eo36⟩:=Kd.R_slice HO439.out;subst eo36)|(refine ybe 8 #[.int .i64 0,.slice none 0 0,.slice none 0 0] 37 ?_;intro gb446 hg w37 hbox hb;replace HO433:=yam (Kd.N_below (Kd.N_elderB (by (with_reducible repeat (first|apply Kd.N_alloc|apply Kd.N_drewN|apply Kd.N_drew));exact HO433.out) gb446 (Nat.le_of_eq hg.symm)) hb);replace HO439:=yam (Kd.R_below (Kd.Yz HO439.out) hb);replace HO445:=yam (Kd.N_below (Kd.N_elderB (by (with_reducible repeat (first|apply Kd.N_alloc|apply Kd.N_drewN|apply Kd.N_drew));exact HO445.out) gb446 (Nat.le_of_eq hg.symm)) hb);have BK446:=yam (hbox);have GW446:=yam ((by rw [hg];exact (below_size yhb):w.heap.size≤gb446));replace HB:=yam (below_step yhb hb);have GE446:=GW446;have NB430_446:=yam ((by rw [hg];exact Nat.ne_of_lt (blk_lt (g:=gb430) (o:= .cells #[.int .i64 0,.slice none 0 0,.slice none 0 0] 37 (0,0)) (ybz BK430.out)):gb430≠gb446));have NB446_430:=yam ((by rw [hg];exact Nat.ne_of_gt (blk_lt (g:=gb430) (o:= .cells #[.int .i64 0,.slice none 0 0,.slice none 0 0] 37 (0,0)) (ybz BK430.out)):gb446≠gb430));replace BK430:=yam (ybb BK430.out hb);clear hb hbox hg;have hnb38:=NB446_430.out;have hnc38:=NB430_446.out;obtain ⟨hcz39_0,hcz39_1,hcz39_2,hfz39_0,hfz39_1,hfz39_2⟩:=ybc BK446.out)|(refine goesL_ (some 21) rfl rfl Try.func55 (by kernel_rfl) rfl #[.agg #[.int .i64 a1,.slice Ao36 y437.length co36,.slice Ao35 y443.length co35],.slice A0 l0.length c0] rfl ymd ?_;(with_reducible refine (spec_PuzzleSolved.calls k a1 _ _ y437 _ _ y443 _ _ l0 false _ ?side1 ?side2 ?side3 ?side4 ?side5 ?side6 A7.out).mono ?_);(case side1=>refine (Kd.Yr (e:=3) (base:=w.heap.size) (ok:=fun k_=>(w.heap.size≤k_)) (n:=y437.length) (c:=co36) ?_).2.2;exact (by (with_reducible repeat (first|apply Kd.Ya|apply Kd.Yn|apply Kd.Yd));exact (Kd.R_mono (Kd.R_far (p:=⟨gb446,2,none⟩) (Kd.R_far (p:=⟨gb446,1,none⟩) (Kd.R_far (p:=⟨gb446,0,none⟩) (Kd.R_types HO439.out BK446.out (by decide)) (fun _ hk=>hk.2) (.int .i64 a1)) (fun _ hk=>hk.2) (.slice Ao36 y437.length co36)) (fun _ hk=>hk.2) (.slice Ao35 y443.length co35)) (fun _ h_=>h_.1))));(case side2=>exact (Kd.Yr HO439.out).2.1);(case side3=>refine (Kd.N_reads' (e:=73) (base:=w.heap.size) (ok:=fun k_=>(((w.heap.size≤k_)∧(some k_≠(.slice Ao36 y437.length co36:Value).ownBlock∧k_≠gb430))∧k_≠gb446)) (n:=y443.length) (c:=co35) ?_).2.2;exact (by (with_reducible repeat (first|apply Kd.N_alloc|apply Kd.N_drewN|apply Kd.N_drew));exact (Kd.N_mono (Kd.N_far (p:=⟨gb446,2,none⟩) (Kd.N_far (p:=⟨gb446,1,none⟩) (Kd.N_far (p:=⟨gb446,0,none⟩) (Kd.N_mono HO445.out (fun k_ hk=>(⟨hk,hk.2⟩:_∧k_≠gb446))) (fun _ hk=>hk.2) (.int .i64 a1)) (fun _ hk=>hk.2) (.slice Ao36 y437.length co36)) (fun _ hk=>hk.2) (.slice Ao35 y443.length co35)) (fun _ h_=>h_.1))));(case side4=>exact (Kd.N_reads' HO445.out).2.1);(case side5=>exact Kd.C_below HR0.out yhb);(case side6=>exact HC0.out);rintro e w40 ⟨rfl,hb⟩;refine ⟨_,rfl,?_⟩;replace HO433:=yam (Kd.N_below (by (with_reducible repeat (first|apply Kd.N_alloc|apply Kd.N_drewN|apply Kd.N_drew));exact (Kd.N_mono (Kd.N_far (p:=⟨gb446,2,none⟩) (Kd.N_far (p:=⟨gb446,1,none⟩) (Kd.N_far (p:=⟨gb446,0,none⟩) (Kd.N_mono HO433.out (fun k_ hk=>(⟨hk,hk.2⟩:_∧k_≠gb446))) (fun _ hk=>hk.2) (.int .i64 a1)) (fun _ hk=>hk.2) (.slice Ao36 y437.length co36)) (fun _ hk=>hk.2) (.slice Ao35 y443.length co35)) (fun _ h_=>h_.1))) hb);replace HO439:=yam (Kd.R_below (by (with_reducible repeat (first|apply Kd.Ya|apply Kd.Yn|apply Kd.Yd));exact (Kd.R_mono (Kd.R_far (p:=⟨gb446,2,none⟩) (Kd.R_far (p:=⟨gb446,1,none⟩) (Kd.R_far (p:=⟨gb446,0,none⟩) (Kd.R_types HO439.out BK446.out (by decide)) (fun _ hk=>hk.2) (.int .i64 a1)) (fun _ hk=>hk.2) (.slice Ao36 y437.length co36)) (fun _ hk=>hk.2) (.slice Ao35 y443.length co35)) (fun _ h_=>h_.1))) hb);replace HO445:=yam (Kd.N_below (by (with_reducible repeat (first|apply Kd.N_alloc|apply Kd.N_drewN|apply Kd.N_drew));exact (Kd.N_mono (Kd.N_far (p:=⟨gb446,2,none⟩) (Kd.N_far (p:=⟨gb446,1,none⟩) (Kd.N_far (p:=⟨gb446,0,none⟩) (Kd.N_mono HO445.out (fun k_ hk=>(⟨hk,hk.2⟩:_∧k_≠gb446))) (fun _ hk=>hk.2) (.int .i64 a1)) (fun _ hk=>hk.2) (.slice Ao36 y437.length co36)) (fun _ hk=>hk.2) (.slice Ao35 y443.length co35)) (fun _ h_=>h_.1))) hb);replace BK430:=yam (blk_below (g:=gb430) (o:= .cells #[.int .i64 0,.slice none 0 0,.slice none 0 0] 37 (0,0)) (by (with_reducible repeat (first|refine ybn ?_ _|refine ybd ?_|refine yba ?_ _));refine blk_far ?_ NB430_446.out _;(with_reducible repeat (first|refine ybn ?_ _|refine ybd ?_|refine yba ?_ _));refine blk_far ?_ NB430_446.out _;(with_reducible repeat (first|refine ybn ?_ _|refine ybd ?_|refine yba ?_ _));refine blk_far ?_ NB430_446.out _;(with_reducible repeat (first|refine ybn ?_ _|refine ybd ?_|refine yba ?_ _));exact BK430.out) hb);replace BK446:=yam (blk_below (g:=gb446) (o:= .cells #[.int .i64 a1,.slice Ao36 y437.length co36,.slice Ao35 y443.length co35] 37 (0,0)) (by (with_reducible repeat (first|refine ybn ?_ _|refine ybd ?_|refine yba ?_ _));refine blk_put (cs:= #[.int .i64 a1,.slice Ao36 y437.length co36,.slice none 0 0]) ?_ 2 _ rfl;(with_reducible repeat (first|refine ybn ?_ _|refine ybd ?_|refine yba ?_ _));refine blk_put (cs:= #[.int .i64 a1,.slice none 0 0,.slice none 0 0]) ?_ 1 _ rfl;(with_reducible repeat (first|refine ybn ?_ _|refine ybd ?_|refine yba ?_ _));refine blk_put (cs:= #[.int .i64 0,.slice none 0 0,.slice none 0 0]) ?_ 0 _ rfl;(with_reducible repeat (first|refine ybn ?_ _|refine ybd ?_|refine yba ?_ _));exact BK446.out) hb);replace HB:=yam (below_step yhb hb);(try clear hb);(try clear hk);obtain ⟨hcz41_0,hcz41_1,hcz41_2,hfz41_0,hfz41_1,hfz41_2⟩:=ybc BK430.out))
  refine bodyPost_ret (results_ct rfl _ _ gb430 37 #[.int .i64 0,.slice none 0 0,.slice none 0 0] (0,0) _ rfl (by (with_reducible repeat (first|refine ybn ?_ _|refine ybd ?_|refine yba ?_ _));refine blk_put (cs:= #[.int .i64 0,.slice none 0 0,.slice none 0 0]) ?_ 2 _ rfl;(with_reducible repeat (first|refine ybn ?_ _|refine ybd ?_|refine yba ?_ _));refine blk_put (cs:= #[.int .i64 0,.slice none 0 0,.slice none 0 0]) ?_ 1 _ rfl;(with_reducible repeat (first|refine ybn ?_ _|refine ybd ?_|refine yba ?_ _));refine blk_put (cs:= #[.int .i64 0,.slice none 0 0,.slice none 0 0]) ?_ 0 _ rfl;(with_reducible repeat (first|refine ybn ?_ _|refine ybd ?_|refine yba ?_ _));exact BK430.out) Try.underlying37 rfl (by kernel_rfl)) rfl ?_
  exact ⟨_,_,yer,by first|exact Kd.R_nil _ _ _ _ _|exact Kd.N_nil _ _ _ _ _|exact Kd.V_nil _ _ _ _ _|exact Kd.Q_nil _ _ _ _ _|exact Kd.S_nil _ _ _ _ _,by first|exact Kd.S_nil _ _ _ _ _|exact Kd.N_nil _ _ _ _ _|exact Kd.V_nil _ _ _ _ _|exact Kd.Q_nil _ _ _ _ _|exact Kd.R_nil _ _ _ _ _,yhb⟩
 replace H:=ytt H
 simp only [Option.some.injEq,Prod.mk.injEq] at H
 obtain ⟨rfl,rfl,rfl,rfl⟩:=H
 go_enter Try.func21,Try.ntmps21
 go_wp2_with (first|(refine ybe 6 #[.int .i64 0,.slice none 0 0,.slice none 0 0] 37 ?_;intro gb430 hg w9 hbox hb;have BK430:=yam (hbox);have GW430:=yam ((by rw [hg];exact (below_size (yez HB.out)):w.heap.size≤gb430));replace HB:=yam (below_step (yez HB.out) hb);have GE430:=GW430;clear hb hbox hg)|(refine goesL_ (some 10) rfl rfl Try.func54 (by kernel_rfl) rfl #[.slice A2 l2.length c2] rfl ymd ?_;(with_reducible refine (spec_l1OwnRuleList.calls k _ _ l2 t431 _ ?_ ?_ A4.out).mono ?_);exact Kd.Cz ((Kd.C_below HR2.out HB.out));exact HC2.out;rintro e w10 ⟨v432,rfl,ho0,hb⟩;refine ⟨_,rfl,?_⟩;have HO433:=yam (Kd.N_lower (Kd.N_mono (ok':=fun k_=>(w.heap.size≤k_)∧k_≠gb430) (Kd.S_N (Kd.S_bound ho0)) (fun k_ hk_=>⟨(Nat.le_trans (below_size yhb) hk_.2.1),(Kd.freshB (g:=gb430) (o:= .cells #[.int .i64 0,.slice none 0 0,.slice none 0 0] 37 (0,0)) (ybz BK430.out) k_ hk_.2.1)⟩)) (below_size yhb));replace BK430:=yam (ybb BK430.out hb);replace HB:=yam (below_step yhb hb);(try clear hb);(try clear ho0))|((with_reducible refine gate_dst (N:=12) rfl ?_);refine Kd.R_lit (Kd.int .i64) _ 3 ?hg (N:=12) ?hd (xs:=([]:List Int)) (inner:=[]) (ok:=fun _=>True) (okp:=fun _=>True) ?hr ?hp (fun _ hk=>hk) trivial (Below.refl _ _) (Nat.le_refl _) (by simp) ?_;(case hd=>rfl);(case hg=>rfl);(case hr=>first|(go_simp;done)|(go_simp;rfl));(case hp=>exact (Reps.none _ _));intro v435 w11 ho12 hb hg_ hnew_;clear hg_ hnew_;(first|rw [← Ny434.out] at ho12|(simp only [Int.reduceToNat] at ho12;rw [← Ny434.out] at ho12));replace HO433:=yam (Kd.N_elder' (by (with_reducible repeat (first|apply Kd.N_alloc|apply Kd.N_drewN|apply Kd.N_drew));exact HO433.out) (Kd.Yb ho12) hb);have HO436:=yam (Kd.R_lower (Kd.R_newM (M:=fun k_=>(w.heap.size≤k_)) ho12 (below_size yhb) (fun k_ h_=>h_)) (below_size yhb));replace BK430:=yam (ybb BK430.out hb);replace HB:=yam (below_step yhb hb);clear hb ho12)|((with_reducible refine gate_builtin (b:= .append) (xs:= #[.tmp 12,.tmp 13]) rfl ?_);at_builtin;refine Kd.R_append_rows (Kd.int .i64) (w0:=w) w.heap.size rfl (.tmp 12) (.tmp 13) 22 3 (.int .i64 0) 8 rfl Try.underlying22 info3 rfl (by decide) (by omega) v435 y434 l0 _ _ _ (fun k_=>(w.heap.size≤k_)) (fun _=>False) rfl rfl ?aO ?aR (fun _ _ h=>h) (fun _ h=>h.elim) ?aF ?aB ?aS ?aL ?_;(case aR=>exact Kd.Cz ((Kd.C_below HR0.out HB.out)));(case aB=>exact yhb);(case aF=>exact (fun k_ hk=>(Nat.le_trans (below_size yhb) hk)));(case aO=>exact (by (with_reducible repeat (first|apply Kd.Ya|apply Kd.Yn|apply Kd.Yd));exact Kd.R_mono HO436.out (fun _ hk=>hk.1)));(case aS=>exact (below_size yhb));(case aL=>have:=LMc5.out;omega);intro v438 w13 ho hb hg hat;rw [← Ny437.out] at ho;replace BK430:=yam (blk_grown (g:=gb430) (o:= .cells #[.int .i64 0,.slice none 0 0,.slice none 0 0] 37 (0,0)) (ybz BK430.out) hg (Kd.R_ne HO436.out BK430.out (by decide)));replace HO433:=yam (Kd.N_afterv (ok:=(fun k_=>(w.heap.size≤k_)∧k_≠gb430)) (by (with_reducible repeat (first|apply Kd.N_alloc|apply Kd.N_drewN|apply Kd.N_drew));exact HO433.out) hg hat);replace HB:=yam (hb);have HO439:=yam (ho);clear HO436;clear ho hb hg hat)|((with_reducible refine gate_dst (N:=15) rfl ?_);refine Kd.N_lit k73 _ 73 ?hg (N':=15) ?hd (xs:=([]:List (S73))) (inner:=[]) (ok:=(fun k_=>(w.heap.size≤k_)∧some k_≠(v432:Value).ownBlock∧some k_≠(v438:Value).ownBlock∧k_≠gb430)) (okp:=(fun k_=>(w.heap.size≤k_)∧some k_≠(v432:Value).ownBlock∧some k_≠(v438:Value).ownBlock∧k_≠gb430)) ?hr ?hp (fun _ hk=>hk) ((show ∀ k_,w13.heap.size≤k_→(fun k_=>(w.heap.size≤k_)∧some k_≠(v432:Value).ownBlock∧some k_≠(v438:Value).ownBlock∧k_≠gb430) k_ from fun k_ hk=>⟨(Nat.le_trans (below_size yhb) hk),Kd.fresh' (Kd.N_lt (by (with_reducible repeat (first|apply Kd.N_alloc|apply Kd.N_drewN|apply Kd.N_drew));exact HO433.out)) k_ hk,Kd.fresh' (Kd.R_lt (Kd.Yz HO439.out)) k_ hk,Kd.freshB (g:=gb430) (o:= .cells #[.int .i64 0,.slice none 0 0,.slice none 0 0] 37 (0,0)) (ybz BK430.out) k_ hk⟩) _ (Nat.le_refl _)) (Below.refl _ _) (Nat.le_refl _) (by simp) ?_;(case hd=>rfl);(case hg=>rfl);(case hr=>first|(go_simp;done)|(go_simp;rfl));(case hp=>exact (Reps.none _ _));intro v441 w14 ho15 hb hg_ hnew_;clear hg_ hnew_;(first|rw [← Ny440.out] at ho15|(simp only [Int.reduceToNat] at ho15;rw [← Ny440.out] at ho15));replace HO433:=yam (Kd.N_elder' (by (with_reducible repeat (first|apply Kd.N_alloc|apply Kd.N_drewN|apply Kd.N_drew));exact HO433.out) (Kd.N_base ho15) hb);replace HO439:=yam (Kd.R_below (Kd.Yz HO439.out) hb);have HO442:=yam (Kd.N_lower ho15 (below_size yhb));replace BK430:=yam (ybb BK430.out hb);replace HB:=yam (below_step yhb hb);clear hb ho15;obtain ⟨Ao17,co17,eo17⟩:=Kd.N_slice HO433.out;subst eo17)|((with_reducible refine gate_builtin (b:= .append) (xs:= #[.tmp 15,.tmp 16]) rfl ?_);at_builtin;refine Kd.N_append_rows k73 (w0:=w) w.heap.size rfl (.tmp 15) (.tmp 16) 35 73 (.agg #[(.int .i64 0),(.slice none 0 0),(.int .i64 0)]) 40 rfl Try.underlying35 info73 rfl (by decide) (by omega) v441 y440 t431 _ _ _ (fun k_=>(w.heap.size≤k_)∧some k_≠(v438:Value).ownBlock∧k_≠gb430) (fun k_=>((fun k_=>(w.heap.size≤k_)∧some k_≠(v438:Value).ownBlock∧k_≠gb430)) k_∧some k_≠(v441:Value).ownBlock) rfl rfl ?aO ?aR (fun _ hk=>hk) ?aF ?aB ?aS ?aL ?_;(case aR=>exact (by skip;exact Kd.N_F (Kd.N_mono (ok':=(fun k_=>((fun k_=>(w.heap.size≤k_)∧some k_≠(v438:Value).ownBlock∧k_≠gb430)) k_∧some k_≠(v441:Value).ownBlock)) (HO433.out) (fun k_ hk=>⟨⟨hk.1.1.1,⟨hk.1.2,hk.1.1.2⟩⟩,hk.2⟩))));(case aB=>exact yhb);(case aF=>exact (fun k_ hk=>⟨(Nat.le_trans (below_size yhb) hk),Kd.fresh' (Kd.R_lt (Kd.Yz HO439.out)) k_ hk,Kd.freshB (g:=gb430) (o:= .cells #[.int .i64 0,.slice none 0 0,.slice none 0 0] 37 (0,0)) (ybz BK430.out) k_ hk⟩));(case aO=>exact (by (with_reducible repeat (first|apply Kd.N_alloc|apply Kd.N_drewN|apply Kd.N_drew));exact Kd.N_mono HO442.out (fun _ hk=>⟨hk.1,⟨hk.2.2.1,hk.2.2.2⟩⟩)));(case aS=>exact (below_size yhb));(case aL=>have:=LMc6.out;omega);intro v444 w16 ho hb hg hat;rw [← Ny443.out] at ho;replace BK430:=yam (blk_grown (g:=gb430) (o:= .cells #[.int .i64 0,.slice none 0 0,.slice none 0 0] 37 (0,0)) (ybz BK430.out) hg (Kd.N_ne HO442.out BK430.out (by decide)));replace HO433:=yam (Kd.N_afterv (ok:=(fun k_=>(w.heap.size≤k_)∧some k_≠(v438:Value).ownBlock∧k_≠gb430)) (by (with_reducible repeat (first|apply Kd.N_alloc|apply Kd.N_drewN|apply Kd.N_drew));exact Kd.N_mono HO433.out (fun _ hk=>⟨⟨hk.1.1.1,⟨hk.1.2,hk.1.1.2⟩⟩,hk.2⟩)) hg hat);replace HO439:=yam (Kd.R_over' (Kd.Yz HO439.out) (Kd.N_typed (by (with_reducible repeat (first|apply Kd.N_alloc|apply Kd.N_drewN|apply Kd.N_drew));exact HO442.out)) (by decide) hg);replace HB:=yam (hb);have HO445:=yam (ho);clear HO442;clear ho hb hg hat;obtain ⟨Ao18,co18,eo18⟩:=Kd.N_slice HO445.out;subst eo18;obtain ⟨Ao19,co19,eo19⟩:=Kd.R_slice HO439.out;subst eo19)|(refine ybe 8 #[.int .i64 0,.slice none 0 0,.slice none 0 0] 37 ?_;intro gb446 hg w20 hbox hb;replace HO433:=yam (Kd.N_below (Kd.N_elderB (by (with_reducible repeat (first|apply Kd.N_alloc|apply Kd.N_drewN|apply Kd.N_drew));exact HO433.out) gb446 (Nat.le_of_eq hg.symm)) hb);replace HO439:=yam (Kd.R_below (Kd.Yz HO439.out) hb);replace HO445:=yam (Kd.N_below (Kd.N_elderB (by (with_reducible repeat (first|apply Kd.N_alloc|apply Kd.N_drewN|apply Kd.N_drew));exact HO445.out) gb446 (Nat.le_of_eq hg.symm)) hb);have BK446:=yam (hbox);have GW446:=yam ((by rw [hg];exact (below_size yhb):w.heap.size≤gb446));replace HB:=yam (below_step yhb hb);have GE446:=GW446;have NB430_446:=yam ((by rw [hg];exact Nat.ne_of_lt (blk_lt (g:=gb430) (o:= .cells #[.int .i64 0,.slice none 0 0,.slice none 0 0] 37 (0,0)) (ybz BK430.out)):gb430≠gb446));have NB446_430:=yam ((by rw [hg];exact Nat.ne_of_gt (blk_lt (g:=gb430) (o:= .cells #[.int .i64 0,.slice none 0 0,.slice none 0 0] 37 (0,0)) (ybz BK430.out)):gb446≠gb430));replace BK430:=yam (ybb BK430.out hb);clear hb hbox hg;have hnb21:=NB446_430.out;have hnc21:=NB430_446.out;obtain ⟨hcz22_0,hcz22_1,hcz22_2,hfz22_0,hfz22_1,hfz22_2⟩:=ybc BK446.out)|(refine goesL_ (some 21) rfl rfl Try.func55 (by kernel_rfl) rfl #[.agg #[.int .i64 a1,.slice Ao19 y437.length co19,.slice Ao18 y443.length co18],.slice A0 l0.length c0] rfl ymd ?_;(with_reducible refine (spec_PuzzleSolved.calls k a1 _ _ y437 _ _ y443 _ _ l0 true _ ?side1 ?side2 ?side3 ?side4 ?side5 ?side6 A7.out).mono ?_);(case side1=>refine (Kd.Yr (e:=3) (base:=w.heap.size) (ok:=fun k_=>(w.heap.size≤k_)) (n:=y437.length) (c:=co19) ?_).2.2;exact (by (with_reducible repeat (first|apply Kd.Ya|apply Kd.Yn|apply Kd.Yd));exact (Kd.R_mono (Kd.R_far (p:=⟨gb446,2,none⟩) (Kd.R_far (p:=⟨gb446,1,none⟩) (Kd.R_far (p:=⟨gb446,0,none⟩) (Kd.R_types HO439.out BK446.out (by decide)) (fun _ hk=>hk.2) (.int .i64 a1)) (fun _ hk=>hk.2) (.slice Ao19 y437.length co19)) (fun _ hk=>hk.2) (.slice Ao18 y443.length co18)) (fun _ h_=>h_.1))));(case side2=>exact (Kd.Yr HO439.out).2.1);(case side3=>refine (Kd.N_reads' (e:=73) (base:=w.heap.size) (ok:=fun k_=>(((w.heap.size≤k_)∧(some k_≠(.slice Ao19 y437.length co19:Value).ownBlock∧k_≠gb430))∧k_≠gb446)) (n:=y443.length) (c:=co18) ?_).2.2;exact (by (with_reducible repeat (first|apply Kd.N_alloc|apply Kd.N_drewN|apply Kd.N_drew));exact (Kd.N_mono (Kd.N_far (p:=⟨gb446,2,none⟩) (Kd.N_far (p:=⟨gb446,1,none⟩) (Kd.N_far (p:=⟨gb446,0,none⟩) (Kd.N_mono HO445.out (fun k_ hk=>(⟨hk,hk.2⟩:_∧k_≠gb446))) (fun _ hk=>hk.2) (.int .i64 a1)) (fun _ hk=>hk.2) (.slice Ao19 y437.length co19)) (fun _ hk=>hk.2) (.slice Ao18 y443.length co18)) (fun _ h_=>h_.1))));(case side4=>exact (Kd.N_reads' HO445.out).2.1);(case side5=>exact Kd.C_below HR0.out yhb);(case side6=>exact HC0.out);rintro e w23 ⟨rfl,hb⟩;refine ⟨_,rfl,?_⟩;replace HO433:=yam (Kd.N_below (by (with_reducible repeat (first|apply Kd.N_alloc|apply Kd.N_drewN|apply Kd.N_drew));exact (Kd.N_mono (Kd.N_far (p:=⟨gb446,2,none⟩) (Kd.N_far (p:=⟨gb446,1,none⟩) (Kd.N_far (p:=⟨gb446,0,none⟩) (Kd.N_mono HO433.out (fun k_ hk=>(⟨hk,hk.2⟩:_∧k_≠gb446))) (fun _ hk=>hk.2) (.int .i64 a1)) (fun _ hk=>hk.2) (.slice Ao19 y437.length co19)) (fun _ hk=>hk.2) (.slice Ao18 y443.length co18)) (fun _ h_=>h_.1))) hb);replace HO439:=yam (Kd.R_below (by (with_reducible repeat (first|apply Kd.Ya|apply Kd.Yn|apply Kd.Yd));exact (Kd.R_mono (Kd.R_far (p:=⟨gb446,2,none⟩) (Kd.R_far (p:=⟨gb446,1,none⟩) (Kd.R_far (p:=⟨gb446,0,none⟩) (Kd.R_types HO439.out BK446.out (by decide)) (fun _ hk=>hk.2) (.int .i64 a1)) (fun _ hk=>hk.2) (.slice Ao19 y437.length co19)) (fun _ hk=>hk.2) (.slice Ao18 y443.length co18)) (fun _ h_=>h_.1))) hb);replace HO445:=yam (Kd.N_below (by (with_reducible repeat (first|apply Kd.N_alloc|apply Kd.N_drewN|apply Kd.N_drew));exact (Kd.N_mono (Kd.N_far (p:=⟨gb446,2,none⟩) (Kd.N_far (p:=⟨gb446,1,none⟩) (Kd.N_far (p:=⟨gb446,0,none⟩) (Kd.N_mono HO445.out (fun k_ hk=>(⟨hk,hk.2⟩:_∧k_≠gb446))) (fun _ hk=>hk.2) (.int .i64 a1)) (fun _ hk=>hk.2) (.slice Ao19 y437.length co19)) (fun _ hk=>hk.2) (.slice Ao18 y443.length co18)) (fun _ h_=>h_.1))) hb);replace BK430:=yam (blk_below (g:=gb430) (o:= .cells #[.int .i64 0,.slice none 0 0,.slice none 0 0] 37 (0,0)) (by (with_reducible repeat (first|refine ybn ?_ _|refine ybd ?_|refine yba ?_ _));refine blk_far ?_ NB430_446.out _;(with_reducible repeat (first|refine ybn ?_ _|refine ybd ?_|refine yba ?_ _));refine blk_far ?_ NB430_446.out _;(with_reducible repeat (first|refine ybn ?_ _|refine ybd ?_|refine yba ?_ _));refine blk_far ?_ NB430_446.out _;(with_reducible repeat (first|refine ybn ?_ _|refine ybd ?_|refine yba ?_ _));exact BK430.out) hb);replace BK446:=yam (blk_below (g:=gb446) (o:= .cells #[.int .i64 a1,.slice Ao19 y437.length co19,.slice Ao18 y443.length co18] 37 (0,0)) (by (with_reducible repeat (first|refine ybn ?_ _|refine ybd ?_|refine yba ?_ _));refine blk_put (cs:= #[.int .i64 a1,.slice Ao19 y437.length co19,.slice none 0 0]) ?_ 2 _ rfl;(with_reducible repeat (first|refine ybn ?_ _|refine ybd ?_|refine yba ?_ _));refine blk_put (cs:= #[.int .i64 a1,.slice none 0 0,.slice none 0 0]) ?_ 1 _ rfl;(with_reducible repeat (first|refine ybn ?_ _|refine ybd ?_|refine yba ?_ _));refine blk_put (cs:= #[.int .i64 0,.slice none 0 0,.slice none 0 0]) ?_ 0 _ rfl;(with_reducible repeat (first|refine ybn ?_ _|refine ybd ?_|refine yba ?_ _));exact BK446.out) hb);replace HB:=yam (below_step yhb hb);(try clear hb);(try clear hk);obtain ⟨hcz24_0,hcz24_1,hcz24_2,hfz24_0,hfz24_1,hfz24_2⟩:=ybc BK446.out;obtain ⟨hcz25_0,hcz25_1,hcz25_2,hfz25_0,hfz25_1,hfz25_2⟩:=ybc BK430.out))
 refine bodyPost_ret (results_ct rfl _ _ gb430 37 #[.int .i64 a1,.slice Ao19 y437.length co19,.slice Ao18 y443.length co18] (0,0) _ rfl (by (with_reducible repeat (first|refine ybn ?_ _|refine ybd ?_|refine yba ?_ _));refine blk_put (cs:= #[.int .i64 a1,.slice Ao19 y437.length co19,.slice none 0 0]) ?_ 2 _ rfl;(with_reducible repeat (first|refine ybn ?_ _|refine ybd ?_|refine yba ?_ _));refine blk_put (cs:= #[.int .i64 a1,.slice none 0 0,.slice none 0 0]) ?_ 1 _ rfl;(with_reducible repeat (first|refine ybn ?_ _|refine ybd ?_|refine yba ?_ _));refine blk_put (cs:= #[.int .i64 0,.slice none 0 0,.slice none 0 0]) ?_ 0 _ rfl;(with_reducible repeat (first|refine ybn ?_ _|refine ybd ?_|refine yba ?_ _));exact BK430.out) Try.underlying37 rfl (by kernel_rfl)) rfl ?_
 exact ⟨_,_,yer,by (with_reducible repeat (first|apply Kd.Ya|apply Kd.Yn|apply Kd.Yd));exact Kd.R_mono (Kd.R_far (p:=⟨gb430,2,none⟩) (Kd.R_far (p:=⟨gb430,1,none⟩) (Kd.R_far (p:=⟨gb430,0,none⟩) (Kd.R_types HO439.out BK430.out (by decide)) (fun _ hk=>hk.2) (.int .i64 a1)) (fun _ hk=>hk.2) (.slice Ao19 y437.length co19)) (fun _ hk=>hk.2) (.slice Ao18 y443.length co18)) (fun _ hk=>hk.1),by (with_reducible repeat (first|apply Kd.N_alloc|apply Kd.N_drewN|apply Kd.N_drew));exact Kd.N_mono (Kd.N_far (p:=⟨gb430,2,none⟩) (Kd.N_far (p:=⟨gb430,1,none⟩) (Kd.N_far (p:=⟨gb430,0,none⟩) (Kd.N_mono HO445.out (fun k_ hk=>(⟨hk,hk.1.2.2⟩:_∧k_≠gb430))) (fun _ hk=>hk.2) (.int .i64 a1)) (fun _ hk=>hk.2) (.slice Ao19 y437.length co19)) (fun _ hk=>hk.2) (.slice Ao18 y443.length co18)) (fun _ hk=>⟨hk.1.1.1,hk.1.1.2.1⟩),yhb⟩
def laws_toIntS.l0:Nat→List Int→List Int→Int→Option (List Int)
 | 0,_,_,_=>none
 | k + 1,x0,x3,x4=>if x4 < (x0.length:Int) then (if 0≤x4 then (if x4 < (x3.length:Int) then (laws_toIntS.l0 k x0 (x3.set (x4:Int).toNat (rd x0 x4)) (wrap64 (x4 + 1))) else (none)) else (none)) else (some x3)
def laws_toIntS.f (k:Nat)(l0:List Int):Option (List Int):=if 0≤(l0.length:Int) then (if ((l0.length:Int):Int).toNat≤35184372088832 then (laws_toIntS.l0 k l0 (List.replicate ((l0.length:Int):Int).toNat 0) 0) else (none)) else (none)
theorem laws_toIntS.calls (k:Nat)(A0:Option Addr)(c0:Nat)(l0:List Int)(r:List Int)(w:World)(hr0:Kd.C (Kd.int .i64) w A0 l0.length l0)(hc0:l0.length≤c0)(h:laws_toIntS.f k l0=some r) :
  Calls Try.prog 22 #[.slice A0 l0.length c0] w fun e w'=>∃ v0_:Value,e= .returned (v0_)∧Kd.R (Kd.int .i64) 3 w' w.heap.size (fun _=>True) v0_ r∧Below w.heap.size w w':=by
 have HR0:=yam hr0
 have HC0:=yam hc0
 clear hr0 hc0
 have HB:=yam (Below.refl w.heap.size w)
 unfold laws_toIntS.f at h
 have H:=h
 clear h
 replace H:=yit H;obtain ⟨c2,H⟩ | ⟨c2,H⟩:=H
 rotate_left
 ·exact absurd H (by simp)
 have c2b0:=eq_true c2
 have c2b1:decide (0≤(l0.length:Int))=true:=decide_eq_true c2
 clear c2
 replace H:=yig H;obtain ⟨c3,H⟩:=H
 have c3b0:=eq_true c3
 have c3b1:decide (((l0.length:Int):Int).toNat≤35184372088832)=true:=decide_eq_true c3
 clear c3
 obtain ⟨y448,Ny448⟩:∃ y_:List Int,Aside0 (y_=(List.replicate ((l0.length:Int):Int).toNat 0)):=⟨_,⟨rfl⟩⟩
 replace H:(laws_toIntS.l0 k l0 y448 0)=some r:=yhn Ny448.out H
 replace H:=yam H
 go_enter Try.func22,Try.ntmps22
 go_wp2_with (first|((with_reducible refine gate_dst (N:=7) rfl ?_);refine Kd.R_make (Kd.int .i64) _ 3 rfl (N:=7) rfl 22 _ _ rfl (l0.length:Int) rfl rfl Try.underlying22 (.int .i64 0) 8 info3 rfl (by decide) (by omega) 0 (ok:=fun _=>True) (okp:=fun _=>True) rfl (fun _ hk=>hk) trivial (ydt) (Nat.le_trans (Nat.mul_le_mul_right _ (ydt:(l0.length:Int).toNat≤35184372088832)) (by omega)) (Below.refl _ _) (Nat.le_refl _) ?_;intro v449 w4 ho5 hb hg_ hnew_;clear hg_ hnew_;(first|rw [← Ny448.out] at ho5|(simp only [Int.reduceToNat] at ho5;rw [← Ny448.out] at ho5));have HO450:=yam (Kd.R_lower ho5 (below_size (yez HB.out)));replace HB:=yam (below_step (yez HB.out) hb);clear hb ho5))
 go_loopg [4] k (fun kq v4 w'=>∃ (x3_1:List Int) (x4_1:Int),v4= .int .i64 x4_1∧Aside0 (laws_toIntS.l0 kq l0 x3_1 x4_1=some r)∧Aside0 (kq≤k)∧Aside0 (Kd.R (Kd.int .i64) 3 w' w.heap.size (fun _=>True) v449 x3_1)∧Aside0 (Below w.heap.size w w'))
 case atStart=>exact ⟨(y448),(0),yeq,H,⟨Nat.le_refl _⟩,⟨yka HO450.out⟩,⟨yhb⟩⟩
 case round =>
  clear H
  try clear c2b0
  try clear c2b1
  try clear c3b0
  try clear c3b1
  obtain ⟨x3_1,x4_1,rfl,HA,HK1,HO_3,HB⟩:=hrel
  rcases gk with _|k1
  ·exact absurd HA.out (by simp [laws_toIntS.l0])
  obtain ⟨H⟩:=HA
  simp only [laws_toIntS.l0] at H
  replace H:=yis H;obtain ⟨c6b0,H⟩ | ⟨c6b0,H⟩:=H
  rotate_left
  ·obtain rfl:=ysi H
   go_wp2
   go_ret
   exact ⟨_,yer,yka HO_3.out,yhb⟩
  replace H:=yif H;obtain ⟨c7b0,H⟩:=H
  replace H:=yif H;obtain ⟨c8b0,H⟩:=H
  obtain ⟨y452,Ny452⟩:∃ y_:List Int,Aside0 (y_=(x3_1.set (x4_1:Int).toNat (rd l0 x4_1))):=⟨_,⟨rfl⟩⟩
  replace H:(laws_toIntS.l0 k1 l0 y452 (wrap64 (x4_1 + 1)))=some r:=yhn Ny452.out H
  replace H:=yam H
  obtain ⟨ad451,e451,hx451_0,p451,q451⟩:=yat HR0.out x4_1
  cases e451
  replace hx451_0:=ybx HB.out hx451_0
  have p9:0≤(x4_1:Int):=ydt
  have q9:(x4_1:Int) < ((x3_1.length:Int):Int):=ydt
  obtain ⟨go9,co9,eo9,gb9,gl9,cl9,HG9⟩:=Kd.R_form HO_3.out (by omega)
  (first|cases eo9|(injection eo9 with ea_ en_ ec_;(first|subst ea_|(injection ea_ with ea_;subst ea_));subst ec_;clear en_))
  have GB9:=yam gb9
  have GG9:=yam HG9
  clear gb9 gl9 HG9
  obtain ⟨hx9_0,hf9_0⟩:=Kd.R_celln 0 HO_3.out (x4_1:Int) p9 q9
  replace p9:=eq_true p9
  replace q9:=eq_true q9
  have HP10:=Kd.R_putg HO_3.out (x4_1:Int) (rd l0 x4_1)
  go_wp2_with (first|((with_reducible refine gate_store (t:=3) (p:=20) rfl ?_);refine store_event (t:=3) (p:=20) (v:=?vo_w11) (w1:=(wr.setCell ⟨go9,(x4_1:Int).toNat,none⟩ (.int .i64 (rd l0 x4_1)))) ?hg ?ho ?hn ?hr ?_;(case ho=>rfl);(case hg=>rfl);(case hn=>rfl);(case hr=>first|(go_simp;done)|(go_simp;rfl));intro w11 hw;have hg:wr.grownBy w11 (some go9):=(by rw [hw];exact HP10.2);have hp_:Kd.R (Kd.int .i64) 3 w11 w.heap.size (fun _=>True) (.slice (some ⟨go9,0,none⟩) x3_1.length co9) y452:=(by rw [hw,Ny452.out];exact HP10.1);clear HP10;replace HO_3:=yam (hp_);replace HB:=yam ((by rw [hw];exact below_set (HB.out) GB9.out:Below w.heap.size w w11));clear hg hw hp_))
  go_roundg k1
  case measure=>have:=HK1.out;omega
  case rel=>exact ⟨(y452),(wrap64 (x4_1 + 1)),yeq,H,⟨by have:=HK1.out;omega⟩,⟨yka HO_3.out⟩,⟨yhb⟩⟩
def laws_toRule.f (k:Nat)(a0_0:Int)(l0_1:List Int)(a0_2:Int):Option (Int × List Int × Int):=(laws_toIntS.f k l0_1).bind fun t456=>(some (a0_0,t456,a0_2))
theorem laws_toRule.calls (k:Nat)(a0_0:Int)(A0_1:Option Addr)(c0_1:Nat)(l0_1:List Int)(a0_2:Int)(r1:Int)(r2:List Int)(r3:Int)(w:World)(hr0_1:Kd.C (Kd.int .i64) w A0_1 l0_1.length l0_1)(hc0_1:l0_1.length≤c0_1)(h:laws_toRule.f k a0_0 l0_1 a0_2=some (r1,r2,r3)) :
  Calls Try.prog 56 #[.agg #[.int .i64 a0_0,.slice A0_1 l0_1.length c0_1,.int .i64 a0_2]] w fun e w'=>∃ v1_:Value,e= .returned (.agg #[.int .i64 r1,v1_,.int .i64 r3])∧Kd.R (Kd.int .i64) 3 w' w.heap.size (fun _=>True) v1_ r2∧Below w.heap.size w w':=by
 have hu70:=Try.underlying70
 have hu73:=Try.underlying73
 have HR0_1:=yam hr0_1
 have HC0_1:=yam hc0_1
 clear hr0_1 hc0_1
 have HB:=yam (Below.refl w.heap.size w)
 unfold laws_toRule.f at h
 have H:=h
 clear h
 replace H:=ybi H;obtain ⟨t456,A2,H⟩:=H
 replace H:(some (a0_0,t456,a0_2))=some (r1,r2,r3):=H
 simp only [Option.some.injEq,Prod.mk.injEq] at H
 obtain ⟨rfl,rfl,rfl⟩:=H
 go_enter Try.func56,Try.ntmps56
 go_wp2_with (first|(refine ybe 1 #[.int .i64 a0_0,.slice A0_1 l0_1.length c0_1,.int .i64 a0_2] 70 ?_;intro gb453 hg w3 hbox hb;have BK453:=yam (hbox);have GW453:=yam ((by rw [hg];exact (below_size (yez HB.out)):w.heap.size≤gb453));replace HB:=yam (below_step (yez HB.out) hb);have GE453:=GW453;clear hb hbox hg)|(refine ybe 2 #[.int .i64 0,.slice none 0 0,.int .i64 0] 73 ?_;intro gb454 hg w4 hbox hb;have BK454:=yam (hbox);have GW454:=yam ((by rw [hg];exact (below_size yhb):w.heap.size≤gb454));replace HB:=yam (below_step yhb hb);have GE454:=GW454;have NB453_454:=yam ((by rw [hg];exact Nat.ne_of_lt (blk_lt (g:=gb453) (o:= .cells #[.int .i64 a0_0,.slice A0_1 l0_1.length c0_1,.int .i64 a0_2] 70 (0,0)) (ybz BK453.out)):gb453≠gb454));have NB454_453:=yam ((by rw [hg];exact Nat.ne_of_gt (blk_lt (g:=gb453) (o:= .cells #[.int .i64 a0_0,.slice A0_1 l0_1.length c0_1,.int .i64 a0_2] 70 (0,0)) (ybz BK453.out)):gb454≠gb453));replace BK453:=yam (ybb BK453.out hb);clear hb hbox hg)|(refine ybe 3 #[.int .i64 0,.slice none 0 0,.int .i64 0] 73 ?_;intro gb455 hg w5 hbox hb;have BK455:=yam (hbox);have GW455:=yam ((by rw [hg];exact (below_size yhb):w.heap.size≤gb455));replace HB:=yam (below_step yhb hb);have GE455:=GW455;have NB453_455:=yam ((by rw [hg];exact Nat.ne_of_lt (blk_lt (g:=gb453) (o:= .cells #[.int .i64 a0_0,.slice A0_1 l0_1.length c0_1,.int .i64 a0_2] 70 (0,0)) (ybz BK453.out)):gb453≠gb455));have NB455_453:=yam ((by rw [hg];exact Nat.ne_of_gt (blk_lt (g:=gb453) (o:= .cells #[.int .i64 a0_0,.slice A0_1 l0_1.length c0_1,.int .i64 a0_2] 70 (0,0)) (ybz BK453.out)):gb455≠gb453));replace BK453:=yam (ybb BK453.out hb);have NB454_455:=yam ((by rw [hg];exact Nat.ne_of_lt (blk_lt (g:=gb454) (o:= .cells #[.int .i64 0,.slice none 0 0,.int .i64 0] 73 (0,0)) (ybz BK454.out)):gb454≠gb455));have NB455_454:=yam ((by rw [hg];exact Nat.ne_of_gt (blk_lt (g:=gb454) (o:= .cells #[.int .i64 0,.slice none 0 0,.int .i64 0] 73 (0,0)) (ybz BK454.out)):gb455≠gb454));replace BK454:=yam (ybb BK454.out hb);clear hb hbox hg;have hnb6:=NB453_454.out;have hnc6:=NB454_453.out;have hnb7:=NB453_455.out;have hnc7:=NB455_453.out;obtain ⟨hcz8_0,hcz8_1,hcz8_2,hfz8_0,hfz8_1,hfz8_2⟩:=ybc BK453.out;have hnb9:=NB455_454.out;have hnc9:=NB454_455.out;obtain ⟨hcz10_0,hcz10_1,hcz10_2,hfz10_0,hfz10_1,hfz10_2⟩:=ybc BK455.out)|(refine goesL_ (some 9) rfl rfl Try.func22 (by kernel_rfl) rfl #[.slice A0_1 l0_1.length c0_1] rfl ymd ?_;(with_reducible refine (laws_toIntS.calls k _ _ l0_1 t456 _ ?_ ?_ A2.out).mono ?_);exact Kd.C_below HR0_1.out yhb;exact HC0_1.out;rintro e w11 ⟨v457,rfl,ho0,hb⟩;refine ⟨_,rfl,?_⟩;have HO458:=yam (Kd.R_lower ho0 (below_size yhb));replace BK453:=yam (blk_below (g:=gb453) (o:= .cells #[.int .i64 a0_0,.slice A0_1 l0_1.length c0_1,.int .i64 a0_2] 70 (0,0)) (by (with_reducible repeat (first|refine ybn ?_ _|refine ybd ?_|refine yba ?_ _));refine blk_far ?_ NB453_455.out _;(with_reducible repeat (first|refine ybn ?_ _|refine ybd ?_|refine yba ?_ _));exact BK453.out) hb);replace BK454:=yam (blk_below (g:=gb454) (o:= .cells #[.int .i64 0,.slice none 0 0,.int .i64 0] 73 (0,0)) (by (with_reducible repeat (first|refine ybn ?_ _|refine ybd ?_|refine yba ?_ _));refine blk_far ?_ NB454_455.out _;(with_reducible repeat (first|refine ybn ?_ _|refine ybd ?_|refine yba ?_ _));exact BK454.out) hb);replace BK455:=yam (blk_below (g:=gb455) (o:= .cells #[.int .i64 a0_0,.slice none 0 0,.int .i64 0] 73 (0,0)) (by (with_reducible repeat (first|refine ybn ?_ _|refine ybd ?_|refine yba ?_ _));refine blk_put (cs:= #[.int .i64 0,.slice none 0 0,.int .i64 0]) ?_ 0 _ rfl;(with_reducible repeat (first|refine ybn ?_ _|refine ybd ?_|refine yba ?_ _));exact BK455.out) hb);replace HB:=yam (below_step yhb hb);(try clear hb);(try clear ho0);obtain ⟨Ao12,co12,eo12⟩:=Kd.R_slice HO458.out;subst eo12;obtain ⟨hcz13_0,hcz13_1,hcz13_2,hfz13_0,hfz13_1,hfz13_2⟩:=ybc BK455.out;obtain ⟨hcz14_0,hcz14_1,hcz14_2,hfz14_0,hfz14_1,hfz14_2⟩:=ybc BK453.out;obtain ⟨hcz15_0,hcz15_1,hcz15_2,hfz15_0,hfz15_1,hfz15_2⟩:=ybc BK454.out))
 refine bodyPost_ret (results_cell_row rfl _ _ gb454 73 #[.int .i64 a0_0,.slice Ao12 t456.length co12,.int .i64 a0_2] (0,0) _ rfl (by (with_reducible repeat (first|refine ybn ?_ _|refine ybd ?_|refine yba ?_ _));refine blk_put (cs:= #[.int .i64 a0_0,.slice Ao12 t456.length co12,.int .i64 0]) ?_ 2 _ rfl;(with_reducible repeat (first|refine ybn ?_ _|refine ybd ?_|refine yba ?_ _));refine blk_put (cs:= #[.int .i64 a0_0,.slice none 0 0,.int .i64 0]) ?_ 1 _ rfl;(with_reducible repeat (first|refine ybn ?_ _|refine ybd ?_|refine yba ?_ _));refine blk_put (cs:= #[.int .i64 0,.slice none 0 0,.int .i64 0]) ?_ 0 _ rfl;(with_reducible repeat (first|refine ybn ?_ _|refine ybd ?_|refine yba ?_ _));refine blk_far ?_ NB454_455.out _;(with_reducible repeat (first|refine ybn ?_ _|refine ybd ?_|refine yba ?_ _));refine blk_far ?_ NB454_455.out _;(with_reducible repeat (first|refine ybn ?_ _|refine ybd ?_|refine yba ?_ _));exact BK454.out) Try.underlying73 rfl (by kernel_rfl)) rfl ?_
 exact ⟨_,yer,by (with_reducible repeat (first|apply Kd.Ya|apply Kd.Yn|apply Kd.Yd));exact Kd.R_mono (Kd.R_far (p:=⟨gb454,2,none⟩) (Kd.R_far (p:=⟨gb454,1,none⟩) (Kd.R_far (p:=⟨gb454,0,none⟩) (Kd.R_far (p:=⟨gb455,2,none⟩) (Kd.R_far (p:=⟨gb455,1,none⟩) (Kd.R_types (Kd.R_types HO458.out BK455.out (by decide)) BK454.out (by decide)) (fun _ hk=>hk.1.2) (.slice Ao12 t456.length co12)) (fun _ hk=>hk.1.2) (.int .i64 a0_2)) (fun _ hk=>hk.2) (.int .i64 a0_0)) (fun _ hk=>hk.2) (.slice Ao12 t456.length co12)) (fun _ hk=>hk.2) (.int .i64 a0_2)) (fun _ hk=>trivial),yhb⟩
def laws_toRuleS.l0:Nat→List (S70)→List (S73)→Int→Option ((List (S73)))
 | 0,_,_,_=>none
 | k + 1,x0,x3,x4=>if x4 < (x0.length:Int) then (if 0≤x4 then ((laws_toRule.f k ((rd_T70 x0 x4).f0) ((rd_T70 x0 x4).f1) ((rd_T70 x0 x4).f2)).bind fun bt463=>(if x4 < (x3.length:Int) then (laws_toRuleS.l0 k x0 (x3.set (x4:Int).toNat (⟨bt463.1,bt463.2.1,bt463.2.2⟩:S73)) (wrap64 (x4 + 1))) else (none))) else (none)) else (some x3)
def laws_toRuleS.f (k:Nat)(l0:List (S70)):Option ((List (S73))):=if 0≤(l0.length:Int) then (if ((l0.length:Int):Int).toNat≤7036874417766 then (laws_toRuleS.l0 k l0 (List.replicate ((l0.length:Int):Int).toNat z73) 0) else (none)) else (none)
theorem laws_toRuleS.calls (k:Nat)(A0:Option Addr)(c0:Nat)(l0:List (S70))(r:List (S73))(w:World)(hr0:Kd.C k70 w A0 l0.length l0)(hc0:l0.length≤c0)(h:laws_toRuleS.f k l0=some r) :
  Calls Try.prog 23 #[.slice A0 l0.length c0] w fun e w'=>∃ v0_:Value,e= .returned (v0_)∧Kd.S k73 73 w' w.heap.size (fun _=>True) v0_ r∧Below w.heap.size w w':=by
 have hu70:=Try.underlying70
 have hu73:=Try.underlying73
 have HR0:=yam hr0
 have HC0:=yam hc0
 clear hr0 hc0
 have HB:=yam (Below.refl w.heap.size w)
 unfold laws_toRuleS.f at h
 have H:=h
 clear h
 replace H:=yit H;obtain ⟨c2,H⟩ | ⟨c2,H⟩:=H
 rotate_left
 ·exact absurd H (by simp)
 have c2b0:=eq_true c2
 have c2b1:decide (0≤(l0.length:Int))=true:=decide_eq_true c2
 clear c2
 replace H:=yig H;obtain ⟨c3,H⟩:=H
 have c3b0:=eq_true c3
 have c3b1:decide (((l0.length:Int):Int).toNat≤7036874417766)=true:=decide_eq_true c3
 clear c3
 obtain ⟨y459,Ny459⟩:∃ y_:List (S73),Aside0 (y_=(List.replicate ((l0.length:Int):Int).toNat z73)):=⟨_,⟨rfl⟩⟩
 replace H:(laws_toRuleS.l0 k l0 y459 0)=some r:=yhn Ny459.out H
 replace H:=yam H
 go_enter Try.func23,Try.ntmps23
 go_wp2_with (first|((with_reducible refine gate_dst (N:=7) rfl ?_);refine Kd.S_make k73 _ 73 rfl (N:=7) rfl 35 _ _ rfl (l0.length:Int) rfl rfl Try.underlying35 (.agg #[(.int .i64 0),(.slice none 0 0),(.int .i64 0)]) 40 info73 rfl (by decide) (by omega) z73 (ok:=fun _=>True) (okp:=fun _=>True) (k73_mkM _ _ _ z73 (Kd.R_nil _ _ _ _ _)) (fun _ hk=>hk) trivial (ydt) (Nat.le_trans (Nat.mul_le_mul_right _ (ydt:(l0.length:Int).toNat≤7036874417766)) (by omega)) (Below.refl _ _) (Nat.le_refl _) ?_;intro v460 w4 ho5 hb hg_ hnew_;clear hg_ hnew_;(first|rw [← Ny459.out] at ho5|(simp only [Int.reduceToNat] at ho5;rw [← Ny459.out] at ho5));have HO461:=yam (Kd.S_lower ho5 (below_size (yez HB.out)));replace HB:=yam (below_step (yez HB.out) hb);clear hb ho5))
 go_loopg [4] k (fun kq v4 w'=>∃ (x3_1:List (S73)) (x4_1:Int),v4= .int .i64 x4_1∧Aside0 (laws_toRuleS.l0 kq l0 x3_1 x4_1=some r)∧Aside0 (kq≤k)∧Aside0 (Kd.S k73 73 w' w.heap.size (fun _=>True) v460 x3_1)∧Aside0 (Below w.heap.size w w'))
 case atStart=>exact ⟨(y459),(0),yeq,H,⟨Nat.le_refl _⟩,⟨by (with_reducible repeat (first|apply Kd.S_alloc|apply Kd.S_drewN|apply Kd.S_drew));exact HO461.out⟩,⟨yhb⟩⟩
 case round =>
  clear H
  try clear c2b0
  try clear c2b1
  try clear c3b0
  try clear c3b1
  obtain ⟨x3_1,x4_1,rfl,HA,HK1,HO_3,HB⟩:=hrel
  rcases gk with _|k1
  ·exact absurd HA.out (by simp [laws_toRuleS.l0])
  obtain ⟨H⟩:=HA
  simp only [laws_toRuleS.l0] at H
  replace H:=yis H;obtain ⟨c6b0,H⟩ | ⟨c6b0,H⟩:=H
  rotate_left
  ·obtain rfl:=ysi H
   go_wp2
   go_ret
   exact ⟨_,yer,by (with_reducible repeat (first|apply Kd.S_alloc|apply Kd.S_drewN|apply Kd.S_drew));exact HO_3.out,yhb⟩
  replace H:=yif H;obtain ⟨c7b0,H⟩:=H
  replace H:=ybi H;obtain ⟨⟨t463,t464,t467⟩,A8,H⟩:=H
  try dsimp only at H
  replace H:=yif H;obtain ⟨c9b0,H⟩:=H
  obtain ⟨y468,Ny468⟩:∃ y_:List (S73),Aside0 (y_=(x3_1.set (x4_1:Int).toNat (⟨t463,t464,t467⟩:S73))):=⟨_,⟨rfl⟩⟩
  replace H:(laws_toRuleS.l0 k1 l0 y468 (wrap64 (x4_1 + 1)))=some r:=yhn Ny468.out H
  replace H:=yam H
  have p462:0≤(x4_1:Int):=ydt
  have q462:x4_1 < (l0.length:Int):=ydt
  obtain ⟨ad462,A462_1,c462_1,e462,hx462_0,hx462_1,hx462_2,hl462_1,hi462_1⟩:=at_T70 HR0.out x4_1 p462 q462
  cases e462
  replace hx462_0:=ybx HB.out hx462_0
  replace hx462_1:=ybx HB.out hx462_1
  replace hx462_2:=ybx HB.out hx462_2
  have HR462_1:=yam hi462_1
  have HC462_1:=yam hl462_1
  clear hi462_1 hl462_1
  replace p462:=eq_true p462
  replace q462:=eq_true q462
  go_wp2_with (first|(refine goesL_ (some 20) rfl rfl Try.func56 (by kernel_rfl) rfl #[.agg #[.int .i64 ((rd_T70 l0 x4_1).f0),.slice A462_1 ((rd_T70 l0 x4_1).f1).length c462_1,.int .i64 ((rd_T70 l0 x4_1).f2)]] rfl ymd ?_;(with_reducible refine (laws_toRule.calls k1 ((rd_T70 l0 x4_1).f0) _ _ ((rd_T70 l0 x4_1).f1) ((rd_T70 l0 x4_1).f2) t463 t464 t467 _ ?_ ?_ A8.out).mono ?_);exact Kd.Cz ((Kd.C_below HR462_1.out HB.out));exact HC462_1.out;rintro e w11 ⟨v465,rfl,ho0,hb⟩;obtain ⟨Aq_v465,cq_v465,eq_v465⟩:=Kd.R_slice ho0;subst eq_v465;refine ⟨_,rfl,?_⟩;replace HO_3:=yam (Kd.S_elder' (by (with_reducible repeat (first|apply Kd.S_alloc|apply Kd.S_drewN|apply Kd.S_drew));exact HO_3.out) (Kd.Yb ho0) hb);have HO466:=yam (Kd.R_lower ho0 (below_size (yez HB.out)));replace HB:=yam (below_step (yez HB.out) hb);(try clear hb);(try clear ho0);have p10:0≤(x4_1:Int):=ydt;have q10:(x4_1:Int) < ((x3_1.length:Int):Int):=ydt;obtain ⟨go10,co10,eo10,gb10,gl10,cl10,HG10⟩:=Kd.S_form HO_3.out (by omega);(first|cases eo10|(injection eo10 with ea_ en_ ec_;(first|subst ea_|(injection ea_ with ea_;subst ea_));subst ec_;clear en_));have GB10:=yam gb10;have GG10:=yam HG10;clear gb10 gl10 HG10;obtain ⟨_,ce10,hcl10,hM10,hcc10,hfr10,_,_⟩:=Kd.S_elem HO_3.out z73 (x4_1:Int) p10 q10;obtain ⟨ve10_1,rfl,ge10_1⟩:=k73_openM hM10;have hx10_0:w11.cell? ⟨go10,(x4_1:Int).toNat * 3,none⟩=some (.int .i64 ((rd_T73 x3_1 x4_1).f0)):=hcc10 0 _ rfl;have hx10_1:w11.cell? ⟨go10,(x4_1:Int).toNat * 3 + 1,none⟩=some (ve10_1):=hcc10 1 _ rfl;have hx10_2:w11.cell? ⟨go10,(x4_1:Int).toNat * 3 + 2,none⟩=some (.int .i64 ((rd_T73 x3_1 x4_1).f2)):=hcc10 2 _ rfl;have hf10_0:w11.frozen? ⟨go10,(x4_1:Int).toNat * 3,none⟩=false:=hfr10 0;have hf10_1:w11.frozen? ⟨go10,(x4_1:Int).toNat * 3 + 1,none⟩=false:=hfr10 1;have hf10_2:w11.frozen? ⟨go10,(x4_1:Int).toNat * 3 + 2,none⟩=false:=hfr10 2;clear hcl10 hcc10 hfr10 hM10;replace p10:=eq_true p10;replace q10:=eq_true q10;have n_:=yam (Kd.S_mono (ok':=(fun k_=>some k_≠((.slice Aq_v465 (t464).length cq_v465):Value).ownBlock)) HO_3.out (fun k_ hk=>hk.2));clear HO_3;have HO_3:=n_;clear n_;have HX12:=yam (show Kd.S k73 73 w11 w.heap.size (fun k_=>((fun _=>True)) k_∧¬ ((fun k_=>some k_=((.slice Aq_v465 (t464).length cq_v465):Value).ownBlock)) k_) (.slice (some ⟨go10,0,none⟩) x3_1.length co10) x3_1 from (by (with_reducible repeat (first|apply Kd.S_alloc|apply Kd.S_drewN|apply Kd.S_drew));exact Kd.S_mono HO_3.out (fun k_ hk=>⟨trivial,fun e_=>hk e_⟩)));obtain ⟨oki12,ce12,hcl12,hM12,hcc12,hfr12,hoki12,hH12⟩:=Kd.S_elem HX12.out z73 (x4_1:Int) (ydt) (by have h_:(x4_1:Int) < ((x3_1.length:Int):Int):=ydt;first|exact h_|(have e_:=(Kd.S_reads' HO_3.out).1;omega)|simpa using h_);obtain ⟨ve12_1,rfl,ge12_1⟩:=k73_openM hM12;have HP12:=Kd.S_seg hH12 (ydt) (by have h_:(x4_1:Int) < ((x3_1.length:Int):Int):=ydt;first|exact h_|(have e_:=(Kd.S_reads' HO_3.out).1;omega)|simpa using h_) (seg:=[.int .i64 t463,(.slice Aq_v465 (t464).length cq_v465),.int .i64 t467]) (j:=0) (show 3≤3 from by decide) (x':=(⟨t463,t464,t467⟩:S73)) (k73_mkM _ _ _ (⟨t463,t464,t467⟩:S73) (Kd.R_mono (Kd.R_tight rfl (Kd.R_mono (ok':=fun k_=>((fun _=>True)) k_∧k_≠go10) (Kd.R_apart' (HO466.out) (Kd.S_typed HO_3.out) (by decide)) (fun k_ hk=>⟨trivial,fun e_=>(hk.2) (by rw [e_];rfl)⟩))) (fun _ h_=>Or.inr (h_)))) (fun _ hk=>hk) (fun k_ hk_=>((Kd.R_mono (ok':=fun k_=>((fun _=>True)) k_∧k_≠go10) (Kd.R_apart' (HO466.out) (Kd.S_typed HO_3.out) (by decide)) (fun k_ hk=>⟨trivial,fun e_=>(hk.2) (by rw [e_];rfl)⟩))).1 k_ hk_.symm);have hx12_0:=hcc12 0 _ rfl;(try simp only [show (k73).sz=3 from rfl,Nat.mul_one,Nat.add_zero] at hx12_0);have hf12_0:=hfr12 0;(try simp only [show (k73).sz=3 from rfl,Nat.mul_one,Nat.add_zero] at hf12_0);have hx12_1:=hcc12 1 _ rfl;(try simp only [show (k73).sz=3 from rfl,Nat.mul_one,Nat.add_zero] at hx12_1);have hf12_1:=hfr12 1;(try simp only [show (k73).sz=3 from rfl,Nat.mul_one,Nat.add_zero] at hf12_1);have hx12_2:=hcc12 2 _ rfl;(try simp only [show (k73).sz=3 from rfl,Nat.mul_one,Nat.add_zero] at hx12_2);have hf12_2:=hfr12 2;(try simp only [show (k73).sz=3 from rfl,Nat.mul_one,Nat.add_zero] at hf12_2);clear hcl12 hcc12 hfr12 hM12 hoki12 hH12)|((with_reducible refine gate_store (t:=73) (p:=21) rfl ?_);refine store_event (t:=73) (p:=21) (v:=?vo_w13) (w1:=(((w11.setCell ⟨go10,(x4_1:Int).toNat * 3,none⟩ (.int .i64 t463)).setCell ⟨go10,(x4_1:Int).toNat * 3 + 1,none⟩ ((.slice Aq_v465 (t464).length cq_v465))).setCell ⟨go10,(x4_1:Int).toNat * 3 + 2,none⟩ (.int .i64 t467))) ?hg ?ho ?hn ?hr ?_;(case ho=>rfl);(case hg=>rfl);(case hn=>rfl);(case hr=>first|(go_simp;done)|(go_simp;rfl));intro w13 hw;have hg:w11.grownBy w13 (some go10):=(by rw [hw];exact HP12.2);have hp_:Kd.S k73 73 w13 w.heap.size (fun _=>True) (.slice (some ⟨go10,0,none⟩) x3_1.length co10) y468:=(by rw [hw,Ny468.out];exact HP12.1);clear HP12;replace HO_3:=yam (hp_);replace HB:=yam ((by rw [hw];exact below_set (below_set (below_set (HB.out) GB10.out) GB10.out) GB10.out:Below w.heap.size w w13));clear HO466;clear hg hw hp_))
  go_roundg k1
  case measure=>have:=HK1.out;omega
  case rel=>exact ⟨(y468),(wrap64 (x4_1 + 1)),yeq,H,⟨by have:=HK1.out;omega⟩,⟨by (with_reducible repeat (first|apply Kd.S_alloc|apply Kd.S_drewN|apply Kd.S_drew));exact HO_3.out⟩,⟨yhb⟩⟩
def impl_sizeOk.f (a0:Int):Option (Bool):=if a0 ≥ 2 then (some (decide (a0≤4))) else (some false)
theorem impl_sizeOk.calls (a0:Int)(r:Bool)(w:World)(h:impl_sizeOk.f a0=some r) :
  Calls Try.prog 44 #[.int .i64 a0] w fun e w'=>e= .returned (.bool r)∧Drawn0 w w':=by
 unfold impl_sizeOk.f at h
 have H:=h
 clear h
 replace H:=yis H;obtain ⟨c2b0,H⟩ | ⟨c2b0,H⟩:=H
 ·obtain rfl:=ysi H
  go_enter Try.func44,Try.ntmps44
  go_wp2
  go_ret
  exact ⟨yeq,by repeat (first|exact Drawn0.refl _|apply Drawn0.step)⟩
 obtain rfl:=ysi H
 go_enter Try.func44,Try.ntmps44
 go_wp2
 go_ret
 exact ⟨yeq,by repeat (first|exact Drawn0.refl _|apply Drawn0.step)⟩
mutual
def impl_GridValid.j0:Nat→List Int→Int→Bool→Option (Bool)
 | 0,_,_,_=>none
 | k + 1,x0,x1,x17=>if x17=true then (some false) else (impl_GridValid.l0 k x1 x0 (x0.length:Int) 0)
def impl_GridValid.l0:Nat→Int→List Int→Int→Int→Option (Bool)
 | 0,_,_,_,_=>none
 | k + 1,x1,x18,x19,x20=>if x20 < x19 then (if 0≤x20 then (if x20 < (x18.length:Int) then (if (rd x18 x20) < 0 then (some false) else (if (rd x18 x20) > x1 then (some false) else (impl_GridValid.l0 k x1 x18 x19 (wrap64 (x20 + 1))))) else (none)) else (none)) else (some true)
end
def impl_GridValid.f (k:Nat)(l0:List Int)(a1:Int):Option (Bool):=(impl_sizeOk.f a1).bind fun t129=>(if t129=true then (impl_GridValid.j0 k l0 a1 ((l0.length:Int) != (wrap64 (a1 * a1)))) else (impl_GridValid.j0 k l0 a1 true))
theorem impl_GridValid.calls (k:Nat)(A0:Option Addr)(c0:Nat)(l0:List Int)(a1:Int)(r:Bool)(w:World)(hr0:Kd.C (Kd.int .i64) w A0 l0.length l0)(hc0:l0.length≤c0)(h:impl_GridValid.f k l0 a1=some r) :
  Calls Try.prog 76 #[.slice A0 l0.length c0,.int .i64 a1] w fun e w'=>e= .returned (.bool r)∧Drawn0 w w':=by
 have HR0:=yam hr0
 have HC0:=yam hc0
 clear hr0 hc0
 unfold impl_GridValid.f at h
 have H:=h
 clear h
 have HC3:=yam H
 clear H
 go_enter Try.func76,Try.ntmps76
 go_upto_region 1 with (fail)
 go_cut [17] (fun v17 wc=>∃ (kq:Nat) (x17_2:Bool),v17= .bool x17_2∧Aside0 (impl_GridValid.j0 kq l0 a1 x17_2=some r)∧Aside0 (kq≤k)∧Drawn0 w wc)
 case first =>
  have H:=HC3.out
  clear HC3
  replace H:=ybi H;obtain ⟨t129,A4,H⟩:=H
  try dsimp only at H
  cases t129
  rotate_left
  ·replace H:=ytt H
   replace H:=yam H
   go_wp2_with (first|(refine goesL_ (some 8) rfl rfl Try.func44 (by kernel_rfl) rfl #[.int .i64 a1] rfl ymd ?_;(with_reducible refine (impl_sizeOk.calls a1 true _ A4.out).mono ?_);rintro e w' ⟨rfl,⟨nd,rfl⟩⟩;refine ⟨_,rfl,?_⟩))
   go_meet
   case rel=>exact ⟨_,(((l0.length:Int) != (wrap64 (a1 * a1)))),yeq,H,⟨by first|omega|exact Nat.le_refl _⟩,by repeat (first|exact Drawn0.refl _|apply Drawn0.step)⟩
  replace H:=yff H
  replace H:=yam H
  go_wp2_with (first|(refine goesL_ (some 8) rfl rfl Try.func44 (by kernel_rfl) rfl #[.int .i64 a1] rfl ymd ?_;(with_reducible refine (impl_sizeOk.calls a1 false _ A4.out).mono ?_);rintro e w' ⟨rfl,⟨nd,rfl⟩⟩;refine ⟨_,rfl,?_⟩))
  go_meet
  case rel=>exact ⟨_,(true),yeq,H,⟨by first|omega|exact Nat.le_refl _⟩,by repeat (first|exact Drawn0.refl _|apply Drawn0.step)⟩
 case rest =>
  clear HC3
  obtain ⟨kq,x17_2,rfl,HA,HJ2,⟨mc2,rfl⟩⟩:=hcut
  rcases kq with _|kj2
  ·exact absurd HA.out (by simp [impl_GridValid.j0])
  obtain ⟨H⟩:=HA
  simp only [impl_GridValid.j0] at H
  cases x17_2
  rotate_left
  ·replace H:=ytt H
   obtain rfl:=ysi H
   go_wp2
   go_ret
   exact ⟨yeq,by repeat (first|exact Drawn0.refl _|apply Drawn0.step)⟩
  replace H:=yff H
  replace H:=yam H
  go_wp2
  go_loopg [20] kj2 (fun kq v20 w'=>∃ (x20_2:Int),v20= .int .i64 x20_2∧Aside0 (impl_GridValid.l0 kq a1 l0 (l0.length:Int) x20_2=some r)∧Aside0 (kq≤kj2)∧Drawn0 w w')
  case atStart=>exact ⟨(0),yeq,H,⟨Nat.le_refl _⟩,by repeat (first|exact Drawn0.refl _|apply Drawn0.step)⟩
  case round =>
   clear H
   obtain ⟨x20_2,rfl,HA,HK2,⟨m2,rfl⟩⟩:=hrel
   rcases gk with _|k2
   ·exact absurd HA.out (by simp [impl_GridValid.l0])
   obtain ⟨H⟩:=HA
   simp only [impl_GridValid.l0] at H
   replace H:=yis H;obtain ⟨c7b0,H⟩ | ⟨c7b0,H⟩:=H
   rotate_left
   ·obtain rfl:=ysi H
    go_wp2
    go_ret
    exact ⟨yeq,by repeat (first|exact Drawn0.refl _|apply Drawn0.step)⟩
   replace H:=yif H;obtain ⟨c8b0,H⟩:=H
   replace H:=yif H;obtain ⟨c9b0,H⟩:=H
   replace H:=yis H;obtain ⟨c10b0,H⟩ | ⟨c10b0,H⟩:=H
   ·obtain rfl:=ysi H
    obtain ⟨ad130,e130,hx130_0,p130,q130⟩:=yat HR0.out x20_2
    cases e130
    go_wp2
    go_ret
    exact ⟨yeq,by repeat (first|exact Drawn0.refl _|apply Drawn0.step)⟩
   replace H:=yis H;obtain ⟨c11b0,H⟩ | ⟨c11b0,H⟩:=H
   ·obtain rfl:=ysi H
    obtain ⟨ad130,e130,hx130_0,p130,q130⟩:=yat HR0.out x20_2
    cases e130
    go_wp2
    go_ret
    exact ⟨yeq,by repeat (first|exact Drawn0.refl _|apply Drawn0.step)⟩
   replace H:=yam H
   obtain ⟨ad130,e130,hx130_0,p130,q130⟩:=yat HR0.out x20_2
   cases e130
   go_wp2
   go_roundg k2
   case measure=>have:=HJ2.out;have:=HK2.out;omega
   case rel=>exact ⟨(wrap64 (x20_2 + 1)),yeq,H,⟨by have:=HJ2.out;have:=HK2.out;omega⟩,by repeat (first|exact Drawn0.refl _|apply Drawn0.step)⟩
mutual
def impl_LineCells.j0:Nat→Int→Int→Bool→Option (List Int)
 | 0,_,_,_=>none
 | k + 1,x0,x1,x19=>if x19=true then (some ([]:List Int)) else (if 0≤x0 then (if (x0:Int).toNat≤35184372088832 then (impl_LineCells.l0 k x0 x1 (([]:List Int)) x0 0) else (none)) else (none))
def impl_LineCells.l0:Nat→Int→Int→List Int→Int→Int→Option (List Int)
 | 0,_,_,_,_,_=>none
 | k + 1,x0,x1,x5,x22,x23=>if x23 < x22 then (if x1 < x0 then (if x5.length < 17592186044416 then (impl_LineCells.l0 k x0 x1 (x5 ++ [wrap64 ((wrap64 (x1 * x0)) + x23)]) x22 (wrap64 (x23 + 1))) else (none)) else (if x5.length < 17592186044416 then (impl_LineCells.l0 k x0 x1 (x5 ++ [wrap64 ((wrap64 ((wrap64 (x23 * x0)) + x1)) - x0)]) x22 (wrap64 (x23 + 1))) else (none))) else (some x5)
end
def impl_LineCells.f (k:Nat)(a0:Int)(a1:Int):Option (List Int):=(impl_sizeOk.f a0).bind fun t131=>(if t131=true then (if a1 < 0 then (impl_LineCells.j0 k a0 a1 true) else (impl_LineCells.j0 k a0 a1 (decide (a1 ≥ (wrap64 (2 * a0)))))) else (impl_LineCells.j0 k a0 a1 true))
theorem impl_LineCells.mono_l:∀ k,(∀ y0 y1 y2,LeO (impl_LineCells.j0 k y0 y1 y2) (impl_LineCells.j0 (k + 1) y0 y1 y2))∧(∀ y0 y1 y2 y3 y4,LeO (impl_LineCells.l0 k y0 y1 y2 y3 y4) (impl_LineCells.l0 (k + 1) y0 y1 y2 y3 y4))
 | 0=>⟨fun _ _ _ r h=>by simp [impl_LineCells.j0] at h,fun _ _ _ _ _ r h=>by simp [impl_LineCells.l0] at h⟩
 | k + 1=>by
  obtain ⟨ih0,ih1⟩:=impl_LineCells.mono_l k
  refine ⟨?_,?_⟩
  ·intro y0 y1 y2
   unfold impl_LineCells.j0
   repeat' first
   | (with_reducible exact ih0 _ _ _)
   | (with_reducible exact ih1 _ _ _ _ _)
   | (with_reducible exact LeO.refl _)
   | (with_reducible exact LeO.none _)
   | (with_reducible refine LeO.ite ?_ ?_)
   | (with_reducible refine LeO.bind ?_ (fun _=>?_))
   | exact ih0 _ _ _
   | exact ih1 _ _ _ _ _
   | exact LeO.none _
   | refine LeO.ite ?_ ?_
   | refine LeO.bind ?_ (fun _=>?_)
  ·intro y0 y1 y2 y3 y4
   unfold impl_LineCells.l0
   repeat' first
   | (with_reducible exact ih0 _ _ _)
   | (with_reducible exact ih1 _ _ _ _ _)
   | (with_reducible exact LeO.refl _)
   | (with_reducible exact LeO.none _)
   | (with_reducible refine LeO.ite ?_ ?_)
   | (with_reducible refine LeO.bind ?_ (fun _=>?_))
   | exact ih0 _ _ _
   | exact ih1 _ _ _ _ _
   | exact LeO.none _
   | refine LeO.ite ?_ ?_
   | refine LeO.bind ?_ (fun _=>?_)
theorem impl_LineCells.mono:∀ a0 a1 k,LeO (impl_LineCells.f k a0 a1) (impl_LineCells.f (k + 1) a0 a1):=by
 intro a0 a1 k
 obtain ⟨ih0,ih1⟩:=impl_LineCells.mono_l k
 unfold impl_LineCells.f
 repeat' first
   | (with_reducible exact ih0 _ _ _)
   | (with_reducible exact ih1 _ _ _ _ _)
   | (with_reducible exact LeO.refl _)
   | (with_reducible exact LeO.none _)
   | (with_reducible refine LeO.ite ?_ ?_)
   | (with_reducible refine LeO.bind ?_ (fun _=>?_))
   | exact ih0 _ _ _
   | exact ih1 _ _ _ _ _
   | exact LeO.none _
   | refine LeO.ite ?_ ?_
   | refine LeO.bind ?_ (fun _=>?_)
theorem impl_LineCells.calls (k:Nat)(a0:Int)(a1:Int)(r:List Int)(w:World)(h:impl_LineCells.f k a0 a1=some r) :
  Calls Try.prog 77 #[.int .i64 a0,.int .i64 a1] w fun e w'=>∃ v0_:Value,e= .returned (v0_)∧Kd.R (Kd.int .i64) 3 w' w.heap.size (fun _=>True) v0_ r∧Below w.heap.size w w':=by
 have HB:=yam (Below.refl w.heap.size w)
 unfold impl_LineCells.f at h
 have H:=h
 clear h
 have HC3:=yam H
 clear H
 go_enter Try.func77,Try.ntmps77
 go_upto_region 1 with (fail)
 go_cut [19] (fun v19 wc=>∃ (kq:Nat) (x19_2:Bool),v19= .bool x19_2∧Aside0 (impl_LineCells.j0 kq a0 a1 x19_2=some r)∧Aside0 (kq≤k)∧Aside0 (Below w.heap.size w wc))
 case first =>
  have H:=HC3.out
  clear HC3
  replace H:=ybi H;obtain ⟨t131,A4,H⟩:=H
  try dsimp only at H
  cases t131
  ·replace H:=yff H
   replace H:=yam H
   go_wp2_with (first|(refine goesL_ (some 8) rfl rfl Try.func44 (by kernel_rfl) rfl #[.int .i64 a0] rfl ymd ?_;(with_reducible refine (impl_sizeOk.calls a0 false _ A4.out).mono ?_);rintro e w' ⟨rfl,⟨nd,rfl⟩⟩;refine ⟨_,rfl,?_⟩))
   go_meet
   case rel=>exact ⟨_,(true),yeq,H,⟨by first|omega|exact Nat.le_refl _⟩,⟨yhb⟩⟩
  replace H:=ytt H
  replace H:=yis H;obtain ⟨c6b0,H⟩ | ⟨c6b0,H⟩:=H
  ·(first|rw [c6b0]|(simp only [i64_w,i32_w];rw [c6b0])|skip)
   replace H:=yam H
   go_wp2_with (first|(refine goesL_ (some 8) rfl rfl Try.func44 (by kernel_rfl) rfl #[.int .i64 a0] rfl ymd ?_;(with_reducible refine (impl_sizeOk.calls a0 true _ A4.out).mono ?_);rintro e w' ⟨rfl,⟨nd,rfl⟩⟩;refine ⟨_,rfl,?_⟩))
   go_meet
   case rel=>exact ⟨_,(true),yeq,H,⟨by first|omega|exact Nat.le_refl _⟩,⟨yhb⟩⟩
  (first|rw [c6b0]|(simp only [i64_w,i32_w];rw [c6b0])|skip)
  replace H:=yam H
  go_wp2_with (first|(refine goesL_ (some 8) rfl rfl Try.func44 (by kernel_rfl) rfl #[.int .i64 a0] rfl ymd ?_;(with_reducible refine (impl_sizeOk.calls a0 true _ A4.out).mono ?_);rintro e w' ⟨rfl,⟨nd,rfl⟩⟩;refine ⟨_,rfl,?_⟩))
  go_meet
  case rel=>exact ⟨_,(decide (a1 ≥ (wrap64 (2 * a0)))),yeq,H,⟨by first|omega|exact Nat.le_refl _⟩,⟨yhb⟩⟩
 case rest =>
  clear HC3
  obtain ⟨kq,x19_2,rfl,HA,HJ2,HB⟩:=hcut
  rcases kq with _|kj2
  ·exact absurd HA.out (by simp [impl_LineCells.j0])
  obtain ⟨H⟩:=HA
  simp only [impl_LineCells.j0] at H
  cases x19_2
  rotate_left
  ·replace H:=ytt H
   obtain rfl:=ysi H
   go_wp2
   go_ret
   exact ⟨_,yer,by first|exact Kd.R_nil _ _ _ _ _|exact Kd.N_nil _ _ _ _ _|exact Kd.V_nil _ _ _ _ _|exact Kd.Q_nil _ _ _ _ _|exact Kd.S_nil _ _ _ _ _,yhb⟩
  replace H:=yff H
  replace H:=yit H;obtain ⟨c8,H⟩ | ⟨c8,H⟩:=H
  rotate_left
  ·exact absurd H (by simp)
  have c8b0:=eq_true c8
  have c8b1:decide (0≤a0)=true:=decide_eq_true c8
  clear c8
  replace H:=yig H;obtain ⟨c9,H⟩:=H
  have c9b0:=eq_true c9
  have c9b1:decide ((a0:Int).toNat≤35184372088832)=true:=decide_eq_true c9
  clear c9
  obtain ⟨y132,Ny132⟩:∃ y_:List Int,Aside0 (y_=(([]:List Int))):=⟨_,⟨rfl⟩⟩
  replace H:(impl_LineCells.l0 kj2 a0 a1 y132 a0 0)=some r:=yhn Ny132.out H
  replace H:=yam H
  go_wp2_with (first|((with_reducible refine gate_dst (N:=21) rfl ?_);refine Kd.R_make_cap (Kd.int .i64) _ 3 rfl (N:=21) rfl 22 _ _ rfl a0 rfl rfl Try.underlying22 (.int .i64 0) 8 info3 rfl (by decide) (by omega) (ok:=fun _=>True) trivial (ydt) (Nat.le_trans (Nat.mul_le_mul_right _ (ydt:a0.toNat≤35184372088832)) (by omega)) (Below.refl _ _) (Nat.le_refl _) ?_;intro v133 w10 ho11 hb hg_ hnew_;clear hg_ hnew_;(first|rw [← Ny132.out] at ho11|(simp only [Int.reduceToNat] at ho11;rw [← Ny132.out] at ho11));have HO134:=yam (Kd.R_lower ho11 (below_size (yez HB.out)));replace HB:=yam (below_step (yez HB.out) hb);clear hb ho11))
  go_loopg [5,23] kj2 (fun kq v5 v23 w'=>∃ (x5_2:List Int) (x23_2:Int),v23= .int .i64 x23_2∧Aside0 (impl_LineCells.l0 kq a0 a1 x5_2 a0 x23_2=some r)∧Aside0 (kq≤kj2)∧Aside0 (Kd.R (Kd.int .i64) 3 w' w.heap.size (fun _=>True) v5 x5_2)∧Aside0 (Below w.heap.size w w'))
  case atStart=>exact ⟨(y132),(0),yeq,H,⟨Nat.le_refl _⟩,⟨yka HO134.out⟩,⟨yhb⟩⟩
  case round =>
   clear H
   try clear c8b0
   try clear c8b1
   try clear c9b0
   try clear c9b1
   obtain ⟨x5_2,x23_2,rfl,HA,HK2,HO_5,HB⟩:=hrel
   rcases gk with _|k2
   ·exact absurd HA.out (by simp [impl_LineCells.l0])
   obtain ⟨H⟩:=HA
   simp only [impl_LineCells.l0] at H
   replace H:=yis H;obtain ⟨c12b0,H⟩ | ⟨c12b0,H⟩:=H
   rotate_left
   ·obtain rfl:=ysi H
    go_wp2
    go_ret
    exact ⟨_,yer,yka HO_5.out,yhb⟩
   replace H:=yis H;obtain ⟨c13b0,H⟩ | ⟨c13b0,H⟩:=H
   ·replace H:=yig H;obtain ⟨c14,H⟩:=H
    have LMc14:=yam c14
    clear c14
    obtain ⟨y135,Ny135⟩:∃ y_:List Int,Aside0 (y_=(x5_2 ++ [wrap64 ((wrap64 (a1 * a0)) + x23_2)])):=⟨_,⟨rfl⟩⟩
    replace H:(impl_LineCells.l0 k2 a0 a1 y135 a0 (wrap64 (x23_2 + 1)))=some r:=yhn Ny135.out H
    replace H:=yam H
    go_wp2_with (first|((with_reducible refine gate_builtin (b:= .append) (xs:= #[.tmp 29,.tmp 35]) rfl ?_);at_builtin;refine Kd.R_append (Kd.int .i64) (w0:=w) w.heap.size rfl (.tmp 29) (.tmp 35) 22 3 (.int .i64 0) 8 rfl Try.underlying22 info3 rfl (by decide) (by omega) u5 x5_2 (wrap64 ((wrap64 (a1 * a0)) + x23_2)) [.int .i64 (wrap64 ((wrap64 (a1 * a0)) + x23_2))] (fun _=>True) (fun _=>False) rfl rfl ?aP (fun _ hk=>hk.elim) ?aF ?aO ?aB ?aS ?aL ?_;(case aP=>exact rfl);(case aB=>exact (yez HB.out));(case aF=>exact (fun _ _=>trivial));(case aO=>exact (Kd.Yz HO_5.out));(case aS=>exact (below_size (yez HB.out)));(case aL=>have:=LMc14.out;omega);intro v136 w15 ho hb hg hat;rw [← Ny135.out] at ho;replace HB:=yam (hb);have HO137:=yam (ho);clear HO_5;clear ho hb hg hat))
    go_roundg k2
    case measure=>have:=HJ2.out;have:=HK2.out;omega
    case rel=>exact ⟨(y135),(wrap64 (x23_2 + 1)),yeq,H,⟨by have:=HJ2.out;have:=HK2.out;omega⟩,⟨yka HO137.out⟩,⟨yhb⟩⟩
   replace H:=yig H;obtain ⟨c16,H⟩:=H
   have LMc16:=yam c16
   clear c16
   obtain ⟨y138,Ny138⟩:∃ y_:List Int,Aside0 (y_=(x5_2 ++ [wrap64 ((wrap64 ((wrap64 (x23_2 * a0)) + a1)) - a0)])):=⟨_,⟨rfl⟩⟩
   replace H:(impl_LineCells.l0 k2 a0 a1 y138 a0 (wrap64 (x23_2 + 1)))=some r:=yhn Ny138.out H
   replace H:=yam H
   go_wp2_with (first|((with_reducible refine gate_builtin (b:= .append) (xs:= #[.tmp 37,.tmp 45]) rfl ?_);at_builtin;refine Kd.R_append (Kd.int .i64) (w0:=w) w.heap.size rfl (.tmp 37) (.tmp 45) 22 3 (.int .i64 0) 8 rfl Try.underlying22 info3 rfl (by decide) (by omega) u5 x5_2 (wrap64 ((wrap64 ((wrap64 (x23_2 * a0)) + a1)) - a0)) [.int .i64 (wrap64 ((wrap64 ((wrap64 (x23_2 * a0)) + a1)) - a0))] (fun _=>True) (fun _=>False) rfl rfl ?aP (fun _ hk=>hk.elim) ?aF ?aO ?aB ?aS ?aL ?_;(case aP=>exact rfl);(case aB=>exact (yez HB.out));(case aF=>exact (fun _ _=>trivial));(case aO=>exact (Kd.Yz HO_5.out));(case aS=>exact (below_size (yez HB.out)));(case aL=>have:=LMc16.out;omega);intro v139 w17 ho hb hg hat;rw [← Ny138.out] at ho;replace HB:=yam (hb);have HO140:=yam (ho);clear HO_5;clear ho hb hg hat))
   go_roundg k2
   case measure=>have:=HJ2.out;have:=HK2.out;omega
   case rel=>exact ⟨(y138),(wrap64 (x23_2 + 1)),yeq,H,⟨by have:=HJ2.out;have:=HK2.out;omega⟩,⟨yka HO140.out⟩,⟨yhb⟩⟩
mutual
def impl_SquareFits.l0:Nat→List Int→Int→Int→Option (Bool)
 | 0,_,_,_=>none
 | k + 1,x0,x1,x15=>if x15 < (wrap64 (2 * x1)) then ((impl_LineCells.f k x1 x15).bind fun t=>(impl_SquareFits.l1 k x0 x1 x15 t [false,false,false,false,false] 0)) else (some true)
def impl_SquareFits.l1:Nat→List Int→Int→Int→List Int→List Bool→Int→Option (Bool)
 | 0,_,_,_,_,_,_=>none
 | k + 1,x0,x1,x15,x21,x6,x23=>if x23 < (x21.length:Int) then (if 0≤x23 then (if 0≤(rd x21 x23) then (if (rd x21 x23) < (x0.length:Int) then (if 0≤(rd x0 (rd x21 x23)) then (if (rd x0 (rd x21 x23)) < (x6.length:Int) then (if (rd x0 (rd x21 x23)) > 0 then (if (rdOf false x6 (rd x0 (rd x21 x23)))=true then (some false) else (impl_SquareFits.l1 k x0 x1 x15 x21 (x6.set (rd x0 (rd x21 x23)).toNat true) (wrap64 (x23 + 1)))) else (impl_SquareFits.l1 k x0 x1 x15 x21 (x6.set (rd x0 (rd x21 x23)).toNat true) (wrap64 (x23 + 1)))) else (none)) else (none)) else (none)) else (none)) else (none)) else (impl_SquareFits.l0 k x0 x1 (wrap64 (x15 + 1)))
end
def impl_SquareFits.f (k:Nat)(l0:List Int)(a1:Int):Option (Bool):=(impl_GridValid.f k l0 a1).bind fun t=>(if t=true then (impl_SquareFits.l0 k l0 a1 0) else (some false))
theorem impl_SquareFits.calls (k:Nat)(A0:Option Addr)(c0:Nat)(l0:List Int)(a1:Int)(r:Bool)(w:World)(hr0:Kd.C (Kd.int .i64) w A0 l0.length l0)(hc0:l0.length≤c0)(h:impl_SquareFits.f k l0 a1=some r) :
  Calls Try.prog 52 #[.slice A0 l0.length c0,.int .i64 a1] w fun e w'=>e= .returned (.bool r)∧Below w.heap.size w w':=by
 have HR0:=yam hr0
 have HC0:=yam hc0
 clear hr0 hc0
 have HB:=yam (Below.refl w.heap.size w)
 unfold impl_SquareFits.f at h
 have H:=h
 clear h
 replace H:=ybi H;obtain ⟨t1,A1,H⟩:=H
 replace H:(if t1=true then (impl_SquareFits.l0 k l0 a1 0) else (some false))=some r:=H
 by_cases c1:t1=true
 ·subst c1
  rw [if_pos rfl] at H
  replace H:=yam H
  go_enter Try.func52,Try.ntmps52
  go_wp2_with (first|(go_at_call 76;(with_reducible refine (impl_GridValid.calls k _ _ l0 a1 true _ HR0.out HC0.out A1.out).mono ?_);rintro e w' ⟨rfl,⟨nd,rfl⟩⟩))
  go_loopg [5,15] k (fun kq v5 v15 w'=>∃ (x15:Int),v15= .int .i64 x15∧Aside0 (impl_SquareFits.l0 kq l0 a1 x15=some r)∧Aside0 (kq≤k)∧Aside0 (Below w.heap.size w w'))
  case atStart=>exact ⟨0,rfl,H,⟨Nat.le_refl _⟩,⟨by repeat (first|(with_reducible first|exact HB.out|apply below_alloc|apply pw_below_drewN|apply below_drew1)|exact HB.out)⟩⟩
  case round =>
   clear H HB
   obtain ⟨x15,rfl,HA,HK1,HB⟩:=hrel
   rcases gk with _|k1
   ·exact absurd HA.out (by simp [impl_SquareFits.l0])
   obtain ⟨H⟩:=HA
   simp only [impl_SquareFits.l0] at H
   by_cases c3:x15 < (wrap64 (2 * a1))
   ·rw [if_pos c3] at H
    have c3b0:decide (x15 < (wrap64 (2 * a1)))=true:=decide_eq_true c3
    clear c3
    replace H:=ybi H;obtain ⟨t4,A4,H⟩:=H
    replace H:(impl_SquareFits.l1 k1 l0 a1 x15 t4 [false,false,false,false,false] 0)=some r:=H
    replace H:=yam H
    have hsz:=HB.out.size
    have HG:=yam hsz
    clear hsz
    obtain ⟨wo,rfl⟩:∃ wo:World,wo=wr:=⟨_,rfl⟩
    have HO6:=yam (arr5_new wo w.heap.size HG.out 86)
    have HB2:=yam (below_alloc HB.out (.cells #[.bool false,.bool false,.bool false,.bool false,.bool false] 86))
    go_wp2_with (first|(refine goesL_ (some 21) rfl rfl Try.func77 (by kernel_rfl) rfl #[.int .i64 a1,.int .i64 x15] rfl yma ?_;(with_reducible refine (impl_LineCells.calls k1 a1 x15 t4 _ A4.out).mono ?_);rintro e w5 ⟨v116,rfl,ho0,hb⟩;refine ⟨_,rfl,?_⟩;obtain ⟨Ao14,co14,eo14⟩:=Kd.R_slice ho0;subst eo14;have HO21:=yam (show Kd.R (Kd.int .i64) 3 w5 w.heap.size (fun k_=>k_≠wo.heap.size) (.slice Ao14 t4.length co14) t4 from Kd.R_lower (Kd.R_mono (Kd.R_bound ho0) (fun k_ hk_=>Nat.ne_of_gt (Nat.lt_of_lt_of_le (below_alloc_size wo _) hk_.2.1))) (below_size HB2.out));have n2_:=yam (Kd.R_below HO6.out hb);clear HO6;have HO6:=n2_;have n1_:=yam (below_step HB2.out hb);clear HB HB2 n2_;have HB:=n1_;clear n1_ hb ho0))
    go_loopg [8,23] k1 (fun kq v8 v23 w'=>∃ (x6:List Bool) (x23:Int),v23= .int .i64 x23∧Aside0 (impl_SquareFits.l1 kq l0 a1 x15 t4 x6 x23=some r)∧Aside0 (kq≤k1)∧Aside0 (Kd.R Kd.bool 86 w' w.heap.size (fun _=>True) (.slice (some ⟨wo.heap.size,0,none⟩) x6.length 5) x6)∧Aside0 (x6.length=5)∧Aside0 (Kd.R (Kd.int .i64) 3 w' w.heap.size (fun k_=>k_≠wo.heap.size) (.slice Ao14 t4.length co14) t4)∧Aside0 (Below w.heap.size w w'))
    case atStart=>exact ⟨_,0,rfl,H,⟨Nat.le_refl _⟩,HO6,⟨rfl⟩,HO21,HB⟩
    case round =>
     clear H HO6 HO21 HB
     obtain ⟨x6,x23,rfl,HA,HK2,HO6,HL6,HO21,HB⟩:=hrel
     rcases gk with _|k2
     ·exact absurd HA.out (by simp [impl_SquareFits.l1])
     obtain ⟨H⟩:=HA
     simp only [impl_SquareFits.l1] at H
     by_cases c6:x23 < (t4.length:Int)
     ·rw [if_pos c6] at H
      have c6b0:decide (x23 < (t4.length:Int))=true:=decide_eq_true c6
      clear c6
      by_cases c7:0≤x23
      ·rw [if_pos c7] at H
       have c7b0:decide (0≤x23)=true:=decide_eq_true c7
       clear c7
       by_cases c8:0≤(rd t4 x23)
       ·rw [if_pos c8] at H
        have c8b0:decide (0≤(rd t4 x23))=true:=decide_eq_true c8
        clear c8
        by_cases c9:(rd t4 x23) < (l0.length:Int)
        ·rw [if_pos c9] at H
         have c9b0:decide ((rd t4 x23) < (l0.length:Int))=true:=decide_eq_true c9
         clear c9
         by_cases c10:0≤(rd l0 (rd t4 x23))
         ·rw [if_pos c10] at H
          have c10b0:decide (0≤(rd l0 (rd t4 x23)))=true:=decide_eq_true c10
          clear c10
          by_cases c11:(rd l0 (rd t4 x23)) < (x6.length:Int)
          ·rw [if_pos c11] at H
           obtain ⟨ad118,e118,hx118_0,p118,q118⟩:=yat (Kd.R_reads' HO21.out).2.2 x23
           cases e118
           obtain ⟨ad119,e119,hx119_0,p119,q119⟩:=yat HR0.out (rd t4 x23)
           cases e119
           replace hx119_0:=ybx HB.out hx119_0
           have p120:0≤(rd l0 (rd t4 x23)):=ydt
           have q120:(rd l0 (rd t4 x23)) < 5:=by have:=HL6.out;omega
           obtain ⟨hc120,hf120⟩:=Kd.R_cell false HO6.out (rd l0 (rd t4 x23)) p120 c11
           clear c11
           have p121:=eq_true p120
           have q121:=eq_true q120
           have q122:decide ((rd l0 (rd t4 x23)) < 5)=true:=decide_eq_true q120
           by_cases c12:(rd l0 (rd t4 x23)) > 0
           ·rw [if_pos c12] at H
            have c12b0:decide (0 < (rd l0 (rd t4 x23)))=true:=decide_eq_true c12
            clear c12
            by_cases c13:rdOf false x6 (rd l0 (rd t4 x23))=true
            ·rw [if_pos c13] at H
             obtain rfl:=ysi H
             go_wp2
             go_ret
             exact ⟨rfl,HB.out⟩
            ·rw [if_neg c13] at H
             have c13b0:rdOf false x6 (rd l0 (rd t4 x23))=false:=eq_false_of_ne_true c13
             clear c13
             replace H:=yam H
             go_wp2
             go_roundg k2
             case measure=>have:=HK1.out;have:=HK2.out;omega
             case rel =>
              have hput:=Kd.R_put HO6.out (rd l0 (rd t4 x23)) true
              refine ⟨_,_,rfl,H,⟨by have:=HK1.out;have:=HK2.out;omega⟩,⟨?_⟩,⟨by rw [List.length_set];exact HL6.out⟩,⟨Kd.R_grown HO21.out hput.2 (fun k_ hk_ e_=>hk_ (Option.some.inj e_))⟩,⟨below_set HB.out HG.out⟩⟩
              rw [List.length_set]
              exact hput.1
           ·rw [if_neg c12] at H
            have c12b0:decide (0 < (rd l0 (rd t4 x23)))=false:=decide_eq_false c12
            clear c12
            replace H:=yam H
            go_wp2
            go_roundg k2
            case measure=>have:=HK1.out;have:=HK2.out;omega
            case rel =>
             have hput:=Kd.R_put HO6.out (rd l0 (rd t4 x23)) true
             refine ⟨_,_,rfl,H,⟨by have:=HK1.out;have:=HK2.out;omega⟩,⟨?_⟩,⟨by rw [List.length_set];exact HL6.out⟩,⟨Kd.R_grown HO21.out hput.2 (fun k_ hk_ e_=>hk_ (Option.some.inj e_))⟩,⟨below_set HB.out HG.out⟩⟩
             rw [List.length_set]
             exact hput.1
          ·rw [if_neg c11] at H
           exact absurd H (by simp)
         ·rw [if_neg c10] at H
          exact absurd H (by simp)
        ·rw [if_neg c9] at H
         exact absurd H (by simp)
       ·rw [if_neg c8] at H
        exact absurd H (by simp)
      ·rw [if_neg c7] at H
       exact absurd H (by simp)
     ·rw [if_neg c6] at H
      have c6b0:decide (x23 < (t4.length:Int))=false:=decide_eq_false c6
      clear c6
      replace H:=yam H
      go_wp2
      go_roundg k2
      case measure=>have:=HK1.out;have:=HK2.out;omega
      case rel=>exact ⟨(wrap64 (x15 + 1)),rfl,H,⟨by have:=HK1.out;have:=HK2.out;omega⟩,HB⟩
   ·rw [if_neg c3] at H
    have c3b0:decide (x15 < (wrap64 (2 * a1)))=false:=decide_eq_false c3
    clear c3
    obtain rfl:=ysi H
    go_wp2
    go_ret
    exact ⟨rfl,HB.out⟩
 ·rw [if_neg c1] at H
  obtain rfl:=ysi H
  obtain rfl:t1=false:=eq_false_of_ne_true c1
  clear c1
  go_enter Try.func52,Try.ntmps52
  go_wp2_with (first|(go_at_call 76;(with_reducible refine (impl_GridValid.calls k _ _ l0 a1 false _ HR0.out HC0.out A1.out).mono ?_);rintro e w' ⟨rfl,⟨nd,rfl⟩⟩))
  go_ret
  exact ⟨rfl,by repeat (first|(with_reducible first|exact HB.out|apply below_alloc|apply pw_below_drewN|apply below_drew1)|exact HB.out)⟩
def impl_GridFilled.l0:Nat→Int→List Int→Int→Int→Option (Int)
 | 0,_,_,_,_=>none
 | k + 1,x5,x12,x13,x14=>if x14 < x13 then (if 0≤x14 then (if x14 < (x12.length:Int) then (if (rd x12 x14) > 0 then (impl_GridFilled.l0 k (wrap64 (x5 + 1)) x12 x13 (wrap64 (x14 + 1))) else (impl_GridFilled.l0 k x5 x12 x13 (wrap64 (x14 + 1)))) else (none)) else (none)) else (some x5)
def impl_GridFilled.f (k:Nat)(l0:List Int)(a1:Int):Option (Int):=(impl_GridValid.f k l0 a1).bind fun t263=>(if t263=true then (impl_GridFilled.l0 k 0 l0 (l0.length:Int) 0) else (some (-1)))
theorem impl_GridFilled.calls (k:Nat)(A0:Option Addr)(c0:Nat)(l0:List Int)(a1:Int)(r:Int)(w:World)(hr0:Kd.C (Kd.int .i64) w A0 l0.length l0)(hc0:l0.length≤c0)(h:impl_GridFilled.f k l0 a1=some r) :
  Calls Try.prog 51 #[.slice A0 l0.length c0,.int .i64 a1] w fun e w'=>e= .returned (.int .i64 r)∧Drawn0 w w':=by
 have HR0:=yam hr0
 have HC0:=yam hc0
 clear hr0 hc0
 unfold impl_GridFilled.f at h
 have H:=h
 clear h
 replace H:=ybi H;obtain ⟨t263,A3,H⟩:=H
 try dsimp only at H
 cases t263
 ·replace H:=yff H
  obtain rfl:=ysi H
  go_enter Try.func51,Try.ntmps51
  go_wp2_with (first|(refine goesL_ (some 10) rfl rfl Try.func76 (by kernel_rfl) rfl #[.slice A0 l0.length c0,.int .i64 a1] rfl ymd ?_;(with_reducible refine (impl_GridValid.calls k _ _ l0 a1 false _ ?_ ?_ A3.out).mono ?_);exact Kd.Cz (HR0.out);exact HC0.out;rintro e w' ⟨rfl,⟨nd,rfl⟩⟩;refine ⟨_,rfl,?_⟩))
  go_ret
  exact ⟨yeq,by repeat (first|exact Drawn0.refl _|apply Drawn0.step)⟩
 replace H:=ytt H
 replace H:=yam H
 go_enter Try.func51,Try.ntmps51
 go_wp2_with (first|(refine goesL_ (some 10) rfl rfl Try.func76 (by kernel_rfl) rfl #[.slice A0 l0.length c0,.int .i64 a1] rfl ymd ?_;(with_reducible refine (impl_GridValid.calls k _ _ l0 a1 true _ ?_ ?_ A3.out).mono ?_);exact Kd.Cz (HR0.out);exact HC0.out;rintro e w' ⟨rfl,⟨nd,rfl⟩⟩;refine ⟨_,rfl,?_⟩))
 go_loopg [5,14] k (fun kq v5 v14 w'=>∃ (x5_1:Int) (x14_1:Int),v5= .int .i64 x5_1∧v14= .int .i64 x14_1∧Aside0 (impl_GridFilled.l0 kq x5_1 l0 (l0.length:Int) x14_1=some r)∧Aside0 (kq≤k)∧Drawn0 w w')
 case atStart=>exact ⟨(0),(0),yeq,yeq,H,⟨Nat.le_refl _⟩,by repeat (first|exact Drawn0.refl _|apply Drawn0.step)⟩
 case round =>
  clear H
  obtain ⟨x5_1,x14_1,rfl,rfl,HA,HK1,⟨m1,rfl⟩⟩:=hrel
  rcases gk with _|k1
  ·exact absurd HA.out (by simp [impl_GridFilled.l0])
  obtain ⟨H⟩:=HA
  simp only [impl_GridFilled.l0] at H
  replace H:=yis H;obtain ⟨c5b0,H⟩ | ⟨c5b0,H⟩:=H
  rotate_left
  ·obtain rfl:=ysi H
   go_wp2
   go_ret
   exact ⟨yeq,by repeat (first|exact Drawn0.refl _|apply Drawn0.step)⟩
  replace H:=yif H;obtain ⟨c6b0,H⟩:=H
  replace H:=yif H;obtain ⟨c7b0,H⟩:=H
  replace H:=yis H;obtain ⟨c8b0,H⟩ | ⟨c8b0,H⟩:=H
  rotate_left
  ·replace H:=yam H
   obtain ⟨ad264,e264,hx264_0,p264,q264⟩:=yat HR0.out x14_1
   cases e264
   go_wp2
   go_roundg k1
   case measure=>have:=HK1.out;omega
   case rel=>exact ⟨(x5_1),(wrap64 (x14_1 + 1)),yeq,yeq,H,⟨by have:=HK1.out;omega⟩,by repeat (first|exact Drawn0.refl _|apply Drawn0.step)⟩
  replace H:=yam H
  obtain ⟨ad264,e264,hx264_0,p264,q264⟩:=yat HR0.out x14_1
  cases e264
  go_wp2
  go_roundg k1
  case measure=>have:=HK1.out;omega
  case rel=>exact ⟨(wrap64 (x5_1 + 1)),(wrap64 (x14_1 + 1)),yeq,yeq,H,⟨by have:=HK1.out;omega⟩,by repeat (first|exact Drawn0.refl _|apply Drawn0.step)⟩
def impl_SquareSolved.f (k:Nat)(l0:List Int)(a1:Int):Option (Bool):=(impl_SquareFits.f k l0 a1).bind fun t269=>(if t269=true then ((impl_GridFilled.f k l0 a1).bind fun t270=>(some (t270 == (wrap64 (a1 * a1))))) else (some false))
theorem impl_SquareSolved.calls (k:Nat)(A0:Option Addr)(c0:Nat)(l0:List Int)(a1:Int)(r:Bool)(w:World)(hr0:Kd.C (Kd.int .i64) w A0 l0.length l0)(hc0:l0.length≤c0)(h:impl_SquareSolved.f k l0 a1=some r) :
  Calls Try.prog 19 #[.slice A0 l0.length c0,.int .i64 a1] w fun e w'=>e= .returned (.bool r)∧Below w.heap.size w w':=by
 have HR0:=yam hr0
 have HC0:=yam hc0
 clear hr0 hc0
 have HB:=yam (Below.refl w.heap.size w)
 unfold impl_SquareSolved.f at h
 have H:=h
 clear h
 replace H:=ybi H;obtain ⟨t269,A3,H⟩:=H
 try dsimp only at H
 cases t269
 ·replace H:=yff H
  obtain rfl:=ysi H
  go_enter Try.func19,Try.ntmps19
  go_wp2_with (first|(refine goesL_ (some 7) rfl rfl Try.func52 (by kernel_rfl) rfl #[.slice A0 l0.length c0,.int .i64 a1] rfl ymd ?_;(with_reducible refine (impl_SquareFits.calls k _ _ l0 a1 false _ ?_ ?_ A3.out).mono ?_);exact Kd.Cz (HR0.out);exact HC0.out;rintro e w7 ⟨rfl,hb⟩;refine ⟨_,rfl,?_⟩;replace HB:=yam (below_step (yez HB.out) hb);(try clear hb)))
  go_ret
  exact ⟨yer,yhb⟩
 replace H:=ytt H
 replace H:=ybi H;obtain ⟨t270,A5,H⟩:=H
 try dsimp only at H
 obtain rfl:=ysi H
 go_enter Try.func19,Try.ntmps19
 go_wp2_with (first|(refine goesL_ (some 7) rfl rfl Try.func52 (by kernel_rfl) rfl #[.slice A0 l0.length c0,.int .i64 a1] rfl ymd ?_;(with_reducible refine (impl_SquareFits.calls k _ _ l0 a1 true _ ?_ ?_ A3.out).mono ?_);exact Kd.Cz (HR0.out);exact HC0.out;rintro e w6 ⟨rfl,hb⟩;refine ⟨_,rfl,?_⟩;replace HB:=yam (below_step (yez HB.out) hb);(try clear hb))|(go_at_call 51;(with_reducible refine (impl_GridFilled.calls k _ _ l0 a1 t270 _ ?_ ?_ A5.out).mono ?_);exact Kd.Cz ((Kd.C_below HR0.out HB.out));exact HC0.out;rintro e w' ⟨rfl,⟨nd,rfl⟩⟩))
 go_ret
 exact ⟨yer,yhb⟩
def slices_Index_int_int.l0:Nat→List Int→Int→Int→Int→Option (Int)
 | 0,_,_,_,_=>none
 | k + 1,x0,x1,x7,x8=>if x8 < x7 then (if 0≤x8 then (if x8 < (x0.length:Int) then (if x1=(rd x0 x8) then (some x8) else (slices_Index_int_int.l0 k x0 x1 x7 (wrap64 (x8 + 1)))) else (none)) else (none)) else (some (-1))
def slices_Index_int_int.f (k:Nat)(l0:List Int)(a1:Int):Option (Int):=slices_Index_int_int.l0 k l0 a1 (l0.length:Int) 0
theorem slices_Index_int_int.calls (k:Nat)(A0:Option Addr)(c0:Nat)(l0:List Int)(a1:Int)(r:Int)(w:World)(hr0:Kd.C (Kd.int .i64) w A0 l0.length l0)(hc0:l0.length≤c0)(h:slices_Index_int_int.f k l0 a1=some r) :
  Calls Try.prog 93 #[.slice A0 l0.length c0,.int .i64 a1] w fun e w'=>e= .returned (.int .i64 r)∧Drawn0 w w':=by
 have HR0:=yam hr0
 have HC0:=yam hc0
 clear hr0 hc0
 unfold slices_Index_int_int.f at h
 have H:=h
 clear h
 replace H:=yam H
 go_enter Try.func93,Try.ntmps93
 go_wp2
 go_loopg [8] k (fun kq v8 w'=>∃ (x8_1:Int),v8= .int .i64 x8_1∧Aside0 (slices_Index_int_int.l0 kq l0 a1 (l0.length:Int) x8_1=some r)∧Aside0 (kq≤k)∧Drawn0 w w')
 case atStart=>exact ⟨(0),yeq,H,⟨Nat.le_refl _⟩,by repeat (first|exact Drawn0.refl _|apply Drawn0.step)⟩
 case round =>
  clear H
  obtain ⟨x8_1,rfl,HA,HK1,⟨m1,rfl⟩⟩:=hrel
  rcases gk with _|k1
  ·exact absurd HA.out (by simp [slices_Index_int_int.l0])
  obtain ⟨H⟩:=HA
  simp only [slices_Index_int_int.l0] at H
  replace H:=yis H;obtain ⟨c3b0,H⟩ | ⟨c3b0,H⟩:=H
  rotate_left
  ·obtain rfl:=ysi H
   go_wp2
   go_ret
   exact ⟨yeq,by repeat (first|exact Drawn0.refl _|apply Drawn0.step)⟩
  replace H:=yif H;obtain ⟨c4b0,H⟩:=H
  replace H:=yif H;obtain ⟨c5b0,H⟩:=H
  replace H:=yit H;obtain ⟨c6,H⟩ | ⟨c6,H⟩:=H
  ·have c6b0:(a1 == (rd l0 x8_1))=true:=beq_iff_eq.mpr c6
   have c6b1:(a1 != (rd l0 x8_1))=false:=bne_eq_false_iff_eq.mpr c6
   clear c6
   obtain rfl:=ysi H
   obtain ⟨ad141,e141,hx141_0,p141,q141⟩:=yat HR0.out x8_1
   cases e141
   go_wp2
   go_ret
   exact ⟨yeq,by repeat (first|exact Drawn0.refl _|apply Drawn0.step)⟩
  have c6b0:(a1 == (rd l0 x8_1))=false:=beq_eq_false_iff_ne.mpr c6
  have c6b1:(a1 != (rd l0 x8_1))=true:=bne_iff_ne.mpr c6
  replace H:=yam H
  obtain ⟨ad141,e141,hx141_0,p141,q141⟩:=yat HR0.out x8_1
  cases e141
  go_wp2
  go_roundg k1
  case measure=>have:=HK1.out;omega
  case rel=>exact ⟨(wrap64 (x8_1 + 1)),yeq,H,⟨by have:=HK1.out;omega⟩,by repeat (first|exact Drawn0.refl _|apply Drawn0.step)⟩
def slices_Contains_int_int.f (k:Nat)(l0:List Int)(a1:Int):Option (Bool):=(slices_Index_int_int.f k l0 a1).bind fun t142=>(some (decide (t142 ≥ 0)))
theorem slices_Contains_int_int.calls (k:Nat)(A0:Option Addr)(c0:Nat)(l0:List Int)(a1:Int)(r:Bool)(w:World)(hr0:Kd.C (Kd.int .i64) w A0 l0.length l0)(hc0:l0.length≤c0)(h:slices_Contains_int_int.f k l0 a1=some r) :
  Calls Try.prog 89 #[.slice A0 l0.length c0,.int .i64 a1] w fun e w'=>e= .returned (.bool r)∧Drawn0 w w':=by
 have HR0:=yam hr0
 have HC0:=yam hc0
 clear hr0 hc0
 unfold slices_Contains_int_int.f at h
 have H:=h
 clear h
 replace H:=ybi H;obtain ⟨t142,A3,H⟩:=H
 try dsimp only at H
 obtain rfl:=ysi H
 go_enter Try.func89,Try.ntmps89
 go_wp2_with (first|(refine goesL_ (some 7) rfl rfl Try.func93 (by kernel_rfl) rfl #[.slice A0 l0.length c0,.int .i64 a1] rfl ymd ?_;(with_reducible refine (slices_Index_int_int.calls k _ _ l0 a1 t142 _ ?_ ?_ A3.out).mono ?_);exact Kd.Cz (HR0.out);exact HC0.out;rintro e w' ⟨rfl,⟨nd,rfl⟩⟩;refine ⟨_,rfl,?_⟩))
 go_ret
 exact ⟨yeq,by repeat (first|exact Drawn0.refl _|apply Drawn0.step)⟩
mutual
def impl_RuleValid.l0:Nat→Int→List Int→Int→Int→Int→List Int→Int→Option (Bool)
 | 0,_,_,_,_,_,_,_=>none
 | k + 1,x1,x12,x13,x14,x144000,x144001,x144002=>if x14 < x13 then (if 0≤x14 then (if x14 < (x12.length:Int) then (if (rd x12 x14) < 0 then (some false) else (if (rd x12 x14) ≥ (wrap64 (x1 * x1)) then (some false) else (if x14≤(x144001.length:Int) then ((slices_Contains_int_int.f k (x144001.take (x14:Int).toNat) (rd x12 x14)).bind fun t147=>(if t147=true then (some false) else (impl_RuleValid.l0 k x1 x12 x13 (wrap64 (x14 + 1)) x144000 x144001 x144002))) else (none)))) else (none)) else (none)) else (if x144000=1 then (if (x144001.length:Int) ≥ 2 then (if (x144001.length:Int)≤4 then (some (x144002 == 0)) else (some false)) else (some false)) else (if x144000=2 then (impl_RuleValid.j1 k x1 (x144001.length:Int) x144000 (x144000 == 2) x144000 x144001 x144002) else (impl_RuleValid.j1 k x1 (x144001.length:Int) x144000 (x144000 == 3) x144000 x144001 x144002)))
def impl_RuleValid.j1:Nat→Int→Int→Int→Bool→Int→List Int→Int→Option (Bool)
 | 0,_,_,_,_,_,_,_=>none
 | k + 1,x1,x7,x41,x55,x144000,x144001,x144002=>if x55=true then (if x7 ≥ 1 then (if x7≤4 then (if x144002 ≥ 1 then (some (decide (x144002≤(wrap64 ((wrap64 ((wrap64 (x1 * x1)) * x1)) * x1))))) else (some false)) else (some false)) else (some false)) else (if x41=4 then (if x7=2 then (some (x144002 == 0)) else (some false)) else (if x41=5 then (if x7=2 then (if x144002 ≥ 0 then (some (decide (x144002 < x1))) else (some false)) else (some false)) else (some false)))
end
def impl_RuleValid.f (k:Nat)(a0_0:Int)(l0_1:List Int)(a0_2:Int)(a1:Int):Option (Bool):=(impl_sizeOk.f a1).bind fun t144=>(if t144=true then (impl_RuleValid.l0 k a1 l0_1 (l0_1.length:Int) 0 a0_0 l0_1 a0_2) else (some false))
theorem impl_RuleValid.calls (k:Nat)(a0_0:Int)(A0_1:Option Addr)(c0_1:Nat)(l0_1:List Int)(a0_2:Int)(a1:Int)(r:Bool)(w:World)(hr0_1:Kd.C (Kd.int .i64) w A0_1 l0_1.length l0_1)(hc0_1:l0_1.length≤c0_1)(h:impl_RuleValid.f k a0_0 l0_1 a0_2 a1=some r) :
  Calls Try.prog 81 #[.agg #[.int .i64 a0_0,.slice A0_1 l0_1.length c0_1,.int .i64 a0_2],.int .i64 a1] w fun e w'=>e= .returned (.bool r)∧Below w.heap.size w w':=by
 have hu73:=Try.underlying73
 have HR0_1:=yam hr0_1
 have HC0_1:=yam hc0_1
 clear hr0_1 hc0_1
 have HB:=yam (Below.refl w.heap.size w)
 unfold impl_RuleValid.f at h
 have H:=h
 clear h
 replace H:=ybi H;obtain ⟨t144,A3,H⟩:=H
 try dsimp only at H
 cases t144
 ·replace H:=yff H
  obtain rfl:=ysi H
  go_enter Try.func81,Try.ntmps81
  go_wp2_with (first|(refine ybe 2 #[.int .i64 a0_0,.slice A0_1 l0_1.length c0_1,.int .i64 a0_2] 73 ?_;intro gb143 hg w43 hbox hb;have BK143:=yam (hbox);have GW143:=yam ((by rw [hg];exact (below_size (yez HB.out)):w.heap.size≤gb143));replace HB:=yam (below_step (yez HB.out) hb);have GE143:=GW143;clear hb hbox hg)|(refine goesL_ (some 9) rfl rfl Try.func44 (by kernel_rfl) rfl #[.int .i64 a1] rfl ymd ?_;(with_reducible refine (impl_sizeOk.calls a1 false _ A3.out).mono ?_);rintro e w' ⟨rfl,⟨nd,rfl⟩⟩;refine ⟨_,rfl,?_⟩))
  go_ret
  exact ⟨yer,yhb⟩
 replace H:=ytt H
 replace H:=yam H
 go_enter Try.func81,Try.ntmps81
 go_wp2_with (first|(refine ybe 2 #[.int .i64 a0_0,.slice A0_1 l0_1.length c0_1,.int .i64 a0_2] 73 ?_;intro gb143 hg w5 hbox hb;have BK143:=yam (hbox);have GW143:=yam ((by rw [hg];exact (below_size (yez HB.out)):w.heap.size≤gb143));replace HB:=yam (below_step (yez HB.out) hb);have GE143:=GW143;clear hb hbox hg)|(refine goesL_ (some 9) rfl rfl Try.func44 (by kernel_rfl) rfl #[.int .i64 a1] rfl ymd ?_;(with_reducible refine (impl_sizeOk.calls a1 true _ A3.out).mono ?_);rintro e w' ⟨rfl,⟨nd,rfl⟩⟩;refine ⟨_,rfl,?_⟩;obtain ⟨hcz6_0,hcz6_1,hcz6_2,hfz6_0,hfz6_1,hfz6_2⟩:=ybc BK143.out))
 go_loopg [14] k (fun kq v14 w'=>∃ (x14_1:Int),v14= .int .i64 x14_1∧Aside0 (impl_RuleValid.l0 kq a1 l0_1 (l0_1.length:Int) x14_1 a0_0 l0_1 a0_2=some r)∧Aside0 (kq≤k)∧Aside0 (w'.heap[gb143]?=some (.cells #[.int .i64 a0_0,(.slice A0_1 l0_1.length c0_1),.int .i64 a0_2] 73 (0,0)))∧Aside0 (Below w.heap.size w w'))
 case atStart=>exact ⟨(0),yeq,H,⟨Nat.le_refl _⟩,⟨ybk BK143.out⟩,⟨yhb⟩⟩
 case round =>
  clear H
  try clear hcz6_0
  try clear hcz6_1
  try clear hcz6_2
  try clear hfz6_0
  try clear hfz6_1
  try clear hfz6_2
  obtain ⟨x14_1,rfl,HA,HK1,BK143,HB⟩:=hrel
  rcases gk with _|k1
  ·exact absurd HA.out (by simp [impl_RuleValid.l0])
  obtain ⟨H⟩:=HA
  simp only [impl_RuleValid.l0] at H
  replace H:=yis H;obtain ⟨c7b0,H⟩ | ⟨c7b0,H⟩:=H
  ·replace H:=yif H;obtain ⟨c8b0,H⟩:=H
   replace H:=yif H;obtain ⟨c9b0,H⟩:=H
   replace H:=yis H;obtain ⟨c10b0,H⟩ | ⟨c10b0,H⟩:=H
   ·obtain rfl:=ysi H
    obtain ⟨ad145,e145,hx145_0,p145,q145⟩:=yat HR0_1.out x14_1
    cases e145
    replace hx145_0:=ybx HB.out hx145_0
    go_wp2
    go_ret
    exact ⟨yer,yhb⟩
   replace H:=yis H;obtain ⟨c11b0,H⟩ | ⟨c11b0,H⟩:=H
   ·obtain rfl:=ysi H
    obtain ⟨ad145,e145,hx145_0,p145,q145⟩:=yat HR0_1.out x14_1
    cases e145
    replace hx145_0:=ybx HB.out hx145_0
    go_wp2
    go_ret
    exact ⟨yer,yhb⟩
   have c12b0:=eq_true (ydt:0≤x14_1)
   replace H:=yig H;obtain ⟨c13,H⟩:=H
   have c13b0:=eq_true c13
   have c13b1:decide (x14_1≤(l0_1.length:Int))=true:=decide_eq_true c13
   clear c13
   replace H:=ybi H;obtain ⟨t147,A14,H⟩:=H
   try dsimp only at H
   cases t147
   rotate_left
   ·replace H:=ytt H
    obtain rfl:=ysi H
    obtain ⟨ad145,e145,hx145_0,p145,q145⟩:=yat HR0_1.out x14_1
    cases e145
    replace hx145_0:=ybx HB.out hx145_0
    obtain ⟨hcz16_0,hcz16_1,hcz16_2,hfz16_0,hfz16_1,hfz16_2⟩:=ybc BK143.out
    obtain ⟨i017,hi017,_,hsz17,_⟩:=info_parts info3
    obtain ⟨hcut17,hA17,hC17⟩:=print_take_of (P:=Try.prog) (Value.int .i64) 0 22 3 .i64 Try.underlying22 hi017 hsz17 (some ad145) c0_1 l0_1 x14_1 (ydt) (ydt) HC0_1.out
    have hl17_:(l0_1.take (x14_1:Int).toNat).length=(x14_1:Int).toNat:=by
     have e0_:0≤(x14_1:Int):=ydt
     have e1_:(x14_1:Int)≤(l0_1.length:Int):=ydt
     rw [List.length_take];omega
    have HR146:=yam (Kd.C_of_reads (h1:=fun _=>rfl) (hA17 _ (Kd.reads_of_C HR0_1.out)))
    have HC146:=yam hC17
    clear hA17 hC17 hi017 hsz17
    go_wp2_with (first|(go_at_call 89;(first|(with_reducible refine (slices_Contains_int_int.calls k1 _ _ (l0_1.take (x14_1:Int).toNat) (rd l0_1 x14_1) true _ ?side1 ?side2 A14.out).mono ?_)|(rw [← hl17_];(with_reducible refine (slices_Contains_int_int.calls k1 _ _ (l0_1.take (x14_1:Int).toNat) (rd l0_1 x14_1) true _ ?_ ?_ A14.out).mono ?_)));exact Kd.Cz ((Kd.C_below HR146.out HB.out));exact HC146.out;rintro e w' ⟨rfl,⟨nd,rfl⟩⟩))
    go_ret
    exact ⟨yer,yhb⟩
   replace H:=yff H
   replace H:=yam H
   obtain ⟨ad145,e145,hx145_0,p145,q145⟩:=yat HR0_1.out x14_1
   cases e145
   replace hx145_0:=ybx HB.out hx145_0
   obtain ⟨hcz18_0,hcz18_1,hcz18_2,hfz18_0,hfz18_1,hfz18_2⟩:=ybc BK143.out
   obtain ⟨i019,hi019,_,hsz19,_⟩:=info_parts info3
   obtain ⟨hcut19,hA19,hC19⟩:=print_take_of (P:=Try.prog) (Value.int .i64) 0 22 3 .i64 Try.underlying22 hi019 hsz19 (some ad145) c0_1 l0_1 x14_1 (ydt) (ydt) HC0_1.out
   have hl19_:(l0_1.take (x14_1:Int).toNat).length=(x14_1:Int).toNat:=by
    have e0_:0≤(x14_1:Int):=ydt
    have e1_:(x14_1:Int)≤(l0_1.length:Int):=ydt
    rw [List.length_take];omega
   have HR146:=yam (Kd.C_of_reads (h1:=fun _=>rfl) (hA19 _ (Kd.reads_of_C HR0_1.out)))
   have HC146:=yam hC19
   clear hA19 hC19 hi019 hsz19
   go_wp2_with (first|(go_at_call 89;(first|(with_reducible refine (slices_Contains_int_int.calls k1 _ _ (l0_1.take (x14_1:Int).toNat) (rd l0_1 x14_1) false _ ?side1 ?side2 A14.out).mono ?_)|(rw [← hl19_];(with_reducible refine (slices_Contains_int_int.calls k1 _ _ (l0_1.take (x14_1:Int).toNat) (rd l0_1 x14_1) false _ ?_ ?_ A14.out).mono ?_)));exact Kd.Cz ((Kd.C_below HR146.out HB.out));exact HC146.out;rintro e w' ⟨rfl,⟨nd,rfl⟩⟩))
   go_roundg k1
   case measure=>have:=HK1.out;omega
   case rel=>exact ⟨(wrap64 (x14_1 + 1)),yeq,H,⟨by have:=HK1.out;omega⟩,⟨ybk BK143.out⟩,⟨yhb⟩⟩
  replace H:=yit H;obtain ⟨c20,H⟩ | ⟨c20,H⟩:=H
  ·have c20b0:(a0_0 == 1)=true:=beq_iff_eq.mpr c20
   have c20b1:(a0_0 != 1)=false:=bne_eq_false_iff_eq.mpr c20
   clear c20
   replace H:=yit H;obtain ⟨c21,H⟩ | ⟨c21,H⟩:=H
   rotate_left
   ·have c21b0:decide (2≤(l0_1.length:Int))=false:=decide_eq_false c21
    have c21b1:decide (2≤l0_1.length)=false:=decide_eq_false (by omega)
    clear c21
    obtain rfl:=ysi H
    obtain ⟨hcz25_0,hcz25_1,hcz25_2,hfz25_0,hfz25_1,hfz25_2⟩:=ybc BK143.out
    go_wp2
    go_ret
    exact ⟨yer,yhb⟩
   have c21b0:decide (2≤(l0_1.length:Int))=true:=decide_eq_true c21
   have c21b1:decide (2≤l0_1.length)=true:=decide_eq_true (by omega)
   clear c21
   replace H:=yit H;obtain ⟨c22,H⟩ | ⟨c22,H⟩:=H
   ·have c22b0:decide ((l0_1.length:Int)≤4)=true:=decide_eq_true c22
    have c22b1:decide (l0_1.length≤4)=true:=decide_eq_true (by omega)
    clear c22
    obtain rfl:=ysi H
    obtain ⟨hcz23_0,hcz23_1,hcz23_2,hfz23_0,hfz23_1,hfz23_2⟩:=ybc BK143.out
    go_wp2
    go_ret
    exact ⟨yer,yhb⟩
   have c22b0:decide ((l0_1.length:Int)≤4)=false:=decide_eq_false c22
   have c22b1:decide (l0_1.length≤4)=false:=decide_eq_false (by omega)
   clear c22
   obtain rfl:=ysi H
   obtain ⟨hcz24_0,hcz24_1,hcz24_2,hfz24_0,hfz24_1,hfz24_2⟩:=ybc BK143.out
   go_wp2
   go_ret
   exact ⟨yer,yhb⟩
  have c20b0:(a0_0 == 1)=false:=beq_eq_false_iff_ne.mpr c20
  have c20b1:(a0_0 != 1)=true:=bne_iff_ne.mpr c20
  have HC26:=yam H
  clear H
  obtain ⟨hcz27_0,hcz27_1,hcz27_2,hfz27_0,hfz27_1,hfz27_2⟩:=ybc BK143.out
  go_upto_if 55 with (fail)
  go_cut [55] (fun v55 wc=>∃ (kq:Nat) (x55_25:Bool),v55= .bool x55_25∧Aside0 (impl_RuleValid.j1 kq a1 (l0_1.length:Int) a0_0 x55_25 a0_0 l0_1 a0_2=some r)∧Aside0 (kq≤k1)∧Aside0 (wc.heap[gb143]?=some (.cells #[.int .i64 a0_0,(.slice A0_1 l0_1.length c0_1),.int .i64 a0_2] 73 (0,0)))∧Aside0 (Below w.heap.size w wc))
  case first =>
   have H:=HC26.out
   clear HC26
   replace H:=yit H;obtain ⟨c28,H⟩ | ⟨c28,H⟩:=H
   rotate_left
   ·have c28b0:(a0_0 == 2)=false:=beq_eq_false_iff_ne.mpr c28
    have c28b1:(a0_0 != 2)=true:=bne_iff_ne.mpr c28
    (first|rw [c28b0]|(simp only [i64_w,i32_w];rw [c28b0])|skip)
    replace H:=yam H
    go_wp2
    go_meet
    case rel=>exact ⟨_,((a0_0 == 3)),yeq,H,⟨by have:=HK1.out;first|omega|exact Nat.le_refl _⟩,⟨ybk BK143.out⟩,⟨yhb⟩⟩
   have c28b0:(a0_0 == 2)=true:=beq_iff_eq.mpr c28
   have c28b1:(a0_0 != 2)=false:=bne_eq_false_iff_eq.mpr c28
   clear c28
   (first|rw [c28b0]|(simp only [i64_w,i32_w];rw [c28b0])|skip)
   replace H:=yam H
   go_wp2
   go_meet
   case rel=>exact ⟨_,((a0_0 == 2)),yeq,H,⟨by have:=HK1.out;first|omega|exact Nat.le_refl _⟩,⟨ybk BK143.out⟩,⟨yhb⟩⟩
  case rest =>
   clear HC26
   try clear c7b0
   try clear c20
   try clear c20b0
   try clear c20b1
   try clear hcz27_0
   try clear hcz27_1
   try clear hcz27_2
   try clear hfz27_0
   try clear hfz27_1
   try clear hfz27_2
   obtain ⟨kq,x55_25,rfl,HA,HJ25,BK143,HB⟩:=hcut
   rcases kq with _|kj25
   ·exact absurd HA.out (by simp [impl_RuleValid.j1])
   obtain ⟨H⟩:=HA
   simp only [impl_RuleValid.j1] at H
   cases x55_25
   rotate_left
   ·replace H:=ytt H
    replace H:=yit H;obtain ⟨c30,H⟩ | ⟨c30,H⟩:=H
    rotate_left
    ·have c30b0:decide (1≤(l0_1.length:Int))=false:=decide_eq_false c30
     have c30b1:decide (1≤l0_1.length)=false:=decide_eq_false (by omega)
     clear c30
     obtain rfl:=ysi H
     go_wp2
     go_ret
     exact ⟨yer,yhb⟩
    have c30b0:decide (1≤(l0_1.length:Int))=true:=decide_eq_true c30
    have c30b1:decide (1≤l0_1.length)=true:=decide_eq_true (by omega)
    clear c30
    replace H:=yit H;obtain ⟨c31,H⟩ | ⟨c31,H⟩:=H
    rotate_left
    ·have c31b0:decide ((l0_1.length:Int)≤4)=false:=decide_eq_false c31
     have c31b1:decide (l0_1.length≤4)=false:=decide_eq_false (by omega)
     clear c31
     obtain rfl:=ysi H
     go_wp2
     go_ret
     exact ⟨yer,yhb⟩
    have c31b0:decide ((l0_1.length:Int)≤4)=true:=decide_eq_true c31
    have c31b1:decide (l0_1.length≤4)=true:=decide_eq_true (by omega)
    clear c31
    replace H:=yis H;obtain ⟨c32b0,H⟩ | ⟨c32b0,H⟩:=H
    ·obtain rfl:=ysi H
     obtain ⟨hcz33_0,hcz33_1,hcz33_2,hfz33_0,hfz33_1,hfz33_2⟩:=ybc BK143.out
     go_wp2
     go_ret
     exact ⟨yer,yhb⟩
    obtain rfl:=ysi H
    obtain ⟨hcz34_0,hcz34_1,hcz34_2,hfz34_0,hfz34_1,hfz34_2⟩:=ybc BK143.out
    go_wp2
    go_ret
    exact ⟨yer,yhb⟩
   replace H:=yff H
   replace H:=yit H;obtain ⟨c35,H⟩ | ⟨c35,H⟩:=H
   ·have c35b0:(a0_0 == 4)=true:=beq_iff_eq.mpr c35
    have c35b1:(a0_0 != 4)=false:=bne_eq_false_iff_eq.mpr c35
    clear c35
    replace H:=yit H;obtain ⟨c36,H⟩ | ⟨c36,H⟩:=H
    rotate_left
    ·have c36b0:((l0_1.length:Int) == 2)=false:=beq_eq_false_iff_ne.mpr c36
     have c36b1:((l0_1.length:Int) != 2)=true:=bne_iff_ne.mpr c36
     obtain rfl:=ysi H
     go_wp2
     go_ret
     exact ⟨yer,yhb⟩
    have c36b0:((l0_1.length:Int) == 2)=true:=beq_iff_eq.mpr c36
    have c36b1:((l0_1.length:Int) != 2)=false:=bne_eq_false_iff_eq.mpr c36
    clear c36
    obtain rfl:=ysi H
    obtain ⟨hcz37_0,hcz37_1,hcz37_2,hfz37_0,hfz37_1,hfz37_2⟩:=ybc BK143.out
    go_wp2
    go_ret
    exact ⟨yer,yhb⟩
   have c35b0:(a0_0 == 4)=false:=beq_eq_false_iff_ne.mpr c35
   have c35b1:(a0_0 != 4)=true:=bne_iff_ne.mpr c35
   replace H:=yit H;obtain ⟨c38,H⟩ | ⟨c38,H⟩:=H
   rotate_left
   ·have c38b0:(a0_0 == 5)=false:=beq_eq_false_iff_ne.mpr c38
    have c38b1:(a0_0 != 5)=true:=bne_iff_ne.mpr c38
    obtain rfl:=ysi H
    go_wp2
    go_ret
    exact ⟨yer,yhb⟩
   have c38b0:(a0_0 == 5)=true:=beq_iff_eq.mpr c38
   have c38b1:(a0_0 != 5)=false:=bne_eq_false_iff_eq.mpr c38
   clear c38
   replace H:=yit H;obtain ⟨c39,H⟩ | ⟨c39,H⟩:=H
   rotate_left
   ·have c39b0:((l0_1.length:Int) == 2)=false:=beq_eq_false_iff_ne.mpr c39
    have c39b1:((l0_1.length:Int) != 2)=true:=bne_iff_ne.mpr c39
    obtain rfl:=ysi H
    go_wp2
    go_ret
    exact ⟨yer,yhb⟩
   have c39b0:((l0_1.length:Int) == 2)=true:=beq_iff_eq.mpr c39
   have c39b1:((l0_1.length:Int) != 2)=false:=bne_eq_false_iff_eq.mpr c39
   clear c39
   replace H:=yis H;obtain ⟨c40b0,H⟩ | ⟨c40b0,H⟩:=H
   ·obtain rfl:=ysi H
    obtain ⟨hcz41_0,hcz41_1,hcz41_2,hfz41_0,hfz41_1,hfz41_2⟩:=ybc BK143.out
    go_wp2
    go_ret
    exact ⟨yer,yhb⟩
   obtain rfl:=ysi H
   obtain ⟨hcz42_0,hcz42_1,hcz42_2,hfz42_0,hfz42_1,hfz42_2⟩:=ybc BK143.out
   go_wp2
   go_ret
   exact ⟨yer,yhb⟩
def impl_valuesHold.l0:Nat→List Int→Int→Int→List Int→Int→Int→Int→List Int→Int→Option (Bool)
 | 0,_,_,_,_,_,_,_,_,_=>none
 | k + 1,x1,x5,x6,x9,x10,x11,x154000,x154001,x154002=>if x11 < x10 then (if 0≤x11 then (if x11 < (x9.length:Int) then (if x154000=1 then (if x11≤(x1.length:Int) then ((slices_Contains_int_int.f k (x1.take (x11:Int).toNat) (rd x9 x11)).bind fun t156=>(if t156=true then (some false) else (impl_valuesHold.l0 k x1 (wrap64 (x5 + (rd x9 x11))) (wrap64 (x6 * (rd x9 x11))) x9 x10 (wrap64 (x11 + 1)) x154000 x154001 x154002))) else (none)) else (impl_valuesHold.l0 k x1 (wrap64 (x5 + (rd x9 x11))) (wrap64 (x6 * (rd x9 x11))) x9 x10 (wrap64 (x11 + 1)) x154000 x154001 x154002)) else (none)) else (none)) else (if x154000=2 then (some (x5 == x154002)) else (if x154000=3 then (some (x6 == x154002)) else (if x154000=4 then (if 0 < (x1.length:Int) then (if 1 < (x1.length:Int) then (some (decide ((rd x1 0) < (rd x1 1)))) else (none)) else (none)) else (if x154000=5 then (if 0 < (x1.length:Int) then (if 1 < (x1.length:Int) then (some ((mx (wrap64 ((rd x1 0) - (rd x1 1))) (wrap64 ((rd x1 1) - (rd x1 0)))) == x154002)) else (none)) else (none)) else (some true)))))
def impl_valuesHold.f (k:Nat)(a0_0:Int)(l0_1:List Int)(a0_2:Int)(l1:List Int):Option (Bool):=impl_valuesHold.l0 k l1 0 1 l1 (l1.length:Int) 0 a0_0 l0_1 a0_2
theorem impl_valuesHold.calls (k:Nat)(a0_0:Int)(A0_1:Option Addr)(c0_1:Nat)(l0_1:List Int)(a0_2:Int)(A1:Option Addr)(c1:Nat)(l1:List Int)(r:Bool)(w:World)(hr0_1:Kd.C (Kd.int .i64) w A0_1 l0_1.length l0_1)(hc0_1:l0_1.length≤c0_1)(hr1:Kd.C (Kd.int .i64) w A1 l1.length l1)(hc1:l1.length≤c1)(h:impl_valuesHold.f k a0_0 l0_1 a0_2 l1=some r) :
  Calls Try.prog 82 #[.agg #[.int .i64 a0_0,.slice A0_1 l0_1.length c0_1,.int .i64 a0_2],.slice A1 l1.length c1] w fun e w'=>e= .returned (.bool r)∧Below w.heap.size w w':=by
 have hu73:=Try.underlying73
 have HR0_1:=yam hr0_1
 have HC0_1:=yam hc0_1
 clear hr0_1 hc0_1
 have HR1:=yam hr1
 have HC1:=yam hc1
 clear hr1 hc1
 have HB:=yam (Below.refl w.heap.size w)
 unfold impl_valuesHold.f at h
 have H:=h
 clear h
 replace H:=yam H
 go_enter Try.func82,Try.ntmps82
 go_wp2_with (first|(refine ybe 2 #[.int .i64 a0_0,.slice A0_1 l0_1.length c0_1,.int .i64 a0_2] 73 ?_;intro gb153 hg w3 hbox hb;have BK153:=yam (hbox);have GW153:=yam ((by rw [hg];exact (below_size (yez HB.out)):w.heap.size≤gb153));replace HB:=yam (below_step (yez HB.out) hb);have GE153:=GW153;clear hb hbox hg))
 repeat (go_quiet (first|(refine ybe 2 #[.int .i64 a0_0,.slice A0_1 l0_1.length c0_1,.int .i64 a0_2] 73 ?_;intro gb153 hg w3 hbox hb;have BK153:=yam (hbox);have GW153:=yam ((by rw [hg];exact (below_size (yez HB.out)):w.heap.size≤gb153));replace HB:=yam (below_step (yez HB.out) hb);have GE153:=GW153;clear hb hbox hg));try go_wp2_with (first|(refine ybe 2 #[.int .i64 a0_0,.slice A0_1 l0_1.length c0_1,.int .i64 a0_2] 73 ?_;intro gb153 hg w3 hbox hb;have BK153:=yam (hbox);have GW153:=yam ((by rw [hg];exact (below_size (yez HB.out)):w.heap.size≤gb153));replace HB:=yam (below_step (yez HB.out) hb);have GE153:=GW153;clear hb hbox hg)))
 go_loopg [5,6,11] k (fun kq v5 v6 v11 w'=>∃ (x5_1:Int) (x6_1:Int) (x11_1:Int),v5= .int .i64 x5_1∧v6= .int .i64 x6_1∧v11= .int .i64 x11_1∧Aside0 (impl_valuesHold.l0 kq l1 x5_1 x6_1 l1 (l1.length:Int) x11_1 a0_0 l0_1 a0_2=some r)∧Aside0 (kq≤k)∧Aside0 (w'.heap[gb153]?=some (.cells #[.int .i64 a0_0,(.slice A0_1 l0_1.length c0_1),.int .i64 a0_2] 73 (0,0)))∧Aside0 (Below w.heap.size w w'))
 case atStart=>exact ⟨(0),(1),(0),yeq,yeq,yeq,H,⟨Nat.le_refl _⟩,⟨ybk BK153.out⟩,⟨yhb⟩⟩
 case round =>
  clear H
  try clear c1
  obtain ⟨x5_1,x6_1,x11_1,rfl,rfl,rfl,HA,HK1,BK153,HB⟩:=hrel
  rcases gk with _|k1
  ·exact absurd HA.out (by simp [impl_valuesHold.l0])
  obtain ⟨H⟩:=HA
  simp only [impl_valuesHold.l0] at H
  replace H:=yis H;obtain ⟨c4b0,H⟩ | ⟨c4b0,H⟩:=H
  rotate_left
  ·replace H:=yit H;obtain ⟨c17,H⟩ | ⟨c17,H⟩:=H
   ·have c17b0:(a0_0 == 2)=true:=beq_iff_eq.mpr c17
    have c17b1:(a0_0 != 2)=false:=bne_eq_false_iff_eq.mpr c17
    clear c17
    obtain rfl:=ysi H
    obtain ⟨hcz18_0,hcz18_1,hcz18_2,hfz18_0,hfz18_1,hfz18_2⟩:=ybc BK153.out
    go_wp2
    repeat (go_quiet (fail);try go_wp2)
    go_ret
    exact ⟨yer,yhb⟩
   have c17b0:(a0_0 == 2)=false:=beq_eq_false_iff_ne.mpr c17
   have c17b1:(a0_0 != 2)=true:=bne_iff_ne.mpr c17
   replace H:=yit H;obtain ⟨c19,H⟩ | ⟨c19,H⟩:=H
   ·have c19b0:(a0_0 == 3)=true:=beq_iff_eq.mpr c19
    have c19b1:(a0_0 != 3)=false:=bne_eq_false_iff_eq.mpr c19
    clear c19
    obtain rfl:=ysi H
    obtain ⟨hcz20_0,hcz20_1,hcz20_2,hfz20_0,hfz20_1,hfz20_2⟩:=ybc BK153.out
    go_wp2
    repeat (go_quiet (fail);try go_wp2)
    go_ret
    exact ⟨yer,yhb⟩
   have c19b0:(a0_0 == 3)=false:=beq_eq_false_iff_ne.mpr c19
   have c19b1:(a0_0 != 3)=true:=bne_iff_ne.mpr c19
   replace H:=yit H;obtain ⟨c21,H⟩ | ⟨c21,H⟩:=H
   ·have c21b0:(a0_0 == 4)=true:=beq_iff_eq.mpr c21
    have c21b1:(a0_0 != 4)=false:=bne_eq_false_iff_eq.mpr c21
    clear c21
    replace H:=yig H;obtain ⟨c22,H⟩:=H
    have c22b0:decide (0 < (l1.length:Int))=true:=decide_eq_true c22
    have c22b1:decide (0 < l1.length)=true:=decide_eq_true (by omega)
    clear c22
    replace H:=yig H;obtain ⟨c23,H⟩:=H
    have c23b0:decide (1 < (l1.length:Int))=true:=decide_eq_true c23
    have c23b1:decide (1 < l1.length)=true:=decide_eq_true (by omega)
    clear c23
    obtain rfl:=ysi H
    obtain ⟨hcz24_0,hcz24_1,hcz24_2,hfz24_0,hfz24_1,hfz24_2⟩:=ybc BK153.out
    have p157:0≤(0:Int):=(by omega)
    have q157:0 < (l1.length:Int):=ydt
    obtain ⟨ad157,e157,hx157_0⟩:=Kd.at_int HR1.out 0 p157 q157
    cases e157
    have qi157:(0 < l1.length)=True:=eq_true (by omega)
    (try rw [show ((0:Int)).toNat=0 from rfl] at hx157_0)
    (try rw [Addr.add_zero'] at hx157_0)
    replace hx157_0:=ybx HB.out hx157_0
    replace p157:=eq_true p157
    replace q157:=eq_true q157
    have p158:0≤(1:Int):=(by omega)
    have q158:1 < (l1.length:Int):=ydt
    obtain ⟨ad158,e158,hx158_0⟩:=Kd.at_int HR1.out 1 p158 q158
    obtain rfl:ad157=ad158:=(by injection e158)
    (try simp only [show (1:Int).toNat=1 from rfl,Nat.reduceMul,Nat.reduceEqDiff,Go.Addr.add,↓reduceIte] at hx158_0)
    have qi158:(1 < l1.length)=True:=eq_true (by omega)
    (try rw [show ((1:Int)).toNat=1 from rfl] at hx158_0)
    replace hx158_0:=ybx HB.out hx158_0
    replace p158:=eq_true p158
    replace q158:=eq_true q158
    go_wp2
    repeat (go_quiet (fail);try go_wp2)
    go_ret
    exact ⟨yer,yhb⟩
   have c21b0:(a0_0 == 4)=false:=beq_eq_false_iff_ne.mpr c21
   have c21b1:(a0_0 != 4)=true:=bne_iff_ne.mpr c21
   replace H:=yit H;obtain ⟨c25,H⟩ | ⟨c25,H⟩:=H
   rotate_left
   ·have c25b0:(a0_0 == 5)=false:=beq_eq_false_iff_ne.mpr c25
    have c25b1:(a0_0 != 5)=true:=bne_iff_ne.mpr c25
    obtain rfl:=ysi H
    obtain ⟨hcz30_0,hcz30_1,hcz30_2,hfz30_0,hfz30_1,hfz30_2⟩:=ybc BK153.out
    go_wp2
    repeat (go_quiet (fail);try go_wp2)
    go_ret
    exact ⟨yer,yhb⟩
   have c25b0:(a0_0 == 5)=true:=beq_iff_eq.mpr c25
   have c25b1:(a0_0 != 5)=false:=bne_eq_false_iff_eq.mpr c25
   clear c25
   replace H:=yig H;obtain ⟨c26,H⟩:=H
   have c26b0:decide (0 < (l1.length:Int))=true:=decide_eq_true c26
   have c26b1:decide (0 < l1.length)=true:=decide_eq_true (by omega)
   clear c26
   replace H:=yig H;obtain ⟨c27,H⟩:=H
   have c27b0:decide (1 < (l1.length:Int))=true:=decide_eq_true c27
   have c27b1:decide (1 < l1.length)=true:=decide_eq_true (by omega)
   clear c27
   obtain ⟨ji28,hji28⟩:∃ j_:Int,(mx (wrap64 ((rd l1 0) - (rd l1 1))) (wrap64 ((rd l1 1) - (rd l1 0))))=j_:=⟨_,rfl⟩
   replace H:(some ((ji28) == a0_2))=some r:=by first|(rw [hji28] at H;exact H)|(simp only [hji28] at H ⊢;exact H)
   have hji28_:(if (wrap64 ((rd l1 0) - (rd l1 1))) < (wrap64 ((rd l1 1) - (rd l1 0))) then (wrap64 ((rd l1 1) - (rd l1 0))) else (wrap64 ((rd l1 0) - (rd l1 1))))=ji28:=hji28
   obtain rfl:=ysi H
   obtain ⟨hcz29_0,hcz29_1,hcz29_2,hfz29_0,hfz29_1,hfz29_2⟩:=ybc BK153.out
   have p159:0≤(0:Int):=(by omega)
   have q159:0 < (l1.length:Int):=ydt
   obtain ⟨ad159,e159,hx159_0⟩:=Kd.at_int HR1.out 0 p159 q159
   cases e159
   have qi159:(0 < l1.length)=True:=eq_true (by omega)
   (try rw [show ((0:Int)).toNat=0 from rfl] at hx159_0)
   (try rw [Addr.add_zero'] at hx159_0)
   replace hx159_0:=ybx HB.out hx159_0
   replace p159:=eq_true p159
   replace q159:=eq_true q159
   have p160:0≤(1:Int):=(by omega)
   have q160:1 < (l1.length:Int):=ydt
   obtain ⟨ad160,e160,hx160_0⟩:=Kd.at_int HR1.out 1 p160 q160
   obtain rfl:ad159=ad160:=(by injection e160)
   (try simp only [show (1:Int).toNat=1 from rfl,Nat.reduceMul,Nat.reduceEqDiff,Go.Addr.add,↓reduceIte] at hx160_0)
   have qi160:(1 < l1.length)=True:=eq_true (by omega)
   (try rw [show ((1:Int)).toNat=1 from rfl] at hx160_0)
   replace hx160_0:=ybx HB.out hx160_0
   replace p160:=eq_true p160
   replace q160:=eq_true q160
   have p161:0≤(1:Int):=(by omega)
   have q161:1 < (l1.length:Int):=ydt
   obtain ⟨ad161,e161,hx161_0⟩:=Kd.at_int HR1.out 1 p161 q161
   obtain rfl:ad159=ad161:=(by injection e161)
   (try simp only [show (1:Int).toNat=1 from rfl,Nat.reduceMul,Nat.reduceEqDiff,Go.Addr.add,↓reduceIte] at hx161_0)
   have qi161:(1 < l1.length)=True:=eq_true (by omega)
   (try rw [show ((1:Int)).toNat=1 from rfl] at hx161_0)
   replace hx161_0:=ybx HB.out hx161_0
   replace p161:=eq_true p161
   replace q161:=eq_true q161
   have p162:0≤(0:Int):=(by omega)
   have q162:0 < (l1.length:Int):=ydt
   obtain ⟨ad162,e162,hx162_0⟩:=Kd.at_int HR1.out 0 p162 q162
   obtain rfl:ad159=ad162:=(by injection e162)
   have qi162:(0 < l1.length)=True:=eq_true (by omega)
   (try rw [show ((0:Int)).toNat=0 from rfl] at hx162_0)
   (try rw [Addr.add_zero'] at hx162_0)
   replace hx162_0:=ybx HB.out hx162_0
   replace p162:=eq_true p162
   replace q162:=eq_true q162
   go_wp2
   repeat (go_quiet (fail);try go_wp2)
   go_ret
   exact ⟨by first|rfl|(simp [errW_none,errW_some] <;> rfl)|(simp only [← hji28];first|rfl|(simp [errW_none,errW_some] <;> rfl))|(simp [*,errW_none,errW_some] <;> rfl),yhb⟩
  replace H:=yif H;obtain ⟨c5b0,H⟩:=H
  replace H:=yif H;obtain ⟨c6b0,H⟩:=H
  replace H:=yit H;obtain ⟨c7,H⟩ | ⟨c7,H⟩:=H
  rotate_left
  ·have c7b0:(a0_0 == 1)=false:=beq_eq_false_iff_ne.mpr c7
   have c7b1:(a0_0 != 1)=true:=bne_iff_ne.mpr c7
   replace H:=yam H
   obtain ⟨ad154,e154,hx154_0,p154,q154⟩:=yat HR1.out x11_1
   cases e154
   replace hx154_0:=ybx HB.out hx154_0
   obtain ⟨hcz16_0,hcz16_1,hcz16_2,hfz16_0,hfz16_1,hfz16_2⟩:=ybc BK153.out
   go_wp2
   repeat (go_quiet (fail);try go_wp2)
   go_roundg k1
   case measure=>have:=HK1.out;omega
   case rel=>exact ⟨(wrap64 (x5_1 + (rd l1 x11_1))),(wrap64 (x6_1 * (rd l1 x11_1))),(wrap64 (x11_1 + 1)),yeq,yeq,yeq,H,⟨by have:=HK1.out;omega⟩,⟨ybk BK153.out⟩,⟨yhb⟩⟩
  have c7b0:(a0_0 == 1)=true:=beq_iff_eq.mpr c7
  have c7b1:(a0_0 != 1)=false:=bne_eq_false_iff_eq.mpr c7
  clear c7
  have c8b0:=eq_true (ydt:0≤x11_1)
  replace H:=yig H;obtain ⟨c9,H⟩:=H
  have c9b0:=eq_true c9
  have c9b1:decide (x11_1≤(l1.length:Int))=true:=decide_eq_true c9
  clear c9
  replace H:=ybi H;obtain ⟨t156,A10,H⟩:=H
  try dsimp only at H
  cases t156
  rotate_left
  ·replace H:=ytt H
   obtain rfl:=ysi H
   obtain ⟨ad154,e154,hx154_0,p154,q154⟩:=yat HR1.out x11_1
   cases e154
   replace hx154_0:=ybx HB.out hx154_0
   obtain ⟨hcz12_0,hcz12_1,hcz12_2,hfz12_0,hfz12_1,hfz12_2⟩:=ybc BK153.out
   obtain ⟨i013,hi013,_,hsz13,_⟩:=info_parts info3
   obtain ⟨hcut13,hA13,hC13⟩:=print_take_of (P:=Try.prog) (Value.int .i64) 0 22 3 .i64 Try.underlying22 hi013 hsz13 (some ad154) c1 l1 x11_1 (ydt) (ydt) HC1.out
   have hl13_:(l1.take (x11_1:Int).toNat).length=(x11_1:Int).toNat:=by
    have e0_:0≤(x11_1:Int):=ydt
    have e1_:(x11_1:Int)≤(l1.length:Int):=ydt
    rw [List.length_take];omega
   have HR155:=yam (Kd.C_of_reads (h1:=fun _=>rfl) (hA13 _ (Kd.reads_of_C HR1.out)))
   have HC155:=yam hC13
   clear hA13 hC13 hi013 hsz13
   go_wp2_with (first|(go_at_call 89;(first|(with_reducible refine (slices_Contains_int_int.calls k1 _ _ (l1.take (x11_1:Int).toNat) (rd l1 x11_1) true _ ?side1 ?side2 A10.out).mono ?_)|(rw [← hl13_];(with_reducible refine (slices_Contains_int_int.calls k1 _ _ (l1.take (x11_1:Int).toNat) (rd l1 x11_1) true _ ?_ ?_ A10.out).mono ?_)));exact Kd.Cz ((Kd.C_below HR155.out HB.out));exact HC155.out;rintro e w' ⟨rfl,⟨nd,rfl⟩⟩;(try first|exact ⟨rfl,_,World.drewN_drewN _ _ _⟩|exact ⟨rfl,_,Eq.trans (World.drewN_drewN _ _ _) (congrArg (World.drewN _) (Nat.add_assoc _ _ _))⟩)))
   repeat (go_quiet (first|(go_at_call 89;(first|(with_reducible refine (slices_Contains_int_int.calls k1 _ _ (l1.take (x11_1:Int).toNat) (rd l1 x11_1) true _ ?side1 ?side2 A10.out).mono ?_)|(rw [← hl13_];(with_reducible refine (slices_Contains_int_int.calls k1 _ _ (l1.take (x11_1:Int).toNat) (rd l1 x11_1) true _ ?_ ?_ A10.out).mono ?_)));exact Kd.Cz ((Kd.C_below HR155.out HB.out));exact HC155.out;rintro e w' ⟨rfl,⟨nd,rfl⟩⟩;(try first|exact ⟨rfl,_,World.drewN_drewN _ _ _⟩|exact ⟨rfl,_,Eq.trans (World.drewN_drewN _ _ _) (congrArg (World.drewN _) (Nat.add_assoc _ _ _))⟩)));try go_wp2_with (first|(go_at_call 89;(first|(with_reducible refine (slices_Contains_int_int.calls k1 _ _ (l1.take (x11_1:Int).toNat) (rd l1 x11_1) true _ ?side1 ?side2 A10.out).mono ?_)|(rw [← hl13_];(with_reducible refine (slices_Contains_int_int.calls k1 _ _ (l1.take (x11_1:Int).toNat) (rd l1 x11_1) true _ ?_ ?_ A10.out).mono ?_)));exact Kd.Cz ((Kd.C_below HR155.out HB.out));exact HC155.out;rintro e w' ⟨rfl,⟨nd,rfl⟩⟩;(try first|exact ⟨rfl,_,World.drewN_drewN _ _ _⟩|exact ⟨rfl,_,Eq.trans (World.drewN_drewN _ _ _) (congrArg (World.drewN _) (Nat.add_assoc _ _ _))⟩))))
   go_ret
   exact ⟨yer,yhb⟩
  replace H:=yff H
  replace H:=yam H
  obtain ⟨ad154,e154,hx154_0,p154,q154⟩:=yat HR1.out x11_1
  cases e154
  replace hx154_0:=ybx HB.out hx154_0
  obtain ⟨hcz14_0,hcz14_1,hcz14_2,hfz14_0,hfz14_1,hfz14_2⟩:=ybc BK153.out
  obtain ⟨i015,hi015,_,hsz15,_⟩:=info_parts info3
  obtain ⟨hcut15,hA15,hC15⟩:=print_take_of (P:=Try.prog) (Value.int .i64) 0 22 3 .i64 Try.underlying22 hi015 hsz15 (some ad154) c1 l1 x11_1 (ydt) (ydt) HC1.out
  have hl15_:(l1.take (x11_1:Int).toNat).length=(x11_1:Int).toNat:=by
   have e0_:0≤(x11_1:Int):=ydt
   have e1_:(x11_1:Int)≤(l1.length:Int):=ydt
   rw [List.length_take];omega
  have HR155:=yam (Kd.C_of_reads (h1:=fun _=>rfl) (hA15 _ (Kd.reads_of_C HR1.out)))
  have HC155:=yam hC15
  clear hA15 hC15 hi015 hsz15
  go_wp2_with (first|(go_at_call 89;(first|(with_reducible refine (slices_Contains_int_int.calls k1 _ _ (l1.take (x11_1:Int).toNat) (rd l1 x11_1) false _ ?side1 ?side2 A10.out).mono ?_)|(rw [← hl15_];(with_reducible refine (slices_Contains_int_int.calls k1 _ _ (l1.take (x11_1:Int).toNat) (rd l1 x11_1) false _ ?_ ?_ A10.out).mono ?_)));exact Kd.Cz ((Kd.C_below HR155.out HB.out));exact HC155.out;rintro e w' ⟨rfl,⟨nd,rfl⟩⟩;(try first|exact ⟨rfl,_,World.drewN_drewN _ _ _⟩|exact ⟨rfl,_,Eq.trans (World.drewN_drewN _ _ _) (congrArg (World.drewN _) (Nat.add_assoc _ _ _))⟩)))
  repeat (go_quiet (first|(go_at_call 89;(first|(with_reducible refine (slices_Contains_int_int.calls k1 _ _ (l1.take (x11_1:Int).toNat) (rd l1 x11_1) false _ ?side1 ?side2 A10.out).mono ?_)|(rw [← hl15_];(with_reducible refine (slices_Contains_int_int.calls k1 _ _ (l1.take (x11_1:Int).toNat) (rd l1 x11_1) false _ ?_ ?_ A10.out).mono ?_)));exact Kd.Cz ((Kd.C_below HR155.out HB.out));exact HC155.out;rintro e w' ⟨rfl,⟨nd,rfl⟩⟩;(try first|exact ⟨rfl,_,World.drewN_drewN _ _ _⟩|exact ⟨rfl,_,Eq.trans (World.drewN_drewN _ _ _) (congrArg (World.drewN _) (Nat.add_assoc _ _ _))⟩)));try go_wp2_with (first|(go_at_call 89;(first|(with_reducible refine (slices_Contains_int_int.calls k1 _ _ (l1.take (x11_1:Int).toNat) (rd l1 x11_1) false _ ?side1 ?side2 A10.out).mono ?_)|(rw [← hl15_];(with_reducible refine (slices_Contains_int_int.calls k1 _ _ (l1.take (x11_1:Int).toNat) (rd l1 x11_1) false _ ?_ ?_ A10.out).mono ?_)));exact Kd.Cz ((Kd.C_below HR155.out HB.out));exact HC155.out;rintro e w' ⟨rfl,⟨nd,rfl⟩⟩;(try first|exact ⟨rfl,_,World.drewN_drewN _ _ _⟩|exact ⟨rfl,_,Eq.trans (World.drewN_drewN _ _ _) (congrArg (World.drewN _) (Nat.add_assoc _ _ _))⟩))))
  go_roundg k1
  case measure=>have:=HK1.out;omega
  case rel=>exact ⟨(wrap64 (x5_1 + (rd l1 x11_1))),(wrap64 (x6_1 * (rd l1 x11_1))),(wrap64 (x11_1 + 1)),yeq,yeq,yeq,H,⟨by have:=HK1.out;omega⟩,⟨ybk BK153.out⟩,⟨yhb⟩⟩
mutual
def impl_RuleHolds.j0:Nat→List Int→Bool→Int→List Int→Int→Option (Bool)
 | 0,_,_,_,_,_=>none
 | k + 1,x1,x19,x470000,x470001,x470002=>if x19=true then (some false) else (impl_RuleHolds.l0 k x1 (([]:List Int)) x470001 (x470001.length:Int) 0 x470000 x470001 x470002)
def impl_RuleHolds.l0:Nat→List Int→List Int→List Int→Int→Int→Int→List Int→Int→Option (Bool)
 | 0,_,_,_,_,_,_,_,_=>none
 | k + 1,x1,x7,x22,x23,x24,x470000,x470001,x470002=>if x24 < x23 then (if 0≤x24 then (if x24 < (x22.length:Int) then (if 0≤(rd x22 x24) then (if (rd x22 x24) < (x1.length:Int) then (if (rd x1 (rd x22 x24))=0 then (some false) else (if x7.length < 17592186044416 then (impl_RuleHolds.l0 k x1 (x7 ++ [rd x1 (rd x22 x24)]) x22 x23 (wrap64 (x24 + 1)) x470000 x470001 x470002) else (none))) else (none)) else (none)) else (none)) else (none)) else ((impl_valuesHold.f k x470000 x470001 x470002 x7).bind fun t481=>(some t481))
end
def impl_RuleHolds.f (k:Nat)(a0_0:Int)(l0_1:List Int)(a0_2:Int)(l1:List Int)(a2:Int):Option (Bool):=(impl_RuleValid.f k a0_0 l0_1 a0_2 a2).bind fun t470=>(if t470=true then ((impl_GridValid.f k l1 a2).bind fun t471=>(impl_RuleHolds.j0 k l1 (!t471) a0_0 l0_1 a0_2)) else (impl_RuleHolds.j0 k l1 true a0_0 l0_1 a0_2))
theorem impl_RuleHolds.calls (k:Nat)(a0_0:Int)(A0_1:Option Addr)(c0_1:Nat)(l0_1:List Int)(a0_2:Int)(A1:Option Addr)(c1:Nat)(l1:List Int)(a2:Int)(r:Bool)(w:World)(hr0_1:Kd.C (Kd.int .i64) w A0_1 l0_1.length l0_1)(hc0_1:l0_1.length≤c0_1)(hr1:Kd.C (Kd.int .i64) w A1 l1.length l1)(hc1:l1.length≤c1)(h:impl_RuleHolds.f k a0_0 l0_1 a0_2 l1 a2=some r) :
  Calls Try.prog 57 #[.agg #[.int .i64 a0_0,.slice A0_1 l0_1.length c0_1,.int .i64 a0_2],.slice A1 l1.length c1,.int .i64 a2] w fun e w'=>e= .returned (.bool r)∧Below w.heap.size w w':=by
 have hu73:=Try.underlying73
 have HR0_1:=yam hr0_1
 have HC0_1:=yam hc0_1
 clear hr0_1 hc0_1
 have HR1:=yam hr1
 have HC1:=yam hc1
 clear hr1 hc1
 have HB:=yam (Below.refl w.heap.size w)
 unfold impl_RuleHolds.f at h
 have H:=h
 clear h
 have HC4:=yam H
 clear H
 go_enter Try.func57,Try.ntmps57
 go_upto_region 1 with (first|(refine ybe 3 #[.int .i64 a0_0,.slice A0_1 l0_1.length c0_1,.int .i64 a0_2] 73 ?_;intro gb469 hg w5 hbox hb;have BK469:=yam (hbox);have GW469:=yam ((by rw [hg];exact (below_size (yez HB.out)):w.heap.size≤gb469));replace HB:=yam (below_step (yez HB.out) hb);have GE469:=GW469;clear hb hbox hg))
 (try simp only [Act.put,yps])
 go_cut [19] (fun v19 wc=>∃ (kq:Nat) (x19_3:Bool),v19= .bool x19_3∧Aside0 (impl_RuleHolds.j0 kq l1 x19_3 a0_0 l0_1 a0_2=some r)∧Aside0 (kq≤k)∧Aside0 (wc.heap[gb469]?=some (.cells #[.int .i64 a0_0,(.slice A0_1 l0_1.length c0_1),.int .i64 a0_2] 73 (0,0)))∧Aside0 (Below w.heap.size w wc))
 case first =>
  have H:=HC4.out
  clear HC4
  replace H:=ybi H;obtain ⟨t470,A6,H⟩:=H
  try dsimp only at H
  cases t470
  ·replace H:=yff H
   replace H:=yam H
   obtain ⟨hcz11_0,hcz11_1,hcz11_2,hfz11_0,hfz11_1,hfz11_2⟩:=ybc BK469.out
   go_wp2_with (first|(refine goesL_ (some 12) rfl rfl Try.func81 (by kernel_rfl) rfl #[.agg #[.int .i64 a0_0,.slice A0_1 l0_1.length c0_1,.int .i64 a0_2],.int .i64 a2] rfl ymd ?_;(with_reducible refine (impl_RuleValid.calls k a0_0 _ _ l0_1 a0_2 a2 false _ ?_ ?_ A6.out).mono ?_);exact Kd.Cz ((Kd.C_below HR0_1.out HB.out));exact HC0_1.out;rintro e w12 ⟨rfl,hb⟩;refine ⟨_,rfl,?_⟩;replace BK469:=yam (ybb BK469.out hb);replace HB:=yam (below_step yhb hb);(try clear hb)))
   go_meet
   case rel=>exact ⟨_,(true),yeq,H,⟨by first|omega|exact Nat.le_refl _⟩,⟨ybk BK469.out⟩,⟨yhb⟩⟩
  replace H:=ytt H
  replace H:=ybi H;obtain ⟨t471,A8,H⟩:=H
  try dsimp only at H
  replace H:=yam H
  obtain ⟨hcz9_0,hcz9_1,hcz9_2,hfz9_0,hfz9_1,hfz9_2⟩:=ybc BK469.out
  go_wp2_with (first|(refine goesL_ (some 12) rfl rfl Try.func81 (by kernel_rfl) rfl #[.agg #[.int .i64 a0_0,.slice A0_1 l0_1.length c0_1,.int .i64 a0_2],.int .i64 a2] rfl ymd ?_;(with_reducible refine (impl_RuleValid.calls k a0_0 _ _ l0_1 a0_2 a2 true _ ?_ ?_ A6.out).mono ?_);exact Kd.Cz ((Kd.C_below HR0_1.out HB.out));exact HC0_1.out;rintro e w10 ⟨rfl,hb⟩;refine ⟨_,rfl,?_⟩;replace BK469:=yam (ybb BK469.out hb);replace HB:=yam (below_step yhb hb);(try clear hb))|(go_at_call 76;(with_reducible refine (impl_GridValid.calls k _ _ l1 a2 t471 _ ?_ ?_ A8.out).mono ?_);exact Kd.Cz ((Kd.C_below HR1.out HB.out));exact HC1.out;rintro e w' ⟨rfl,⟨nd,rfl⟩⟩))
  go_meet
  case rel=>exact ⟨_,(!t471),yeq,H,⟨by first|omega|exact Nat.le_refl _⟩,⟨ybk BK469.out⟩,⟨yhb⟩⟩
 case rest =>
  clear HC4
  try clear c1
  obtain ⟨kq,x19_3,rfl,HA,HJ3,BK469,HB⟩:=hcut
  rcases kq with _|kj3
  ·exact absurd HA.out (by simp [impl_RuleHolds.j0])
  obtain ⟨H⟩:=HA
  simp only [impl_RuleHolds.j0] at H
  cases x19_3
  rotate_left
  ·replace H:=ytt H
   obtain rfl:=ysi H
   go_wp2
   go_ret
   exact ⟨yer,yhb⟩
  replace H:=yff H
  obtain ⟨y472,Ny472⟩:∃ y_:List Int,Aside0 (y_=(([]:List Int))):=⟨_,⟨rfl⟩⟩
  replace H:(impl_RuleHolds.l0 kj3 l1 y472 l0_1 (l0_1.length:Int) 0 a0_0 l0_1 a0_2)=some r:=yhn Ny472.out H
  replace H:=yam H
  go_wp2_with (first|((with_reducible refine gate_dst (N:=20) rfl ?_);refine Kd.R_lit (Kd.int .i64) _ 3 ?hg (N:=20) ?hd (xs:=([]:List Int)) (inner:=[]) (ok:=fun _=>True) (okp:=fun _=>True) ?hr ?hp (fun _ hk=>hk) trivial (Below.refl _ _) (Nat.le_refl _) (by simp) ?_;(case hd=>rfl);(case hg=>rfl);(case hr=>first|(go_simp;done)|(go_simp;rfl));(case hp=>exact (Reps.none _ _));intro v473 w14 ho15 hb hg_ hnew_;clear hg_ hnew_;(first|rw [← Ny472.out] at ho15|(simp only [Int.reduceToNat] at ho15;rw [← Ny472.out] at ho15));have HO474:=yam (Kd.R_lower ho15 (below_size yhb));replace BK469:=yam (ybb BK469.out hb);replace HB:=yam (below_step yhb hb);clear hb ho15;obtain ⟨hcz16_0,hcz16_1,hcz16_2,hfz16_0,hfz16_1,hfz16_2⟩:=ybc BK469.out))
  go_loopg [7,24] kj3 (fun kq v7 v24 w'=>∃ (x7_2:List Int) (x24_2:Int),v24= .int .i64 x24_2∧Aside0 (impl_RuleHolds.l0 kq l1 x7_2 l0_1 (l0_1.length:Int) x24_2 a0_0 l0_1 a0_2=some r)∧Aside0 (kq≤kj3)∧Aside0 (Kd.R (Kd.int .i64) 3 w' w.heap.size (fun _=>True) v7 x7_2)∧Aside0 (w'.heap[gb469]?=some (.cells #[.int .i64 a0_0,(.slice A0_1 l0_1.length c0_1),.int .i64 a0_2] 73 (0,0)))∧Aside0 (Below w.heap.size w w'))
  case atStart=>exact ⟨(y472),(0),yeq,H,⟨Nat.le_refl _⟩,⟨yka HO474.out⟩,⟨ybk BK469.out⟩,⟨yhb⟩⟩
  case round =>
   clear H
   try clear hcz16_0
   try clear hcz16_1
   try clear hcz16_2
   try clear hfz16_0
   try clear hfz16_1
   try clear hfz16_2
   obtain ⟨x7_2,x24_2,rfl,HA,HK2,HO_7,BK469,HB⟩:=hrel
   rcases gk with _|k2
   ·exact absurd HA.out (by simp [impl_RuleHolds.l0])
   obtain ⟨H⟩:=HA
   simp only [impl_RuleHolds.l0] at H
   replace H:=yis H;obtain ⟨c17b0,H⟩ | ⟨c17b0,H⟩:=H
   rotate_left
   ·replace H:=ybi H;obtain ⟨t481,A25,H⟩:=H
    try dsimp only at H
    obtain rfl:=ysi H
    obtain ⟨hcz26_0,hcz26_1,hcz26_2,hfz26_0,hfz26_1,hfz26_2⟩:=ybc BK469.out
    obtain ⟨Ao27,co27,eo27⟩:=Kd.R_slice HO_7.out
    subst eo27
    go_wp2_with (first|(refine goesL_ (some 43) rfl rfl Try.func82 (by kernel_rfl) rfl #[.agg #[.int .i64 a0_0,.slice A0_1 l0_1.length c0_1,.int .i64 a0_2],.slice Ao27 x7_2.length co27] rfl ymd ?_;(with_reducible refine (impl_valuesHold.calls k2 a0_0 _ _ l0_1 a0_2 _ _ x7_2 t481 _ ?_ ?_ ?_ ?_ A25.out).mono ?_);exact Kd.Cz ((Kd.C_below HR0_1.out HB.out));exact HC0_1.out;exact Kd.Cz (Kd.Yr HO_7.out).2.2;exact (Kd.Yr HO_7.out).2.1;rintro e w28 ⟨rfl,hb⟩;refine ⟨_,rfl,?_⟩;replace HO_7:=yam (Kd.R_below (Kd.Yz HO_7.out) hb);replace BK469:=yam (ybb BK469.out hb);replace HB:=yam (below_step yhb hb);(try clear hb)))
    go_ret
    exact ⟨yer,yhb⟩
   replace H:=yif H;obtain ⟨c18b0,H⟩:=H
   replace H:=yif H;obtain ⟨c19b0,H⟩:=H
   replace H:=yif H;obtain ⟨c20b0,H⟩:=H
   replace H:=yif H;obtain ⟨c21b0,H⟩:=H
   replace H:=yit H;obtain ⟨c22,H⟩ | ⟨c22,H⟩:=H
   ·have c22b0:((rd l1 (rd l0_1 x24_2)) == 0)=true:=beq_iff_eq.mpr c22
    have c22b1:((rd l1 (rd l0_1 x24_2)) != 0)=false:=bne_eq_false_iff_eq.mpr c22
    clear c22
    obtain rfl:=ysi H
    obtain ⟨ad475,e475,hx475_0,p475,q475⟩:=yat HR0_1.out x24_2
    cases e475
    replace hx475_0:=ybx HB.out hx475_0
    obtain ⟨ad476,e476,hx476_0,p476,q476⟩:=yat HR1.out (rd l0_1 x24_2)
    cases e476
    replace hx476_0:=ybx HB.out hx476_0
    go_wp2
    go_ret
    exact ⟨yer,yhb⟩
   have c22b0:((rd l1 (rd l0_1 x24_2)) == 0)=false:=beq_eq_false_iff_ne.mpr c22
   have c22b1:((rd l1 (rd l0_1 x24_2)) != 0)=true:=bne_iff_ne.mpr c22
   replace H:=yig H;obtain ⟨c23,H⟩:=H
   have LMc23:=yam c23
   clear c23
   obtain ⟨y478,Ny478⟩:∃ y_:List Int,Aside0 (y_=(x7_2 ++ [rd l1 (rd l0_1 x24_2)])):=⟨_,⟨rfl⟩⟩
   replace H:(impl_RuleHolds.l0 k2 l1 y478 l0_1 (l0_1.length:Int) (wrap64 (x24_2 + 1)) a0_0 l0_1 a0_2)=some r:=yhn Ny478.out H
   replace H:=yam H
   obtain ⟨ad475,e475,hx475_0,p475,q475⟩:=yat HR0_1.out x24_2
   cases e475
   replace hx475_0:=ybx HB.out hx475_0
   obtain ⟨ad476,e476,hx476_0,p476,q476⟩:=yat HR1.out (rd l0_1 x24_2)
   cases e476
   replace hx476_0:=ybx HB.out hx476_0
   obtain ⟨ad477,e477,hx477_0,p477,q477⟩:=yat HR1.out (rd l0_1 x24_2)
   obtain rfl:ad476=ad477:=(by injection e477)
   replace hx477_0:=ybx HB.out hx477_0
   go_wp2_with (first|((with_reducible refine gate_builtin (b:= .append) (xs:= #[.tmp 33,.tmp 38]) rfl ?_);at_builtin;refine Kd.R_append (Kd.int .i64) (w0:=w) w.heap.size rfl (.tmp 33) (.tmp 38) 22 3 (.int .i64 0) 8 rfl Try.underlying22 info3 rfl (by decide) (by omega) u7 x7_2 (rd l1 (rd l0_1 x24_2)) [.int .i64 (rd l1 (rd l0_1 x24_2))] (fun _=>True) (fun _=>False) rfl rfl ?aP (fun _ hk=>hk.elim) ?aF ?aO ?aB ?aS ?aL ?_;(case aP=>exact rfl);(case aB=>exact yhb);(case aF=>exact (fun _ _=>trivial));(case aO=>exact (Kd.Yz HO_7.out));(case aS=>exact (below_size yhb));(case aL=>have:=LMc23.out;omega);intro v479 w24 ho hb hg hat;rw [← Ny478.out] at ho;replace BK469:=yam (blk_grown (g:=gb469) (o:= .cells #[.int .i64 a0_0,.slice (some ad475) l0_1.length c0_1,.int .i64 a0_2] 73 (0,0)) (ybz BK469.out) hg (Kd.R_ne HO_7.out BK469.out (by decide)));replace HB:=yam (hb);have HO480:=yam (ho);clear HO_7;clear ho hb hg hat))
   go_roundg k2
   case measure=>have:=HJ3.out;have:=HK2.out;omega
   case rel=>exact ⟨(y478),(wrap64 (x24_2 + 1)),yeq,H,⟨by have:=HJ3.out;have:=HK2.out;omega⟩,⟨yka HO480.out⟩,⟨ybk BK469.out⟩,⟨yhb⟩⟩
def slices_Clone_int_int.f (l0:List Int):Option (List Int):=if l0.length < 17592186044416 then some l0 else none
theorem slices_Clone_int_int.calls (A0:Option Addr)(c0:Nat)(l0:List Int)(r:List Int)(w:World)(hr0:Kd.C (Kd.int .i64) w A0 l0.length l0)(hc0:l0.length≤c0)(h:slices_Clone_int_int.f l0=some r) :
  Calls Try.prog 47 #[.slice A0 l0.length c0] w fun e w'=>∃ v0_:Value,e= .returned (v0_)∧Kd.R (Kd.int .i64) 3 w' w.heap.size (fun _=>True) v0_ r∧Below w.heap.size w w':=by
 have hcl:l0=r∧l0.length < 17592186044416:=by
  unfold slices_Clone_int_int.f at h
  by_cases hc:l0.length < 17592186044416
  ·rw [if_pos hc] at h;exact ⟨Option.some.inj h,hc⟩
  ·rw [if_neg hc] at h;exact absurd h (by simp)
 clear h
 obtain ⟨rfl,hlim⟩:=hcl
 have HR0:=yam hr0
 have HC0:=yam hc0
 have HLM:=yam hlim
 clear hr0 hc0 hlim
 have HB:=yam (Below.refl w.heap.size w)
 have hnil:=fun (W:World) (A:Option Addr) (n c:Nat)=>Lib.run_eql_slice_nil (P:=Try.prog) W 22 3 A n c 0 0 Try.underlying22
 cases A0 with
 | none =>
  have hl:l0=[]:=by
   cases l0 with
   | nil=>rfl
   | cons x t =>
    obtain ⟨ad,e,_⟩:=Kd.at_int HR0.out 0 (by decide) (by simp only [List.length_cons];omega)
    cases e
  subst hl
  go_enter Try.func47,Try.ntmps47
  go_wp2
  go_ret
  exact ⟨.slice none 0 0,rfl,Kd.R_nil _ _ _ _ _,Below.refl _ _⟩
 | some ad =>
  obtain ⟨y361,hy361⟩:∃ y_:List Int,y_=(([]:List Int)):=⟨_,rfl⟩
  have Ny361:=yam hy361
  clear hy361
  go_enter Try.func47,Try.ntmps47
  go_wp2_with (first|((with_reducible refine gate_dst (N:=5) rfl ?_);refine Kd.R_lit (Kd.int .i64) _ 3 ?hg (N:=5) ?hd (xs:=([]:List Int)) (inner:=[]) (ok:=fun _=>True) (okp:=fun _=>True) ?hr ?hp (fun _ hk=>hk) trivial (Below.refl _ _) (Nat.le_refl _) (by simp) ?_;(case hd=>rfl);(case hg=>rfl);(case hr=>first|(go_simp;done)|(go_simp;rfl));(case hp=>exact (Reps.none _ _));intro v362 w3 ho4 hb hg_ hnew_;clear hg_ hnew_;rw [← Ny361.out] at ho4;have HO363:=yam (Kd.R_lower ho4 (below_size (by repeat (first|(with_reducible first|exact HB.out|apply below_alloc|apply pw_below_drewN|apply below_drew1)|exact HB.out))));replace HB:=yam (below_step (by repeat (first|(with_reducible first|exact HB.out|apply below_alloc|apply pw_below_drewN|apply below_drew1)|exact HB.out)) hb);clear hb ho4)|((with_reducible refine gate_builtin (b:= .append) (xs:= #[.tmp 5,.tmp 6]) rfl ?_);at_builtin;refine Kd.R_append_rows (Kd.int .i64) (w0:=w) w.heap.size rfl (.tmp 5) (.tmp 6) 22 3 (.int .i64 0) 8 rfl Try.underlying22 info3 rfl (by decide) (by omega) v362 y361 l0 _ _ _ (fun _=>True) (fun _=>False) rfl rfl ?aO ?aR (fun _ _ h=>h) (fun _ h=>h.elim) ?aF ?aB ?aS ?aL ?_;(case aR=>repeat (first|exact (Kd.C_below HR0.out HB.out)|(with_reducible refine Kd.C_alloc ?_ _)|(with_reducible refine Kd.C_drewN ?_ _)|(with_reducible refine Kd.C_drew ?_)));(case aB=>exact (by repeat (first|(with_reducible first|exact HB.out|apply below_alloc|apply pw_below_drewN|apply below_drew1)|exact HB.out)));(case aF=>exact (fun _ _=>trivial));(case aO=>exact (by (with_reducible repeat (first|apply Kd.R_alloc|apply Kd.R_drewN|apply Kd.R_drew));exact HO363.out));(case aS=>exact (below_size (by repeat (first|(with_reducible first|exact HB.out|apply below_alloc|apply pw_below_drewN|apply below_drew1)|exact HB.out))));(case aL=>have:=HLM.out;rw [Ny361.out];simp only [List.length_nil];omega);intro v365 w5 ho hb hg hat;rw [Ny361.out,List.nil_append] at ho;replace HB:=yam (hb);have HO366:=yam (ho);clear HO363;clear ho hb hg hat))
  go_ret
  exact ⟨_,rfl,by (with_reducible repeat (first|apply Kd.R_alloc|apply Kd.R_drewN|apply Kd.R_drew));exact HO366.out,by repeat (first|(with_reducible first|exact HB.out|apply below_alloc|apply pw_below_drewN|apply below_drew1)|exact HB.out)⟩
end Go.Proofs.Ytmjbnghhfadapaa.P
