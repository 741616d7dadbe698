/- The machine's side: each Go function as a plain Lean function and the proof that the machine's call does what that function says; written by this session's own program over the kit's print. -/
import Derived.Test.YtmjbnghhfadapaaZP1
import Derived.Test.YtmjbnghhfadapaaZP2
import Derived.Test.YtmjbnghhfadapaaZP4
namespace Go.Proofs.Ytmjbnghhfadapaa.P
set_option maxHeartbeats 8000000
set_option maxRecDepth 100000
open Go.RowKit Go.Proofs.YtmjbnghhfadapaaW.PrintWords Go.Proofs.YtmjbnghhfadapaaW.PrintLast Go.Proofs.YtmjbnghhfadapaaW.PrintMore
attribute [local go_sem] max2_int min2_int max_two min_two max_three min_three max_four min_four   -- for this text's walks alone
set_option linter.unusedVariables false
set_option linter.unusedSimpArgs false
mutual
def spec_MakeEven.j0:Nat→Bool→Int→List Int→List (S73)→Option (Int × List Int × (List (S73)) × Bool)
 | 0,_,_,_,_=>none
 | k + 1,x17,x717000,x717001,x717002=>if x17=true then (some (0,([]:List Int),([]:List (S73)),false)) else ((some (([]:List Int):List Int)).bind fun y727=>(if y727.length + x717001.length < 17592186044416 then ((some (y727 ++ x717001:List Int)).bind fun y730=>((some (([]:List (S73)):List (S73))).bind fun y733=>(if y733.length + x717002.length < 3518437208883 then (spec_MakeEven.l0 k (wrap64 ((y730.length:Int) - 1)) 0 x717000 y730 (y733 ++ x717002)) else (none)))) else (none)))
def spec_MakeEven.l0:Nat→Int→Int→Int→List Int→List (S73)→Option (Int × List Int × (List (S73)) × Bool)
 | 0,_,_,_,_,_=>none
 | k + 1,x5,x6,x740000,x740001,x740002=>if x6≤(wrap64 (x5 - x6)) then ((spec_l10Without.f x740000 x740001 x740002 x6).bind fun bt740=>((spec_l10Without.f bt740.1 bt740.2.1 bt740.2.2 (wrap64 (x5 - x6))).bind fun bt747=>(if 0≤x6 then (if x6 < (x740001.length:Int) then (if 0≤(wrap64 (x5 - x6)) then (if (wrap64 (x5 - x6)) < (x740001.length:Int) then (if (wrap64 ((rd x740001 x6) + (rd x740001 (wrap64 (x5 - x6))))) > 0 then ((spec_l10One.f k bt747.1 bt747.2.1 bt747.2.2).bind fun t757=>(if t757=true then (spec_MakeEven.l0 k x5 (wrap64 (x6 + 1)) bt747.1 bt747.2.1 bt747.2.2) else (spec_MakeEven.l0 k x5 (wrap64 (x6 + 1)) x740000 x740001 x740002))) else (spec_MakeEven.l0 k x5 (wrap64 (x6 + 1)) x740000 x740001 x740002)) else (none)) else (none)) else (none)) else (none)))) else (some (x740000,x740001,x740002,true))
end
def spec_MakeEven.f (k:Nat)(a0_0:Int)(l0_1:List Int)(l0_2:List (S73)):Option (Int × List Int × (List (S73)) × Bool):=(spec_l1OwnPuzzle.f k a0_0 l0_1 l0_2).bind fun bt718=>((spec_PuzzleValid.f k bt718.1 bt718.2.1 bt718.2.2).bind fun t725=>(if t725=true then ((spec_l10One.f k bt718.1 bt718.2.1 bt718.2.2).bind fun t726=>(spec_MakeEven.j0 k (!t726) bt718.1 bt718.2.1 bt718.2.2)) else (spec_MakeEven.j0 k true bt718.1 bt718.2.1 bt718.2.2)))
def spec_MakeEven.T4:Bool × List (List Nat × List Nat):=(true,[([],[]),([0],[0]),([],[]),([],[]),([3],[3]),([2,4],[2,4]),([],[]),([],[]),([7],[7]),([6,8,5],[6,8]),([1,5,9],[1,5,9]),([],[]),([11,10,9,0,1,2,3,4,5,6,7,8,9,10,11],[10,11])])
def spec_MakeEven.B4:List Nat:=[0,1,0,0,8,28,0,0,128,508,1023,0,4095]
theorem spec_MakeEven.tab4:rtab .any (opsOf Try.f40 4)=spec_MakeEven.T4:=by kernel_rfl
theorem spec_MakeEven.bits4:waitsOk spec_MakeEven.T4.2 spec_MakeEven.B4=true:=by kernel_rfl
def spec_MakeEven.T10:Bool × List (List Nat × List Nat):=(true,[([],[]),([0],[0]),([],[]),([1,2],[1,2]),([3],[3]),([],[]),([5],[5]),([],[]),([],[]),([7,8],[7,8]),([6,9],[6,9]),([10],[10]),([4,11],[4,11]),([12],[12]),([13],[13]),([14],[14]),([15,14,14],[14,15]),([14,16],[14,16])])
def spec_MakeEven.B10:List Nat:=[0,1,0,7,15,0,32,0,0,384,992,2016,4095,8191,16383,32767,65535,131071]
theorem spec_MakeEven.tab10:rtab .any (opsOf Try.f40 10)=spec_MakeEven.T10:=by kernel_rfl
theorem spec_MakeEven.bits10:waitsOk spec_MakeEven.T10.2 spec_MakeEven.B10=true:=by kernel_rfl
theorem spec_MakeEven.calls (k:Nat)(a0_0:Int)(A0_1:Option Addr)(c0_1:Nat)(l0_1:List Int)(A0_2:Option Addr)(c0_2:Nat)(l0_2:List (S73))(r1:Int)(r2:List Int)(r3:List (S73))(r4:Bool)(w:World)(hr0_1:Kd.C (Kd.int .i64) w A0_1 l0_1.length l0_1)(hc0_1:l0_1.length≤c0_1)(hr0_2:Kd.C k73 w A0_2 l0_2.length l0_2)(hc0_2:l0_2.length≤c0_2)(h:spec_MakeEven.f k a0_0 l0_1 l0_2=some (r1,r2,r3,r4)) :
  Calls Try.prog 40 #[.agg #[.int .i64 a0_0,.slice A0_1 l0_1.length c0_1,.slice A0_2 l0_2.length c0_2]] w fun e w'=>∃ v1_ v2_:Value,e= .returned (.tuple #[.agg #[.int .i64 r1,v1_,v2_],.bool r4])∧Kd.R (Kd.int .i64) 3 w' w.heap.size (fun k_=>(w.heap.size≤k_)) v1_ r2∧Kd.V k73 73 w' w.heap.size (fun k_=>(w.heap.size≤k_)∧some k_≠(v1_:Value).ownBlock) v2_ r3∧Below w.heap.size w w':=by
 have hu37:=Try.underlying37
 have HR0_1:=yam hr0_1
 have HC0_1:=yam hc0_1
 clear hr0_1 hc0_1
 have HR0_2:=yam hr0_2
 have HC0_2:=yam hc0_2
 clear hr0_2 hc0_2
 have HB:=yam (Below.refl w.heap.size w)
 unfold spec_MakeEven.f at h
 have H:=h
 clear h
 replace H:=ybi H;obtain ⟨⟨t718,t719,t722⟩,A2,H⟩:=H
 replace H:((spec_PuzzleValid.f k t718 t719 t722).bind fun t725=>(if t725=true then ((spec_l10One.f k t718 t719 t722).bind fun t726=>(spec_MakeEven.j0 k (!t726) t718 t719 t722)) else (spec_MakeEven.j0 k true t718 t719 t722)))=some (r1,r2,r3,r4):=H
 have HC3:=yam H
 clear H
 go_enter Try.func40,Try.ntmps40
 go_upto_region 2 with (first|(refine ybe 1 #[.int .i64 a0_0,.slice A0_1 l0_1.length c0_1,.slice A0_2 l0_2.length c0_2] 37 ?_;intro gb716 hg w4 hbox hb;have BK716:=yam (hbox);have GW716:=yam ((by rw [hg];exact (below_size (yez HB.out)):w.heap.size≤gb716));replace HB:=yam (below_step (yez HB.out) hb);have GE716:=GW716;clear hb hbox hg)|(refine ybe 2 #[.int .i64 0,.slice none 0 0,.slice none 0 0] 37 ?_;intro gb717 hg w5 hbox hb;have BK717:=yam (hbox);have GW717:=yam ((by rw [hg];exact (below_size yhb):w.heap.size≤gb717));replace HB:=yam (below_step yhb hb);have GE717:=GW717;have NB716_717:=yam ((by rw [hg];exact Nat.ne_of_lt (blk_lt (g:=gb716) (o:= .cells #[.int .i64 a0_0,.slice A0_1 l0_1.length c0_1,.slice A0_2 l0_2.length c0_2] 37 (0,0)) (ybz BK716.out)):gb716≠gb717));have NB717_716:=yam ((by rw [hg];exact Nat.ne_of_gt (blk_lt (g:=gb716) (o:= .cells #[.int .i64 a0_0,.slice A0_1 l0_1.length c0_1,.slice A0_2 l0_2.length c0_2] 37 (0,0)) (ybz BK716.out)):gb717≠gb716));replace BK716:=yam (ybb BK716.out hb);clear hb hbox hg;have hnb6:=NB716_717.out;have hnc6:=NB717_716.out;obtain ⟨hcz7_0,hcz7_1,hcz7_2,hfz7_0,hfz7_1,hfz7_2⟩:=ybc BK716.out)|(refine goesL_ (some 9) rfl rfl Try.func70 (by kernel_rfl) rfl #[.agg #[.int .i64 a0_0,.slice A0_1 l0_1.length c0_1,.slice A0_2 l0_2.length c0_2]] rfl ymd ?_;(with_reducible refine (spec_l1OwnPuzzle.calls k a0_0 _ _ l0_1 _ _ l0_2 t718 t719 t722 _ ?_ ?_ ?_ ?_ A2.out).mono ?_);exact Kd.Cz ((Kd.C_below HR0_1.out HB.out));exact HC0_1.out;exact Kd.Cz ((Kd.C_below HR0_2.out HB.out));exact HC0_2.out;rintro e w8 ⟨v720,v723,rfl,ho0,ho1,hb⟩;refine ⟨_,rfl,?_⟩;have HO721:=yam (Kd.R_lower (Kd.R_newM (M:=fun k_=>(w.heap.size≤k_)) ho0 (below_size yhb) (fun k_ h_=>h_)) (below_size yhb));have HO724:=yam (Kd.N_lower (Kd.N_mono (ok':=fun k_=>(w.heap.size≤k_)∧some k_≠(v720:Value).ownBlock∧k_≠gb716∧k_≠gb717) (Kd.S_N (Kd.S_bound ho1)) (fun k_ hk_=>⟨(Nat.le_trans (below_size yhb) hk_.2.1),hk_.1,(Kd.freshB (g:=gb716) (o:= .cells #[.int .i64 a0_0,.slice A0_1 l0_1.length c0_1,.slice A0_2 l0_2.length c0_2] 37 (0,0)) (ybz BK716.out) k_ hk_.2.1),(Kd.freshB (g:=gb717) (o:= .cells #[.int .i64 0,.slice none 0 0,.slice none 0 0] 37 (0,0)) (ybz BK717.out) k_ hk_.2.1)⟩)) (below_size yhb));replace BK716:=yam (ybb BK716.out hb);replace BK717:=yam (ybb BK717.out hb);replace HB:=yam (below_step yhb hb);(try clear hb);(try clear ho0);(try clear ho1);obtain ⟨hcz9_0,hcz9_1,hcz9_2,hfz9_0,hfz9_1,hfz9_2⟩:=ybc BK716.out;obtain ⟨Ao10,co10,eo10⟩:=Kd.R_slice HO721.out;subst eo10;obtain ⟨Ao11,co11,eo11⟩:=Kd.N_slice HO724.out;subst eo11))
 (try simp only [Act.put,yps])
 go_cut [17] (fun v17 wc=>∃ (kq:Nat) (x17_2:Bool),v17= .bool x17_2∧Aside0 (spec_MakeEven.j0 kq x17_2 t718 t719 t722=some (r1,r2,r3,r4))∧Aside0 (kq≤k)∧Aside0 (Kd.R (Kd.int .i64) 3 wc w.heap.size (fun k_=>(w.heap.size≤k_)) (.slice Ao10 t719.length co10) t719)∧Aside0 (Kd.N k73 73 wc w.heap.size (fun k_=>(w.heap.size≤k_)∧some k_≠((.slice Ao10 t719.length co10):Value).ownBlock∧k_≠gb716∧k_≠gb717) (.slice Ao11 t722.length co11) t722)∧Aside0 (wc.heap[gb716]?=some (.cells #[.int .i64 t718,(.slice Ao10 t719.length co10),(.slice Ao11 t722.length co11)] 37 (0,0)))∧Aside0 (wc.heap[gb717]?=some (.cells #[.int .i64 0,(.slice none 0 0),(.slice none 0 0)] 37 (0,0)))∧Aside0 (Below w.heap.size w wc))
 case first=>as_aux_lemma =>
  have H:=HC3.out
  clear HC3
  replace H:=ybi H;obtain ⟨t725,A12,H⟩:=H
  replace H:(if t725=true then ((spec_l10One.f k t718 t719 t722).bind fun t726=>(spec_MakeEven.j0 k (!t726) t718 t719 t722)) else (spec_MakeEven.j0 k true t718 t719 t722))=some (r1,r2,r3,r4):=H
  cases t725
  ·replace H:=yff H
   replace H:=yam H
   have hnb20:=NB716_717.out
   have hnc20:=NB717_716.out
   obtain ⟨hcz21_0,hcz21_1,hcz21_2,hfz21_0,hfz21_1,hfz21_2⟩:=ybc BK716.out
   go_wp2_with (first|(refine goesL_ (some 11) rfl rfl Try.func62 (by kernel_rfl) rfl #[.agg #[.int .i64 t718,.slice Ao10 t719.length co10,.slice Ao11 t722.length co11]] rfl ymd ?_;(with_reducible refine (spec_PuzzleValid.calls k t718 _ _ t719 _ _ t722 false _ ?side1 ?side2 ?side3 ?side4 A12.out).mono ?_);(case side1=>refine (Kd.Yr (e:=3) (base:=w.heap.size) (ok:=fun k_=>((w.heap.size≤k_)∧True)) (n:=t719.length) (c:=co10) ?_).2.2;exact (by (with_reducible repeat (first|apply Kd.Ya|apply Kd.Yn|apply Kd.Yd));exact (Kd.R_mono (Kd.R_far (p:=⟨gb716,2,none⟩) (Kd.R_far (p:=⟨gb716,1,none⟩) (Kd.R_far (p:=⟨gb716,0,none⟩) (Kd.R_types HO721.out BK716.out (by decide)) (fun _ hk=>hk.2) (.int .i64 t718)) (fun _ hk=>hk.2) (.slice Ao10 t719.length co10)) (fun _ hk=>hk.2) (.slice Ao11 t722.length co11)) (fun _ h_=>h_.1))));(case side2=>exact (Kd.Yr HO721.out).2.1);(case side3=>refine (Kd.N_reads' (e:=73) (base:=w.heap.size) (ok:=fun k_=>((w.heap.size≤k_)∧(some k_≠(.slice Ao10 t719.length co10:Value).ownBlock∧(k_≠gb716∧k_≠gb717)))) (n:=t722.length) (c:=co11) ?_).2.2;exact (by (with_reducible repeat (first|apply Kd.N_alloc|apply Kd.N_drewN|apply Kd.N_drew));exact (Kd.N_mono (Kd.N_far (p:=⟨gb716,2,none⟩) (Kd.N_far (p:=⟨gb716,1,none⟩) (Kd.N_far (p:=⟨gb716,0,none⟩) (Kd.N_mono HO724.out (fun k_ hk=>(⟨hk,hk.2.2.1⟩:_∧k_≠gb716))) (fun _ hk=>hk.2) (.int .i64 t718)) (fun _ hk=>hk.2) (.slice Ao10 t719.length co10)) (fun _ hk=>hk.2) (.slice Ao11 t722.length co11)) (fun _ h_=>h_.1))));(case side4=>exact (Kd.N_reads' HO724.out).2.1);rintro e w22 ⟨rfl,hb⟩;refine ⟨_,rfl,?_⟩;replace HO721:=yam (Kd.R_below (by (with_reducible repeat (first|apply Kd.Ya|apply Kd.Yn|apply Kd.Yd));exact (Kd.R_mono (Kd.R_far (p:=⟨gb716,2,none⟩) (Kd.R_far (p:=⟨gb716,1,none⟩) (Kd.R_far (p:=⟨gb716,0,none⟩) (Kd.R_types HO721.out BK716.out (by decide)) (fun _ hk=>hk.2) (.int .i64 t718)) (fun _ hk=>hk.2) (.slice Ao10 t719.length co10)) (fun _ hk=>hk.2) (.slice Ao11 t722.length co11)) (fun _ h_=>h_.1))) hb);replace HO724:=yam (Kd.N_below (by (with_reducible repeat (first|apply Kd.N_alloc|apply Kd.N_drewN|apply Kd.N_drew));exact (Kd.N_mono (Kd.N_far (p:=⟨gb716,2,none⟩) (Kd.N_far (p:=⟨gb716,1,none⟩) (Kd.N_far (p:=⟨gb716,0,none⟩) (Kd.N_mono HO724.out (fun k_ hk=>(⟨hk,hk.2.2.1⟩:_∧k_≠gb716))) (fun _ hk=>hk.2) (.int .i64 t718)) (fun _ hk=>hk.2) (.slice Ao10 t719.length co10)) (fun _ hk=>hk.2) (.slice Ao11 t722.length co11)) (fun _ h_=>h_.1))) hb);replace BK716:=yam (blk_below (g:=gb716) (o:= .cells #[.int .i64 t718,.slice Ao10 t719.length co10,.slice Ao11 t722.length co11] 37 (0,0)) (by (with_reducible repeat (first|refine ybn ?_ _|refine ybd ?_|refine yba ?_ _));refine blk_put (cs:= #[.int .i64 t718,.slice Ao10 t719.length co10,.slice A0_2 l0_2.length c0_2]) ?_ 2 _ rfl;(with_reducible repeat (first|refine ybn ?_ _|refine ybd ?_|refine yba ?_ _));refine blk_put (cs:= #[.int .i64 t718,.slice A0_1 l0_1.length c0_1,.slice A0_2 l0_2.length c0_2]) ?_ 1 _ rfl;(with_reducible repeat (first|refine ybn ?_ _|refine ybd ?_|refine yba ?_ _));refine blk_put (cs:= #[.int .i64 a0_0,.slice A0_1 l0_1.length c0_1,.slice A0_2 l0_2.length c0_2]) ?_ 0 _ rfl;(with_reducible repeat (first|refine ybn ?_ _|refine ybd ?_|refine yba ?_ _));exact BK716.out) hb);replace BK717:=yam (blk_below (g:=gb717) (o:= .cells #[.int .i64 0,.slice none 0 0,.slice none 0 0] 37 (0,0)) (by (with_reducible repeat (first|refine ybn ?_ _|refine ybd ?_|refine yba ?_ _));refine blk_far ?_ NB717_716.out _;(with_reducible repeat (first|refine ybn ?_ _|refine ybd ?_|refine yba ?_ _));refine blk_far ?_ NB717_716.out _;(with_reducible repeat (first|refine ybn ?_ _|refine ybd ?_|refine yba ?_ _));refine blk_far ?_ NB717_716.out _;(with_reducible repeat (first|refine ybn ?_ _|refine ybd ?_|refine yba ?_ _));exact BK717.out) hb);replace HB:=yam (below_step yhb hb);(try clear hb);(try clear hk)))
   go_meet
   case rel=>exact ⟨_,(true),yeq,H,⟨by first|omega|exact Nat.le_refl _⟩,⟨by (with_reducible repeat (first|apply Kd.Ya|apply Kd.Yn|apply Kd.Yd));exact Kd.R_mono HO721.out (fun _ hk=>hk.1)⟩,⟨by (with_reducible repeat (first|apply Kd.N_alloc|apply Kd.N_drewN|apply Kd.N_drew));exact HO724.out⟩,⟨ybk BK716.out⟩,⟨ybk BK717.out⟩,⟨yhb⟩⟩
  replace H:=ytt H
  replace H:=ybi H;obtain ⟨t726,A14,H⟩:=H
  replace H:(spec_MakeEven.j0 k (!t726) t718 t719 t722)=some (r1,r2,r3,r4):=H
  replace H:=yam H
  have hnb15:=NB716_717.out
  have hnc15:=NB717_716.out
  obtain ⟨hcz16_0,hcz16_1,hcz16_2,hfz16_0,hfz16_1,hfz16_2⟩:=ybc BK716.out
  go_wp2_with (first|(refine goesL_ (some 11) rfl rfl Try.func62 (by kernel_rfl) rfl #[.agg #[.int .i64 t718,.slice Ao10 t719.length co10,.slice Ao11 t722.length co11]] rfl ymd ?_;(with_reducible refine (spec_PuzzleValid.calls k t718 _ _ t719 _ _ t722 true _ ?side1 ?side2 ?side3 ?side4 A12.out).mono ?_);(case side1=>refine (Kd.Yr (e:=3) (base:=w.heap.size) (ok:=fun k_=>((w.heap.size≤k_)∧True)) (n:=t719.length) (c:=co10) ?_).2.2;exact (by (with_reducible repeat (first|apply Kd.Ya|apply Kd.Yn|apply Kd.Yd));exact (Kd.R_mono (Kd.R_far (p:=⟨gb716,2,none⟩) (Kd.R_far (p:=⟨gb716,1,none⟩) (Kd.R_far (p:=⟨gb716,0,none⟩) (Kd.R_types HO721.out BK716.out (by decide)) (fun _ hk=>hk.2) (.int .i64 t718)) (fun _ hk=>hk.2) (.slice Ao10 t719.length co10)) (fun _ hk=>hk.2) (.slice Ao11 t722.length co11)) (fun _ h_=>h_.1))));(case side2=>exact (Kd.Yr HO721.out).2.1);(case side3=>refine (Kd.N_reads' (e:=73) (base:=w.heap.size) (ok:=fun k_=>((w.heap.size≤k_)∧(some k_≠(.slice Ao10 t719.length co10:Value).ownBlock∧(k_≠gb716∧k_≠gb717)))) (n:=t722.length) (c:=co11) ?_).2.2;exact (by (with_reducible repeat (first|apply Kd.N_alloc|apply Kd.N_drewN|apply Kd.N_drew));exact (Kd.N_mono (Kd.N_far (p:=⟨gb716,2,none⟩) (Kd.N_far (p:=⟨gb716,1,none⟩) (Kd.N_far (p:=⟨gb716,0,none⟩) (Kd.N_mono HO724.out (fun k_ hk=>(⟨hk,hk.2.2.1⟩:_∧k_≠gb716))) (fun _ hk=>hk.2) (.int .i64 t718)) (fun _ hk=>hk.2) (.slice Ao10 t719.length co10)) (fun _ hk=>hk.2) (.slice Ao11 t722.length co11)) (fun _ h_=>h_.1))));(case side4=>exact (Kd.N_reads' HO724.out).2.1);rintro e w17 ⟨rfl,hb⟩;refine ⟨_,rfl,?_⟩;replace HO721:=yam (Kd.R_below (by (with_reducible repeat (first|apply Kd.Ya|apply Kd.Yn|apply Kd.Yd));exact (Kd.R_mono (Kd.R_far (p:=⟨gb716,2,none⟩) (Kd.R_far (p:=⟨gb716,1,none⟩) (Kd.R_far (p:=⟨gb716,0,none⟩) (Kd.R_types HO721.out BK716.out (by decide)) (fun _ hk=>hk.2) (.int .i64 t718)) (fun _ hk=>hk.2) (.slice Ao10 t719.length co10)) (fun _ hk=>hk.2) (.slice Ao11 t722.length co11)) (fun _ h_=>h_.1))) hb);replace HO724:=yam (Kd.N_below (by (with_reducible repeat (first|apply Kd.N_alloc|apply Kd.N_drewN|apply Kd.N_drew));exact (Kd.N_mono (Kd.N_far (p:=⟨gb716,2,none⟩) (Kd.N_far (p:=⟨gb716,1,none⟩) (Kd.N_far (p:=⟨gb716,0,none⟩) (Kd.N_mono HO724.out (fun k_ hk=>(⟨hk,hk.2.2.1⟩:_∧k_≠gb716))) (fun _ hk=>hk.2) (.int .i64 t718)) (fun _ hk=>hk.2) (.slice Ao10 t719.length co10)) (fun _ hk=>hk.2) (.slice Ao11 t722.length co11)) (fun _ h_=>h_.1))) hb);replace BK716:=yam (blk_below (g:=gb716) (o:= .cells #[.int .i64 t718,.slice Ao10 t719.length co10,.slice Ao11 t722.length co11] 37 (0,0)) (by (with_reducible repeat (first|refine ybn ?_ _|refine ybd ?_|refine yba ?_ _));refine blk_put (cs:= #[.int .i64 t718,.slice Ao10 t719.length co10,.slice A0_2 l0_2.length c0_2]) ?_ 2 _ rfl;(with_reducible repeat (first|refine ybn ?_ _|refine ybd ?_|refine yba ?_ _));refine blk_put (cs:= #[.int .i64 t718,.slice A0_1 l0_1.length c0_1,.slice A0_2 l0_2.length c0_2]) ?_ 1 _ rfl;(with_reducible repeat (first|refine ybn ?_ _|refine ybd ?_|refine yba ?_ _));refine blk_put (cs:= #[.int .i64 a0_0,.slice A0_1 l0_1.length c0_1,.slice A0_2 l0_2.length c0_2]) ?_ 0 _ rfl;(with_reducible repeat (first|refine ybn ?_ _|refine ybd ?_|refine yba ?_ _));exact BK716.out) hb);replace BK717:=yam (blk_below (g:=gb717) (o:= .cells #[.int .i64 0,.slice none 0 0,.slice none 0 0] 37 (0,0)) (by (with_reducible repeat (first|refine ybn ?_ _|refine ybd ?_|refine yba ?_ _));refine blk_far ?_ NB717_716.out _;(with_reducible repeat (first|refine ybn ?_ _|refine ybd ?_|refine yba ?_ _));refine blk_far ?_ NB717_716.out _;(with_reducible repeat (first|refine ybn ?_ _|refine ybd ?_|refine yba ?_ _));refine blk_far ?_ NB717_716.out _;(with_reducible repeat (first|refine ybn ?_ _|refine ybd ?_|refine yba ?_ _));exact BK717.out) hb);replace HB:=yam (below_step yhb hb);(try clear hb);(try clear hk);obtain ⟨hcz18_0,hcz18_1,hcz18_2,hfz18_0,hfz18_1,hfz18_2⟩:=ybc BK716.out)|(go_at_call 66;(with_reducible refine (spec_l10One.calls k t718 _ _ t719 _ _ t722 t726 _ ?side1 ?side2 ?side3 ?side4 A14.out).mono ?_);(case side1=>exact Kd.Cz (Kd.Yr HO721.out).2.2);(case side2=>exact (Kd.Yr HO721.out).2.1);(case side3=>repeat (first|exact (Kd.N_reads' HO724.out).2.2|(with_reducible refine Kd.C_alloc ?_ _)|(with_reducible refine Kd.C_drewN ?_ _)|(with_reducible refine Kd.C_drew ?_)));(case side4=>exact (Kd.N_reads' HO724.out).2.1);rintro e w19 ⟨rfl,hb⟩;replace HO721:=yam (Kd.R_below (Kd.Yz HO721.out) hb);replace HO724:=yam (Kd.N_below (by (with_reducible repeat (first|apply Kd.N_alloc|apply Kd.N_drewN|apply Kd.N_drew));exact HO724.out) hb);replace BK716:=yam (ybb BK716.out hb);replace BK717:=yam (ybb BK717.out hb);replace HB:=yam (below_step yhb hb);(try clear hb)))
  go_meet
  case rel=>exact ⟨_,(!t726),yeq,H,⟨by first|omega|exact Nat.le_refl _⟩,⟨by (with_reducible repeat (first|apply Kd.Ya|apply Kd.Yn|apply Kd.Yd));exact Kd.R_mono HO721.out (fun _ hk=>hk.1)⟩,⟨by (with_reducible repeat (first|apply Kd.N_alloc|apply Kd.N_drewN|apply Kd.N_drew));exact HO724.out⟩,⟨ybk BK716.out⟩,⟨ybk BK717.out⟩,⟨yhb⟩⟩
 case rest=>as_aux_lemma =>
  clear HC3
  try clear hcz7_0
  try clear hcz7_1
  try clear hcz7_2
  try clear hcz9_0
  try clear hcz9_1
  try clear hcz9_2
  try clear hfz7_0
  try clear hfz7_1
  try clear hfz7_2
  try clear hfz9_0
  try clear hfz9_1
  try clear hfz9_2
  obtain ⟨kq,x17_2,rfl,HA,HJ2,HO_717001,HO_717002,BK716,BK717,HB⟩:=hcut
  rcases kq with _|kj2
  ·exact absurd HA.out (by simp [spec_MakeEven.j0])
  obtain ⟨H⟩:=HA
  simp only [spec_MakeEven.j0] at H
  cases x17_2
  rotate_left
  ·replace H:=ytt H
   simp only [Option.some.injEq,Prod.mk.injEq] at H
   obtain ⟨rfl,rfl,rfl,rfl⟩:=H
   have hnb24:=NB717_716.out
   have hnc24:=NB716_717.out
   obtain ⟨hcz25_0,hcz25_1,hcz25_2,hfz25_0,hfz25_1,hfz25_2⟩:=ybc BK717.out
   go_wp2
   refine bodyPost_ret (results_ct rfl _ _ gb717 37 #[.int .i64 0,.slice none 0 0,.slice none 0 0] (0,0) _ rfl (by (with_reducible repeat (first|refine ybn ?_ _|refine ybd ?_|refine yba ?_ _));refine blk_put (cs:= #[.int .i64 0,.slice none 0 0,.slice none 0 0]) ?_ 2 _ rfl;(with_reducible repeat (first|refine ybn ?_ _|refine ybd ?_|refine yba ?_ _));refine blk_put (cs:= #[.int .i64 0,.slice none 0 0,.slice none 0 0]) ?_ 1 _ rfl;(with_reducible repeat (first|refine ybn ?_ _|refine ybd ?_|refine yba ?_ _));refine blk_put (cs:= #[.int .i64 0,.slice none 0 0,.slice none 0 0]) ?_ 0 _ rfl;(with_reducible repeat (first|refine ybn ?_ _|refine ybd ?_|refine yba ?_ _));exact BK717.out) Try.underlying37 rfl (by kernel_rfl)) rfl ?_
   exact ⟨_,_,yer,by first|exact Kd.R_nil _ _ _ _ _|exact Kd.N_nil _ _ _ _ _|exact Kd.V_nil _ _ _ _ _|exact Kd.Q_nil _ _ _ _ _|exact Kd.S_nil _ _ _ _ _,Kd.V_nil _ _ _ _ _,yhb⟩
  replace H:=yff H
  obtain ⟨y727,Ny727⟩:∃ y_:List Int,Aside0 (y_=(([]:List Int))):=⟨_,⟨rfl⟩⟩
  replace H:(if y727.length + t719.length < 17592186044416 then ((some (y727 ++ t719:List Int)).bind fun y730=>((some (([]:List (S73)):List (S73))).bind fun y733=>(if y733.length + t722.length < 3518437208883 then (spec_MakeEven.l0 kj2 (wrap64 ((y730.length:Int) - 1)) 0 t718 y730 (y733 ++ t722)) else (none)))) else (none))=some (r1,r2,r3,r4):=yhn Ny727.out H
  replace H:=yit H;obtain ⟨c26,H⟩ | ⟨c26,H⟩:=H
  rotate_left
  ·exact absurd H (by simp)
  have LMc26:=yam c26
  clear c26
  obtain ⟨y730,Ny730⟩:∃ y_:List Int,Aside0 (y_=(y727 ++ t719)):=⟨_,⟨rfl⟩⟩
  replace H:((some (([]:List (S73)):List (S73))).bind fun y733=>(if y733.length + t722.length < 3518437208883 then (spec_MakeEven.l0 kj2 (wrap64 ((y730.length:Int) - 1)) 0 t718 y730 (y733 ++ t722)) else (none)))=some (r1,r2,r3,r4):=yhn Ny730.out H
  obtain ⟨y733,Ny733⟩:∃ y_:List (S73),Aside0 (y_=(([]:List (S73)))):=⟨_,⟨rfl⟩⟩
  replace H:(if y733.length + t722.length < 3518437208883 then (spec_MakeEven.l0 kj2 (wrap64 ((y730.length:Int) - 1)) 0 t718 y730 (y733 ++ t722)) else (none))=some (r1,r2,r3,r4):=yhn Ny733.out H
  replace H:=yig H;obtain ⟨c27,H⟩:=H
  have LMc27:=yam c27
  clear c27
  obtain ⟨y736,Ny736⟩:∃ y_:List (S73),Aside0 (y_=(y733 ++ t722)):=⟨_,⟨rfl⟩⟩
  replace H:(spec_MakeEven.l0 kj2 (wrap64 ((y730.length:Int) - 1)) 0 t718 y730 y736)=some (r1,r2,r3,r4):=yhn Ny736.out H
  replace H:=yam H
  try go_wp2
  replace HO_717001:=yam (Kd.Yd HO_717001.out)
  replace HO_717002:=yam (Kd.N_drew HO_717002.out)
  replace BK716:=yam (ybd BK716.out)
  replace BK717:=yam (ybd BK717.out)
  replace HB:=yam (yed HB.out)
  refine start_ (n:=13) (S:=fun w'=>w'.cell? ⟨gb716,0,none⟩=some (.int .i64 t718)∧w'.cell? ⟨gb716,1,none⟩=some (.slice Ao10 t719.length co10)∧w'.cell? ⟨gb716,2,none⟩=some (.slice Ao11 t722.length co11)) (ds:=[]) (yvb 13 0) (by kernel_rfl) rfl rfl ⟨(blk_cell BK716.out 0).trans rfl,(blk_cell BK716.out 1).trans rfl,(blk_cell BK716.out 2).trans rfl⟩ (fun hHeld=>?_);refine with_tabW spec_MakeEven.tab4 spec_MakeEven.bits4 (fun HT_ HW_=>?_)
  generalize wc.drew=w28 at HO_717001 HO_717002 BK716 BK717 HB hHeld ⊢
  refine yvp 0 19 (yvb 13 1) HT_.out ?_
  refine yvp 3 22 (yvb 13 9) HT_.out ?_
  refine yvp 7 26 (yvb 13 137) HT_.out ?_
  refine yvt 1 20 (yvb 13 139) HT_.out HW_.out hHeld ?_
  refine yvt 4 23 (yvb 13 155) HT_.out HW_.out hHeld ?_
  refine yvt 8 27 (yvb 13 411) HT_.out HW_.out hHeld ?_
  refine join_ (σ:=Value × Value × Value × Value × Nat) 1 (yvb 13 4095) (fun s_=>[(21,s_.1),(24,s_.2.1),(25,s_.2.2.1),(28,s_.2.2.2.1),(4,.pointer (some ⟨s_.2.2.2.2,0,none⟩)),(29,.agg #[.int .i64 t718,s_.2.1,s_.2.2.2.1])]) (fun s_ w'=>(w'.cell? ⟨gb716,0,none⟩=some (.int .i64 t718)∧w'.cell? ⟨gb716,1,none⟩=some (.slice Ao10 t719.length co10)∧w'.cell? ⟨gb716,2,none⟩=some (.slice Ao11 t722.length co11))∧(Kd.R (Kd.int .i64) 3 w' w.heap.size (fun k_=>(w.heap.size≤k_)∧some k_≠(.slice Ao10 t719.length co10:Value).ownBlock) s_.2.1 y730)∧(Kd.N k73 73 w' w.heap.size (fun k_=>(w.heap.size≤k_)∧some k_≠(s_.2.1:Value).ownBlock∧some k_≠(.slice Ao10 t719.length co10:Value).ownBlock∧k_≠gb716∧k_≠gb717∧k_≠s_.2.2.2.2) s_.2.2.2.1 y736)∧(Kd.R (Kd.int .i64) 3 w' w.heap.size (fun k_=>(w.heap.size≤k_)∧some k_≠(s_.2.1:Value).ownBlock) (.slice Ao10 t719.length co10) t719)∧(Kd.N k73 73 w' w.heap.size (fun k_=>(w.heap.size≤k_)∧some k_≠(s_.2.1:Value).ownBlock∧some k_≠(s_.2.2.2.1:Value).ownBlock∧some k_≠(.slice Ao10 t719.length co10:Value).ownBlock∧k_≠gb716∧k_≠gb717∧k_≠s_.2.2.2.2) (.slice Ao11 t722.length co11) t722)∧(w'.heap[gb716]?=some (.cells #[.int .i64 t718,.slice Ao10 t719.length co10,.slice Ao11 t722.length co11] 37 (0,0)))∧(w'.heap[gb717]?=some (.cells #[.int .i64 0,.slice none 0 0,.slice none 0 0] 37 (0,0)))∧(w'.heap[s_.2.2.2.2]?=some (.cells #[.int .i64 0,.slice none 0 0,.slice none 0 0] 37 (0,0)))∧(w.heap.size≤s_.2.2.2.2)∧(w.heap.size≤s_.2.2.2.2)∧(gb716≠s_.2.2.2.2)∧(s_.2.2.2.2≠gb716)∧(gb717≠s_.2.2.2.2)∧(s_.2.2.2.2≠gb717)∧(Below w.heap.size w w')) ?_ ?_
  rotate_left
  ·intro hJ2_5_6_9_11
   refine join_ (σ:=Value × Value × Value × Value) 2 (yvb 13 2047) (fun s_=>[(21,s_.1),(24,s_.2.1),(25,s_.2.2.1),(28,s_.2.2.2),(29,.agg #[.int .i64 t718,s_.2.1,s_.2.2.2])]) (fun s_ w'=>(w'.cell? ⟨gb716,0,none⟩=some (.int .i64 t718)∧w'.cell? ⟨gb716,1,none⟩=some (.slice Ao10 t719.length co10)∧w'.cell? ⟨gb716,2,none⟩=some (.slice Ao11 t722.length co11))∧(Kd.R (Kd.int .i64) 3 w' w.heap.size (fun k_=>(w.heap.size≤k_)∧some k_≠(.slice Ao10 t719.length co10:Value).ownBlock) s_.2.1 y730)∧(Kd.N k73 73 w' w.heap.size (fun k_=>(w.heap.size≤k_)∧some k_≠(s_.2.1:Value).ownBlock∧some k_≠(.slice Ao10 t719.length co10:Value).ownBlock∧k_≠gb716∧k_≠gb717) s_.2.2.2 y736)∧(Kd.R (Kd.int .i64) 3 w' w.heap.size (fun k_=>(w.heap.size≤k_)∧some k_≠(s_.2.1:Value).ownBlock) (.slice Ao10 t719.length co10) t719)∧(Kd.N k73 73 w' w.heap.size (fun k_=>(w.heap.size≤k_)∧some k_≠(s_.2.1:Value).ownBlock∧some k_≠(s_.2.2.2:Value).ownBlock∧some k_≠(.slice Ao10 t719.length co10:Value).ownBlock∧k_≠gb716∧k_≠gb717) (.slice Ao11 t722.length co11) t722)∧(w'.heap[gb716]?=some (.cells #[.int .i64 t718,.slice Ao10 t719.length co10,.slice Ao11 t722.length co11] 37 (0,0)))∧(w'.heap[gb717]?=some (.cells #[.int .i64 0,.slice none 0 0,.slice none 0 0] 37 (0,0)))∧(Below w.heap.size w w')) ?_ ?_
   rotate_left
   ·intro hJ2_5_6_9
    refine join_ (σ:=Value × Value × Value × Nat) 3 (yvb 13 2559) (fun s_=>[(21,s_.1),(24,s_.2.1),(25,s_.2.2.1),(4,.pointer (some ⟨s_.2.2.2,0,none⟩))]) (fun s_ w'=>(w'.cell? ⟨gb716,0,none⟩=some (.int .i64 t718)∧w'.cell? ⟨gb716,1,none⟩=some (.slice Ao10 t719.length co10)∧w'.cell? ⟨gb716,2,none⟩=some (.slice Ao11 t722.length co11))∧(Kd.R (Kd.int .i64) 3 w' w.heap.size (fun k_=>(w.heap.size≤k_)∧some k_≠(.slice Ao10 t719.length co10:Value).ownBlock) s_.2.1 y730)∧(Kd.N k73 73 w' w.heap.size (fun k_=>(w.heap.size≤k_)∧some k_≠(s_.2.1:Value).ownBlock∧some k_≠(.slice Ao10 t719.length co10:Value).ownBlock∧some k_≠(.slice Ao11 t722.length co11:Value).ownBlock∧k_≠gb716∧k_≠gb717∧k_≠s_.2.2.2) s_.2.2.1 y733)∧(Kd.R (Kd.int .i64) 3 w' w.heap.size (fun k_=>(w.heap.size≤k_)∧some k_≠(s_.2.1:Value).ownBlock) (.slice Ao10 t719.length co10) t719)∧(Kd.N k73 73 w' w.heap.size (fun k_=>(w.heap.size≤k_)∧some k_≠(s_.2.1:Value).ownBlock∧some k_≠(s_.2.2.1:Value).ownBlock∧some k_≠(.slice Ao10 t719.length co10:Value).ownBlock∧k_≠gb716∧k_≠gb717∧k_≠s_.2.2.2) (.slice Ao11 t722.length co11) t722)∧(w'.heap[gb716]?=some (.cells #[.int .i64 t718,.slice Ao10 t719.length co10,.slice Ao11 t722.length co11] 37 (0,0)))∧(w'.heap[gb717]?=some (.cells #[.int .i64 0,.slice none 0 0,.slice none 0 0] 37 (0,0)))∧(w'.heap[s_.2.2.2]?=some (.cells #[.int .i64 0,.slice none 0 0,.slice none 0 0] 37 (0,0)))∧(w.heap.size≤s_.2.2.2)∧(w.heap.size≤s_.2.2.2)∧(gb716≠s_.2.2.2)∧(s_.2.2.2≠gb716)∧(gb717≠s_.2.2.2)∧(s_.2.2.2≠gb717)∧(Below w.heap.size w w')) ?_ ?_
    rotate_left
    ·intro hJ2_5_6_11
     refine join_ (σ:=Value × Value × Value) 4 (yvb 13 511) (fun s_=>[(21,s_.1),(24,s_.2.1),(25,s_.2.2)]) (fun s_ w'=>(w'.cell? ⟨gb716,0,none⟩=some (.int .i64 t718)∧w'.cell? ⟨gb716,1,none⟩=some (.slice Ao10 t719.length co10)∧w'.cell? ⟨gb716,2,none⟩=some (.slice Ao11 t722.length co11))∧(Kd.R (Kd.int .i64) 3 w' w.heap.size (fun k_=>(w.heap.size≤k_)∧some k_≠(.slice Ao10 t719.length co10:Value).ownBlock) s_.2.1 y730)∧(Kd.N k73 73 w' w.heap.size (fun k_=>(w.heap.size≤k_)∧some k_≠(s_.2.1:Value).ownBlock∧some k_≠(.slice Ao10 t719.length co10:Value).ownBlock∧some k_≠(.slice Ao11 t722.length co11:Value).ownBlock∧k_≠gb716∧k_≠gb717) s_.2.2 y733)∧(Kd.R (Kd.int .i64) 3 w' w.heap.size (fun k_=>(w.heap.size≤k_)∧some k_≠(s_.2.1:Value).ownBlock) (.slice Ao10 t719.length co10) t719)∧(Kd.N k73 73 w' w.heap.size (fun k_=>(w.heap.size≤k_)∧some k_≠(s_.2.1:Value).ownBlock∧some k_≠(s_.2.2:Value).ownBlock∧some k_≠(.slice Ao10 t719.length co10:Value).ownBlock∧k_≠gb716∧k_≠gb717) (.slice Ao11 t722.length co11) t722)∧(w'.heap[gb716]?=some (.cells #[.int .i64 t718,.slice Ao10 t719.length co10,.slice Ao11 t722.length co11] 37 (0,0)))∧(w'.heap[gb717]?=some (.cells #[.int .i64 0,.slice none 0 0,.slice none 0 0] 37 (0,0)))∧(Below w.heap.size w w')) ?_ ?_
     rotate_left
     ·intro hJ2_5_6
      refine join_ (σ:=Value × Value × Nat) 4 (yvb 13 2495) (fun s_=>[(21,s_.1),(24,s_.2.1),(4,.pointer (some ⟨s_.2.2,0,none⟩))]) (fun s_ w'=>(w'.cell? ⟨gb716,0,none⟩=some (.int .i64 t718)∧w'.cell? ⟨gb716,1,none⟩=some (.slice Ao10 t719.length co10)∧w'.cell? ⟨gb716,2,none⟩=some (.slice Ao11 t722.length co11))∧(Kd.R (Kd.int .i64) 3 w' w.heap.size (fun k_=>(w.heap.size≤k_)∧some k_≠(.slice Ao10 t719.length co10:Value).ownBlock) s_.2.1 y730)∧(Kd.R (Kd.int .i64) 3 w' w.heap.size (fun k_=>(w.heap.size≤k_)∧some k_≠(s_.2.1:Value).ownBlock) (.slice Ao10 t719.length co10) t719)∧(Kd.N k73 73 w' w.heap.size (fun k_=>(w.heap.size≤k_)∧some k_≠(s_.2.1:Value).ownBlock∧some k_≠(.slice Ao10 t719.length co10:Value).ownBlock∧k_≠gb716∧k_≠gb717∧k_≠s_.2.2) (.slice Ao11 t722.length co11) t722)∧(w'.heap[gb716]?=some (.cells #[.int .i64 t718,.slice Ao10 t719.length co10,.slice Ao11 t722.length co11] 37 (0,0)))∧(w'.heap[gb717]?=some (.cells #[.int .i64 0,.slice none 0 0,.slice none 0 0] 37 (0,0)))∧(w'.heap[s_.2.2]?=some (.cells #[.int .i64 0,.slice none 0 0,.slice none 0 0] 37 (0,0)))∧(w.heap.size≤s_.2.2)∧(w.heap.size≤s_.2.2)∧(gb716≠s_.2.2)∧(s_.2.2≠gb716)∧(gb717≠s_.2.2)∧(s_.2.2≠gb717)∧(Below w.heap.size w w')) ?_ ?_
      rotate_left
      ·intro hJ2_5_11
       refine join_ (σ:=Value × Value × Nat) 4 (yvb 13 2527) (fun s_=>[(21,s_.1),(25,s_.2.1),(4,.pointer (some ⟨s_.2.2,0,none⟩))]) (fun s_ w'=>(w'.cell? ⟨gb716,0,none⟩=some (.int .i64 t718)∧w'.cell? ⟨gb716,1,none⟩=some (.slice Ao10 t719.length co10)∧w'.cell? ⟨gb716,2,none⟩=some (.slice Ao11 t722.length co11))∧(Kd.R (Kd.int .i64) 3 w' w.heap.size (fun k_=>(w.heap.size≤k_)∧some k_≠(.slice Ao10 t719.length co10:Value).ownBlock) s_.1 y727)∧(Kd.N k73 73 w' w.heap.size (fun k_=>(w.heap.size≤k_)∧some k_≠(s_.1:Value).ownBlock∧some k_≠(.slice Ao10 t719.length co10:Value).ownBlock∧some k_≠(.slice Ao11 t722.length co11:Value).ownBlock∧k_≠gb716∧k_≠gb717∧k_≠s_.2.2) s_.2.1 y733)∧(Kd.R (Kd.int .i64) 3 w' w.heap.size (fun k_=>(w.heap.size≤k_)∧some k_≠(s_.1:Value).ownBlock) (.slice Ao10 t719.length co10) t719)∧(Kd.N k73 73 w' w.heap.size (fun k_=>(w.heap.size≤k_)∧some k_≠(s_.1:Value).ownBlock∧some k_≠(s_.2.1:Value).ownBlock∧some k_≠(.slice Ao10 t719.length co10:Value).ownBlock∧k_≠gb716∧k_≠gb717∧k_≠s_.2.2) (.slice Ao11 t722.length co11) t722)∧(w'.heap[gb716]?=some (.cells #[.int .i64 t718,.slice Ao10 t719.length co10,.slice Ao11 t722.length co11] 37 (0,0)))∧(w'.heap[gb717]?=some (.cells #[.int .i64 0,.slice none 0 0,.slice none 0 0] 37 (0,0)))∧(w'.heap[s_.2.2]?=some (.cells #[.int .i64 0,.slice none 0 0,.slice none 0 0] 37 (0,0)))∧(w.heap.size≤s_.2.2)∧(w.heap.size≤s_.2.2)∧(gb716≠s_.2.2)∧(s_.2.2≠gb716)∧(gb717≠s_.2.2)∧(s_.2.2≠gb717)∧(Below w.heap.size w w')) ?_ ?_
       rotate_left
       ·intro hJ2_6_11
        refine join_ (σ:=Value × Value) 5 (yvb 13 447) (fun s_=>[(21,s_.1),(24,s_.2)]) (fun s_ w'=>(w'.cell? ⟨gb716,0,none⟩=some (.int .i64 t718)∧w'.cell? ⟨gb716,1,none⟩=some (.slice Ao10 t719.length co10)∧w'.cell? ⟨gb716,2,none⟩=some (.slice Ao11 t722.length co11))∧(Kd.R (Kd.int .i64) 3 w' w.heap.size (fun k_=>(w.heap.size≤k_)∧some k_≠(.slice Ao10 t719.length co10:Value).ownBlock) s_.2 y730)∧(Kd.R (Kd.int .i64) 3 w' w.heap.size (fun k_=>(w.heap.size≤k_)∧some k_≠(s_.2:Value).ownBlock) (.slice Ao10 t719.length co10) t719)∧(Kd.N k73 73 w' w.heap.size (fun k_=>(w.heap.size≤k_)∧some k_≠(s_.2:Value).ownBlock∧some k_≠(.slice Ao10 t719.length co10:Value).ownBlock∧k_≠gb716∧k_≠gb717) (.slice Ao11 t722.length co11) t722)∧(w'.heap[gb716]?=some (.cells #[.int .i64 t718,.slice Ao10 t719.length co10,.slice Ao11 t722.length co11] 37 (0,0)))∧(w'.heap[gb717]?=some (.cells #[.int .i64 0,.slice none 0 0,.slice none 0 0] 37 (0,0)))∧(Below w.heap.size w w')) ?_ ?_
        rotate_left
        ·intro hJ2_5
         refine join_ (σ:=Value × Value) 5 (yvb 13 479) (fun s_=>[(21,s_.1),(25,s_.2)]) (fun s_ w'=>(w'.cell? ⟨gb716,0,none⟩=some (.int .i64 t718)∧w'.cell? ⟨gb716,1,none⟩=some (.slice Ao10 t719.length co10)∧w'.cell? ⟨gb716,2,none⟩=some (.slice Ao11 t722.length co11))∧(Kd.R (Kd.int .i64) 3 w' w.heap.size (fun k_=>(w.heap.size≤k_)∧some k_≠(.slice Ao10 t719.length co10:Value).ownBlock) s_.1 y727)∧(Kd.N k73 73 w' w.heap.size (fun k_=>(w.heap.size≤k_)∧some k_≠(s_.1:Value).ownBlock∧some k_≠(.slice Ao10 t719.length co10:Value).ownBlock∧some k_≠(.slice Ao11 t722.length co11:Value).ownBlock∧k_≠gb716∧k_≠gb717) s_.2 y733)∧(Kd.R (Kd.int .i64) 3 w' w.heap.size (fun k_=>(w.heap.size≤k_)∧some k_≠(s_.1:Value).ownBlock) (.slice Ao10 t719.length co10) t719)∧(Kd.N k73 73 w' w.heap.size (fun k_=>(w.heap.size≤k_)∧some k_≠(s_.1:Value).ownBlock∧some k_≠(s_.2:Value).ownBlock∧some k_≠(.slice Ao10 t719.length co10:Value).ownBlock∧k_≠gb716∧k_≠gb717) (.slice Ao11 t722.length co11) t722)∧(w'.heap[gb716]?=some (.cells #[.int .i64 t718,.slice Ao10 t719.length co10,.slice Ao11 t722.length co11] 37 (0,0)))∧(w'.heap[gb717]?=some (.cells #[.int .i64 0,.slice none 0 0,.slice none 0 0] 37 (0,0)))∧(Below w.heap.size w w')) ?_ ?_
         rotate_left
         ·intro hJ2_6
          refine join_ (σ:=Value × Nat) 5 (yvb 13 2463) (fun s_=>[(21,s_.1),(4,.pointer (some ⟨s_.2,0,none⟩))]) (fun s_ w'=>(w'.cell? ⟨gb716,0,none⟩=some (.int .i64 t718)∧w'.cell? ⟨gb716,1,none⟩=some (.slice Ao10 t719.length co10)∧w'.cell? ⟨gb716,2,none⟩=some (.slice Ao11 t722.length co11))∧(Kd.R (Kd.int .i64) 3 w' w.heap.size (fun k_=>(w.heap.size≤k_)∧some k_≠(.slice Ao10 t719.length co10:Value).ownBlock) s_.1 y727)∧(Kd.R (Kd.int .i64) 3 w' w.heap.size (fun k_=>(w.heap.size≤k_)∧some k_≠(s_.1:Value).ownBlock) (.slice Ao10 t719.length co10) t719)∧(Kd.N k73 73 w' w.heap.size (fun k_=>(w.heap.size≤k_)∧some k_≠(s_.1:Value).ownBlock∧some k_≠(.slice Ao10 t719.length co10:Value).ownBlock∧k_≠gb716∧k_≠gb717∧k_≠s_.2) (.slice Ao11 t722.length co11) t722)∧(w'.heap[gb716]?=some (.cells #[.int .i64 t718,.slice Ao10 t719.length co10,.slice Ao11 t722.length co11] 37 (0,0)))∧(w'.heap[gb717]?=some (.cells #[.int .i64 0,.slice none 0 0,.slice none 0 0] 37 (0,0)))∧(w'.heap[s_.2]?=some (.cells #[.int .i64 0,.slice none 0 0,.slice none 0 0] 37 (0,0)))∧(w.heap.size≤s_.2)∧(w.heap.size≤s_.2)∧(gb716≠s_.2)∧(s_.2≠gb716)∧(gb717≠s_.2)∧(s_.2≠gb717)∧(Below w.heap.size w w')) ?_ ?_
          rotate_left
          ·intro hJ2_11
           refine join_ (σ:=Value × Nat) 5 (yvb 13 2523) (fun s_=>[(25,s_.1),(4,.pointer (some ⟨s_.2,0,none⟩))]) (fun s_ w'=>(w'.cell? ⟨gb716,0,none⟩=some (.int .i64 t718)∧w'.cell? ⟨gb716,1,none⟩=some (.slice Ao10 t719.length co10)∧w'.cell? ⟨gb716,2,none⟩=some (.slice Ao11 t722.length co11))∧(Kd.N k73 73 w' w.heap.size (fun k_=>(w.heap.size≤k_)∧some k_≠(.slice Ao10 t719.length co10:Value).ownBlock∧some k_≠(.slice Ao11 t722.length co11:Value).ownBlock∧k_≠gb716∧k_≠gb717∧k_≠s_.2) s_.1 y733)∧(Kd.R (Kd.int .i64) 3 w' w.heap.size (fun k_=>(w.heap.size≤k_)) (.slice Ao10 t719.length co10) t719)∧(Kd.N k73 73 w' w.heap.size (fun k_=>(w.heap.size≤k_)∧some k_≠(s_.1:Value).ownBlock∧some k_≠(.slice Ao10 t719.length co10:Value).ownBlock∧k_≠gb716∧k_≠gb717∧k_≠s_.2) (.slice Ao11 t722.length co11) t722)∧(w'.heap[gb716]?=some (.cells #[.int .i64 t718,.slice Ao10 t719.length co10,.slice Ao11 t722.length co11] 37 (0,0)))∧(w'.heap[gb717]?=some (.cells #[.int .i64 0,.slice none 0 0,.slice none 0 0] 37 (0,0)))∧(w'.heap[s_.2]?=some (.cells #[.int .i64 0,.slice none 0 0,.slice none 0 0] 37 (0,0)))∧(w.heap.size≤s_.2)∧(w.heap.size≤s_.2)∧(gb716≠s_.2)∧(s_.2≠gb716)∧(gb717≠s_.2)∧(s_.2≠gb717)∧(Below w.heap.size w w')) ?_ ?_
           rotate_left
           ·intro hJ6_11
            refine join_ (σ:=Value) 6 (yvb 13 415) (fun s_=>[(21,s_)]) (fun s_ w'=>(w'.cell? ⟨gb716,0,none⟩=some (.int .i64 t718)∧w'.cell? ⟨gb716,1,none⟩=some (.slice Ao10 t719.length co10)∧w'.cell? ⟨gb716,2,none⟩=some (.slice Ao11 t722.length co11))∧(Kd.R (Kd.int .i64) 3 w' w.heap.size (fun k_=>(w.heap.size≤k_)∧some k_≠(.slice Ao10 t719.length co10:Value).ownBlock) s_ y727)∧(Kd.R (Kd.int .i64) 3 w' w.heap.size (fun k_=>(w.heap.size≤k_)∧some k_≠(s_:Value).ownBlock) (.slice Ao10 t719.length co10) t719)∧(Kd.N k73 73 w' w.heap.size (fun k_=>(w.heap.size≤k_)∧some k_≠(s_:Value).ownBlock∧some k_≠(.slice Ao10 t719.length co10:Value).ownBlock∧k_≠gb716∧k_≠gb717) (.slice Ao11 t722.length co11) t722)∧(w'.heap[gb716]?=some (.cells #[.int .i64 t718,.slice Ao10 t719.length co10,.slice Ao11 t722.length co11] 37 (0,0)))∧(w'.heap[gb717]?=some (.cells #[.int .i64 0,.slice none 0 0,.slice none 0 0] 37 (0,0)))∧(Below w.heap.size w w')) ?_ ?_
            rotate_left
            ·intro hJ2
             refine join_ (σ:=Value) 6 (yvb 13 475) (fun s_=>[(25,s_)]) (fun s_ w'=>(w'.cell? ⟨gb716,0,none⟩=some (.int .i64 t718)∧w'.cell? ⟨gb716,1,none⟩=some (.slice Ao10 t719.length co10)∧w'.cell? ⟨gb716,2,none⟩=some (.slice Ao11 t722.length co11))∧(Kd.N k73 73 w' w.heap.size (fun k_=>(w.heap.size≤k_)∧some k_≠(.slice Ao10 t719.length co10:Value).ownBlock∧some k_≠(.slice Ao11 t722.length co11:Value).ownBlock∧k_≠gb716∧k_≠gb717) s_ y733)∧(Kd.R (Kd.int .i64) 3 w' w.heap.size (fun k_=>(w.heap.size≤k_)) (.slice Ao10 t719.length co10) t719)∧(Kd.N k73 73 w' w.heap.size (fun k_=>(w.heap.size≤k_)∧some k_≠(s_:Value).ownBlock∧some k_≠(.slice Ao10 t719.length co10:Value).ownBlock∧k_≠gb716∧k_≠gb717) (.slice Ao11 t722.length co11) t722)∧(w'.heap[gb716]?=some (.cells #[.int .i64 t718,.slice Ao10 t719.length co10,.slice Ao11 t722.length co11] 37 (0,0)))∧(w'.heap[gb717]?=some (.cells #[.int .i64 0,.slice none 0 0,.slice none 0 0] 37 (0,0)))∧(Below w.heap.size w w')) ?_ ?_
             rotate_left
             ·intro hJ6
              refine join_ (σ:=Nat) 6 (yvb 13 2459) (fun s_=>[(4,.pointer (some ⟨s_,0,none⟩))]) (fun s_ w'=>(w'.cell? ⟨gb716,0,none⟩=some (.int .i64 t718)∧w'.cell? ⟨gb716,1,none⟩=some (.slice Ao10 t719.length co10)∧w'.cell? ⟨gb716,2,none⟩=some (.slice Ao11 t722.length co11))∧(Kd.R (Kd.int .i64) 3 w' w.heap.size (fun k_=>(w.heap.size≤k_)) (.slice Ao10 t719.length co10) t719)∧(Kd.N k73 73 w' w.heap.size (fun k_=>(w.heap.size≤k_)∧some k_≠(.slice Ao10 t719.length co10:Value).ownBlock∧k_≠gb716∧k_≠gb717∧k_≠s_) (.slice Ao11 t722.length co11) t722)∧(w'.heap[gb716]?=some (.cells #[.int .i64 t718,.slice Ao10 t719.length co10,.slice Ao11 t722.length co11] 37 (0,0)))∧(w'.heap[gb717]?=some (.cells #[.int .i64 0,.slice none 0 0,.slice none 0 0] 37 (0,0)))∧(w'.heap[s_]?=some (.cells #[.int .i64 0,.slice none 0 0,.slice none 0 0] 37 (0,0)))∧(w.heap.size≤s_)∧(w.heap.size≤s_)∧(gb716≠s_)∧(s_≠gb716)∧(gb717≠s_)∧(s_≠gb717)∧(Below w.heap.size w w')) ?_ ?_
              rotate_left
              ·intro hJ11
               refine three_ (i:=2) (j:=6) (k:=11) (Ni:=some 21) (Nj:=some 25) (Nk:=some 4) (yvb 13 415) (yvb 13 475) (yvb 13 2459) rfl rfl rfl rfl rfl rfl (three_of HT_.out (by kernel_rfl)) (by decide) (by decide) (by decide) (fun K hK=>?_) (fun K hK=>?_) (fun K hK=>?_)
               ·skip
                refine Kd.R_lit_step (Kd.int .i64) _ 3 ?hg (N:=21) ?hd (xs:=([]:List Int)) (inner:=[]) (ok:=fun _=>True) (okp:=fun _=>True) ?hr ?hp (fun _ hk=>hk) trivial (Below.refl _ _) (Nat.le_refl _) (by simp) ?_;(case hd=>rfl);(case hg=>rfl);(case hr=>first|(go_simp;done)|(go_simp;rfl));(case hp=>exact (Reps.none _ _))
                intro v728 w29 ho30 hb hg_ hnew_
                clear hg_ hnew_
                (first|rw [← Ny727.out] at ho30|(simp only [Int.reduceToNat] at ho30;rw [← Ny727.out] at ho30))
                replace HO_717002:=yam (Kd.N_elder' (by (with_reducible repeat (first|apply Kd.N_alloc|apply Kd.N_drewN|apply Kd.N_drew));exact HO_717002.out) (Kd.Yb ho30) hb)
                have HO729:=yam (Kd.R_lower (Kd.Yw (Kd.R_newM (M:=fun k_=>(w.heap.size≤k_)) ho30 (below_size yhb) (fun k_ h_=>h_)) (Kd.R_lt (Kd.Yz HO_717001.out))) (below_size yhb))
                replace HO_717001:=yam (Kd.Ye (Kd.Yz HO_717001.out) (Kd.Yb ho30) hb)
                replace BK716:=yam (ybb BK716.out hb)
                replace BK717:=yam (ybb BK717.out hb)
                replace HB:=yam (below_step yhb hb)
                clear hb ho30
                refine hK.out _ _ ⟨(blk_cell BK716.out 0).trans rfl,(blk_cell BK716.out 1).trans rfl,(blk_cell BK716.out 2).trans rfl⟩ (fun hHeld=>?_)
                clear hK K
                refine norm_ (a':=?_) ?_ ?_
                rotate_left
                ·show Act.put _ (some 21) _=_
                 simp only [Act.put,yps,i64_w,i32_w]
                 rfl
                exact norm_ (by first|(simp only [putAll,Act.put,yps];done)|(simp only [putAll,Act.put,yps];rfl)) (hJ2 (v728) _ ⟨hHeld,(by (with_reducible repeat (first|apply Kd.Ya|apply Kd.Yn|apply Kd.Yd));exact Kd.R_mono HO729.out (fun _ hk=>⟨hk.1.1,hk.2⟩)),(Kd.Yz HO_717001.out),(by (with_reducible repeat (first|apply Kd.N_alloc|apply Kd.N_drewN|apply Kd.N_drew));exact Kd.N_mono HO_717002.out (fun _ hk=>⟨hk.1.1,⟨hk.2,⟨hk.1.2.1,⟨hk.1.2.2.1,hk.1.2.2.2⟩⟩⟩⟩)),(ybz BK716.out),(ybz BK717.out),yhb⟩)
               ·skip
                refine Kd.N_lit_step k73 _ 73 ?hg (N':=25) ?hd (xs:=([]:List (S73))) (inner:=[]) (ok:=(fun k_=>(w.heap.size≤k_)∧some k_≠(.slice Ao10 t719.length co10:Value).ownBlock∧some k_≠(.slice Ao11 t722.length co11:Value).ownBlock∧k_≠gb716∧k_≠gb717)) (okp:=(fun k_=>(w.heap.size≤k_)∧some k_≠(.slice Ao10 t719.length co10:Value).ownBlock∧some k_≠(.slice Ao11 t722.length co11:Value).ownBlock∧k_≠gb716∧k_≠gb717)) ?hr ?hp (fun _ hk=>hk) ((show ∀ k_,w28.heap.size≤k_→(fun k_=>(w.heap.size≤k_)∧some k_≠(.slice Ao10 t719.length co10:Value).ownBlock∧some k_≠(.slice Ao11 t722.length co11:Value).ownBlock∧k_≠gb716∧k_≠gb717) k_ from fun k_ hk=>⟨(Nat.le_trans (below_size yhb) hk),Kd.fresh' (Kd.R_lt (Kd.Yz HO_717001.out)) k_ hk,Kd.fresh' (Kd.N_lt (by (with_reducible repeat (first|apply Kd.N_alloc|apply Kd.N_drewN|apply Kd.N_drew));exact HO_717002.out)) k_ hk,Kd.freshB (g:=gb716) (o:= .cells #[.int .i64 t718,.slice Ao10 t719.length co10,.slice Ao11 t722.length co11] 37 (0,0)) (ybz BK716.out) k_ hk,Kd.freshB (g:=gb717) (o:= .cells #[.int .i64 0,.slice none 0 0,.slice none 0 0] 37 (0,0)) (ybz BK717.out) k_ hk⟩) _ (Nat.le_refl _)) (Below.refl _ _) (Nat.le_refl _) (by simp) ?_;(case hd=>rfl);(case hg=>rfl);(case hr=>first|(go_simp;done)|(go_simp;rfl));(case hp=>exact (Reps.none _ _))
                intro v734 w29 ho30 hb hg_ hnew_
                clear hg_ hnew_
                (first|rw [← Ny733.out] at ho30|(simp only [Int.reduceToNat] at ho30;rw [← Ny733.out] at ho30))
                replace HO_717001:=yam (Kd.R_below (Kd.Yz HO_717001.out) hb)
                replace HO_717002:=yam (Kd.N_elder' (by (with_reducible repeat (first|apply Kd.N_alloc|apply Kd.N_drewN|apply Kd.N_drew));exact HO_717002.out) (Kd.N_base ho30) hb)
                have HO735:=yam (Kd.N_lower ho30 (below_size yhb))
                replace BK716:=yam (ybb BK716.out hb)
                replace BK717:=yam (ybb BK717.out hb)
                replace HB:=yam (below_step yhb hb)
                clear hb ho30
                refine hK.out _ _ ⟨(blk_cell BK716.out 0).trans rfl,(blk_cell BK716.out 1).trans rfl,(blk_cell BK716.out 2).trans rfl⟩ (fun hHeld=>?_)
                clear hK K
                refine norm_ (a':=?_) ?_ ?_
                rotate_left
                ·show Act.put _ (some 25) _=_
                 simp only [Act.put,yps,i64_w,i32_w]
                 rfl
                exact norm_ (by first|(simp only [putAll,Act.put,yps];done)|(simp only [putAll,Act.put,yps];rfl)) (hJ6 (v734) _ ⟨hHeld,(by (with_reducible repeat (first|apply Kd.N_alloc|apply Kd.N_drewN|apply Kd.N_drew));exact HO735.out),(Kd.Yz HO_717001.out),(by (with_reducible repeat (first|apply Kd.N_alloc|apply Kd.N_drewN|apply Kd.N_drew));exact Kd.N_mono HO_717002.out (fun _ hk=>⟨hk.1.1,⟨hk.2,⟨hk.1.2.1,⟨hk.1.2.2.1,hk.1.2.2.2⟩⟩⟩⟩)),(ybz BK716.out),(ybz BK717.out),yhb⟩)
               ·skip
                refine box_step ?hg (N:=4) ?hd (cs:= #[.int .i64 0,.slice none 0 0,.slice none 0 0]) (t:=37) ?hr ?_;(case hd=>rfl);(case hg=>rfl);(case hr=>first|(go_simp;done)|(go_simp;rfl))
                intro gb739 hg w29 hbox hb
                replace HO_717001:=yam (Kd.R_below (Kd.Yz HO_717001.out) hb)
                replace HO_717002:=yam (Kd.N_below (Kd.N_elderB (by (with_reducible repeat (first|apply Kd.N_alloc|apply Kd.N_drewN|apply Kd.N_drew));exact HO_717002.out) gb739 (Nat.le_of_eq hg.symm)) hb)
                have BK739:=yam (hbox)
                have GW739:=yam ((by rw [hg];exact (below_size yhb):w.heap.size≤gb739))
                have GE739:=yam ((by rw [hg];exact (below_size yhb):w.heap.size≤gb739))
                replace HB:=yam (below_step yhb hb)
                have NB716_739:=yam ((by rw [hg];exact Nat.ne_of_lt (blk_lt (g:=gb716) (o:= .cells #[.int .i64 t718,.slice Ao10 t719.length co10,.slice Ao11 t722.length co11] 37 (0,0)) (ybz BK716.out)):gb716≠gb739))
                have NB739_716:=yam ((by rw [hg];exact Nat.ne_of_gt (blk_lt (g:=gb716) (o:= .cells #[.int .i64 t718,.slice Ao10 t719.length co10,.slice Ao11 t722.length co11] 37 (0,0)) (ybz BK716.out)):gb739≠gb716))
                replace BK716:=yam (ybb BK716.out hb)
                have NB717_739:=yam ((by rw [hg];exact Nat.ne_of_lt (blk_lt (g:=gb717) (o:= .cells #[.int .i64 0,.slice none 0 0,.slice none 0 0] 37 (0,0)) (ybz BK717.out)):gb717≠gb739))
                have NB739_717:=yam ((by rw [hg];exact Nat.ne_of_gt (blk_lt (g:=gb717) (o:= .cells #[.int .i64 0,.slice none 0 0,.slice none 0 0] 37 (0,0)) (ybz BK717.out)):gb739≠gb717))
                replace BK717:=yam (ybb BK717.out hb)
                clear hb hbox hg
                refine hK.out _ _ ⟨(blk_cell BK716.out 0).trans rfl,(blk_cell BK716.out 1).trans rfl,(blk_cell BK716.out 2).trans rfl⟩ (fun hHeld=>?_)
                clear hK K
                refine norm_ (a':=?_) ?_ ?_
                rotate_left
                ·show Act.put _ (some 4) _=_
                 simp only [Act.put,yps,i64_w,i32_w]
                 rfl
                exact norm_ (by first|(simp only [putAll,Act.put,yps];done)|(simp only [putAll,Act.put,yps];rfl)) (hJ11 (gb739) _ ⟨hHeld,(Kd.Yz HO_717001.out),(by (with_reducible repeat (first|apply Kd.N_alloc|apply Kd.N_drewN|apply Kd.N_drew));exact Kd.N_mono HO_717002.out (fun _ hk=>⟨hk.1.1,⟨hk.1.2.1,⟨hk.1.2.2.1,⟨hk.1.2.2.2,hk.2⟩⟩⟩⟩)),(ybz BK716.out),(ybz BK717.out),(ybz BK739.out),GW739.out,GE739.out,NB716_739.out,NB739_716.out,NB717_739.out,NB739_717.out,yhb⟩)
              ·skip
               rintro gb739 w30 ⟨hS_,h0_,h1_,h2_,h3_,h4_,h5_,h6_,h7_,h8_,h9_,h10_,h11_⟩
               replace HO_717001:Aside0 (Kd.R (Kd.int .i64) 3 w30 w.heap.size (fun k_=>(w.heap.size≤k_)) (.slice Ao10 t719.length co10) t719):=⟨h0_⟩
               replace HO_717002:Aside0 (Kd.N k73 73 w30 w.heap.size (fun k_=>(w.heap.size≤k_)∧some k_≠(.slice Ao10 t719.length co10:Value).ownBlock∧k_≠gb716∧k_≠gb717∧k_≠gb739) (.slice Ao11 t722.length co11) t722):=⟨h1_⟩
               replace BK716:Aside0 (w30.heap[gb716]?=some (.cells #[.int .i64 t718,.slice Ao10 t719.length co10,.slice Ao11 t722.length co11] 37 (0,0))):=⟨h2_⟩
               replace BK717:Aside0 (w30.heap[gb717]?=some (.cells #[.int .i64 0,.slice none 0 0,.slice none 0 0] 37 (0,0))):=⟨h3_⟩
               have BK739:Aside0 (w30.heap[gb739]?=some (.cells #[.int .i64 0,.slice none 0 0,.slice none 0 0] 37 (0,0))):=⟨h4_⟩
               have GW739:Aside0 (w.heap.size≤gb739):=⟨h5_⟩
               have GE739:Aside0 (w.heap.size≤gb739):=⟨h6_⟩
               have NB716_739:Aside0 (gb716≠gb739):=⟨h7_⟩
               have NB739_716:Aside0 (gb739≠gb716):=⟨h8_⟩
               have NB717_739:Aside0 (gb717≠gb739):=⟨h9_⟩
               have NB739_717:Aside0 (gb739≠gb717):=⟨h10_⟩
               replace HB:Aside0 (Below w.heap.size w w30):=⟨h11_⟩
               clear h0_ h1_ h2_ h3_ h4_ h5_ h6_ h7_ h8_ h9_ h10_ h11_
               have hHeld:w30.cell? ⟨gb716,0,none⟩=some (.int .i64 t718)∧w30.cell? ⟨gb716,1,none⟩=some (.slice Ao10 t719.length co10)∧w30.cell? ⟨gb716,2,none⟩=some (.slice Ao11 t722.length co11):=hS_
               refine norm_ (a':=?_) ?_ ?_
               rotate_left
               ·simp only [putAll,Act.put,yps]
                rfl
               refine two_ (i:=2) (j:=6) (Ni:=some 21) (Nj:=some 25) (yvb 13 2463) (yvb 13 2523) rfl rfl rfl rfl (two_of HT_.out (by kernel_rfl)) (by decide) (by decide) (fun K hK=>?_) (fun K hK=>?_)
               ·skip
                refine Kd.R_lit_step (Kd.int .i64) _ 3 ?hg (N:=21) ?hd (xs:=([]:List Int)) (inner:=[]) (ok:=fun _=>True) (okp:=fun _=>True) ?hr ?hp (fun _ hk=>hk) trivial (Below.refl _ _) (Nat.le_refl _) (by simp) ?_;(case hd=>rfl);(case hg=>rfl);(case hr=>first|(go_simp;done)|(go_simp;rfl));(case hp=>exact (Reps.none _ _))
                intro v728 w31 ho32 hb hg_ hnew_
                clear hg_ hnew_
                (first|rw [← Ny727.out] at ho32|(simp only [Int.reduceToNat] at ho32;rw [← Ny727.out] at ho32))
                replace HO_717002:=yam (Kd.N_elder' (by (with_reducible repeat (first|apply Kd.N_alloc|apply Kd.N_drewN|apply Kd.N_drew));exact HO_717002.out) (Kd.Yb ho32) hb)
                have HO729:=yam (Kd.R_lower (Kd.Yw (Kd.R_newM (M:=fun k_=>(w.heap.size≤k_)) ho32 (below_size yhb) (fun k_ h_=>h_)) (Kd.R_lt (Kd.Yz HO_717001.out))) (below_size yhb))
                replace HO_717001:=yam (Kd.Ye (Kd.Yz HO_717001.out) (Kd.Yb ho32) hb)
                replace BK716:=yam (ybb BK716.out hb)
                replace BK717:=yam (ybb BK717.out hb)
                replace BK739:=yam (ybb BK739.out hb)
                replace HB:=yam (below_step yhb hb)
                clear hb ho32
                refine hK.out _ _ ⟨(blk_cell BK716.out 0).trans rfl,(blk_cell BK716.out 1).trans rfl,(blk_cell BK716.out 2).trans rfl⟩ (fun hHeld=>?_)
                clear hK K
                refine norm_ (a':=?_) ?_ ?_
                rotate_left
                ·show Act.put _ (some 21) _=_
                 simp only [Act.put,yps,i64_w,i32_w]
                 rfl
                exact norm_ (by first|(simp only [putAll,Act.put,yps];done)|(simp only [putAll,Act.put,yps];rfl)) (hJ2_11 (v728,gb739) _ ⟨hHeld,(by (with_reducible repeat (first|apply Kd.Ya|apply Kd.Yn|apply Kd.Yd));exact Kd.R_mono HO729.out (fun _ hk=>⟨hk.1.1,hk.2⟩)),(Kd.Yz HO_717001.out),(by (with_reducible repeat (first|apply Kd.N_alloc|apply Kd.N_drewN|apply Kd.N_drew));exact Kd.N_mono HO_717002.out (fun _ hk=>⟨hk.1.1,⟨hk.2,⟨hk.1.2.1,⟨hk.1.2.2.1,⟨hk.1.2.2.2.1,hk.1.2.2.2.2⟩⟩⟩⟩⟩)),(ybz BK716.out),(ybz BK717.out),(ybz BK739.out),GW739.out,GE739.out,NB716_739.out,NB739_716.out,NB717_739.out,NB739_717.out,yhb⟩)
               ·skip
                refine Kd.N_lit_step k73 _ 73 ?hg (N':=25) ?hd (xs:=([]:List (S73))) (inner:=[]) (ok:=(fun k_=>(w.heap.size≤k_)∧some k_≠(.slice Ao10 t719.length co10:Value).ownBlock∧some k_≠(.slice Ao11 t722.length co11:Value).ownBlock∧k_≠gb716∧k_≠gb717∧k_≠gb739)) (okp:=(fun k_=>(w.heap.size≤k_)∧some k_≠(.slice Ao10 t719.length co10:Value).ownBlock∧some k_≠(.slice Ao11 t722.length co11:Value).ownBlock∧k_≠gb716∧k_≠gb717∧k_≠gb739)) ?hr ?hp (fun _ hk=>hk) ((show ∀ k_,w30.heap.size≤k_→(fun k_=>(w.heap.size≤k_)∧some k_≠(.slice Ao10 t719.length co10:Value).ownBlock∧some k_≠(.slice Ao11 t722.length co11:Value).ownBlock∧k_≠gb716∧k_≠gb717∧k_≠gb739) k_ from fun k_ hk=>⟨(Nat.le_trans (below_size yhb) hk),Kd.fresh' (Kd.R_lt (Kd.Yz HO_717001.out)) k_ hk,Kd.fresh' (Kd.N_lt (by (with_reducible repeat (first|apply Kd.N_alloc|apply Kd.N_drewN|apply Kd.N_drew));exact HO_717002.out)) k_ hk,Kd.freshB (g:=gb716) (o:= .cells #[.int .i64 t718,.slice Ao10 t719.length co10,.slice Ao11 t722.length co11] 37 (0,0)) (ybz BK716.out) k_ hk,Kd.freshB (g:=gb717) (o:= .cells #[.int .i64 0,.slice none 0 0,.slice none 0 0] 37 (0,0)) (ybz BK717.out) k_ hk,Kd.freshB (g:=gb739) (o:= .cells #[.int .i64 0,.slice none 0 0,.slice none 0 0] 37 (0,0)) (ybz BK739.out) k_ hk⟩) _ (Nat.le_refl _)) (Below.refl _ _) (Nat.le_refl _) (by simp) ?_;(case hd=>rfl);(case hg=>rfl);(case hr=>first|(go_simp;done)|(go_simp;rfl));(case hp=>exact (Reps.none _ _))
                intro v734 w31 ho32 hb hg_ hnew_
                clear hg_ hnew_
                (first|rw [← Ny733.out] at ho32|(simp only [Int.reduceToNat] at ho32;rw [← Ny733.out] at ho32))
                replace HO_717001:=yam (Kd.R_below (Kd.Yz HO_717001.out) hb)
                replace HO_717002:=yam (Kd.N_elder' (by (with_reducible repeat (first|apply Kd.N_alloc|apply Kd.N_drewN|apply Kd.N_drew));exact HO_717002.out) (Kd.N_base ho32) hb)
                have HO735:=yam (Kd.N_lower ho32 (below_size yhb))
                replace BK716:=yam (ybb BK716.out hb)
                replace BK717:=yam (ybb BK717.out hb)
                replace BK739:=yam (ybb BK739.out hb)
                replace HB:=yam (below_step yhb hb)
                clear hb ho32
                refine hK.out _ _ ⟨(blk_cell BK716.out 0).trans rfl,(blk_cell BK716.out 1).trans rfl,(blk_cell BK716.out 2).trans rfl⟩ (fun hHeld=>?_)
                clear hK K
                refine norm_ (a':=?_) ?_ ?_
                rotate_left
                ·show Act.put _ (some 25) _=_
                 simp only [Act.put,yps,i64_w,i32_w]
                 rfl
                exact norm_ (by first|(simp only [putAll,Act.put,yps];done)|(simp only [putAll,Act.put,yps];rfl)) (hJ6_11 (v734,gb739) _ ⟨hHeld,(by (with_reducible repeat (first|apply Kd.N_alloc|apply Kd.N_drewN|apply Kd.N_drew));exact HO735.out),(Kd.Yz HO_717001.out),(by (with_reducible repeat (first|apply Kd.N_alloc|apply Kd.N_drewN|apply Kd.N_drew));exact Kd.N_mono HO_717002.out (fun _ hk=>⟨hk.1.1,⟨hk.2,⟨hk.1.2.1,⟨hk.1.2.2.1,⟨hk.1.2.2.2.1,hk.1.2.2.2.2⟩⟩⟩⟩⟩)),(ybz BK716.out),(ybz BK717.out),(ybz BK739.out),GW739.out,GE739.out,NB716_739.out,NB739_716.out,NB717_739.out,NB739_717.out,yhb⟩)
             ·skip
              rintro v734 w31 ⟨hS_,h0_,h1_,h2_,h3_,h4_,h5_⟩
              have HO735:Aside0 (Kd.N k73 73 w31 w.heap.size (fun k_=>(w.heap.size≤k_)∧some k_≠(.slice Ao10 t719.length co10:Value).ownBlock∧some k_≠(.slice Ao11 t722.length co11:Value).ownBlock∧k_≠gb716∧k_≠gb717) v734 y733):=⟨h0_⟩
              replace HO_717001:Aside0 (Kd.R (Kd.int .i64) 3 w31 w.heap.size (fun k_=>(w.heap.size≤k_)) (.slice Ao10 t719.length co10) t719):=⟨h1_⟩
              replace HO_717002:Aside0 (Kd.N k73 73 w31 w.heap.size (fun k_=>(w.heap.size≤k_)∧some k_≠(v734:Value).ownBlock∧some k_≠(.slice Ao10 t719.length co10:Value).ownBlock∧k_≠gb716∧k_≠gb717) (.slice Ao11 t722.length co11) t722):=⟨h2_⟩
              replace BK716:Aside0 (w31.heap[gb716]?=some (.cells #[.int .i64 t718,.slice Ao10 t719.length co10,.slice Ao11 t722.length co11] 37 (0,0))):=⟨h3_⟩
              replace BK717:Aside0 (w31.heap[gb717]?=some (.cells #[.int .i64 0,.slice none 0 0,.slice none 0 0] 37 (0,0))):=⟨h4_⟩
              replace HB:Aside0 (Below w.heap.size w w31):=⟨h5_⟩
              clear h0_ h1_ h2_ h3_ h4_ h5_
              have hHeld:w31.cell? ⟨gb716,0,none⟩=some (.int .i64 t718)∧w31.cell? ⟨gb716,1,none⟩=some (.slice Ao10 t719.length co10)∧w31.cell? ⟨gb716,2,none⟩=some (.slice Ao11 t722.length co11):=hS_
              refine norm_ (a':=?_) ?_ ?_
              rotate_left
              ·simp only [putAll,Act.put,yps]
               rfl
              refine two_ (i:=2) (j:=11) (Ni:=some 21) (Nj:=some 4) (yvb 13 479) (yvb 13 2523) rfl rfl rfl rfl (two_of HT_.out (by kernel_rfl)) (by decide) (by decide) (fun K hK=>?_) (fun K hK=>?_)
              ·skip
               refine Kd.R_lit_step (Kd.int .i64) _ 3 ?hg (N:=21) ?hd (xs:=([]:List Int)) (inner:=[]) (ok:=fun _=>True) (okp:=fun _=>True) ?hr ?hp (fun _ hk=>hk) trivial (Below.refl _ _) (Nat.le_refl _) (by simp) ?_;(case hd=>rfl);(case hg=>rfl);(case hr=>first|(go_simp;done)|(go_simp;rfl));(case hp=>exact (Reps.none _ _))
               intro v728 w32 ho33 hb hg_ hnew_
               clear hg_ hnew_
               (first|rw [← Ny727.out] at ho33|(simp only [Int.reduceToNat] at ho33;rw [← Ny727.out] at ho33))
               replace HO_717002:=yam (Kd.N_elder' (by (with_reducible repeat (first|apply Kd.N_alloc|apply Kd.N_drewN|apply Kd.N_drew));exact HO_717002.out) (Kd.Yb ho33) hb)
               replace HO735:=yam (Kd.N_elder' (by (with_reducible repeat (first|apply Kd.N_alloc|apply Kd.N_drewN|apply Kd.N_drew));exact HO735.out) (Kd.Yb ho33) hb)
               have HO729:=yam (Kd.R_lower (Kd.Yw (Kd.R_newM (M:=fun k_=>(w.heap.size≤k_)) ho33 (below_size yhb) (fun k_ h_=>h_)) (Kd.R_lt (Kd.Yz HO_717001.out))) (below_size yhb))
               replace HO_717001:=yam (Kd.Ye (Kd.Yz HO_717001.out) (Kd.Yb ho33) hb)
               replace BK716:=yam (ybb BK716.out hb)
               replace BK717:=yam (ybb BK717.out hb)
               replace HB:=yam (below_step yhb hb)
               clear hb ho33
               refine hK.out _ _ ⟨(blk_cell BK716.out 0).trans rfl,(blk_cell BK716.out 1).trans rfl,(blk_cell BK716.out 2).trans rfl⟩ (fun hHeld=>?_)
               clear hK K
               refine norm_ (a':=?_) ?_ ?_
               rotate_left
               ·show Act.put _ (some 21) _=_
                simp only [Act.put,yps,i64_w,i32_w]
                rfl
               exact norm_ (by first|(simp only [putAll,Act.put,yps];done)|(simp only [putAll,Act.put,yps];rfl)) (hJ2_6 (v728,v734) _ ⟨hHeld,(by (with_reducible repeat (first|apply Kd.Ya|apply Kd.Yn|apply Kd.Yd));exact Kd.R_mono HO729.out (fun _ hk=>⟨hk.1.1,hk.2⟩)),(by (with_reducible repeat (first|apply Kd.N_alloc|apply Kd.N_drewN|apply Kd.N_drew));exact Kd.N_mono HO735.out (fun _ hk=>⟨hk.1.1,⟨hk.2,⟨hk.1.2.1,⟨hk.1.2.2.1,⟨hk.1.2.2.2.1,hk.1.2.2.2.2⟩⟩⟩⟩⟩)),(Kd.Yz HO_717001.out),(by (with_reducible repeat (first|apply Kd.N_alloc|apply Kd.N_drewN|apply Kd.N_drew));exact Kd.N_mono HO_717002.out (fun _ hk=>⟨hk.1.1,⟨hk.2,⟨hk.1.2.1,⟨hk.1.2.2.1,⟨hk.1.2.2.2.1,hk.1.2.2.2.2⟩⟩⟩⟩⟩)),(ybz BK716.out),(ybz BK717.out),yhb⟩)
              ·skip
               refine box_step ?hg (N:=4) ?hd (cs:= #[.int .i64 0,.slice none 0 0,.slice none 0 0]) (t:=37) ?hr ?_;(case hd=>rfl);(case hg=>rfl);(case hr=>first|(go_simp;done)|(go_simp;rfl))
               intro gb739 hg w32 hbox hb
               replace HO_717001:=yam (Kd.R_below (Kd.Yz HO_717001.out) hb)
               replace HO_717002:=yam (Kd.N_below (Kd.N_elderB (by (with_reducible repeat (first|apply Kd.N_alloc|apply Kd.N_drewN|apply Kd.N_drew));exact HO_717002.out) gb739 (Nat.le_of_eq hg.symm)) hb)
               replace HO735:=yam (Kd.N_below (Kd.N_elderB (by (with_reducible repeat (first|apply Kd.N_alloc|apply Kd.N_drewN|apply Kd.N_drew));exact HO735.out) gb739 (Nat.le_of_eq hg.symm)) hb)
               have BK739:=yam (hbox)
               have GW739:=yam ((by rw [hg];exact (below_size yhb):w.heap.size≤gb739))
               have GE739:=yam ((by rw [hg];exact (below_size yhb):w.heap.size≤gb739))
               replace HB:=yam (below_step yhb hb)
               have NB716_739:=yam ((by rw [hg];exact Nat.ne_of_lt (blk_lt (g:=gb716) (o:= .cells #[.int .i64 t718,.slice Ao10 t719.length co10,.slice Ao11 t722.length co11] 37 (0,0)) (ybz BK716.out)):gb716≠gb739))
               have NB739_716:=yam ((by rw [hg];exact Nat.ne_of_gt (blk_lt (g:=gb716) (o:= .cells #[.int .i64 t718,.slice Ao10 t719.length co10,.slice Ao11 t722.length co11] 37 (0,0)) (ybz BK716.out)):gb739≠gb716))
               replace BK716:=yam (ybb BK716.out hb)
               have NB717_739:=yam ((by rw [hg];exact Nat.ne_of_lt (blk_lt (g:=gb717) (o:= .cells #[.int .i64 0,.slice none 0 0,.slice none 0 0] 37 (0,0)) (ybz BK717.out)):gb717≠gb739))
               have NB739_717:=yam ((by rw [hg];exact Nat.ne_of_gt (blk_lt (g:=gb717) (o:= .cells #[.int .i64 0,.slice none 0 0,.slice none 0 0] 37 (0,0)) (ybz BK717.out)):gb739≠gb717))
               replace BK717:=yam (ybb BK717.out hb)
               clear hb hbox hg
               refine hK.out _ _ ⟨(blk_cell BK716.out 0).trans rfl,(blk_cell BK716.out 1).trans rfl,(blk_cell BK716.out 2).trans rfl⟩ (fun hHeld=>?_)
               clear hK K
               refine norm_ (a':=?_) ?_ ?_
               rotate_left
               ·show Act.put _ (some 4) _=_
                simp only [Act.put,yps,i64_w,i32_w]
                rfl
               exact norm_ (by first|(simp only [putAll,Act.put,yps];done)|(simp only [putAll,Act.put,yps];rfl)) (hJ6_11 (v734,gb739) _ ⟨hHeld,(by (with_reducible repeat (first|apply Kd.N_alloc|apply Kd.N_drewN|apply Kd.N_drew));exact Kd.N_mono HO735.out (fun _ hk=>⟨hk.1.1,⟨hk.1.2.1,⟨hk.1.2.2.1,⟨hk.1.2.2.2.1,⟨hk.1.2.2.2.2,hk.2⟩⟩⟩⟩⟩)),(Kd.Yz HO_717001.out),(by (with_reducible repeat (first|apply Kd.N_alloc|apply Kd.N_drewN|apply Kd.N_drew));exact Kd.N_mono HO_717002.out (fun _ hk=>⟨hk.1.1,⟨hk.1.2.1,⟨hk.1.2.2.1,⟨hk.1.2.2.2.1,⟨hk.1.2.2.2.2,hk.2⟩⟩⟩⟩⟩)),(ybz BK716.out),(ybz BK717.out),(ybz BK739.out),GW739.out,GE739.out,NB716_739.out,NB739_716.out,NB717_739.out,NB739_717.out,yhb⟩)
            ·skip
             rintro v728 w31 ⟨hS_,h0_,h1_,h2_,h3_,h4_,h5_⟩
             have HO729:Aside0 (Kd.R (Kd.int .i64) 3 w31 w.heap.size (fun k_=>(w.heap.size≤k_)∧some k_≠(.slice Ao10 t719.length co10:Value).ownBlock) v728 y727):=⟨h0_⟩
             replace HO_717001:Aside0 (Kd.R (Kd.int .i64) 3 w31 w.heap.size (fun k_=>(w.heap.size≤k_)∧some k_≠(v728:Value).ownBlock) (.slice Ao10 t719.length co10) t719):=⟨h1_⟩
             replace HO_717002:Aside0 (Kd.N k73 73 w31 w.heap.size (fun k_=>(w.heap.size≤k_)∧some k_≠(v728:Value).ownBlock∧some k_≠(.slice Ao10 t719.length co10:Value).ownBlock∧k_≠gb716∧k_≠gb717) (.slice Ao11 t722.length co11) t722):=⟨h2_⟩
             replace BK716:Aside0 (w31.heap[gb716]?=some (.cells #[.int .i64 t718,.slice Ao10 t719.length co10,.slice Ao11 t722.length co11] 37 (0,0))):=⟨h3_⟩
             replace BK717:Aside0 (w31.heap[gb717]?=some (.cells #[.int .i64 0,.slice none 0 0,.slice none 0 0] 37 (0,0))):=⟨h4_⟩
             replace HB:Aside0 (Below w.heap.size w w31):=⟨h5_⟩
             clear h0_ h1_ h2_ h3_ h4_ h5_
             have hHeld:w31.cell? ⟨gb716,0,none⟩=some (.int .i64 t718)∧w31.cell? ⟨gb716,1,none⟩=some (.slice Ao10 t719.length co10)∧w31.cell? ⟨gb716,2,none⟩=some (.slice Ao11 t722.length co11):=hS_
             refine norm_ (a':=?_) ?_ ?_
             rotate_left
             ·simp only [putAll,Act.put,yps]
              rfl
             refine three_ (i:=5) (j:=6) (k:=11) (Ni:=some 24) (Nj:=some 25) (Nk:=some 4) (yvb 13 447) (yvb 13 479) (yvb 13 2463) rfl rfl rfl rfl rfl rfl (three_of HT_.out (by kernel_rfl)) (by decide) (by decide) (by decide) (fun K hK=>?_) (fun K hK=>?_) (fun K hK=>?_)
             ·skip
              refine Kd.R_append_rows_step (Kd.int .i64) (w0:=w) w.heap.size (by rfl) (.tmp 21) (.tmp 23) 22 3 (.int .i64 0) 8 rfl Try.underlying22 info3 rfl (by decide) (by omega) v728 y727 t719 _ _ _ (fun k_=>(w.heap.size≤k_)∧some k_≠(.slice Ao10 t719.length co10:Value).ownBlock) (fun _=>False) rfl rfl ?aO ?aR (fun _ _ h=>h) (fun _ h=>h.elim) ?aF ?aB ?aS ?aL ?_
              (case aR=>repeat (first|exact (Kd.Yr HO_717001.out).2.2|(with_reducible refine Kd.C_alloc ?_ _)|(with_reducible refine Kd.C_drewN ?_ _)|(with_reducible refine Kd.C_drew ?_)))
              (case aB=>exact yhb)
              (case aF=>exact (fun k_ hk=>⟨(Nat.le_trans (below_size yhb) hk),Kd.fresh' (Kd.R_lt (Kd.Yz HO_717001.out)) k_ hk⟩))
              (case aO=>exact (Kd.Yz HO729.out))
              (case aS=>exact (below_size yhb))
              (case aL=>have:=LMc26.out;omega)
              intro v731 w32 ho hb hg hat
              rw [← Ny730.out] at ho
              replace HO_717001:=yam (Kd.R_after (ok:=(fun k_=>(w.heap.size≤k_))) (Kd.Yz HO_717001.out) hg hat)
              replace HO_717002:=yam (Kd.N_afterv (ok:=(fun k_=>(w.heap.size≤k_)∧some k_≠(.slice Ao10 t719.length co10:Value).ownBlock∧k_≠gb716∧k_≠gb717)) (by (with_reducible repeat (first|apply Kd.N_alloc|apply Kd.N_drewN|apply Kd.N_drew));exact Kd.N_mono HO_717002.out (fun _ hk=>⟨⟨hk.1,⟨hk.2.2.1,⟨hk.2.2.2.1,hk.2.2.2.2⟩⟩⟩,hk.2.1⟩)) hg hat)
              replace BK716:=yam (blk_grown (g:=gb716) (o:= .cells #[.int .i64 t718,.slice Ao10 t719.length co10,.slice Ao11 t722.length co11] 37 (0,0)) (ybz BK716.out) hg (Kd.R_ne HO729.out BK716.out (by decide)))
              replace BK717:=yam (blk_grown (g:=gb717) (o:= .cells #[.int .i64 0,.slice none 0 0,.slice none 0 0] 37 (0,0)) (ybz BK717.out) hg (Kd.R_ne HO729.out BK717.out (by decide)))
              replace HB:=yam (hb)
              have HO732:=yam (ho)
              clear HO729
              clear ho hb hg hat
              refine hK.out _ _ ⟨(blk_cell BK716.out 0).trans rfl,(blk_cell BK716.out 1).trans rfl,(blk_cell BK716.out 2).trans rfl⟩ (fun hHeld=>?_)
              clear hK K
              refine norm_ (a':=?_) ?_ ?_
              rotate_left
              ·show Act.put _ (some 24) _=_
               simp only [Act.put,yps,i64_w,i32_w]
               rfl
              exact norm_ (by first|(simp only [putAll,Act.put,yps];done)|(simp only [putAll,Act.put,yps];rfl)) (hJ2_5 (v728,v731) _ ⟨hHeld,(Kd.Yz HO732.out),(Kd.Yz HO_717001.out),(by (with_reducible repeat (first|apply Kd.N_alloc|apply Kd.N_drewN|apply Kd.N_drew));exact Kd.N_mono HO_717002.out (fun _ hk=>⟨hk.1.1,⟨hk.2,⟨hk.1.2.1,⟨hk.1.2.2.1,hk.1.2.2.2⟩⟩⟩⟩)),(ybz BK716.out),(ybz BK717.out),yhb⟩)
             ·skip
              refine Kd.N_lit_step k73 _ 73 ?hg (N':=25) ?hd (xs:=([]:List (S73))) (inner:=[]) (ok:=(fun k_=>(w.heap.size≤k_)∧some k_≠(.slice Ao10 t719.length co10:Value).ownBlock∧some k_≠(.slice Ao11 t722.length co11:Value).ownBlock∧some k_≠(v728:Value).ownBlock∧k_≠gb716∧k_≠gb717)) (okp:=(fun k_=>(w.heap.size≤k_)∧some k_≠(.slice Ao10 t719.length co10:Value).ownBlock∧some k_≠(.slice Ao11 t722.length co11:Value).ownBlock∧some k_≠(v728:Value).ownBlock∧k_≠gb716∧k_≠gb717)) ?hr ?hp (fun _ hk=>hk) ((show ∀ k_,w31.heap.size≤k_→(fun k_=>(w.heap.size≤k_)∧some k_≠(.slice Ao10 t719.length co10:Value).ownBlock∧some k_≠(.slice Ao11 t722.length co11:Value).ownBlock∧some k_≠(v728:Value).ownBlock∧k_≠gb716∧k_≠gb717) k_ from fun k_ hk=>⟨(Nat.le_trans (below_size yhb) hk),Kd.fresh' (Kd.R_lt (Kd.Yz HO_717001.out)) k_ hk,Kd.fresh' (Kd.N_lt (by (with_reducible repeat (first|apply Kd.N_alloc|apply Kd.N_drewN|apply Kd.N_drew));exact HO_717002.out)) k_ hk,Kd.fresh' (Kd.R_lt (Kd.Yz HO729.out)) k_ hk,Kd.freshB (g:=gb716) (o:= .cells #[.int .i64 t718,.slice Ao10 t719.length co10,.slice Ao11 t722.length co11] 37 (0,0)) (ybz BK716.out) k_ hk,Kd.freshB (g:=gb717) (o:= .cells #[.int .i64 0,.slice none 0 0,.slice none 0 0] 37 (0,0)) (ybz BK717.out) k_ hk⟩) _ (Nat.le_refl _)) (Below.refl _ _) (Nat.le_refl _) (by simp) ?_;(case hd=>rfl);(case hg=>rfl);(case hr=>first|(go_simp;done)|(go_simp;rfl));(case hp=>exact (Reps.none _ _))
              intro v734 w32 ho33 hb hg_ hnew_
              clear hg_ hnew_
              (first|rw [← Ny733.out] at ho33|(simp only [Int.reduceToNat] at ho33;rw [← Ny733.out] at ho33))
              replace HO_717001:=yam (Kd.R_below (Kd.Yz HO_717001.out) hb)
              replace HO_717002:=yam (Kd.N_elder' (by (with_reducible repeat (first|apply Kd.N_alloc|apply Kd.N_drewN|apply Kd.N_drew));exact HO_717002.out) (Kd.N_base ho33) hb)
              replace HO729:=yam (Kd.R_below (Kd.Yz HO729.out) hb)
              have HO735:=yam (Kd.N_lower ho33 (below_size yhb))
              replace BK716:=yam (ybb BK716.out hb)
              replace BK717:=yam (ybb BK717.out hb)
              replace HB:=yam (below_step yhb hb)
              clear hb ho33
              refine hK.out _ _ ⟨(blk_cell BK716.out 0).trans rfl,(blk_cell BK716.out 1).trans rfl,(blk_cell BK716.out 2).trans rfl⟩ (fun hHeld=>?_)
              clear hK K
              refine norm_ (a':=?_) ?_ ?_
              rotate_left
              ·show Act.put _ (some 25) _=_
               simp only [Act.put,yps,i64_w,i32_w]
               rfl
              exact norm_ (by first|(simp only [putAll,Act.put,yps];done)|(simp only [putAll,Act.put,yps];rfl)) (hJ2_6 (v728,v734) _ ⟨hHeld,(Kd.Yz HO729.out),(by (with_reducible repeat (first|apply Kd.N_alloc|apply Kd.N_drewN|apply Kd.N_drew));exact Kd.N_mono HO735.out (fun _ hk=>⟨hk.1,⟨hk.2.2.2.1,⟨hk.2.1,⟨hk.2.2.1,⟨hk.2.2.2.2.1,hk.2.2.2.2.2⟩⟩⟩⟩⟩)),(Kd.Yz HO_717001.out),(by (with_reducible repeat (first|apply Kd.N_alloc|apply Kd.N_drewN|apply Kd.N_drew));exact Kd.N_mono HO_717002.out (fun _ hk=>⟨hk.1.1,⟨hk.1.2.1,⟨hk.2,⟨hk.1.2.2.1,⟨hk.1.2.2.2.1,hk.1.2.2.2.2⟩⟩⟩⟩⟩)),(ybz BK716.out),(ybz BK717.out),yhb⟩)
             ·skip
              refine box_step ?hg (N:=4) ?hd (cs:= #[.int .i64 0,.slice none 0 0,.slice none 0 0]) (t:=37) ?hr ?_;(case hd=>rfl);(case hg=>rfl);(case hr=>first|(go_simp;done)|(go_simp;rfl))
              intro gb739 hg w32 hbox hb
              replace HO_717001:=yam (Kd.R_below (Kd.Yz HO_717001.out) hb)
              replace HO_717002:=yam (Kd.N_below (Kd.N_elderB (by (with_reducible repeat (first|apply Kd.N_alloc|apply Kd.N_drewN|apply Kd.N_drew));exact HO_717002.out) gb739 (Nat.le_of_eq hg.symm)) hb)
              replace HO729:=yam (Kd.R_below (Kd.Yz HO729.out) hb)
              have BK739:=yam (hbox)
              have GW739:=yam ((by rw [hg];exact (below_size yhb):w.heap.size≤gb739))
              have GE739:=yam ((by rw [hg];exact (below_size yhb):w.heap.size≤gb739))
              replace HB:=yam (below_step yhb hb)
              have NB716_739:=yam ((by rw [hg];exact Nat.ne_of_lt (blk_lt (g:=gb716) (o:= .cells #[.int .i64 t718,.slice Ao10 t719.length co10,.slice Ao11 t722.length co11] 37 (0,0)) (ybz BK716.out)):gb716≠gb739))
              have NB739_716:=yam ((by rw [hg];exact Nat.ne_of_gt (blk_lt (g:=gb716) (o:= .cells #[.int .i64 t718,.slice Ao10 t719.length co10,.slice Ao11 t722.length co11] 37 (0,0)) (ybz BK716.out)):gb739≠gb716))
              replace BK716:=yam (ybb BK716.out hb)
              have NB717_739:=yam ((by rw [hg];exact Nat.ne_of_lt (blk_lt (g:=gb717) (o:= .cells #[.int .i64 0,.slice none 0 0,.slice none 0 0] 37 (0,0)) (ybz BK717.out)):gb717≠gb739))
              have NB739_717:=yam ((by rw [hg];exact Nat.ne_of_gt (blk_lt (g:=gb717) (o:= .cells #[.int .i64 0,.slice none 0 0,.slice none 0 0] 37 (0,0)) (ybz BK717.out)):gb739≠gb717))
              replace BK717:=yam (ybb BK717.out hb)
              clear hb hbox hg
              refine hK.out _ _ ⟨(blk_cell BK716.out 0).trans rfl,(blk_cell BK716.out 1).trans rfl,(blk_cell BK716.out 2).trans rfl⟩ (fun hHeld=>?_)
              clear hK K
              refine norm_ (a':=?_) ?_ ?_
              rotate_left
              ·show Act.put _ (some 4) _=_
               simp only [Act.put,yps,i64_w,i32_w]
               rfl
              exact norm_ (by first|(simp only [putAll,Act.put,yps];done)|(simp only [putAll,Act.put,yps];rfl)) (hJ2_11 (v728,gb739) _ ⟨hHeld,(Kd.Yz HO729.out),(Kd.Yz HO_717001.out),(by (with_reducible repeat (first|apply Kd.N_alloc|apply Kd.N_drewN|apply Kd.N_drew));exact Kd.N_mono HO_717002.out (fun _ hk=>⟨hk.1.1,⟨hk.1.2.1,⟨hk.1.2.2.1,⟨hk.1.2.2.2.1,⟨hk.1.2.2.2.2,hk.2⟩⟩⟩⟩⟩)),(ybz BK716.out),(ybz BK717.out),(ybz BK739.out),GW739.out,GE739.out,NB716_739.out,NB739_716.out,NB717_739.out,NB739_717.out,yhb⟩)
           ·skip
            rintro ⟨v734,gb739⟩ w32 ⟨hS_,h0_,h1_,h2_,h3_,h4_,h5_,h6_,h7_,h8_,h9_,h10_,h11_,h12_⟩
            have HO735:Aside0 (Kd.N k73 73 w32 w.heap.size (fun k_=>(w.heap.size≤k_)∧some k_≠(.slice Ao10 t719.length co10:Value).ownBlock∧some k_≠(.slice Ao11 t722.length co11:Value).ownBlock∧k_≠gb716∧k_≠gb717∧k_≠gb739) v734 y733):=⟨h0_⟩
            replace HO_717001:Aside0 (Kd.R (Kd.int .i64) 3 w32 w.heap.size (fun k_=>(w.heap.size≤k_)) (.slice Ao10 t719.length co10) t719):=⟨h1_⟩
            replace HO_717002:Aside0 (Kd.N k73 73 w32 w.heap.size (fun k_=>(w.heap.size≤k_)∧some k_≠(v734:Value).ownBlock∧some k_≠(.slice Ao10 t719.length co10:Value).ownBlock∧k_≠gb716∧k_≠gb717∧k_≠gb739) (.slice Ao11 t722.length co11) t722):=⟨h2_⟩
            replace BK716:Aside0 (w32.heap[gb716]?=some (.cells #[.int .i64 t718,.slice Ao10 t719.length co10,.slice Ao11 t722.length co11] 37 (0,0))):=⟨h3_⟩
            replace BK717:Aside0 (w32.heap[gb717]?=some (.cells #[.int .i64 0,.slice none 0 0,.slice none 0 0] 37 (0,0))):=⟨h4_⟩
            have BK739:Aside0 (w32.heap[gb739]?=some (.cells #[.int .i64 0,.slice none 0 0,.slice none 0 0] 37 (0,0))):=⟨h5_⟩
            have GW739:Aside0 (w.heap.size≤gb739):=⟨h6_⟩
            have GE739:Aside0 (w.heap.size≤gb739):=⟨h7_⟩
            have NB716_739:Aside0 (gb716≠gb739):=⟨h8_⟩
            have NB739_716:Aside0 (gb739≠gb716):=⟨h9_⟩
            have NB717_739:Aside0 (gb717≠gb739):=⟨h10_⟩
            have NB739_717:Aside0 (gb739≠gb717):=⟨h11_⟩
            replace HB:Aside0 (Below w.heap.size w w32):=⟨h12_⟩
            clear h0_ h1_ h2_ h3_ h4_ h5_ h6_ h7_ h8_ h9_ h10_ h11_ h12_
            have hHeld:w32.cell? ⟨gb716,0,none⟩=some (.int .i64 t718)∧w32.cell? ⟨gb716,1,none⟩=some (.slice Ao10 t719.length co10)∧w32.cell? ⟨gb716,2,none⟩=some (.slice Ao11 t722.length co11):=hS_
            refine norm_ (a':=?_) ?_ ?_
            rotate_left
            ·simp only [putAll,Act.put,yps]
             rfl
            refine one_ (i:=2) (N:=some 21) (yvb 13 2527) rfl rfl (one_of HT_.out (by kernel_rfl)) (by decide) (fun K hK=>?_)
            refine Kd.R_lit_step (Kd.int .i64) _ 3 ?hg (N:=21) ?hd (xs:=([]:List Int)) (inner:=[]) (ok:=fun _=>True) (okp:=fun _=>True) ?hr ?hp (fun _ hk=>hk) trivial (Below.refl _ _) (Nat.le_refl _) (by simp) ?_;(case hd=>rfl);(case hg=>rfl);(case hr=>first|(go_simp;done)|(go_simp;rfl));(case hp=>exact (Reps.none _ _))
            intro v728 w33 ho34 hb hg_ hnew_
            clear hg_ hnew_
            (first|rw [← Ny727.out] at ho34|(simp only [Int.reduceToNat] at ho34;rw [← Ny727.out] at ho34))
            replace HO_717002:=yam (Kd.N_elder' (by (with_reducible repeat (first|apply Kd.N_alloc|apply Kd.N_drewN|apply Kd.N_drew));exact HO_717002.out) (Kd.Yb ho34) hb)
            replace HO735:=yam (Kd.N_elder' (by (with_reducible repeat (first|apply Kd.N_alloc|apply Kd.N_drewN|apply Kd.N_drew));exact HO735.out) (Kd.Yb ho34) hb)
            have HO729:=yam (Kd.R_lower (Kd.Yw (Kd.R_newM (M:=fun k_=>(w.heap.size≤k_)) ho34 (below_size yhb) (fun k_ h_=>h_)) (Kd.R_lt (Kd.Yz HO_717001.out))) (below_size yhb))
            replace HO_717001:=yam (Kd.Ye (Kd.Yz HO_717001.out) (Kd.Yb ho34) hb)
            replace BK716:=yam (ybb BK716.out hb)
            replace BK717:=yam (ybb BK717.out hb)
            replace BK739:=yam (ybb BK739.out hb)
            replace HB:=yam (below_step yhb hb)
            clear hb ho34
            refine hK.out _ _ ⟨(blk_cell BK716.out 0).trans rfl,(blk_cell BK716.out 1).trans rfl,(blk_cell BK716.out 2).trans rfl⟩ (fun hHeld=>?_)
            clear hK K
            refine norm_ (a':=?_) ?_ ?_
            rotate_left
            ·show Act.put _ (some 21) _=_
             simp only [Act.put,yps,i64_w,i32_w]
             rfl
            exact norm_ (by first|(simp only [putAll,Act.put,yps];done)|(simp only [putAll,Act.put,yps];rfl)) (hJ2_6_11 (v728,v734,gb739) _ ⟨hHeld,(by (with_reducible repeat (first|apply Kd.Ya|apply Kd.Yn|apply Kd.Yd));exact Kd.R_mono HO729.out (fun _ hk=>⟨hk.1.1,hk.2⟩)),(by (with_reducible repeat (first|apply Kd.N_alloc|apply Kd.N_drewN|apply Kd.N_drew));exact Kd.N_mono HO735.out (fun _ hk=>⟨hk.1.1,⟨hk.2,⟨hk.1.2.1,⟨hk.1.2.2.1,⟨hk.1.2.2.2.1,⟨hk.1.2.2.2.2.1,hk.1.2.2.2.2.2⟩⟩⟩⟩⟩⟩)),(Kd.Yz HO_717001.out),(by (with_reducible repeat (first|apply Kd.N_alloc|apply Kd.N_drewN|apply Kd.N_drew));exact Kd.N_mono HO_717002.out (fun _ hk=>⟨hk.1.1,⟨hk.2,⟨hk.1.2.1,⟨hk.1.2.2.1,⟨hk.1.2.2.2.1,⟨hk.1.2.2.2.2.1,hk.1.2.2.2.2.2⟩⟩⟩⟩⟩⟩)),(ybz BK716.out),(ybz BK717.out),(ybz BK739.out),GW739.out,GE739.out,NB716_739.out,NB739_716.out,NB717_739.out,NB739_717.out,yhb⟩)
          ·skip
           rintro ⟨v728,gb739⟩ w32 ⟨hS_,h0_,h1_,h2_,h3_,h4_,h5_,h6_,h7_,h8_,h9_,h10_,h11_,h12_⟩
           have HO729:Aside0 (Kd.R (Kd.int .i64) 3 w32 w.heap.size (fun k_=>(w.heap.size≤k_)∧some k_≠(.slice Ao10 t719.length co10:Value).ownBlock) v728 y727):=⟨h0_⟩
           replace HO_717001:Aside0 (Kd.R (Kd.int .i64) 3 w32 w.heap.size (fun k_=>(w.heap.size≤k_)∧some k_≠(v728:Value).ownBlock) (.slice Ao10 t719.length co10) t719):=⟨h1_⟩
           replace HO_717002:Aside0 (Kd.N k73 73 w32 w.heap.size (fun k_=>(w.heap.size≤k_)∧some k_≠(v728:Value).ownBlock∧some k_≠(.slice Ao10 t719.length co10:Value).ownBlock∧k_≠gb716∧k_≠gb717∧k_≠gb739) (.slice Ao11 t722.length co11) t722):=⟨h2_⟩
           replace BK716:Aside0 (w32.heap[gb716]?=some (.cells #[.int .i64 t718,.slice Ao10 t719.length co10,.slice Ao11 t722.length co11] 37 (0,0))):=⟨h3_⟩
           replace BK717:Aside0 (w32.heap[gb717]?=some (.cells #[.int .i64 0,.slice none 0 0,.slice none 0 0] 37 (0,0))):=⟨h4_⟩
           have BK739:Aside0 (w32.heap[gb739]?=some (.cells #[.int .i64 0,.slice none 0 0,.slice none 0 0] 37 (0,0))):=⟨h5_⟩
           have GW739:Aside0 (w.heap.size≤gb739):=⟨h6_⟩
           have GE739:Aside0 (w.heap.size≤gb739):=⟨h7_⟩
           have NB716_739:Aside0 (gb716≠gb739):=⟨h8_⟩
           have NB739_716:Aside0 (gb739≠gb716):=⟨h9_⟩
           have NB717_739:Aside0 (gb717≠gb739):=⟨h10_⟩
           have NB739_717:Aside0 (gb739≠gb717):=⟨h11_⟩
           replace HB:Aside0 (Below w.heap.size w w32):=⟨h12_⟩
           clear h0_ h1_ h2_ h3_ h4_ h5_ h6_ h7_ h8_ h9_ h10_ h11_ h12_
           have hHeld:w32.cell? ⟨gb716,0,none⟩=some (.int .i64 t718)∧w32.cell? ⟨gb716,1,none⟩=some (.slice Ao10 t719.length co10)∧w32.cell? ⟨gb716,2,none⟩=some (.slice Ao11 t722.length co11):=hS_
           refine norm_ (a':=?_) ?_ ?_
           rotate_left
           ·simp only [putAll,Act.put,yps]
            rfl
           refine two_ (i:=5) (j:=6) (Ni:=some 24) (Nj:=some 25) (yvb 13 2495) (yvb 13 2527) rfl rfl rfl rfl (two_of HT_.out (by kernel_rfl)) (by decide) (by decide) (fun K hK=>?_) (fun K hK=>?_)
           ·skip
            refine Kd.R_append_rows_step (Kd.int .i64) (w0:=w) w.heap.size (by rfl) (.tmp 21) (.tmp 23) 22 3 (.int .i64 0) 8 rfl Try.underlying22 info3 rfl (by decide) (by omega) v728 y727 t719 _ _ _ (fun k_=>(w.heap.size≤k_)∧some k_≠(.slice Ao10 t719.length co10:Value).ownBlock) (fun _=>False) rfl rfl ?aO ?aR (fun _ _ h=>h) (fun _ h=>h.elim) ?aF ?aB ?aS ?aL ?_
            (case aR=>repeat (first|exact (Kd.Yr HO_717001.out).2.2|(with_reducible refine Kd.C_alloc ?_ _)|(with_reducible refine Kd.C_drewN ?_ _)|(with_reducible refine Kd.C_drew ?_)))
            (case aB=>exact yhb)
            (case aF=>exact (fun k_ hk=>⟨(Nat.le_trans (below_size yhb) hk),Kd.fresh' (Kd.R_lt (Kd.Yz HO_717001.out)) k_ hk⟩))
            (case aO=>exact (Kd.Yz HO729.out))
            (case aS=>exact (below_size yhb))
            (case aL=>have:=LMc26.out;omega)
            intro v731 w33 ho hb hg hat
            rw [← Ny730.out] at ho
            replace HO_717001:=yam (Kd.R_after (ok:=(fun k_=>(w.heap.size≤k_))) (Kd.Yz HO_717001.out) hg hat)
            replace HO_717002:=yam (Kd.N_afterv (ok:=(fun k_=>(w.heap.size≤k_)∧some k_≠(.slice Ao10 t719.length co10:Value).ownBlock∧k_≠gb716∧k_≠gb717∧k_≠gb739)) (by (with_reducible repeat (first|apply Kd.N_alloc|apply Kd.N_drewN|apply Kd.N_drew));exact Kd.N_mono HO_717002.out (fun _ hk=>⟨⟨hk.1,⟨hk.2.2.1,⟨hk.2.2.2.1,⟨hk.2.2.2.2.1,hk.2.2.2.2.2⟩⟩⟩⟩,hk.2.1⟩)) hg hat)
            replace BK716:=yam (blk_grown (g:=gb716) (o:= .cells #[.int .i64 t718,.slice Ao10 t719.length co10,.slice Ao11 t722.length co11] 37 (0,0)) (ybz BK716.out) hg (Kd.R_ne HO729.out BK716.out (by decide)))
            replace BK717:=yam (blk_grown (g:=gb717) (o:= .cells #[.int .i64 0,.slice none 0 0,.slice none 0 0] 37 (0,0)) (ybz BK717.out) hg (Kd.R_ne HO729.out BK717.out (by decide)))
            replace BK739:=yam (blk_grown (g:=gb739) (o:= .cells #[.int .i64 0,.slice none 0 0,.slice none 0 0] 37 (0,0)) (ybz BK739.out) hg (Kd.R_ne HO729.out BK739.out (by decide)))
            replace HB:=yam (hb)
            have HO732:=yam (ho)
            clear HO729
            clear ho hb hg hat
            refine hK.out _ _ ⟨(blk_cell BK716.out 0).trans rfl,(blk_cell BK716.out 1).trans rfl,(blk_cell BK716.out 2).trans rfl⟩ (fun hHeld=>?_)
            clear hK K
            refine norm_ (a':=?_) ?_ ?_
            rotate_left
            ·show Act.put _ (some 24) _=_
             simp only [Act.put,yps,i64_w,i32_w]
             rfl
            exact norm_ (by first|(simp only [putAll,Act.put,yps];done)|(simp only [putAll,Act.put,yps];rfl)) (hJ2_5_11 (v728,v731,gb739) _ ⟨hHeld,(Kd.Yz HO732.out),(Kd.Yz HO_717001.out),(by (with_reducible repeat (first|apply Kd.N_alloc|apply Kd.N_drewN|apply Kd.N_drew));exact Kd.N_mono HO_717002.out (fun _ hk=>⟨hk.1.1,⟨hk.2,⟨hk.1.2.1,⟨hk.1.2.2.1,⟨hk.1.2.2.2.1,hk.1.2.2.2.2⟩⟩⟩⟩⟩)),(ybz BK716.out),(ybz BK717.out),(ybz BK739.out),GW739.out,GE739.out,NB716_739.out,NB739_716.out,NB717_739.out,NB739_717.out,yhb⟩)
           ·skip
            refine Kd.N_lit_step k73 _ 73 ?hg (N':=25) ?hd (xs:=([]:List (S73))) (inner:=[]) (ok:=(fun k_=>(w.heap.size≤k_)∧some k_≠(.slice Ao10 t719.length co10:Value).ownBlock∧some k_≠(.slice Ao11 t722.length co11:Value).ownBlock∧some k_≠(v728:Value).ownBlock∧k_≠gb716∧k_≠gb717∧k_≠gb739)) (okp:=(fun k_=>(w.heap.size≤k_)∧some k_≠(.slice Ao10 t719.length co10:Value).ownBlock∧some k_≠(.slice Ao11 t722.length co11:Value).ownBlock∧some k_≠(v728:Value).ownBlock∧k_≠gb716∧k_≠gb717∧k_≠gb739)) ?hr ?hp (fun _ hk=>hk) ((show ∀ k_,w32.heap.size≤k_→(fun k_=>(w.heap.size≤k_)∧some k_≠(.slice Ao10 t719.length co10:Value).ownBlock∧some k_≠(.slice Ao11 t722.length co11:Value).ownBlock∧some k_≠(v728:Value).ownBlock∧k_≠gb716∧k_≠gb717∧k_≠gb739) k_ from fun k_ hk=>⟨(Nat.le_trans (below_size yhb) hk),Kd.fresh' (Kd.R_lt (Kd.Yz HO_717001.out)) k_ hk,Kd.fresh' (Kd.N_lt (by (with_reducible repeat (first|apply Kd.N_alloc|apply Kd.N_drewN|apply Kd.N_drew));exact HO_717002.out)) k_ hk,Kd.fresh' (Kd.R_lt (Kd.Yz HO729.out)) k_ hk,Kd.freshB (g:=gb716) (o:= .cells #[.int .i64 t718,.slice Ao10 t719.length co10,.slice Ao11 t722.length co11] 37 (0,0)) (ybz BK716.out) k_ hk,Kd.freshB (g:=gb717) (o:= .cells #[.int .i64 0,.slice none 0 0,.slice none 0 0] 37 (0,0)) (ybz BK717.out) k_ hk,Kd.freshB (g:=gb739) (o:= .cells #[.int .i64 0,.slice none 0 0,.slice none 0 0] 37 (0,0)) (ybz BK739.out) k_ hk⟩) _ (Nat.le_refl _)) (Below.refl _ _) (Nat.le_refl _) (by simp) ?_;(case hd=>rfl);(case hg=>rfl);(case hr=>first|(go_simp;done)|(go_simp;rfl));(case hp=>exact (Reps.none _ _))
            intro v734 w33 ho34 hb hg_ hnew_
            clear hg_ hnew_
            (first|rw [← Ny733.out] at ho34|(simp only [Int.reduceToNat] at ho34;rw [← Ny733.out] at ho34))
            replace HO_717001:=yam (Kd.R_below (Kd.Yz HO_717001.out) hb)
            replace HO_717002:=yam (Kd.N_elder' (by (with_reducible repeat (first|apply Kd.N_alloc|apply Kd.N_drewN|apply Kd.N_drew));exact HO_717002.out) (Kd.N_base ho34) hb)
            replace HO729:=yam (Kd.R_below (Kd.Yz HO729.out) hb)
            have HO735:=yam (Kd.N_lower ho34 (below_size yhb))
            replace BK716:=yam (ybb BK716.out hb)
            replace BK717:=yam (ybb BK717.out hb)
            replace BK739:=yam (ybb BK739.out hb)
            replace HB:=yam (below_step yhb hb)
            clear hb ho34
            refine hK.out _ _ ⟨(blk_cell BK716.out 0).trans rfl,(blk_cell BK716.out 1).trans rfl,(blk_cell BK716.out 2).trans rfl⟩ (fun hHeld=>?_)
            clear hK K
            refine norm_ (a':=?_) ?_ ?_
            rotate_left
            ·show Act.put _ (some 25) _=_
             simp only [Act.put,yps,i64_w,i32_w]
             rfl
            exact norm_ (by first|(simp only [putAll,Act.put,yps];done)|(simp only [putAll,Act.put,yps];rfl)) (hJ2_6_11 (v728,v734,gb739) _ ⟨hHeld,(Kd.Yz HO729.out),(by (with_reducible repeat (first|apply Kd.N_alloc|apply Kd.N_drewN|apply Kd.N_drew));exact Kd.N_mono HO735.out (fun _ hk=>⟨hk.1,⟨hk.2.2.2.1,⟨hk.2.1,⟨hk.2.2.1,⟨hk.2.2.2.2.1,⟨hk.2.2.2.2.2.1,hk.2.2.2.2.2.2⟩⟩⟩⟩⟩⟩)),(Kd.Yz HO_717001.out),(by (with_reducible repeat (first|apply Kd.N_alloc|apply Kd.N_drewN|apply Kd.N_drew));exact Kd.N_mono HO_717002.out (fun _ hk=>⟨hk.1.1,⟨hk.1.2.1,⟨hk.2,⟨hk.1.2.2.1,⟨hk.1.2.2.2.1,⟨hk.1.2.2.2.2.1,hk.1.2.2.2.2.2⟩⟩⟩⟩⟩⟩)),(ybz BK716.out),(ybz BK717.out),(ybz BK739.out),GW739.out,GE739.out,NB716_739.out,NB739_716.out,NB717_739.out,NB739_717.out,yhb⟩)
         ·skip
          rintro ⟨v728,v734⟩ w33 ⟨hS_,h0_,h1_,h2_,h3_,h4_,h5_,h6_⟩
          have HO729:Aside0 (Kd.R (Kd.int .i64) 3 w33 w.heap.size (fun k_=>(w.heap.size≤k_)∧some k_≠(.slice Ao10 t719.length co10:Value).ownBlock) v728 y727):=⟨h0_⟩
          have HO735:Aside0 (Kd.N k73 73 w33 w.heap.size (fun k_=>(w.heap.size≤k_)∧some k_≠(v728:Value).ownBlock∧some k_≠(.slice Ao10 t719.length co10:Value).ownBlock∧some k_≠(.slice Ao11 t722.length co11:Value).ownBlock∧k_≠gb716∧k_≠gb717) v734 y733):=⟨h1_⟩
          replace HO_717001:Aside0 (Kd.R (Kd.int .i64) 3 w33 w.heap.size (fun k_=>(w.heap.size≤k_)∧some k_≠(v728:Value).ownBlock) (.slice Ao10 t719.length co10) t719):=⟨h2_⟩
          replace HO_717002:Aside0 (Kd.N k73 73 w33 w.heap.size (fun k_=>(w.heap.size≤k_)∧some k_≠(v728:Value).ownBlock∧some k_≠(v734:Value).ownBlock∧some k_≠(.slice Ao10 t719.length co10:Value).ownBlock∧k_≠gb716∧k_≠gb717) (.slice Ao11 t722.length co11) t722):=⟨h3_⟩
          replace BK716:Aside0 (w33.heap[gb716]?=some (.cells #[.int .i64 t718,.slice Ao10 t719.length co10,.slice Ao11 t722.length co11] 37 (0,0))):=⟨h4_⟩
          replace BK717:Aside0 (w33.heap[gb717]?=some (.cells #[.int .i64 0,.slice none 0 0,.slice none 0 0] 37 (0,0))):=⟨h5_⟩
          replace HB:Aside0 (Below w.heap.size w w33):=⟨h6_⟩
          clear h0_ h1_ h2_ h3_ h4_ h5_ h6_
          have hHeld:w33.cell? ⟨gb716,0,none⟩=some (.int .i64 t718)∧w33.cell? ⟨gb716,1,none⟩=some (.slice Ao10 t719.length co10)∧w33.cell? ⟨gb716,2,none⟩=some (.slice Ao11 t722.length co11):=hS_
          refine norm_ (a':=?_) ?_ ?_
          rotate_left
          ·simp only [putAll,Act.put,yps]
           rfl
          refine two_ (i:=5) (j:=11) (Ni:=some 24) (Nj:=some 4) (yvb 13 511) (yvb 13 2527) rfl rfl rfl rfl (two_of HT_.out (by kernel_rfl)) (by decide) (by decide) (fun K hK=>?_) (fun K hK=>?_)
          ·skip
           refine Kd.R_append_rows_step (Kd.int .i64) (w0:=w) w.heap.size (by rfl) (.tmp 21) (.tmp 23) 22 3 (.int .i64 0) 8 rfl Try.underlying22 info3 rfl (by decide) (by omega) v728 y727 t719 _ _ _ (fun k_=>(w.heap.size≤k_)∧some k_≠(.slice Ao10 t719.length co10:Value).ownBlock) (fun _=>False) rfl rfl ?aO ?aR (fun _ _ h=>h) (fun _ h=>h.elim) ?aF ?aB ?aS ?aL ?_
           (case aR=>repeat (first|exact (Kd.Yr HO_717001.out).2.2|(with_reducible refine Kd.C_alloc ?_ _)|(with_reducible refine Kd.C_drewN ?_ _)|(with_reducible refine Kd.C_drew ?_)))
           (case aB=>exact yhb)
           (case aF=>exact (fun k_ hk=>⟨(Nat.le_trans (below_size yhb) hk),Kd.fresh' (Kd.R_lt (Kd.Yz HO_717001.out)) k_ hk⟩))
           (case aO=>exact (Kd.Yz HO729.out))
           (case aS=>exact (below_size yhb))
           (case aL=>have:=LMc26.out;omega)
           intro v731 w34 ho hb hg hat
           rw [← Ny730.out] at ho
           replace HO_717001:=yam (Kd.R_after (ok:=(fun k_=>(w.heap.size≤k_))) (Kd.Yz HO_717001.out) hg hat)
           replace HO_717002:=yam (Kd.N_afterv (ok:=(fun k_=>(w.heap.size≤k_)∧some k_≠(.slice Ao10 t719.length co10:Value).ownBlock∧some k_≠(v734:Value).ownBlock∧k_≠gb716∧k_≠gb717)) (by (with_reducible repeat (first|apply Kd.N_alloc|apply Kd.N_drewN|apply Kd.N_drew));exact Kd.N_mono HO_717002.out (fun _ hk=>⟨⟨hk.1,⟨hk.2.2.2.1,⟨hk.2.2.1,⟨hk.2.2.2.2.1,hk.2.2.2.2.2⟩⟩⟩⟩,hk.2.1⟩)) hg hat)
           replace BK716:=yam (blk_grown (g:=gb716) (o:= .cells #[.int .i64 t718,.slice Ao10 t719.length co10,.slice Ao11 t722.length co11] 37 (0,0)) (ybz BK716.out) hg (Kd.R_ne HO729.out BK716.out (by decide)))
           replace BK717:=yam (blk_grown (g:=gb717) (o:= .cells #[.int .i64 0,.slice none 0 0,.slice none 0 0] 37 (0,0)) (ybz BK717.out) hg (Kd.R_ne HO729.out BK717.out (by decide)))
           replace HO735:=yam (Kd.N_afterv (ok:=(fun k_=>(w.heap.size≤k_)∧some k_≠(.slice Ao10 t719.length co10:Value).ownBlock∧some k_≠(.slice Ao11 t722.length co11:Value).ownBlock∧k_≠gb716∧k_≠gb717)) (by (with_reducible repeat (first|apply Kd.N_alloc|apply Kd.N_drewN|apply Kd.N_drew));exact Kd.N_mono HO735.out (fun _ hk=>⟨⟨hk.1,⟨hk.2.2.1,⟨hk.2.2.2.1,⟨hk.2.2.2.2.1,hk.2.2.2.2.2⟩⟩⟩⟩,hk.2.1⟩)) hg hat)
           replace HB:=yam (hb)
           have HO732:=yam (ho)
           clear HO729
           clear ho hb hg hat
           refine hK.out _ _ ⟨(blk_cell BK716.out 0).trans rfl,(blk_cell BK716.out 1).trans rfl,(blk_cell BK716.out 2).trans rfl⟩ (fun hHeld=>?_)
           clear hK K
           refine norm_ (a':=?_) ?_ ?_
           rotate_left
           ·show Act.put _ (some 24) _=_
            simp only [Act.put,yps,i64_w,i32_w]
            rfl
           exact norm_ (by first|(simp only [putAll,Act.put,yps];done)|(simp only [putAll,Act.put,yps];rfl)) (hJ2_5_6 (v728,v731,v734) _ ⟨hHeld,(Kd.Yz HO732.out),(by (with_reducible repeat (first|apply Kd.N_alloc|apply Kd.N_drewN|apply Kd.N_drew));exact Kd.N_mono HO735.out (fun _ hk=>⟨hk.1.1,⟨hk.2,⟨hk.1.2.1,⟨hk.1.2.2.1,⟨hk.1.2.2.2.1,hk.1.2.2.2.2⟩⟩⟩⟩⟩)),(Kd.Yz HO_717001.out),(by (with_reducible repeat (first|apply Kd.N_alloc|apply Kd.N_drewN|apply Kd.N_drew));exact Kd.N_mono HO_717002.out (fun _ hk=>⟨hk.1.1,⟨hk.2,⟨hk.1.2.2.1,⟨hk.1.2.1,⟨hk.1.2.2.2.1,hk.1.2.2.2.2⟩⟩⟩⟩⟩)),(ybz BK716.out),(ybz BK717.out),yhb⟩)
          ·skip
           refine box_step ?hg (N:=4) ?hd (cs:= #[.int .i64 0,.slice none 0 0,.slice none 0 0]) (t:=37) ?hr ?_;(case hd=>rfl);(case hg=>rfl);(case hr=>first|(go_simp;done)|(go_simp;rfl))
           intro gb739 hg w34 hbox hb
           replace HO_717001:=yam (Kd.R_below (Kd.Yz HO_717001.out) hb)
           replace HO_717002:=yam (Kd.N_below (Kd.N_elderB (by (with_reducible repeat (first|apply Kd.N_alloc|apply Kd.N_drewN|apply Kd.N_drew));exact HO_717002.out) gb739 (Nat.le_of_eq hg.symm)) hb)
           replace HO729:=yam (Kd.R_below (Kd.Yz HO729.out) hb)
           replace HO735:=yam (Kd.N_below (Kd.N_elderB (by (with_reducible repeat (first|apply Kd.N_alloc|apply Kd.N_drewN|apply Kd.N_drew));exact HO735.out) gb739 (Nat.le_of_eq hg.symm)) hb)
           have BK739:=yam (hbox)
           have GW739:=yam ((by rw [hg];exact (below_size yhb):w.heap.size≤gb739))
           have GE739:=yam ((by rw [hg];exact (below_size yhb):w.heap.size≤gb739))
           replace HB:=yam (below_step yhb hb)
           have NB716_739:=yam ((by rw [hg];exact Nat.ne_of_lt (blk_lt (g:=gb716) (o:= .cells #[.int .i64 t718,.slice Ao10 t719.length co10,.slice Ao11 t722.length co11] 37 (0,0)) (ybz BK716.out)):gb716≠gb739))
           have NB739_716:=yam ((by rw [hg];exact Nat.ne_of_gt (blk_lt (g:=gb716) (o:= .cells #[.int .i64 t718,.slice Ao10 t719.length co10,.slice Ao11 t722.length co11] 37 (0,0)) (ybz BK716.out)):gb739≠gb716))
           replace BK716:=yam (ybb BK716.out hb)
           have NB717_739:=yam ((by rw [hg];exact Nat.ne_of_lt (blk_lt (g:=gb717) (o:= .cells #[.int .i64 0,.slice none 0 0,.slice none 0 0] 37 (0,0)) (ybz BK717.out)):gb717≠gb739))
           have NB739_717:=yam ((by rw [hg];exact Nat.ne_of_gt (blk_lt (g:=gb717) (o:= .cells #[.int .i64 0,.slice none 0 0,.slice none 0 0] 37 (0,0)) (ybz BK717.out)):gb739≠gb717))
           replace BK717:=yam (ybb BK717.out hb)
           clear hb hbox hg
           refine hK.out _ _ ⟨(blk_cell BK716.out 0).trans rfl,(blk_cell BK716.out 1).trans rfl,(blk_cell BK716.out 2).trans rfl⟩ (fun hHeld=>?_)
           clear hK K
           refine norm_ (a':=?_) ?_ ?_
           rotate_left
           ·show Act.put _ (some 4) _=_
            simp only [Act.put,yps,i64_w,i32_w]
            rfl
           exact norm_ (by first|(simp only [putAll,Act.put,yps];done)|(simp only [putAll,Act.put,yps];rfl)) (hJ2_6_11 (v728,v734,gb739) _ ⟨hHeld,(Kd.Yz HO729.out),(by (with_reducible repeat (first|apply Kd.N_alloc|apply Kd.N_drewN|apply Kd.N_drew));exact Kd.N_mono HO735.out (fun _ hk=>⟨hk.1.1,⟨hk.1.2.1,⟨hk.1.2.2.1,⟨hk.1.2.2.2.1,⟨hk.1.2.2.2.2.1,⟨hk.1.2.2.2.2.2,hk.2⟩⟩⟩⟩⟩⟩)),(Kd.Yz HO_717001.out),(by (with_reducible repeat (first|apply Kd.N_alloc|apply Kd.N_drewN|apply Kd.N_drew));exact Kd.N_mono HO_717002.out (fun _ hk=>⟨hk.1.1,⟨hk.1.2.1,⟨hk.1.2.2.1,⟨hk.1.2.2.2.1,⟨hk.1.2.2.2.2.1,⟨hk.1.2.2.2.2.2,hk.2⟩⟩⟩⟩⟩⟩)),(ybz BK716.out),(ybz BK717.out),(ybz BK739.out),GW739.out,GE739.out,NB716_739.out,NB739_716.out,NB717_739.out,NB739_717.out,yhb⟩)
        ·skip
         rintro ⟨v728,v731⟩ w32 ⟨hS_,h0_,h1_,h2_,h3_,h4_,h5_⟩
         have HO732:Aside0 (Kd.R (Kd.int .i64) 3 w32 w.heap.size (fun k_=>(w.heap.size≤k_)∧some k_≠(.slice Ao10 t719.length co10:Value).ownBlock) v731 y730):=⟨h0_⟩
         replace HO_717001:Aside0 (Kd.R (Kd.int .i64) 3 w32 w.heap.size (fun k_=>(w.heap.size≤k_)∧some k_≠(v731:Value).ownBlock) (.slice Ao10 t719.length co10) t719):=⟨h1_⟩
         replace HO_717002:Aside0 (Kd.N k73 73 w32 w.heap.size (fun k_=>(w.heap.size≤k_)∧some k_≠(v731:Value).ownBlock∧some k_≠(.slice Ao10 t719.length co10:Value).ownBlock∧k_≠gb716∧k_≠gb717) (.slice Ao11 t722.length co11) t722):=⟨h2_⟩
         replace BK716:Aside0 (w32.heap[gb716]?=some (.cells #[.int .i64 t718,.slice Ao10 t719.length co10,.slice Ao11 t722.length co11] 37 (0,0))):=⟨h3_⟩
         replace BK717:Aside0 (w32.heap[gb717]?=some (.cells #[.int .i64 0,.slice none 0 0,.slice none 0 0] 37 (0,0))):=⟨h4_⟩
         replace HB:Aside0 (Below w.heap.size w w32):=⟨h5_⟩
         clear h0_ h1_ h2_ h3_ h4_ h5_
         have hHeld:w32.cell? ⟨gb716,0,none⟩=some (.int .i64 t718)∧w32.cell? ⟨gb716,1,none⟩=some (.slice Ao10 t719.length co10)∧w32.cell? ⟨gb716,2,none⟩=some (.slice Ao11 t722.length co11):=hS_
         refine norm_ (a':=?_) ?_ ?_
         rotate_left
         ·simp only [putAll,Act.put,yps]
          rfl
         refine two_ (i:=6) (j:=11) (Ni:=some 25) (Nj:=some 4) (yvb 13 511) (yvb 13 2495) rfl rfl rfl rfl (two_of HT_.out (by kernel_rfl)) (by decide) (by decide) (fun K hK=>?_) (fun K hK=>?_)
         ·skip
          refine Kd.N_lit_step k73 _ 73 ?hg (N':=25) ?hd (xs:=([]:List (S73))) (inner:=[]) (ok:=(fun k_=>(w.heap.size≤k_)∧some k_≠(.slice Ao10 t719.length co10:Value).ownBlock∧some k_≠(.slice Ao11 t722.length co11:Value).ownBlock∧some k_≠(v731:Value).ownBlock∧k_≠gb716∧k_≠gb717)) (okp:=(fun k_=>(w.heap.size≤k_)∧some k_≠(.slice Ao10 t719.length co10:Value).ownBlock∧some k_≠(.slice Ao11 t722.length co11:Value).ownBlock∧some k_≠(v731:Value).ownBlock∧k_≠gb716∧k_≠gb717)) ?hr ?hp (fun _ hk=>hk) ((show ∀ k_,w32.heap.size≤k_→(fun k_=>(w.heap.size≤k_)∧some k_≠(.slice Ao10 t719.length co10:Value).ownBlock∧some k_≠(.slice Ao11 t722.length co11:Value).ownBlock∧some k_≠(v731:Value).ownBlock∧k_≠gb716∧k_≠gb717) k_ from fun k_ hk=>⟨(Nat.le_trans (below_size yhb) hk),Kd.fresh' (Kd.R_lt (Kd.Yz HO_717001.out)) k_ hk,Kd.fresh' (Kd.N_lt (by (with_reducible repeat (first|apply Kd.N_alloc|apply Kd.N_drewN|apply Kd.N_drew));exact HO_717002.out)) k_ hk,Kd.fresh' (Kd.R_lt (Kd.Yz HO732.out)) k_ hk,Kd.freshB (g:=gb716) (o:= .cells #[.int .i64 t718,.slice Ao10 t719.length co10,.slice Ao11 t722.length co11] 37 (0,0)) (ybz BK716.out) k_ hk,Kd.freshB (g:=gb717) (o:= .cells #[.int .i64 0,.slice none 0 0,.slice none 0 0] 37 (0,0)) (ybz BK717.out) k_ hk⟩) _ (Nat.le_refl _)) (Below.refl _ _) (Nat.le_refl _) (by simp) ?_;(case hd=>rfl);(case hg=>rfl);(case hr=>first|(go_simp;done)|(go_simp;rfl));(case hp=>exact (Reps.none _ _))
          intro v734 w33 ho34 hb hg_ hnew_
          clear hg_ hnew_
          (first|rw [← Ny733.out] at ho34|(simp only [Int.reduceToNat] at ho34;rw [← Ny733.out] at ho34))
          replace HO_717001:=yam (Kd.R_below (Kd.Yz HO_717001.out) hb)
          replace HO_717002:=yam (Kd.N_elder' (by (with_reducible repeat (first|apply Kd.N_alloc|apply Kd.N_drewN|apply Kd.N_drew));exact HO_717002.out) (Kd.N_base ho34) hb)
          replace HO732:=yam (Kd.R_below (Kd.Yz HO732.out) hb)
          have HO735:=yam (Kd.N_lower ho34 (below_size yhb))
          replace BK716:=yam (ybb BK716.out hb)
          replace BK717:=yam (ybb BK717.out hb)
          replace HB:=yam (below_step yhb hb)
          clear hb ho34
          refine hK.out _ _ ⟨(blk_cell BK716.out 0).trans rfl,(blk_cell BK716.out 1).trans rfl,(blk_cell BK716.out 2).trans rfl⟩ (fun hHeld=>?_)
          clear hK K
          refine norm_ (a':=?_) ?_ ?_
          rotate_left
          ·show Act.put _ (some 25) _=_
           simp only [Act.put,yps,i64_w,i32_w]
           rfl
          exact norm_ (by first|(simp only [putAll,Act.put,yps];done)|(simp only [putAll,Act.put,yps];rfl)) (hJ2_5_6 (v728,v731,v734) _ ⟨hHeld,(Kd.Yz HO732.out),(by (with_reducible repeat (first|apply Kd.N_alloc|apply Kd.N_drewN|apply Kd.N_drew));exact Kd.N_mono HO735.out (fun _ hk=>⟨hk.1,⟨hk.2.2.2.1,⟨hk.2.1,⟨hk.2.2.1,⟨hk.2.2.2.2.1,hk.2.2.2.2.2⟩⟩⟩⟩⟩)),(Kd.Yz HO_717001.out),(by (with_reducible repeat (first|apply Kd.N_alloc|apply Kd.N_drewN|apply Kd.N_drew));exact Kd.N_mono HO_717002.out (fun _ hk=>⟨hk.1.1,⟨hk.1.2.1,⟨hk.2,⟨hk.1.2.2.1,⟨hk.1.2.2.2.1,hk.1.2.2.2.2⟩⟩⟩⟩⟩)),(ybz BK716.out),(ybz BK717.out),yhb⟩)
         ·skip
          refine box_step ?hg (N:=4) ?hd (cs:= #[.int .i64 0,.slice none 0 0,.slice none 0 0]) (t:=37) ?hr ?_;(case hd=>rfl);(case hg=>rfl);(case hr=>first|(go_simp;done)|(go_simp;rfl))
          intro gb739 hg w33 hbox hb
          replace HO_717001:=yam (Kd.R_below (Kd.Yz HO_717001.out) hb)
          replace HO_717002:=yam (Kd.N_below (Kd.N_elderB (by (with_reducible repeat (first|apply Kd.N_alloc|apply Kd.N_drewN|apply Kd.N_drew));exact HO_717002.out) gb739 (Nat.le_of_eq hg.symm)) hb)
          replace HO732:=yam (Kd.R_below (Kd.Yz HO732.out) hb)
          have BK739:=yam (hbox)
          have GW739:=yam ((by rw [hg];exact (below_size yhb):w.heap.size≤gb739))
          have GE739:=yam ((by rw [hg];exact (below_size yhb):w.heap.size≤gb739))
          replace HB:=yam (below_step yhb hb)
          have NB716_739:=yam ((by rw [hg];exact Nat.ne_of_lt (blk_lt (g:=gb716) (o:= .cells #[.int .i64 t718,.slice Ao10 t719.length co10,.slice Ao11 t722.length co11] 37 (0,0)) (ybz BK716.out)):gb716≠gb739))
          have NB739_716:=yam ((by rw [hg];exact Nat.ne_of_gt (blk_lt (g:=gb716) (o:= .cells #[.int .i64 t718,.slice Ao10 t719.length co10,.slice Ao11 t722.length co11] 37 (0,0)) (ybz BK716.out)):gb739≠gb716))
          replace BK716:=yam (ybb BK716.out hb)
          have NB717_739:=yam ((by rw [hg];exact Nat.ne_of_lt (blk_lt (g:=gb717) (o:= .cells #[.int .i64 0,.slice none 0 0,.slice none 0 0] 37 (0,0)) (ybz BK717.out)):gb717≠gb739))
          have NB739_717:=yam ((by rw [hg];exact Nat.ne_of_gt (blk_lt (g:=gb717) (o:= .cells #[.int .i64 0,.slice none 0 0,.slice none 0 0] 37 (0,0)) (ybz BK717.out)):gb739≠gb717))
          replace BK717:=yam (ybb BK717.out hb)
          clear hb hbox hg
          refine hK.out _ _ ⟨(blk_cell BK716.out 0).trans rfl,(blk_cell BK716.out 1).trans rfl,(blk_cell BK716.out 2).trans rfl⟩ (fun hHeld=>?_)
          clear hK K
          refine norm_ (a':=?_) ?_ ?_
          rotate_left
          ·show Act.put _ (some 4) _=_
           simp only [Act.put,yps,i64_w,i32_w]
           rfl
          exact norm_ (by first|(simp only [putAll,Act.put,yps];done)|(simp only [putAll,Act.put,yps];rfl)) (hJ2_5_11 (v728,v731,gb739) _ ⟨hHeld,(Kd.Yz HO732.out),(Kd.Yz HO_717001.out),(by (with_reducible repeat (first|apply Kd.N_alloc|apply Kd.N_drewN|apply Kd.N_drew));exact Kd.N_mono HO_717002.out (fun _ hk=>⟨hk.1.1,⟨hk.1.2.1,⟨hk.1.2.2.1,⟨hk.1.2.2.2.1,⟨hk.1.2.2.2.2,hk.2⟩⟩⟩⟩⟩)),(ybz BK716.out),(ybz BK717.out),(ybz BK739.out),GW739.out,GE739.out,NB716_739.out,NB739_716.out,NB717_739.out,NB739_717.out,yhb⟩)
       ·skip
        rintro ⟨v728,v734,gb739⟩ w34 ⟨hS_,h0_,h1_,h2_,h3_,h4_,h5_,h6_,h7_,h8_,h9_,h10_,h11_,h12_,h13_⟩
        have HO729:Aside0 (Kd.R (Kd.int .i64) 3 w34 w.heap.size (fun k_=>(w.heap.size≤k_)∧some k_≠(.slice Ao10 t719.length co10:Value).ownBlock) v728 y727):=⟨h0_⟩
        have HO735:Aside0 (Kd.N k73 73 w34 w.heap.size (fun k_=>(w.heap.size≤k_)∧some k_≠(v728:Value).ownBlock∧some k_≠(.slice Ao10 t719.length co10:Value).ownBlock∧some k_≠(.slice Ao11 t722.length co11:Value).ownBlock∧k_≠gb716∧k_≠gb717∧k_≠gb739) v734 y733):=⟨h1_⟩
        replace HO_717001:Aside0 (Kd.R (Kd.int .i64) 3 w34 w.heap.size (fun k_=>(w.heap.size≤k_)∧some k_≠(v728:Value).ownBlock) (.slice Ao10 t719.length co10) t719):=⟨h2_⟩
        replace HO_717002:Aside0 (Kd.N k73 73 w34 w.heap.size (fun k_=>(w.heap.size≤k_)∧some k_≠(v728:Value).ownBlock∧some k_≠(v734:Value).ownBlock∧some k_≠(.slice Ao10 t719.length co10:Value).ownBlock∧k_≠gb716∧k_≠gb717∧k_≠gb739) (.slice Ao11 t722.length co11) t722):=⟨h3_⟩
        replace BK716:Aside0 (w34.heap[gb716]?=some (.cells #[.int .i64 t718,.slice Ao10 t719.length co10,.slice Ao11 t722.length co11] 37 (0,0))):=⟨h4_⟩
        replace BK717:Aside0 (w34.heap[gb717]?=some (.cells #[.int .i64 0,.slice none 0 0,.slice none 0 0] 37 (0,0))):=⟨h5_⟩
        have BK739:Aside0 (w34.heap[gb739]?=some (.cells #[.int .i64 0,.slice none 0 0,.slice none 0 0] 37 (0,0))):=⟨h6_⟩
        have GW739:Aside0 (w.heap.size≤gb739):=⟨h7_⟩
        have GE739:Aside0 (w.heap.size≤gb739):=⟨h8_⟩
        have NB716_739:Aside0 (gb716≠gb739):=⟨h9_⟩
        have NB739_716:Aside0 (gb739≠gb716):=⟨h10_⟩
        have NB717_739:Aside0 (gb717≠gb739):=⟨h11_⟩
        have NB739_717:Aside0 (gb739≠gb717):=⟨h12_⟩
        replace HB:Aside0 (Below w.heap.size w w34):=⟨h13_⟩
        clear h0_ h1_ h2_ h3_ h4_ h5_ h6_ h7_ h8_ h9_ h10_ h11_ h12_ h13_
        have hHeld:w34.cell? ⟨gb716,0,none⟩=some (.int .i64 t718)∧w34.cell? ⟨gb716,1,none⟩=some (.slice Ao10 t719.length co10)∧w34.cell? ⟨gb716,2,none⟩=some (.slice Ao11 t722.length co11):=hS_
        refine norm_ (a':=?_) ?_ ?_
        rotate_left
        ·simp only [putAll,Act.put,yps]
         rfl
        refine one_ (i:=5) (N:=some 24) (yvb 13 2559) rfl rfl (one_of HT_.out (by kernel_rfl)) (by decide) (fun K hK=>?_)
        refine Kd.R_append_rows_step (Kd.int .i64) (w0:=w) w.heap.size (by rfl) (.tmp 21) (.tmp 23) 22 3 (.int .i64 0) 8 rfl Try.underlying22 info3 rfl (by decide) (by omega) v728 y727 t719 _ _ _ (fun k_=>(w.heap.size≤k_)∧some k_≠(.slice Ao10 t719.length co10:Value).ownBlock) (fun _=>False) rfl rfl ?aO ?aR (fun _ _ h=>h) (fun _ h=>h.elim) ?aF ?aB ?aS ?aL ?_
        (case aR=>repeat (first|exact (Kd.Yr HO_717001.out).2.2|(with_reducible refine Kd.C_alloc ?_ _)|(with_reducible refine Kd.C_drewN ?_ _)|(with_reducible refine Kd.C_drew ?_)))
        (case aB=>exact yhb)
        (case aF=>exact (fun k_ hk=>⟨(Nat.le_trans (below_size yhb) hk),Kd.fresh' (Kd.R_lt (Kd.Yz HO_717001.out)) k_ hk⟩))
        (case aO=>exact (Kd.Yz HO729.out))
        (case aS=>exact (below_size yhb))
        (case aL=>have:=LMc26.out;omega)
        intro v731 w35 ho hb hg hat
        rw [← Ny730.out] at ho
        replace HO_717001:=yam (Kd.R_after (ok:=(fun k_=>(w.heap.size≤k_))) (Kd.Yz HO_717001.out) hg hat)
        replace HO_717002:=yam (Kd.N_afterv (ok:=(fun k_=>(w.heap.size≤k_)∧some k_≠(.slice Ao10 t719.length co10:Value).ownBlock∧some k_≠(v734:Value).ownBlock∧k_≠gb716∧k_≠gb717∧k_≠gb739)) (by (with_reducible repeat (first|apply Kd.N_alloc|apply Kd.N_drewN|apply Kd.N_drew));exact Kd.N_mono HO_717002.out (fun _ hk=>⟨⟨hk.1,⟨hk.2.2.2.1,⟨hk.2.2.1,⟨hk.2.2.2.2.1,⟨hk.2.2.2.2.2.1,hk.2.2.2.2.2.2⟩⟩⟩⟩⟩,hk.2.1⟩)) hg hat)
        replace BK716:=yam (blk_grown (g:=gb716) (o:= .cells #[.int .i64 t718,.slice Ao10 t719.length co10,.slice Ao11 t722.length co11] 37 (0,0)) (ybz BK716.out) hg (Kd.R_ne HO729.out BK716.out (by decide)))
        replace BK717:=yam (blk_grown (g:=gb717) (o:= .cells #[.int .i64 0,.slice none 0 0,.slice none 0 0] 37 (0,0)) (ybz BK717.out) hg (Kd.R_ne HO729.out BK717.out (by decide)))
        replace HO735:=yam (Kd.N_afterv (ok:=(fun k_=>(w.heap.size≤k_)∧some k_≠(.slice Ao10 t719.length co10:Value).ownBlock∧some k_≠(.slice Ao11 t722.length co11:Value).ownBlock∧k_≠gb716∧k_≠gb717∧k_≠gb739)) (by (with_reducible repeat (first|apply Kd.N_alloc|apply Kd.N_drewN|apply Kd.N_drew));exact Kd.N_mono HO735.out (fun _ hk=>⟨⟨hk.1,⟨hk.2.2.1,⟨hk.2.2.2.1,⟨hk.2.2.2.2.1,⟨hk.2.2.2.2.2.1,hk.2.2.2.2.2.2⟩⟩⟩⟩⟩,hk.2.1⟩)) hg hat)
        replace BK739:=yam (blk_grown (g:=gb739) (o:= .cells #[.int .i64 0,.slice none 0 0,.slice none 0 0] 37 (0,0)) (ybz BK739.out) hg (Kd.R_ne HO729.out BK739.out (by decide)))
        replace HB:=yam (hb)
        have HO732:=yam (ho)
        clear HO729
        clear ho hb hg hat
        refine hK.out _ _ ⟨(blk_cell BK716.out 0).trans rfl,(blk_cell BK716.out 1).trans rfl,(blk_cell BK716.out 2).trans rfl⟩ (fun hHeld=>?_)
        clear hK K
        refine norm_ (a':=?_) ?_ ?_
        rotate_left
        ·show Act.put _ (some 24) _=_
         simp only [Act.put,yps,i64_w,i32_w]
         rfl
        exact norm_ (by first|(simp only [putAll,Act.put,yps];done)|(simp only [putAll,Act.put,yps];rfl)) (hJ2_5_6_11 (v728,v731,v734,gb739) _ ⟨hHeld,(Kd.Yz HO732.out),(by (with_reducible repeat (first|apply Kd.N_alloc|apply Kd.N_drewN|apply Kd.N_drew));exact Kd.N_mono HO735.out (fun _ hk=>⟨hk.1.1,⟨hk.2,⟨hk.1.2.1,⟨hk.1.2.2.1,⟨hk.1.2.2.2.1,⟨hk.1.2.2.2.2.1,hk.1.2.2.2.2.2⟩⟩⟩⟩⟩⟩)),(Kd.Yz HO_717001.out),(by (with_reducible repeat (first|apply Kd.N_alloc|apply Kd.N_drewN|apply Kd.N_drew));exact Kd.N_mono HO_717002.out (fun _ hk=>⟨hk.1.1,⟨hk.2,⟨hk.1.2.2.1,⟨hk.1.2.1,⟨hk.1.2.2.2.1,⟨hk.1.2.2.2.2.1,hk.1.2.2.2.2.2⟩⟩⟩⟩⟩⟩)),(ybz BK716.out),(ybz BK717.out),(ybz BK739.out),GW739.out,GE739.out,NB716_739.out,NB739_716.out,NB717_739.out,NB739_717.out,yhb⟩)
      ·skip
       rintro ⟨v728,v731,gb739⟩ w33 ⟨hS_,h0_,h1_,h2_,h3_,h4_,h5_,h6_,h7_,h8_,h9_,h10_,h11_,h12_⟩
       have HO732:Aside0 (Kd.R (Kd.int .i64) 3 w33 w.heap.size (fun k_=>(w.heap.size≤k_)∧some k_≠(.slice Ao10 t719.length co10:Value).ownBlock) v731 y730):=⟨h0_⟩
       replace HO_717001:Aside0 (Kd.R (Kd.int .i64) 3 w33 w.heap.size (fun k_=>(w.heap.size≤k_)∧some k_≠(v731:Value).ownBlock) (.slice Ao10 t719.length co10) t719):=⟨h1_⟩
       replace HO_717002:Aside0 (Kd.N k73 73 w33 w.heap.size (fun k_=>(w.heap.size≤k_)∧some k_≠(v731:Value).ownBlock∧some k_≠(.slice Ao10 t719.length co10:Value).ownBlock∧k_≠gb716∧k_≠gb717∧k_≠gb739) (.slice Ao11 t722.length co11) t722):=⟨h2_⟩
       replace BK716:Aside0 (w33.heap[gb716]?=some (.cells #[.int .i64 t718,.slice Ao10 t719.length co10,.slice Ao11 t722.length co11] 37 (0,0))):=⟨h3_⟩
       replace BK717:Aside0 (w33.heap[gb717]?=some (.cells #[.int .i64 0,.slice none 0 0,.slice none 0 0] 37 (0,0))):=⟨h4_⟩
       have BK739:Aside0 (w33.heap[gb739]?=some (.cells #[.int .i64 0,.slice none 0 0,.slice none 0 0] 37 (0,0))):=⟨h5_⟩
       have GW739:Aside0 (w.heap.size≤gb739):=⟨h6_⟩
       have GE739:Aside0 (w.heap.size≤gb739):=⟨h7_⟩
       have NB716_739:Aside0 (gb716≠gb739):=⟨h8_⟩
       have NB739_716:Aside0 (gb739≠gb716):=⟨h9_⟩
       have NB717_739:Aside0 (gb717≠gb739):=⟨h10_⟩
       have NB739_717:Aside0 (gb739≠gb717):=⟨h11_⟩
       replace HB:Aside0 (Below w.heap.size w w33):=⟨h12_⟩
       clear h0_ h1_ h2_ h3_ h4_ h5_ h6_ h7_ h8_ h9_ h10_ h11_ h12_
       have hHeld:w33.cell? ⟨gb716,0,none⟩=some (.int .i64 t718)∧w33.cell? ⟨gb716,1,none⟩=some (.slice Ao10 t719.length co10)∧w33.cell? ⟨gb716,2,none⟩=some (.slice Ao11 t722.length co11):=hS_
       refine norm_ (a':=?_) ?_ ?_
       rotate_left
       ·simp only [putAll,Act.put,yps]
        rfl
       refine one_ (i:=6) (N:=some 25) (yvb 13 2559) rfl rfl (one_of HT_.out (by kernel_rfl)) (by decide) (fun K hK=>?_)
       refine Kd.N_lit_step k73 _ 73 ?hg (N':=25) ?hd (xs:=([]:List (S73))) (inner:=[]) (ok:=(fun k_=>(w.heap.size≤k_)∧some k_≠(.slice Ao10 t719.length co10:Value).ownBlock∧some k_≠(.slice Ao11 t722.length co11:Value).ownBlock∧some k_≠(v731:Value).ownBlock∧k_≠gb716∧k_≠gb717∧k_≠gb739)) (okp:=(fun k_=>(w.heap.size≤k_)∧some k_≠(.slice Ao10 t719.length co10:Value).ownBlock∧some k_≠(.slice Ao11 t722.length co11:Value).ownBlock∧some k_≠(v731:Value).ownBlock∧k_≠gb716∧k_≠gb717∧k_≠gb739)) ?hr ?hp (fun _ hk=>hk) ((show ∀ k_,w33.heap.size≤k_→(fun k_=>(w.heap.size≤k_)∧some k_≠(.slice Ao10 t719.length co10:Value).ownBlock∧some k_≠(.slice Ao11 t722.length co11:Value).ownBlock∧some k_≠(v731:Value).ownBlock∧k_≠gb716∧k_≠gb717∧k_≠gb739) k_ from fun k_ hk=>⟨(Nat.le_trans (below_size yhb) hk),Kd.fresh' (Kd.R_lt (Kd.Yz HO_717001.out)) k_ hk,Kd.fresh' (Kd.N_lt (by (with_reducible repeat (first|apply Kd.N_alloc|apply Kd.N_drewN|apply Kd.N_drew));exact HO_717002.out)) k_ hk,Kd.fresh' (Kd.R_lt (Kd.Yz HO732.out)) k_ hk,Kd.freshB (g:=gb716) (o:= .cells #[.int .i64 t718,.slice Ao10 t719.length co10,.slice Ao11 t722.length co11] 37 (0,0)) (ybz BK716.out) k_ hk,Kd.freshB (g:=gb717) (o:= .cells #[.int .i64 0,.slice none 0 0,.slice none 0 0] 37 (0,0)) (ybz BK717.out) k_ hk,Kd.freshB (g:=gb739) (o:= .cells #[.int .i64 0,.slice none 0 0,.slice none 0 0] 37 (0,0)) (ybz BK739.out) k_ hk⟩) _ (Nat.le_refl _)) (Below.refl _ _) (Nat.le_refl _) (by simp) ?_;(case hd=>rfl);(case hg=>rfl);(case hr=>first|(go_simp;done)|(go_simp;rfl));(case hp=>exact (Reps.none _ _))
       intro v734 w34 ho35 hb hg_ hnew_
       clear hg_ hnew_
       (first|rw [← Ny733.out] at ho35|(simp only [Int.reduceToNat] at ho35;rw [← Ny733.out] at ho35))
       replace HO_717001:=yam (Kd.R_below (Kd.Yz HO_717001.out) hb)
       replace HO_717002:=yam (Kd.N_elder' (by (with_reducible repeat (first|apply Kd.N_alloc|apply Kd.N_drewN|apply Kd.N_drew));exact HO_717002.out) (Kd.N_base ho35) hb)
       replace HO732:=yam (Kd.R_below (Kd.Yz HO732.out) hb)
       have HO735:=yam (Kd.N_lower ho35 (below_size yhb))
       replace BK716:=yam (ybb BK716.out hb)
       replace BK717:=yam (ybb BK717.out hb)
       replace BK739:=yam (ybb BK739.out hb)
       replace HB:=yam (below_step yhb hb)
       clear hb ho35
       refine hK.out _ _ ⟨(blk_cell BK716.out 0).trans rfl,(blk_cell BK716.out 1).trans rfl,(blk_cell BK716.out 2).trans rfl⟩ (fun hHeld=>?_)
       clear hK K
       refine norm_ (a':=?_) ?_ ?_
       rotate_left
       ·show Act.put _ (some 25) _=_
        simp only [Act.put,yps,i64_w,i32_w]
        rfl
       exact norm_ (by first|(simp only [putAll,Act.put,yps];done)|(simp only [putAll,Act.put,yps];rfl)) (hJ2_5_6_11 (v728,v731,v734,gb739) _ ⟨hHeld,(Kd.Yz HO732.out),(by (with_reducible repeat (first|apply Kd.N_alloc|apply Kd.N_drewN|apply Kd.N_drew));exact Kd.N_mono HO735.out (fun _ hk=>⟨hk.1,⟨hk.2.2.2.1,⟨hk.2.1,⟨hk.2.2.1,⟨hk.2.2.2.2.1,⟨hk.2.2.2.2.2.1,hk.2.2.2.2.2.2⟩⟩⟩⟩⟩⟩)),(Kd.Yz HO_717001.out),(by (with_reducible repeat (first|apply Kd.N_alloc|apply Kd.N_drewN|apply Kd.N_drew));exact Kd.N_mono HO_717002.out (fun _ hk=>⟨hk.1.1,⟨hk.1.2.1,⟨hk.2,⟨hk.1.2.2.1,⟨hk.1.2.2.2.1,⟨hk.1.2.2.2.2.1,hk.1.2.2.2.2.2⟩⟩⟩⟩⟩⟩)),(ybz BK716.out),(ybz BK717.out),(ybz BK739.out),GW739.out,GE739.out,NB716_739.out,NB739_716.out,NB717_739.out,NB739_717.out,yhb⟩)
     ·skip
      rintro ⟨v728,v731,v734⟩ w34 ⟨hS_,h0_,h1_,h2_,h3_,h4_,h5_,h6_⟩
      have HO732:Aside0 (Kd.R (Kd.int .i64) 3 w34 w.heap.size (fun k_=>(w.heap.size≤k_)∧some k_≠(.slice Ao10 t719.length co10:Value).ownBlock) v731 y730):=⟨h0_⟩
      have HO735:Aside0 (Kd.N k73 73 w34 w.heap.size (fun k_=>(w.heap.size≤k_)∧some k_≠(v731:Value).ownBlock∧some k_≠(.slice Ao10 t719.length co10:Value).ownBlock∧some k_≠(.slice Ao11 t722.length co11:Value).ownBlock∧k_≠gb716∧k_≠gb717) v734 y733):=⟨h1_⟩
      replace HO_717001:Aside0 (Kd.R (Kd.int .i64) 3 w34 w.heap.size (fun k_=>(w.heap.size≤k_)∧some k_≠(v731:Value).ownBlock) (.slice Ao10 t719.length co10) t719):=⟨h2_⟩
      replace HO_717002:Aside0 (Kd.N k73 73 w34 w.heap.size (fun k_=>(w.heap.size≤k_)∧some k_≠(v731:Value).ownBlock∧some k_≠(v734:Value).ownBlock∧some k_≠(.slice Ao10 t719.length co10:Value).ownBlock∧k_≠gb716∧k_≠gb717) (.slice Ao11 t722.length co11) t722):=⟨h3_⟩
      replace BK716:Aside0 (w34.heap[gb716]?=some (.cells #[.int .i64 t718,.slice Ao10 t719.length co10,.slice Ao11 t722.length co11] 37 (0,0))):=⟨h4_⟩
      replace BK717:Aside0 (w34.heap[gb717]?=some (.cells #[.int .i64 0,.slice none 0 0,.slice none 0 0] 37 (0,0))):=⟨h5_⟩
      replace HB:Aside0 (Below w.heap.size w w34):=⟨h6_⟩
      clear h0_ h1_ h2_ h3_ h4_ h5_ h6_
      have hHeld:w34.cell? ⟨gb716,0,none⟩=some (.int .i64 t718)∧w34.cell? ⟨gb716,1,none⟩=some (.slice Ao10 t719.length co10)∧w34.cell? ⟨gb716,2,none⟩=some (.slice Ao11 t722.length co11):=hS_
      refine norm_ (a':=?_) ?_ ?_
      rotate_left
      ·simp only [putAll,Act.put,yps]
       rfl
      refine two_ (i:=9) (j:=11) (Ni:=some 28) (Nj:=some 4) (yvb 13 1023) (yvb 13 2559) rfl rfl rfl rfl (two_of HT_.out (by kernel_rfl)) (by decide) (by decide) (fun K hK=>?_) (fun K hK=>?_)
      ·skip
       refine Kd.N_append_rows_step k73 (w0:=w) w.heap.size (by rfl) (.tmp 25) (.tmp 27) 35 73 (.agg #[(.int .i64 0),(.slice none 0 0),(.int .i64 0)]) 40 rfl Try.underlying35 info73 rfl (by decide) (by omega) v734 y733 t722 _ _ _ (fun k_=>(w.heap.size≤k_)∧some k_≠(.slice Ao10 t719.length co10:Value).ownBlock∧some k_≠(v731:Value).ownBlock∧k_≠gb716∧k_≠gb717) (fun k_=>((fun k_=>(w.heap.size≤k_)∧some k_≠(.slice Ao10 t719.length co10:Value).ownBlock∧some k_≠(v731:Value).ownBlock∧k_≠gb716∧k_≠gb717)) k_∧some k_≠(v734:Value).ownBlock) rfl rfl ?aO ?aR (fun _ hk=>hk) ?aF ?aB ?aS ?aL ?_
       (case aR=>exact (by skip;exact Kd.N_F (Kd.N_mono (ok':=(fun k_=>((fun k_=>(w.heap.size≤k_)∧some k_≠(.slice Ao10 t719.length co10:Value).ownBlock∧some k_≠(v731:Value).ownBlock∧k_≠gb716∧k_≠gb717)) k_∧some k_≠(v734:Value).ownBlock)) (HO_717002.out) (fun k_ hk=>⟨⟨hk.1,⟨hk.2.2.2.1,⟨hk.2.1,⟨hk.2.2.2.2.1,hk.2.2.2.2.2⟩⟩⟩⟩,hk.2.2.1⟩))))
       (case aB=>exact yhb)
       (case aF=>exact (fun k_ hk=>⟨(Nat.le_trans (below_size yhb) hk),Kd.fresh' (Kd.R_lt (Kd.Yz HO_717001.out)) k_ hk,Kd.fresh' (Kd.R_lt (Kd.Yz HO732.out)) k_ hk,Kd.freshB (g:=gb716) (o:= .cells #[.int .i64 t718,.slice Ao10 t719.length co10,.slice Ao11 t722.length co11] 37 (0,0)) (ybz BK716.out) k_ hk,Kd.freshB (g:=gb717) (o:= .cells #[.int .i64 0,.slice none 0 0,.slice none 0 0] 37 (0,0)) (ybz BK717.out) k_ hk⟩))
       (case aO=>exact (by (with_reducible repeat (first|apply Kd.N_alloc|apply Kd.N_drewN|apply Kd.N_drew));exact Kd.N_mono HO735.out (fun _ hk=>⟨hk.1,⟨hk.2.2.1,⟨hk.2.1,⟨hk.2.2.2.2.1,hk.2.2.2.2.2⟩⟩⟩⟩)))
       (case aS=>exact (below_size yhb))
       (case aL=>have:=LMc27.out;omega)
       intro v737 w35 ho hb hg hat
       rw [← Ny736.out] at ho
       replace HO_717001:=yam (Kd.R_over' (Kd.Yz HO_717001.out) (Kd.N_typed (by (with_reducible repeat (first|apply Kd.N_alloc|apply Kd.N_drewN|apply Kd.N_drew));exact HO735.out)) (by decide) hg)
       replace HO_717002:=yam (Kd.N_afterv (ok:=(fun k_=>(w.heap.size≤k_)∧some k_≠(.slice Ao10 t719.length co10:Value).ownBlock∧some k_≠(v731:Value).ownBlock∧k_≠gb716∧k_≠gb717)) (by (with_reducible repeat (first|apply Kd.N_alloc|apply Kd.N_drewN|apply Kd.N_drew));exact Kd.N_mono HO_717002.out (fun _ hk=>⟨⟨hk.1,⟨hk.2.2.2.1,⟨hk.2.1,⟨hk.2.2.2.2.1,hk.2.2.2.2.2⟩⟩⟩⟩,hk.2.2.1⟩)) hg hat)
       replace BK716:=yam (blk_grown (g:=gb716) (o:= .cells #[.int .i64 t718,.slice Ao10 t719.length co10,.slice Ao11 t722.length co11] 37 (0,0)) (ybz BK716.out) hg (Kd.N_ne HO735.out BK716.out (by decide)))
       replace BK717:=yam (blk_grown (g:=gb717) (o:= .cells #[.int .i64 0,.slice none 0 0,.slice none 0 0] 37 (0,0)) (ybz BK717.out) hg (Kd.N_ne HO735.out BK717.out (by decide)))
       replace HO732:=yam (Kd.R_over' (Kd.Yz HO732.out) (Kd.N_typed (by (with_reducible repeat (first|apply Kd.N_alloc|apply Kd.N_drewN|apply Kd.N_drew));exact HO735.out)) (by decide) hg)
       replace HB:=yam (hb)
       have HO738:=yam (ho)
       clear HO735
       clear ho hb hg hat
       obtain ⟨Ao36,co36,eo36⟩:=Kd.N_slice HO738.out
       (first|subst eo36|(injection eo36 with f1_ f2_ f3_;have f4_:=f1_.symm;have f5_:=f3_.symm;clear f1_ f2_ f3_;subst f4_;subst f5_))
       obtain ⟨Ao37,co37,eo37⟩:=Kd.R_slice HO732.out
       (first|subst eo37|(injection eo37 with f1_ f2_ f3_;have f4_:=f1_.symm;have f5_:=f3_.symm;clear f1_ f2_ f3_;subst f4_;subst f5_))
       refine hK.out _ _ ⟨(blk_cell BK716.out 0).trans rfl,(blk_cell BK716.out 1).trans rfl,(blk_cell BK716.out 2).trans rfl⟩ (fun hHeld=>?_)
       clear hK K
       refine norm_ (a':=?_) ?_ ?_
       rotate_left
       ·show Act.put _ (some 28) _=_
        simp only [Act.put,yps,i64_w,i32_w]
        rfl
       refine yvp 10 29 (yvb 13 2047) HT_.out ?_
       exact norm_ (by first|(simp only [putAll,Act.put,yps];done)|(simp only [putAll,Act.put,yps];rfl)) (hJ2_5_6_9 (v728,.slice Ao37 y730.length co37,v734,.slice Ao36 y736.length co36) _ ⟨hHeld,(Kd.Yz HO732.out),(by (with_reducible repeat (first|apply Kd.N_alloc|apply Kd.N_drewN|apply Kd.N_drew));exact Kd.N_mono HO738.out (fun _ hk=>⟨hk.1,⟨hk.2.2.1,⟨hk.2.1,⟨hk.2.2.2.1,hk.2.2.2.2⟩⟩⟩⟩)),(Kd.Yz HO_717001.out),(by (with_reducible repeat (first|apply Kd.N_alloc|apply Kd.N_drewN|apply Kd.N_drew));exact Kd.N_mono HO_717002.out (fun _ hk=>⟨hk.1.1,⟨hk.1.2.2.1,⟨hk.2,⟨hk.1.2.1,⟨hk.1.2.2.2.1,hk.1.2.2.2.2⟩⟩⟩⟩⟩)),(ybz BK716.out),(ybz BK717.out),yhb⟩)
      ·skip
       refine box_step ?hg (N:=4) ?hd (cs:= #[.int .i64 0,.slice none 0 0,.slice none 0 0]) (t:=37) ?hr ?_;(case hd=>rfl);(case hg=>rfl);(case hr=>first|(go_simp;done)|(go_simp;rfl))
       intro gb739 hg w35 hbox hb
       replace HO_717001:=yam (Kd.R_below (Kd.Yz HO_717001.out) hb)
       replace HO_717002:=yam (Kd.N_below (Kd.N_elderB (by (with_reducible repeat (first|apply Kd.N_alloc|apply Kd.N_drewN|apply Kd.N_drew));exact HO_717002.out) gb739 (Nat.le_of_eq hg.symm)) hb)
       replace HO732:=yam (Kd.R_below (Kd.Yz HO732.out) hb)
       replace HO735:=yam (Kd.N_below (Kd.N_elderB (by (with_reducible repeat (first|apply Kd.N_alloc|apply Kd.N_drewN|apply Kd.N_drew));exact HO735.out) gb739 (Nat.le_of_eq hg.symm)) hb)
       have BK739:=yam (hbox)
       have GW739:=yam ((by rw [hg];exact (below_size yhb):w.heap.size≤gb739))
       have GE739:=yam ((by rw [hg];exact (below_size yhb):w.heap.size≤gb739))
       replace HB:=yam (below_step yhb hb)
       have NB716_739:=yam ((by rw [hg];exact Nat.ne_of_lt (blk_lt (g:=gb716) (o:= .cells #[.int .i64 t718,.slice Ao10 t719.length co10,.slice Ao11 t722.length co11] 37 (0,0)) (ybz BK716.out)):gb716≠gb739))
       have NB739_716:=yam ((by rw [hg];exact Nat.ne_of_gt (blk_lt (g:=gb716) (o:= .cells #[.int .i64 t718,.slice Ao10 t719.length co10,.slice Ao11 t722.length co11] 37 (0,0)) (ybz BK716.out)):gb739≠gb716))
       replace BK716:=yam (ybb BK716.out hb)
       have NB717_739:=yam ((by rw [hg];exact Nat.ne_of_lt (blk_lt (g:=gb717) (o:= .cells #[.int .i64 0,.slice none 0 0,.slice none 0 0] 37 (0,0)) (ybz BK717.out)):gb717≠gb739))
       have NB739_717:=yam ((by rw [hg];exact Nat.ne_of_gt (blk_lt (g:=gb717) (o:= .cells #[.int .i64 0,.slice none 0 0,.slice none 0 0] 37 (0,0)) (ybz BK717.out)):gb739≠gb717))
       replace BK717:=yam (ybb BK717.out hb)
       clear hb hbox hg
       refine hK.out _ _ ⟨(blk_cell BK716.out 0).trans rfl,(blk_cell BK716.out 1).trans rfl,(blk_cell BK716.out 2).trans rfl⟩ (fun hHeld=>?_)
       clear hK K
       refine norm_ (a':=?_) ?_ ?_
       rotate_left
       ·show Act.put _ (some 4) _=_
        simp only [Act.put,yps,i64_w,i32_w]
        rfl
       exact norm_ (by first|(simp only [putAll,Act.put,yps];done)|(simp only [putAll,Act.put,yps];rfl)) (hJ2_5_6_11 (v728,v731,v734,gb739) _ ⟨hHeld,(Kd.Yz HO732.out),(by (with_reducible repeat (first|apply Kd.N_alloc|apply Kd.N_drewN|apply Kd.N_drew));exact Kd.N_mono HO735.out (fun _ hk=>⟨hk.1.1,⟨hk.1.2.1,⟨hk.1.2.2.1,⟨hk.1.2.2.2.1,⟨hk.1.2.2.2.2.1,⟨hk.1.2.2.2.2.2,hk.2⟩⟩⟩⟩⟩⟩)),(Kd.Yz HO_717001.out),(by (with_reducible repeat (first|apply Kd.N_alloc|apply Kd.N_drewN|apply Kd.N_drew));exact Kd.N_mono HO_717002.out (fun _ hk=>⟨hk.1.1,⟨hk.1.2.1,⟨hk.1.2.2.1,⟨hk.1.2.2.2.1,⟨hk.1.2.2.2.2.1,⟨hk.1.2.2.2.2.2,hk.2⟩⟩⟩⟩⟩⟩)),(ybz BK716.out),(ybz BK717.out),(ybz BK739.out),GW739.out,GE739.out,NB716_739.out,NB739_716.out,NB717_739.out,NB739_717.out,yhb⟩)
    ·skip
     rintro ⟨v728,v731,v734,gb739⟩ w35 ⟨hS_,h0_,h1_,h2_,h3_,h4_,h5_,h6_,h7_,h8_,h9_,h10_,h11_,h12_,h13_⟩
     have HO732:Aside0 (Kd.R (Kd.int .i64) 3 w35 w.heap.size (fun k_=>(w.heap.size≤k_)∧some k_≠(.slice Ao10 t719.length co10:Value).ownBlock) v731 y730):=⟨h0_⟩
     have HO735:Aside0 (Kd.N k73 73 w35 w.heap.size (fun k_=>(w.heap.size≤k_)∧some k_≠(v731:Value).ownBlock∧some k_≠(.slice Ao10 t719.length co10:Value).ownBlock∧some k_≠(.slice Ao11 t722.length co11:Value).ownBlock∧k_≠gb716∧k_≠gb717∧k_≠gb739) v734 y733):=⟨h1_⟩
     replace HO_717001:Aside0 (Kd.R (Kd.int .i64) 3 w35 w.heap.size (fun k_=>(w.heap.size≤k_)∧some k_≠(v731:Value).ownBlock) (.slice Ao10 t719.length co10) t719):=⟨h2_⟩
     replace HO_717002:Aside0 (Kd.N k73 73 w35 w.heap.size (fun k_=>(w.heap.size≤k_)∧some k_≠(v731:Value).ownBlock∧some k_≠(v734:Value).ownBlock∧some k_≠(.slice Ao10 t719.length co10:Value).ownBlock∧k_≠gb716∧k_≠gb717∧k_≠gb739) (.slice Ao11 t722.length co11) t722):=⟨h3_⟩
     replace BK716:Aside0 (w35.heap[gb716]?=some (.cells #[.int .i64 t718,.slice Ao10 t719.length co10,.slice Ao11 t722.length co11] 37 (0,0))):=⟨h4_⟩
     replace BK717:Aside0 (w35.heap[gb717]?=some (.cells #[.int .i64 0,.slice none 0 0,.slice none 0 0] 37 (0,0))):=⟨h5_⟩
     have BK739:Aside0 (w35.heap[gb739]?=some (.cells #[.int .i64 0,.slice none 0 0,.slice none 0 0] 37 (0,0))):=⟨h6_⟩
     have GW739:Aside0 (w.heap.size≤gb739):=⟨h7_⟩
     have GE739:Aside0 (w.heap.size≤gb739):=⟨h8_⟩
     have NB716_739:Aside0 (gb716≠gb739):=⟨h9_⟩
     have NB739_716:Aside0 (gb739≠gb716):=⟨h10_⟩
     have NB717_739:Aside0 (gb717≠gb739):=⟨h11_⟩
     have NB739_717:Aside0 (gb739≠gb717):=⟨h12_⟩
     replace HB:Aside0 (Below w.heap.size w w35):=⟨h13_⟩
     clear h0_ h1_ h2_ h3_ h4_ h5_ h6_ h7_ h8_ h9_ h10_ h11_ h12_ h13_
     have hHeld:w35.cell? ⟨gb716,0,none⟩=some (.int .i64 t718)∧w35.cell? ⟨gb716,1,none⟩=some (.slice Ao10 t719.length co10)∧w35.cell? ⟨gb716,2,none⟩=some (.slice Ao11 t722.length co11):=hS_
     refine norm_ (a':=?_) ?_ ?_
     rotate_left
     ·simp only [putAll,Act.put,yps]
      rfl
     refine one_ (i:=9) (N:=some 28) (yvb 13 3071) rfl rfl (one_of HT_.out (by kernel_rfl)) (by decide) (fun K hK=>?_)
     refine Kd.N_append_rows_step k73 (w0:=w) w.heap.size (by rfl) (.tmp 25) (.tmp 27) 35 73 (.agg #[(.int .i64 0),(.slice none 0 0),(.int .i64 0)]) 40 rfl Try.underlying35 info73 rfl (by decide) (by omega) v734 y733 t722 _ _ _ (fun k_=>(w.heap.size≤k_)∧some k_≠(.slice Ao10 t719.length co10:Value).ownBlock∧some k_≠(v731:Value).ownBlock∧k_≠gb716∧k_≠gb717∧k_≠gb739) (fun k_=>((fun k_=>(w.heap.size≤k_)∧some k_≠(.slice Ao10 t719.length co10:Value).ownBlock∧some k_≠(v731:Value).ownBlock∧k_≠gb716∧k_≠gb717∧k_≠gb739)) k_∧some k_≠(v734:Value).ownBlock) rfl rfl ?aO ?aR (fun _ hk=>hk) ?aF ?aB ?aS ?aL ?_
     (case aR=>exact (by skip;exact Kd.N_F (Kd.N_mono (ok':=(fun k_=>((fun k_=>(w.heap.size≤k_)∧some k_≠(.slice Ao10 t719.length co10:Value).ownBlock∧some k_≠(v731:Value).ownBlock∧k_≠gb716∧k_≠gb717∧k_≠gb739)) k_∧some k_≠(v734:Value).ownBlock)) (HO_717002.out) (fun k_ hk=>⟨⟨hk.1,⟨hk.2.2.2.1,⟨hk.2.1,⟨hk.2.2.2.2.1,⟨hk.2.2.2.2.2.1,hk.2.2.2.2.2.2⟩⟩⟩⟩⟩,hk.2.2.1⟩))))
     (case aB=>exact yhb)
     (case aF=>exact (fun k_ hk=>⟨(Nat.le_trans (below_size yhb) hk),Kd.fresh' (Kd.R_lt (Kd.Yz HO_717001.out)) k_ hk,Kd.fresh' (Kd.R_lt (Kd.Yz HO732.out)) k_ hk,Kd.freshB (g:=gb716) (o:= .cells #[.int .i64 t718,.slice Ao10 t719.length co10,.slice Ao11 t722.length co11] 37 (0,0)) (ybz BK716.out) k_ hk,Kd.freshB (g:=gb717) (o:= .cells #[.int .i64 0,.slice none 0 0,.slice none 0 0] 37 (0,0)) (ybz BK717.out) k_ hk,Kd.freshB (g:=gb739) (o:= .cells #[.int .i64 0,.slice none 0 0,.slice none 0 0] 37 (0,0)) (ybz BK739.out) k_ hk⟩))
     (case aO=>exact (by (with_reducible repeat (first|apply Kd.N_alloc|apply Kd.N_drewN|apply Kd.N_drew));exact Kd.N_mono HO735.out (fun _ hk=>⟨hk.1,⟨hk.2.2.1,⟨hk.2.1,⟨hk.2.2.2.2.1,⟨hk.2.2.2.2.2.1,hk.2.2.2.2.2.2⟩⟩⟩⟩⟩)))
     (case aS=>exact (below_size yhb))
     (case aL=>have:=LMc27.out;omega)
     intro v737 w36 ho hb hg hat
     rw [← Ny736.out] at ho
     replace HO_717001:=yam (Kd.R_over' (Kd.Yz HO_717001.out) (Kd.N_typed (by (with_reducible repeat (first|apply Kd.N_alloc|apply Kd.N_drewN|apply Kd.N_drew));exact HO735.out)) (by decide) hg)
     replace HO_717002:=yam (Kd.N_afterv (ok:=(fun k_=>(w.heap.size≤k_)∧some k_≠(.slice Ao10 t719.length co10:Value).ownBlock∧some k_≠(v731:Value).ownBlock∧k_≠gb716∧k_≠gb717∧k_≠gb739)) (by (with_reducible repeat (first|apply Kd.N_alloc|apply Kd.N_drewN|apply Kd.N_drew));exact Kd.N_mono HO_717002.out (fun _ hk=>⟨⟨hk.1,⟨hk.2.2.2.1,⟨hk.2.1,⟨hk.2.2.2.2.1,⟨hk.2.2.2.2.2.1,hk.2.2.2.2.2.2⟩⟩⟩⟩⟩,hk.2.2.1⟩)) hg hat)
     replace BK716:=yam (blk_grown (g:=gb716) (o:= .cells #[.int .i64 t718,.slice Ao10 t719.length co10,.slice Ao11 t722.length co11] 37 (0,0)) (ybz BK716.out) hg (Kd.N_ne HO735.out BK716.out (by decide)))
     replace BK717:=yam (blk_grown (g:=gb717) (o:= .cells #[.int .i64 0,.slice none 0 0,.slice none 0 0] 37 (0,0)) (ybz BK717.out) hg (Kd.N_ne HO735.out BK717.out (by decide)))
     replace HO732:=yam (Kd.R_over' (Kd.Yz HO732.out) (Kd.N_typed (by (with_reducible repeat (first|apply Kd.N_alloc|apply Kd.N_drewN|apply Kd.N_drew));exact HO735.out)) (by decide) hg)
     replace BK739:=yam (blk_grown (g:=gb739) (o:= .cells #[.int .i64 0,.slice none 0 0,.slice none 0 0] 37 (0,0)) (ybz BK739.out) hg (Kd.N_ne HO735.out BK739.out (by decide)))
     replace HB:=yam (hb)
     have HO738:=yam (ho)
     clear HO735
     clear ho hb hg hat
     obtain ⟨Ao37,co37,eo37⟩:=Kd.N_slice HO738.out
     (first|subst eo37|(injection eo37 with f1_ f2_ f3_;have f4_:=f1_.symm;have f5_:=f3_.symm;clear f1_ f2_ f3_;subst f4_;subst f5_))
     obtain ⟨Ao38,co38,eo38⟩:=Kd.R_slice HO732.out
     (first|subst eo38|(injection eo38 with f1_ f2_ f3_;have f4_:=f1_.symm;have f5_:=f3_.symm;clear f1_ f2_ f3_;subst f4_;subst f5_))
     refine hK.out _ _ ⟨(blk_cell BK716.out 0).trans rfl,(blk_cell BK716.out 1).trans rfl,(blk_cell BK716.out 2).trans rfl⟩ (fun hHeld=>?_)
     clear hK K
     refine norm_ (a':=?_) ?_ ?_
     rotate_left
     ·show Act.put _ (some 28) _=_
      simp only [Act.put,yps,i64_w,i32_w]
      rfl
     refine yvp 10 29 (yvb 13 4095) HT_.out ?_
     exact norm_ (by first|(simp only [putAll,Act.put,yps];done)|(simp only [putAll,Act.put,yps];rfl)) (hJ2_5_6_9_11 (v728,.slice Ao38 y730.length co38,v734,.slice Ao37 y736.length co37,gb739) _ ⟨hHeld,(Kd.Yz HO732.out),(by (with_reducible repeat (first|apply Kd.N_alloc|apply Kd.N_drewN|apply Kd.N_drew));exact Kd.N_mono HO738.out (fun _ hk=>⟨hk.1,⟨hk.2.2.1,⟨hk.2.1,⟨hk.2.2.2.1,⟨hk.2.2.2.2.1,hk.2.2.2.2.2⟩⟩⟩⟩⟩)),(Kd.Yz HO_717001.out),(by (with_reducible repeat (first|apply Kd.N_alloc|apply Kd.N_drewN|apply Kd.N_drew));exact Kd.N_mono HO_717002.out (fun _ hk=>⟨hk.1.1,⟨hk.1.2.2.1,⟨hk.2,⟨hk.1.2.1,⟨hk.1.2.2.2.1,⟨hk.1.2.2.2.2.1,hk.1.2.2.2.2.2⟩⟩⟩⟩⟩⟩)),(ybz BK716.out),(ybz BK717.out),(ybz BK739.out),GW739.out,GE739.out,NB716_739.out,NB739_716.out,NB717_739.out,NB739_717.out,yhb⟩)
   ·skip
    rintro ⟨v728,v731,v734,v737⟩ w37 ⟨hS_,h0_,h1_,h2_,h3_,h4_,h5_,h6_⟩
    have HO732:Aside0 (Kd.R (Kd.int .i64) 3 w37 w.heap.size (fun k_=>(w.heap.size≤k_)∧some k_≠(.slice Ao10 t719.length co10:Value).ownBlock) v731 y730):=⟨h0_⟩
    have HO738:Aside0 (Kd.N k73 73 w37 w.heap.size (fun k_=>(w.heap.size≤k_)∧some k_≠(v731:Value).ownBlock∧some k_≠(.slice Ao10 t719.length co10:Value).ownBlock∧k_≠gb716∧k_≠gb717) v737 y736):=⟨h1_⟩
    replace HO_717001:Aside0 (Kd.R (Kd.int .i64) 3 w37 w.heap.size (fun k_=>(w.heap.size≤k_)∧some k_≠(v731:Value).ownBlock) (.slice Ao10 t719.length co10) t719):=⟨h2_⟩
    replace HO_717002:Aside0 (Kd.N k73 73 w37 w.heap.size (fun k_=>(w.heap.size≤k_)∧some k_≠(v731:Value).ownBlock∧some k_≠(v737:Value).ownBlock∧some k_≠(.slice Ao10 t719.length co10:Value).ownBlock∧k_≠gb716∧k_≠gb717) (.slice Ao11 t722.length co11) t722):=⟨h3_⟩
    replace BK716:Aside0 (w37.heap[gb716]?=some (.cells #[.int .i64 t718,.slice Ao10 t719.length co10,.slice Ao11 t722.length co11] 37 (0,0))):=⟨h4_⟩
    replace BK717:Aside0 (w37.heap[gb717]?=some (.cells #[.int .i64 0,.slice none 0 0,.slice none 0 0] 37 (0,0))):=⟨h5_⟩
    replace HB:Aside0 (Below w.heap.size w w37):=⟨h6_⟩
    clear h0_ h1_ h2_ h3_ h4_ h5_ h6_
    have hHeld:w37.cell? ⟨gb716,0,none⟩=some (.int .i64 t718)∧w37.cell? ⟨gb716,1,none⟩=some (.slice Ao10 t719.length co10)∧w37.cell? ⟨gb716,2,none⟩=some (.slice Ao11 t722.length co11):=hS_
    obtain ⟨Ao38,co38,eo38⟩:=Kd.N_slice HO738.out
    (first|subst eo38|(injection eo38 with f1_ f2_ f3_;have f4_:=f1_.symm;have f5_:=f3_.symm;clear f1_ f2_ f3_;subst f4_;subst f5_))
    obtain ⟨Ao39,co39,eo39⟩:=Kd.R_slice HO732.out
    (first|subst eo39|(injection eo39 with f1_ f2_ f3_;have f4_:=f1_.symm;have f5_:=f3_.symm;clear f1_ f2_ f3_;subst f4_;subst f5_))
    refine norm_ (a':=?_) ?_ ?_
    rotate_left
    ·simp only [putAll,Act.put,yps]
     rfl
    refine one_ (i:=11) (N:=some 4) (yvb 13 4095) rfl rfl (one_of HT_.out (by kernel_rfl)) (by decide) (fun K hK=>?_)
    refine box_step ?hg (N:=4) ?hd (cs:= #[.int .i64 0,.slice none 0 0,.slice none 0 0]) (t:=37) ?hr ?_;(case hd=>rfl);(case hg=>rfl);(case hr=>first|(go_simp;done)|(go_simp;rfl))
    intro gb739 hg w40 hbox hb
    replace HO_717001:=yam (Kd.R_below (Kd.Yz HO_717001.out) hb)
    replace HO_717002:=yam (Kd.N_below (Kd.N_elderB (by (with_reducible repeat (first|apply Kd.N_alloc|apply Kd.N_drewN|apply Kd.N_drew));exact HO_717002.out) gb739 (Nat.le_of_eq hg.symm)) hb)
    replace HO732:=yam (Kd.R_below (Kd.Yz HO732.out) hb)
    replace HO738:=yam (Kd.N_below (Kd.N_elderB (by (with_reducible repeat (first|apply Kd.N_alloc|apply Kd.N_drewN|apply Kd.N_drew));exact HO738.out) gb739 (Nat.le_of_eq hg.symm)) hb)
    have BK739:=yam (hbox)
    have GW739:=yam ((by rw [hg];exact (below_size yhb):w.heap.size≤gb739))
    have GE739:=yam ((by rw [hg];exact (below_size yhb):w.heap.size≤gb739))
    replace HB:=yam (below_step yhb hb)
    have NB716_739:=yam ((by rw [hg];exact Nat.ne_of_lt (blk_lt (g:=gb716) (o:= .cells #[.int .i64 t718,.slice Ao10 t719.length co10,.slice Ao11 t722.length co11] 37 (0,0)) (ybz BK716.out)):gb716≠gb739))
    have NB739_716:=yam ((by rw [hg];exact Nat.ne_of_gt (blk_lt (g:=gb716) (o:= .cells #[.int .i64 t718,.slice Ao10 t719.length co10,.slice Ao11 t722.length co11] 37 (0,0)) (ybz BK716.out)):gb739≠gb716))
    replace BK716:=yam (ybb BK716.out hb)
    have NB717_739:=yam ((by rw [hg];exact Nat.ne_of_lt (blk_lt (g:=gb717) (o:= .cells #[.int .i64 0,.slice none 0 0,.slice none 0 0] 37 (0,0)) (ybz BK717.out)):gb717≠gb739))
    have NB739_717:=yam ((by rw [hg];exact Nat.ne_of_gt (blk_lt (g:=gb717) (o:= .cells #[.int .i64 0,.slice none 0 0,.slice none 0 0] 37 (0,0)) (ybz BK717.out)):gb739≠gb717))
    replace BK717:=yam (ybb BK717.out hb)
    clear hb hbox hg
    refine hK.out _ _ ⟨(blk_cell BK716.out 0).trans rfl,(blk_cell BK716.out 1).trans rfl,(blk_cell BK716.out 2).trans rfl⟩ (fun hHeld=>?_)
    clear hK K
    refine norm_ (a':=?_) ?_ ?_
    rotate_left
    ·show Act.put _ (some 4) _=_
     simp only [Act.put,yps,i64_w,i32_w]
     rfl
    exact norm_ (by first|(simp only [putAll,Act.put,yps];done)|(simp only [putAll,Act.put,yps];rfl)) (hJ2_5_6_9_11 (v728,.slice Ao39 y730.length co39,v734,.slice Ao38 y736.length co38,gb739) _ ⟨hHeld,(Kd.Yz HO732.out),(by (with_reducible repeat (first|apply Kd.N_alloc|apply Kd.N_drewN|apply Kd.N_drew));exact Kd.N_mono HO738.out (fun _ hk=>⟨hk.1.1,⟨hk.1.2.1,⟨hk.1.2.2.1,⟨hk.1.2.2.2.1,⟨hk.1.2.2.2.2,hk.2⟩⟩⟩⟩⟩)),(Kd.Yz HO_717001.out),(by (with_reducible repeat (first|apply Kd.N_alloc|apply Kd.N_drewN|apply Kd.N_drew));exact Kd.N_mono HO_717002.out (fun _ hk=>⟨hk.1.1,⟨hk.1.2.1,⟨hk.1.2.2.1,⟨hk.1.2.2.2.1,⟨hk.1.2.2.2.2.1,⟨hk.1.2.2.2.2.2,hk.2⟩⟩⟩⟩⟩⟩)),(ybz BK716.out),(ybz BK717.out),(ybz BK739.out),GW739.out,GE739.out,NB716_739.out,NB739_716.out,NB717_739.out,NB739_717.out,yhb⟩)
  rintro ⟨v728,v731,v734,v737,gb739⟩ w38 ⟨hS_,h0_,h1_,h2_,h3_,h4_,h5_,h6_,h7_,h8_,h9_,h10_,h11_,h12_,h13_⟩
  have HO732:Aside0 (Kd.R (Kd.int .i64) 3 w38 w.heap.size (fun k_=>(w.heap.size≤k_)∧some k_≠(.slice Ao10 t719.length co10:Value).ownBlock) v731 y730):=⟨h0_⟩
  have HO738:Aside0 (Kd.N k73 73 w38 w.heap.size (fun k_=>(w.heap.size≤k_)∧some k_≠(v731:Value).ownBlock∧some k_≠(.slice Ao10 t719.length co10:Value).ownBlock∧k_≠gb716∧k_≠gb717∧k_≠gb739) v737 y736):=⟨h1_⟩
  replace HO_717001:Aside0 (Kd.R (Kd.int .i64) 3 w38 w.heap.size (fun k_=>(w.heap.size≤k_)∧some k_≠(v731:Value).ownBlock) (.slice Ao10 t719.length co10) t719):=⟨h2_⟩
  replace HO_717002:Aside0 (Kd.N k73 73 w38 w.heap.size (fun k_=>(w.heap.size≤k_)∧some k_≠(v731:Value).ownBlock∧some k_≠(v737:Value).ownBlock∧some k_≠(.slice Ao10 t719.length co10:Value).ownBlock∧k_≠gb716∧k_≠gb717∧k_≠gb739) (.slice Ao11 t722.length co11) t722):=⟨h3_⟩
  replace BK716:Aside0 (w38.heap[gb716]?=some (.cells #[.int .i64 t718,.slice Ao10 t719.length co10,.slice Ao11 t722.length co11] 37 (0,0))):=⟨h4_⟩
  replace BK717:Aside0 (w38.heap[gb717]?=some (.cells #[.int .i64 0,.slice none 0 0,.slice none 0 0] 37 (0,0))):=⟨h5_⟩
  have BK739:Aside0 (w38.heap[gb739]?=some (.cells #[.int .i64 0,.slice none 0 0,.slice none 0 0] 37 (0,0))):=⟨h6_⟩
  have GW739:Aside0 (w.heap.size≤gb739):=⟨h7_⟩
  have GE739:Aside0 (w.heap.size≤gb739):=⟨h8_⟩
  have NB716_739:Aside0 (gb716≠gb739):=⟨h9_⟩
  have NB739_716:Aside0 (gb739≠gb716):=⟨h10_⟩
  have NB717_739:Aside0 (gb717≠gb739):=⟨h11_⟩
  have NB739_717:Aside0 (gb739≠gb717):=⟨h12_⟩
  replace HB:Aside0 (Below w.heap.size w w38):=⟨h13_⟩
  clear h0_ h1_ h2_ h3_ h4_ h5_ h6_ h7_ h8_ h9_ h10_ h11_ h12_ h13_
  have hHeld:w38.cell? ⟨gb716,0,none⟩=some (.int .i64 t718)∧w38.cell? ⟨gb716,1,none⟩=some (.slice Ao10 t719.length co10)∧w38.cell? ⟨gb716,2,none⟩=some (.slice Ao11 t722.length co11):=hS_
  obtain ⟨Ao39,co39,eo39⟩:=Kd.N_slice HO738.out
  (first|subst eo39|(injection eo39 with f1_ f2_ f3_;have f4_:=f1_.symm;have f5_:=f3_.symm;clear f1_ f2_ f3_;subst f4_;subst f5_))
  obtain ⟨Ao40,co40,eo40⟩:=Kd.R_slice HO732.out
  (first|subst eo40|(injection eo40 with f1_ f2_ f3_;have f4_:=f1_.symm;have f5_:=f3_.symm;clear f1_ f2_ f3_;subst f4_;subst f5_))
  refine norm_ (a':=?_) ?_ ?_
  rotate_left
  ·simp only [putAll,Act.put,yps]
   rfl
  refine one_ (i:=12) (N:=none) (yvb 13 8191) rfl rfl (one_of HT_.out (by kernel_rfl)) (by decide) (fun K hK=>?_)
  have hs41:w38.cell? ⟨gb739,0,none⟩=some (.int .i64 0):=(blk_cell BK739.out 0).trans rfl
  have hfs41:=blk_frozen BK739.out 0
  have hns41_0:=NB716_739.out
  have hns41_1:=NB717_739.out
  have hms41_0:=NB739_716.out
  have hms41_1:=NB739_717.out
  have hs42:w38.cell? ⟨gb739,1,none⟩=some (.slice none 0 0):=(blk_cell BK739.out 1).trans rfl
  have hfs42:=blk_frozen BK739.out 1
  have hns42_0:=NB716_739.out
  have hns42_1:=NB717_739.out
  have hms42_0:=NB739_716.out
  have hms42_1:=NB739_717.out
  have hs43:w38.cell? ⟨gb739,2,none⟩=some (.slice none 0 0):=(blk_cell BK739.out 2).trans rfl
  have hfs43:=blk_frozen BK739.out 2
  have hns43_0:=NB716_739.out
  have hns43_1:=NB717_739.out
  have hms43_0:=NB739_716.out
  have hms43_1:=NB739_717.out
  refine skip_ (w1:=?_) (by rfl) rfl ?_ ?_
  rotate_left
  ·go_simp
   rfl
  refine hK.out _ _ ⟨((cell_far (p:=⟨gb739,_,none⟩) NB716_739.out _).trans (((cell_far (p:=⟨gb739,_,none⟩) NB716_739.out _).trans (((cell_far (p:=⟨gb739,_,none⟩) NB716_739.out _).trans (hHeld.1)))))),((cell_far (p:=⟨gb739,_,none⟩) NB716_739.out _).trans (((cell_far (p:=⟨gb739,_,none⟩) NB716_739.out _).trans (((cell_far (p:=⟨gb739,_,none⟩) NB716_739.out _).trans (hHeld.2.1)))))),((cell_far (p:=⟨gb739,_,none⟩) NB716_739.out _).trans (((cell_far (p:=⟨gb739,_,none⟩) NB716_739.out _).trans (((cell_far (p:=⟨gb739,_,none⟩) NB716_739.out _).trans (hHeld.2.2))))))⟩ (fun hHeld=>?_)
  clear hK K
  refine done_ (done_of HT_.out (by kernel_rfl)) ?_
  have hnb44:=NB739_716.out
  have hnc44:=NB716_739.out
  have hnb45:=NB739_717.out
  have hnc45:=NB717_739.out
  obtain ⟨hcz46_0,hcz46_1,hcz46_2,hfz46_0,hfz46_1,hfz46_2⟩:=ybc BK739.out
  try go_wp2
  go_loopg [6] kj2 (fun kq v6 w'=>∃ (x6_2:Int) (x740000_2:Int) (x740001_2:List Int) (x740002_2:List (S73)) (u740001:Value) (u740002:Value),v6= .int .i64 x6_2∧Aside0 (spec_MakeEven.l0 kq (wrap64 ((y730.length:Int) - 1)) x6_2 x740000_2 x740001_2 x740002_2=some (r1,r2,r3,r4))∧Aside0 (kq≤kj2)∧Aside0 (Kd.R (Kd.int .i64) 3 w' w.heap.size (fun k_=>(w.heap.size≤k_)∧some k_≠(u740001:Value).ownBlock) (.slice Ao10 t719.length co10) t719)∧Aside0 (Kd.N k73 73 w' w.heap.size (fun k_=>(w.heap.size≤k_)∧some k_≠((.slice Ao10 t719.length co10):Value).ownBlock∧some k_≠(u740001:Value).ownBlock∧k_≠gb716∧k_≠gb717∧k_≠gb739) (.slice Ao11 t722.length co11) t722)∧Aside0 (Kd.R (Kd.int .i64) 3 w' w.heap.size (fun k_=>(w.heap.size≤k_)∧some k_≠((.slice Ao10 t719.length co10):Value).ownBlock) u740001 x740001_2)∧Aside0 (Kd.V k73 73 w' w.heap.size (fun k_=>(w.heap.size≤k_)∧some k_≠((.slice Ao10 t719.length co10):Value).ownBlock∧some k_≠(u740001:Value).ownBlock∧k_≠gb716∧k_≠gb717∧k_≠gb739) u740002 x740002_2)∧Aside0 (w'.heap[gb716]?=some (.cells #[.int .i64 t718,(.slice Ao10 t719.length co10),(.slice Ao11 t722.length co11)] 37 (0,0)))∧Aside0 (w'.heap[gb717]?=some (.cells #[.int .i64 0,(.slice none 0 0),(.slice none 0 0)] 37 (0,0)))∧Aside0 (w'.heap[gb739]?=some (.cells #[.int .i64 x740000_2,u740001,u740002] 37 (0,0)))∧Aside0 (Below w.heap.size w w'))
  case atStart=>exact ⟨(0),(t718),(y730),(y736),(.slice Ao40 y730.length co40),(.slice Ao39 y736.length co39),yeq,H,⟨Nat.le_refl _⟩,⟨by (with_reducible repeat (first|apply Kd.Ya|apply Kd.Yn|apply Kd.Yd));exact Kd.R_mono (Kd.R_far (p:=⟨gb739,2,none⟩) (Kd.R_far (p:=⟨gb739,1,none⟩) (Kd.R_far (p:=⟨gb739,0,none⟩) (Kd.R_types HO_717001.out BK739.out (by decide)) (fun _ hk=>hk.2) (.int .i64 t718)) (fun _ hk=>hk.2) (.slice Ao40 y730.length co40)) (fun _ hk=>hk.2) (.slice Ao39 y736.length co39)) (fun _ hk=>⟨hk.1.1,hk.1.2⟩)⟩,⟨by (with_reducible repeat (first|apply Kd.N_alloc|apply Kd.N_drewN|apply Kd.N_drew));exact Kd.N_mono (Kd.N_far (p:=⟨gb739,2,none⟩) (Kd.N_far (p:=⟨gb739,1,none⟩) (Kd.N_far (p:=⟨gb739,0,none⟩) (Kd.N_mono HO_717002.out (fun k_ hk=>(⟨hk,hk.2.2.2.2.2.2⟩:_∧k_≠gb739))) (fun _ hk=>hk.2) (.int .i64 t718)) (fun _ hk=>hk.2) (.slice Ao40 y730.length co40)) (fun _ hk=>hk.2) (.slice Ao39 y736.length co39)) (fun _ hk=>⟨hk.1.1,⟨hk.1.2.2.2.1,⟨hk.1.2.1,⟨hk.1.2.2.2.2.1,⟨hk.1.2.2.2.2.2.1,hk.1.2.2.2.2.2.2⟩⟩⟩⟩⟩)⟩,⟨by (with_reducible repeat (first|apply Kd.Ya|apply Kd.Yn|apply Kd.Yd));exact Kd.R_mono (Kd.R_far (p:=⟨gb739,2,none⟩) (Kd.R_far (p:=⟨gb739,1,none⟩) (Kd.R_far (p:=⟨gb739,0,none⟩) (Kd.R_types HO732.out BK739.out (by decide)) (fun _ hk=>hk.2) (.int .i64 t718)) (fun _ hk=>hk.2) (.slice Ao40 y730.length co40)) (fun _ hk=>hk.2) (.slice Ao39 y736.length co39)) (fun _ hk=>⟨hk.1.1,hk.1.2⟩)⟩,⟨Kd.N_V (by (with_reducible repeat (first|apply Kd.N_alloc|apply Kd.N_drewN|apply Kd.N_drew));exact Kd.N_mono (Kd.N_far (p:=⟨gb739,2,none⟩) (Kd.N_far (p:=⟨gb739,1,none⟩) (Kd.N_far (p:=⟨gb739,0,none⟩) (Kd.N_mono HO738.out (fun k_ hk=>(⟨hk,hk.2.2.2.2.2⟩:_∧k_≠gb739))) (fun _ hk=>hk.2) (.int .i64 t718)) (fun _ hk=>hk.2) (.slice Ao40 y730.length co40)) (fun _ hk=>hk.2) (.slice Ao39 y736.length co39)) (fun _ hk=>⟨hk.1.1,⟨hk.1.2.2.1,⟨hk.1.2.1,⟨hk.1.2.2.2.1,⟨hk.1.2.2.2.2.1,hk.1.2.2.2.2.2⟩⟩⟩⟩⟩))⟩,⟨by (with_reducible repeat (first|refine ybn ?_ _|refine ybd ?_|refine yba ?_ _));refine blk_far ?_ NB716_739.out _;(with_reducible repeat (first|refine ybn ?_ _|refine ybd ?_|refine yba ?_ _));refine blk_far ?_ NB716_739.out _;(with_reducible repeat (first|refine ybn ?_ _|refine ybd ?_|refine yba ?_ _));refine blk_far ?_ NB716_739.out _;(with_reducible repeat (first|refine ybn ?_ _|refine ybd ?_|refine yba ?_ _));exact BK716.out⟩,⟨by (with_reducible repeat (first|refine ybn ?_ _|refine ybd ?_|refine yba ?_ _));refine blk_far ?_ NB717_739.out _;(with_reducible repeat (first|refine ybn ?_ _|refine ybd ?_|refine yba ?_ _));refine blk_far ?_ NB717_739.out _;(with_reducible repeat (first|refine ybn ?_ _|refine ybd ?_|refine yba ?_ _));refine blk_far ?_ NB717_739.out _;(with_reducible repeat (first|refine ybn ?_ _|refine ybd ?_|refine yba ?_ _));exact BK717.out⟩,⟨by (with_reducible repeat (first|refine ybn ?_ _|refine ybd ?_|refine yba ?_ _));refine blk_put (cs:= #[.int .i64 t718,.slice Ao40 y730.length co40,.slice none 0 0]) ?_ 2 _ rfl;(with_reducible repeat (first|refine ybn ?_ _|refine ybd ?_|refine yba ?_ _));refine blk_put (cs:= #[.int .i64 t718,.slice none 0 0,.slice none 0 0]) ?_ 1 _ rfl;(with_reducible repeat (first|refine ybn ?_ _|refine ybd ?_|refine yba ?_ _));refine blk_put (cs:= #[.int .i64 0,.slice none 0 0,.slice none 0 0]) ?_ 0 _ rfl;(with_reducible repeat (first|refine ybn ?_ _|refine ybd ?_|refine yba ?_ _));exact BK739.out⟩,⟨yhb⟩⟩
  case round=>as_aux_lemma =>
   clear H
   try clear hcz46_0
   try clear hcz46_1
   try clear hcz46_2
   try clear hfz46_0
   try clear hfz46_1
   try clear hfz46_2
   obtain ⟨x6_2,x740000_2,x740001_2,x740002_2,u740001,u740002,rfl,HA,HK2,HO_717001,HO_717002,HO_740001,HO_740002,BK716,BK717,BK739,HB⟩:=hrel
   rcases gk with _|k2
   ·exact absurd HA.out (by simp [spec_MakeEven.l0])
   obtain ⟨H⟩:=HA
   simp only [spec_MakeEven.l0] at H
   replace H:=yis H;obtain ⟨c47b0,H⟩ | ⟨c47b0,H⟩:=H
   rotate_left
   ·simp only [Option.some.injEq,Prod.mk.injEq] at H
    obtain ⟨rfl,rfl,rfl,rfl⟩:=H
    have hnb116:=NB739_716.out
    have hnc116:=NB716_739.out
    have hnb117:=NB739_717.out
    have hnc117:=NB717_739.out
    obtain ⟨hcz118_0,hcz118_1,hcz118_2,hfz118_0,hfz118_1,hfz118_2⟩:=ybc BK739.out
    have hnb119:=NB717_716.out
    have hnc119:=NB716_717.out
    obtain ⟨hcz120_0,hcz120_1,hcz120_2,hfz120_0,hfz120_1,hfz120_2⟩:=ybc BK717.out
    obtain ⟨Ao121,co121,eo121⟩:=Kd.R_slice HO_740001.out
    subst eo121
    obtain ⟨Ao122,co122,eo122⟩:=Kd.V_slice HO_740002.out
    subst eo122
    go_wp2
    refine bodyPost_ret (results_ct rfl _ _ gb717 37 #[.int .i64 x740000_2,.slice Ao121 x740001_2.length co121,.slice Ao122 x740002_2.length co122] (0,0) _ rfl (by (with_reducible repeat (first|refine ybn ?_ _|refine ybd ?_|refine yba ?_ _));refine blk_put (cs:= #[.int .i64 x740000_2,.slice Ao121 x740001_2.length co121,.slice none 0 0]) ?_ 2 _ rfl;(with_reducible repeat (first|refine ybn ?_ _|refine ybd ?_|refine yba ?_ _));refine blk_put (cs:= #[.int .i64 x740000_2,.slice none 0 0,.slice none 0 0]) ?_ 1 _ rfl;(with_reducible repeat (first|refine ybn ?_ _|refine ybd ?_|refine yba ?_ _));refine blk_put (cs:= #[.int .i64 0,.slice none 0 0,.slice none 0 0]) ?_ 0 _ rfl;(with_reducible repeat (first|refine ybn ?_ _|refine ybd ?_|refine yba ?_ _));exact BK717.out) Try.underlying37 rfl (by kernel_rfl)) rfl ?_
    exact ⟨_,_,yer,by (with_reducible repeat (first|apply Kd.Ya|apply Kd.Yn|apply Kd.Yd));exact Kd.R_mono (Kd.R_far (p:=⟨gb717,2,none⟩) (Kd.R_far (p:=⟨gb717,1,none⟩) (Kd.R_far (p:=⟨gb717,0,none⟩) (Kd.R_types HO_740001.out BK717.out (by decide)) (fun _ hk=>hk.2) (.int .i64 x740000_2)) (fun _ hk=>hk.2) (.slice Ao121 x740001_2.length co121)) (fun _ hk=>hk.2) (.slice Ao122 x740002_2.length co122)) (fun _ hk=>hk.1.1),by (with_reducible repeat (first|apply Kd.V_alloc|apply Kd.V_drewN|apply Kd.V_drew));exact Kd.V_mono (Kd.V_far (p:=⟨gb717,2,none⟩) (Kd.V_far (p:=⟨gb717,1,none⟩) (Kd.V_far (p:=⟨gb717,0,none⟩) (Kd.V_mono HO_740002.out (fun k_ hk=>(⟨hk,hk.2.2.2.2.1⟩:_∧k_≠gb717))) (fun _ hk=>hk.2) (.int .i64 x740000_2)) (fun _ hk=>hk.2) (.slice Ao121 x740001_2.length co121)) (fun _ hk=>hk.2) (.slice Ao122 x740002_2.length co122)) (fun _ hk=>⟨hk.1.1,hk.1.2.2.1⟩),yhb⟩
   replace H:=ybi H;obtain ⟨⟨t740,t741,t744⟩,A48,H⟩:=H
   replace H:((spec_l10Without.f t740 t741 t744 (wrap64 ((wrap64 ((y730.length:Int) - 1)) - x6_2))).bind fun bt747=>(if 0≤x6_2 then (if x6_2 < (x740001_2.length:Int) then (if 0≤(wrap64 ((wrap64 ((y730.length:Int) - 1)) - x6_2)) then (if (wrap64 ((wrap64 ((y730.length:Int) - 1)) - x6_2)) < (x740001_2.length:Int) then (if (wrap64 ((rd x740001_2 x6_2) + (rd x740001_2 (wrap64 ((wrap64 ((y730.length:Int) - 1)) - x6_2))))) > 0 then ((spec_l10One.f k2 bt747.1 bt747.2.1 bt747.2.2).bind fun t757=>(if t757=true then (spec_MakeEven.l0 k2 (wrap64 ((y730.length:Int) - 1)) (wrap64 (x6_2 + 1)) bt747.1 bt747.2.1 bt747.2.2) else (spec_MakeEven.l0 k2 (wrap64 ((y730.length:Int) - 1)) (wrap64 (x6_2 + 1)) x740000_2 x740001_2 x740002_2))) else (spec_MakeEven.l0 k2 (wrap64 ((y730.length:Int) - 1)) (wrap64 (x6_2 + 1)) x740000_2 x740001_2 x740002_2)) else (none)) else (none)) else (none)) else (none)))=some (r1,r2,r3,r4):=H
   replace H:=ybi H;obtain ⟨⟨t747,t748,t751⟩,A49,H⟩:=H
   replace H:(if 0≤x6_2 then (if x6_2 < (x740001_2.length:Int) then (if 0≤(wrap64 ((wrap64 ((y730.length:Int) - 1)) - x6_2)) then (if (wrap64 ((wrap64 ((y730.length:Int) - 1)) - x6_2)) < (x740001_2.length:Int) then (if (wrap64 ((rd x740001_2 x6_2) + (rd x740001_2 (wrap64 ((wrap64 ((y730.length:Int) - 1)) - x6_2))))) > 0 then ((spec_l10One.f k2 t747 t748 t751).bind fun t757=>(if t757=true then (spec_MakeEven.l0 k2 (wrap64 ((y730.length:Int) - 1)) (wrap64 (x6_2 + 1)) t747 t748 t751) else (spec_MakeEven.l0 k2 (wrap64 ((y730.length:Int) - 1)) (wrap64 (x6_2 + 1)) x740000_2 x740001_2 x740002_2))) else (spec_MakeEven.l0 k2 (wrap64 ((y730.length:Int) - 1)) (wrap64 (x6_2 + 1)) x740000_2 x740001_2 x740002_2)) else (none)) else (none)) else (none)) else (none))=some (r1,r2,r3,r4):=H
   replace H:=yif H;obtain ⟨c50b0,H⟩:=H
   replace H:=yif H;obtain ⟨c51b0,H⟩:=H
   obtain ⟨ji52,hji52⟩:∃ j_:Int,(wrap64 ((wrap64 ((y730.length:Int) - 1)) - x6_2))=j_:=⟨_,rfl⟩
   replace H:(if 0≤(ji52) then (if (ji52) < (x740001_2.length:Int) then (if (wrap64 ((rd x740001_2 x6_2) + (rd x740001_2 (ji52)))) > 0 then ((spec_l10One.f k2 t747 t748 t751).bind fun t757=>(if t757=true then (spec_MakeEven.l0 k2 (wrap64 ((y730.length:Int) - 1)) (wrap64 (x6_2 + 1)) t747 t748 t751) else (spec_MakeEven.l0 k2 (wrap64 ((y730.length:Int) - 1)) (wrap64 (x6_2 + 1)) x740000_2 x740001_2 x740002_2))) else (spec_MakeEven.l0 k2 (wrap64 ((y730.length:Int) - 1)) (wrap64 (x6_2 + 1)) x740000_2 x740001_2 x740002_2)) else (none)) else (none))=some (r1,r2,r3,r4):=by first|(rw [hji52] at H;exact H)|(simp only [hji52] at H ⊢;exact H)
   (try rw [hji52] at c47b0)
   (try rw [hji52] at A48)
   (try rw [hji52] at A49)
   have hji52w:(IntKind.i64.wrap ((wrap64 ((y730.length:Int) - 1)) - x6_2))=ji52:=(i64_w _).trans hji52
   replace H:=yif H;obtain ⟨c53b0,H⟩:=H
   replace H:=yif H;obtain ⟨c54b0,H⟩:=H
   replace H:=yis H;obtain ⟨c55b0,H⟩ | ⟨c55b0,H⟩:=H
   rotate_left
   ·replace H:=yam H
    have hnb98:=NB739_716.out
    have hnc98:=NB716_739.out
    have hnb99:=NB739_717.out
    have hnc99:=NB717_739.out
    obtain ⟨hcz100_0,hcz100_1,hcz100_2,hfz100_0,hfz100_1,hfz100_2⟩:=ybc BK739.out
    obtain ⟨Ao101,co101,eo101⟩:=Kd.R_slice HO_740001.out
    subst eo101
    obtain ⟨Ao102,co102,eo102⟩:=Kd.V_slice HO_740002.out
    subst eo102
    try go_wp2_with (first|(refine goesL_ (some 43) rfl rfl Try.func67 (by kernel_rfl) rfl #[.agg #[.int .i64 x740000_2,.slice Ao101 x740001_2.length co101,.slice Ao102 x740002_2.length co102],.int .i64 x6_2] rfl ymd ?_;(with_reducible refine (spec_l10Without.calls x740000_2 _ _ x740001_2 (fun k_=>((w.heap.size≤k_)∧(some k_≠(.slice Ao10 t719.length co10:Value).ownBlock∧(some k_≠(.slice Ao101 x740001_2.length co101:Value).ownBlock∧(k_≠gb716∧(k_≠gb717∧k_≠gb739)))))) _ _ x740002_2 x6_2 t740 t741 t744 _ ?_ ?_ ?_ A48.out).mono ?_);exact Kd.Cz (Kd.Yr HO_740001.out).2.2;exact (Kd.Yr HO_740001.out).2.1;exact HO_740002.out;rintro e w103 ⟨v742,v745,rfl,ho0,ho1,hb⟩;refine ⟨_,rfl,?_⟩;replace HO_717002:=yam (Kd.N_elder' (by (with_reducible repeat (first|apply Kd.N_alloc|apply Kd.N_drewN|apply Kd.N_drew));exact HO_717002.out) (Kd.Yb ho0) hb);replace HO_740002:=yam (Kd.V_elder' (by (with_reducible repeat (first|apply Kd.V_alloc|apply Kd.V_drewN|apply Kd.V_drew));exact HO_740002.out) (Kd.Yb ho0) hb);have HO743:=yam (Kd.R_lower (Kd.Yw (Kd.Yw (Kd.R_newM (M:=fun k_=>(w.heap.size≤k_)) (Kd.R_mono (ok':=fun k_=>True) ho0 (fun _ hk_=>trivial)) (below_size yhb) (fun k_ h_=>h_)) (Kd.R_lt (Kd.Yz HO_717001.out))) (Kd.R_lt (Kd.Yz HO_740001.out))) (below_size yhb));have HO746:=yam (Kd.V_lower (Kd.V_mono (ok':=fun k_=>(w.heap.size≤k_)∧some k_≠(v742:Value).ownBlock∧some k_≠(.slice Ao10 t719.length co10:Value).ownBlock∧some k_≠(.slice Ao101 x740001_2.length co101:Value).ownBlock∧k_≠gb716∧k_≠gb717∧k_≠gb739) ho1 (fun k_ hk_=>⟨Or.elim hk_.1 (fun hs_=>hs_.1) (fun hn_=>(Nat.le_trans (below_size yhb) hn_)),hk_.2,Or.elim hk_.1 (fun hs_=>hs_.2.1) (fun hn_=>(Kd.fresh' (Kd.R_lt (Kd.Yz HO_717001.out)) k_ hn_)),Or.elim hk_.1 (fun hs_=>hs_.2.2.1) (fun hn_=>(Kd.fresh' (Kd.R_lt (Kd.Yz HO_740001.out)) k_ hn_)),Or.elim hk_.1 (fun hs_=>hs_.2.2.2.1) (fun hn_=>(Kd.freshB (g:=gb716) (o:= .cells #[.int .i64 t718,.slice Ao10 t719.length co10,.slice Ao11 t722.length co11] 37 (0,0)) (ybz BK716.out) k_ hn_)),Or.elim hk_.1 (fun hs_=>hs_.2.2.2.2.1) (fun hn_=>(Kd.freshB (g:=gb717) (o:= .cells #[.int .i64 0,.slice none 0 0,.slice none 0 0] 37 (0,0)) (ybz BK717.out) k_ hn_)),Or.elim hk_.1 (fun hs_=>hs_.2.2.2.2.2) (fun hn_=>(Kd.freshB (g:=gb739) (o:= .cells #[.int .i64 x740000_2,.slice Ao101 x740001_2.length co101,.slice Ao102 x740002_2.length co102] 37 (0,0)) (ybz BK739.out) k_ hn_))⟩)) (below_size yhb));replace HO_717001:=yam (Kd.Ye (Kd.Yz HO_717001.out) (Kd.Yb ho0) hb);replace HO_740001:=yam (Kd.Ye (Kd.Yz HO_740001.out) (Kd.Yb ho0) hb);replace BK716:=yam (ybb BK716.out hb);replace BK717:=yam (ybb BK717.out hb);replace BK739:=yam (ybb BK739.out hb);replace HB:=yam (below_step yhb hb);(try clear hb);(try clear ho0);(try clear ho1);obtain ⟨Ao104,co104,eo104⟩:=Kd.R_slice HO743.out;subst eo104;obtain ⟨Ao105,co105,eo105⟩:=Kd.V_slice HO746.out;subst eo105)|(refine goesL_ (some 47) rfl rfl Try.func67 (by kernel_rfl) rfl #[.agg #[.int .i64 t740,.slice Ao104 t741.length co104,.slice Ao105 t744.length co105],.int .i64 ji52] rfl (by (try simp only [List.map_toArray,List.map_cons,List.map_nil]);first|done|(simp only [hji52];rfl)|rfl|(simp only [List.length_drop,List.length_take];rfl)) ?_;(with_reducible refine (spec_l10Without.calls t740 _ _ t741 (fun k_=>((w.heap.size≤k_)∧(some k_≠(.slice Ao104 t741.length co104:Value).ownBlock∧(some k_≠(.slice Ao10 t719.length co10:Value).ownBlock∧(some k_≠(.slice Ao101 x740001_2.length co101:Value).ownBlock∧(k_≠gb716∧(k_≠gb717∧k_≠gb739))))))) _ _ t744 ji52 t747 t748 t751 _ ?_ ?_ ?_ A49.out).mono ?_);exact Kd.Cz (Kd.Yr HO743.out).2.2;exact (Kd.Yr HO743.out).2.1;exact HO746.out;rintro e w106 ⟨v749,v752,rfl,ho0,ho1,hb⟩;refine ⟨_,rfl,?_⟩;replace HO_717002:=yam (Kd.N_elder' (by (with_reducible repeat (first|apply Kd.N_alloc|apply Kd.N_drewN|apply Kd.N_drew));exact HO_717002.out) (Kd.Yb ho0) hb);replace HO_740002:=yam (Kd.V_elder' (by (with_reducible repeat (first|apply Kd.V_alloc|apply Kd.V_drewN|apply Kd.V_drew));exact HO_740002.out) (Kd.Yb ho0) hb);replace HO746:=yam (Kd.V_elder' (by (with_reducible repeat (first|apply Kd.V_alloc|apply Kd.V_drewN|apply Kd.V_drew));exact HO746.out) (Kd.Yb ho0) hb);have HO750:=yam (Kd.R_lower (Kd.Yw (Kd.Yw (Kd.Yw (Kd.R_newM (M:=fun k_=>(w.heap.size≤k_)) (Kd.R_mono (ok':=fun k_=>True) ho0 (fun _ hk_=>trivial)) (below_size yhb) (fun k_ h_=>h_)) (Kd.R_lt (Kd.Yz HO_717001.out))) (Kd.R_lt (Kd.Yz HO_740001.out))) (Kd.R_lt (Kd.Yz HO743.out))) (below_size yhb));have HO753:=yam (Kd.V_lower (Kd.V_mono (ok':=fun k_=>(w.heap.size≤k_)∧some k_≠(v749:Value).ownBlock∧some k_≠(.slice Ao10 t719.length co10:Value).ownBlock∧some k_≠(.slice Ao101 x740001_2.length co101:Value).ownBlock∧some k_≠(.slice Ao104 t741.length co104:Value).ownBlock∧k_≠gb716∧k_≠gb717∧k_≠gb739) ho1 (fun k_ hk_=>⟨Or.elim hk_.1 (fun hs_=>hs_.1) (fun hn_=>(Nat.le_trans (below_size yhb) hn_)),hk_.2,Or.elim hk_.1 (fun hs_=>hs_.2.2.1) (fun hn_=>(Kd.fresh' (Kd.R_lt (Kd.Yz HO_717001.out)) k_ hn_)),Or.elim hk_.1 (fun hs_=>hs_.2.2.2.1) (fun hn_=>(Kd.fresh' (Kd.R_lt (Kd.Yz HO_740001.out)) k_ hn_)),Or.elim hk_.1 (fun hs_=>hs_.2.1) (fun hn_=>(Kd.fresh' (Kd.R_lt (Kd.Yz HO743.out)) k_ hn_)),Or.elim hk_.1 (fun hs_=>hs_.2.2.2.2.1) (fun hn_=>(Kd.freshB (g:=gb716) (o:= .cells #[.int .i64 t718,.slice Ao10 t719.length co10,.slice Ao11 t722.length co11] 37 (0,0)) (ybz BK716.out) k_ hn_)),Or.elim hk_.1 (fun hs_=>hs_.2.2.2.2.2.1) (fun hn_=>(Kd.freshB (g:=gb717) (o:= .cells #[.int .i64 0,.slice none 0 0,.slice none 0 0] 37 (0,0)) (ybz BK717.out) k_ hn_)),Or.elim hk_.1 (fun hs_=>hs_.2.2.2.2.2.2) (fun hn_=>(Kd.freshB (g:=gb739) (o:= .cells #[.int .i64 x740000_2,.slice Ao101 x740001_2.length co101,.slice Ao102 x740002_2.length co102] 37 (0,0)) (ybz BK739.out) k_ hn_))⟩)) (below_size yhb));replace HO_717001:=yam (Kd.Ye (Kd.Yz HO_717001.out) (Kd.Yb ho0) hb);replace HO_740001:=yam (Kd.Ye (Kd.Yz HO_740001.out) (Kd.Yb ho0) hb);replace HO743:=yam (Kd.Ye (Kd.Yz HO743.out) (Kd.Yb ho0) hb);replace BK716:=yam (ybb BK716.out hb);replace BK717:=yam (ybb BK717.out hb);replace BK739:=yam (ybb BK739.out hb);replace HB:=yam (below_step yhb hb);(try clear hb);(try clear ho0);(try clear ho1))|(refine ybe 7 #[.int .i64 0,.slice none 0 0,.slice none 0 0] 37 ?_;intro gb754 hg w107 hbox hb;replace HO_717001:=yam (Kd.R_below (Kd.Yz HO_717001.out) hb);replace HO_717002:=yam (Kd.N_below (Kd.N_elderB (by (with_reducible repeat (first|apply Kd.N_alloc|apply Kd.N_drewN|apply Kd.N_drew));exact HO_717002.out) gb754 (Nat.le_of_eq hg.symm)) hb);replace HO_740001:=yam (Kd.R_below (Kd.Yz HO_740001.out) hb);replace HO_740002:=yam (Kd.V_below (Kd.V_elderB (by (with_reducible repeat (first|apply Kd.V_alloc|apply Kd.V_drewN|apply Kd.V_drew));exact HO_740002.out) gb754 (Nat.le_of_eq hg.symm)) hb);replace HO743:=yam (Kd.R_below (Kd.Yz HO743.out) hb);replace HO746:=yam (Kd.V_below (Kd.V_elderB (by (with_reducible repeat (first|apply Kd.V_alloc|apply Kd.V_drewN|apply Kd.V_drew));exact HO746.out) gb754 (Nat.le_of_eq hg.symm)) hb);replace HO750:=yam (Kd.R_below (Kd.Yz HO750.out) hb);replace HO753:=yam (Kd.V_below (Kd.V_elderB (by (with_reducible repeat (first|apply Kd.V_alloc|apply Kd.V_drewN|apply Kd.V_drew));exact HO753.out) gb754 (Nat.le_of_eq hg.symm)) hb);have BK754:=yam (hbox);have GW754:=yam ((by rw [hg];exact (below_size yhb):w.heap.size≤gb754));replace HB:=yam (below_step yhb hb);have GE754:=GW754;have NB716_754:=yam ((by rw [hg];exact Nat.ne_of_lt (blk_lt (g:=gb716) (o:= .cells #[.int .i64 t718,.slice Ao10 t719.length co10,.slice Ao11 t722.length co11] 37 (0,0)) (ybz BK716.out)):gb716≠gb754));have NB754_716:=yam ((by rw [hg];exact Nat.ne_of_gt (blk_lt (g:=gb716) (o:= .cells #[.int .i64 t718,.slice Ao10 t719.length co10,.slice Ao11 t722.length co11] 37 (0,0)) (ybz BK716.out)):gb754≠gb716));replace BK716:=yam (ybb BK716.out hb);have NB717_754:=yam ((by rw [hg];exact Nat.ne_of_lt (blk_lt (g:=gb717) (o:= .cells #[.int .i64 0,.slice none 0 0,.slice none 0 0] 37 (0,0)) (ybz BK717.out)):gb717≠gb754));have NB754_717:=yam ((by rw [hg];exact Nat.ne_of_gt (blk_lt (g:=gb717) (o:= .cells #[.int .i64 0,.slice none 0 0,.slice none 0 0] 37 (0,0)) (ybz BK717.out)):gb754≠gb717));replace BK717:=yam (ybb BK717.out hb);have NB739_754:=yam ((by rw [hg];exact Nat.ne_of_lt (blk_lt (g:=gb739) (o:= .cells #[.int .i64 x740000_2,.slice Ao101 x740001_2.length co101,.slice Ao102 x740002_2.length co102] 37 (0,0)) (ybz BK739.out)):gb739≠gb754));have NB754_739:=yam ((by rw [hg];exact Nat.ne_of_gt (blk_lt (g:=gb739) (o:= .cells #[.int .i64 x740000_2,.slice Ao101 x740001_2.length co101,.slice Ao102 x740002_2.length co102] 37 (0,0)) (ybz BK739.out)):gb754≠gb739));replace BK739:=yam (ybb BK739.out hb);clear hb hbox hg;have hnb108:=NB754_716.out;have hnc108:=NB716_754.out;have hnb109:=NB754_717.out;have hnc109:=NB717_754.out;have hnb110:=NB754_739.out;have hnc110:=NB739_754.out;obtain ⟨hcz111_0,hcz111_1,hcz111_2,hfz111_0,hfz111_1,hfz111_2⟩:=ybc BK754.out;obtain ⟨Ao112,co112,eo112⟩:=Kd.R_slice HO750.out;subst eo112;obtain ⟨Ao113,co113,eo113⟩:=Kd.V_slice HO753.out;subst eo113))
    have n0_:Aside0 (Kd.R (Kd.int .i64) 3 (((w107.setCell ⟨gb754,0,none⟩ (.int .i64 t747)).setCell ⟨gb754,1,none⟩ (.slice Ao112 t748.length co112)).setCell ⟨gb754,2,none⟩ (.slice Ao113 t751.length co113)) w.heap.size (fun k_=>(w.heap.size≤k_)∧some k_≠(.slice Ao101 x740001_2.length co101:Value).ownBlock∧some k_≠(.slice Ao104 t741.length co104:Value).ownBlock∧some k_≠(.slice Ao112 t748.length co112:Value).ownBlock) (.slice Ao10 t719.length co10) t719):=⟨by (with_reducible repeat (first|apply Kd.Ya|apply Kd.Yn|apply Kd.Yd));exact Kd.R_mono (Kd.R_far (p:=⟨gb754,2,none⟩) (Kd.R_far (p:=⟨gb754,1,none⟩) (Kd.R_far (p:=⟨gb754,0,none⟩) (Kd.R_types HO_717001.out BK754.out (by decide)) (fun _ hk=>hk.2) (.int .i64 t747)) (fun _ hk=>hk.2) (.slice Ao112 t748.length co112)) (fun _ hk=>hk.2) (.slice Ao113 t751.length co113)) (fun _ hk=>⟨hk.1.1.1.1,⟨hk.1.1.1.2,⟨hk.1.1.2,hk.1.2⟩⟩⟩)⟩
    have n1_:Aside0 (Kd.N k73 73 (((w107.setCell ⟨gb754,0,none⟩ (.int .i64 t747)).setCell ⟨gb754,1,none⟩ (.slice Ao112 t748.length co112)).setCell ⟨gb754,2,none⟩ (.slice Ao113 t751.length co113)) w.heap.size (fun k_=>(w.heap.size≤k_)∧some k_≠(.slice Ao10 t719.length co10:Value).ownBlock∧some k_≠(.slice Ao101 x740001_2.length co101:Value).ownBlock∧some k_≠(.slice Ao104 t741.length co104:Value).ownBlock∧some k_≠(.slice Ao112 t748.length co112:Value).ownBlock∧k_≠gb716∧k_≠gb717∧k_≠gb739∧k_≠gb754) (.slice Ao11 t722.length co11) t722):=⟨by (with_reducible repeat (first|apply Kd.N_alloc|apply Kd.N_drewN|apply Kd.N_drew));exact Kd.N_mono (Kd.N_far (p:=⟨gb754,2,none⟩) (Kd.N_far (p:=⟨gb754,1,none⟩) (Kd.N_far (p:=⟨gb754,0,none⟩) (Kd.N_mono HO_717002.out (fun k_ hk=>(⟨hk,hk.2⟩:_∧k_≠gb754))) (fun _ hk=>hk.2) (.int .i64 t747)) (fun _ hk=>hk.2) (.slice Ao112 t748.length co112)) (fun _ hk=>hk.2) (.slice Ao113 t751.length co113)) (fun _ hk=>⟨hk.1.1.1.1.1,⟨hk.1.1.1.1.2.1,⟨hk.1.1.1.1.2.2.1,⟨hk.1.1.1.2,⟨hk.1.1.2,⟨hk.1.1.1.1.2.2.2.1,⟨hk.1.1.1.1.2.2.2.2.1,⟨hk.1.1.1.1.2.2.2.2.2,hk.1.2⟩⟩⟩⟩⟩⟩⟩⟩)⟩
    have n2_:Aside0 (Kd.R (Kd.int .i64) 3 (((w107.setCell ⟨gb754,0,none⟩ (.int .i64 t747)).setCell ⟨gb754,1,none⟩ (.slice Ao112 t748.length co112)).setCell ⟨gb754,2,none⟩ (.slice Ao113 t751.length co113)) w.heap.size (fun k_=>(w.heap.size≤k_)∧some k_≠(.slice Ao10 t719.length co10:Value).ownBlock∧some k_≠(.slice Ao104 t741.length co104:Value).ownBlock∧some k_≠(.slice Ao112 t748.length co112:Value).ownBlock) (.slice Ao101 x740001_2.length co101) x740001_2):=⟨by (with_reducible repeat (first|apply Kd.Ya|apply Kd.Yn|apply Kd.Yd));exact Kd.R_mono (Kd.R_far (p:=⟨gb754,2,none⟩) (Kd.R_far (p:=⟨gb754,1,none⟩) (Kd.R_far (p:=⟨gb754,0,none⟩) (Kd.R_types HO_740001.out BK754.out (by decide)) (fun _ hk=>hk.2) (.int .i64 t747)) (fun _ hk=>hk.2) (.slice Ao112 t748.length co112)) (fun _ hk=>hk.2) (.slice Ao113 t751.length co113)) (fun _ hk=>⟨hk.1.1.1.1,⟨hk.1.1.1.2,⟨hk.1.1.2,hk.1.2⟩⟩⟩)⟩
    have n3_:Aside0 (Kd.V k73 73 (((w107.setCell ⟨gb754,0,none⟩ (.int .i64 t747)).setCell ⟨gb754,1,none⟩ (.slice Ao112 t748.length co112)).setCell ⟨gb754,2,none⟩ (.slice Ao113 t751.length co113)) w.heap.size (fun k_=>(w.heap.size≤k_)∧some k_≠(.slice Ao10 t719.length co10:Value).ownBlock∧some k_≠(.slice Ao101 x740001_2.length co101:Value).ownBlock∧some k_≠(.slice Ao104 t741.length co104:Value).ownBlock∧some k_≠(.slice Ao112 t748.length co112:Value).ownBlock∧k_≠gb716∧k_≠gb717∧k_≠gb739∧k_≠gb754) (.slice Ao102 x740002_2.length co102) x740002_2):=⟨by (with_reducible repeat (first|apply Kd.V_alloc|apply Kd.V_drewN|apply Kd.V_drew));exact Kd.V_mono (Kd.V_far (p:=⟨gb754,2,none⟩) (Kd.V_far (p:=⟨gb754,1,none⟩) (Kd.V_far (p:=⟨gb754,0,none⟩) (Kd.V_mono HO_740002.out (fun k_ hk=>(⟨hk,hk.2⟩:_∧k_≠gb754))) (fun _ hk=>hk.2) (.int .i64 t747)) (fun _ hk=>hk.2) (.slice Ao112 t748.length co112)) (fun _ hk=>hk.2) (.slice Ao113 t751.length co113)) (fun _ hk=>⟨hk.1.1.1.1.1,⟨hk.1.1.1.1.2.1,⟨hk.1.1.1.1.2.2.1,⟨hk.1.1.1.2,⟨hk.1.1.2,⟨hk.1.1.1.1.2.2.2.1,⟨hk.1.1.1.1.2.2.2.2.1,⟨hk.1.1.1.1.2.2.2.2.2,hk.1.2⟩⟩⟩⟩⟩⟩⟩⟩)⟩
    have n4_:Aside0 (Kd.R (Kd.int .i64) 3 (((w107.setCell ⟨gb754,0,none⟩ (.int .i64 t747)).setCell ⟨gb754,1,none⟩ (.slice Ao112 t748.length co112)).setCell ⟨gb754,2,none⟩ (.slice Ao113 t751.length co113)) w.heap.size (fun k_=>(w.heap.size≤k_)∧some k_≠(.slice Ao10 t719.length co10:Value).ownBlock∧some k_≠(.slice Ao101 x740001_2.length co101:Value).ownBlock∧some k_≠(.slice Ao112 t748.length co112:Value).ownBlock) (.slice Ao104 t741.length co104) t741):=⟨by (with_reducible repeat (first|apply Kd.Ya|apply Kd.Yn|apply Kd.Yd));exact Kd.R_mono (Kd.R_far (p:=⟨gb754,2,none⟩) (Kd.R_far (p:=⟨gb754,1,none⟩) (Kd.R_far (p:=⟨gb754,0,none⟩) (Kd.R_types HO743.out BK754.out (by decide)) (fun _ hk=>hk.2) (.int .i64 t747)) (fun _ hk=>hk.2) (.slice Ao112 t748.length co112)) (fun _ hk=>hk.2) (.slice Ao113 t751.length co113)) (fun _ hk=>⟨hk.1.1.1.1.1,⟨hk.1.1.1.2,⟨hk.1.1.2,hk.1.2⟩⟩⟩)⟩
    have n5_:Aside0 (Kd.V k73 73 (((w107.setCell ⟨gb754,0,none⟩ (.int .i64 t747)).setCell ⟨gb754,1,none⟩ (.slice Ao112 t748.length co112)).setCell ⟨gb754,2,none⟩ (.slice Ao113 t751.length co113)) w.heap.size (fun k_=>(w.heap.size≤k_)∧some k_≠(.slice Ao10 t719.length co10:Value).ownBlock∧some k_≠(.slice Ao101 x740001_2.length co101:Value).ownBlock∧some k_≠(.slice Ao104 t741.length co104:Value).ownBlock∧some k_≠(.slice Ao112 t748.length co112:Value).ownBlock∧k_≠gb716∧k_≠gb717∧k_≠gb739∧k_≠gb754) (.slice Ao105 t744.length co105) t744):=⟨by (with_reducible repeat (first|apply Kd.V_alloc|apply Kd.V_drewN|apply Kd.V_drew));exact Kd.V_mono (Kd.V_far (p:=⟨gb754,2,none⟩) (Kd.V_far (p:=⟨gb754,1,none⟩) (Kd.V_far (p:=⟨gb754,0,none⟩) (Kd.V_mono HO746.out (fun k_ hk=>(⟨hk,hk.2⟩:_∧k_≠gb754))) (fun _ hk=>hk.2) (.int .i64 t747)) (fun _ hk=>hk.2) (.slice Ao112 t748.length co112)) (fun _ hk=>hk.2) (.slice Ao113 t751.length co113)) (fun _ hk=>⟨hk.1.1.1.1,⟨hk.1.1.1.2.2.1,⟨hk.1.1.1.2.2.2.1,⟨hk.1.1.1.2.1,⟨hk.1.1.2,⟨hk.1.1.1.2.2.2.2.1,⟨hk.1.1.1.2.2.2.2.2.1,⟨hk.1.1.1.2.2.2.2.2.2,hk.1.2⟩⟩⟩⟩⟩⟩⟩⟩)⟩
    have n6_:Aside0 (Kd.R (Kd.int .i64) 3 (((w107.setCell ⟨gb754,0,none⟩ (.int .i64 t747)).setCell ⟨gb754,1,none⟩ (.slice Ao112 t748.length co112)).setCell ⟨gb754,2,none⟩ (.slice Ao113 t751.length co113)) w.heap.size (fun k_=>(w.heap.size≤k_)∧some k_≠(.slice Ao10 t719.length co10:Value).ownBlock∧some k_≠(.slice Ao101 x740001_2.length co101:Value).ownBlock∧some k_≠(.slice Ao104 t741.length co104:Value).ownBlock) (.slice Ao112 t748.length co112) t748):=⟨by (with_reducible repeat (first|apply Kd.Ya|apply Kd.Yn|apply Kd.Yd));exact Kd.R_mono (Kd.R_far (p:=⟨gb754,2,none⟩) (Kd.R_far (p:=⟨gb754,1,none⟩) (Kd.R_far (p:=⟨gb754,0,none⟩) (Kd.R_types HO750.out BK754.out (by decide)) (fun _ hk=>hk.2) (.int .i64 t747)) (fun _ hk=>hk.2) (.slice Ao112 t748.length co112)) (fun _ hk=>hk.2) (.slice Ao113 t751.length co113)) (fun _ hk=>⟨hk.1.1.1.1.1,⟨hk.1.1.1.2,⟨hk.1.1.2,hk.1.2⟩⟩⟩)⟩
    have n7_:Aside0 (Kd.V k73 73 (((w107.setCell ⟨gb754,0,none⟩ (.int .i64 t747)).setCell ⟨gb754,1,none⟩ (.slice Ao112 t748.length co112)).setCell ⟨gb754,2,none⟩ (.slice Ao113 t751.length co113)) w.heap.size (fun k_=>(w.heap.size≤k_)∧some k_≠(.slice Ao10 t719.length co10:Value).ownBlock∧some k_≠(.slice Ao101 x740001_2.length co101:Value).ownBlock∧some k_≠(.slice Ao104 t741.length co104:Value).ownBlock∧some k_≠(.slice Ao112 t748.length co112:Value).ownBlock∧k_≠gb716∧k_≠gb717∧k_≠gb739∧k_≠gb754) (.slice Ao113 t751.length co113) t751):=⟨by (with_reducible repeat (first|apply Kd.V_alloc|apply Kd.V_drewN|apply Kd.V_drew));exact Kd.V_mono (Kd.V_far (p:=⟨gb754,2,none⟩) (Kd.V_far (p:=⟨gb754,1,none⟩) (Kd.V_far (p:=⟨gb754,0,none⟩) (Kd.V_mono HO753.out (fun k_ hk=>(⟨hk,hk.2⟩:_∧k_≠gb754))) (fun _ hk=>hk.2) (.int .i64 t747)) (fun _ hk=>hk.2) (.slice Ao112 t748.length co112)) (fun _ hk=>hk.2) (.slice Ao113 t751.length co113)) (fun _ hk=>⟨hk.1.1.1,⟨hk.1.1.2.2.1,⟨hk.1.1.2.2.2.1,⟨hk.1.1.2.2.2.2.1,⟨hk.1.1.2.1,⟨hk.1.1.2.2.2.2.2.1,⟨hk.1.1.2.2.2.2.2.2.1,⟨hk.1.1.2.2.2.2.2.2.2,hk.1.2⟩⟩⟩⟩⟩⟩⟩⟩)⟩
    have n8_:Aside0 ((((w107.setCell ⟨gb754,0,none⟩ (.int .i64 t747)).setCell ⟨gb754,1,none⟩ (.slice Ao112 t748.length co112)).setCell ⟨gb754,2,none⟩ (.slice Ao113 t751.length co113)).heap[gb716]?=some (.cells #[.int .i64 t718,.slice Ao10 t719.length co10,.slice Ao11 t722.length co11] 37 (0,0))):=⟨by (with_reducible repeat (first|refine ybn ?_ _|refine ybd ?_|refine yba ?_ _));refine blk_far ?_ NB716_754.out _;(with_reducible repeat (first|refine ybn ?_ _|refine ybd ?_|refine yba ?_ _));refine blk_far ?_ NB716_754.out _;(with_reducible repeat (first|refine ybn ?_ _|refine ybd ?_|refine yba ?_ _));refine blk_far ?_ NB716_754.out _;(with_reducible repeat (first|refine ybn ?_ _|refine ybd ?_|refine yba ?_ _));exact BK716.out⟩
    have n9_:Aside0 ((((w107.setCell ⟨gb754,0,none⟩ (.int .i64 t747)).setCell ⟨gb754,1,none⟩ (.slice Ao112 t748.length co112)).setCell ⟨gb754,2,none⟩ (.slice Ao113 t751.length co113)).heap[gb717]?=some (.cells #[.int .i64 0,.slice none 0 0,.slice none 0 0] 37 (0,0))):=⟨by (with_reducible repeat (first|refine ybn ?_ _|refine ybd ?_|refine yba ?_ _));refine blk_far ?_ NB717_754.out _;(with_reducible repeat (first|refine ybn ?_ _|refine ybd ?_|refine yba ?_ _));refine blk_far ?_ NB717_754.out _;(with_reducible repeat (first|refine ybn ?_ _|refine ybd ?_|refine yba ?_ _));refine blk_far ?_ NB717_754.out _;(with_reducible repeat (first|refine ybn ?_ _|refine ybd ?_|refine yba ?_ _));exact BK717.out⟩
    have n10_:Aside0 ((((w107.setCell ⟨gb754,0,none⟩ (.int .i64 t747)).setCell ⟨gb754,1,none⟩ (.slice Ao112 t748.length co112)).setCell ⟨gb754,2,none⟩ (.slice Ao113 t751.length co113)).heap[gb739]?=some (.cells #[.int .i64 x740000_2,.slice Ao101 x740001_2.length co101,.slice Ao102 x740002_2.length co102] 37 (0,0))):=⟨by (with_reducible repeat (first|refine ybn ?_ _|refine ybd ?_|refine yba ?_ _));refine blk_far ?_ NB739_754.out _;(with_reducible repeat (first|refine ybn ?_ _|refine ybd ?_|refine yba ?_ _));refine blk_far ?_ NB739_754.out _;(with_reducible repeat (first|refine ybn ?_ _|refine ybd ?_|refine yba ?_ _));refine blk_far ?_ NB739_754.out _;(with_reducible repeat (first|refine ybn ?_ _|refine ybd ?_|refine yba ?_ _));exact BK739.out⟩
    have n11_:Aside0 ((((w107.setCell ⟨gb754,0,none⟩ (.int .i64 t747)).setCell ⟨gb754,1,none⟩ (.slice Ao112 t748.length co112)).setCell ⟨gb754,2,none⟩ (.slice Ao113 t751.length co113)).heap[gb754]?=some (.cells #[.int .i64 t747,.slice Ao112 t748.length co112,.slice Ao113 t751.length co113] 37 (0,0))):=⟨by (with_reducible repeat (first|refine ybn ?_ _|refine ybd ?_|refine yba ?_ _));refine blk_put (cs:= #[.int .i64 t747,.slice Ao112 t748.length co112,.slice none 0 0]) ?_ 2 _ rfl;(with_reducible repeat (first|refine ybn ?_ _|refine ybd ?_|refine yba ?_ _));refine blk_put (cs:= #[.int .i64 t747,.slice none 0 0,.slice none 0 0]) ?_ 1 _ rfl;(with_reducible repeat (first|refine ybn ?_ _|refine ybd ?_|refine yba ?_ _));refine blk_put (cs:= #[.int .i64 0,.slice none 0 0,.slice none 0 0]) ?_ 0 _ rfl;(with_reducible repeat (first|refine ybn ?_ _|refine ybd ?_|refine yba ?_ _));exact BK754.out⟩
    have n12_:Aside0 (Below w.heap.size w (((w107.setCell ⟨gb754,0,none⟩ (.int .i64 t747)).setCell ⟨gb754,1,none⟩ (.slice Ao112 t748.length co112)).setCell ⟨gb754,2,none⟩ (.slice Ao113 t751.length co113))):=⟨yhb⟩
    (try clear HO_717001)
    (try clear HO_717002)
    (try clear HO_740001)
    (try clear HO_740002)
    (try clear HO743)
    (try clear HO746)
    (try clear HO750)
    (try clear HO753)
    (try clear BK716)
    (try clear BK717)
    (try clear BK739)
    (try clear BK754)
    (try clear HB)
    generalize (((w107.setCell ⟨gb754,0,none⟩ (.int .i64 t747)).setCell ⟨gb754,1,none⟩ (.slice Ao112 t748.length co112)).setCell ⟨gb754,2,none⟩ (.slice Ao113 t751.length co113))=w114 at n0_ n1_ n2_ n3_ n4_ n5_ n6_ n7_ n8_ n9_ n10_ n11_ n12_ ⊢
    have HO_717001:=n0_
    have HO_717002:=n1_
    have HO_740001:=n2_
    have HO_740002:=n3_
    have HO743:=n4_
    have HO746:=n5_
    have HO750:=n6_
    have HO753:=n7_
    have BK716:=n8_
    have BK717:=n9_
    have BK739:=n10_
    have BK754:=n11_
    have HB:=n12_
    clear n0_ n1_ n2_ n3_ n4_ n5_ n6_ n7_ n8_ n9_ n10_ n11_ n12_
    replace HO_717001:=yam (Kd.Yd HO_717001.out)
    replace HO_717002:=yam (Kd.N_drew HO_717002.out)
    replace HO_740001:=yam (Kd.Yd HO_740001.out)
    replace HO_740002:=yam (Kd.V_drew HO_740002.out)
    replace HO743:=yam (Kd.Yd HO743.out)
    replace HO746:=yam (Kd.V_drew HO746.out)
    replace HO750:=yam (Kd.Yd HO750.out)
    replace HO753:=yam (Kd.V_drew HO753.out)
    replace BK716:=yam (ybd BK716.out)
    replace BK717:=yam (ybd BK717.out)
    replace BK739:=yam (ybd BK739.out)
    replace BK754:=yam (ybd BK754.out)
    replace HB:=yam (yed HB.out)
    obtain ⟨ad755,e755,hx755_0,p755,q755⟩:=yat (Kd.Yr HO_740001.out).2.2 x6_2
    cases e755
    obtain ⟨ad756,e756,hx756_0,p756,q756⟩:=yat (Kd.Yr HO_740001.out).2.2 (ji52)
    obtain rfl:ad755=ad756:=(by injection e756)
    refine start_ (n:=18) (S:=fun w'=>w'.cell? ⟨gb739,0,none⟩=some (.int .i64 x740000_2)∧w'.cell? ⟨gb739,1,none⟩=some (.slice (some ad755) x740001_2.length co101)∧w'.cell? ⟨gb739,2,none⟩=some (.slice Ao102 x740002_2.length co102)∧w'.cell? (ad755.add (x6_2).toNat)=some (.int .i64 (rd x740001_2 x6_2))∧w'.cell? (ad755.add ((ji52)).toNat)=some (.int .i64 (rd x740001_2 (ji52)))) (ds:=[]) (yvb 18 0) (by kernel_rfl) rfl rfl ⟨(blk_cell BK739.out 0).trans rfl,(blk_cell BK739.out 1).trans rfl,(blk_cell BK739.out 2).trans rfl,hx755_0,hx756_0⟩ (fun hHeld=>?_);refine with_tabW spec_MakeEven.tab10 spec_MakeEven.bits10 (fun HT_ HW_=>?_)
    generalize w114.drew=w115 at HO_717001 HO_717002 HO_740001 HO_740002 HO743 HO746 HO750 HO753 BK716 BK717 BK739 BK754 HB hx755_0 hx756_0 hHeld ⊢
    refine yvp 0 48 (yvb 18 1) HT_.out ?_
    refine yvp 2 50 (yvb 18 5) HT_.out ?_
    refine yvp 5 53 (yvb 18 37) HT_.out ?_
    refine yvp 7 55 (yvb 18 165) HT_.out ?_
    refine yvp 8 56 (yvb 18 421) HT_.out ?_
    refine yvp 9 57 (yvb 18 933) HT_.out ?_
    refine yvt 1 49 (yvb 18 935) HT_.out HW_.out hHeld ?_
    refine yvp 3 51 (yvb 18 943) HT_.out ?_
    refine yvt 4 52 (yvb 18 959) HT_.out HW_.out hHeld ?_
    refine yvt 6 54 (yvb 18 1023) HT_.out HW_.out hHeld ?_
    refine yvp 10 58 (yvb 18 2047) HT_.out ?_
    refine yvt 11 59 (yvb 18 4095) HT_.out HW_.out hHeld ?_
    refine yvp 12 60 (yvb 18 8191) HT_.out ?_
    refine yvp 13 61 (yvb 18 16383) HT_.out ?_
    refine yvp 14 62 (yvb 18 32767) HT_.out ?_
    refine yvu 15 63 (yvb 18 65535) HT_.out ?_
    refine yvu 16 64 (yvb 18 131071) HT_.out ?_
    refine yvp 17 65 (yvb 18 262143) HT_.out ?_
    refine done_ (done_of HT_.out (by kernel_rfl)) ?_
    try go_wp2
    go_roundg k2
    case measure=>have:=HJ2.out;have:=HK2.out;omega
    case rel=>exact ⟨(wrap64 (x6_2 + 1)),(x740000_2),(x740001_2),(x740002_2),(.slice (some ad755) x740001_2.length co101),(.slice Ao102 x740002_2.length co102),yeq,H,⟨by have:=HJ2.out;have:=HK2.out;omega⟩,⟨by (with_reducible repeat (first|apply Kd.Ya|apply Kd.Yn|apply Kd.Yd));exact Kd.R_mono HO_717001.out (fun _ hk=>⟨hk.1,hk.2.1⟩)⟩,⟨by (with_reducible repeat (first|apply Kd.N_alloc|apply Kd.N_drewN|apply Kd.N_drew));exact Kd.N_mono HO_717002.out (fun _ hk=>⟨hk.1,⟨hk.2.1,⟨hk.2.2.1,⟨hk.2.2.2.2.2.1,⟨hk.2.2.2.2.2.2.1,hk.2.2.2.2.2.2.2.1⟩⟩⟩⟩⟩)⟩,⟨by (with_reducible repeat (first|apply Kd.Ya|apply Kd.Yn|apply Kd.Yd));exact Kd.R_mono HO_740001.out (fun _ hk=>⟨hk.1,hk.2.1⟩)⟩,⟨by (with_reducible repeat (first|apply Kd.V_alloc|apply Kd.V_drewN|apply Kd.V_drew));exact Kd.V_mono HO_740002.out (fun _ hk=>⟨hk.1,⟨hk.2.1,⟨hk.2.2.1,⟨hk.2.2.2.2.2.1,⟨hk.2.2.2.2.2.2.1,hk.2.2.2.2.2.2.2.1⟩⟩⟩⟩⟩)⟩,⟨ybk BK716.out⟩,⟨ybk BK717.out⟩,⟨ybk BK739.out⟩,⟨yhb⟩⟩
   replace H:=ybi H;obtain ⟨t757,A56,H⟩:=H
   replace H:(if t757=true then (spec_MakeEven.l0 k2 (wrap64 ((y730.length:Int) - 1)) (wrap64 (x6_2 + 1)) t747 t748 t751) else (spec_MakeEven.l0 k2 (wrap64 ((y730.length:Int) - 1)) (wrap64 (x6_2 + 1)) x740000_2 x740001_2 x740002_2))=some (r1,r2,r3,r4):=H
   cases t757
   ·replace H:=yff H
    replace H:=yam H
    have hnb79:=NB739_716.out
    have hnc79:=NB716_739.out
    have hnb80:=NB739_717.out
    have hnc80:=NB717_739.out
    obtain ⟨hcz81_0,hcz81_1,hcz81_2,hfz81_0,hfz81_1,hfz81_2⟩:=ybc BK739.out
    obtain ⟨Ao82,co82,eo82⟩:=Kd.R_slice HO_740001.out
    subst eo82
    obtain ⟨Ao83,co83,eo83⟩:=Kd.V_slice HO_740002.out
    subst eo83
    try go_wp2_with (first|(refine goesL_ (some 43) rfl rfl Try.func67 (by kernel_rfl) rfl #[.agg #[.int .i64 x740000_2,.slice Ao82 x740001_2.length co82,.slice Ao83 x740002_2.length co83],.int .i64 x6_2] rfl ymd ?_;(with_reducible refine (spec_l10Without.calls x740000_2 _ _ x740001_2 (fun k_=>((w.heap.size≤k_)∧(some k_≠(.slice Ao10 t719.length co10:Value).ownBlock∧(some k_≠(.slice Ao82 x740001_2.length co82:Value).ownBlock∧(k_≠gb716∧(k_≠gb717∧k_≠gb739)))))) _ _ x740002_2 x6_2 t740 t741 t744 _ ?_ ?_ ?_ A48.out).mono ?_);exact Kd.Cz (Kd.Yr HO_740001.out).2.2;exact (Kd.Yr HO_740001.out).2.1;exact HO_740002.out;rintro e w84 ⟨v742,v745,rfl,ho0,ho1,hb⟩;refine ⟨_,rfl,?_⟩;replace HO_717002:=yam (Kd.N_elder' (by (with_reducible repeat (first|apply Kd.N_alloc|apply Kd.N_drewN|apply Kd.N_drew));exact HO_717002.out) (Kd.Yb ho0) hb);replace HO_740002:=yam (Kd.V_elder' (by (with_reducible repeat (first|apply Kd.V_alloc|apply Kd.V_drewN|apply Kd.V_drew));exact HO_740002.out) (Kd.Yb ho0) hb);have HO743:=yam (Kd.R_lower (Kd.Yw (Kd.Yw (Kd.R_newM (M:=fun k_=>(w.heap.size≤k_)) (Kd.R_mono (ok':=fun k_=>True) ho0 (fun _ hk_=>trivial)) (below_size yhb) (fun k_ h_=>h_)) (Kd.R_lt (Kd.Yz HO_717001.out))) (Kd.R_lt (Kd.Yz HO_740001.out))) (below_size yhb));have HO746:=yam (Kd.V_lower (Kd.V_mono (ok':=fun k_=>(w.heap.size≤k_)∧some k_≠(v742:Value).ownBlock∧some k_≠(.slice Ao10 t719.length co10:Value).ownBlock∧some k_≠(.slice Ao82 x740001_2.length co82:Value).ownBlock∧k_≠gb716∧k_≠gb717∧k_≠gb739) ho1 (fun k_ hk_=>⟨Or.elim hk_.1 (fun hs_=>hs_.1) (fun hn_=>(Nat.le_trans (below_size yhb) hn_)),hk_.2,Or.elim hk_.1 (fun hs_=>hs_.2.1) (fun hn_=>(Kd.fresh' (Kd.R_lt (Kd.Yz HO_717001.out)) k_ hn_)),Or.elim hk_.1 (fun hs_=>hs_.2.2.1) (fun hn_=>(Kd.fresh' (Kd.R_lt (Kd.Yz HO_740001.out)) k_ hn_)),Or.elim hk_.1 (fun hs_=>hs_.2.2.2.1) (fun hn_=>(Kd.freshB (g:=gb716) (o:= .cells #[.int .i64 t718,.slice Ao10 t719.length co10,.slice Ao11 t722.length co11] 37 (0,0)) (ybz BK716.out) k_ hn_)),Or.elim hk_.1 (fun hs_=>hs_.2.2.2.2.1) (fun hn_=>(Kd.freshB (g:=gb717) (o:= .cells #[.int .i64 0,.slice none 0 0,.slice none 0 0] 37 (0,0)) (ybz BK717.out) k_ hn_)),Or.elim hk_.1 (fun hs_=>hs_.2.2.2.2.2) (fun hn_=>(Kd.freshB (g:=gb739) (o:= .cells #[.int .i64 x740000_2,.slice Ao82 x740001_2.length co82,.slice Ao83 x740002_2.length co83] 37 (0,0)) (ybz BK739.out) k_ hn_))⟩)) (below_size yhb));replace HO_717001:=yam (Kd.Ye (Kd.Yz HO_717001.out) (Kd.Yb ho0) hb);replace HO_740001:=yam (Kd.Ye (Kd.Yz HO_740001.out) (Kd.Yb ho0) hb);replace BK716:=yam (ybb BK716.out hb);replace BK717:=yam (ybb BK717.out hb);replace BK739:=yam (ybb BK739.out hb);replace HB:=yam (below_step yhb hb);(try clear hb);(try clear ho0);(try clear ho1);obtain ⟨Ao85,co85,eo85⟩:=Kd.R_slice HO743.out;subst eo85;obtain ⟨Ao86,co86,eo86⟩:=Kd.V_slice HO746.out;subst eo86)|(refine goesL_ (some 47) rfl rfl Try.func67 (by kernel_rfl) rfl #[.agg #[.int .i64 t740,.slice Ao85 t741.length co85,.slice Ao86 t744.length co86],.int .i64 ji52] rfl (by (try simp only [List.map_toArray,List.map_cons,List.map_nil]);first|done|(simp only [hji52];rfl)|rfl|(simp only [List.length_drop,List.length_take];rfl)) ?_;(with_reducible refine (spec_l10Without.calls t740 _ _ t741 (fun k_=>((w.heap.size≤k_)∧(some k_≠(.slice Ao85 t741.length co85:Value).ownBlock∧(some k_≠(.slice Ao10 t719.length co10:Value).ownBlock∧(some k_≠(.slice Ao82 x740001_2.length co82:Value).ownBlock∧(k_≠gb716∧(k_≠gb717∧k_≠gb739))))))) _ _ t744 ji52 t747 t748 t751 _ ?_ ?_ ?_ A49.out).mono ?_);exact Kd.Cz (Kd.Yr HO743.out).2.2;exact (Kd.Yr HO743.out).2.1;exact HO746.out;rintro e w87 ⟨v749,v752,rfl,ho0,ho1,hb⟩;refine ⟨_,rfl,?_⟩;replace HO_717002:=yam (Kd.N_elder' (by (with_reducible repeat (first|apply Kd.N_alloc|apply Kd.N_drewN|apply Kd.N_drew));exact HO_717002.out) (Kd.Yb ho0) hb);replace HO_740002:=yam (Kd.V_elder' (by (with_reducible repeat (first|apply Kd.V_alloc|apply Kd.V_drewN|apply Kd.V_drew));exact HO_740002.out) (Kd.Yb ho0) hb);replace HO746:=yam (Kd.V_elder' (by (with_reducible repeat (first|apply Kd.V_alloc|apply Kd.V_drewN|apply Kd.V_drew));exact HO746.out) (Kd.Yb ho0) hb);have HO750:=yam (Kd.R_lower (Kd.Yw (Kd.Yw (Kd.Yw (Kd.R_newM (M:=fun k_=>(w.heap.size≤k_)) (Kd.R_mono (ok':=fun k_=>True) ho0 (fun _ hk_=>trivial)) (below_size yhb) (fun k_ h_=>h_)) (Kd.R_lt (Kd.Yz HO_717001.out))) (Kd.R_lt (Kd.Yz HO_740001.out))) (Kd.R_lt (Kd.Yz HO743.out))) (below_size yhb));have HO753:=yam (Kd.V_lower (Kd.V_mono (ok':=fun k_=>(w.heap.size≤k_)∧some k_≠(v749:Value).ownBlock∧some k_≠(.slice Ao10 t719.length co10:Value).ownBlock∧some k_≠(.slice Ao82 x740001_2.length co82:Value).ownBlock∧some k_≠(.slice Ao85 t741.length co85:Value).ownBlock∧k_≠gb716∧k_≠gb717∧k_≠gb739) ho1 (fun k_ hk_=>⟨Or.elim hk_.1 (fun hs_=>hs_.1) (fun hn_=>(Nat.le_trans (below_size yhb) hn_)),hk_.2,Or.elim hk_.1 (fun hs_=>hs_.2.2.1) (fun hn_=>(Kd.fresh' (Kd.R_lt (Kd.Yz HO_717001.out)) k_ hn_)),Or.elim hk_.1 (fun hs_=>hs_.2.2.2.1) (fun hn_=>(Kd.fresh' (Kd.R_lt (Kd.Yz HO_740001.out)) k_ hn_)),Or.elim hk_.1 (fun hs_=>hs_.2.1) (fun hn_=>(Kd.fresh' (Kd.R_lt (Kd.Yz HO743.out)) k_ hn_)),Or.elim hk_.1 (fun hs_=>hs_.2.2.2.2.1) (fun hn_=>(Kd.freshB (g:=gb716) (o:= .cells #[.int .i64 t718,.slice Ao10 t719.length co10,.slice Ao11 t722.length co11] 37 (0,0)) (ybz BK716.out) k_ hn_)),Or.elim hk_.1 (fun hs_=>hs_.2.2.2.2.2.1) (fun hn_=>(Kd.freshB (g:=gb717) (o:= .cells #[.int .i64 0,.slice none 0 0,.slice none 0 0] 37 (0,0)) (ybz BK717.out) k_ hn_)),Or.elim hk_.1 (fun hs_=>hs_.2.2.2.2.2.2) (fun hn_=>(Kd.freshB (g:=gb739) (o:= .cells #[.int .i64 x740000_2,.slice Ao82 x740001_2.length co82,.slice Ao83 x740002_2.length co83] 37 (0,0)) (ybz BK739.out) k_ hn_))⟩)) (below_size yhb));replace HO_717001:=yam (Kd.Ye (Kd.Yz HO_717001.out) (Kd.Yb ho0) hb);replace HO_740001:=yam (Kd.Ye (Kd.Yz HO_740001.out) (Kd.Yb ho0) hb);replace HO743:=yam (Kd.Ye (Kd.Yz HO743.out) (Kd.Yb ho0) hb);replace BK716:=yam (ybb BK716.out hb);replace BK717:=yam (ybb BK717.out hb);replace BK739:=yam (ybb BK739.out hb);replace HB:=yam (below_step yhb hb);(try clear hb);(try clear ho0);(try clear ho1))|(refine ybe 7 #[.int .i64 0,.slice none 0 0,.slice none 0 0] 37 ?_;intro gb754 hg w88 hbox hb;replace HO_717001:=yam (Kd.R_below (Kd.Yz HO_717001.out) hb);replace HO_717002:=yam (Kd.N_below (Kd.N_elderB (by (with_reducible repeat (first|apply Kd.N_alloc|apply Kd.N_drewN|apply Kd.N_drew));exact HO_717002.out) gb754 (Nat.le_of_eq hg.symm)) hb);replace HO_740001:=yam (Kd.R_below (Kd.Yz HO_740001.out) hb);replace HO_740002:=yam (Kd.V_below (Kd.V_elderB (by (with_reducible repeat (first|apply Kd.V_alloc|apply Kd.V_drewN|apply Kd.V_drew));exact HO_740002.out) gb754 (Nat.le_of_eq hg.symm)) hb);replace HO743:=yam (Kd.R_below (Kd.Yz HO743.out) hb);replace HO746:=yam (Kd.V_below (Kd.V_elderB (by (with_reducible repeat (first|apply Kd.V_alloc|apply Kd.V_drewN|apply Kd.V_drew));exact HO746.out) gb754 (Nat.le_of_eq hg.symm)) hb);replace HO750:=yam (Kd.R_below (Kd.Yz HO750.out) hb);replace HO753:=yam (Kd.V_below (Kd.V_elderB (by (with_reducible repeat (first|apply Kd.V_alloc|apply Kd.V_drewN|apply Kd.V_drew));exact HO753.out) gb754 (Nat.le_of_eq hg.symm)) hb);have BK754:=yam (hbox);have GW754:=yam ((by rw [hg];exact (below_size yhb):w.heap.size≤gb754));replace HB:=yam (below_step yhb hb);have GE754:=GW754;have NB716_754:=yam ((by rw [hg];exact Nat.ne_of_lt (blk_lt (g:=gb716) (o:= .cells #[.int .i64 t718,.slice Ao10 t719.length co10,.slice Ao11 t722.length co11] 37 (0,0)) (ybz BK716.out)):gb716≠gb754));have NB754_716:=yam ((by rw [hg];exact Nat.ne_of_gt (blk_lt (g:=gb716) (o:= .cells #[.int .i64 t718,.slice Ao10 t719.length co10,.slice Ao11 t722.length co11] 37 (0,0)) (ybz BK716.out)):gb754≠gb716));replace BK716:=yam (ybb BK716.out hb);have NB717_754:=yam ((by rw [hg];exact Nat.ne_of_lt (blk_lt (g:=gb717) (o:= .cells #[.int .i64 0,.slice none 0 0,.slice none 0 0] 37 (0,0)) (ybz BK717.out)):gb717≠gb754));have NB754_717:=yam ((by rw [hg];exact Nat.ne_of_gt (blk_lt (g:=gb717) (o:= .cells #[.int .i64 0,.slice none 0 0,.slice none 0 0] 37 (0,0)) (ybz BK717.out)):gb754≠gb717));replace BK717:=yam (ybb BK717.out hb);have NB739_754:=yam ((by rw [hg];exact Nat.ne_of_lt (blk_lt (g:=gb739) (o:= .cells #[.int .i64 x740000_2,.slice Ao82 x740001_2.length co82,.slice Ao83 x740002_2.length co83] 37 (0,0)) (ybz BK739.out)):gb739≠gb754));have NB754_739:=yam ((by rw [hg];exact Nat.ne_of_gt (blk_lt (g:=gb739) (o:= .cells #[.int .i64 x740000_2,.slice Ao82 x740001_2.length co82,.slice Ao83 x740002_2.length co83] 37 (0,0)) (ybz BK739.out)):gb754≠gb739));replace BK739:=yam (ybb BK739.out hb);clear hb hbox hg;have hnb89:=NB754_716.out;have hnc89:=NB716_754.out;have hnb90:=NB754_717.out;have hnc90:=NB717_754.out;have hnb91:=NB754_739.out;have hnc91:=NB739_754.out;obtain ⟨hcz92_0,hcz92_1,hcz92_2,hfz92_0,hfz92_1,hfz92_2⟩:=ybc BK754.out;obtain ⟨Ao93,co93,eo93⟩:=Kd.R_slice HO750.out;subst eo93;obtain ⟨Ao94,co94,eo94⟩:=Kd.V_slice HO753.out;subst eo94))
    have n0_:Aside0 (Kd.R (Kd.int .i64) 3 (((w88.setCell ⟨gb754,0,none⟩ (.int .i64 t747)).setCell ⟨gb754,1,none⟩ (.slice Ao93 t748.length co93)).setCell ⟨gb754,2,none⟩ (.slice Ao94 t751.length co94)) w.heap.size (fun k_=>(w.heap.size≤k_)∧some k_≠(.slice Ao82 x740001_2.length co82:Value).ownBlock∧some k_≠(.slice Ao85 t741.length co85:Value).ownBlock∧some k_≠(.slice Ao93 t748.length co93:Value).ownBlock) (.slice Ao10 t719.length co10) t719):=⟨by (with_reducible repeat (first|apply Kd.Ya|apply Kd.Yn|apply Kd.Yd));exact Kd.R_mono (Kd.R_far (p:=⟨gb754,2,none⟩) (Kd.R_far (p:=⟨gb754,1,none⟩) (Kd.R_far (p:=⟨gb754,0,none⟩) (Kd.R_types HO_717001.out BK754.out (by decide)) (fun _ hk=>hk.2) (.int .i64 t747)) (fun _ hk=>hk.2) (.slice Ao93 t748.length co93)) (fun _ hk=>hk.2) (.slice Ao94 t751.length co94)) (fun _ hk=>⟨hk.1.1.1.1,⟨hk.1.1.1.2,⟨hk.1.1.2,hk.1.2⟩⟩⟩)⟩
    have n1_:Aside0 (Kd.N k73 73 (((w88.setCell ⟨gb754,0,none⟩ (.int .i64 t747)).setCell ⟨gb754,1,none⟩ (.slice Ao93 t748.length co93)).setCell ⟨gb754,2,none⟩ (.slice Ao94 t751.length co94)) w.heap.size (fun k_=>(w.heap.size≤k_)∧some k_≠(.slice Ao10 t719.length co10:Value).ownBlock∧some k_≠(.slice Ao82 x740001_2.length co82:Value).ownBlock∧some k_≠(.slice Ao85 t741.length co85:Value).ownBlock∧some k_≠(.slice Ao93 t748.length co93:Value).ownBlock∧k_≠gb716∧k_≠gb717∧k_≠gb739∧k_≠gb754) (.slice Ao11 t722.length co11) t722):=⟨by (with_reducible repeat (first|apply Kd.N_alloc|apply Kd.N_drewN|apply Kd.N_drew));exact Kd.N_mono (Kd.N_far (p:=⟨gb754,2,none⟩) (Kd.N_far (p:=⟨gb754,1,none⟩) (Kd.N_far (p:=⟨gb754,0,none⟩) (Kd.N_mono HO_717002.out (fun k_ hk=>(⟨hk,hk.2⟩:_∧k_≠gb754))) (fun _ hk=>hk.2) (.int .i64 t747)) (fun _ hk=>hk.2) (.slice Ao93 t748.length co93)) (fun _ hk=>hk.2) (.slice Ao94 t751.length co94)) (fun _ hk=>⟨hk.1.1.1.1.1,⟨hk.1.1.1.1.2.1,⟨hk.1.1.1.1.2.2.1,⟨hk.1.1.1.2,⟨hk.1.1.2,⟨hk.1.1.1.1.2.2.2.1,⟨hk.1.1.1.1.2.2.2.2.1,⟨hk.1.1.1.1.2.2.2.2.2,hk.1.2⟩⟩⟩⟩⟩⟩⟩⟩)⟩
    have n2_:Aside0 (Kd.R (Kd.int .i64) 3 (((w88.setCell ⟨gb754,0,none⟩ (.int .i64 t747)).setCell ⟨gb754,1,none⟩ (.slice Ao93 t748.length co93)).setCell ⟨gb754,2,none⟩ (.slice Ao94 t751.length co94)) w.heap.size (fun k_=>(w.heap.size≤k_)∧some k_≠(.slice Ao10 t719.length co10:Value).ownBlock∧some k_≠(.slice Ao85 t741.length co85:Value).ownBlock∧some k_≠(.slice Ao93 t748.length co93:Value).ownBlock) (.slice Ao82 x740001_2.length co82) x740001_2):=⟨by (with_reducible repeat (first|apply Kd.Ya|apply Kd.Yn|apply Kd.Yd));exact Kd.R_mono (Kd.R_far (p:=⟨gb754,2,none⟩) (Kd.R_far (p:=⟨gb754,1,none⟩) (Kd.R_far (p:=⟨gb754,0,none⟩) (Kd.R_types HO_740001.out BK754.out (by decide)) (fun _ hk=>hk.2) (.int .i64 t747)) (fun _ hk=>hk.2) (.slice Ao93 t748.length co93)) (fun _ hk=>hk.2) (.slice Ao94 t751.length co94)) (fun _ hk=>⟨hk.1.1.1.1,⟨hk.1.1.1.2,⟨hk.1.1.2,hk.1.2⟩⟩⟩)⟩
    have n3_:Aside0 (Kd.V k73 73 (((w88.setCell ⟨gb754,0,none⟩ (.int .i64 t747)).setCell ⟨gb754,1,none⟩ (.slice Ao93 t748.length co93)).setCell ⟨gb754,2,none⟩ (.slice Ao94 t751.length co94)) w.heap.size (fun k_=>(w.heap.size≤k_)∧some k_≠(.slice Ao10 t719.length co10:Value).ownBlock∧some k_≠(.slice Ao82 x740001_2.length co82:Value).ownBlock∧some k_≠(.slice Ao85 t741.length co85:Value).ownBlock∧some k_≠(.slice Ao93 t748.length co93:Value).ownBlock∧k_≠gb716∧k_≠gb717∧k_≠gb739∧k_≠gb754) (.slice Ao83 x740002_2.length co83) x740002_2):=⟨by (with_reducible repeat (first|apply Kd.V_alloc|apply Kd.V_drewN|apply Kd.V_drew));exact Kd.V_mono (Kd.V_far (p:=⟨gb754,2,none⟩) (Kd.V_far (p:=⟨gb754,1,none⟩) (Kd.V_far (p:=⟨gb754,0,none⟩) (Kd.V_mono HO_740002.out (fun k_ hk=>(⟨hk,hk.2⟩:_∧k_≠gb754))) (fun _ hk=>hk.2) (.int .i64 t747)) (fun _ hk=>hk.2) (.slice Ao93 t748.length co93)) (fun _ hk=>hk.2) (.slice Ao94 t751.length co94)) (fun _ hk=>⟨hk.1.1.1.1.1,⟨hk.1.1.1.1.2.1,⟨hk.1.1.1.1.2.2.1,⟨hk.1.1.1.2,⟨hk.1.1.2,⟨hk.1.1.1.1.2.2.2.1,⟨hk.1.1.1.1.2.2.2.2.1,⟨hk.1.1.1.1.2.2.2.2.2,hk.1.2⟩⟩⟩⟩⟩⟩⟩⟩)⟩
    have n4_:Aside0 (Kd.R (Kd.int .i64) 3 (((w88.setCell ⟨gb754,0,none⟩ (.int .i64 t747)).setCell ⟨gb754,1,none⟩ (.slice Ao93 t748.length co93)).setCell ⟨gb754,2,none⟩ (.slice Ao94 t751.length co94)) w.heap.size (fun k_=>(w.heap.size≤k_)∧some k_≠(.slice Ao10 t719.length co10:Value).ownBlock∧some k_≠(.slice Ao82 x740001_2.length co82:Value).ownBlock∧some k_≠(.slice Ao93 t748.length co93:Value).ownBlock) (.slice Ao85 t741.length co85) t741):=⟨by (with_reducible repeat (first|apply Kd.Ya|apply Kd.Yn|apply Kd.Yd));exact Kd.R_mono (Kd.R_far (p:=⟨gb754,2,none⟩) (Kd.R_far (p:=⟨gb754,1,none⟩) (Kd.R_far (p:=⟨gb754,0,none⟩) (Kd.R_types HO743.out BK754.out (by decide)) (fun _ hk=>hk.2) (.int .i64 t747)) (fun _ hk=>hk.2) (.slice Ao93 t748.length co93)) (fun _ hk=>hk.2) (.slice Ao94 t751.length co94)) (fun _ hk=>⟨hk.1.1.1.1.1,⟨hk.1.1.1.2,⟨hk.1.1.2,hk.1.2⟩⟩⟩)⟩
    have n5_:Aside0 (Kd.V k73 73 (((w88.setCell ⟨gb754,0,none⟩ (.int .i64 t747)).setCell ⟨gb754,1,none⟩ (.slice Ao93 t748.length co93)).setCell ⟨gb754,2,none⟩ (.slice Ao94 t751.length co94)) w.heap.size (fun k_=>(w.heap.size≤k_)∧some k_≠(.slice Ao10 t719.length co10:Value).ownBlock∧some k_≠(.slice Ao82 x740001_2.length co82:Value).ownBlock∧some k_≠(.slice Ao85 t741.length co85:Value).ownBlock∧some k_≠(.slice Ao93 t748.length co93:Value).ownBlock∧k_≠gb716∧k_≠gb717∧k_≠gb739∧k_≠gb754) (.slice Ao86 t744.length co86) t744):=⟨by (with_reducible repeat (first|apply Kd.V_alloc|apply Kd.V_drewN|apply Kd.V_drew));exact Kd.V_mono (Kd.V_far (p:=⟨gb754,2,none⟩) (Kd.V_far (p:=⟨gb754,1,none⟩) (Kd.V_far (p:=⟨gb754,0,none⟩) (Kd.V_mono HO746.out (fun k_ hk=>(⟨hk,hk.2⟩:_∧k_≠gb754))) (fun _ hk=>hk.2) (.int .i64 t747)) (fun _ hk=>hk.2) (.slice Ao93 t748.length co93)) (fun _ hk=>hk.2) (.slice Ao94 t751.length co94)) (fun _ hk=>⟨hk.1.1.1.1,⟨hk.1.1.1.2.2.1,⟨hk.1.1.1.2.2.2.1,⟨hk.1.1.1.2.1,⟨hk.1.1.2,⟨hk.1.1.1.2.2.2.2.1,⟨hk.1.1.1.2.2.2.2.2.1,⟨hk.1.1.1.2.2.2.2.2.2,hk.1.2⟩⟩⟩⟩⟩⟩⟩⟩)⟩
    have n6_:Aside0 (Kd.R (Kd.int .i64) 3 (((w88.setCell ⟨gb754,0,none⟩ (.int .i64 t747)).setCell ⟨gb754,1,none⟩ (.slice Ao93 t748.length co93)).setCell ⟨gb754,2,none⟩ (.slice Ao94 t751.length co94)) w.heap.size (fun k_=>(w.heap.size≤k_)∧some k_≠(.slice Ao10 t719.length co10:Value).ownBlock∧some k_≠(.slice Ao82 x740001_2.length co82:Value).ownBlock∧some k_≠(.slice Ao85 t741.length co85:Value).ownBlock) (.slice Ao93 t748.length co93) t748):=⟨by (with_reducible repeat (first|apply Kd.Ya|apply Kd.Yn|apply Kd.Yd));exact Kd.R_mono (Kd.R_far (p:=⟨gb754,2,none⟩) (Kd.R_far (p:=⟨gb754,1,none⟩) (Kd.R_far (p:=⟨gb754,0,none⟩) (Kd.R_types HO750.out BK754.out (by decide)) (fun _ hk=>hk.2) (.int .i64 t747)) (fun _ hk=>hk.2) (.slice Ao93 t748.length co93)) (fun _ hk=>hk.2) (.slice Ao94 t751.length co94)) (fun _ hk=>⟨hk.1.1.1.1.1,⟨hk.1.1.1.2,⟨hk.1.1.2,hk.1.2⟩⟩⟩)⟩
    have n7_:Aside0 (Kd.V k73 73 (((w88.setCell ⟨gb754,0,none⟩ (.int .i64 t747)).setCell ⟨gb754,1,none⟩ (.slice Ao93 t748.length co93)).setCell ⟨gb754,2,none⟩ (.slice Ao94 t751.length co94)) w.heap.size (fun k_=>(w.heap.size≤k_)∧some k_≠(.slice Ao10 t719.length co10:Value).ownBlock∧some k_≠(.slice Ao82 x740001_2.length co82:Value).ownBlock∧some k_≠(.slice Ao85 t741.length co85:Value).ownBlock∧some k_≠(.slice Ao93 t748.length co93:Value).ownBlock∧k_≠gb716∧k_≠gb717∧k_≠gb739∧k_≠gb754) (.slice Ao94 t751.length co94) t751):=⟨by (with_reducible repeat (first|apply Kd.V_alloc|apply Kd.V_drewN|apply Kd.V_drew));exact Kd.V_mono (Kd.V_far (p:=⟨gb754,2,none⟩) (Kd.V_far (p:=⟨gb754,1,none⟩) (Kd.V_far (p:=⟨gb754,0,none⟩) (Kd.V_mono HO753.out (fun k_ hk=>(⟨hk,hk.2⟩:_∧k_≠gb754))) (fun _ hk=>hk.2) (.int .i64 t747)) (fun _ hk=>hk.2) (.slice Ao93 t748.length co93)) (fun _ hk=>hk.2) (.slice Ao94 t751.length co94)) (fun _ hk=>⟨hk.1.1.1,⟨hk.1.1.2.2.1,⟨hk.1.1.2.2.2.1,⟨hk.1.1.2.2.2.2.1,⟨hk.1.1.2.1,⟨hk.1.1.2.2.2.2.2.1,⟨hk.1.1.2.2.2.2.2.2.1,⟨hk.1.1.2.2.2.2.2.2.2,hk.1.2⟩⟩⟩⟩⟩⟩⟩⟩)⟩
    have n8_:Aside0 ((((w88.setCell ⟨gb754,0,none⟩ (.int .i64 t747)).setCell ⟨gb754,1,none⟩ (.slice Ao93 t748.length co93)).setCell ⟨gb754,2,none⟩ (.slice Ao94 t751.length co94)).heap[gb716]?=some (.cells #[.int .i64 t718,.slice Ao10 t719.length co10,.slice Ao11 t722.length co11] 37 (0,0))):=⟨by (with_reducible repeat (first|refine ybn ?_ _|refine ybd ?_|refine yba ?_ _));refine blk_far ?_ NB716_754.out _;(with_reducible repeat (first|refine ybn ?_ _|refine ybd ?_|refine yba ?_ _));refine blk_far ?_ NB716_754.out _;(with_reducible repeat (first|refine ybn ?_ _|refine ybd ?_|refine yba ?_ _));refine blk_far ?_ NB716_754.out _;(with_reducible repeat (first|refine ybn ?_ _|refine ybd ?_|refine yba ?_ _));exact BK716.out⟩
    have n9_:Aside0 ((((w88.setCell ⟨gb754,0,none⟩ (.int .i64 t747)).setCell ⟨gb754,1,none⟩ (.slice Ao93 t748.length co93)).setCell ⟨gb754,2,none⟩ (.slice Ao94 t751.length co94)).heap[gb717]?=some (.cells #[.int .i64 0,.slice none 0 0,.slice none 0 0] 37 (0,0))):=⟨by (with_reducible repeat (first|refine ybn ?_ _|refine ybd ?_|refine yba ?_ _));refine blk_far ?_ NB717_754.out _;(with_reducible repeat (first|refine ybn ?_ _|refine ybd ?_|refine yba ?_ _));refine blk_far ?_ NB717_754.out _;(with_reducible repeat (first|refine ybn ?_ _|refine ybd ?_|refine yba ?_ _));refine blk_far ?_ NB717_754.out _;(with_reducible repeat (first|refine ybn ?_ _|refine ybd ?_|refine yba ?_ _));exact BK717.out⟩
    have n10_:Aside0 ((((w88.setCell ⟨gb754,0,none⟩ (.int .i64 t747)).setCell ⟨gb754,1,none⟩ (.slice Ao93 t748.length co93)).setCell ⟨gb754,2,none⟩ (.slice Ao94 t751.length co94)).heap[gb739]?=some (.cells #[.int .i64 x740000_2,.slice Ao82 x740001_2.length co82,.slice Ao83 x740002_2.length co83] 37 (0,0))):=⟨by (with_reducible repeat (first|refine ybn ?_ _|refine ybd ?_|refine yba ?_ _));refine blk_far ?_ NB739_754.out _;(with_reducible repeat (first|refine ybn ?_ _|refine ybd ?_|refine yba ?_ _));refine blk_far ?_ NB739_754.out _;(with_reducible repeat (first|refine ybn ?_ _|refine ybd ?_|refine yba ?_ _));refine blk_far ?_ NB739_754.out _;(with_reducible repeat (first|refine ybn ?_ _|refine ybd ?_|refine yba ?_ _));exact BK739.out⟩
    have n11_:Aside0 ((((w88.setCell ⟨gb754,0,none⟩ (.int .i64 t747)).setCell ⟨gb754,1,none⟩ (.slice Ao93 t748.length co93)).setCell ⟨gb754,2,none⟩ (.slice Ao94 t751.length co94)).heap[gb754]?=some (.cells #[.int .i64 t747,.slice Ao93 t748.length co93,.slice Ao94 t751.length co94] 37 (0,0))):=⟨by (with_reducible repeat (first|refine ybn ?_ _|refine ybd ?_|refine yba ?_ _));refine blk_put (cs:= #[.int .i64 t747,.slice Ao93 t748.length co93,.slice none 0 0]) ?_ 2 _ rfl;(with_reducible repeat (first|refine ybn ?_ _|refine ybd ?_|refine yba ?_ _));refine blk_put (cs:= #[.int .i64 t747,.slice none 0 0,.slice none 0 0]) ?_ 1 _ rfl;(with_reducible repeat (first|refine ybn ?_ _|refine ybd ?_|refine yba ?_ _));refine blk_put (cs:= #[.int .i64 0,.slice none 0 0,.slice none 0 0]) ?_ 0 _ rfl;(with_reducible repeat (first|refine ybn ?_ _|refine ybd ?_|refine yba ?_ _));exact BK754.out⟩
    have n12_:Aside0 (Below w.heap.size w (((w88.setCell ⟨gb754,0,none⟩ (.int .i64 t747)).setCell ⟨gb754,1,none⟩ (.slice Ao93 t748.length co93)).setCell ⟨gb754,2,none⟩ (.slice Ao94 t751.length co94))):=⟨yhb⟩
    (try clear HO_717001)
    (try clear HO_717002)
    (try clear HO_740001)
    (try clear HO_740002)
    (try clear HO743)
    (try clear HO746)
    (try clear HO750)
    (try clear HO753)
    (try clear BK716)
    (try clear BK717)
    (try clear BK739)
    (try clear BK754)
    (try clear HB)
    generalize (((w88.setCell ⟨gb754,0,none⟩ (.int .i64 t747)).setCell ⟨gb754,1,none⟩ (.slice Ao93 t748.length co93)).setCell ⟨gb754,2,none⟩ (.slice Ao94 t751.length co94))=w95 at n0_ n1_ n2_ n3_ n4_ n5_ n6_ n7_ n8_ n9_ n10_ n11_ n12_ ⊢
    have HO_717001:=n0_
    have HO_717002:=n1_
    have HO_740001:=n2_
    have HO_740002:=n3_
    have HO743:=n4_
    have HO746:=n5_
    have HO750:=n6_
    have HO753:=n7_
    have BK716:=n8_
    have BK717:=n9_
    have BK739:=n10_
    have BK754:=n11_
    have HB:=n12_
    clear n0_ n1_ n2_ n3_ n4_ n5_ n6_ n7_ n8_ n9_ n10_ n11_ n12_
    replace HO_717001:=yam (Kd.Yd HO_717001.out)
    replace HO_717002:=yam (Kd.N_drew HO_717002.out)
    replace HO_740001:=yam (Kd.Yd HO_740001.out)
    replace HO_740002:=yam (Kd.V_drew HO_740002.out)
    replace HO743:=yam (Kd.Yd HO743.out)
    replace HO746:=yam (Kd.V_drew HO746.out)
    replace HO750:=yam (Kd.Yd HO750.out)
    replace HO753:=yam (Kd.V_drew HO753.out)
    replace BK716:=yam (ybd BK716.out)
    replace BK717:=yam (ybd BK717.out)
    replace BK739:=yam (ybd BK739.out)
    replace BK754:=yam (ybd BK754.out)
    replace HB:=yam (yed HB.out)
    obtain ⟨ad755,e755,hx755_0,p755,q755⟩:=yat (Kd.Yr HO_740001.out).2.2 x6_2
    cases e755
    obtain ⟨ad756,e756,hx756_0,p756,q756⟩:=yat (Kd.Yr HO_740001.out).2.2 (ji52)
    obtain rfl:ad755=ad756:=(by injection e756)
    refine start_ (n:=18) (S:=fun w'=>w'.cell? ⟨gb739,0,none⟩=some (.int .i64 x740000_2)∧w'.cell? ⟨gb739,1,none⟩=some (.slice (some ad755) x740001_2.length co82)∧w'.cell? ⟨gb739,2,none⟩=some (.slice Ao83 x740002_2.length co83)∧w'.cell? ⟨gb754,0,none⟩=some (.int .i64 t747)∧w'.cell? ⟨gb754,1,none⟩=some (.slice Ao93 t748.length co93)∧w'.cell? ⟨gb754,2,none⟩=some (.slice Ao94 t751.length co94)∧w'.cell? (ad755.add (x6_2).toNat)=some (.int .i64 (rd x740001_2 x6_2))∧w'.cell? (ad755.add ((ji52)).toNat)=some (.int .i64 (rd x740001_2 (ji52)))) (ds:=[]) (yvb 18 0) (by kernel_rfl) rfl rfl ⟨(blk_cell BK739.out 0).trans rfl,(blk_cell BK739.out 1).trans rfl,(blk_cell BK739.out 2).trans rfl,(blk_cell BK754.out 0).trans rfl,(blk_cell BK754.out 1).trans rfl,(blk_cell BK754.out 2).trans rfl,hx755_0,hx756_0⟩ (fun hHeld=>?_);refine with_tabW spec_MakeEven.tab10 spec_MakeEven.bits10 (fun HT_ HW_=>?_)
    generalize w95.drew=w96 at HO_717001 HO_717002 HO_740001 HO_740002 HO743 HO746 HO750 HO753 BK716 BK717 BK739 BK754 HB hx755_0 hx756_0 hHeld ⊢
    refine yvp 0 48 (yvb 18 1) HT_.out ?_
    refine yvp 2 50 (yvb 18 5) HT_.out ?_
    refine yvp 5 53 (yvb 18 37) HT_.out ?_
    refine yvp 7 55 (yvb 18 165) HT_.out ?_
    refine yvp 8 56 (yvb 18 421) HT_.out ?_
    refine yvp 9 57 (yvb 18 933) HT_.out ?_
    refine yvt 1 49 (yvb 18 935) HT_.out HW_.out hHeld ?_
    refine yvp 3 51 (yvb 18 943) HT_.out ?_
    refine yvt 4 52 (yvb 18 959) HT_.out HW_.out hHeld ?_
    refine yvt 6 54 (yvb 18 1023) HT_.out HW_.out hHeld ?_
    refine yvp 10 58 (yvb 18 2047) HT_.out ?_
    refine yvt 11 59 (yvb 18 4095) HT_.out HW_.out hHeld ?_
    refine yvp 12 60 (yvb 18 8191) HT_.out ?_
    refine yvp 13 61 (yvb 18 16383) HT_.out ?_
    refine yvp 14 62 (yvb 18 32767) HT_.out ?_
    refine yvt 15 63 (yvb 18 65535) HT_.out HW_.out hHeld ?_
    refine one_ (i:=16) (N:=some 64) (yvb 18 131071) rfl rfl (one_of HT_.out (by kernel_rfl)) (by decide) (fun K hK=>?_)
    refine goes_ Try.func66 (by kernel_rfl) rfl #[.agg #[.int .i64 t747,.slice Ao93 t748.length co93,.slice Ao94 t751.length co94]] (by rfl) rfl rfl ymd ?_
    with_reducible refine (spec_l10One.calls k2 t747 _ _ t748 _ _ t751 false _ ?side1 ?side2 ?side3 ?side4 A56.out).mono ?_
    (case side1=>exact Kd.Cz (Kd.Yr HO750.out).2.2)
    (case side2=>exact (Kd.Yr HO750.out).2.1)
    (case side3=>repeat (first|exact (Kd.V_reads' HO753.out).2.2|(with_reducible refine Kd.C_alloc ?_ _)|(with_reducible refine Kd.C_drewN ?_ _)|(with_reducible refine Kd.C_drew ?_)))
    (case side4=>exact (Kd.V_reads' HO753.out).2.1)
    rintro e w97 ⟨rfl,hb⟩
    have HS6_:=(hb.cell (World.block_lt_of_cell? _ _ (hHeld.2.2.2.2.2.2.1))).trans (hHeld.2.2.2.2.2.2.1)
    have HS7_:=(hb.cell (World.block_lt_of_cell? _ _ (hHeld.2.2.2.2.2.2.2))).trans (hHeld.2.2.2.2.2.2.2)
    refine ⟨_,rfl,?_⟩
    replace HO_717001:=yam (Kd.R_below (Kd.Yz HO_717001.out) hb)
    replace HO_717002:=yam (Kd.N_below (by (with_reducible repeat (first|apply Kd.N_alloc|apply Kd.N_drewN|apply Kd.N_drew));exact HO_717002.out) hb)
    replace HO_740001:=yam (Kd.R_below (Kd.Yz HO_740001.out) hb)
    replace HO_740002:=yam (Kd.V_below (by (with_reducible repeat (first|apply Kd.V_alloc|apply Kd.V_drewN|apply Kd.V_drew));exact HO_740002.out) hb)
    replace HO743:=yam (Kd.R_below (Kd.Yz HO743.out) hb)
    replace HO746:=yam (Kd.V_below (by (with_reducible repeat (first|apply Kd.V_alloc|apply Kd.V_drewN|apply Kd.V_drew));exact HO746.out) hb)
    replace HO750:=yam (Kd.R_below (Kd.Yz HO750.out) hb)
    replace HO753:=yam (Kd.V_below (by (with_reducible repeat (first|apply Kd.V_alloc|apply Kd.V_drewN|apply Kd.V_drew));exact HO753.out) hb)
    replace BK716:=yam (ybb BK716.out hb)
    replace BK717:=yam (ybb BK717.out hb)
    replace BK739:=yam (ybb BK739.out hb)
    replace BK754:=yam (ybb BK754.out hb)
    replace HB:=yam (below_step yhb hb)
    (try clear hb)
    (try clear hb2)
    (try clear hk)
    (try clear hi)
    refine hK.out _ _ ⟨(blk_cell BK739.out 0).trans rfl,(blk_cell BK739.out 1).trans rfl,(blk_cell BK739.out 2).trans rfl,(blk_cell BK754.out 0).trans rfl,(blk_cell BK754.out 1).trans rfl,(blk_cell BK754.out 2).trans rfl,HS6_,HS7_⟩ (fun hHeld=>?_)
    clear hK K
    refine norm_ (a':=?_) ?_ ?_
    rotate_left
    ·show Act.put _ (some 64) _=_
     simp only [Act.put,yps,i64_w,i32_w]
     rfl
    refine yvp 17 65 (yvb 18 262143) HT_.out ?_
    refine done_ (done_of HT_.out (by kernel_rfl)) ?_
    try go_wp2
    go_roundg k2
    case measure=>have:=HJ2.out;have:=HK2.out;omega
    case rel=>exact ⟨(wrap64 (x6_2 + 1)),(x740000_2),(x740001_2),(x740002_2),(.slice (some ad755) x740001_2.length co82),(.slice Ao83 x740002_2.length co83),yeq,H,⟨by have:=HJ2.out;have:=HK2.out;omega⟩,⟨by (with_reducible repeat (first|apply Kd.Ya|apply Kd.Yn|apply Kd.Yd));exact Kd.R_mono HO_717001.out (fun _ hk=>⟨hk.1,hk.2.1⟩)⟩,⟨by (with_reducible repeat (first|apply Kd.N_alloc|apply Kd.N_drewN|apply Kd.N_drew));exact Kd.N_mono HO_717002.out (fun _ hk=>⟨hk.1,⟨hk.2.1,⟨hk.2.2.1,⟨hk.2.2.2.2.2.1,⟨hk.2.2.2.2.2.2.1,hk.2.2.2.2.2.2.2.1⟩⟩⟩⟩⟩)⟩,⟨by (with_reducible repeat (first|apply Kd.Ya|apply Kd.Yn|apply Kd.Yd));exact Kd.R_mono HO_740001.out (fun _ hk=>⟨hk.1,hk.2.1⟩)⟩,⟨by (with_reducible repeat (first|apply Kd.V_alloc|apply Kd.V_drewN|apply Kd.V_drew));exact Kd.V_mono HO_740002.out (fun _ hk=>⟨hk.1,⟨hk.2.1,⟨hk.2.2.1,⟨hk.2.2.2.2.2.1,⟨hk.2.2.2.2.2.2.1,hk.2.2.2.2.2.2.2.1⟩⟩⟩⟩⟩)⟩,⟨ybk BK716.out⟩,⟨ybk BK717.out⟩,⟨ybk BK739.out⟩,⟨yhb⟩⟩
   replace H:=ytt H
   replace H:=yam H
   have hnb58:=NB739_716.out
   have hnc58:=NB716_739.out
   have hnb59:=NB739_717.out
   have hnc59:=NB717_739.out
   obtain ⟨hcz60_0,hcz60_1,hcz60_2,hfz60_0,hfz60_1,hfz60_2⟩:=ybc BK739.out
   obtain ⟨Ao61,co61,eo61⟩:=Kd.R_slice HO_740001.out
   subst eo61
   obtain ⟨Ao62,co62,eo62⟩:=Kd.V_slice HO_740002.out
   subst eo62
   try go_wp2_with (first|(refine goesL_ (some 43) rfl rfl Try.func67 (by kernel_rfl) rfl #[.agg #[.int .i64 x740000_2,.slice Ao61 x740001_2.length co61,.slice Ao62 x740002_2.length co62],.int .i64 x6_2] rfl ymd ?_;(with_reducible refine (spec_l10Without.calls x740000_2 _ _ x740001_2 (fun k_=>((w.heap.size≤k_)∧(some k_≠(.slice Ao10 t719.length co10:Value).ownBlock∧(some k_≠(.slice Ao61 x740001_2.length co61:Value).ownBlock∧(k_≠gb716∧(k_≠gb717∧k_≠gb739)))))) _ _ x740002_2 x6_2 t740 t741 t744 _ ?_ ?_ ?_ A48.out).mono ?_);exact Kd.Cz (Kd.Yr HO_740001.out).2.2;exact (Kd.Yr HO_740001.out).2.1;exact HO_740002.out;rintro e w63 ⟨v742,v745,rfl,ho0,ho1,hb⟩;refine ⟨_,rfl,?_⟩;replace HO_717002:=yam (Kd.N_elder' (by (with_reducible repeat (first|apply Kd.N_alloc|apply Kd.N_drewN|apply Kd.N_drew));exact HO_717002.out) (Kd.Yb ho0) hb);replace HO_740002:=yam (Kd.V_elder' (by (with_reducible repeat (first|apply Kd.V_alloc|apply Kd.V_drewN|apply Kd.V_drew));exact HO_740002.out) (Kd.Yb ho0) hb);have HO743:=yam (Kd.R_lower (Kd.Yw (Kd.Yw (Kd.R_newM (M:=fun k_=>(w.heap.size≤k_)) (Kd.R_mono (ok':=fun k_=>True) ho0 (fun _ hk_=>trivial)) (below_size yhb) (fun k_ h_=>h_)) (Kd.R_lt (Kd.Yz HO_717001.out))) (Kd.R_lt (Kd.Yz HO_740001.out))) (below_size yhb));have HO746:=yam (Kd.V_lower (Kd.V_mono (ok':=fun k_=>(w.heap.size≤k_)∧some k_≠(v742:Value).ownBlock∧some k_≠(.slice Ao10 t719.length co10:Value).ownBlock∧some k_≠(.slice Ao61 x740001_2.length co61:Value).ownBlock∧k_≠gb716∧k_≠gb717∧k_≠gb739) ho1 (fun k_ hk_=>⟨Or.elim hk_.1 (fun hs_=>hs_.1) (fun hn_=>(Nat.le_trans (below_size yhb) hn_)),hk_.2,Or.elim hk_.1 (fun hs_=>hs_.2.1) (fun hn_=>(Kd.fresh' (Kd.R_lt (Kd.Yz HO_717001.out)) k_ hn_)),Or.elim hk_.1 (fun hs_=>hs_.2.2.1) (fun hn_=>(Kd.fresh' (Kd.R_lt (Kd.Yz HO_740001.out)) k_ hn_)),Or.elim hk_.1 (fun hs_=>hs_.2.2.2.1) (fun hn_=>(Kd.freshB (g:=gb716) (o:= .cells #[.int .i64 t718,.slice Ao10 t719.length co10,.slice Ao11 t722.length co11] 37 (0,0)) (ybz BK716.out) k_ hn_)),Or.elim hk_.1 (fun hs_=>hs_.2.2.2.2.1) (fun hn_=>(Kd.freshB (g:=gb717) (o:= .cells #[.int .i64 0,.slice none 0 0,.slice none 0 0] 37 (0,0)) (ybz BK717.out) k_ hn_)),Or.elim hk_.1 (fun hs_=>hs_.2.2.2.2.2) (fun hn_=>(Kd.freshB (g:=gb739) (o:= .cells #[.int .i64 x740000_2,.slice Ao61 x740001_2.length co61,.slice Ao62 x740002_2.length co62] 37 (0,0)) (ybz BK739.out) k_ hn_))⟩)) (below_size yhb));replace HO_717001:=yam (Kd.Ye (Kd.Yz HO_717001.out) (Kd.Yb ho0) hb);replace HO_740001:=yam (Kd.Ye (Kd.Yz HO_740001.out) (Kd.Yb ho0) hb);replace BK716:=yam (ybb BK716.out hb);replace BK717:=yam (ybb BK717.out hb);replace BK739:=yam (ybb BK739.out hb);replace HB:=yam (below_step yhb hb);(try clear hb);(try clear ho0);(try clear ho1);obtain ⟨Ao64,co64,eo64⟩:=Kd.R_slice HO743.out;subst eo64;obtain ⟨Ao65,co65,eo65⟩:=Kd.V_slice HO746.out;subst eo65)|(refine goesL_ (some 47) rfl rfl Try.func67 (by kernel_rfl) rfl #[.agg #[.int .i64 t740,.slice Ao64 t741.length co64,.slice Ao65 t744.length co65],.int .i64 ji52] rfl (by (try simp only [List.map_toArray,List.map_cons,List.map_nil]);first|done|(simp only [hji52];rfl)|rfl|(simp only [List.length_drop,List.length_take];rfl)) ?_;(with_reducible refine (spec_l10Without.calls t740 _ _ t741 (fun k_=>((w.heap.size≤k_)∧(some k_≠(.slice Ao64 t741.length co64:Value).ownBlock∧(some k_≠(.slice Ao10 t719.length co10:Value).ownBlock∧(some k_≠(.slice Ao61 x740001_2.length co61:Value).ownBlock∧(k_≠gb716∧(k_≠gb717∧k_≠gb739))))))) _ _ t744 ji52 t747 t748 t751 _ ?_ ?_ ?_ A49.out).mono ?_);exact Kd.Cz (Kd.Yr HO743.out).2.2;exact (Kd.Yr HO743.out).2.1;exact HO746.out;rintro e w66 ⟨v749,v752,rfl,ho0,ho1,hb⟩;refine ⟨_,rfl,?_⟩;replace HO_717002:=yam (Kd.N_elder' (by (with_reducible repeat (first|apply Kd.N_alloc|apply Kd.N_drewN|apply Kd.N_drew));exact HO_717002.out) (Kd.Yb ho0) hb);replace HO_740002:=yam (Kd.V_elder' (by (with_reducible repeat (first|apply Kd.V_alloc|apply Kd.V_drewN|apply Kd.V_drew));exact HO_740002.out) (Kd.Yb ho0) hb);replace HO746:=yam (Kd.V_elder' (by (with_reducible repeat (first|apply Kd.V_alloc|apply Kd.V_drewN|apply Kd.V_drew));exact HO746.out) (Kd.Yb ho0) hb);have HO750:=yam (Kd.R_lower (Kd.Yw (Kd.Yw (Kd.Yw (Kd.R_newM (M:=fun k_=>(w.heap.size≤k_)) (Kd.R_mono (ok':=fun k_=>True) ho0 (fun _ hk_=>trivial)) (below_size yhb) (fun k_ h_=>h_)) (Kd.R_lt (Kd.Yz HO_717001.out))) (Kd.R_lt (Kd.Yz HO_740001.out))) (Kd.R_lt (Kd.Yz HO743.out))) (below_size yhb));have HO753:=yam (Kd.V_lower (Kd.V_mono (ok':=fun k_=>(w.heap.size≤k_)∧some k_≠(v749:Value).ownBlock∧some k_≠(.slice Ao10 t719.length co10:Value).ownBlock∧some k_≠(.slice Ao61 x740001_2.length co61:Value).ownBlock∧some k_≠(.slice Ao64 t741.length co64:Value).ownBlock∧k_≠gb716∧k_≠gb717∧k_≠gb739) ho1 (fun k_ hk_=>⟨Or.elim hk_.1 (fun hs_=>hs_.1) (fun hn_=>(Nat.le_trans (below_size yhb) hn_)),hk_.2,Or.elim hk_.1 (fun hs_=>hs_.2.2.1) (fun hn_=>(Kd.fresh' (Kd.R_lt (Kd.Yz HO_717001.out)) k_ hn_)),Or.elim hk_.1 (fun hs_=>hs_.2.2.2.1) (fun hn_=>(Kd.fresh' (Kd.R_lt (Kd.Yz HO_740001.out)) k_ hn_)),Or.elim hk_.1 (fun hs_=>hs_.2.1) (fun hn_=>(Kd.fresh' (Kd.R_lt (Kd.Yz HO743.out)) k_ hn_)),Or.elim hk_.1 (fun hs_=>hs_.2.2.2.2.1) (fun hn_=>(Kd.freshB (g:=gb716) (o:= .cells #[.int .i64 t718,.slice Ao10 t719.length co10,.slice Ao11 t722.length co11] 37 (0,0)) (ybz BK716.out) k_ hn_)),Or.elim hk_.1 (fun hs_=>hs_.2.2.2.2.2.1) (fun hn_=>(Kd.freshB (g:=gb717) (o:= .cells #[.int .i64 0,.slice none 0 0,.slice none 0 0] 37 (0,0)) (ybz BK717.out) k_ hn_)),Or.elim hk_.1 (fun hs_=>hs_.2.2.2.2.2.2) (fun hn_=>(Kd.freshB (g:=gb739) (o:= .cells #[.int .i64 x740000_2,.slice Ao61 x740001_2.length co61,.slice Ao62 x740002_2.length co62] 37 (0,0)) (ybz BK739.out) k_ hn_))⟩)) (below_size yhb));replace HO_717001:=yam (Kd.Ye (Kd.Yz HO_717001.out) (Kd.Yb ho0) hb);replace HO_740001:=yam (Kd.Ye (Kd.Yz HO_740001.out) (Kd.Yb ho0) hb);replace HO743:=yam (Kd.Ye (Kd.Yz HO743.out) (Kd.Yb ho0) hb);replace BK716:=yam (ybb BK716.out hb);replace BK717:=yam (ybb BK717.out hb);replace BK739:=yam (ybb BK739.out hb);replace HB:=yam (below_step yhb hb);(try clear hb);(try clear ho0);(try clear ho1))|(refine ybe 7 #[.int .i64 0,.slice none 0 0,.slice none 0 0] 37 ?_;intro gb754 hg w67 hbox hb;replace HO_717001:=yam (Kd.R_below (Kd.Yz HO_717001.out) hb);replace HO_717002:=yam (Kd.N_below (Kd.N_elderB (by (with_reducible repeat (first|apply Kd.N_alloc|apply Kd.N_drewN|apply Kd.N_drew));exact HO_717002.out) gb754 (Nat.le_of_eq hg.symm)) hb);replace HO_740001:=yam (Kd.R_below (Kd.Yz HO_740001.out) hb);replace HO_740002:=yam (Kd.V_below (Kd.V_elderB (by (with_reducible repeat (first|apply Kd.V_alloc|apply Kd.V_drewN|apply Kd.V_drew));exact HO_740002.out) gb754 (Nat.le_of_eq hg.symm)) hb);replace HO743:=yam (Kd.R_below (Kd.Yz HO743.out) hb);replace HO746:=yam (Kd.V_below (Kd.V_elderB (by (with_reducible repeat (first|apply Kd.V_alloc|apply Kd.V_drewN|apply Kd.V_drew));exact HO746.out) gb754 (Nat.le_of_eq hg.symm)) hb);replace HO750:=yam (Kd.R_below (Kd.Yz HO750.out) hb);replace HO753:=yam (Kd.V_below (Kd.V_elderB (by (with_reducible repeat (first|apply Kd.V_alloc|apply Kd.V_drewN|apply Kd.V_drew));exact HO753.out) gb754 (Nat.le_of_eq hg.symm)) hb);have BK754:=yam (hbox);have GW754:=yam ((by rw [hg];exact (below_size yhb):w.heap.size≤gb754));replace HB:=yam (below_step yhb hb);have GE754:=GW754;have NB716_754:=yam ((by rw [hg];exact Nat.ne_of_lt (blk_lt (g:=gb716) (o:= .cells #[.int .i64 t718,.slice Ao10 t719.length co10,.slice Ao11 t722.length co11] 37 (0,0)) (ybz BK716.out)):gb716≠gb754));have NB754_716:=yam ((by rw [hg];exact Nat.ne_of_gt (blk_lt (g:=gb716) (o:= .cells #[.int .i64 t718,.slice Ao10 t719.length co10,.slice Ao11 t722.length co11] 37 (0,0)) (ybz BK716.out)):gb754≠gb716));replace BK716:=yam (ybb BK716.out hb);have NB717_754:=yam ((by rw [hg];exact Nat.ne_of_lt (blk_lt (g:=gb717) (o:= .cells #[.int .i64 0,.slice none 0 0,.slice none 0 0] 37 (0,0)) (ybz BK717.out)):gb717≠gb754));have NB754_717:=yam ((by rw [hg];exact Nat.ne_of_gt (blk_lt (g:=gb717) (o:= .cells #[.int .i64 0,.slice none 0 0,.slice none 0 0] 37 (0,0)) (ybz BK717.out)):gb754≠gb717));replace BK717:=yam (ybb BK717.out hb);have NB739_754:=yam ((by rw [hg];exact Nat.ne_of_lt (blk_lt (g:=gb739) (o:= .cells #[.int .i64 x740000_2,.slice Ao61 x740001_2.length co61,.slice Ao62 x740002_2.length co62] 37 (0,0)) (ybz BK739.out)):gb739≠gb754));have NB754_739:=yam ((by rw [hg];exact Nat.ne_of_gt (blk_lt (g:=gb739) (o:= .cells #[.int .i64 x740000_2,.slice Ao61 x740001_2.length co61,.slice Ao62 x740002_2.length co62] 37 (0,0)) (ybz BK739.out)):gb754≠gb739));replace BK739:=yam (ybb BK739.out hb);clear hb hbox hg;have hnb68:=NB754_716.out;have hnc68:=NB716_754.out;have hnb69:=NB754_717.out;have hnc69:=NB717_754.out;have hnb70:=NB754_739.out;have hnc70:=NB739_754.out;obtain ⟨hcz71_0,hcz71_1,hcz71_2,hfz71_0,hfz71_1,hfz71_2⟩:=ybc BK754.out;obtain ⟨Ao72,co72,eo72⟩:=Kd.R_slice HO750.out;subst eo72;obtain ⟨Ao73,co73,eo73⟩:=Kd.V_slice HO753.out;subst eo73))
   have n0_:Aside0 (Kd.R (Kd.int .i64) 3 (((w67.setCell ⟨gb754,0,none⟩ (.int .i64 t747)).setCell ⟨gb754,1,none⟩ (.slice Ao72 t748.length co72)).setCell ⟨gb754,2,none⟩ (.slice Ao73 t751.length co73)) w.heap.size (fun k_=>(w.heap.size≤k_)∧some k_≠(.slice Ao61 x740001_2.length co61:Value).ownBlock∧some k_≠(.slice Ao64 t741.length co64:Value).ownBlock∧some k_≠(.slice Ao72 t748.length co72:Value).ownBlock) (.slice Ao10 t719.length co10) t719):=⟨by (with_reducible repeat (first|apply Kd.Ya|apply Kd.Yn|apply Kd.Yd));exact Kd.R_mono (Kd.R_far (p:=⟨gb754,2,none⟩) (Kd.R_far (p:=⟨gb754,1,none⟩) (Kd.R_far (p:=⟨gb754,0,none⟩) (Kd.R_types HO_717001.out BK754.out (by decide)) (fun _ hk=>hk.2) (.int .i64 t747)) (fun _ hk=>hk.2) (.slice Ao72 t748.length co72)) (fun _ hk=>hk.2) (.slice Ao73 t751.length co73)) (fun _ hk=>⟨hk.1.1.1.1,⟨hk.1.1.1.2,⟨hk.1.1.2,hk.1.2⟩⟩⟩)⟩
   have n1_:Aside0 (Kd.N k73 73 (((w67.setCell ⟨gb754,0,none⟩ (.int .i64 t747)).setCell ⟨gb754,1,none⟩ (.slice Ao72 t748.length co72)).setCell ⟨gb754,2,none⟩ (.slice Ao73 t751.length co73)) w.heap.size (fun k_=>(w.heap.size≤k_)∧some k_≠(.slice Ao10 t719.length co10:Value).ownBlock∧some k_≠(.slice Ao61 x740001_2.length co61:Value).ownBlock∧some k_≠(.slice Ao64 t741.length co64:Value).ownBlock∧some k_≠(.slice Ao72 t748.length co72:Value).ownBlock∧k_≠gb716∧k_≠gb717∧k_≠gb739∧k_≠gb754) (.slice Ao11 t722.length co11) t722):=⟨by (with_reducible repeat (first|apply Kd.N_alloc|apply Kd.N_drewN|apply Kd.N_drew));exact Kd.N_mono (Kd.N_far (p:=⟨gb754,2,none⟩) (Kd.N_far (p:=⟨gb754,1,none⟩) (Kd.N_far (p:=⟨gb754,0,none⟩) (Kd.N_mono HO_717002.out (fun k_ hk=>(⟨hk,hk.2⟩:_∧k_≠gb754))) (fun _ hk=>hk.2) (.int .i64 t747)) (fun _ hk=>hk.2) (.slice Ao72 t748.length co72)) (fun _ hk=>hk.2) (.slice Ao73 t751.length co73)) (fun _ hk=>⟨hk.1.1.1.1.1,⟨hk.1.1.1.1.2.1,⟨hk.1.1.1.1.2.2.1,⟨hk.1.1.1.2,⟨hk.1.1.2,⟨hk.1.1.1.1.2.2.2.1,⟨hk.1.1.1.1.2.2.2.2.1,⟨hk.1.1.1.1.2.2.2.2.2,hk.1.2⟩⟩⟩⟩⟩⟩⟩⟩)⟩
   have n2_:Aside0 (Kd.R (Kd.int .i64) 3 (((w67.setCell ⟨gb754,0,none⟩ (.int .i64 t747)).setCell ⟨gb754,1,none⟩ (.slice Ao72 t748.length co72)).setCell ⟨gb754,2,none⟩ (.slice Ao73 t751.length co73)) w.heap.size (fun k_=>(w.heap.size≤k_)∧some k_≠(.slice Ao10 t719.length co10:Value).ownBlock∧some k_≠(.slice Ao64 t741.length co64:Value).ownBlock∧some k_≠(.slice Ao72 t748.length co72:Value).ownBlock) (.slice Ao61 x740001_2.length co61) x740001_2):=⟨by (with_reducible repeat (first|apply Kd.Ya|apply Kd.Yn|apply Kd.Yd));exact Kd.R_mono (Kd.R_far (p:=⟨gb754,2,none⟩) (Kd.R_far (p:=⟨gb754,1,none⟩) (Kd.R_far (p:=⟨gb754,0,none⟩) (Kd.R_types HO_740001.out BK754.out (by decide)) (fun _ hk=>hk.2) (.int .i64 t747)) (fun _ hk=>hk.2) (.slice Ao72 t748.length co72)) (fun _ hk=>hk.2) (.slice Ao73 t751.length co73)) (fun _ hk=>⟨hk.1.1.1.1,⟨hk.1.1.1.2,⟨hk.1.1.2,hk.1.2⟩⟩⟩)⟩
   have n3_:Aside0 (Kd.V k73 73 (((w67.setCell ⟨gb754,0,none⟩ (.int .i64 t747)).setCell ⟨gb754,1,none⟩ (.slice Ao72 t748.length co72)).setCell ⟨gb754,2,none⟩ (.slice Ao73 t751.length co73)) w.heap.size (fun k_=>(w.heap.size≤k_)∧some k_≠(.slice Ao10 t719.length co10:Value).ownBlock∧some k_≠(.slice Ao61 x740001_2.length co61:Value).ownBlock∧some k_≠(.slice Ao64 t741.length co64:Value).ownBlock∧some k_≠(.slice Ao72 t748.length co72:Value).ownBlock∧k_≠gb716∧k_≠gb717∧k_≠gb739∧k_≠gb754) (.slice Ao62 x740002_2.length co62) x740002_2):=⟨by (with_reducible repeat (first|apply Kd.V_alloc|apply Kd.V_drewN|apply Kd.V_drew));exact Kd.V_mono (Kd.V_far (p:=⟨gb754,2,none⟩) (Kd.V_far (p:=⟨gb754,1,none⟩) (Kd.V_far (p:=⟨gb754,0,none⟩) (Kd.V_mono HO_740002.out (fun k_ hk=>(⟨hk,hk.2⟩:_∧k_≠gb754))) (fun _ hk=>hk.2) (.int .i64 t747)) (fun _ hk=>hk.2) (.slice Ao72 t748.length co72)) (fun _ hk=>hk.2) (.slice Ao73 t751.length co73)) (fun _ hk=>⟨hk.1.1.1.1.1,⟨hk.1.1.1.1.2.1,⟨hk.1.1.1.1.2.2.1,⟨hk.1.1.1.2,⟨hk.1.1.2,⟨hk.1.1.1.1.2.2.2.1,⟨hk.1.1.1.1.2.2.2.2.1,⟨hk.1.1.1.1.2.2.2.2.2,hk.1.2⟩⟩⟩⟩⟩⟩⟩⟩)⟩
   have n4_:Aside0 (Kd.R (Kd.int .i64) 3 (((w67.setCell ⟨gb754,0,none⟩ (.int .i64 t747)).setCell ⟨gb754,1,none⟩ (.slice Ao72 t748.length co72)).setCell ⟨gb754,2,none⟩ (.slice Ao73 t751.length co73)) w.heap.size (fun k_=>(w.heap.size≤k_)∧some k_≠(.slice Ao10 t719.length co10:Value).ownBlock∧some k_≠(.slice Ao61 x740001_2.length co61:Value).ownBlock∧some k_≠(.slice Ao72 t748.length co72:Value).ownBlock) (.slice Ao64 t741.length co64) t741):=⟨by (with_reducible repeat (first|apply Kd.Ya|apply Kd.Yn|apply Kd.Yd));exact Kd.R_mono (Kd.R_far (p:=⟨gb754,2,none⟩) (Kd.R_far (p:=⟨gb754,1,none⟩) (Kd.R_far (p:=⟨gb754,0,none⟩) (Kd.R_types HO743.out BK754.out (by decide)) (fun _ hk=>hk.2) (.int .i64 t747)) (fun _ hk=>hk.2) (.slice Ao72 t748.length co72)) (fun _ hk=>hk.2) (.slice Ao73 t751.length co73)) (fun _ hk=>⟨hk.1.1.1.1.1,⟨hk.1.1.1.2,⟨hk.1.1.2,hk.1.2⟩⟩⟩)⟩
   have n5_:Aside0 (Kd.V k73 73 (((w67.setCell ⟨gb754,0,none⟩ (.int .i64 t747)).setCell ⟨gb754,1,none⟩ (.slice Ao72 t748.length co72)).setCell ⟨gb754,2,none⟩ (.slice Ao73 t751.length co73)) w.heap.size (fun k_=>(w.heap.size≤k_)∧some k_≠(.slice Ao10 t719.length co10:Value).ownBlock∧some k_≠(.slice Ao61 x740001_2.length co61:Value).ownBlock∧some k_≠(.slice Ao64 t741.length co64:Value).ownBlock∧some k_≠(.slice Ao72 t748.length co72:Value).ownBlock∧k_≠gb716∧k_≠gb717∧k_≠gb739∧k_≠gb754) (.slice Ao65 t744.length co65) t744):=⟨by (with_reducible repeat (first|apply Kd.V_alloc|apply Kd.V_drewN|apply Kd.V_drew));exact Kd.V_mono (Kd.V_far (p:=⟨gb754,2,none⟩) (Kd.V_far (p:=⟨gb754,1,none⟩) (Kd.V_far (p:=⟨gb754,0,none⟩) (Kd.V_mono HO746.out (fun k_ hk=>(⟨hk,hk.2⟩:_∧k_≠gb754))) (fun _ hk=>hk.2) (.int .i64 t747)) (fun _ hk=>hk.2) (.slice Ao72 t748.length co72)) (fun _ hk=>hk.2) (.slice Ao73 t751.length co73)) (fun _ hk=>⟨hk.1.1.1.1,⟨hk.1.1.1.2.2.1,⟨hk.1.1.1.2.2.2.1,⟨hk.1.1.1.2.1,⟨hk.1.1.2,⟨hk.1.1.1.2.2.2.2.1,⟨hk.1.1.1.2.2.2.2.2.1,⟨hk.1.1.1.2.2.2.2.2.2,hk.1.2⟩⟩⟩⟩⟩⟩⟩⟩)⟩
   have n6_:Aside0 (Kd.R (Kd.int .i64) 3 (((w67.setCell ⟨gb754,0,none⟩ (.int .i64 t747)).setCell ⟨gb754,1,none⟩ (.slice Ao72 t748.length co72)).setCell ⟨gb754,2,none⟩ (.slice Ao73 t751.length co73)) w.heap.size (fun k_=>(w.heap.size≤k_)∧some k_≠(.slice Ao10 t719.length co10:Value).ownBlock∧some k_≠(.slice Ao61 x740001_2.length co61:Value).ownBlock∧some k_≠(.slice Ao64 t741.length co64:Value).ownBlock) (.slice Ao72 t748.length co72) t748):=⟨by (with_reducible repeat (first|apply Kd.Ya|apply Kd.Yn|apply Kd.Yd));exact Kd.R_mono (Kd.R_far (p:=⟨gb754,2,none⟩) (Kd.R_far (p:=⟨gb754,1,none⟩) (Kd.R_far (p:=⟨gb754,0,none⟩) (Kd.R_types HO750.out BK754.out (by decide)) (fun _ hk=>hk.2) (.int .i64 t747)) (fun _ hk=>hk.2) (.slice Ao72 t748.length co72)) (fun _ hk=>hk.2) (.slice Ao73 t751.length co73)) (fun _ hk=>⟨hk.1.1.1.1.1,⟨hk.1.1.1.2,⟨hk.1.1.2,hk.1.2⟩⟩⟩)⟩
   have n7_:Aside0 (Kd.V k73 73 (((w67.setCell ⟨gb754,0,none⟩ (.int .i64 t747)).setCell ⟨gb754,1,none⟩ (.slice Ao72 t748.length co72)).setCell ⟨gb754,2,none⟩ (.slice Ao73 t751.length co73)) w.heap.size (fun k_=>(w.heap.size≤k_)∧some k_≠(.slice Ao10 t719.length co10:Value).ownBlock∧some k_≠(.slice Ao61 x740001_2.length co61:Value).ownBlock∧some k_≠(.slice Ao64 t741.length co64:Value).ownBlock∧some k_≠(.slice Ao72 t748.length co72:Value).ownBlock∧k_≠gb716∧k_≠gb717∧k_≠gb739∧k_≠gb754) (.slice Ao73 t751.length co73) t751):=⟨by (with_reducible repeat (first|apply Kd.V_alloc|apply Kd.V_drewN|apply Kd.V_drew));exact Kd.V_mono (Kd.V_far (p:=⟨gb754,2,none⟩) (Kd.V_far (p:=⟨gb754,1,none⟩) (Kd.V_far (p:=⟨gb754,0,none⟩) (Kd.V_mono HO753.out (fun k_ hk=>(⟨hk,hk.2⟩:_∧k_≠gb754))) (fun _ hk=>hk.2) (.int .i64 t747)) (fun _ hk=>hk.2) (.slice Ao72 t748.length co72)) (fun _ hk=>hk.2) (.slice Ao73 t751.length co73)) (fun _ hk=>⟨hk.1.1.1,⟨hk.1.1.2.2.1,⟨hk.1.1.2.2.2.1,⟨hk.1.1.2.2.2.2.1,⟨hk.1.1.2.1,⟨hk.1.1.2.2.2.2.2.1,⟨hk.1.1.2.2.2.2.2.2.1,⟨hk.1.1.2.2.2.2.2.2.2,hk.1.2⟩⟩⟩⟩⟩⟩⟩⟩)⟩
   have n8_:Aside0 ((((w67.setCell ⟨gb754,0,none⟩ (.int .i64 t747)).setCell ⟨gb754,1,none⟩ (.slice Ao72 t748.length co72)).setCell ⟨gb754,2,none⟩ (.slice Ao73 t751.length co73)).heap[gb716]?=some (.cells #[.int .i64 t718,.slice Ao10 t719.length co10,.slice Ao11 t722.length co11] 37 (0,0))):=⟨by (with_reducible repeat (first|refine ybn ?_ _|refine ybd ?_|refine yba ?_ _));refine blk_far ?_ NB716_754.out _;(with_reducible repeat (first|refine ybn ?_ _|refine ybd ?_|refine yba ?_ _));refine blk_far ?_ NB716_754.out _;(with_reducible repeat (first|refine ybn ?_ _|refine ybd ?_|refine yba ?_ _));refine blk_far ?_ NB716_754.out _;(with_reducible repeat (first|refine ybn ?_ _|refine ybd ?_|refine yba ?_ _));exact BK716.out⟩
   have n9_:Aside0 ((((w67.setCell ⟨gb754,0,none⟩ (.int .i64 t747)).setCell ⟨gb754,1,none⟩ (.slice Ao72 t748.length co72)).setCell ⟨gb754,2,none⟩ (.slice Ao73 t751.length co73)).heap[gb717]?=some (.cells #[.int .i64 0,.slice none 0 0,.slice none 0 0] 37 (0,0))):=⟨by (with_reducible repeat (first|refine ybn ?_ _|refine ybd ?_|refine yba ?_ _));refine blk_far ?_ NB717_754.out _;(with_reducible repeat (first|refine ybn ?_ _|refine ybd ?_|refine yba ?_ _));refine blk_far ?_ NB717_754.out _;(with_reducible repeat (first|refine ybn ?_ _|refine ybd ?_|refine yba ?_ _));refine blk_far ?_ NB717_754.out _;(with_reducible repeat (first|refine ybn ?_ _|refine ybd ?_|refine yba ?_ _));exact BK717.out⟩
   have n10_:Aside0 ((((w67.setCell ⟨gb754,0,none⟩ (.int .i64 t747)).setCell ⟨gb754,1,none⟩ (.slice Ao72 t748.length co72)).setCell ⟨gb754,2,none⟩ (.slice Ao73 t751.length co73)).heap[gb739]?=some (.cells #[.int .i64 x740000_2,.slice Ao61 x740001_2.length co61,.slice Ao62 x740002_2.length co62] 37 (0,0))):=⟨by (with_reducible repeat (first|refine ybn ?_ _|refine ybd ?_|refine yba ?_ _));refine blk_far ?_ NB739_754.out _;(with_reducible repeat (first|refine ybn ?_ _|refine ybd ?_|refine yba ?_ _));refine blk_far ?_ NB739_754.out _;(with_reducible repeat (first|refine ybn ?_ _|refine ybd ?_|refine yba ?_ _));refine blk_far ?_ NB739_754.out _;(with_reducible repeat (first|refine ybn ?_ _|refine ybd ?_|refine yba ?_ _));exact BK739.out⟩
   have n11_:Aside0 ((((w67.setCell ⟨gb754,0,none⟩ (.int .i64 t747)).setCell ⟨gb754,1,none⟩ (.slice Ao72 t748.length co72)).setCell ⟨gb754,2,none⟩ (.slice Ao73 t751.length co73)).heap[gb754]?=some (.cells #[.int .i64 t747,.slice Ao72 t748.length co72,.slice Ao73 t751.length co73] 37 (0,0))):=⟨by (with_reducible repeat (first|refine ybn ?_ _|refine ybd ?_|refine yba ?_ _));refine blk_put (cs:= #[.int .i64 t747,.slice Ao72 t748.length co72,.slice none 0 0]) ?_ 2 _ rfl;(with_reducible repeat (first|refine ybn ?_ _|refine ybd ?_|refine yba ?_ _));refine blk_put (cs:= #[.int .i64 t747,.slice none 0 0,.slice none 0 0]) ?_ 1 _ rfl;(with_reducible repeat (first|refine ybn ?_ _|refine ybd ?_|refine yba ?_ _));refine blk_put (cs:= #[.int .i64 0,.slice none 0 0,.slice none 0 0]) ?_ 0 _ rfl;(with_reducible repeat (first|refine ybn ?_ _|refine ybd ?_|refine yba ?_ _));exact BK754.out⟩
   have n12_:Aside0 (Below w.heap.size w (((w67.setCell ⟨gb754,0,none⟩ (.int .i64 t747)).setCell ⟨gb754,1,none⟩ (.slice Ao72 t748.length co72)).setCell ⟨gb754,2,none⟩ (.slice Ao73 t751.length co73))):=⟨yhb⟩
   (try clear HO_717001)
   (try clear HO_717002)
   (try clear HO_740001)
   (try clear HO_740002)
   (try clear HO743)
   (try clear HO746)
   (try clear HO750)
   (try clear HO753)
   (try clear BK716)
   (try clear BK717)
   (try clear BK739)
   (try clear BK754)
   (try clear HB)
   generalize (((w67.setCell ⟨gb754,0,none⟩ (.int .i64 t747)).setCell ⟨gb754,1,none⟩ (.slice Ao72 t748.length co72)).setCell ⟨gb754,2,none⟩ (.slice Ao73 t751.length co73))=w74 at n0_ n1_ n2_ n3_ n4_ n5_ n6_ n7_ n8_ n9_ n10_ n11_ n12_ ⊢
   have HO_717001:=n0_
   have HO_717002:=n1_
   have HO_740001:=n2_
   have HO_740002:=n3_
   have HO743:=n4_
   have HO746:=n5_
   have HO750:=n6_
   have HO753:=n7_
   have BK716:=n8_
   have BK717:=n9_
   have BK739:=n10_
   have BK754:=n11_
   have HB:=n12_
   clear n0_ n1_ n2_ n3_ n4_ n5_ n6_ n7_ n8_ n9_ n10_ n11_ n12_
   replace HO_717001:=yam (Kd.Yd HO_717001.out)
   replace HO_717002:=yam (Kd.N_drew HO_717002.out)
   replace HO_740001:=yam (Kd.Yd HO_740001.out)
   replace HO_740002:=yam (Kd.V_drew HO_740002.out)
   replace HO743:=yam (Kd.Yd HO743.out)
   replace HO746:=yam (Kd.V_drew HO746.out)
   replace HO750:=yam (Kd.Yd HO750.out)
   replace HO753:=yam (Kd.V_drew HO753.out)
   replace BK716:=yam (ybd BK716.out)
   replace BK717:=yam (ybd BK717.out)
   replace BK739:=yam (ybd BK739.out)
   replace BK754:=yam (ybd BK754.out)
   replace HB:=yam (yed HB.out)
   obtain ⟨ad755,e755,hx755_0,p755,q755⟩:=yat (Kd.Yr HO_740001.out).2.2 x6_2
   cases e755
   obtain ⟨ad756,e756,hx756_0,p756,q756⟩:=yat (Kd.Yr HO_740001.out).2.2 (ji52)
   obtain rfl:ad755=ad756:=(by injection e756)
   refine start_ (n:=18) (S:=fun w'=>w'.cell? ⟨gb739,0,none⟩=some (.int .i64 x740000_2)∧w'.cell? ⟨gb739,1,none⟩=some (.slice (some ad755) x740001_2.length co61)∧w'.cell? ⟨gb739,2,none⟩=some (.slice Ao62 x740002_2.length co62)∧w'.cell? ⟨gb754,0,none⟩=some (.int .i64 t747)∧w'.cell? ⟨gb754,1,none⟩=some (.slice Ao72 t748.length co72)∧w'.cell? ⟨gb754,2,none⟩=some (.slice Ao73 t751.length co73)∧w'.cell? (ad755.add (x6_2).toNat)=some (.int .i64 (rd x740001_2 x6_2))∧w'.cell? (ad755.add ((ji52)).toNat)=some (.int .i64 (rd x740001_2 (ji52)))) (ds:=[]) (yvb 18 0) (by kernel_rfl) rfl rfl ⟨(blk_cell BK739.out 0).trans rfl,(blk_cell BK739.out 1).trans rfl,(blk_cell BK739.out 2).trans rfl,(blk_cell BK754.out 0).trans rfl,(blk_cell BK754.out 1).trans rfl,(blk_cell BK754.out 2).trans rfl,hx755_0,hx756_0⟩ (fun hHeld=>?_);refine with_tabW spec_MakeEven.tab10 spec_MakeEven.bits10 (fun HT_ HW_=>?_)
   generalize w74.drew=w75 at HO_717001 HO_717002 HO_740001 HO_740002 HO743 HO746 HO750 HO753 BK716 BK717 BK739 BK754 HB hx755_0 hx756_0 hHeld ⊢
   refine yvp 0 48 (yvb 18 1) HT_.out ?_
   refine yvp 2 50 (yvb 18 5) HT_.out ?_
   refine yvp 5 53 (yvb 18 37) HT_.out ?_
   refine yvp 7 55 (yvb 18 165) HT_.out ?_
   refine yvp 8 56 (yvb 18 421) HT_.out ?_
   refine yvp 9 57 (yvb 18 933) HT_.out ?_
   refine yvt 1 49 (yvb 18 935) HT_.out HW_.out hHeld ?_
   refine yvp 3 51 (yvb 18 943) HT_.out ?_
   refine yvt 4 52 (yvb 18 959) HT_.out HW_.out hHeld ?_
   refine yvt 6 54 (yvb 18 1023) HT_.out HW_.out hHeld ?_
   refine yvp 10 58 (yvb 18 2047) HT_.out ?_
   refine yvt 11 59 (yvb 18 4095) HT_.out HW_.out hHeld ?_
   refine yvp 12 60 (yvb 18 8191) HT_.out ?_
   refine yvp 13 61 (yvb 18 16383) HT_.out ?_
   refine yvp 14 62 (yvb 18 32767) HT_.out ?_
   refine yvt 15 63 (yvb 18 65535) HT_.out HW_.out hHeld ?_
   refine one_ (i:=16) (N:=some 64) (yvb 18 131071) rfl rfl (one_of HT_.out (by kernel_rfl)) (by decide) (fun K hK=>?_)
   refine goes_ Try.func66 (by kernel_rfl) rfl #[.agg #[.int .i64 t747,.slice Ao72 t748.length co72,.slice Ao73 t751.length co73]] (by rfl) rfl rfl ymd ?_
   with_reducible refine (spec_l10One.calls k2 t747 _ _ t748 _ _ t751 true _ ?side1 ?side2 ?side3 ?side4 A56.out).mono ?_
   (case side1=>exact Kd.Cz (Kd.Yr HO750.out).2.2)
   (case side2=>exact (Kd.Yr HO750.out).2.1)
   (case side3=>repeat (first|exact (Kd.V_reads' HO753.out).2.2|(with_reducible refine Kd.C_alloc ?_ _)|(with_reducible refine Kd.C_drewN ?_ _)|(with_reducible refine Kd.C_drew ?_)))
   (case side4=>exact (Kd.V_reads' HO753.out).2.1)
   rintro e w76 ⟨rfl,hb⟩
   have HS6_:=(hb.cell (World.block_lt_of_cell? _ _ (hHeld.2.2.2.2.2.2.1))).trans (hHeld.2.2.2.2.2.2.1)
   have HS7_:=(hb.cell (World.block_lt_of_cell? _ _ (hHeld.2.2.2.2.2.2.2))).trans (hHeld.2.2.2.2.2.2.2)
   refine ⟨_,rfl,?_⟩
   replace HO_717001:=yam (Kd.R_below (Kd.Yz HO_717001.out) hb)
   replace HO_717002:=yam (Kd.N_below (by (with_reducible repeat (first|apply Kd.N_alloc|apply Kd.N_drewN|apply Kd.N_drew));exact HO_717002.out) hb)
   replace HO_740001:=yam (Kd.R_below (Kd.Yz HO_740001.out) hb)
   replace HO_740002:=yam (Kd.V_below (by (with_reducible repeat (first|apply Kd.V_alloc|apply Kd.V_drewN|apply Kd.V_drew));exact HO_740002.out) hb)
   replace HO743:=yam (Kd.R_below (Kd.Yz HO743.out) hb)
   replace HO746:=yam (Kd.V_below (by (with_reducible repeat (first|apply Kd.V_alloc|apply Kd.V_drewN|apply Kd.V_drew));exact HO746.out) hb)
   replace HO750:=yam (Kd.R_below (Kd.Yz HO750.out) hb)
   replace HO753:=yam (Kd.V_below (by (with_reducible repeat (first|apply Kd.V_alloc|apply Kd.V_drewN|apply Kd.V_drew));exact HO753.out) hb)
   replace BK716:=yam (ybb BK716.out hb)
   replace BK717:=yam (ybb BK717.out hb)
   replace BK739:=yam (ybb BK739.out hb)
   replace BK754:=yam (ybb BK754.out hb)
   replace HB:=yam (below_step yhb hb)
   (try clear hb)
   (try clear hb2)
   (try clear hk)
   (try clear hi)
   refine hK.out _ _ ⟨(blk_cell BK739.out 0).trans rfl,(blk_cell BK739.out 1).trans rfl,(blk_cell BK739.out 2).trans rfl,(blk_cell BK754.out 0).trans rfl,(blk_cell BK754.out 1).trans rfl,(blk_cell BK754.out 2).trans rfl,HS6_,HS7_⟩ (fun hHeld=>?_)
   clear hK K
   refine norm_ (a':=?_) ?_ ?_
   rotate_left
   ·show Act.put _ (some 64) _=_
    simp only [Act.put,yps,i64_w,i32_w]
    rfl
   refine yvp 17 65 (yvb 18 262143) HT_.out ?_
   refine done_ (done_of HT_.out (by kernel_rfl)) ?_
   obtain ⟨hcz77_0,hcz77_1,hcz77_2,hfz77_0,hfz77_1,hfz77_2⟩:=ybc BK754.out
   obtain ⟨hcz78_0,hcz78_1,hcz78_2,hfz78_0,hfz78_1,hfz78_2⟩:=ybc BK739.out
   try go_wp2
   go_roundg k2
   case measure=>have:=HJ2.out;have:=HK2.out;omega
   case rel=>exact ⟨(wrap64 (x6_2 + 1)),(t747),(t748),(t751),(.slice Ao72 t748.length co72),(.slice Ao73 t751.length co73),yeq,H,⟨by have:=HJ2.out;have:=HK2.out;omega⟩,⟨by (with_reducible repeat (first|apply Kd.Ya|apply Kd.Yn|apply Kd.Yd));exact Kd.R_mono (Kd.R_far (p:=⟨gb739,2,none⟩) (Kd.R_far (p:=⟨gb739,1,none⟩) (Kd.R_far (p:=⟨gb739,0,none⟩) (Kd.R_types HO_717001.out BK739.out (by decide)) (fun _ hk=>hk.2) (.int .i64 t747)) (fun _ hk=>hk.2) (.slice Ao72 t748.length co72)) (fun _ hk=>hk.2) (.slice Ao73 t751.length co73)) (fun _ hk=>⟨hk.1.1,hk.1.2.2.2⟩)⟩,⟨by (with_reducible repeat (first|apply Kd.N_alloc|apply Kd.N_drewN|apply Kd.N_drew));exact Kd.N_mono (Kd.N_far (p:=⟨gb739,2,none⟩) (Kd.N_far (p:=⟨gb739,1,none⟩) (Kd.N_far (p:=⟨gb739,0,none⟩) (Kd.N_mono HO_717002.out (fun k_ hk=>(⟨hk,hk.2.2.2.2.2.2.2.1⟩:_∧k_≠gb739))) (fun _ hk=>hk.2) (.int .i64 t747)) (fun _ hk=>hk.2) (.slice Ao72 t748.length co72)) (fun _ hk=>hk.2) (.slice Ao73 t751.length co73)) (fun _ hk=>⟨hk.1.1,⟨hk.1.2.1,⟨hk.1.2.2.2.2.1,⟨hk.1.2.2.2.2.2.1,⟨hk.1.2.2.2.2.2.2.1,hk.1.2.2.2.2.2.2.2.1⟩⟩⟩⟩⟩)⟩,⟨by (with_reducible repeat (first|apply Kd.Ya|apply Kd.Yn|apply Kd.Yd));exact Kd.R_mono (Kd.R_far (p:=⟨gb739,2,none⟩) (Kd.R_far (p:=⟨gb739,1,none⟩) (Kd.R_far (p:=⟨gb739,0,none⟩) (Kd.R_types HO750.out BK739.out (by decide)) (fun _ hk=>hk.2) (.int .i64 t747)) (fun _ hk=>hk.2) (.slice Ao72 t748.length co72)) (fun _ hk=>hk.2) (.slice Ao73 t751.length co73)) (fun _ hk=>⟨hk.1.1,hk.1.2.1⟩)⟩,⟨by (with_reducible repeat (first|apply Kd.V_alloc|apply Kd.V_drewN|apply Kd.V_drew));exact Kd.V_mono (Kd.V_far (p:=⟨gb739,2,none⟩) (Kd.V_far (p:=⟨gb739,1,none⟩) (Kd.V_far (p:=⟨gb739,0,none⟩) (Kd.V_mono HO753.out (fun k_ hk=>(⟨hk,hk.2.2.2.2.2.2.2.1⟩:_∧k_≠gb739))) (fun _ hk=>hk.2) (.int .i64 t747)) (fun _ hk=>hk.2) (.slice Ao72 t748.length co72)) (fun _ hk=>hk.2) (.slice Ao73 t751.length co73)) (fun _ hk=>⟨hk.1.1,⟨hk.1.2.1,⟨hk.1.2.2.2.2.1,⟨hk.1.2.2.2.2.2.1,⟨hk.1.2.2.2.2.2.2.1,hk.1.2.2.2.2.2.2.2.1⟩⟩⟩⟩⟩)⟩,⟨by (with_reducible repeat (first|refine ybn ?_ _|refine ybd ?_|refine yba ?_ _));refine blk_far ?_ NB716_739.out _;(with_reducible repeat (first|refine ybn ?_ _|refine ybd ?_|refine yba ?_ _));refine blk_far ?_ NB716_739.out _;(with_reducible repeat (first|refine ybn ?_ _|refine ybd ?_|refine yba ?_ _));refine blk_far ?_ NB716_739.out _;(with_reducible repeat (first|refine ybn ?_ _|refine ybd ?_|refine yba ?_ _));exact BK716.out⟩,⟨by (with_reducible repeat (first|refine ybn ?_ _|refine ybd ?_|refine yba ?_ _));refine blk_far ?_ NB717_739.out _;(with_reducible repeat (first|refine ybn ?_ _|refine ybd ?_|refine yba ?_ _));refine blk_far ?_ NB717_739.out _;(with_reducible repeat (first|refine ybn ?_ _|refine ybd ?_|refine yba ?_ _));refine blk_far ?_ NB717_739.out _;(with_reducible repeat (first|refine ybn ?_ _|refine ybd ?_|refine yba ?_ _));exact BK717.out⟩,⟨by (with_reducible repeat (first|refine ybn ?_ _|refine ybd ?_|refine yba ?_ _));refine blk_put (cs:= #[.int .i64 t747,.slice Ao72 t748.length co72,.slice Ao62 x740002_2.length co62]) ?_ 2 _ rfl;(with_reducible repeat (first|refine ybn ?_ _|refine ybd ?_|refine yba ?_ _));refine blk_put (cs:= #[.int .i64 t747,.slice (some ad755) x740001_2.length co61,.slice Ao62 x740002_2.length co62]) ?_ 1 _ rfl;(with_reducible repeat (first|refine ybn ?_ _|refine ybd ?_|refine yba ?_ _));refine blk_put (cs:= #[.int .i64 x740000_2,.slice (some ad755) x740001_2.length co61,.slice Ao62 x740002_2.length co62]) ?_ 0 _ rfl;(with_reducible repeat (first|refine ybn ?_ _|refine ybd ?_|refine yba ?_ _));exact BK739.out⟩,⟨yhb⟩⟩
end Go.Proofs.Ytmjbnghhfadapaa.P
