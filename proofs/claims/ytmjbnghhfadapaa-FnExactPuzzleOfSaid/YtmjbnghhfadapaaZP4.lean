/- The machine's side: each Go function as a plain Lean function and the proof that the machine's call does what that function says; written by this session's own program over the kit's print. -/
import Derived.Test.YtmjbnghhfadapaaZP1
import Derived.Test.YtmjbnghhfadapaaZP3
namespace Go.Proofs.Ytmjbnghhfadapaa.P
set_option maxHeartbeats 8000000
set_option maxRecDepth 100000
open Go.RowKit Go.Proofs.YtmjbnghhfadapaaW.PrintWords Go.Proofs.YtmjbnghhfadapaaW.PrintLast Go.Proofs.YtmjbnghhfadapaaW.PrintMore
attribute [local go_sem] max2_int min2_int max_two min_two max_three min_three max_four min_four   -- for this text's walks alone
set_option linter.unusedVariables false
set_option linter.unusedSimpArgs false
def impl_copyPuzzle.l0:Nat→List (S73)→Int→Int→Int→List Int→List (S73)→Option (Int × List Int × (List (S73)))
 | 0,_,_,_,_,_,_=>none
 | k + 1,x13,x14,x15,x488000,x488001,x488002=>if x15 < x14 then (if 0≤x15 then (if x15 < (x13.length:Int) then ((slices_Clone_int_int.f ((rd_T73 x13 x15).f1)).bind fun t490=>(if x488002.length < 3518437208883 then (impl_copyPuzzle.l0 k x13 x14 (wrap64 (x15 + 1)) x488000 x488001 (x488002 ++ [(⟨(rd_T73 x13 x15).f0,t490,(rd_T73 x13 x15).f2⟩:S73)])) else (none))) else (none)) else (none)) else (some (x488000,x488001,x488002))
def impl_copyPuzzle.f (k:Nat)(a0_0:Int)(l0_1:List Int)(l0_2:List (S73)):Option (Int × List Int × (List (S73))):=(slices_Clone_int_int.f l0_1).bind fun t484=>(impl_copyPuzzle.l0 k l0_2 (l0_2.length:Int) 0 a0_0 t484 ([]:List (S73)))
def impl_copyPuzzle.T1:Bool × List (List Nat × List Nat):=(true,[([],[]),([0],[0]),([],[]),([2],[2]),([3],[3]),([1,4],[1,4]),([],[]),([6,5,4,0,1,2,3,4,5,6],[5,6])])
def impl_copyPuzzle.B1:List Nat:=[0,1,0,4,12,31,0,127]
theorem impl_copyPuzzle.tab1:rtab .any (opsOf Try.f58 1)=impl_copyPuzzle.T1:=by kernel_rfl
theorem impl_copyPuzzle.bits1:waitsOk impl_copyPuzzle.T1.2 impl_copyPuzzle.B1=true:=by kernel_rfl
theorem impl_copyPuzzle.calls (k:Nat)(a0_0:Int)(A0_1:Option Addr)(c0_1:Nat)(l0_1:List Int)(A0_2:Option Addr)(c0_2:Nat)(l0_2:List (S73))(r1:Int)(r2:List Int)(r3:List (S73))(w:World)(hr0_1:Kd.C (Kd.int .i64) w A0_1 l0_1.length l0_1)(hc0_1:l0_1.length≤c0_1)(hr0_2:Kd.C k73 w A0_2 l0_2.length l0_2)(hc0_2:l0_2.length≤c0_2)(h:impl_copyPuzzle.f k a0_0 l0_1 l0_2=some (r1,r2,r3)) :
  Calls Try.prog 58 #[.agg #[.int .i64 a0_0,.slice A0_1 l0_1.length c0_1,.slice A0_2 l0_2.length c0_2]] w fun e w'=>∃ v1_ v2_:Value,e= .returned (.agg #[.int .i64 r1,v1_,v2_])∧Kd.R (Kd.int .i64) 3 w' w.heap.size (fun _=>True) v1_ r2∧Kd.S k73 73 w' w.heap.size (fun k_=>some k_≠(v1_:Value).ownBlock) v2_ r3∧Below w.heap.size w w':=by
 have hu37:=Try.underlying37
 have hu73:=Try.underlying73
 have HR0_1:=yam hr0_1
 have HC0_1:=yam hc0_1
 clear hr0_1 hc0_1
 have HR0_2:=yam hr0_2
 have HC0_2:=yam hc0_2
 clear hr0_2 hc0_2
 have HB:=yam (Below.refl w.heap.size w)
 unfold impl_copyPuzzle.f at h
 have H:=h
 clear h
 replace H:=ybi H;obtain ⟨t484,A2,H⟩:=H
 replace H:(impl_copyPuzzle.l0 k l0_2 (l0_2.length:Int) 0 a0_0 t484 ([]:List (S73)))=some (r1,r2,r3):=H
 replace H:=yam H
 go_enter Try.func58,Try.ntmps58
 try go_wp2_with (first|(refine ybe 1 #[.int .i64 a0_0,.slice A0_1 l0_1.length c0_1,.slice A0_2 l0_2.length c0_2] 37 ?_;intro gb482 hg w3 hbox hb;have BK482:=yam (hbox);have GW482:=yam ((by rw [hg];exact (below_size (yez HB.out)):w.heap.size≤gb482));replace HB:=yam (below_step (yez HB.out) hb);have GE482:=GW482;clear hb hbox hg)|(refine ybe 2 #[.int .i64 0,.slice none 0 0,.slice none 0 0] 37 ?_;intro gb483 hg w4 hbox hb;have BK483:=yam (hbox);have GW483:=yam ((by rw [hg];exact (below_size yhb):w.heap.size≤gb483));replace HB:=yam (below_step yhb hb);have GE483:=GW483;have NB482_483:=yam ((by rw [hg];exact Nat.ne_of_lt (blk_lt (g:=gb482) (o:= .cells #[.int .i64 a0_0,.slice A0_1 l0_1.length c0_1,.slice A0_2 l0_2.length c0_2] 37 (0,0)) (ybz BK482.out)):gb482≠gb483));have NB483_482:=yam ((by rw [hg];exact Nat.ne_of_gt (blk_lt (g:=gb482) (o:= .cells #[.int .i64 a0_0,.slice A0_1 l0_1.length c0_1,.slice A0_2 l0_2.length c0_2] 37 (0,0)) (ybz BK482.out)):gb483≠gb482));replace BK482:=yam (ybb BK482.out hb);clear hb hbox hg))
 replace BK482:=yam (ybd BK482.out)
 replace BK483:=yam (ybd BK483.out)
 replace HB:=yam (yed HB.out)
 refine start_ (n:=8) (S:=fun w'=>w'.cell? ⟨gb482,0,none⟩=some (.int .i64 a0_0)∧w'.cell? ⟨gb482,1,none⟩=some (.slice A0_1 l0_1.length c0_1)∧w'.cell? ⟨gb482,2,none⟩=some (.slice A0_2 l0_2.length c0_2)) (ds:=[]) (yvb 8 0) (by kernel_rfl) rfl rfl ⟨(blk_cell BK482.out 0).trans rfl,(blk_cell BK482.out 1).trans rfl,(blk_cell BK482.out 2).trans rfl⟩ (fun hHeld=>?_);refine with_tabW impl_copyPuzzle.tab1 impl_copyPuzzle.bits1 (fun HT_ HW_=>?_)
 generalize w4.drew=w5 at BK482 BK483 HB hHeld ⊢
 refine yvp 0 6 (yvb 8 1) HT_.out ?_
 refine yvp 2 8 (yvb 8 5) HT_.out ?_
 refine yvt 1 7 (yvb 8 7) HT_.out HW_.out hHeld ?_
 refine yvt 3 9 (yvb 8 15) HT_.out HW_.out hHeld ?_
 refine join_ (σ:=Value × Nat) 1 (yvb 8 127) (fun s_=>[(10,s_.1),(3,.pointer (some ⟨s_.2,0,none⟩)),(11,.agg #[.int .i64 a0_0,s_.1,.slice none 0 0])]) (fun s_ w'=>(w'.cell? ⟨gb482,0,none⟩=some (.int .i64 a0_0)∧w'.cell? ⟨gb482,1,none⟩=some (.slice A0_1 l0_1.length c0_1)∧w'.cell? ⟨gb482,2,none⟩=some (.slice A0_2 l0_2.length c0_2))∧(Kd.R (Kd.int .i64) 3 w' w.heap.size (fun _=>True) s_.1 t484)∧(w'.heap[gb482]?=some (.cells #[.int .i64 a0_0,.slice A0_1 l0_1.length c0_1,.slice A0_2 l0_2.length c0_2] 37 (0,0)))∧(w'.heap[gb483]?=some (.cells #[.int .i64 0,.slice none 0 0,.slice none 0 0] 37 (0,0)))∧(w'.heap[s_.2]?=some (.cells #[.int .i64 0,.slice none 0 0,.slice none 0 0] 37 (0,0)))∧(w.heap.size≤s_.2)∧(w.heap.size≤s_.2)∧(gb482≠s_.2)∧(s_.2≠gb482)∧(gb483≠s_.2)∧(s_.2≠gb483)∧(Below w.heap.size w w')) ?_ ?_
 rotate_left
 ·intro hCont
  refine two_ (i:=4) (j:=6) (Ni:=some 10) (Nj:=some 3) (yvb 8 31) (yvb 8 79) rfl rfl rfl rfl (two_of HT_.out (by kernel_rfl)) (by decide) (by decide) (fun K hK=>?_) (fun K hK=>?_)
  ·skip
   refine goes_ Try.func47 (by kernel_rfl) rfl #[.slice A0_1 l0_1.length c0_1] (by rfl) rfl rfl ymd ?_
   with_reducible refine (slices_Clone_int_int.calls _ _ l0_1 t484 _ ?_ ?_ A2.out).mono ?_
   exact Kd.Cz ((Kd.C_below HR0_1.out HB.out))
   exact HC0_1.out
   rintro e w6 ⟨v485,rfl,ho0,hb⟩
   refine ⟨_,rfl,?_⟩
   have HO486:=yam (Kd.R_lower ho0 (below_size yhb))
   replace BK482:=yam (ybb BK482.out hb)
   replace BK483:=yam (ybb BK483.out hb)
   replace HB:=yam (below_step yhb hb)
   (try clear hb)
   (try clear hb2)
   (try clear hk)
   (try clear hi)
   (try clear ho0)
   obtain ⟨Ao7,co7,eo7⟩:=Kd.R_slice HO486.out
   (first|subst eo7|(injection eo7 with f1_ f2_ f3_;have f4_:=f1_.symm;have f5_:=f3_.symm;clear f1_ f2_ f3_;subst f4_;subst f5_))
   refine hK.out _ _ ⟨(blk_cell BK482.out 0).trans rfl,(blk_cell BK482.out 1).trans rfl,(blk_cell BK482.out 2).trans rfl⟩ (fun hHeld=>?_)
   clear hK K
   refine norm_ (a':=?_) ?_ ?_
   rotate_left
   ·show Act.put _ (some 10) _=_
    simp only [Act.put,yps,i64_w,i32_w]
    rfl
   refine yvp 5 11 (yvb 8 63) HT_.out ?_
   refine one_ (i:=6) (N:=some 3) (yvb 8 127) rfl rfl (one_of HT_.out (by kernel_rfl)) (by decide) (fun K hK=>?_)
   refine box_step ?hg (N:=3) ?hd (cs:= #[.int .i64 0,.slice none 0 0,.slice none 0 0]) (t:=37) ?hr ?_;(case hd=>rfl);(case hg=>rfl);(case hr=>first|(go_simp;done)|(go_simp;rfl))
   intro gb487 hg w8 hbox hb
   replace HO486:=yam (Kd.R_below (Kd.Yz HO486.out) hb)
   have BK487:=yam (hbox)
   have GW487:=yam ((by rw [hg];exact (below_size yhb):w.heap.size≤gb487))
   have GE487:=yam ((by rw [hg];exact (below_size yhb):w.heap.size≤gb487))
   replace HB:=yam (below_step yhb hb)
   have NB482_487:=yam ((by rw [hg];exact Nat.ne_of_lt (blk_lt (g:=gb482) (o:= .cells #[.int .i64 a0_0,.slice A0_1 l0_1.length c0_1,.slice A0_2 l0_2.length c0_2] 37 (0,0)) (ybz BK482.out)):gb482≠gb487))
   have NB487_482:=yam ((by rw [hg];exact Nat.ne_of_gt (blk_lt (g:=gb482) (o:= .cells #[.int .i64 a0_0,.slice A0_1 l0_1.length c0_1,.slice A0_2 l0_2.length c0_2] 37 (0,0)) (ybz BK482.out)):gb487≠gb482))
   replace BK482:=yam (ybb BK482.out hb)
   have NB483_487:=yam ((by rw [hg];exact Nat.ne_of_lt (blk_lt (g:=gb483) (o:= .cells #[.int .i64 0,.slice none 0 0,.slice none 0 0] 37 (0,0)) (ybz BK483.out)):gb483≠gb487))
   have NB487_483:=yam ((by rw [hg];exact Nat.ne_of_gt (blk_lt (g:=gb483) (o:= .cells #[.int .i64 0,.slice none 0 0,.slice none 0 0] 37 (0,0)) (ybz BK483.out)):gb487≠gb483))
   replace BK483:=yam (ybb BK483.out hb)
   clear hb hbox hg
   refine hK.out _ _ ⟨(blk_cell BK482.out 0).trans rfl,(blk_cell BK482.out 1).trans rfl,(blk_cell BK482.out 2).trans rfl⟩ (fun hHeld=>?_)
   clear hK K
   refine norm_ (a':=?_) ?_ ?_
   rotate_left
   ·show Act.put _ (some 3) _=_
    simp only [Act.put,yps,i64_w,i32_w]
    rfl
   exact norm_ (by simp only [putAll,Act.put,yps]) (hCont (.slice Ao7 t484.length co7,gb487) _ ⟨hHeld,(Kd.Yz HO486.out),(ybz BK482.out),(ybz BK483.out),(ybz BK487.out),GW487.out,GE487.out,NB482_487.out,NB487_482.out,NB483_487.out,NB487_483.out,yhb⟩)
  ·skip
   refine box_step ?hg (N:=3) ?hd (cs:= #[.int .i64 0,.slice none 0 0,.slice none 0 0]) (t:=37) ?hr ?_;(case hd=>rfl);(case hg=>rfl);(case hr=>first|(go_simp;done)|(go_simp;rfl))
   intro gb487 hg w6 hbox hb
   have BK487:=yam (hbox)
   have GW487:=yam ((by rw [hg];exact (below_size yhb):w.heap.size≤gb487))
   have GE487:=yam ((by rw [hg];exact (below_size yhb):w.heap.size≤gb487))
   replace HB:=yam (below_step yhb hb)
   have NB482_487:=yam ((by rw [hg];exact Nat.ne_of_lt (blk_lt (g:=gb482) (o:= .cells #[.int .i64 a0_0,.slice A0_1 l0_1.length c0_1,.slice A0_2 l0_2.length c0_2] 37 (0,0)) (ybz BK482.out)):gb482≠gb487))
   have NB487_482:=yam ((by rw [hg];exact Nat.ne_of_gt (blk_lt (g:=gb482) (o:= .cells #[.int .i64 a0_0,.slice A0_1 l0_1.length c0_1,.slice A0_2 l0_2.length c0_2] 37 (0,0)) (ybz BK482.out)):gb487≠gb482))
   replace BK482:=yam (ybb BK482.out hb)
   have NB483_487:=yam ((by rw [hg];exact Nat.ne_of_lt (blk_lt (g:=gb483) (o:= .cells #[.int .i64 0,.slice none 0 0,.slice none 0 0] 37 (0,0)) (ybz BK483.out)):gb483≠gb487))
   have NB487_483:=yam ((by rw [hg];exact Nat.ne_of_gt (blk_lt (g:=gb483) (o:= .cells #[.int .i64 0,.slice none 0 0,.slice none 0 0] 37 (0,0)) (ybz BK483.out)):gb487≠gb483))
   replace BK483:=yam (ybb BK483.out hb)
   clear hb hbox hg
   refine hK.out _ _ ⟨(blk_cell BK482.out 0).trans rfl,(blk_cell BK482.out 1).trans rfl,(blk_cell BK482.out 2).trans rfl⟩ (fun hHeld=>?_)
   clear hK K
   refine norm_ (a':=?_) ?_ ?_
   rotate_left
   ·show Act.put _ (some 3) _=_
    simp only [Act.put,yps,i64_w,i32_w]
    rfl
   refine one_ (i:=4) (N:=some 10) (yvb 8 95) rfl rfl (one_of HT_.out (by kernel_rfl)) (by decide) (fun K hK=>?_)
   refine goes_ Try.func47 (by kernel_rfl) rfl #[.slice A0_1 l0_1.length c0_1] (by rfl) rfl rfl ymd ?_
   with_reducible refine (slices_Clone_int_int.calls _ _ l0_1 t484 _ ?_ ?_ A2.out).mono ?_
   exact Kd.Cz ((Kd.C_below HR0_1.out HB.out))
   exact HC0_1.out
   rintro e w7 ⟨v485,rfl,ho0,hb⟩
   refine ⟨_,rfl,?_⟩
   have HO486:=yam (Kd.R_lower ho0 (below_size yhb))
   replace BK482:=yam (ybb BK482.out hb)
   replace BK483:=yam (ybb BK483.out hb)
   replace BK487:=yam (ybb BK487.out hb)
   replace HB:=yam (below_step yhb hb)
   (try clear hb)
   (try clear hb2)
   (try clear hk)
   (try clear hi)
   (try clear ho0)
   obtain ⟨Ao8,co8,eo8⟩:=Kd.R_slice HO486.out
   (first|subst eo8|(injection eo8 with f1_ f2_ f3_;have f4_:=f1_.symm;have f5_:=f3_.symm;clear f1_ f2_ f3_;subst f4_;subst f5_))
   refine hK.out _ _ ⟨(blk_cell BK482.out 0).trans rfl,(blk_cell BK482.out 1).trans rfl,(blk_cell BK482.out 2).trans rfl⟩ (fun hHeld=>?_)
   clear hK K
   refine norm_ (a':=?_) ?_ ?_
   rotate_left
   ·show Act.put _ (some 10) _=_
    simp only [Act.put,yps,i64_w,i32_w]
    rfl
   refine yvp 5 11 (yvb 8 127) HT_.out ?_
   exact norm_ (by simp only [putAll,Act.put,yps]) (hCont (.slice Ao8 t484.length co8,gb487) _ ⟨hHeld,(Kd.Yz HO486.out),(ybz BK482.out),(ybz BK483.out),(ybz BK487.out),GW487.out,GE487.out,NB482_487.out,NB487_482.out,NB483_487.out,NB487_483.out,yhb⟩)
 rintro ⟨v485,gb487⟩ w9 ⟨hS_,h0_,h1_,h2_,h3_,h4_,h5_,h6_,h7_,h8_,h9_,h10_⟩
 have HO486:Aside0 (Kd.R (Kd.int .i64) 3 w9 w.heap.size (fun _=>True) v485 t484):=⟨h0_⟩
 replace BK482:Aside0 (w9.heap[gb482]?=some (.cells #[.int .i64 a0_0,.slice A0_1 l0_1.length c0_1,.slice A0_2 l0_2.length c0_2] 37 (0,0))):=⟨h1_⟩
 replace BK483:Aside0 (w9.heap[gb483]?=some (.cells #[.int .i64 0,.slice none 0 0,.slice none 0 0] 37 (0,0))):=⟨h2_⟩
 have BK487:Aside0 (w9.heap[gb487]?=some (.cells #[.int .i64 0,.slice none 0 0,.slice none 0 0] 37 (0,0))):=⟨h3_⟩
 have GW487:Aside0 (w.heap.size≤gb487):=⟨h4_⟩
 have GE487:Aside0 (w.heap.size≤gb487):=⟨h5_⟩
 have NB482_487:Aside0 (gb482≠gb487):=⟨h6_⟩
 have NB487_482:Aside0 (gb487≠gb482):=⟨h7_⟩
 have NB483_487:Aside0 (gb483≠gb487):=⟨h8_⟩
 have NB487_483:Aside0 (gb487≠gb483):=⟨h9_⟩
 replace HB:Aside0 (Below w.heap.size w w9):=⟨h10_⟩
 clear h0_ h1_ h2_ h3_ h4_ h5_ h6_ h7_ h8_ h9_ h10_
 have hHeld:w9.cell? ⟨gb482,0,none⟩=some (.int .i64 a0_0)∧w9.cell? ⟨gb482,1,none⟩=some (.slice A0_1 l0_1.length c0_1)∧w9.cell? ⟨gb482,2,none⟩=some (.slice A0_2 l0_2.length c0_2):=hS_
 obtain ⟨Ao10,co10,eo10⟩:=Kd.R_slice HO486.out
 (first|subst eo10|(injection eo10 with f1_ f2_ f3_;have f4_:=f1_.symm;have f5_:=f3_.symm;clear f1_ f2_ f3_;subst f4_;subst f5_))
 refine norm_ (a':=?_) ?_ ?_
 rotate_left
 ·simp only [putAll,Act.put,yps]
  rfl
 refine one_ (i:=7) (N:=none) (yvb 8 255) rfl rfl (one_of HT_.out (by kernel_rfl)) (by decide) (fun K hK=>?_)
 have hs11:w9.cell? ⟨gb487,0,none⟩=some (.int .i64 0):=(blk_cell BK487.out 0).trans rfl
 have hfs11:=blk_frozen BK487.out 0
 have hns11_0:=NB482_487.out
 have hns11_1:=NB483_487.out
 have hms11_0:=NB487_482.out
 have hms11_1:=NB487_483.out
 have hs12:w9.cell? ⟨gb487,1,none⟩=some (.slice none 0 0):=(blk_cell BK487.out 1).trans rfl
 have hfs12:=blk_frozen BK487.out 1
 have hns12_0:=NB482_487.out
 have hns12_1:=NB483_487.out
 have hms12_0:=NB487_482.out
 have hms12_1:=NB487_483.out
 have hs13:w9.cell? ⟨gb487,2,none⟩=some (.slice none 0 0):=(blk_cell BK487.out 2).trans rfl
 have hfs13:=blk_frozen BK487.out 2
 have hns13_0:=NB482_487.out
 have hns13_1:=NB483_487.out
 have hms13_0:=NB487_482.out
 have hms13_1:=NB487_483.out
 refine skip_ (w1:=?_) (by rfl) rfl ?_ ?_
 rotate_left
 ·go_simp
  rfl
 refine hK.out _ _ ⟨((cell_far (p:=⟨gb487,_,none⟩) NB482_487.out _).trans (((cell_far (p:=⟨gb487,_,none⟩) NB482_487.out _).trans (((cell_far (p:=⟨gb487,_,none⟩) NB482_487.out _).trans (hHeld.1)))))),((cell_far (p:=⟨gb487,_,none⟩) NB482_487.out _).trans (((cell_far (p:=⟨gb487,_,none⟩) NB482_487.out _).trans (((cell_far (p:=⟨gb487,_,none⟩) NB482_487.out _).trans (hHeld.2.1)))))),((cell_far (p:=⟨gb487,_,none⟩) NB482_487.out _).trans (((cell_far (p:=⟨gb487,_,none⟩) NB482_487.out _).trans (((cell_far (p:=⟨gb487,_,none⟩) NB482_487.out _).trans (hHeld.2.2))))))⟩ (fun hHeld=>?_)
 clear hK K
 refine done_ (done_of HT_.out (by kernel_rfl)) ?_
 have hnb14:=NB482_483.out
 have hnc14:=NB483_482.out
 have hnb15:=NB482_487.out
 have hnc15:=NB487_482.out
 obtain ⟨hcz16_0,hcz16_1,hcz16_2,hfz16_0,hfz16_1,hfz16_2⟩:=ybc BK482.out
 try go_wp2
 go_loopg [15] k (fun kq v15 w'=>∃ (x15_1:Int) (x488002_1:List (S73)) (u488002:Value),v15= .int .i64 x15_1∧Aside0 (impl_copyPuzzle.l0 kq l0_2 (l0_2.length:Int) x15_1 a0_0 t484 x488002_1=some (r1,r2,r3))∧Aside0 (kq≤k)∧Aside0 (Kd.R (Kd.int .i64) 3 w' w.heap.size (fun _=>True) (.slice Ao10 t484.length co10) t484)∧Aside0 (Kd.S k73 73 w' w.heap.size (fun k_=>some k_≠((.slice Ao10 t484.length co10):Value).ownBlock) u488002 x488002_1)∧Aside0 (w'.heap[gb482]?=some (.cells #[.int .i64 a0_0,(.slice A0_1 l0_1.length c0_1),(.slice A0_2 l0_2.length c0_2)] 37 (0,0)))∧Aside0 (w'.heap[gb483]?=some (.cells #[.int .i64 0,(.slice none 0 0),(.slice none 0 0)] 37 (0,0)))∧Aside0 (w'.heap[gb487]?=some (.cells #[.int .i64 a0_0,(.slice Ao10 t484.length co10),u488002] 37 (0,0)))∧Aside0 (Below w.heap.size w w'))
 case atStart=>exact ⟨(0),(([]:List (S73))),(.slice none 0 0),yeq,H,⟨Nat.le_refl _⟩,⟨by (with_reducible repeat (first|apply Kd.Ya|apply Kd.Yn|apply Kd.Yd));exact Kd.R_mono (Kd.R_far (p:=⟨gb487,2,none⟩) (Kd.R_far (p:=⟨gb487,1,none⟩) (Kd.R_far (p:=⟨gb487,0,none⟩) (Kd.R_types HO486.out BK487.out (by decide)) (fun _ hk=>hk.2) (.int .i64 a0_0)) (fun _ hk=>hk.2) (.slice Ao10 t484.length co10)) (fun _ hk=>hk.2) (.slice none 0 0)) (fun _ hk=>trivial)⟩,⟨by first|exact Kd.S_nil _ _ _ _ _|exact Kd.N_nil _ _ _ _ _|exact Kd.V_nil _ _ _ _ _|exact Kd.Q_nil _ _ _ _ _|exact Kd.R_nil _ _ _ _ _⟩,⟨by (with_reducible repeat (first|refine ybn ?_ _|refine ybd ?_|refine yba ?_ _));refine blk_far ?_ NB482_487.out _;(with_reducible repeat (first|refine ybn ?_ _|refine ybd ?_|refine yba ?_ _));refine blk_far ?_ NB482_487.out _;(with_reducible repeat (first|refine ybn ?_ _|refine ybd ?_|refine yba ?_ _));refine blk_far ?_ NB482_487.out _;(with_reducible repeat (first|refine ybn ?_ _|refine ybd ?_|refine yba ?_ _));exact BK482.out⟩,⟨by (with_reducible repeat (first|refine ybn ?_ _|refine ybd ?_|refine yba ?_ _));refine blk_far ?_ NB483_487.out _;(with_reducible repeat (first|refine ybn ?_ _|refine ybd ?_|refine yba ?_ _));refine blk_far ?_ NB483_487.out _;(with_reducible repeat (first|refine ybn ?_ _|refine ybd ?_|refine yba ?_ _));refine blk_far ?_ NB483_487.out _;(with_reducible repeat (first|refine ybn ?_ _|refine ybd ?_|refine yba ?_ _));exact BK483.out⟩,⟨by (with_reducible repeat (first|refine ybn ?_ _|refine ybd ?_|refine yba ?_ _));refine blk_put (cs:= #[.int .i64 a0_0,.slice Ao10 t484.length co10,.slice none 0 0]) ?_ 2 _ rfl;(with_reducible repeat (first|refine ybn ?_ _|refine ybd ?_|refine yba ?_ _));refine blk_put (cs:= #[.int .i64 a0_0,.slice none 0 0,.slice none 0 0]) ?_ 1 _ rfl;(with_reducible repeat (first|refine ybn ?_ _|refine ybd ?_|refine yba ?_ _));refine blk_put (cs:= #[.int .i64 0,.slice none 0 0,.slice none 0 0]) ?_ 0 _ rfl;(with_reducible repeat (first|refine ybn ?_ _|refine ybd ?_|refine yba ?_ _));exact BK487.out⟩,⟨yhb⟩⟩
 case round =>
  clear H
  try clear hcz16_0
  try clear hcz16_1
  try clear hcz16_2
  try clear hfz16_0
  try clear hfz16_1
  try clear hfz16_2
  obtain ⟨x15_1,x488002_1,u488002,rfl,HA,HK1,HO_488001,HO_488002,BK482,BK483,BK487,HB⟩:=hrel
  rcases gk with _|k1
  ·exact absurd HA.out (by simp [impl_copyPuzzle.l0])
  obtain ⟨H⟩:=HA
  simp only [impl_copyPuzzle.l0] at H
  replace H:=yis H;obtain ⟨c17b0,H⟩ | ⟨c17b0,H⟩:=H
  rotate_left
  ·simp only [Option.some.injEq,Prod.mk.injEq] at H
   obtain ⟨rfl,rfl,rfl⟩:=H
   have hnb38:=NB487_482.out
   have hnc38:=NB482_487.out
   have hnb39:=NB487_483.out
   have hnc39:=NB483_487.out
   obtain ⟨hcz40_0,hcz40_1,hcz40_2,hfz40_0,hfz40_1,hfz40_2⟩:=ybc BK487.out
   have hnb41:=NB483_482.out
   have hnc41:=NB482_483.out
   obtain ⟨hcz42_0,hcz42_1,hcz42_2,hfz42_0,hfz42_1,hfz42_2⟩:=ybc BK483.out
   obtain ⟨Ao43,co43,eo43⟩:=Kd.S_slice HO_488002.out
   subst eo43
   go_wp2
   refine bodyPost_ret (results_cell_row rfl _ _ gb483 37 #[.int .i64 a0_0,.slice Ao10 t484.length co10,.slice Ao43 x488002_1.length co43] (0,0) _ rfl (by (with_reducible repeat (first|refine ybn ?_ _|refine ybd ?_|refine yba ?_ _));refine blk_put (cs:= #[.int .i64 a0_0,.slice Ao10 t484.length co10,.slice none 0 0]) ?_ 2 _ rfl;(with_reducible repeat (first|refine ybn ?_ _|refine ybd ?_|refine yba ?_ _));refine blk_put (cs:= #[.int .i64 a0_0,.slice none 0 0,.slice none 0 0]) ?_ 1 _ rfl;(with_reducible repeat (first|refine ybn ?_ _|refine ybd ?_|refine yba ?_ _));refine blk_put (cs:= #[.int .i64 0,.slice none 0 0,.slice none 0 0]) ?_ 0 _ rfl;(with_reducible repeat (first|refine ybn ?_ _|refine ybd ?_|refine yba ?_ _));exact BK483.out) Try.underlying37 rfl (by kernel_rfl)) rfl ?_
   exact ⟨_,_,yer,by (with_reducible repeat (first|apply Kd.Ya|apply Kd.Yn|apply Kd.Yd));exact Kd.R_mono (Kd.R_far (p:=⟨gb483,2,none⟩) (Kd.R_far (p:=⟨gb483,1,none⟩) (Kd.R_far (p:=⟨gb483,0,none⟩) (Kd.R_types HO_488001.out BK483.out (by decide)) (fun _ hk=>hk.2) (.int .i64 a0_0)) (fun _ hk=>hk.2) (.slice Ao10 t484.length co10)) (fun _ hk=>hk.2) (.slice Ao43 x488002_1.length co43)) (fun _ hk=>trivial),by (with_reducible repeat (first|apply Kd.S_alloc|apply Kd.S_drewN|apply Kd.S_drew));exact Kd.S_mono (Kd.S_far (p:=⟨gb483,2,none⟩) (Kd.S_far (p:=⟨gb483,1,none⟩) (Kd.S_far (p:=⟨gb483,0,none⟩) (Kd.S_types HO_488002.out BK483.out (by decide)) (fun _ hk=>hk.2) (.int .i64 a0_0)) (fun _ hk=>hk.2) (.slice Ao10 t484.length co10)) (fun _ hk=>hk.2) (.slice Ao43 x488002_1.length co43)) (fun _ hk=>hk.1),yhb⟩
  replace H:=yif H;obtain ⟨c18b0,H⟩:=H
  replace H:=yif H;obtain ⟨c19b0,H⟩:=H
  replace H:=ybi H;obtain ⟨t490,A20,H⟩:=H
  replace H:(if x488002_1.length < 3518437208883 then (impl_copyPuzzle.l0 k1 l0_2 (l0_2.length:Int) (wrap64 (x15_1 + 1)) a0_0 t484 (x488002_1 ++ [(⟨(rd_T73 l0_2 x15_1).f0,t490,(rd_T73 l0_2 x15_1).f2⟩:S73)])) else (none))=some (r1,r2,r3):=H
  replace H:=yig H;obtain ⟨c21,H⟩:=H
  have LMc21:=yam c21
  clear c21
  obtain ⟨y493,Ny493⟩:∃ y_:List (S73),Aside0 (y_=(x488002_1 ++ [(⟨(rd_T73 l0_2 x15_1).f0,t490,(rd_T73 l0_2 x15_1).f2⟩:S73)])):=⟨_,⟨rfl⟩⟩
  replace H:(impl_copyPuzzle.l0 k1 l0_2 (l0_2.length:Int) (wrap64 (x15_1 + 1)) a0_0 t484 y493)=some (r1,r2,r3):=yhn Ny493.out H
  replace H:=yam H
  have p488:0≤(x15_1:Int):=ydt
  have q488:x15_1 < (l0_2.length:Int):=ydt
  obtain ⟨ad488,A488_1,c488_1,e488,hx488_0,hx488_1,hx488_2,hl488_1,hi488_1⟩:=at_T73 HR0_2.out x15_1 p488 q488
  cases e488
  replace hx488_0:=ybx HB.out hx488_0
  replace hx488_1:=ybx HB.out hx488_1
  replace hx488_2:=ybx HB.out hx488_2
  have HR488_1:=yam hi488_1
  have HC488_1:=yam hl488_1
  clear hi488_1 hl488_1
  replace p488:=eq_true p488
  replace q488:=eq_true q488
  go_wp2_with (first|(refine ybe 5 #[.int .i64 0,.slice none 0 0,.int .i64 0] 73 ?_;intro gb489 hg w22 hbox hb;replace HO_488001:=yam (Kd.R_below (Kd.Yz HO_488001.out) hb);replace HO_488002:=yam (Kd.S_below (Kd.S_elderB (by (with_reducible repeat (first|apply Kd.S_alloc|apply Kd.S_drewN|apply Kd.S_drew));exact HO_488002.out) gb489 (Nat.le_of_eq hg.symm)) hb);have BK489:=yam (hbox);have GW489:=yam ((by rw [hg];exact (below_size yhb):w.heap.size≤gb489));replace HB:=yam (below_step yhb hb);have GE489:=GW489;have NB482_489:=yam ((by rw [hg];exact Nat.ne_of_lt (blk_lt (g:=gb482) (o:= .cells #[.int .i64 a0_0,.slice A0_1 l0_1.length c0_1,.slice (some ad488) l0_2.length c0_2] 37 (0,0)) (ybz BK482.out)):gb482≠gb489));have NB489_482:=yam ((by rw [hg];exact Nat.ne_of_gt (blk_lt (g:=gb482) (o:= .cells #[.int .i64 a0_0,.slice A0_1 l0_1.length c0_1,.slice (some ad488) l0_2.length c0_2] 37 (0,0)) (ybz BK482.out)):gb489≠gb482));replace BK482:=yam (ybb BK482.out hb);have NB483_489:=yam ((by rw [hg];exact Nat.ne_of_lt (blk_lt (g:=gb483) (o:= .cells #[.int .i64 0,.slice none 0 0,.slice none 0 0] 37 (0,0)) (ybz BK483.out)):gb483≠gb489));have NB489_483:=yam ((by rw [hg];exact Nat.ne_of_gt (blk_lt (g:=gb483) (o:= .cells #[.int .i64 0,.slice none 0 0,.slice none 0 0] 37 (0,0)) (ybz BK483.out)):gb489≠gb483));replace BK483:=yam (ybb BK483.out hb);have NB487_489:=yam ((by rw [hg];exact Nat.ne_of_lt (blk_lt (g:=gb487) (o:= .cells #[.int .i64 a0_0,.slice Ao10 t484.length co10,u488002] 37 (0,0)) (ybz BK487.out)):gb487≠gb489));have NB489_487:=yam ((by rw [hg];exact Nat.ne_of_gt (blk_lt (g:=gb487) (o:= .cells #[.int .i64 a0_0,.slice Ao10 t484.length co10,u488002] 37 (0,0)) (ybz BK487.out)):gb489≠gb487));replace BK487:=yam (ybb BK487.out hb);clear hb hbox hg;have hnb23:=NB489_482.out;have hnc23:=NB482_489.out;have hnb24:=NB489_483.out;have hnc24:=NB483_489.out;have hnb25:=NB489_487.out;have hnc25:=NB487_489.out;obtain ⟨hcz26_0,hcz26_1,hcz26_2,hfz26_0,hfz26_1,hfz26_2⟩:=ybc BK489.out)|(refine goesL_ (some 21) rfl rfl Try.func47 (by kernel_rfl) rfl #[.slice A488_1 ((rd_T73 l0_2 x15_1).f1).length c488_1] rfl ymd ?_;(with_reducible refine (slices_Clone_int_int.calls _ _ ((rd_T73 l0_2 x15_1).f1) t490 _ ?_ ?_ A20.out).mono ?_);exact Kd.C_below HR488_1.out yhb;exact HC488_1.out;rintro e w27 ⟨v491,rfl,ho0,hb⟩;refine ⟨_,rfl,?_⟩;replace HO_488002:=yam (Kd.S_elder' (by (with_reducible repeat (first|apply Kd.S_alloc|apply Kd.S_drewN|apply Kd.S_drew));exact (Kd.S_mono (Kd.S_far (p:=⟨gb489,2,none⟩) (Kd.S_far (p:=⟨gb489,1,none⟩) (Kd.S_far (p:=⟨gb489,0,none⟩) (Kd.S_mono HO_488002.out (fun k_ hk=>(⟨hk,hk.2⟩:_∧k_≠gb489))) (fun _ hk=>hk.2) (.int .i64 ((rd_T73 l0_2 x15_1).f0))) (fun _ hk=>hk.2) (.slice A488_1 ((rd_T73 l0_2 x15_1).f1).length c488_1)) (fun _ hk=>hk.2) (.int .i64 ((rd_T73 l0_2 x15_1).f2))) (fun _ h_=>h_.1))) (Kd.Yb ho0) hb);have HO492:=yam (Kd.R_lower (Kd.Yw ho0 (Kd.R_lt (by (with_reducible repeat (first|apply Kd.Ya|apply Kd.Yn|apply Kd.Yd));exact (Kd.R_mono (Kd.R_far (p:=⟨gb489,2,none⟩) (Kd.R_far (p:=⟨gb489,1,none⟩) (Kd.R_far (p:=⟨gb489,0,none⟩) (Kd.R_types HO_488001.out BK489.out (by decide)) (fun _ hk=>hk.2) (.int .i64 ((rd_T73 l0_2 x15_1).f0))) (fun _ hk=>hk.2) (.slice A488_1 ((rd_T73 l0_2 x15_1).f1).length c488_1)) (fun _ hk=>hk.2) (.int .i64 ((rd_T73 l0_2 x15_1).f2))) (fun _ h_=>h_.1))))) (below_size yhb));replace HO_488001:=yam (Kd.Ye (by (with_reducible repeat (first|apply Kd.Ya|apply Kd.Yn|apply Kd.Yd));exact (Kd.R_mono (Kd.R_far (p:=⟨gb489,2,none⟩) (Kd.R_far (p:=⟨gb489,1,none⟩) (Kd.R_far (p:=⟨gb489,0,none⟩) (Kd.R_types HO_488001.out BK489.out (by decide)) (fun _ hk=>hk.2) (.int .i64 ((rd_T73 l0_2 x15_1).f0))) (fun _ hk=>hk.2) (.slice A488_1 ((rd_T73 l0_2 x15_1).f1).length c488_1)) (fun _ hk=>hk.2) (.int .i64 ((rd_T73 l0_2 x15_1).f2))) (fun _ h_=>h_.1))) (Kd.Yb ho0) hb);replace BK482:=yam (blk_below (g:=gb482) (o:= .cells #[.int .i64 a0_0,.slice A0_1 l0_1.length c0_1,.slice (some ad488) l0_2.length c0_2] 37 (0,0)) (by (with_reducible repeat (first|refine ybn ?_ _|refine ybd ?_|refine yba ?_ _));refine blk_far ?_ NB482_489.out _;(with_reducible repeat (first|refine ybn ?_ _|refine ybd ?_|refine yba ?_ _));refine blk_far ?_ NB482_489.out _;(with_reducible repeat (first|refine ybn ?_ _|refine ybd ?_|refine yba ?_ _));refine blk_far ?_ NB482_489.out _;(with_reducible repeat (first|refine ybn ?_ _|refine ybd ?_|refine yba ?_ _));exact BK482.out) hb);replace BK483:=yam (blk_below (g:=gb483) (o:= .cells #[.int .i64 0,.slice none 0 0,.slice none 0 0] 37 (0,0)) (by (with_reducible repeat (first|refine ybn ?_ _|refine ybd ?_|refine yba ?_ _));refine blk_far ?_ NB483_489.out _;(with_reducible repeat (first|refine ybn ?_ _|refine ybd ?_|refine yba ?_ _));refine blk_far ?_ NB483_489.out _;(with_reducible repeat (first|refine ybn ?_ _|refine ybd ?_|refine yba ?_ _));refine blk_far ?_ NB483_489.out _;(with_reducible repeat (first|refine ybn ?_ _|refine ybd ?_|refine yba ?_ _));exact BK483.out) hb);replace BK487:=yam (blk_below (g:=gb487) (o:= .cells #[.int .i64 a0_0,.slice Ao10 t484.length co10,u488002] 37 (0,0)) (by (with_reducible repeat (first|refine ybn ?_ _|refine ybd ?_|refine yba ?_ _));refine blk_far ?_ NB487_489.out _;(with_reducible repeat (first|refine ybn ?_ _|refine ybd ?_|refine yba ?_ _));refine blk_far ?_ NB487_489.out _;(with_reducible repeat (first|refine ybn ?_ _|refine ybd ?_|refine yba ?_ _));refine blk_far ?_ NB487_489.out _;(with_reducible repeat (first|refine ybn ?_ _|refine ybd ?_|refine yba ?_ _));exact BK487.out) hb);replace BK489:=yam (blk_below (g:=gb489) (o:= .cells #[.int .i64 ((rd_T73 l0_2 x15_1).f0),.slice A488_1 ((rd_T73 l0_2 x15_1).f1).length c488_1,.int .i64 ((rd_T73 l0_2 x15_1).f2)] 73 (0,0)) (by (with_reducible repeat (first|refine ybn ?_ _|refine ybd ?_|refine yba ?_ _));refine blk_put (cs:= #[.int .i64 ((rd_T73 l0_2 x15_1).f0),.slice A488_1 ((rd_T73 l0_2 x15_1).f1).length c488_1,.int .i64 0]) ?_ 2 _ rfl;(with_reducible repeat (first|refine ybn ?_ _|refine ybd ?_|refine yba ?_ _));refine blk_put (cs:= #[.int .i64 ((rd_T73 l0_2 x15_1).f0),.slice none 0 0,.int .i64 0]) ?_ 1 _ rfl;(with_reducible repeat (first|refine ybn ?_ _|refine ybd ?_|refine yba ?_ _));refine blk_put (cs:= #[.int .i64 0,.slice none 0 0,.int .i64 0]) ?_ 0 _ rfl;(with_reducible repeat (first|refine ybn ?_ _|refine ybd ?_|refine yba ?_ _));exact BK489.out) hb);replace HB:=yam (below_step yhb hb);(try clear hb);(try clear hk);(try clear ho0);obtain ⟨Ao28,co28,eo28⟩:=Kd.R_slice HO492.out;subst eo28;obtain ⟨hcz29_0,hcz29_1,hcz29_2,hfz29_0,hfz29_1,hfz29_2⟩:=ybc BK489.out)|((with_reducible refine gate_store (t:=22) (p:=22) rfl ?_);refine store_event (t:=22) (p:=22) (v:=?vo_w30) (w1:=(w27.setCell ⟨gb489,1,none⟩ (.slice Ao28 t490.length co28))) ?hg ?ho ?hn ?hr ?_;(case ho=>rfl);(case hg=>rfl);(case hn=>rfl);(case hr=>first|(go_simp;done)|(go_simp;rfl));intro w30 hw;replace HO_488001:Aside0 (Kd.R (Kd.int .i64) 3 w30 w.heap.size (fun k_=>some k_≠(.slice Ao28 t490.length co28:Value).ownBlock) (.slice Ao10 t484.length co10) t484):=⟨(by rw [hw];exact (by (with_reducible repeat (first|apply Kd.Ya|apply Kd.Yn|apply Kd.Yd));exact Kd.R_mono (Kd.R_far (p:=⟨gb489,1,none⟩) (Kd.R_types HO_488001.out BK489.out (by decide)) (fun _ hk=>hk.2) (.slice Ao28 t490.length co28)) (fun _ hk=>hk.1.2)))⟩;replace HO_488002:Aside0 (Kd.S k73 73 w30 w.heap.size (fun k_=>some k_≠(.slice Ao10 t484.length co10:Value).ownBlock∧some k_≠(.slice Ao28 t490.length co28:Value).ownBlock∧k_≠gb489) u488002 x488002_1):=⟨(by rw [hw];exact (by (with_reducible repeat (first|apply Kd.S_alloc|apply Kd.S_drewN|apply Kd.S_drew));exact Kd.S_mono (Kd.S_far (p:=⟨gb489,1,none⟩) (Kd.S_mono HO_488002.out (fun k_ hk=>(⟨hk,hk.1.2⟩:_∧k_≠gb489))) (fun _ hk=>hk.2) (.slice Ao28 t490.length co28)) (fun _ hk=>⟨hk.1.1.1,⟨hk.1.2,hk.1.1.2⟩⟩)))⟩;replace HO492:Aside0 (Kd.R (Kd.int .i64) 3 w30 w.heap.size (fun k_=>some k_≠(.slice Ao10 t484.length co10:Value).ownBlock) (.slice Ao28 t490.length co28) t490):=⟨(by rw [hw];exact (by (with_reducible repeat (first|apply Kd.Ya|apply Kd.Yn|apply Kd.Yd));exact Kd.R_mono (Kd.R_far (p:=⟨gb489,1,none⟩) (Kd.R_types HO492.out BK489.out (by decide)) (fun _ hk=>hk.2) (.slice Ao28 t490.length co28)) (fun _ hk=>hk.1.2)))⟩;replace BK482:Aside0 (w30.heap[gb482]?=some (.cells #[.int .i64 a0_0,.slice A0_1 l0_1.length c0_1,.slice (some ad488) l0_2.length c0_2] 37 (0,0))):=⟨(by rw [hw];exact (by (with_reducible repeat (first|refine ybn ?_ _|refine ybd ?_|refine yba ?_ _));refine blk_far ?_ NB482_489.out _;(with_reducible repeat (first|refine ybn ?_ _|refine ybd ?_|refine yba ?_ _));exact BK482.out))⟩;replace BK483:Aside0 (w30.heap[gb483]?=some (.cells #[.int .i64 0,.slice none 0 0,.slice none 0 0] 37 (0,0))):=⟨(by rw [hw];exact (by (with_reducible repeat (first|refine ybn ?_ _|refine ybd ?_|refine yba ?_ _));refine blk_far ?_ NB483_489.out _;(with_reducible repeat (first|refine ybn ?_ _|refine ybd ?_|refine yba ?_ _));exact BK483.out))⟩;replace BK487:Aside0 (w30.heap[gb487]?=some (.cells #[.int .i64 a0_0,.slice Ao10 t484.length co10,u488002] 37 (0,0))):=⟨(by rw [hw];exact (by (with_reducible repeat (first|refine ybn ?_ _|refine ybd ?_|refine yba ?_ _));refine blk_far ?_ NB487_489.out _;(with_reducible repeat (first|refine ybn ?_ _|refine ybd ?_|refine yba ?_ _));exact BK487.out))⟩;replace BK489:Aside0 (w30.heap[gb489]?=some (.cells #[.int .i64 ((rd_T73 l0_2 x15_1).f0),.slice Ao28 t490.length co28,.int .i64 ((rd_T73 l0_2 x15_1).f2)] 73 (0,0))):=⟨(by rw [hw];exact (by (with_reducible repeat (first|refine ybn ?_ _|refine ybd ?_|refine yba ?_ _));refine blk_put (cs:= #[.int .i64 ((rd_T73 l0_2 x15_1).f0),.slice A488_1 ((rd_T73 l0_2 x15_1).f1).length c488_1,.int .i64 ((rd_T73 l0_2 x15_1).f2)]) ?_ 1 _ rfl;(with_reducible repeat (first|refine ybn ?_ _|refine ybd ?_|refine yba ?_ _));exact BK489.out))⟩;replace HB:Aside0 (Below w.heap.size w w30):=⟨(by rw [hw];exact yhb)⟩;clear hw;have hnb31:=NB487_482.out;have hnc31:=NB482_487.out;have hnb32:=NB487_483.out;have hnc32:=NB483_487.out;obtain ⟨hcz33_0,hcz33_1,hcz33_2,hfz33_0,hfz33_1,hfz33_2⟩:=ybc BK487.out;obtain ⟨hcz34_0,hcz34_1,hcz34_2,hfz34_0,hfz34_1,hfz34_2⟩:=ybc BK489.out)|((with_reducible refine gate_builtin (b:= .append) (xs:= #[.tmp 24,.tmp 26]) rfl ?_);at_builtin;refine Kd.S_append k73 (w0:=w) w.heap.size rfl (.tmp 24) (.tmp 26) 35 73 (.agg #[(.int .i64 0),(.slice none 0 0),(.int .i64 0)]) 40 rfl Try.underlying35 info73 rfl (by decide) (by omega) u488002 x488002_1 (⟨(rd_T73 l0_2 x15_1).f0,t490,(rd_T73 l0_2 x15_1).f2⟩:S73) [.int .i64 ((rd_T73 l0_2 x15_1).f0),.slice Ao28 t490.length co28,.int .i64 ((rd_T73 l0_2 x15_1).f2)] (fun k_=>some k_≠(.slice Ao10 t484.length co10:Value).ownBlock∧k_≠gb489) (fun k_=>some k_=(.slice Ao28 t490.length co28:Value).ownBlock) rfl rfl ?aP (fun k_ hk_=>((Kd.R_mono (ok':=fun k_=>((fun k_=>some k_≠(.slice Ao10 t484.length co10:Value).ownBlock∧k_≠gb489)) k_∧some k_≠(u488002:Value).ownBlock) (Kd.R_types (Kd.R_apart' (HO492.out) (Kd.S_typed HO_488002.out) (by decide)) BK489.out (by decide)) (fun k_ hk=>⟨⟨hk.1.1,hk.2⟩,hk.1.2⟩))).1 k_ hk_.symm) ?aF ?aO ?aB ?aS ?aL ?_;(case aP=>exact k73_mkM _ _ _ (⟨(rd_T73 l0_2 x15_1).f0,t490,(rd_T73 l0_2 x15_1).f2⟩:S73) (Kd.R_mono (Kd.R_tight rfl (Kd.R_mono (ok':=fun k_=>((fun k_=>some k_≠(.slice Ao10 t484.length co10:Value).ownBlock∧k_≠gb489)) k_∧some k_≠(u488002:Value).ownBlock) (Kd.R_types (Kd.R_apart' (HO492.out) (Kd.S_typed HO_488002.out) (by decide)) BK489.out (by decide)) (fun k_ hk=>⟨⟨hk.1.1,hk.2⟩,hk.1.2⟩))) (fun _ h_=>h_)));(case aB=>exact yhb);(case aF=>exact (fun k_ hk=>⟨Kd.fresh' (Kd.R_lt (Kd.Yz HO_488001.out)) k_ hk,Kd.freshB (g:=gb489) (o:= .cells #[.int .i64 ((rd_T73 l0_2 x15_1).f0),.slice Ao28 t490.length co28,.int .i64 ((rd_T73 l0_2 x15_1).f2)] 73 (0,0)) (ybz BK489.out) k_ hk⟩));(case aO=>exact (by (with_reducible repeat (first|apply Kd.S_alloc|apply Kd.S_drewN|apply Kd.S_drew));exact Kd.S_mono HO_488002.out (fun k_ hk=>⟨⟨hk.1,hk.2.2⟩,fun e_=>hk.2.1 e_⟩)));(case aS=>exact (below_size yhb));(case aL=>have:=LMc21.out;omega);intro v494 w35 ho hb hg hat;rw [← Ny493.out] at ho;replace HO_488001:=yam (Kd.R_over' (Kd.Yz HO_488001.out) (Kd.S_typed (by (with_reducible repeat (first|apply Kd.S_alloc|apply Kd.S_drewN|apply Kd.S_drew));exact HO_488002.out)) (by decide) hg);replace BK482:=yam (blk_grown (g:=gb482) (o:= .cells #[.int .i64 a0_0,.slice A0_1 l0_1.length c0_1,.slice (some ad488) l0_2.length c0_2] 37 (0,0)) (ybz BK482.out) hg (Kd.S_ne HO_488002.out BK482.out (by decide)));replace BK483:=yam (blk_grown (g:=gb483) (o:= .cells #[.int .i64 0,.slice none 0 0,.slice none 0 0] 37 (0,0)) (ybz BK483.out) hg (Kd.S_ne HO_488002.out BK483.out (by decide)));replace BK487:=yam (blk_grown (g:=gb487) (o:= .cells #[.int .i64 a0_0,.slice Ao10 t484.length co10,u488002] 37 (0,0)) (ybz BK487.out) hg (Kd.S_ne HO_488002.out BK487.out (by decide)));replace BK489:=yam (blk_grown (g:=gb489) (o:= .cells #[.int .i64 ((rd_T73 l0_2 x15_1).f0),.slice Ao28 t490.length co28,.int .i64 ((rd_T73 l0_2 x15_1).f2)] 73 (0,0)) (ybz BK489.out) hg (Kd.S_away HO_488002.out (fun _ hk=>hk.2.2)));replace HB:=yam (hb);have HO495:=yam (ho);clear HO_488002 HO492;clear ho hb hg hat;obtain ⟨Ao36,co36,eo36⟩:=Kd.S_slice HO495.out;subst eo36;obtain ⟨hcz37_0,hcz37_1,hcz37_2,hfz37_0,hfz37_1,hfz37_2⟩:=ybc BK487.out))
  go_roundg k1
  case measure=>have:=HK1.out;omega
  case rel=>exact ⟨(wrap64 (x15_1 + 1)),(y493),(.slice Ao36 y493.length co36),yeq,H,⟨by have:=HK1.out;omega⟩,⟨by (with_reducible repeat (first|apply Kd.Ya|apply Kd.Yn|apply Kd.Yd));exact Kd.R_mono (Kd.R_far (p:=⟨gb487,2,none⟩) (Kd.R_types HO_488001.out BK487.out (by decide)) (fun _ hk=>hk.2) (.slice Ao36 y493.length co36)) (fun _ hk=>trivial)⟩,⟨by (with_reducible repeat (first|apply Kd.S_alloc|apply Kd.S_drewN|apply Kd.S_drew));exact Kd.S_mono (Kd.S_far (p:=⟨gb487,2,none⟩) (Kd.S_types HO495.out BK487.out (by decide)) (fun _ hk=>hk.2) (.slice Ao36 y493.length co36)) (fun _ hk=>hk.1.1)⟩,⟨by (with_reducible repeat (first|refine ybn ?_ _|refine ybd ?_|refine yba ?_ _));refine blk_far ?_ NB482_487.out _;(with_reducible repeat (first|refine ybn ?_ _|refine ybd ?_|refine yba ?_ _));exact BK482.out⟩,⟨by (with_reducible repeat (first|refine ybn ?_ _|refine ybd ?_|refine yba ?_ _));refine blk_far ?_ NB483_487.out _;(with_reducible repeat (first|refine ybn ?_ _|refine ybd ?_|refine yba ?_ _));exact BK483.out⟩,⟨by (with_reducible repeat (first|refine ybn ?_ _|refine ybd ?_|refine yba ?_ _));refine blk_put (cs:= #[.int .i64 a0_0,.slice Ao10 t484.length co10,u488002]) ?_ 2 _ rfl;(with_reducible repeat (first|refine ybn ?_ _|refine ybd ?_|refine yba ?_ _));exact BK487.out⟩,⟨yhb⟩⟩
mutual
def impl_PuzzleOf.j0:Nat→List Int→Int→List (S73)→Bool→Option (Int × List Int × (List (S73)) × Bool)
 | 0,_,_,_,_=>none
 | k + 1,x0,x1,x2,x18=>if x18=true then (some (0,([]:List Int),([]:List (S73)),false)) else (impl_PuzzleOf.l0 k x0 x1 x2 x2 (x2.length:Int) 0)
def impl_PuzzleOf.l0:Nat→List Int→Int→List (S73)→List (S73)→Int→Int→Option (Int × List Int × (List (S73)) × Bool)
 | 0,_,_,_,_,_,_=>none
 | k + 1,x0,x1,x2,x20,x21,x22=>if x22 < x21 then (if 0≤x22 then (if x22 < (x20.length:Int) then ((impl_RuleHolds.f k ((rd_T73 x20 x22).f0) ((rd_T73 x20 x22).f1) ((rd_T73 x20 x22).f2) x0 x1).bind fun t500=>(if t500=true then (impl_PuzzleOf.l0 k x0 x1 x2 x20 x21 (wrap64 (x22 + 1))) else (some (0,([]:List Int),([]:List (S73)),false)))) else (none)) else (none)) else ((impl_copyPuzzle.f k x1 x0 x2).bind fun bt501=>(some (bt501.1,bt501.2.1,bt501.2.2,true)))
end
def impl_PuzzleOf.f (k:Nat)(l0:List Int)(a1:Int)(l2:List (S73)):Option (Int × List Int × (List (S73)) × Bool):=(impl_SquareSolved.f k l0 a1).bind fun t497=>(if t497=true then (impl_PuzzleOf.j0 k l0 a1 l2 (decide ((l2.length:Int) > 20))) else (impl_PuzzleOf.j0 k l0 a1 l2 true))
theorem impl_PuzzleOf.calls (k:Nat)(A0:Option Addr)(c0:Nat)(l0:List Int)(a1:Int)(A2:Option Addr)(c2:Nat)(l2:List (S73))(r1:Int)(r2:List Int)(r3:List (S73))(r4:Bool)(w:World)(hr0:Kd.C (Kd.int .i64) w A0 l0.length l0)(hc0:l0.length≤c0)(hr2:Kd.C k73 w A2 l2.length l2)(hc2:l2.length≤c2)(h:impl_PuzzleOf.f k l0 a1 l2=some (r1,r2,r3,r4)) :
  Calls Try.prog 24 #[.slice A0 l0.length c0,.int .i64 a1,.slice A2 l2.length c2] w fun e w'=>∃ v1_ v2_:Value,e= .returned (.tuple #[.agg #[.int .i64 r1,v1_,v2_],.bool r4])∧Kd.R (Kd.int .i64) 3 w' w.heap.size (fun _=>True) v1_ r2∧Kd.S k73 73 w' w.heap.size (fun k_=>some k_≠(v1_:Value).ownBlock) v2_ r3∧Below w.heap.size w w':=by
 have hu37:=Try.underlying37
 have hu73:=Try.underlying73
 have HR0:=yam hr0
 have HC0:=yam hc0
 clear hr0 hc0
 have HR2:=yam hr2
 have HC2:=yam hc2
 clear hr2 hc2
 have HB:=yam (Below.refl w.heap.size w)
 unfold impl_PuzzleOf.f at h
 have H:=h
 clear h
 have HC4:=yam H
 clear H
 go_enter Try.func24,Try.ntmps24
 go_upto_region 1 with (first|((with_reducible refine gate_dst (N:=6) rfl ?_);(try (refine gate_guard (by rfl) ?_;dsimp only));refine ybe 6 #[.int .i64 0,.slice none 0 0,.slice none 0 0] 37 ?_;intro gb496 hg w5 hbox hb;have BK496:=yam (hbox);have GW496:=yam ((by rw [hg];exact (below_size (yez HB.out)):w.heap.size≤gb496));replace HB:=yam (below_step (yez HB.out) hb);have GE496:=GW496;clear hb hbox hg))
 (try simp only [Act.put,yps])
 go_cut [18] (fun v18 wc=>∃ (kq:Nat) (x18_3:Bool),v18= .bool x18_3∧Aside0 (impl_PuzzleOf.j0 kq l0 a1 l2 x18_3=some (r1,r2,r3,r4))∧Aside0 (kq≤k)∧Aside0 (wc.heap[gb496]?=some (.cells #[.int .i64 0,(.slice none 0 0),(.slice none 0 0)] 37 (0,0)))∧Aside0 (Below w.heap.size w wc))
 case first =>
  have H:=HC4.out
  clear HC4
  replace H:=ybi H;obtain ⟨t497,A6,H⟩:=H
  replace H:(if t497=true then (impl_PuzzleOf.j0 k l0 a1 l2 (decide ((l2.length:Int) > 20))) else (impl_PuzzleOf.j0 k l0 a1 l2 true))=some (r1,r2,r3,r4):=H
  cases t497
  rotate_left
  ·replace H:=ytt H
   replace H:=yam H
   go_wp2_with (first|(refine goesL_ (some 12) rfl rfl Try.func19 (by kernel_rfl) rfl #[.slice A0 l0.length c0,.int .i64 a1] rfl ymd ?_;(with_reducible refine (impl_SquareSolved.calls k _ _ l0 a1 true _ ?_ ?_ A6.out).mono ?_);exact Kd.Cz ((Kd.C_below HR0.out HB.out));exact HC0.out;rintro e w8 ⟨rfl,hb⟩;refine ⟨_,rfl,?_⟩;replace BK496:=yam (ybb BK496.out hb);replace HB:=yam (below_step yhb hb);(try clear hb)))
   go_meet
   case rel=>exact ⟨_,(decide ((l2.length:Int) > 20)),yeq,H,⟨by first|omega|exact Nat.le_refl _⟩,⟨ybk BK496.out⟩,⟨yhb⟩⟩
  replace H:=yff H
  replace H:=yam H
  go_wp2_with (first|(refine goesL_ (some 12) rfl rfl Try.func19 (by kernel_rfl) rfl #[.slice A0 l0.length c0,.int .i64 a1] rfl ymd ?_;(with_reducible refine (impl_SquareSolved.calls k _ _ l0 a1 false _ ?_ ?_ A6.out).mono ?_);exact Kd.Cz ((Kd.C_below HR0.out HB.out));exact HC0.out;rintro e w9 ⟨rfl,hb⟩;refine ⟨_,rfl,?_⟩;replace BK496:=yam (ybb BK496.out hb);replace HB:=yam (below_step yhb hb);(try clear hb)))
  go_meet
  case rel=>exact ⟨_,(true),yeq,H,⟨by first|omega|exact Nat.le_refl _⟩,⟨ybk BK496.out⟩,⟨yhb⟩⟩
 case rest =>
  clear HC4
  try clear c2
  obtain ⟨kq,x18_3,rfl,HA,HJ3,BK496,HB⟩:=hcut
  rcases kq with _|kj3
  ·exact absurd HA.out (by simp [impl_PuzzleOf.j0])
  obtain ⟨H⟩:=HA
  simp only [impl_PuzzleOf.j0] at H
  cases x18_3
  rotate_left
  ·replace H:=ytt H
   simp only [Option.some.injEq,Prod.mk.injEq] at H
   obtain ⟨rfl,rfl,rfl,rfl⟩:=H
   obtain ⟨hcz11_0,hcz11_1,hcz11_2,hfz11_0,hfz11_1,hfz11_2⟩:=ybc BK496.out
   go_wp2
   refine bodyPost_ret (results_ct rfl _ _ gb496 37 #[.int .i64 0,.slice none 0 0,.slice none 0 0] (0,0) _ rfl (by (with_reducible repeat (first|refine ybn ?_ _|refine ybd ?_|refine yba ?_ _));refine blk_put (cs:= #[.int .i64 0,.slice none 0 0,.slice none 0 0]) ?_ 2 _ rfl;(with_reducible repeat (first|refine ybn ?_ _|refine ybd ?_|refine yba ?_ _));refine blk_put (cs:= #[.int .i64 0,.slice none 0 0,.slice none 0 0]) ?_ 1 _ rfl;(with_reducible repeat (first|refine ybn ?_ _|refine ybd ?_|refine yba ?_ _));refine blk_put (cs:= #[.int .i64 0,.slice none 0 0,.slice none 0 0]) ?_ 0 _ rfl;(with_reducible repeat (first|refine ybn ?_ _|refine ybd ?_|refine yba ?_ _));exact BK496.out) Try.underlying37 rfl (by kernel_rfl)) rfl ?_
   exact ⟨_,_,yer,by first|exact Kd.R_nil _ _ _ _ _|exact Kd.N_nil _ _ _ _ _|exact Kd.V_nil _ _ _ _ _|exact Kd.Q_nil _ _ _ _ _|exact Kd.S_nil _ _ _ _ _,by first|exact Kd.S_nil _ _ _ _ _|exact Kd.N_nil _ _ _ _ _|exact Kd.V_nil _ _ _ _ _|exact Kd.Q_nil _ _ _ _ _|exact Kd.R_nil _ _ _ _ _,yhb⟩
  replace H:=yff H
  replace H:=yam H
  go_wp2
  go_loopg [22] kj3 (fun kq v22 w'=>∃ (x22_2:Int) (x497000_2:Int),v22= .int .i64 x22_2∧Aside0 (impl_PuzzleOf.l0 kq l0 a1 l2 l2 (l2.length:Int) x22_2=some (r1,r2,r3,r4))∧Aside0 (kq≤kj3)∧Aside0 (w'.heap[gb496]?=some (.cells #[.int .i64 x497000_2,(.slice none 0 0),(.slice none 0 0)] 37 (0,0)))∧Aside0 (Below w.heap.size w w'))
  case atStart=>exact ⟨(0),(0),yeq,H,⟨Nat.le_refl _⟩,⟨ybk BK496.out⟩,⟨yhb⟩⟩
  case round =>
   clear H
   obtain ⟨x22_2,x497000_2,rfl,HA,HK2,BK496,HB⟩:=hrel
   rcases gk with _|k2
   ·exact absurd HA.out (by simp [impl_PuzzleOf.l0])
   obtain ⟨H⟩:=HA
   simp only [impl_PuzzleOf.l0] at H
   replace H:=yis H;obtain ⟨c12b0,H⟩ | ⟨c12b0,H⟩:=H
   rotate_left
   ·replace H:=ybi H;obtain ⟨⟨t501,t502,t505⟩,A26,H⟩:=H
    replace H:(some (t501,t502,t505,true))=some (r1,r2,r3,r4):=H
    simp only [Option.some.injEq,Prod.mk.injEq] at H
    obtain ⟨rfl,rfl,rfl,rfl⟩:=H
    go_wp2_with (first|(refine goesL_ (some 37) rfl rfl Try.func58 (by kernel_rfl) rfl #[.agg #[.int .i64 a1,.slice A0 l0.length c0,.slice A2 l2.length c2]] rfl ymd ?_;(with_reducible refine (impl_copyPuzzle.calls k2 a1 _ _ l0 _ _ l2 t501 t502 t505 _ ?_ ?_ ?_ ?_ A26.out).mono ?_);exact Kd.Cz ((Kd.C_below HR0.out HB.out));exact HC0.out;exact Kd.Cz ((Kd.C_below HR2.out HB.out));exact HC2.out;rintro e w27 ⟨v503,v506,rfl,ho0,ho1,hb⟩;refine ⟨_,rfl,?_⟩;have HO504:=yam (Kd.R_lower ho0 (below_size yhb));have HO507:=yam (Kd.S_lower ho1 (below_size yhb));replace BK496:=yam (ybb BK496.out hb);replace HB:=yam (below_step yhb hb);(try clear hb);(try clear ho0);(try clear ho1);obtain ⟨hcz28_0,hcz28_1,hcz28_2,hfz28_0,hfz28_1,hfz28_2⟩:=ybc BK496.out;obtain ⟨Ao29,co29,eo29⟩:=Kd.R_slice HO504.out;subst eo29;obtain ⟨Ao30,co30,eo30⟩:=Kd.S_slice HO507.out;subst eo30))
    refine bodyPost_ret (results_ct rfl _ _ gb496 37 #[.int .i64 t501,.slice Ao29 t502.length co29,.slice Ao30 t505.length co30] (0,0) _ rfl (by (with_reducible repeat (first|refine ybn ?_ _|refine ybd ?_|refine yba ?_ _));refine blk_put (cs:= #[.int .i64 t501,.slice Ao29 t502.length co29,.slice none 0 0]) ?_ 2 _ rfl;(with_reducible repeat (first|refine ybn ?_ _|refine ybd ?_|refine yba ?_ _));refine blk_put (cs:= #[.int .i64 t501,.slice none 0 0,.slice none 0 0]) ?_ 1 _ rfl;(with_reducible repeat (first|refine ybn ?_ _|refine ybd ?_|refine yba ?_ _));refine blk_put (cs:= #[.int .i64 x497000_2,.slice none 0 0,.slice none 0 0]) ?_ 0 _ rfl;(with_reducible repeat (first|refine ybn ?_ _|refine ybd ?_|refine yba ?_ _));exact BK496.out) Try.underlying37 rfl (by kernel_rfl)) rfl ?_
    exact ⟨_,_,yer,by (with_reducible repeat (first|apply Kd.Ya|apply Kd.Yn|apply Kd.Yd));exact Kd.R_mono (Kd.R_far (p:=⟨gb496,2,none⟩) (Kd.R_far (p:=⟨gb496,1,none⟩) (Kd.R_far (p:=⟨gb496,0,none⟩) (Kd.R_types HO504.out BK496.out (by decide)) (fun _ hk=>hk.2) (.int .i64 t501)) (fun _ hk=>hk.2) (.slice Ao29 t502.length co29)) (fun _ hk=>hk.2) (.slice Ao30 t505.length co30)) (fun _ hk=>trivial),by (with_reducible repeat (first|apply Kd.S_alloc|apply Kd.S_drewN|apply Kd.S_drew));exact Kd.S_mono (Kd.S_far (p:=⟨gb496,2,none⟩) (Kd.S_far (p:=⟨gb496,1,none⟩) (Kd.S_far (p:=⟨gb496,0,none⟩) (Kd.S_types HO507.out BK496.out (by decide)) (fun _ hk=>hk.2) (.int .i64 t501)) (fun _ hk=>hk.2) (.slice Ao29 t502.length co29)) (fun _ hk=>hk.2) (.slice Ao30 t505.length co30)) (fun _ hk=>hk.1),yhb⟩
   replace H:=yif H;obtain ⟨c13b0,H⟩:=H
   replace H:=yif H;obtain ⟨c14b0,H⟩:=H
   replace H:=ybi H;obtain ⟨t500,A15,H⟩:=H
   replace H:(if t500=true then (impl_PuzzleOf.l0 k2 l0 a1 l2 l2 (l2.length:Int) (wrap64 (x22_2 + 1))) else (some (0,([]:List Int),([]:List (S73)),false)))=some (r1,r2,r3,r4):=H
   cases t500
   rotate_left
   ·replace H:=ytt H
    replace H:=yam H
    have p498:0≤(x22_2:Int):=ydt
    have q498:x22_2 < (l2.length:Int):=ydt
    obtain ⟨ad498,A498_1,c498_1,e498,hx498_0,hx498_1,hx498_2,hl498_1,hi498_1⟩:=at_T73 HR2.out x22_2 p498 q498
    cases e498
    replace hx498_0:=ybx HB.out hx498_0
    replace hx498_1:=ybx HB.out hx498_1
    replace hx498_2:=ybx HB.out hx498_2
    have HR498_1:=yam hi498_1
    have HC498_1:=yam hl498_1
    clear hi498_1 hl498_1
    replace p498:=eq_true p498
    replace q498:=eq_true q498
    go_wp2_with (first|((with_reducible refine gate_dst (N:=9) rfl ?_);(try (refine gate_guard (by rfl) ?_;dsimp only));refine ybe 9 #[.int .i64 0,.slice none 0 0,.int .i64 0] 73 ?_;intro gb499 hg w17 hbox hb;have BK499:=yam (hbox);have GW499:=yam ((by rw [hg];exact (below_size yhb):w.heap.size≤gb499));replace HB:=yam (below_step yhb hb);have GE499:=GW499;have NB496_499:=yam ((by rw [hg];exact Nat.ne_of_lt (blk_lt (g:=gb496) (o:= .cells #[.int .i64 x497000_2,.slice none 0 0,.slice none 0 0] 37 (0,0)) (ybz BK496.out)):gb496≠gb499));have NB499_496:=yam ((by rw [hg];exact Nat.ne_of_gt (blk_lt (g:=gb496) (o:= .cells #[.int .i64 x497000_2,.slice none 0 0,.slice none 0 0] 37 (0,0)) (ybz BK496.out)):gb499≠gb496));replace BK496:=yam (ybb BK496.out hb);clear hb hbox hg;have hnb18:=NB499_496.out;have hnc18:=NB496_499.out;obtain ⟨hcz19_0,hcz19_1,hcz19_2,hfz19_0,hfz19_1,hfz19_2⟩:=ybc BK499.out)|(refine goesL_ (some 29) rfl rfl Try.func57 (by kernel_rfl) rfl #[.agg #[.int .i64 ((rd_T73 l2 x22_2).f0),.slice A498_1 ((rd_T73 l2 x22_2).f1).length c498_1,.int .i64 ((rd_T73 l2 x22_2).f2)],.slice A0 l0.length c0,.int .i64 a1] rfl ymd ?_;(with_reducible refine (impl_RuleHolds.calls k2 ((rd_T73 l2 x22_2).f0) _ _ ((rd_T73 l2 x22_2).f1) ((rd_T73 l2 x22_2).f2) _ _ l0 a1 true _ ?_ ?_ ?_ ?_ A15.out).mono ?_);exact Kd.C_below HR498_1.out yhb;exact HC498_1.out;exact Kd.C_below HR0.out yhb;exact HC0.out;rintro e w20 ⟨rfl,hb⟩;refine ⟨_,rfl,?_⟩;replace BK496:=yam (blk_below (g:=gb496) (o:= .cells #[.int .i64 x497000_2,.slice none 0 0,.slice none 0 0] 37 (0,0)) (by (with_reducible repeat (first|refine ybn ?_ _|refine ybd ?_|refine yba ?_ _));refine blk_far ?_ NB496_499.out _;(with_reducible repeat (first|refine ybn ?_ _|refine ybd ?_|refine yba ?_ _));refine blk_far ?_ NB496_499.out _;(with_reducible repeat (first|refine ybn ?_ _|refine ybd ?_|refine yba ?_ _));refine blk_far ?_ NB496_499.out _;(with_reducible repeat (first|refine ybn ?_ _|refine ybd ?_|refine yba ?_ _));exact BK496.out) hb);replace BK499:=yam (blk_below (g:=gb499) (o:= .cells #[.int .i64 ((rd_T73 l2 x22_2).f0),.slice A498_1 ((rd_T73 l2 x22_2).f1).length c498_1,.int .i64 ((rd_T73 l2 x22_2).f2)] 73 (0,0)) (by (with_reducible repeat (first|refine ybn ?_ _|refine ybd ?_|refine yba ?_ _));refine blk_put (cs:= #[.int .i64 ((rd_T73 l2 x22_2).f0),.slice A498_1 ((rd_T73 l2 x22_2).f1).length c498_1,.int .i64 0]) ?_ 2 _ rfl;(with_reducible repeat (first|refine ybn ?_ _|refine ybd ?_|refine yba ?_ _));refine blk_put (cs:= #[.int .i64 ((rd_T73 l2 x22_2).f0),.slice none 0 0,.int .i64 0]) ?_ 1 _ rfl;(with_reducible repeat (first|refine ybn ?_ _|refine ybd ?_|refine yba ?_ _));refine blk_put (cs:= #[.int .i64 0,.slice none 0 0,.int .i64 0]) ?_ 0 _ rfl;(with_reducible repeat (first|refine ybn ?_ _|refine ybd ?_|refine yba ?_ _));exact BK499.out) hb);replace HB:=yam (below_step yhb hb);(try clear hb)))
    go_roundg k2
    case measure=>have:=HJ3.out;have:=HK2.out;omega
    case rel=>exact ⟨(wrap64 (x22_2 + 1)),(x497000_2),yeq,H,⟨by have:=HJ3.out;have:=HK2.out;omega⟩,⟨ybk BK496.out⟩,⟨yhb⟩⟩
   replace H:=yff H
   simp only [Option.some.injEq,Prod.mk.injEq] at H
   obtain ⟨rfl,rfl,rfl,rfl⟩:=H
   have p498:0≤(x22_2:Int):=ydt
   have q498:x22_2 < (l2.length:Int):=ydt
   obtain ⟨ad498,A498_1,c498_1,e498,hx498_0,hx498_1,hx498_2,hl498_1,hi498_1⟩:=at_T73 HR2.out x22_2 p498 q498
   cases e498
   replace hx498_0:=ybx HB.out hx498_0
   replace hx498_1:=ybx HB.out hx498_1
   replace hx498_2:=ybx HB.out hx498_2
   have HR498_1:=yam hi498_1
   have HC498_1:=yam hl498_1
   clear hi498_1 hl498_1
   replace p498:=eq_true p498
   replace q498:=eq_true q498
   go_wp2_with (first|((with_reducible refine gate_dst (N:=9) rfl ?_);(try (refine gate_guard (by rfl) ?_;dsimp only));refine ybe 9 #[.int .i64 0,.slice none 0 0,.int .i64 0] 73 ?_;intro gb499 hg w21 hbox hb;have BK499:=yam (hbox);have GW499:=yam ((by rw [hg];exact (below_size yhb):w.heap.size≤gb499));replace HB:=yam (below_step yhb hb);have GE499:=GW499;have NB496_499:=yam ((by rw [hg];exact Nat.ne_of_lt (blk_lt (g:=gb496) (o:= .cells #[.int .i64 x497000_2,.slice none 0 0,.slice none 0 0] 37 (0,0)) (ybz BK496.out)):gb496≠gb499));have NB499_496:=yam ((by rw [hg];exact Nat.ne_of_gt (blk_lt (g:=gb496) (o:= .cells #[.int .i64 x497000_2,.slice none 0 0,.slice none 0 0] 37 (0,0)) (ybz BK496.out)):gb499≠gb496));replace BK496:=yam (ybb BK496.out hb);clear hb hbox hg;have hnb22:=NB499_496.out;have hnc22:=NB496_499.out;obtain ⟨hcz23_0,hcz23_1,hcz23_2,hfz23_0,hfz23_1,hfz23_2⟩:=ybc BK499.out)|(refine goesL_ (some 29) rfl rfl Try.func57 (by kernel_rfl) rfl #[.agg #[.int .i64 ((rd_T73 l2 x22_2).f0),.slice A498_1 ((rd_T73 l2 x22_2).f1).length c498_1,.int .i64 ((rd_T73 l2 x22_2).f2)],.slice A0 l0.length c0,.int .i64 a1] rfl ymd ?_;(with_reducible refine (impl_RuleHolds.calls k2 ((rd_T73 l2 x22_2).f0) _ _ ((rd_T73 l2 x22_2).f1) ((rd_T73 l2 x22_2).f2) _ _ l0 a1 false _ ?_ ?_ ?_ ?_ A15.out).mono ?_);exact Kd.C_below HR498_1.out yhb;exact HC498_1.out;exact Kd.C_below HR0.out yhb;exact HC0.out;rintro e w24 ⟨rfl,hb⟩;refine ⟨_,rfl,?_⟩;replace BK496:=yam (blk_below (g:=gb496) (o:= .cells #[.int .i64 x497000_2,.slice none 0 0,.slice none 0 0] 37 (0,0)) (by (with_reducible repeat (first|refine ybn ?_ _|refine ybd ?_|refine yba ?_ _));refine blk_far ?_ NB496_499.out _;(with_reducible repeat (first|refine ybn ?_ _|refine ybd ?_|refine yba ?_ _));refine blk_far ?_ NB496_499.out _;(with_reducible repeat (first|refine ybn ?_ _|refine ybd ?_|refine yba ?_ _));refine blk_far ?_ NB496_499.out _;(with_reducible repeat (first|refine ybn ?_ _|refine ybd ?_|refine yba ?_ _));exact BK496.out) hb);replace BK499:=yam (blk_below (g:=gb499) (o:= .cells #[.int .i64 ((rd_T73 l2 x22_2).f0),.slice A498_1 ((rd_T73 l2 x22_2).f1).length c498_1,.int .i64 ((rd_T73 l2 x22_2).f2)] 73 (0,0)) (by (with_reducible repeat (first|refine ybn ?_ _|refine ybd ?_|refine yba ?_ _));refine blk_put (cs:= #[.int .i64 ((rd_T73 l2 x22_2).f0),.slice A498_1 ((rd_T73 l2 x22_2).f1).length c498_1,.int .i64 0]) ?_ 2 _ rfl;(with_reducible repeat (first|refine ybn ?_ _|refine ybd ?_|refine yba ?_ _));refine blk_put (cs:= #[.int .i64 ((rd_T73 l2 x22_2).f0),.slice none 0 0,.int .i64 0]) ?_ 1 _ rfl;(with_reducible repeat (first|refine ybn ?_ _|refine ybd ?_|refine yba ?_ _));refine blk_put (cs:= #[.int .i64 0,.slice none 0 0,.int .i64 0]) ?_ 0 _ rfl;(with_reducible repeat (first|refine ybn ?_ _|refine ybd ?_|refine yba ?_ _));exact BK499.out) hb);replace HB:=yam (below_step yhb hb);(try clear hb);obtain ⟨hcz25_0,hcz25_1,hcz25_2,hfz25_0,hfz25_1,hfz25_2⟩:=ybc BK496.out))
   refine bodyPost_ret (results_ct rfl _ _ gb496 37 #[.int .i64 0,.slice none 0 0,.slice none 0 0] (0,0) _ rfl (by (with_reducible repeat (first|refine ybn ?_ _|refine ybd ?_|refine yba ?_ _));refine blk_put (cs:= #[.int .i64 0,.slice none 0 0,.slice none 0 0]) ?_ 2 _ rfl;(with_reducible repeat (first|refine ybn ?_ _|refine ybd ?_|refine yba ?_ _));refine blk_put (cs:= #[.int .i64 0,.slice none 0 0,.slice none 0 0]) ?_ 1 _ rfl;(with_reducible repeat (first|refine ybn ?_ _|refine ybd ?_|refine yba ?_ _));refine blk_put (cs:= #[.int .i64 x497000_2,.slice none 0 0,.slice none 0 0]) ?_ 0 _ rfl;(with_reducible repeat (first|refine ybn ?_ _|refine ybd ?_|refine yba ?_ _));exact BK496.out) Try.underlying37 rfl (by kernel_rfl)) rfl ?_
   exact ⟨_,_,yer,by first|exact Kd.R_nil _ _ _ _ _|exact Kd.N_nil _ _ _ _ _|exact Kd.V_nil _ _ _ _ _|exact Kd.Q_nil _ _ _ _ _|exact Kd.S_nil _ _ _ _ _,by first|exact Kd.S_nil _ _ _ _ _|exact Kd.N_nil _ _ _ _ _|exact Kd.V_nil _ _ _ _ _|exact Kd.Q_nil _ _ _ _ _|exact Kd.R_nil _ _ _ _ _,yhb⟩
def laws_eqRule.f (k:Nat)(a0_0:Int)(l0_1:List Int)(a0_2:Int)(a1_0:Int)(l1_1:List Int)(a1_2:Int):Option (Bool):=if a0_0=a1_0 then ((laws_eqIntS.f k l0_1 l1_1).bind fun t510=>(if t510=true then (if a0_2=a1_2 then (some true) else (some false)) else (some false))) else (some false)
theorem laws_eqRule.calls (k:Nat)(a0_0:Int)(A0_1:Option Addr)(c0_1:Nat)(l0_1:List Int)(a0_2:Int)(a1_0:Int)(A1_1:Option Addr)(c1_1:Nat)(l1_1:List Int)(a1_2:Int)(r:Bool)(w:World)(hr0_1:Kd.C (Kd.int .i64) w A0_1 l0_1.length l0_1)(hc0_1:l0_1.length≤c0_1)(hr1_1:Kd.C (Kd.int .i64) w A1_1 l1_1.length l1_1)(hc1_1:l1_1.length≤c1_1)(h:laws_eqRule.f k a0_0 l0_1 a0_2 a1_0 l1_1 a1_2=some r) :
  Calls Try.prog 59 #[.agg #[.int .i64 a0_0,.slice A0_1 l0_1.length c0_1,.int .i64 a0_2],.agg #[.int .i64 a1_0,.slice A1_1 l1_1.length c1_1,.int .i64 a1_2]] w fun e w'=>e= .returned (.bool r)∧Below w.heap.size w w':=by
 have hu73:=Try.underlying73
 have HR0_1:=yam hr0_1
 have HC0_1:=yam hc0_1
 clear hr0_1 hc0_1
 have HR1_1:=yam hr1_1
 have HC1_1:=yam hc1_1
 clear hr1_1 hc1_1
 have HB:=yam (Below.refl w.heap.size w)
 unfold laws_eqRule.f at h
 have H:=h
 clear h
 replace H:=yit H;obtain ⟨c3,H⟩ | ⟨c3,H⟩:=H
 rotate_left
 ·have c3b0:(a0_0 == a1_0)=false:=beq_eq_false_iff_ne.mpr c3
  have c3b1:(a0_0 != a1_0)=true:=bne_iff_ne.mpr c3
  obtain rfl:=ysi H
  go_enter Try.func59,Try.ntmps59
  go_wp2_with (first|(refine ybe 2 #[.int .i64 a0_0,.slice A0_1 l0_1.length c0_1,.int .i64 a0_2] 73 ?_;intro gb508 hg w22 hbox hb;have BK508:=yam (hbox);have GW508:=yam ((by rw [hg];exact (below_size (yez HB.out)):w.heap.size≤gb508));replace HB:=yam (below_step (yez HB.out) hb);have GE508:=GW508;clear hb hbox hg)|(refine ybe 3 #[.int .i64 a1_0,.slice A1_1 l1_1.length c1_1,.int .i64 a1_2] 73 ?_;intro gb509 hg w23 hbox hb;have BK509:=yam (hbox);have GW509:=yam ((by rw [hg];exact (below_size yhb):w.heap.size≤gb509));replace HB:=yam (below_step yhb hb);have GE509:=GW509;have NB508_509:=yam ((by rw [hg];exact Nat.ne_of_lt (blk_lt (g:=gb508) (o:= .cells #[.int .i64 a0_0,.slice A0_1 l0_1.length c0_1,.int .i64 a0_2] 73 (0,0)) (ybz BK508.out)):gb508≠gb509));have NB509_508:=yam ((by rw [hg];exact Nat.ne_of_gt (blk_lt (g:=gb508) (o:= .cells #[.int .i64 a0_0,.slice A0_1 l0_1.length c0_1,.int .i64 a0_2] 73 (0,0)) (ybz BK508.out)):gb509≠gb508));replace BK508:=yam (ybb BK508.out hb);clear hb hbox hg;have hnb24:=NB508_509.out;have hnc24:=NB509_508.out;obtain ⟨hcz25_0,hcz25_1,hcz25_2,hfz25_0,hfz25_1,hfz25_2⟩:=ybc BK508.out;obtain ⟨hcz26_0,hcz26_1,hcz26_2,hfz26_0,hfz26_1,hfz26_2⟩:=ybc BK509.out))
  go_ret
  exact ⟨yer,yhb⟩
 have c3b0:(a0_0 == a1_0)=true:=beq_iff_eq.mpr c3
 have c3b1:(a0_0 != a1_0)=false:=bne_eq_false_iff_eq.mpr c3
 clear c3
 replace H:=ybi H;obtain ⟨t510,A4,H⟩:=H
 try dsimp only at H
 cases t510
 ·replace H:=yff H
  obtain rfl:=ysi H
  go_enter Try.func59,Try.ntmps59
  go_wp2_with (first|(refine ybe 2 #[.int .i64 a0_0,.slice A0_1 l0_1.length c0_1,.int .i64 a0_2] 73 ?_;intro gb508 hg w17 hbox hb;have BK508:=yam (hbox);have GW508:=yam ((by rw [hg];exact (below_size (yez HB.out)):w.heap.size≤gb508));replace HB:=yam (below_step (yez HB.out) hb);have GE508:=GW508;clear hb hbox hg)|(refine ybe 3 #[.int .i64 a1_0,.slice A1_1 l1_1.length c1_1,.int .i64 a1_2] 73 ?_;intro gb509 hg w18 hbox hb;have BK509:=yam (hbox);have GW509:=yam ((by rw [hg];exact (below_size yhb):w.heap.size≤gb509));replace HB:=yam (below_step yhb hb);have GE509:=GW509;have NB508_509:=yam ((by rw [hg];exact Nat.ne_of_lt (blk_lt (g:=gb508) (o:= .cells #[.int .i64 a0_0,.slice A0_1 l0_1.length c0_1,.int .i64 a0_2] 73 (0,0)) (ybz BK508.out)):gb508≠gb509));have NB509_508:=yam ((by rw [hg];exact Nat.ne_of_gt (blk_lt (g:=gb508) (o:= .cells #[.int .i64 a0_0,.slice A0_1 l0_1.length c0_1,.int .i64 a0_2] 73 (0,0)) (ybz BK508.out)):gb509≠gb508));replace BK508:=yam (ybb BK508.out hb);clear hb hbox hg;have hnb19:=NB508_509.out;have hnc19:=NB509_508.out;obtain ⟨hcz20_0,hcz20_1,hcz20_2,hfz20_0,hfz20_1,hfz20_2⟩:=ybc BK508.out;obtain ⟨hcz21_0,hcz21_1,hcz21_2,hfz21_0,hfz21_1,hfz21_2⟩:=ybc BK509.out)|(refine goesL_ (some 14) rfl rfl Try.func13 (by kernel_rfl) rfl #[.slice A0_1 l0_1.length c0_1,.slice A1_1 l1_1.length c1_1] rfl ymd ?_;(with_reducible refine (laws_eqIntS.calls k _ _ l0_1 _ _ l1_1 false _ ?_ ?_ ?_ ?_ A4.out).mono ?_);exact Kd.Cz ((Kd.C_below HR0_1.out HB.out));exact HC0_1.out;exact Kd.Cz ((Kd.C_below HR1_1.out HB.out));exact HC1_1.out;rintro e w' ⟨rfl,⟨nd,rfl⟩⟩;refine ⟨_,rfl,?_⟩))
  go_ret
  exact ⟨yer,yhb⟩
 replace H:=ytt H
 replace H:=yit H;obtain ⟨c6,H⟩ | ⟨c6,H⟩:=H
 rotate_left
 ·have c6b0:(a0_2 == a1_2)=false:=beq_eq_false_iff_ne.mpr c6
  have c6b1:(a0_2 != a1_2)=true:=bne_iff_ne.mpr c6
  obtain rfl:=ysi H
  go_enter Try.func59,Try.ntmps59
  go_wp2_with (first|(refine ybe 2 #[.int .i64 a0_0,.slice A0_1 l0_1.length c0_1,.int .i64 a0_2] 73 ?_;intro gb508 hg w12 hbox hb;have BK508:=yam (hbox);have GW508:=yam ((by rw [hg];exact (below_size (yez HB.out)):w.heap.size≤gb508));replace HB:=yam (below_step (yez HB.out) hb);have GE508:=GW508;clear hb hbox hg)|(refine ybe 3 #[.int .i64 a1_0,.slice A1_1 l1_1.length c1_1,.int .i64 a1_2] 73 ?_;intro gb509 hg w13 hbox hb;have BK509:=yam (hbox);have GW509:=yam ((by rw [hg];exact (below_size yhb):w.heap.size≤gb509));replace HB:=yam (below_step yhb hb);have GE509:=GW509;have NB508_509:=yam ((by rw [hg];exact Nat.ne_of_lt (blk_lt (g:=gb508) (o:= .cells #[.int .i64 a0_0,.slice A0_1 l0_1.length c0_1,.int .i64 a0_2] 73 (0,0)) (ybz BK508.out)):gb508≠gb509));have NB509_508:=yam ((by rw [hg];exact Nat.ne_of_gt (blk_lt (g:=gb508) (o:= .cells #[.int .i64 a0_0,.slice A0_1 l0_1.length c0_1,.int .i64 a0_2] 73 (0,0)) (ybz BK508.out)):gb509≠gb508));replace BK508:=yam (ybb BK508.out hb);clear hb hbox hg;have hnb14:=NB508_509.out;have hnc14:=NB509_508.out;obtain ⟨hcz15_0,hcz15_1,hcz15_2,hfz15_0,hfz15_1,hfz15_2⟩:=ybc BK508.out;obtain ⟨hcz16_0,hcz16_1,hcz16_2,hfz16_0,hfz16_1,hfz16_2⟩:=ybc BK509.out)|(refine goesL_ (some 14) rfl rfl Try.func13 (by kernel_rfl) rfl #[.slice A0_1 l0_1.length c0_1,.slice A1_1 l1_1.length c1_1] rfl ymd ?_;(with_reducible refine (laws_eqIntS.calls k _ _ l0_1 _ _ l1_1 true _ ?_ ?_ ?_ ?_ A4.out).mono ?_);exact Kd.Cz ((Kd.C_below HR0_1.out HB.out));exact HC0_1.out;exact Kd.Cz ((Kd.C_below HR1_1.out HB.out));exact HC1_1.out;rintro e w' ⟨rfl,⟨nd,rfl⟩⟩;refine ⟨_,rfl,?_⟩))
  go_ret
  exact ⟨yer,yhb⟩
 have c6b0:(a0_2 == a1_2)=true:=beq_iff_eq.mpr c6
 have c6b1:(a0_2 != a1_2)=false:=bne_eq_false_iff_eq.mpr c6
 clear c6
 obtain rfl:=ysi H
 go_enter Try.func59,Try.ntmps59
 go_wp2_with (first|(refine ybe 2 #[.int .i64 a0_0,.slice A0_1 l0_1.length c0_1,.int .i64 a0_2] 73 ?_;intro gb508 hg w7 hbox hb;have BK508:=yam (hbox);have GW508:=yam ((by rw [hg];exact (below_size (yez HB.out)):w.heap.size≤gb508));replace HB:=yam (below_step (yez HB.out) hb);have GE508:=GW508;clear hb hbox hg)|(refine ybe 3 #[.int .i64 a1_0,.slice A1_1 l1_1.length c1_1,.int .i64 a1_2] 73 ?_;intro gb509 hg w8 hbox hb;have BK509:=yam (hbox);have GW509:=yam ((by rw [hg];exact (below_size yhb):w.heap.size≤gb509));replace HB:=yam (below_step yhb hb);have GE509:=GW509;have NB508_509:=yam ((by rw [hg];exact Nat.ne_of_lt (blk_lt (g:=gb508) (o:= .cells #[.int .i64 a0_0,.slice A0_1 l0_1.length c0_1,.int .i64 a0_2] 73 (0,0)) (ybz BK508.out)):gb508≠gb509));have NB509_508:=yam ((by rw [hg];exact Nat.ne_of_gt (blk_lt (g:=gb508) (o:= .cells #[.int .i64 a0_0,.slice A0_1 l0_1.length c0_1,.int .i64 a0_2] 73 (0,0)) (ybz BK508.out)):gb509≠gb508));replace BK508:=yam (ybb BK508.out hb);clear hb hbox hg;have hnb9:=NB508_509.out;have hnc9:=NB509_508.out;obtain ⟨hcz10_0,hcz10_1,hcz10_2,hfz10_0,hfz10_1,hfz10_2⟩:=ybc BK508.out;obtain ⟨hcz11_0,hcz11_1,hcz11_2,hfz11_0,hfz11_1,hfz11_2⟩:=ybc BK509.out)|(refine goesL_ (some 14) rfl rfl Try.func13 (by kernel_rfl) rfl #[.slice A0_1 l0_1.length c0_1,.slice A1_1 l1_1.length c1_1] rfl ymd ?_;(with_reducible refine (laws_eqIntS.calls k _ _ l0_1 _ _ l1_1 true _ ?_ ?_ ?_ ?_ A4.out).mono ?_);exact Kd.Cz ((Kd.C_below HR0_1.out HB.out));exact HC0_1.out;exact Kd.Cz ((Kd.C_below HR1_1.out HB.out));exact HC1_1.out;rintro e w' ⟨rfl,⟨nd,rfl⟩⟩;refine ⟨_,rfl,?_⟩))
 go_ret
 exact ⟨yer,yhb⟩
def laws_eqRuleS.l0:Nat→List (S73)→List (S73)→Int→Option (Bool)
 | 0,_,_,_=>none
 | k + 1,x0,x1,x5=>if x5 < (x0.length:Int) then (if 0≤x5 then (if x5 < (x1.length:Int) then ((laws_eqRule.f k ((rd_T73 x0 x5).f0) ((rd_T73 x0 x5).f1) ((rd_T73 x0 x5).f2) ((rd_T73 x1 x5).f0) ((rd_T73 x1 x5).f1) ((rd_T73 x1 x5).f2)).bind fun t513=>(if t513=true then (laws_eqRuleS.l0 k x0 x1 (wrap64 (x5 + 1))) else (some false))) else (none)) else (none)) else (some true)
def laws_eqRuleS.f (k:Nat)(l0:List (S73))(l1:List (S73)):Option (Bool):=if (l0.length:Int)=(l1.length:Int) then (laws_eqRuleS.l0 k l0 l1 0) else (some false)
def laws_eqRuleS.T6:Bool × List (List Nat × List Nat):=(true,[([],[]),([],[]),([0,1],[0,1]),([2],[2]),([],[]),([],[]),([4,5],[4,5]),([6],[6]),([3,7],[3,7]),([8],[8])])
def laws_eqRuleS.B6:List Nat:=[0,0,3,7,0,0,48,112,255,511]
theorem laws_eqRuleS.tab6:rtab .any (opsOf Try.f26 6)=laws_eqRuleS.T6:=by kernel_rfl
theorem laws_eqRuleS.bits6:waitsOk laws_eqRuleS.T6.2 laws_eqRuleS.B6=true:=by kernel_rfl
theorem laws_eqRuleS.calls (k:Nat)(A0:Option Addr)(c0:Nat)(l0:List (S73))(A1:Option Addr)(c1:Nat)(l1:List (S73))(r:Bool)(w:World)(hr0:Kd.C k73 w A0 l0.length l0)(hc0:l0.length≤c0)(hr1:Kd.C k73 w A1 l1.length l1)(hc1:l1.length≤c1)(h:laws_eqRuleS.f k l0 l1=some r) :
  Calls Try.prog 26 #[.slice A0 l0.length c0,.slice A1 l1.length c1] w fun e w'=>e= .returned (.bool r)∧Below w.heap.size w w':=by
 have hu73:=Try.underlying73
 have HR0:=yam hr0
 have HC0:=yam hc0
 clear hr0 hc0
 have HR1:=yam hr1
 have HC1:=yam hc1
 clear hr1 hc1
 have HB:=yam (Below.refl w.heap.size w)
 unfold laws_eqRuleS.f at h
 have H:=h
 clear h
 replace H:=yit H;obtain ⟨c3,H⟩ | ⟨c3,H⟩:=H
 rotate_left
 ·have c3b0:((l0.length:Int) == (l1.length:Int))=false:=beq_eq_false_iff_ne.mpr c3
  have c3b1:((l0.length:Int) != (l1.length:Int))=true:=bne_iff_ne.mpr c3
  have c3b2:(l0.length == l1.length)=false:=by first|simpa using c3|(simp at c3 ⊢;omega)
  obtain rfl:=ysi H
  go_enter Try.func26,Try.ntmps26
  go_wp2
  go_ret
  exact ⟨yer,yhb⟩
 have c3b0:((l0.length:Int) == (l1.length:Int))=true:=beq_iff_eq.mpr c3
 have c3b1:((l0.length:Int) != (l1.length:Int))=false:=bne_eq_false_iff_eq.mpr c3
 have c3b2:(l0.length == l1.length)=true:=by first|simpa using c3|(simp at c3 ⊢;omega)
 clear c3
 replace H:=yam H
 go_enter Try.func26,Try.ntmps26
 go_wp2
 go_loopg [5] k (fun kq v5 w'=>∃ (x5_1:Int),v5= .int .i64 x5_1∧Aside0 (laws_eqRuleS.l0 kq l0 l1 x5_1=some r)∧Aside0 (kq≤k)∧Aside0 (Below w.heap.size w w'))
 case atStart=>exact ⟨(0),yeq,H,⟨Nat.le_refl _⟩,⟨yhb⟩⟩
 case round =>
  clear H
  try clear c1
  try clear c3b0
  try clear c3b1
  try clear c3b2
  obtain ⟨x5_1,rfl,HA,HK1,HB⟩:=hrel
  rcases gk with _|k1
  ·exact absurd HA.out (by simp [laws_eqRuleS.l0])
  obtain ⟨H⟩:=HA
  simp only [laws_eqRuleS.l0] at H
  replace H:=yis H;obtain ⟨c4b0,H⟩ | ⟨c4b0,H⟩:=H
  rotate_left
  ·obtain rfl:=ysi H
   go_wp2
   go_ret
   exact ⟨yer,yhb⟩
  replace H:=yif H;obtain ⟨c5b0,H⟩:=H
  replace H:=yif H;obtain ⟨c6b0,H⟩:=H
  replace H:=ybi H;obtain ⟨t513,A7,H⟩:=H
  try dsimp only at H
  cases t513
  ·replace H:=yff H
   obtain rfl:=ysi H
   try go_wp2
   replace HB:=yam (yed HB.out)
   have p511:0≤(x5_1:Int):=ydt
   have q511:x5_1 < (l0.length:Int):=ydt
   obtain ⟨ad511,A511_1,c511_1,e511,hx511_0,hx511_1,hx511_2,hl511_1,hi511_1⟩:=at_T73 HR0.out x5_1 p511 q511
   have hw511_2:=hx511_2
   have hw511_1:=hx511_1
   have hw511_0:=hx511_0
   cases e511
   replace hx511_0:=ybx HB.out hx511_0
   replace hx511_1:=ybx HB.out hx511_1
   replace hx511_2:=ybx HB.out hx511_2
   have HR511_1:=yam hi511_1
   have HC511_1:=yam hl511_1
   clear hi511_1 hl511_1
   replace p511:=eq_true p511
   replace q511:=eq_true q511
   have p512:0≤(x5_1:Int):=ydt
   have q512:x5_1 < (l1.length:Int):=ydt
   obtain ⟨ad512,A512_1,c512_1,e512,hx512_0,hx512_1,hx512_2,hl512_1,hi512_1⟩:=at_T73 HR1.out x5_1 p512 q512
   have hw512_2:=hx512_2
   have hw512_1:=hx512_1
   have hw512_0:=hx512_0
   cases e512
   replace hx512_0:=ybx HB.out hx512_0
   replace hx512_1:=ybx HB.out hx512_1
   replace hx512_2:=ybx HB.out hx512_2
   have HR512_1:=yam hi512_1
   have HC512_1:=yam hl512_1
   clear hi512_1 hl512_1
   replace p512:=eq_true p512
   replace q512:=eq_true q512
   refine start_ (n:=10) (S:=fun w'=>w'.cell? (ad511.add ((x5_1).toNat * 3))=some (.int .i64 ((rd_T73 l0 x5_1).f0))∧w'.cell? ⟨(ad511.add ((x5_1).toNat * 3)).block,(ad511.add ((x5_1).toNat * 3)).off + 1,none⟩=some (.slice A511_1 ((rd_T73 l0 x5_1).f1).length c511_1)∧w'.cell? ⟨(ad511.add ((x5_1).toNat * 3)).block,(ad511.add ((x5_1).toNat * 3)).off + 2,none⟩=some (.int .i64 ((rd_T73 l0 x5_1).f2))∧w'.cell? (ad512.add ((x5_1).toNat * 3))=some (.int .i64 ((rd_T73 l1 x5_1).f0))∧w'.cell? ⟨(ad512.add ((x5_1).toNat * 3)).block,(ad512.add ((x5_1).toNat * 3)).off + 1,none⟩=some (.slice A512_1 ((rd_T73 l1 x5_1).f1).length c512_1)∧w'.cell? ⟨(ad512.add ((x5_1).toNat * 3)).block,(ad512.add ((x5_1).toNat * 3)).off + 2,none⟩=some (.int .i64 ((rd_T73 l1 x5_1).f2))) (ds:=[]) (yvb 10 0) (by kernel_rfl) rfl rfl ⟨((HB.out.cell (World.block_lt_of_cell? w _ hw511_0)).trans hw511_0),((HB.out.cell (World.block_lt_of_cell? w _ hw511_1)).trans hw511_1),((HB.out.cell (World.block_lt_of_cell? w _ hw511_2)).trans hw511_2),((HB.out.cell (World.block_lt_of_cell? w _ hw512_0)).trans hw512_0),((HB.out.cell (World.block_lt_of_cell? w _ hw512_1)).trans hw512_1),((HB.out.cell (World.block_lt_of_cell? w _ hw512_2)).trans hw512_2)⟩ (fun hHeld=>?_);refine with_tabW laws_eqRuleS.tab6 laws_eqRuleS.bits6 (fun HT_ HW_=>?_)
   generalize wr.drew=w11 at HB HR511_1 HR512_1 hx511_0 hx511_1 hx511_2 hx512_0 hx512_1 hx512_2 hHeld ⊢
   refine yvp 0 17 (yvb 10 1) HT_.out ?_
   refine yvp 1 18 (yvb 10 3) HT_.out ?_
   refine yvp 2 19 (yvb 10 7) HT_.out ?_
   refine yvp 4 21 (yvb 10 23) HT_.out ?_
   refine yvp 5 22 (yvb 10 55) HT_.out ?_
   refine yvp 6 23 (yvb 10 119) HT_.out ?_
   refine yvt 3 20 (yvb 10 127) HT_.out HW_.out hHeld ?_
   refine yvt 7 24 (yvb 10 255) HT_.out HW_.out hHeld ?_
   refine one_ (i:=8) (N:=some 25) (yvb 10 511) rfl rfl (one_of HT_.out (by kernel_rfl)) (by decide) (fun K hK=>?_)
   refine goes_ Try.func59 (by kernel_rfl) rfl #[.agg #[.int .i64 ((rd_T73 l0 x5_1).f0),.slice A511_1 ((rd_T73 l0 x5_1).f1).length c511_1,.int .i64 ((rd_T73 l0 x5_1).f2)],.agg #[.int .i64 ((rd_T73 l1 x5_1).f0),.slice A512_1 ((rd_T73 l1 x5_1).f1).length c512_1,.int .i64 ((rd_T73 l1 x5_1).f2)]] (by rfl) rfl rfl ymd ?_
   with_reducible refine (laws_eqRule.calls k1 ((rd_T73 l0 x5_1).f0) _ _ ((rd_T73 l0 x5_1).f1) ((rd_T73 l0 x5_1).f2) ((rd_T73 l1 x5_1).f0) _ _ ((rd_T73 l1 x5_1).f1) ((rd_T73 l1 x5_1).f2) false _ ?_ ?_ ?_ ?_ A7.out).mono ?_
   exact Kd.Cz ((Kd.C_below HR511_1.out HB.out))
   exact HC511_1.out
   exact Kd.Cz ((Kd.C_below HR512_1.out HB.out))
   exact HC512_1.out
   rintro e w12 ⟨rfl,hb⟩
   refine ⟨_,rfl,?_⟩
   replace HB:=yam (below_step (yez HB.out) hb)
   (try clear hb)
   (try clear hb2)
   (try clear hk)
   (try clear hi)
   refine hK.out _ _ ⟨((HB.out.cell (World.block_lt_of_cell? w _ hw511_0)).trans hw511_0),((HB.out.cell (World.block_lt_of_cell? w _ hw511_1)).trans hw511_1),((HB.out.cell (World.block_lt_of_cell? w _ hw511_2)).trans hw511_2),((HB.out.cell (World.block_lt_of_cell? w _ hw512_0)).trans hw512_0),((HB.out.cell (World.block_lt_of_cell? w _ hw512_1)).trans hw512_1),((HB.out.cell (World.block_lt_of_cell? w _ hw512_2)).trans hw512_2)⟩ (fun hHeld=>?_)
   clear hK K
   refine norm_ (a':=?_) ?_ ?_
   rotate_left
   ·show Act.put _ (some 25) _=_
    simp only [Act.put,yps,i64_w,i32_w]
    rfl
   refine yvp 9 26 (yvb 10 1023) HT_.out ?_
   refine done_ (done_of HT_.out (by kernel_rfl)) ?_
   try go_wp2
   go_ret
   exact ⟨yer,yhb⟩
  replace H:=ytt H
  replace H:=yam H
  try go_wp2
  replace HB:=yam (yed HB.out)
  have p511:0≤(x5_1:Int):=ydt
  have q511:x5_1 < (l0.length:Int):=ydt
  obtain ⟨ad511,A511_1,c511_1,e511,hx511_0,hx511_1,hx511_2,hl511_1,hi511_1⟩:=at_T73 HR0.out x5_1 p511 q511
  have hw511_2:=hx511_2
  have hw511_1:=hx511_1
  have hw511_0:=hx511_0
  cases e511
  replace hx511_0:=ybx HB.out hx511_0
  replace hx511_1:=ybx HB.out hx511_1
  replace hx511_2:=ybx HB.out hx511_2
  have HR511_1:=yam hi511_1
  have HC511_1:=yam hl511_1
  clear hi511_1 hl511_1
  replace p511:=eq_true p511
  replace q511:=eq_true q511
  have p512:0≤(x5_1:Int):=ydt
  have q512:x5_1 < (l1.length:Int):=ydt
  obtain ⟨ad512,A512_1,c512_1,e512,hx512_0,hx512_1,hx512_2,hl512_1,hi512_1⟩:=at_T73 HR1.out x5_1 p512 q512
  have hw512_2:=hx512_2
  have hw512_1:=hx512_1
  have hw512_0:=hx512_0
  cases e512
  replace hx512_0:=ybx HB.out hx512_0
  replace hx512_1:=ybx HB.out hx512_1
  replace hx512_2:=ybx HB.out hx512_2
  have HR512_1:=yam hi512_1
  have HC512_1:=yam hl512_1
  clear hi512_1 hl512_1
  replace p512:=eq_true p512
  replace q512:=eq_true q512
  refine start_ (n:=10) (S:=fun w'=>w'.cell? (ad511.add ((x5_1).toNat * 3))=some (.int .i64 ((rd_T73 l0 x5_1).f0))∧w'.cell? ⟨(ad511.add ((x5_1).toNat * 3)).block,(ad511.add ((x5_1).toNat * 3)).off + 1,none⟩=some (.slice A511_1 ((rd_T73 l0 x5_1).f1).length c511_1)∧w'.cell? ⟨(ad511.add ((x5_1).toNat * 3)).block,(ad511.add ((x5_1).toNat * 3)).off + 2,none⟩=some (.int .i64 ((rd_T73 l0 x5_1).f2))∧w'.cell? (ad512.add ((x5_1).toNat * 3))=some (.int .i64 ((rd_T73 l1 x5_1).f0))∧w'.cell? ⟨(ad512.add ((x5_1).toNat * 3)).block,(ad512.add ((x5_1).toNat * 3)).off + 1,none⟩=some (.slice A512_1 ((rd_T73 l1 x5_1).f1).length c512_1)∧w'.cell? ⟨(ad512.add ((x5_1).toNat * 3)).block,(ad512.add ((x5_1).toNat * 3)).off + 2,none⟩=some (.int .i64 ((rd_T73 l1 x5_1).f2))) (ds:=[]) (yvb 10 0) (by kernel_rfl) rfl rfl ⟨((HB.out.cell (World.block_lt_of_cell? w _ hw511_0)).trans hw511_0),((HB.out.cell (World.block_lt_of_cell? w _ hw511_1)).trans hw511_1),((HB.out.cell (World.block_lt_of_cell? w _ hw511_2)).trans hw511_2),((HB.out.cell (World.block_lt_of_cell? w _ hw512_0)).trans hw512_0),((HB.out.cell (World.block_lt_of_cell? w _ hw512_1)).trans hw512_1),((HB.out.cell (World.block_lt_of_cell? w _ hw512_2)).trans hw512_2)⟩ (fun hHeld=>?_);refine with_tabW laws_eqRuleS.tab6 laws_eqRuleS.bits6 (fun HT_ HW_=>?_)
  generalize wr.drew=w9 at HB HR511_1 HR512_1 hx511_0 hx511_1 hx511_2 hx512_0 hx512_1 hx512_2 hHeld ⊢
  refine yvp 0 17 (yvb 10 1) HT_.out ?_
  refine yvp 1 18 (yvb 10 3) HT_.out ?_
  refine yvp 2 19 (yvb 10 7) HT_.out ?_
  refine yvp 4 21 (yvb 10 23) HT_.out ?_
  refine yvp 5 22 (yvb 10 55) HT_.out ?_
  refine yvp 6 23 (yvb 10 119) HT_.out ?_
  refine yvt 3 20 (yvb 10 127) HT_.out HW_.out hHeld ?_
  refine yvt 7 24 (yvb 10 255) HT_.out HW_.out hHeld ?_
  refine one_ (i:=8) (N:=some 25) (yvb 10 511) rfl rfl (one_of HT_.out (by kernel_rfl)) (by decide) (fun K hK=>?_)
  refine goes_ Try.func59 (by kernel_rfl) rfl #[.agg #[.int .i64 ((rd_T73 l0 x5_1).f0),.slice A511_1 ((rd_T73 l0 x5_1).f1).length c511_1,.int .i64 ((rd_T73 l0 x5_1).f2)],.agg #[.int .i64 ((rd_T73 l1 x5_1).f0),.slice A512_1 ((rd_T73 l1 x5_1).f1).length c512_1,.int .i64 ((rd_T73 l1 x5_1).f2)]] (by rfl) rfl rfl ymd ?_
  with_reducible refine (laws_eqRule.calls k1 ((rd_T73 l0 x5_1).f0) _ _ ((rd_T73 l0 x5_1).f1) ((rd_T73 l0 x5_1).f2) ((rd_T73 l1 x5_1).f0) _ _ ((rd_T73 l1 x5_1).f1) ((rd_T73 l1 x5_1).f2) true _ ?_ ?_ ?_ ?_ A7.out).mono ?_
  exact Kd.Cz ((Kd.C_below HR511_1.out HB.out))
  exact HC511_1.out
  exact Kd.Cz ((Kd.C_below HR512_1.out HB.out))
  exact HC512_1.out
  rintro e w10 ⟨rfl,hb⟩
  refine ⟨_,rfl,?_⟩
  replace HB:=yam (below_step (yez HB.out) hb)
  (try clear hb)
  (try clear hb2)
  (try clear hk)
  (try clear hi)
  refine hK.out _ _ ⟨((HB.out.cell (World.block_lt_of_cell? w _ hw511_0)).trans hw511_0),((HB.out.cell (World.block_lt_of_cell? w _ hw511_1)).trans hw511_1),((HB.out.cell (World.block_lt_of_cell? w _ hw511_2)).trans hw511_2),((HB.out.cell (World.block_lt_of_cell? w _ hw512_0)).trans hw512_0),((HB.out.cell (World.block_lt_of_cell? w _ hw512_1)).trans hw512_1),((HB.out.cell (World.block_lt_of_cell? w _ hw512_2)).trans hw512_2)⟩ (fun hHeld=>?_)
  clear hK K
  refine norm_ (a':=?_) ?_ ?_
  rotate_left
  ·show Act.put _ (some 25) _=_
   simp only [Act.put,yps,i64_w,i32_w]
   rfl
  refine yvp 9 26 (yvb 10 1023) HT_.out ?_
  refine done_ (done_of HT_.out (by kernel_rfl)) ?_
  try go_wp2
  go_roundg k1
  case measure=>have:=HK1.out;omega
  case rel=>exact ⟨(wrap64 (x5_1 + 1)),yeq,H,⟨by have:=HK1.out;omega⟩,⟨yhb⟩⟩
def laws_eqPuzzle.f (k:Nat)(a0_0:Int)(l0_1:List Int)(l0_2:List (S73))(a1_0:Int)(l1_1:List Int)(l1_2:List (S73)):Option (Bool):=if a0_0=a1_0 then ((laws_eqIntS.f k l0_1 l1_1).bind fun t516=>(if t516=true then ((laws_eqRuleS.f k l0_2 l1_2).bind fun t517=>(if t517=true then (some true) else (some false))) else (some false))) else (some false)
theorem laws_eqPuzzle.calls (k:Nat)(a0_0:Int)(A0_1:Option Addr)(c0_1:Nat)(l0_1:List Int)(A0_2:Option Addr)(c0_2:Nat)(l0_2:List (S73))(a1_0:Int)(A1_1:Option Addr)(c1_1:Nat)(l1_1:List Int)(A1_2:Option Addr)(c1_2:Nat)(l1_2:List (S73))(r:Bool)(w:World)(hr0_1:Kd.C (Kd.int .i64) w A0_1 l0_1.length l0_1)(hc0_1:l0_1.length≤c0_1)(hr0_2:Kd.C k73 w A0_2 l0_2.length l0_2)(hc0_2:l0_2.length≤c0_2)(hr1_1:Kd.C (Kd.int .i64) w A1_1 l1_1.length l1_1)(hc1_1:l1_1.length≤c1_1)(hr1_2:Kd.C k73 w A1_2 l1_2.length l1_2)(hc1_2:l1_2.length≤c1_2)(h:laws_eqPuzzle.f k a0_0 l0_1 l0_2 a1_0 l1_1 l1_2=some r) :
  Calls Try.prog 25 #[.agg #[.int .i64 a0_0,.slice A0_1 l0_1.length c0_1,.slice A0_2 l0_2.length c0_2],.agg #[.int .i64 a1_0,.slice A1_1 l1_1.length c1_1,.slice A1_2 l1_2.length c1_2]] w fun e w'=>e= .returned (.bool r)∧Below w.heap.size w w':=by
 have hu37:=Try.underlying37
 have HR0_1:=yam hr0_1
 have HC0_1:=yam hc0_1
 clear hr0_1 hc0_1
 have HR0_2:=yam hr0_2
 have HC0_2:=yam hc0_2
 clear hr0_2 hc0_2
 have HR1_1:=yam hr1_1
 have HC1_1:=yam hc1_1
 clear hr1_1 hc1_1
 have HR1_2:=yam hr1_2
 have HC1_2:=yam hc1_2
 clear hr1_2 hc1_2
 have HB:=yam (Below.refl w.heap.size w)
 unfold laws_eqPuzzle.f at h
 have H:=h
 clear h
 replace H:=yit H;obtain ⟨c3,H⟩ | ⟨c3,H⟩:=H
 rotate_left
 ·have c3b0:(a0_0 == a1_0)=false:=beq_eq_false_iff_ne.mpr c3
  have c3b1:(a0_0 != a1_0)=true:=bne_iff_ne.mpr c3
  obtain rfl:=ysi H
  go_enter Try.func25,Try.ntmps25
  go_wp2_with (first|(refine ybe 2 #[.int .i64 a0_0,.slice A0_1 l0_1.length c0_1,.slice A0_2 l0_2.length c0_2] 37 ?_;intro gb514 hg w25 hbox hb;have BK514:=yam (hbox);have GW514:=yam ((by rw [hg];exact (below_size (yez HB.out)):w.heap.size≤gb514));replace HB:=yam (below_step (yez HB.out) hb);have GE514:=GW514;clear hb hbox hg)|(refine ybe 3 #[.int .i64 a1_0,.slice A1_1 l1_1.length c1_1,.slice A1_2 l1_2.length c1_2] 37 ?_;intro gb515 hg w26 hbox hb;have BK515:=yam (hbox);have GW515:=yam ((by rw [hg];exact (below_size yhb):w.heap.size≤gb515));replace HB:=yam (below_step yhb hb);have GE515:=GW515;have NB514_515:=yam ((by rw [hg];exact Nat.ne_of_lt (blk_lt (g:=gb514) (o:= .cells #[.int .i64 a0_0,.slice A0_1 l0_1.length c0_1,.slice A0_2 l0_2.length c0_2] 37 (0,0)) (ybz BK514.out)):gb514≠gb515));have NB515_514:=yam ((by rw [hg];exact Nat.ne_of_gt (blk_lt (g:=gb514) (o:= .cells #[.int .i64 a0_0,.slice A0_1 l0_1.length c0_1,.slice A0_2 l0_2.length c0_2] 37 (0,0)) (ybz BK514.out)):gb515≠gb514));replace BK514:=yam (ybb BK514.out hb);clear hb hbox hg;have hnb27:=NB514_515.out;have hnc27:=NB515_514.out;obtain ⟨hcz28_0,hcz28_1,hcz28_2,hfz28_0,hfz28_1,hfz28_2⟩:=ybc BK514.out;obtain ⟨hcz29_0,hcz29_1,hcz29_2,hfz29_0,hfz29_1,hfz29_2⟩:=ybc BK515.out))
  go_ret
  exact ⟨yer,yhb⟩
 have c3b0:(a0_0 == a1_0)=true:=beq_iff_eq.mpr c3
 have c3b1:(a0_0 != a1_0)=false:=bne_eq_false_iff_eq.mpr c3
 clear c3
 replace H:=ybi H;obtain ⟨t516,A4,H⟩:=H
 try dsimp only at H
 cases t516
 ·replace H:=yff H
  obtain rfl:=ysi H
  go_enter Try.func25,Try.ntmps25
  go_wp2_with (first|(refine ybe 2 #[.int .i64 a0_0,.slice A0_1 l0_1.length c0_1,.slice A0_2 l0_2.length c0_2] 37 ?_;intro gb514 hg w20 hbox hb;have BK514:=yam (hbox);have GW514:=yam ((by rw [hg];exact (below_size (yez HB.out)):w.heap.size≤gb514));replace HB:=yam (below_step (yez HB.out) hb);have GE514:=GW514;clear hb hbox hg)|(refine ybe 3 #[.int .i64 a1_0,.slice A1_1 l1_1.length c1_1,.slice A1_2 l1_2.length c1_2] 37 ?_;intro gb515 hg w21 hbox hb;have BK515:=yam (hbox);have GW515:=yam ((by rw [hg];exact (below_size yhb):w.heap.size≤gb515));replace HB:=yam (below_step yhb hb);have GE515:=GW515;have NB514_515:=yam ((by rw [hg];exact Nat.ne_of_lt (blk_lt (g:=gb514) (o:= .cells #[.int .i64 a0_0,.slice A0_1 l0_1.length c0_1,.slice A0_2 l0_2.length c0_2] 37 (0,0)) (ybz BK514.out)):gb514≠gb515));have NB515_514:=yam ((by rw [hg];exact Nat.ne_of_gt (blk_lt (g:=gb514) (o:= .cells #[.int .i64 a0_0,.slice A0_1 l0_1.length c0_1,.slice A0_2 l0_2.length c0_2] 37 (0,0)) (ybz BK514.out)):gb515≠gb514));replace BK514:=yam (ybb BK514.out hb);clear hb hbox hg;have hnb22:=NB514_515.out;have hnc22:=NB515_514.out;obtain ⟨hcz23_0,hcz23_1,hcz23_2,hfz23_0,hfz23_1,hfz23_2⟩:=ybc BK514.out;obtain ⟨hcz24_0,hcz24_1,hcz24_2,hfz24_0,hfz24_1,hfz24_2⟩:=ybc BK515.out)|(refine goesL_ (some 14) rfl rfl Try.func13 (by kernel_rfl) rfl #[.slice A0_1 l0_1.length c0_1,.slice A1_1 l1_1.length c1_1] rfl ymd ?_;(with_reducible refine (laws_eqIntS.calls k _ _ l0_1 _ _ l1_1 false _ ?_ ?_ ?_ ?_ A4.out).mono ?_);exact Kd.Cz ((Kd.C_below HR0_1.out HB.out));exact HC0_1.out;exact Kd.Cz ((Kd.C_below HR1_1.out HB.out));exact HC1_1.out;rintro e w' ⟨rfl,⟨nd,rfl⟩⟩;refine ⟨_,rfl,?_⟩))
  go_ret
  exact ⟨yer,yhb⟩
 replace H:=ytt H
 replace H:=ybi H;obtain ⟨t517,A6,H⟩:=H
 try dsimp only at H
 cases t517
 rotate_left
 ·replace H:=ytt H
  obtain rfl:=ysi H
  go_enter Try.func25,Try.ntmps25
  go_wp2_with (first|(refine ybe 2 #[.int .i64 a0_0,.slice A0_1 l0_1.length c0_1,.slice A0_2 l0_2.length c0_2] 37 ?_;intro gb514 hg w8 hbox hb;have BK514:=yam (hbox);have GW514:=yam ((by rw [hg];exact (below_size (yez HB.out)):w.heap.size≤gb514));replace HB:=yam (below_step (yez HB.out) hb);have GE514:=GW514;clear hb hbox hg)|(refine ybe 3 #[.int .i64 a1_0,.slice A1_1 l1_1.length c1_1,.slice A1_2 l1_2.length c1_2] 37 ?_;intro gb515 hg w9 hbox hb;have BK515:=yam (hbox);have GW515:=yam ((by rw [hg];exact (below_size yhb):w.heap.size≤gb515));replace HB:=yam (below_step yhb hb);have GE515:=GW515;have NB514_515:=yam ((by rw [hg];exact Nat.ne_of_lt (blk_lt (g:=gb514) (o:= .cells #[.int .i64 a0_0,.slice A0_1 l0_1.length c0_1,.slice A0_2 l0_2.length c0_2] 37 (0,0)) (ybz BK514.out)):gb514≠gb515));have NB515_514:=yam ((by rw [hg];exact Nat.ne_of_gt (blk_lt (g:=gb514) (o:= .cells #[.int .i64 a0_0,.slice A0_1 l0_1.length c0_1,.slice A0_2 l0_2.length c0_2] 37 (0,0)) (ybz BK514.out)):gb515≠gb514));replace BK514:=yam (ybb BK514.out hb);clear hb hbox hg;have hnb10:=NB514_515.out;have hnc10:=NB515_514.out;obtain ⟨hcz11_0,hcz11_1,hcz11_2,hfz11_0,hfz11_1,hfz11_2⟩:=ybc BK514.out;obtain ⟨hcz12_0,hcz12_1,hcz12_2,hfz12_0,hfz12_1,hfz12_2⟩:=ybc BK515.out)|(refine goesL_ (some 14) rfl rfl Try.func13 (by kernel_rfl) rfl #[.slice A0_1 l0_1.length c0_1,.slice A1_1 l1_1.length c1_1] rfl ymd ?_;(with_reducible refine (laws_eqIntS.calls k _ _ l0_1 _ _ l1_1 true _ ?_ ?_ ?_ ?_ A4.out).mono ?_);exact Kd.Cz ((Kd.C_below HR0_1.out HB.out));exact HC0_1.out;exact Kd.Cz ((Kd.C_below HR1_1.out HB.out));exact HC1_1.out;rintro e w' ⟨rfl,⟨nd,rfl⟩⟩;refine ⟨_,rfl,?_⟩)|(refine goesL_ (some 20) rfl rfl Try.func26 (by kernel_rfl) rfl #[.slice A0_2 l0_2.length c0_2,.slice A1_2 l1_2.length c1_2] rfl ymd ?_;(with_reducible refine (laws_eqRuleS.calls k _ _ l0_2 _ _ l1_2 true _ ?side1 ?side2 ?side3 ?side4 A6.out).mono ?_);(case side1=>repeat (first|exact (Kd.C_below HR0_2.out yhb)|(with_reducible refine Kd.C_alloc ?_ _)|(with_reducible refine Kd.C_drewN ?_ _)|(with_reducible refine Kd.C_drew ?_)));(case side2=>exact HC0_2.out);(case side3=>repeat (first|exact (Kd.C_below HR1_2.out yhb)|(with_reducible refine Kd.C_alloc ?_ _)|(with_reducible refine Kd.C_drewN ?_ _)|(with_reducible refine Kd.C_drew ?_)));(case side4=>exact HC1_2.out);rintro e w13 ⟨rfl,hb⟩;refine ⟨_,rfl,?_⟩;replace BK514:=yam (ybb BK514.out hb);replace BK515:=yam (ybb BK515.out hb);replace HB:=yam (below_step yhb hb);(try clear hb)))
  go_ret
  exact ⟨yer,yhb⟩
 replace H:=yff H
 obtain rfl:=ysi H
 go_enter Try.func25,Try.ntmps25
 go_wp2_with (first|(refine ybe 2 #[.int .i64 a0_0,.slice A0_1 l0_1.length c0_1,.slice A0_2 l0_2.length c0_2] 37 ?_;intro gb514 hg w14 hbox hb;have BK514:=yam (hbox);have GW514:=yam ((by rw [hg];exact (below_size (yez HB.out)):w.heap.size≤gb514));replace HB:=yam (below_step (yez HB.out) hb);have GE514:=GW514;clear hb hbox hg)|(refine ybe 3 #[.int .i64 a1_0,.slice A1_1 l1_1.length c1_1,.slice A1_2 l1_2.length c1_2] 37 ?_;intro gb515 hg w15 hbox hb;have BK515:=yam (hbox);have GW515:=yam ((by rw [hg];exact (below_size yhb):w.heap.size≤gb515));replace HB:=yam (below_step yhb hb);have GE515:=GW515;have NB514_515:=yam ((by rw [hg];exact Nat.ne_of_lt (blk_lt (g:=gb514) (o:= .cells #[.int .i64 a0_0,.slice A0_1 l0_1.length c0_1,.slice A0_2 l0_2.length c0_2] 37 (0,0)) (ybz BK514.out)):gb514≠gb515));have NB515_514:=yam ((by rw [hg];exact Nat.ne_of_gt (blk_lt (g:=gb514) (o:= .cells #[.int .i64 a0_0,.slice A0_1 l0_1.length c0_1,.slice A0_2 l0_2.length c0_2] 37 (0,0)) (ybz BK514.out)):gb515≠gb514));replace BK514:=yam (ybb BK514.out hb);clear hb hbox hg;have hnb16:=NB514_515.out;have hnc16:=NB515_514.out;obtain ⟨hcz17_0,hcz17_1,hcz17_2,hfz17_0,hfz17_1,hfz17_2⟩:=ybc BK514.out;obtain ⟨hcz18_0,hcz18_1,hcz18_2,hfz18_0,hfz18_1,hfz18_2⟩:=ybc BK515.out)|(refine goesL_ (some 14) rfl rfl Try.func13 (by kernel_rfl) rfl #[.slice A0_1 l0_1.length c0_1,.slice A1_1 l1_1.length c1_1] rfl ymd ?_;(with_reducible refine (laws_eqIntS.calls k _ _ l0_1 _ _ l1_1 true _ ?_ ?_ ?_ ?_ A4.out).mono ?_);exact Kd.Cz ((Kd.C_below HR0_1.out HB.out));exact HC0_1.out;exact Kd.Cz ((Kd.C_below HR1_1.out HB.out));exact HC1_1.out;rintro e w' ⟨rfl,⟨nd,rfl⟩⟩;refine ⟨_,rfl,?_⟩)|(refine goesL_ (some 20) rfl rfl Try.func26 (by kernel_rfl) rfl #[.slice A0_2 l0_2.length c0_2,.slice A1_2 l1_2.length c1_2] rfl ymd ?_;(with_reducible refine (laws_eqRuleS.calls k _ _ l0_2 _ _ l1_2 false _ ?side1 ?side2 ?side3 ?side4 A6.out).mono ?_);(case side1=>repeat (first|exact (Kd.C_below HR0_2.out yhb)|(with_reducible refine Kd.C_alloc ?_ _)|(with_reducible refine Kd.C_drewN ?_ _)|(with_reducible refine Kd.C_drew ?_)));(case side2=>exact HC0_2.out);(case side3=>repeat (first|exact (Kd.C_below HR1_2.out yhb)|(with_reducible refine Kd.C_alloc ?_ _)|(with_reducible refine Kd.C_drewN ?_ _)|(with_reducible refine Kd.C_drew ?_)));(case side4=>exact HC1_2.out);rintro e w19 ⟨rfl,hb⟩;refine ⟨_,rfl,?_⟩;replace BK514:=yam (ybb BK514.out hb);replace BK515:=yam (ybb BK515.out hb);replace HB:=yam (below_step yhb hb);(try clear hb)))
 go_ret
 exact ⟨yer,yhb⟩
theorem rule_M {W:World}{base:Nat}{ok:Nat→Prop}{x:S73}{c:List Value}(h:k73.M W base ok x c):∃ v,c=[.int .i64 x.f0,v,.int .i64 x.f2]∧Kd.R (Kd.int .i64) 3 W base ok v x.f1:=by
 obtain ⟨c0,c1,rfl,h0,c2,c3,rfl,⟨v,rfl,hR⟩,h3⟩:=h
 obtain rfl:c0=[.int .i64 x.f0]:=h0
 obtain rfl:c3=[.int .i64 x.f2]:=h3
 exact ⟨v,rfl,hR⟩
theorem rule_M_mk {W:World}{base:Nat}{ok:Nat→Prop}(x:S73){v:Value}(h:Kd.R (Kd.int .i64) 3 W base ok v x.f1):k73.M W base ok x [.int .i64 x.f0,v,.int .i64 x.f2] :=
 ⟨[.int .i64 x.f0],[v,.int .i64 x.f2],rfl,rfl,[v],[.int .i64 x.f2],rfl,⟨v,rfl,h⟩,rfl⟩
theorem rule_elem {W:World}{base g n cap:Nat}{ok:Nat→Prop}{xs:List S73}(h:Kd.S k73 73 W base ok (.slice (some ⟨g,0,none⟩) n cap) xs)(i:Int)(h0:0≤i)(h1:i < n) :
  ∃ (oki:Nat→Prop) (A:Option Addr) (c:Nat),W.cell? ⟨g,i.toNat * 3,none⟩=some (.int .i64 (rd_T73 xs i).f0)∧W.cell? ⟨g,i.toNat * 3 + 1,none⟩=some (.slice A (rd_T73 xs i).f1.length c)∧W.cell? ⟨g,i.toNat * 3 + 2,none⟩=some (.int .i64 (rd_T73 xs i).f2)∧(∀ j,W.frozen? ⟨g,i.toNat * 3 + j,none⟩=false)∧Kd.R (Kd.int .i64) 3 W base oki (.slice A (rd_T73 xs i).f1.length c) (rd_T73 xs i).f1∧(∀ k,oki k→ok k∧k≠g) ∧
   (∀ a:Int,Kd.S k73 73 (W.setCell ⟨g,i.toNat * 3,none⟩ (.int .i64 a)) base ok (.slice (some ⟨g,0,none⟩) n cap) (xs.set i.toNat ⟨a,(rd_T73 xs i).f1,(rd_T73 xs i).f2⟩)∧W.grownBy (W.setCell ⟨g,i.toNat * 3,none⟩ (.int .i64 a)) (some g)) ∧
   (∀ a:Int,Kd.S k73 73 (W.setCell ⟨g,i.toNat * 3 + 2,none⟩ (.int .i64 a)) base ok (.slice (some ⟨g,0,none⟩) n cap) (xs.set i.toNat ⟨(rd_T73 xs i).f0,(rd_T73 xs i).f1,a⟩)∧W.grownBy (W.setCell ⟨g,i.toNat * 3 + 2,none⟩ (.int .i64 a)) (some g)) ∧
   (∀ (w1:World) (ok1:Nat→Prop) (l:List Int),Kept W w1 oki→Kd.R (Kd.int .i64) 3 w1 base ok1 (.slice A (rd_T73 xs i).f1.length c) l→Kd.S k73 73 w1 base ok (.slice (some ⟨g,0,none⟩) n cap) (xs.set i.toNat ⟨(rd_T73 xs i).f0,l,(rd_T73 xs i).f2⟩)):=by
 have hz:rd_T73 xs i=xs.getD i.toNat z73:=rfl
 obtain ⟨oki,c,hcl,hM,hcc,hfr,hoki,hH⟩:=Kd.S_elem h z73 i h0 h1
 rw [← hz] at hM
 obtain ⟨v,rfl,hR⟩:=rule_M hM
 obtain ⟨A,cv,rfl⟩:=Kd.R_slice hR
 have hH0:Kd.H k73 73 W base (fun k=>ok k∧¬ False) (.slice (some ⟨g,0,none⟩) n cap) xs i oki [.int .i64 (rd_T73 xs i).f0,.slice A (rd_T73 xs i).f1.length cv,.int .i64 (rd_T73 xs i).f2]:=Kd.H_mono hH (fun k hk=>⟨hk,id⟩)
 refine ⟨oki,A,cv,hcc 0 _ rfl,hcc 1 _ rfl,hcc 2 _ rfl,hfr,hR,hoki,fun a=>?_,fun a=>?_,fun w1 ok1 l hk hR1=>?_⟩
 ·exact Kd.S_seg (okg:=fun _=>False) (okp:=oki) (j:=0) (seg:=[.int .i64 a]) hH0 h0 h1 (by show _≤3;simp) (rule_M_mk ⟨a,(rd_T73 xs i).f1,(rd_T73 xs i).f2⟩ hR) (fun k hk=> .inl hk) (fun k hk=>hk.elim)
 ·exact Kd.S_seg (okg:=fun _=>False) (okp:=oki) (j:=2) (seg:=[.int .i64 a]) hH0 h0 h1 (by show _≤3;simp) (rule_M_mk ⟨(rd_T73 xs i).f0,(rd_T73 xs i).f1,a⟩ hR) (fun k hk=> .inl hk) (fun k hk=>hk.elim)
 ·exact Kd.H_back (Kd.H_kept hH hk (fun k _ hn=>hn)) (rule_M_mk ⟨(rd_T73 xs i).f0,l,(rd_T73 xs i).f2⟩ (Kd.R_mono (Kd.R_tight rfl hR1) (fun k hk=>hR.1 k hk.symm))) (fun _ hk=>hk)
def laws_markRuleS.l0:Nat→List S73→Int→Int→Option (Int × List S73)
 | 0,_,_,_=>none
 | k + 1,x0,x1,x5=>if x5 < (x0.length:Int) then (if 0≤x5 then (laws_markIntS.f k (rd_T73 x0 x5).f1 (wrap64 (x1 + 1))).bind fun t=>laws_markRuleS.l0 k (x0.set x5.toNat ⟨x1,t.2,t.1⟩) (wrap64 (t.1 + 1)) (wrap64 (x5 + 1)) else none) else some (x1,x0)
def laws_markRuleS.f (k:Nat)(l0:List S73)(a1:Int):Option (Int × List S73):=laws_markRuleS.l0 k l0 a1 0
theorem rd_T_set {xs:List S73}{i:Int}(h0:0≤i)(h1:i < (xs.length:Int))(y:S73):rd_T73 (xs.set i.toNat y) i=y:=by
 unfold rd_T73
 rw [List.getD_eq_getElem?_getD,List.getElem?_set_self (by omega)]
 rfl
theorem laws_markRuleS.calls (k:Nat)(P:Nat→Prop)(A:Option Addr)(c:Nat)(l0:List S73)(a1:Int)(r1:Int)(r2:List S73)(w0 w:World)(hB:Below w0.heap.size w0 w)(ho0:Kd.S k73 73 w w0.heap.size P (.slice A l0.length c) l0)(h:laws_markRuleS.f k l0 a1=some (r1,r2)) :
  Calls Try.prog 27 #[.slice A l0.length c,.int .i64 a1] w fun e w'=>e= .returned (.int .i64 r1)∧Kd.S k73 73 w' w0.heap.size P (.slice A l0.length c) r2∧Below w0.heap.size w0 w'∧Kept w w' P:=by
 have HO:=yam ho0
 have HK:=yam (Kept.refl w P)
 have HB:=yam hB
 have HA:=yam (show laws_markRuleS.l0 k l0 a1 0=some (r1,r2) from h)
 clear hB ho0 h
 go_enter Try.func27,Try.ntmps27
 go_wp2
 go_loopg [1,5] k (fun kq v1 v5 w'=>∃ (xs:List S73) (x1:Int) (x5:Int),v1= .int .i64 x1∧v5= .int .i64 x5∧Aside0 (laws_markRuleS.l0 kq xs x1 x5=some (r1,r2))∧Aside0 (xs.length=l0.length)∧Aside0 (Kd.S k73 73 w' w0.heap.size P (.slice A l0.length c) xs)∧Aside0 (Kept w w' P)∧Aside0 (Below w0.heap.size w0 w'))
 case atStart=>exact ⟨l0,a1,0,rfl,rfl,HA,⟨rfl⟩,HO,HK,HB⟩
 case round =>
  clear HA HO HK HB
  obtain ⟨xs,x1,x5,rfl,rfl,HA,HL,HO,HK,HB⟩:=hrel
  rcases gk with _|k1
  ·exact absurd HA.out (by simp [laws_markRuleS.l0])
  obtain ⟨H⟩:=HA
  simp only [laws_markRuleS.l0] at H
  replace H:=yit H;obtain ⟨c3,H⟩ | ⟨c3,H⟩:=H
  rotate_left
  ·have c3b0:decide (x5 < (l0.length:Int))=false:=decide_eq_false (by rw [← HL.out];exact c3)
   clear c3
   simp only [Option.some.injEq,Prod.mk.injEq] at H
   obtain ⟨rfl,rfl⟩:=H
   go_wp2
   go_ret
   exact ⟨rfl,HO.out,HB.out,HK.out⟩
  replace H:=yig H;obtain ⟨c4,H⟩:=H
  obtain ⟨⟨t1,t2⟩,hM,H2⟩:=Option.bind_eq_some_iff.1 H
  have HM:=yam hM
  have HA:=yam H2
  clear hM H H2
  have hlt:x5 < ((l0.length:Nat):Int):=by rw [← HL.out];exact c3
  have HC3:=yam c3
  clear c3
  have c3b0:decide (x5 < (l0.length:Int))=true:=decide_eq_true hlt
  have c4b0:decide (0≤x5)=true:=decide_eq_true c4
  obtain ⟨g,cap,eA,gb,gl,gc_⟩:=Kd.R_form (Kd.S_R HO.out) (by have:=HL.out;omega)
  injection eA with eA1 eA2 eA3
  subst eA1
  clear eA2 eA3
  have GB:=yam gb
  clear gb gl gc_
  obtain ⟨oki0,Ai0,ci0,hx0,hx1_,hx2_,hfr,hr_,hk_,hset0,hs1_,hs2_⟩:=rule_elem HO.out x5 c4 hlt
  clear hx1_ hx2_ hr_ hk_ hs1_ hs2_
  have hf0:=hfr 0
  clear hfr
  rw [Nat.add_zero] at hf0
  have HPG:=yam ((Kd.S_R HO.out).1 g rfl)
  have HSET:=yam (hset0 x1)
  clear hset0
  have p4:=eq_true c4
  have p3:=eq_true hlt
  have C4:=yam c4
  have HLT:=yam hlt
  clear c4 hlt
  go_wp2_with (first
   | ((with_reducible refine gate_store (t:=3) (p:=16) rfl ?_);refine store_event (t:=3) (p:=16) (v:=?vo1) (w1:=wr.setCell ⟨g,x5.toNat * 3,none⟩ (.int .i64 x1)) ?hg ?ho ?hn ?hr ?_;(case ho=>rfl);(case hg=>rfl);(case hn=>rfl);(case hr=>first|(go_simp;done)|(go_simp;rfl));intro w8 hw;have hs:=HSET.out;rw [← hw] at hs;have hb8:Below w0.heap.size w0 w8:=(by rw [hw];exact below_set HB.out GB.out);have hk8:Kept w w8 P:=Kept.of_grown hs.2 HK.out (fun k_ e_=> .inl (by injection e_ with e_;rw [← e_];exact HPG.out));have hl8:x5 < (((xs.set x5.toNat ⟨x1,(rd_T73 xs x5).f1,(rd_T73 xs x5).f2⟩:List S73).length:Nat):Int):=(by rw [List.length_set];exact HC3.out);obtain ⟨oki,Ai,ci,hx0_,hx1,hx2_,hfr_,hRi,hoki,hs1_,hs2_,hback⟩:=rule_elem hs.1 x5 C4.out HLT.out;clear hx0_ hx2_ hfr_ hs1_ hs2_;rw [rd_T_set C4.out HC3.out] at hx1 hRi hback;simp only [List.set_set] at hback;have HR:=yam hRi;have HOK:=yam hoki;have HBK:=yam hback;have HB8:=yam hb8;have HK8:=yam hk8;clear hs hb8 hk8 hl8 hRi hoki hback hw hx0 hf0 HSET HB HK HO)
   | (refine goesL_ (some 25) rfl rfl Try.func14 (by kernel_rfl) rfl #[.slice Ai (rd_T73 xs x5).f1.length ci,.int .i64 (wrap64 (x1 + 1))] rfl yma ?_;(with_reducible refine (laws_markIntS.calls k1 oki _ (rd_T73 xs x5).f1 (wrap64 (x1 + 1)) t1 t2 w0 w8 HB8.out HR.out HM.out).mono ?_);rintro e w9 ⟨rfl,hR9,hb9,hk9⟩;refine ⟨_,rfl,?_⟩;have hs9:=HBK.out w9 _ t2 hk9 hR9;have HK9:=yam (Kept.then_ HK8.out hk9 (fun k_ h_=> .inl (HOK.out k_ h_).1));obtain ⟨oki9,Ai9,ci9,hx0_,hx1_,hx2,hfr2,hr_,hk_,hs1_,hset2,hs2_⟩:=rule_elem hs9 x5 C4.out HLT.out;clear hx0_ hx1_ hr_ hk_ hs1_ hs2_;have hf2:=hfr2 2;clear hfr2;have HSET:=yam (hset2 t1);clear hset2;rw [rd_T_set C4.out HC3.out] at HSET;simp only [List.set_set] at HSET;have HB9:=yam hb9;clear hs9 hR9 hb9 hk9 HBK HR HOK HB8 HK8 hx1)
   | ((with_reducible refine gate_store (t:=3) (p:=30) rfl ?_);refine store_event (t:=3) (p:=30) (v:=?vo2) (w1:=w9.setCell ⟨g,x5.toNat * 3 + 2,none⟩ (.int .i64 t1)) ?hg ?ho ?hn ?hr ?_;(case ho=>rfl);(case hg=>rfl);(case hn=>rfl);(case hr=>first|(go_simp;done)|(go_simp;rfl));intro w10 hw;have hs:=HSET.out;rw [← hw] at hs;have HB10:Aside0 (Below w0.heap.size w0 w10):=⟨by rw [hw];exact below_set HB9.out GB.out⟩;have HK10:=yam (Kept.of_grown hs.2 HK9.out (fun k_ e_=> .inl (by injection e_ with e_;rw [← e_];exact HPG.out)));have HO10:=yam hs.1;clear hs hw hx2 hf2 HSET HB9 HK9))
  go_roundg k1
  case measure=>omega
  case rel=>exact ⟨_,wrap64 (t1 + 1),wrap64 (x5 + 1),rfl,rfl,HA,⟨by rw [List.length_set];exact HL.out⟩,HO10,HK10,HB10⟩
def laws_markPuzzle.f (k:Nat)(_a0_0:Int)(l0_1:List Int)(l0_2:List S73)(a1:Int):Option (Int × List Int × List S73):=(laws_markIntS.f k l0_1 a1).bind fun t=>(laws_markRuleS.f k l0_2 t.1).bind fun u=>some (u.1,t.2,u.2)
theorem laws_markPuzzle.calls (k:Nat)(a0_0:Int)(P Q:Nat→Prop)(A0_1:Option Addr)(c0_1:Nat)(l0_1:List Int)(A0_2:Option Addr)(c0_2:Nat)(l0_2:List S73)(a1:Int)(r1:Int)(r2:List Int)(r3:List S73)(w0 w:World)(hB:Below w0.heap.size w0 w)(hPQ:∀ k_,P k_→¬ Q k_)(ho1:Kd.R (Kd.int .i64) 3 w w0.heap.size P (.slice A0_1 l0_1.length c0_1) l0_1)(ho2:Kd.S k73 73 w w0.heap.size Q (.slice A0_2 l0_2.length c0_2) l0_2)(h:laws_markPuzzle.f k a0_0 l0_1 l0_2 a1=some (r1,r2,r3)) :
  Calls Try.prog 28 #[.agg #[.int .i64 a0_0,.slice A0_1 l0_1.length c0_1,.slice A0_2 l0_2.length c0_2],.int .i64 a1] w fun e w'=>e= .returned (.int .i64 r1)∧Kd.R (Kd.int .i64) 3 w' w0.heap.size P (.slice A0_1 l0_1.length c0_1) r2∧Kd.S k73 73 w' w0.heap.size Q (.slice A0_2 l0_2.length c0_2) r3∧Below w0.heap.size w0 w'∧Kept w w' (fun k_=>P k_∨Q k_):=by
 unfold laws_markPuzzle.f at h
 obtain ⟨⟨t1,t2⟩,hM,h2⟩:=Option.bind_eq_some_iff.1 h
 obtain ⟨⟨u1,u2⟩,hN,h3⟩:=Option.bind_eq_some_iff.1 h2
 simp only [Option.some.injEq,Prod.mk.injEq] at h3
 obtain ⟨rfl,rfl,rfl⟩:=h3
 have HM:=yam hM
 have HN:=yam hN
 have HPQ:=yam hPQ
 have HP:=yam ho1.1
 have HO1:=yam ho1
 have HO2:=yam ho2
 have HB:=yam hB
 clear h h2 hM hN hPQ ho1 ho2 hB
 go_enter Try.func28,Try.ntmps28
 go_wp2_with (first
  | (refine ybe 2 #[.int .i64 a0_0,.slice A0_1 l0_1.length c0_1,.slice A0_2 l0_2.length c0_2] 37 ?_;intro gb hg w3 hbox hb;have HBX:=yam hbox;have HGB:=yam hg;have hcz1:w3.cell? ⟨gb,1,none⟩=some (.slice A0_1 l0_1.length c0_1):=(blk_cell hbox 1).trans rfl;have hcz2:w3.cell? ⟨gb,2,none⟩=some (.slice A0_2 l0_2.length c0_2):=(blk_cell hbox 2).trans rfl;have HO1_:=yam (Kd.R_below HO1.out hb);have HO2_:=yam (Kd.S_below HO2.out hb);have HB_:=yam (below_step HB.out hb);have HK:=yam (Kept.of_below hb (fun k_=>P k_∨Q k_));have HL1:=yam (Kd.R_lt HO1.out);have HL2:=yam (Kd.S_bound HO2.out);clear HO1 HO2 HB hg hbox hb)
  | (refine goesL_ (some 8) rfl rfl Try.func14 (by kernel_rfl) rfl #[.slice A0_1 l0_1.length c0_1,.int .i64 a1] rfl yma ?_;(with_reducible refine (laws_markIntS.calls k (fun k_=>some k_=(Value.slice A0_1 l0_1.length c0_1).ownBlock) _ l0_1 a1 t1 t2 w0 w3 HB_.out (Kd.R_tight rfl HO1_.out) HM.out).mono ?_);rintro e w4 ⟨rfl,hR4,hb4,hk4⟩;refine ⟨_,rfl,?_⟩;have hne:gb≠gb∨¬ some gb=(Value.slice A0_1 l0_1.length c0_1).ownBlock:= .inr (fun e_=>by have:=HL1.out gb e_.symm;have:=HGB.out;omega);have hbx4:=blk_kept HBX.out hk4 (hne.resolve_left (fun h_=>h_ rfl));have hcz2:w4.cell? ⟨gb,2,none⟩=some (.slice A0_2 l0_2.length c0_2):=(blk_cell hbx4 2).trans rfl;have HR4:=yam (Kd.R_tight rfl hR4);have HS4:=yam (Kd.S_kept HO2_.out hk4 (fun k_ hq_ hp_=>HPQ.out k_ (HP.out k_ hp_.symm) hq_));have HB4:=yam hb4;have HK4:=yam (Kept.then_ HK.out hk4 (fun k_ h_=> .inl (.inl (HP.out k_ h_.symm))));clear hne hbx4 hR4 hb4 hk4 HK HB_ HO1_ HO2_ HBX HGB HL1 HL2 hcz1)
  | (refine goesL_ (some 12) rfl rfl Try.func27 (by kernel_rfl) rfl #[.slice A0_2 l0_2.length c0_2,.int .i64 t1] rfl yma ?_;(with_reducible refine (laws_markRuleS.calls k Q A0_2 c0_2 l0_2 t1 u1 u2 w0 w4 HB4.out HS4.out HN.out).mono ?_);rintro e w5 ⟨rfl,hS5,hb5,hk5⟩;refine ⟨_,rfl,?_⟩;have HR5:=yam (Kd.R_kept HR4.out hk5 (fun k_ hp_ hq_=>HPQ.out k_ (HP.out k_ hp_.symm) hq_));have HS5:=yam hS5;have HB5:=yam hb5;have HK5:=yam (Kept.then_ HK4.out hk5 (fun k_ h_=> .inl (.inr h_)));clear hS5 hb5 hk5 HR4 HS4 HB4 HK4 hcz2))
 go_ret
 exact ⟨rfl,Kd.R_mono HR5.out (fun k_ h_=>HP.out k_ h_.symm),HS5.out,HB5.out,HK5.out⟩
def laws_heldIntS.l0:Nat→List Int→Int→Int→Option (Int)
 | 0,_,_,_=>none
 | k + 1,x0,x1,x5=>if x5 < (x0.length:Int) then (if 0≤x5 then (if (rd x0 x5)=x1 then (laws_heldIntS.l0 k x0 (wrap64 (x1 + 1)) (wrap64 (x5 + 1))) else (some (-1))) else (none)) else (some x1)
def laws_heldIntS.f (k:Nat)(l0:List Int)(a1:Int):Option (Int):=laws_heldIntS.l0 k l0 a1 0
theorem laws_heldIntS.calls (k:Nat)(A0:Option Addr)(c0:Nat)(l0:List Int)(a1:Int)(r:Int)(w:World)(hr0:Kd.C (Kd.int .i64) w A0 l0.length l0)(hc0:l0.length≤c0)(h:laws_heldIntS.f k l0 a1=some r) :
  Calls Try.prog 15 #[.slice A0 l0.length c0,.int .i64 a1] w fun e w'=>e= .returned (.int .i64 r)∧Drawn0 w w':=by
 have HR0:=yam hr0
 have HC0:=yam hc0
 clear hr0 hc0
 unfold laws_heldIntS.f at h
 have H:=h
 clear h
 replace H:=yam H
 go_enter Try.func15,Try.ntmps15
 go_wp2
 go_loopg [1,5] k (fun kq v1 v5 w'=>∃ (x1_1:Int) (x5_1:Int),v1= .int .i64 x1_1∧v5= .int .i64 x5_1∧Aside0 (laws_heldIntS.l0 kq l0 x1_1 x5_1=some r)∧Aside0 (kq≤k)∧Drawn0 w w')
 case atStart=>exact ⟨(a1),(0),yeq,yeq,H,⟨Nat.le_refl _⟩,by repeat (first|exact Drawn0.refl _|apply Drawn0.step)⟩
 case round =>
  clear H
  obtain ⟨x1_1,x5_1,rfl,rfl,HA,HK1,⟨m1,rfl⟩⟩:=hrel
  rcases gk with _|k1
  ·exact absurd HA.out (by simp [laws_heldIntS.l0])
  obtain ⟨H⟩:=HA
  simp only [laws_heldIntS.l0] at H
  replace H:=yis H;obtain ⟨c3b0,H⟩ | ⟨c3b0,H⟩:=H
  rotate_left
  ·obtain rfl:=ysi H
   go_wp2
   go_ret
   exact ⟨yeq,by repeat (first|exact Drawn0.refl _|apply Drawn0.step)⟩
  replace H:=yif H;obtain ⟨c4b0,H⟩:=H
  replace H:=yit H;obtain ⟨c5,H⟩ | ⟨c5,H⟩:=H
  rotate_left
  ·have c5b0:((rd l0 x5_1) == x1_1)=false:=beq_eq_false_iff_ne.mpr c5
   have c5b1:((rd l0 x5_1) != x1_1)=true:=bne_iff_ne.mpr c5
   obtain rfl:=ysi H
   obtain ⟨ad204,e204,hx204_0,p204,q204⟩:=yat HR0.out x5_1
   cases e204
   go_wp2
   go_ret
   exact ⟨yeq,by repeat (first|exact Drawn0.refl _|apply Drawn0.step)⟩
  have c5b0:((rd l0 x5_1) == x1_1)=true:=beq_iff_eq.mpr c5
  have c5b1:((rd l0 x5_1) != x1_1)=false:=bne_eq_false_iff_eq.mpr c5
  clear c5
  replace H:=yam H
  obtain ⟨ad204,e204,hx204_0,p204,q204⟩:=yat HR0.out x5_1
  cases e204
  go_wp2
  go_roundg k1
  case measure=>have:=HK1.out;omega
  case rel=>exact ⟨(wrap64 (x1_1 + 1)),(wrap64 (x5_1 + 1)),yeq,yeq,H,⟨by have:=HK1.out;omega⟩,by repeat (first|exact Drawn0.refl _|apply Drawn0.step)⟩
def laws_heldRuleS.l0:Nat→List (S73)→Int→Int→Option (Int)
 | 0,_,_,_=>none
 | k + 1,x0,x1,x5=>if x5 < (x0.length:Int) then (if 0≤x5 then (if ((rd_T73 x0 x5).f0)=x1 then ((laws_heldIntS.f k ((rd_T73 x0 x5).f1) (wrap64 (x1 + 1))).bind fun t520=>(if t520 < 0 then (some (-1)) else (if ((rd_T73 x0 x5).f2)=t520 then (laws_heldRuleS.l0 k x0 (wrap64 (t520 + 1)) (wrap64 (x5 + 1))) else (some (-1))))) else (some (-1))) else (none)) else (some x1)
def laws_heldRuleS.f (k:Nat)(l0:List (S73))(a1:Int):Option (Int):=laws_heldRuleS.l0 k l0 a1 0
theorem laws_heldRuleS.calls (k:Nat)(A0:Option Addr)(c0:Nat)(l0:List (S73))(a1:Int)(r:Int)(w:World)(hr0:Kd.C k73 w A0 l0.length l0)(hc0:l0.length≤c0)(h:laws_heldRuleS.f k l0 a1=some r) :
  Calls Try.prog 60 #[.slice A0 l0.length c0,.int .i64 a1] w fun e w'=>e= .returned (.int .i64 r)∧Drawn0 w w':=by
 have HR0:=yam hr0
 have HC0:=yam hc0
 clear hr0 hc0
 unfold laws_heldRuleS.f at h
 have H:=h
 clear h
 replace H:=yam H
 go_enter Try.func60,Try.ntmps60
 go_wp2
 go_loopg [1,5] k (fun kq v1 v5 w'=>∃ (x1_1:Int) (x5_1:Int),v1= .int .i64 x1_1∧v5= .int .i64 x5_1∧Aside0 (laws_heldRuleS.l0 kq l0 x1_1 x5_1=some r)∧Aside0 (kq≤k)∧Drawn0 w w')
 case atStart=>exact ⟨(a1),(0),yeq,yeq,H,⟨Nat.le_refl _⟩,by repeat (first|exact Drawn0.refl _|apply Drawn0.step)⟩
 case round =>
  clear H
  obtain ⟨x1_1,x5_1,rfl,rfl,HA,HK1,⟨m1,rfl⟩⟩:=hrel
  rcases gk with _|k1
  ·exact absurd HA.out (by simp [laws_heldRuleS.l0])
  obtain ⟨H⟩:=HA
  simp only [laws_heldRuleS.l0] at H
  replace H:=yis H;obtain ⟨c3b0,H⟩ | ⟨c3b0,H⟩:=H
  rotate_left
  ·obtain rfl:=ysi H
   go_wp2
   go_ret
   exact ⟨yeq,by repeat (first|exact Drawn0.refl _|apply Drawn0.step)⟩
  replace H:=yif H;obtain ⟨c4b0,H⟩:=H
  replace H:=yit H;obtain ⟨c5,H⟩ | ⟨c5,H⟩:=H
  rotate_left
  ·have c5b0:(((rd_T73 l0 x5_1).f0) == x1_1)=false:=beq_eq_false_iff_ne.mpr c5
   have c5b1:(((rd_T73 l0 x5_1).f0) != x1_1)=true:=bne_iff_ne.mpr c5
   obtain rfl:=ysi H
   have p518:0≤(x5_1:Int):=ydt
   have q518:x5_1 < (l0.length:Int):=ydt
   obtain ⟨ad518,A518_1,c518_1,e518,hx518_0,hx518_1,hx518_2,hl518_1,hi518_1⟩:=at_T73 HR0.out x5_1 p518 q518
   cases e518
   have HR518_1:=yam hi518_1
   have HC518_1:=yam hl518_1
   clear hi518_1 hl518_1
   replace p518:=eq_true p518
   replace q518:=eq_true q518
   go_wp2
   go_ret
   exact ⟨yeq,by repeat (first|exact Drawn0.refl _|apply Drawn0.step)⟩
  have c5b0:(((rd_T73 l0 x5_1).f0) == x1_1)=true:=beq_iff_eq.mpr c5
  have c5b1:(((rd_T73 l0 x5_1).f0) != x1_1)=false:=bne_eq_false_iff_eq.mpr c5
  clear c5
  replace H:=ybi H;obtain ⟨t520,A6,H⟩:=H
  try dsimp only at H
  replace H:=yis H;obtain ⟨c7b0,H⟩ | ⟨c7b0,H⟩:=H
  ·obtain rfl:=ysi H
   have p518:0≤(x5_1:Int):=ydt
   have q518:x5_1 < (l0.length:Int):=ydt
   obtain ⟨ad518,A518_1,c518_1,e518,hx518_0,hx518_1,hx518_2,hl518_1,hi518_1⟩:=at_T73 HR0.out x5_1 p518 q518
   cases e518
   have HR518_1:=yam hi518_1
   have HC518_1:=yam hl518_1
   clear hi518_1 hl518_1
   replace p518:=eq_true p518
   replace q518:=eq_true q518
   have p519:0≤(x5_1:Int):=ydt
   have q519:x5_1 < (l0.length:Int):=ydt
   obtain ⟨ad519,A519_1,c519_1,e519,hx519_0,hx519_1,hx519_2,hl519_1,hi519_1⟩:=at_T73 HR0.out x5_1 p519 q519
   obtain rfl:ad518=ad519:=(by injection e519)
   have HR519_1:=yam hi519_1
   have HC519_1:=yam hl519_1
   clear hi519_1 hl519_1
   replace p519:=eq_true p519
   replace q519:=eq_true q519
   have ea_:=Option.some.inj (hx518_1.symm.trans hx519_1)
   injection ea_ with ea_ en_ ec_
   subst ea_
   subst ec_
   clear en_
   go_wp2_with (first|(refine goesL_ (some 27) rfl rfl Try.func15 (by kernel_rfl) rfl #[.slice A518_1 ((rd_T73 l0 x5_1).f1).length c518_1,.int .i64 (wrap64 (x1_1 + 1))] rfl ymd ?_;(with_reducible refine (laws_heldIntS.calls k1 _ _ ((rd_T73 l0 x5_1).f1) (wrap64 (x1_1 + 1)) t520 _ ?_ ?_ A6.out).mono ?_);exact Kd.Cz (HR519_1.out);exact HC519_1.out;rintro e w' ⟨rfl,⟨nd,rfl⟩⟩;refine ⟨_,rfl,?_⟩))
   go_ret
   exact ⟨yeq,by repeat (first|exact Drawn0.refl _|apply Drawn0.step)⟩
  replace H:=yit H;obtain ⟨c8,H⟩ | ⟨c8,H⟩:=H
  rotate_left
  ·have c8b0:(((rd_T73 l0 x5_1).f2) == t520)=false:=beq_eq_false_iff_ne.mpr c8
   have c8b1:(((rd_T73 l0 x5_1).f2) != t520)=true:=bne_iff_ne.mpr c8
   obtain rfl:=ysi H
   have p518:0≤(x5_1:Int):=ydt
   have q518:x5_1 < (l0.length:Int):=ydt
   obtain ⟨ad518,A518_1,c518_1,e518,hx518_0,hx518_1,hx518_2,hl518_1,hi518_1⟩:=at_T73 HR0.out x5_1 p518 q518
   cases e518
   have HR518_1:=yam hi518_1
   have HC518_1:=yam hl518_1
   clear hi518_1 hl518_1
   replace p518:=eq_true p518
   replace q518:=eq_true q518
   have p519:0≤(x5_1:Int):=ydt
   have q519:x5_1 < (l0.length:Int):=ydt
   obtain ⟨ad519,A519_1,c519_1,e519,hx519_0,hx519_1,hx519_2,hl519_1,hi519_1⟩:=at_T73 HR0.out x5_1 p519 q519
   obtain rfl:ad518=ad519:=(by injection e519)
   have HR519_1:=yam hi519_1
   have HC519_1:=yam hl519_1
   clear hi519_1 hl519_1
   replace p519:=eq_true p519
   replace q519:=eq_true q519
   have ea_:=Option.some.inj (hx518_1.symm.trans hx519_1)
   injection ea_ with ea_ en_ ec_
   subst ea_
   subst ec_
   clear en_
   go_wp2_with (first|(refine goesL_ (some 27) rfl rfl Try.func15 (by kernel_rfl) rfl #[.slice A518_1 ((rd_T73 l0 x5_1).f1).length c518_1,.int .i64 (wrap64 (x1_1 + 1))] rfl ymd ?_;(with_reducible refine (laws_heldIntS.calls k1 _ _ ((rd_T73 l0 x5_1).f1) (wrap64 (x1_1 + 1)) t520 _ ?_ ?_ A6.out).mono ?_);exact Kd.Cz (HR519_1.out);exact HC519_1.out;rintro e w' ⟨rfl,⟨nd,rfl⟩⟩;refine ⟨_,rfl,?_⟩;have p521:0≤(x5_1:Int):=ydt;have q521:x5_1 < (l0.length:Int):=ydt;obtain ⟨ad521,A521_1,c521_1,e521,hx521_0,hx521_1,hx521_2,hl521_1,hi521_1⟩:=at_T73 HR0.out x5_1 p521 q521;obtain rfl:ad518=ad521:=(by injection e521);have HR521_1:=yam hi521_1;have HC521_1:=yam hl521_1;clear hi521_1 hl521_1;replace p521:=eq_true p521;replace q521:=eq_true q521;have ea_:=Option.some.inj (hx518_1.symm.trans hx521_1);injection ea_ with ea_ en_ ec_;subst ea_;subst ec_;clear en_))
   go_ret
   exact ⟨yeq,by repeat (first|exact Drawn0.refl _|apply Drawn0.step)⟩
  have c8b0:(((rd_T73 l0 x5_1).f2) == t520)=true:=beq_iff_eq.mpr c8
  have c8b1:(((rd_T73 l0 x5_1).f2) != t520)=false:=bne_eq_false_iff_eq.mpr c8
  clear c8
  replace H:=yam H
  have p518:0≤(x5_1:Int):=ydt
  have q518:x5_1 < (l0.length:Int):=ydt
  obtain ⟨ad518,A518_1,c518_1,e518,hx518_0,hx518_1,hx518_2,hl518_1,hi518_1⟩:=at_T73 HR0.out x5_1 p518 q518
  cases e518
  have HR518_1:=yam hi518_1
  have HC518_1:=yam hl518_1
  clear hi518_1 hl518_1
  replace p518:=eq_true p518
  replace q518:=eq_true q518
  have p519:0≤(x5_1:Int):=ydt
  have q519:x5_1 < (l0.length:Int):=ydt
  obtain ⟨ad519,A519_1,c519_1,e519,hx519_0,hx519_1,hx519_2,hl519_1,hi519_1⟩:=at_T73 HR0.out x5_1 p519 q519
  obtain rfl:ad518=ad519:=(by injection e519)
  have HR519_1:=yam hi519_1
  have HC519_1:=yam hl519_1
  clear hi519_1 hl519_1
  replace p519:=eq_true p519
  replace q519:=eq_true q519
  have ea_:=Option.some.inj (hx518_1.symm.trans hx519_1)
  injection ea_ with ea_ en_ ec_
  subst ea_
  subst ec_
  clear en_
  go_wp2_with (first|(refine goesL_ (some 27) rfl rfl Try.func15 (by kernel_rfl) rfl #[.slice A518_1 ((rd_T73 l0 x5_1).f1).length c518_1,.int .i64 (wrap64 (x1_1 + 1))] rfl ymd ?_;(with_reducible refine (laws_heldIntS.calls k1 _ _ ((rd_T73 l0 x5_1).f1) (wrap64 (x1_1 + 1)) t520 _ ?_ ?_ A6.out).mono ?_);exact Kd.Cz (HR519_1.out);exact HC519_1.out;rintro e w' ⟨rfl,⟨nd,rfl⟩⟩;refine ⟨_,rfl,?_⟩;have p521:0≤(x5_1:Int):=ydt;have q521:x5_1 < (l0.length:Int):=ydt;obtain ⟨ad521,A521_1,c521_1,e521,hx521_0,hx521_1,hx521_2,hl521_1,hi521_1⟩:=at_T73 HR0.out x5_1 p521 q521;obtain rfl:ad518=ad521:=(by injection e521);have HR521_1:=yam hi521_1;have HC521_1:=yam hl521_1;clear hi521_1 hl521_1;replace p521:=eq_true p521;replace q521:=eq_true q521;have ea_:=Option.some.inj (hx518_1.symm.trans hx521_1);injection ea_ with ea_ en_ ec_;subst ea_;subst ec_;clear en_))
  go_roundg k1
  case measure=>have:=HK1.out;omega
  case rel=>exact ⟨(wrap64 (t520 + 1)),(wrap64 (x5_1 + 1)),yeq,yeq,H,⟨by have:=HK1.out;omega⟩,by repeat (first|exact Drawn0.refl _|apply Drawn0.step)⟩
def laws_heldPuzzle.f (k:Nat)(a0_0:Int)(l0_1:List Int)(l0_2:List (S73))(a1:Int):Option (Int):=(laws_heldIntS.f k l0_1 a1).bind fun t523=>(if t523 < 0 then (some (-1)) else ((laws_heldRuleS.f k l0_2 t523).bind fun t524=>(if t524 < 0 then (some (-1)) else (some t524))))
theorem laws_heldPuzzle.calls (k:Nat)(a0_0:Int)(A0_1:Option Addr)(c0_1:Nat)(l0_1:List Int)(A0_2:Option Addr)(c0_2:Nat)(l0_2:List (S73))(a1:Int)(r:Int)(w:World)(hr0_1:Kd.C (Kd.int .i64) w A0_1 l0_1.length l0_1)(hc0_1:l0_1.length≤c0_1)(hr0_2:Kd.C k73 w A0_2 l0_2.length l0_2)(hc0_2:l0_2.length≤c0_2)(h:laws_heldPuzzle.f k a0_0 l0_1 l0_2 a1=some r) :
  Calls Try.prog 29 #[.agg #[.int .i64 a0_0,.slice A0_1 l0_1.length c0_1,.slice A0_2 l0_2.length c0_2],.int .i64 a1] w fun e w'=>e= .returned (.int .i64 r)∧Below w.heap.size w w':=by
 have hu37:=Try.underlying37
 have HR0_1:=yam hr0_1
 have HC0_1:=yam hc0_1
 clear hr0_1 hc0_1
 have HR0_2:=yam hr0_2
 have HC0_2:=yam hc0_2
 clear hr0_2 hc0_2
 have HB:=yam (Below.refl w.heap.size w)
 unfold laws_heldPuzzle.f at h
 have H:=h
 clear h
 replace H:=ybi H;obtain ⟨t523,A3,H⟩:=H
 try dsimp only at H
 replace H:=yis H;obtain ⟨c4b0,H⟩ | ⟨c4b0,H⟩:=H
 ·obtain rfl:=ysi H
  go_enter Try.func29,Try.ntmps29
  go_wp2_with (first|(refine ybe 2 #[.int .i64 a0_0,.slice A0_1 l0_1.length c0_1,.slice A0_2 l0_2.length c0_2] 37 ?_;intro gb522 hg w5 hbox hb;have BK522:=yam (hbox);have GW522:=yam ((by rw [hg];exact (below_size (yez HB.out)):w.heap.size≤gb522));replace HB:=yam (below_step (yez HB.out) hb);have GE522:=GW522;clear hb hbox hg;obtain ⟨hcz6_0,hcz6_1,hcz6_2,hfz6_0,hfz6_1,hfz6_2⟩:=ybc BK522.out)|(refine goesL_ (some 8) rfl rfl Try.func15 (by kernel_rfl) rfl #[.slice A0_1 l0_1.length c0_1,.int .i64 a1] rfl ymd ?_;(with_reducible refine (laws_heldIntS.calls k _ _ l0_1 a1 t523 _ ?_ ?_ A3.out).mono ?_);exact Kd.Cz ((Kd.C_below HR0_1.out HB.out));exact HC0_1.out;rintro e w' ⟨rfl,⟨nd,rfl⟩⟩;refine ⟨_,rfl,?_⟩))
  go_ret
  exact ⟨yer,yhb⟩
 replace H:=ybi H;obtain ⟨t524,A7,H⟩:=H
 try dsimp only at H
 replace H:=yis H;obtain ⟨c8b0,H⟩ | ⟨c8b0,H⟩:=H
 ·obtain rfl:=ysi H
  go_enter Try.func29,Try.ntmps29
  go_wp2_with (first|(refine ybe 2 #[.int .i64 a0_0,.slice A0_1 l0_1.length c0_1,.slice A0_2 l0_2.length c0_2] 37 ?_;intro gb522 hg w9 hbox hb;have BK522:=yam (hbox);have GW522:=yam ((by rw [hg];exact (below_size (yez HB.out)):w.heap.size≤gb522));replace HB:=yam (below_step (yez HB.out) hb);have GE522:=GW522;clear hb hbox hg;obtain ⟨hcz10_0,hcz10_1,hcz10_2,hfz10_0,hfz10_1,hfz10_2⟩:=ybc BK522.out)|(refine goesL_ (some 8) rfl rfl Try.func15 (by kernel_rfl) rfl #[.slice A0_1 l0_1.length c0_1,.int .i64 a1] rfl ymd ?_;(with_reducible refine (laws_heldIntS.calls k _ _ l0_1 a1 t523 _ ?_ ?_ A3.out).mono ?_);exact Kd.Cz ((Kd.C_below HR0_1.out HB.out));exact HC0_1.out;rintro e w' ⟨rfl,⟨nd,rfl⟩⟩;refine ⟨_,rfl,?_⟩)|(refine goesL_ (some 14) rfl rfl Try.func60 (by kernel_rfl) rfl #[.slice A0_2 l0_2.length c0_2,.int .i64 t523] rfl ymd ?_;(with_reducible refine (laws_heldRuleS.calls k _ _ l0_2 t523 t524 _ ?side1 ?side2 A7.out).mono ?_);(case side1=>repeat (first|exact (Kd.C_below HR0_2.out yhb)|(with_reducible refine Kd.C_alloc ?_ _)|(with_reducible refine Kd.C_drewN ?_ _)|(with_reducible refine Kd.C_drew ?_)));(case side2=>exact HC0_2.out);rintro e w' ⟨rfl,⟨nd,rfl⟩⟩;refine ⟨_,rfl,?_⟩))
  go_ret
  exact ⟨yer,yhb⟩
 obtain rfl:=ysi H
 go_enter Try.func29,Try.ntmps29
 go_wp2_with (first|(refine ybe 2 #[.int .i64 a0_0,.slice A0_1 l0_1.length c0_1,.slice A0_2 l0_2.length c0_2] 37 ?_;intro gb522 hg w11 hbox hb;have BK522:=yam (hbox);have GW522:=yam ((by rw [hg];exact (below_size (yez HB.out)):w.heap.size≤gb522));replace HB:=yam (below_step (yez HB.out) hb);have GE522:=GW522;clear hb hbox hg;obtain ⟨hcz12_0,hcz12_1,hcz12_2,hfz12_0,hfz12_1,hfz12_2⟩:=ybc BK522.out)|(refine goesL_ (some 8) rfl rfl Try.func15 (by kernel_rfl) rfl #[.slice A0_1 l0_1.length c0_1,.int .i64 a1] rfl ymd ?_;(with_reducible refine (laws_heldIntS.calls k _ _ l0_1 a1 t523 _ ?_ ?_ A3.out).mono ?_);exact Kd.Cz ((Kd.C_below HR0_1.out HB.out));exact HC0_1.out;rintro e w' ⟨rfl,⟨nd,rfl⟩⟩;refine ⟨_,rfl,?_⟩)|(refine goesL_ (some 14) rfl rfl Try.func60 (by kernel_rfl) rfl #[.slice A0_2 l0_2.length c0_2,.int .i64 t523] rfl ymd ?_;(with_reducible refine (laws_heldRuleS.calls k _ _ l0_2 t523 t524 _ ?side1 ?side2 A7.out).mono ?_);(case side1=>repeat (first|exact (Kd.C_below HR0_2.out yhb)|(with_reducible refine Kd.C_alloc ?_ _)|(with_reducible refine Kd.C_drewN ?_ _)|(with_reducible refine Kd.C_drew ?_)));(case side2=>exact HC0_2.out);rintro e w' ⟨rfl,⟨nd,rfl⟩⟩;refine ⟨_,rfl,?_⟩))
 go_ret
 exact ⟨yer,yhb⟩
end Go.Proofs.Ytmjbnghhfadapaa.P
