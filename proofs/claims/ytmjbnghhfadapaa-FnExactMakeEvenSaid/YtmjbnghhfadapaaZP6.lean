/- The machine's side: each Go function as a plain Lean function and the proof that the machine's call does what that function says; written by this session's own program over the kit's print. -/
import Derived.Test.YtmjbnghhfadapaaZP1
namespace Go.Proofs.Ytmjbnghhfadapaa.P
set_option maxHeartbeats 8000000
set_option maxRecDepth 100000
open Go.RowKit Go.Proofs.YtmjbnghhfadapaaW.PrintWords Go.Proofs.YtmjbnghhfadapaaW.PrintLast Go.Proofs.YtmjbnghhfadapaaW.PrintMore
attribute [local go_sem] max2_int min2_int max_two min_two max_three min_three max_four min_four   -- for this text's walks alone
set_option linter.unusedVariables false
set_option linter.unusedSimpArgs false
def slices_Clone_int_int.f (l0:List Int):Option (List Int):=if l0.length < 17592186044416 then some l0 else none
theorem slices_Clone_int_int.calls (A0:Option Addr)(c0:Nat)(l0:List Int)(r:List Int)(w:World)(hr0:Kd.C (Kd.int .i64) w A0 l0.length l0)(hc0:l0.length≤c0)(h:slices_Clone_int_int.f l0=some r) :
  Calls Try.prog 47 #[.slice A0 l0.length c0] w fun e w'=>∃ v0_:Value,e= .returned (v0_)∧Kd.R (Kd.int .i64) 3 w' w.heap.size (fun _=>True) v0_ r∧Below w.heap.size w w':=by
 have hcl:l0=r∧l0.length < 17592186044416:=by
  unfold slices_Clone_int_int.f at h
  by_cases hc:l0.length < 17592186044416
  ·rw [if_pos hc] at h;exact ⟨Option.some.inj h,hc⟩
  ·rw [if_neg hc] at h;exact absurd h (by simp)
 clear h
 obtain ⟨rfl,hlim⟩:=hcl
 have HR0:=yam hr0
 have HC0:=yam hc0
 have HLM:=yam hlim
 clear hr0 hc0 hlim
 have HB:=yam (Below.refl w.heap.size w)
 have hnil:=fun (W:World) (A:Option Addr) (n c:Nat)=>Lib.run_eql_slice_nil (P:=Try.prog) W 22 3 A n c 0 0 Try.underlying22
 cases A0 with
 | none =>
  have hl:l0=[]:=by
   cases l0 with
   | nil=>rfl
   | cons x t =>
    obtain ⟨ad,e,_⟩:=Kd.at_int HR0.out 0 (by decide) (by simp only [List.length_cons];omega)
    cases e
  subst hl
  go_enter Try.func47,Try.ntmps47
  go_wp2
  go_ret
  exact ⟨.slice none 0 0,rfl,Kd.R_nil _ _ _ _ _,Below.refl _ _⟩
 | some ad =>
  obtain ⟨y361,hy361⟩:∃ y_:List Int,y_=(([]:List Int)):=⟨_,rfl⟩
  have Ny361:=yam hy361
  clear hy361
  go_enter Try.func47,Try.ntmps47
  go_wp2_with (first|((with_reducible refine gate_dst (N:=5) rfl ?_);refine Kd.R_lit (Kd.int .i64) _ 3 ?hg (N:=5) ?hd (xs:=([]:List Int)) (inner:=[]) (ok:=fun _=>True) (okp:=fun _=>True) ?hr ?hp (fun _ hk=>hk) trivial (Below.refl _ _) (Nat.le_refl _) (by simp) ?_;(case hd=>rfl);(case hg=>rfl);(case hr=>first|(go_simp;done)|(go_simp;rfl));(case hp=>exact (Reps.none _ _));intro v362 w3 ho4 hb hg_ hnew_;clear hg_ hnew_;rw [← Ny361.out] at ho4;have HO363:=yam (Kd.R_lower ho4 (below_size (by repeat (first|(with_reducible first|exact HB.out|apply below_alloc|apply pw_below_drewN|apply below_drew1)|exact HB.out))));replace HB:=yam (below_step (by repeat (first|(with_reducible first|exact HB.out|apply below_alloc|apply pw_below_drewN|apply below_drew1)|exact HB.out)) hb);clear hb ho4)|((with_reducible refine gate_builtin (b:= .append) (xs:= #[.tmp 5,.tmp 6]) rfl ?_);at_builtin;refine Kd.R_append_rows (Kd.int .i64) (w0:=w) w.heap.size rfl (.tmp 5) (.tmp 6) 22 3 (.int .i64 0) 8 rfl Try.underlying22 info3 rfl (by decide) (by omega) v362 y361 l0 _ _ _ (fun _=>True) (fun _=>False) rfl rfl ?aO ?aR (fun _ _ h=>h) (fun _ h=>h.elim) ?aF ?aB ?aS ?aL ?_;(case aR=>repeat (first|exact (Kd.C_below HR0.out HB.out)|(with_reducible refine Kd.C_alloc ?_ _)|(with_reducible refine Kd.C_drewN ?_ _)|(with_reducible refine Kd.C_drew ?_)));(case aB=>exact (by repeat (first|(with_reducible first|exact HB.out|apply below_alloc|apply pw_below_drewN|apply below_drew1)|exact HB.out)));(case aF=>exact (fun _ _=>trivial));(case aO=>exact (by (with_reducible repeat (first|apply Kd.R_alloc|apply Kd.R_drewN|apply Kd.R_drew));exact HO363.out));(case aS=>exact (below_size (by repeat (first|(with_reducible first|exact HB.out|apply below_alloc|apply pw_below_drewN|apply below_drew1)|exact HB.out))));(case aL=>have:=HLM.out;rw [Ny361.out];simp only [List.length_nil];omega);intro v365 w5 ho hb hg hat;rw [Ny361.out,List.nil_append] at ho;replace HB:=yam (hb);have HO366:=yam (ho);clear HO363;clear ho hb hg hat))
  go_ret
  exact ⟨_,rfl,by (with_reducible repeat (first|apply Kd.R_alloc|apply Kd.R_drewN|apply Kd.R_drew));exact HO366.out,by repeat (first|(with_reducible first|exact HB.out|apply below_alloc|apply pw_below_drewN|apply below_drew1)|exact HB.out)⟩
def impl_copyPuzzle.l0:Nat→List (S73)→Int→Int→Int→List Int→List (S73)→Option (Int × List Int × (List (S73)))
 | 0,_,_,_,_,_,_=>none
 | k + 1,x13,x14,x15,x488000,x488001,x488002=>if x15 < x14 then (if 0≤x15 then (if x15 < (x13.length:Int) then ((slices_Clone_int_int.f ((rd_T73 x13 x15).f1)).bind fun t490=>(if x488002.length < 3518437208883 then (impl_copyPuzzle.l0 k x13 x14 (wrap64 (x15 + 1)) x488000 x488001 (x488002 ++ [(⟨(rd_T73 x13 x15).f0,t490,(rd_T73 x13 x15).f2⟩:S73)])) else (none))) else (none)) else (none)) else (some (x488000,x488001,x488002))
def impl_copyPuzzle.f (k:Nat)(a0_0:Int)(l0_1:List Int)(l0_2:List (S73)):Option (Int × List Int × (List (S73))):=(slices_Clone_int_int.f l0_1).bind fun t484=>(impl_copyPuzzle.l0 k l0_2 (l0_2.length:Int) 0 a0_0 t484 ([]:List (S73)))
def impl_copyPuzzle.T1:Bool × List (List Nat × List Nat):=(true,[([],[]),([0],[0]),([],[]),([2],[2]),([3],[3]),([1,4],[1,4]),([],[]),([6,5,4,0,1,2,3,4,5,6],[5,6])])
def impl_copyPuzzle.B1:List Nat:=[0,1,0,4,12,31,0,127]
theorem impl_copyPuzzle.tab1:rtab .any (opsOf Try.f58 1)=impl_copyPuzzle.T1:=by kernel_rfl
theorem impl_copyPuzzle.bits1:waitsOk impl_copyPuzzle.T1.2 impl_copyPuzzle.B1=true:=by kernel_rfl
theorem impl_copyPuzzle.calls (k:Nat)(a0_0:Int)(A0_1:Option Addr)(c0_1:Nat)(l0_1:List Int)(A0_2:Option Addr)(c0_2:Nat)(l0_2:List (S73))(r1:Int)(r2:List Int)(r3:List (S73))(w:World)(hr0_1:Kd.C (Kd.int .i64) w A0_1 l0_1.length l0_1)(hc0_1:l0_1.length≤c0_1)(hr0_2:Kd.C k73 w A0_2 l0_2.length l0_2)(hc0_2:l0_2.length≤c0_2)(h:impl_copyPuzzle.f k a0_0 l0_1 l0_2=some (r1,r2,r3)) :
  Calls Try.prog 58 #[.agg #[.int .i64 a0_0,.slice A0_1 l0_1.length c0_1,.slice A0_2 l0_2.length c0_2]] w fun e w'=>∃ v1_ v2_:Value,e= .returned (.agg #[.int .i64 r1,v1_,v2_])∧Kd.R (Kd.int .i64) 3 w' w.heap.size (fun _=>True) v1_ r2∧Kd.S k73 73 w' w.heap.size (fun k_=>some k_≠(v1_:Value).ownBlock) v2_ r3∧Below w.heap.size w w':=by
 have hu37:=Try.underlying37
 have hu73:=Try.underlying73
 have HR0_1:=yam hr0_1
 have HC0_1:=yam hc0_1
 clear hr0_1 hc0_1
 have HR0_2:=yam hr0_2
 have HC0_2:=yam hc0_2
 clear hr0_2 hc0_2
 have HB:=yam (Below.refl w.heap.size w)
 unfold impl_copyPuzzle.f at h
 have H:=h
 clear h
 replace H:=ybi H;obtain ⟨t484,A2,H⟩:=H
 replace H:(impl_copyPuzzle.l0 k l0_2 (l0_2.length:Int) 0 a0_0 t484 ([]:List (S73)))=some (r1,r2,r3):=H
 replace H:=yam H
 go_enter Try.func58,Try.ntmps58
 try go_wp2_with (first|(refine ybe 1 #[.int .i64 a0_0,.slice A0_1 l0_1.length c0_1,.slice A0_2 l0_2.length c0_2] 37 ?_;intro gb482 hg w3 hbox hb;have BK482:=yam (hbox);have GW482:=yam ((by rw [hg];exact (below_size (yez HB.out)):w.heap.size≤gb482));replace HB:=yam (below_step (yez HB.out) hb);have GE482:=GW482;clear hb hbox hg)|(refine ybe 2 #[.int .i64 0,.slice none 0 0,.slice none 0 0] 37 ?_;intro gb483 hg w4 hbox hb;have BK483:=yam (hbox);have GW483:=yam ((by rw [hg];exact (below_size yhb):w.heap.size≤gb483));replace HB:=yam (below_step yhb hb);have GE483:=GW483;have NB482_483:=yam ((by rw [hg];exact Nat.ne_of_lt (blk_lt (g:=gb482) (o:= .cells #[.int .i64 a0_0,.slice A0_1 l0_1.length c0_1,.slice A0_2 l0_2.length c0_2] 37 (0,0)) (ybz BK482.out)):gb482≠gb483));have NB483_482:=yam ((by rw [hg];exact Nat.ne_of_gt (blk_lt (g:=gb482) (o:= .cells #[.int .i64 a0_0,.slice A0_1 l0_1.length c0_1,.slice A0_2 l0_2.length c0_2] 37 (0,0)) (ybz BK482.out)):gb483≠gb482));replace BK482:=yam (ybb BK482.out hb);clear hb hbox hg))
 replace BK482:=yam (ybd BK482.out)
 replace BK483:=yam (ybd BK483.out)
 replace HB:=yam (yed HB.out)
 refine start_ (n:=8) (S:=fun w'=>w'.cell? ⟨gb482,0,none⟩=some (.int .i64 a0_0)∧w'.cell? ⟨gb482,1,none⟩=some (.slice A0_1 l0_1.length c0_1)∧w'.cell? ⟨gb482,2,none⟩=some (.slice A0_2 l0_2.length c0_2)) (ds:=[]) (yvb 8 0) (by kernel_rfl) rfl rfl ⟨(blk_cell BK482.out 0).trans rfl,(blk_cell BK482.out 1).trans rfl,(blk_cell BK482.out 2).trans rfl⟩ (fun hHeld=>?_);refine with_tabW impl_copyPuzzle.tab1 impl_copyPuzzle.bits1 (fun HT_ HW_=>?_)
 generalize w4.drew=w5 at BK482 BK483 HB hHeld ⊢
 refine yvp 0 6 (yvb 8 1) HT_.out ?_
 refine yvp 2 8 (yvb 8 5) HT_.out ?_
 refine yvt 1 7 (yvb 8 7) HT_.out HW_.out hHeld ?_
 refine yvt 3 9 (yvb 8 15) HT_.out HW_.out hHeld ?_
 refine join_ (σ:=Value × Nat) 1 (yvb 8 127) (fun s_=>[(10,s_.1),(3,.pointer (some ⟨s_.2,0,none⟩)),(11,.agg #[.int .i64 a0_0,s_.1,.slice none 0 0])]) (fun s_ w'=>(w'.cell? ⟨gb482,0,none⟩=some (.int .i64 a0_0)∧w'.cell? ⟨gb482,1,none⟩=some (.slice A0_1 l0_1.length c0_1)∧w'.cell? ⟨gb482,2,none⟩=some (.slice A0_2 l0_2.length c0_2))∧(Kd.R (Kd.int .i64) 3 w' w.heap.size (fun _=>True) s_.1 t484)∧(w'.heap[gb482]?=some (.cells #[.int .i64 a0_0,.slice A0_1 l0_1.length c0_1,.slice A0_2 l0_2.length c0_2] 37 (0,0)))∧(w'.heap[gb483]?=some (.cells #[.int .i64 0,.slice none 0 0,.slice none 0 0] 37 (0,0)))∧(w'.heap[s_.2]?=some (.cells #[.int .i64 0,.slice none 0 0,.slice none 0 0] 37 (0,0)))∧(w.heap.size≤s_.2)∧(w.heap.size≤s_.2)∧(gb482≠s_.2)∧(s_.2≠gb482)∧(gb483≠s_.2)∧(s_.2≠gb483)∧(Below w.heap.size w w')) ?_ ?_
 rotate_left
 ·intro hCont
  refine two_ (i:=4) (j:=6) (Ni:=some 10) (Nj:=some 3) (yvb 8 31) (yvb 8 79) rfl rfl rfl rfl (two_of HT_.out (by kernel_rfl)) (by decide) (by decide) (fun K hK=>?_) (fun K hK=>?_)
  ·skip
   refine goes_ Try.func47 (by kernel_rfl) rfl #[.slice A0_1 l0_1.length c0_1] (by rfl) rfl rfl ymd ?_
   with_reducible refine (slices_Clone_int_int.calls _ _ l0_1 t484 _ ?_ ?_ A2.out).mono ?_
   exact Kd.Cz ((Kd.C_below HR0_1.out HB.out))
   exact HC0_1.out
   rintro e w6 ⟨v485,rfl,ho0,hb⟩
   refine ⟨_,rfl,?_⟩
   have HO486:=yam (Kd.R_lower ho0 (below_size yhb))
   replace BK482:=yam (ybb BK482.out hb)
   replace BK483:=yam (ybb BK483.out hb)
   replace HB:=yam (below_step yhb hb)
   (try clear hb)
   (try clear hb2)
   (try clear hk)
   (try clear hi)
   (try clear ho0)
   obtain ⟨Ao7,co7,eo7⟩:=Kd.R_slice HO486.out
   (first|subst eo7|(injection eo7 with f1_ f2_ f3_;have f4_:=f1_.symm;have f5_:=f3_.symm;clear f1_ f2_ f3_;subst f4_;subst f5_))
   refine hK.out _ _ ⟨(blk_cell BK482.out 0).trans rfl,(blk_cell BK482.out 1).trans rfl,(blk_cell BK482.out 2).trans rfl⟩ (fun hHeld=>?_)
   clear hK K
   refine norm_ (a':=?_) ?_ ?_
   rotate_left
   ·show Act.put _ (some 10) _=_
    simp only [Act.put,yps,i64_w,i32_w]
    rfl
   refine yvp 5 11 (yvb 8 63) HT_.out ?_
   refine one_ (i:=6) (N:=some 3) (yvb 8 127) rfl rfl (one_of HT_.out (by kernel_rfl)) (by decide) (fun K hK=>?_)
   refine box_step ?hg (N:=3) ?hd (cs:= #[.int .i64 0,.slice none 0 0,.slice none 0 0]) (t:=37) ?hr ?_;(case hd=>rfl);(case hg=>rfl);(case hr=>first|(go_simp;done)|(go_simp;rfl))
   intro gb487 hg w8 hbox hb
   replace HO486:=yam (Kd.R_below (Kd.Yz HO486.out) hb)
   have BK487:=yam (hbox)
   have GW487:=yam ((by rw [hg];exact (below_size yhb):w.heap.size≤gb487))
   have GE487:=yam ((by rw [hg];exact (below_size yhb):w.heap.size≤gb487))
   replace HB:=yam (below_step yhb hb)
   have NB482_487:=yam ((by rw [hg];exact Nat.ne_of_lt (blk_lt (g:=gb482) (o:= .cells #[.int .i64 a0_0,.slice A0_1 l0_1.length c0_1,.slice A0_2 l0_2.length c0_2] 37 (0,0)) (ybz BK482.out)):gb482≠gb487))
   have NB487_482:=yam ((by rw [hg];exact Nat.ne_of_gt (blk_lt (g:=gb482) (o:= .cells #[.int .i64 a0_0,.slice A0_1 l0_1.length c0_1,.slice A0_2 l0_2.length c0_2] 37 (0,0)) (ybz BK482.out)):gb487≠gb482))
   replace BK482:=yam (ybb BK482.out hb)
   have NB483_487:=yam ((by rw [hg];exact Nat.ne_of_lt (blk_lt (g:=gb483) (o:= .cells #[.int .i64 0,.slice none 0 0,.slice none 0 0] 37 (0,0)) (ybz BK483.out)):gb483≠gb487))
   have NB487_483:=yam ((by rw [hg];exact Nat.ne_of_gt (blk_lt (g:=gb483) (o:= .cells #[.int .i64 0,.slice none 0 0,.slice none 0 0] 37 (0,0)) (ybz BK483.out)):gb487≠gb483))
   replace BK483:=yam (ybb BK483.out hb)
   clear hb hbox hg
   refine hK.out _ _ ⟨(blk_cell BK482.out 0).trans rfl,(blk_cell BK482.out 1).trans rfl,(blk_cell BK482.out 2).trans rfl⟩ (fun hHeld=>?_)
   clear hK K
   refine norm_ (a':=?_) ?_ ?_
   rotate_left
   ·show Act.put _ (some 3) _=_
    simp only [Act.put,yps,i64_w,i32_w]
    rfl
   exact norm_ (by simp only [putAll,Act.put,yps]) (hCont (.slice Ao7 t484.length co7,gb487) _ ⟨hHeld,(Kd.Yz HO486.out),(ybz BK482.out),(ybz BK483.out),(ybz BK487.out),GW487.out,GE487.out,NB482_487.out,NB487_482.out,NB483_487.out,NB487_483.out,yhb⟩)
  ·skip
   refine box_step ?hg (N:=3) ?hd (cs:= #[.int .i64 0,.slice none 0 0,.slice none 0 0]) (t:=37) ?hr ?_;(case hd=>rfl);(case hg=>rfl);(case hr=>first|(go_simp;done)|(go_simp;rfl))
   intro gb487 hg w6 hbox hb
   have BK487:=yam (hbox)
   have GW487:=yam ((by rw [hg];exact (below_size yhb):w.heap.size≤gb487))
   have GE487:=yam ((by rw [hg];exact (below_size yhb):w.heap.size≤gb487))
   replace HB:=yam (below_step yhb hb)
   have NB482_487:=yam ((by rw [hg];exact Nat.ne_of_lt (blk_lt (g:=gb482) (o:= .cells #[.int .i64 a0_0,.slice A0_1 l0_1.length c0_1,.slice A0_2 l0_2.length c0_2] 37 (0,0)) (ybz BK482.out)):gb482≠gb487))
   have NB487_482:=yam ((by rw [hg];exact Nat.ne_of_gt (blk_lt (g:=gb482) (o:= .cells #[.int .i64 a0_0,.slice A0_1 l0_1.length c0_1,.slice A0_2 l0_2.length c0_2] 37 (0,0)) (ybz BK482.out)):gb487≠gb482))
   replace BK482:=yam (ybb BK482.out hb)
   have NB483_487:=yam ((by rw [hg];exact Nat.ne_of_lt (blk_lt (g:=gb483) (o:= .cells #[.int .i64 0,.slice none 0 0,.slice none 0 0] 37 (0,0)) (ybz BK483.out)):gb483≠gb487))
   have NB487_483:=yam ((by rw [hg];exact Nat.ne_of_gt (blk_lt (g:=gb483) (o:= .cells #[.int .i64 0,.slice none 0 0,.slice none 0 0] 37 (0,0)) (ybz BK483.out)):gb487≠gb483))
   replace BK483:=yam (ybb BK483.out hb)
   clear hb hbox hg
   refine hK.out _ _ ⟨(blk_cell BK482.out 0).trans rfl,(blk_cell BK482.out 1).trans rfl,(blk_cell BK482.out 2).trans rfl⟩ (fun hHeld=>?_)
   clear hK K
   refine norm_ (a':=?_) ?_ ?_
   rotate_left
   ·show Act.put _ (some 3) _=_
    simp only [Act.put,yps,i64_w,i32_w]
    rfl
   refine one_ (i:=4) (N:=some 10) (yvb 8 95) rfl rfl (one_of HT_.out (by kernel_rfl)) (by decide) (fun K hK=>?_)
   refine goes_ Try.func47 (by kernel_rfl) rfl #[.slice A0_1 l0_1.length c0_1] (by rfl) rfl rfl ymd ?_
   with_reducible refine (slices_Clone_int_int.calls _ _ l0_1 t484 _ ?_ ?_ A2.out).mono ?_
   exact Kd.Cz ((Kd.C_below HR0_1.out HB.out))
   exact HC0_1.out
   rintro e w7 ⟨v485,rfl,ho0,hb⟩
   refine ⟨_,rfl,?_⟩
   have HO486:=yam (Kd.R_lower ho0 (below_size yhb))
   replace BK482:=yam (ybb BK482.out hb)
   replace BK483:=yam (ybb BK483.out hb)
   replace BK487:=yam (ybb BK487.out hb)
   replace HB:=yam (below_step yhb hb)
   (try clear hb)
   (try clear hb2)
   (try clear hk)
   (try clear hi)
   (try clear ho0)
   obtain ⟨Ao8,co8,eo8⟩:=Kd.R_slice HO486.out
   (first|subst eo8|(injection eo8 with f1_ f2_ f3_;have f4_:=f1_.symm;have f5_:=f3_.symm;clear f1_ f2_ f3_;subst f4_;subst f5_))
   refine hK.out _ _ ⟨(blk_cell BK482.out 0).trans rfl,(blk_cell BK482.out 1).trans rfl,(blk_cell BK482.out 2).trans rfl⟩ (fun hHeld=>?_)
   clear hK K
   refine norm_ (a':=?_) ?_ ?_
   rotate_left
   ·show Act.put _ (some 10) _=_
    simp only [Act.put,yps,i64_w,i32_w]
    rfl
   refine yvp 5 11 (yvb 8 127) HT_.out ?_
   exact norm_ (by simp only [putAll,Act.put,yps]) (hCont (.slice Ao8 t484.length co8,gb487) _ ⟨hHeld,(Kd.Yz HO486.out),(ybz BK482.out),(ybz BK483.out),(ybz BK487.out),GW487.out,GE487.out,NB482_487.out,NB487_482.out,NB483_487.out,NB487_483.out,yhb⟩)
 rintro ⟨v485,gb487⟩ w9 ⟨hS_,h0_,h1_,h2_,h3_,h4_,h5_,h6_,h7_,h8_,h9_,h10_⟩
 have HO486:Aside0 (Kd.R (Kd.int .i64) 3 w9 w.heap.size (fun _=>True) v485 t484):=⟨h0_⟩
 replace BK482:Aside0 (w9.heap[gb482]?=some (.cells #[.int .i64 a0_0,.slice A0_1 l0_1.length c0_1,.slice A0_2 l0_2.length c0_2] 37 (0,0))):=⟨h1_⟩
 replace BK483:Aside0 (w9.heap[gb483]?=some (.cells #[.int .i64 0,.slice none 0 0,.slice none 0 0] 37 (0,0))):=⟨h2_⟩
 have BK487:Aside0 (w9.heap[gb487]?=some (.cells #[.int .i64 0,.slice none 0 0,.slice none 0 0] 37 (0,0))):=⟨h3_⟩
 have GW487:Aside0 (w.heap.size≤gb487):=⟨h4_⟩
 have GE487:Aside0 (w.heap.size≤gb487):=⟨h5_⟩
 have NB482_487:Aside0 (gb482≠gb487):=⟨h6_⟩
 have NB487_482:Aside0 (gb487≠gb482):=⟨h7_⟩
 have NB483_487:Aside0 (gb483≠gb487):=⟨h8_⟩
 have NB487_483:Aside0 (gb487≠gb483):=⟨h9_⟩
 replace HB:Aside0 (Below w.heap.size w w9):=⟨h10_⟩
 clear h0_ h1_ h2_ h3_ h4_ h5_ h6_ h7_ h8_ h9_ h10_
 have hHeld:w9.cell? ⟨gb482,0,none⟩=some (.int .i64 a0_0)∧w9.cell? ⟨gb482,1,none⟩=some (.slice A0_1 l0_1.length c0_1)∧w9.cell? ⟨gb482,2,none⟩=some (.slice A0_2 l0_2.length c0_2):=hS_
 obtain ⟨Ao10,co10,eo10⟩:=Kd.R_slice HO486.out
 (first|subst eo10|(injection eo10 with f1_ f2_ f3_;have f4_:=f1_.symm;have f5_:=f3_.symm;clear f1_ f2_ f3_;subst f4_;subst f5_))
 refine norm_ (a':=?_) ?_ ?_
 rotate_left
 ·simp only [putAll,Act.put,yps]
  rfl
 refine one_ (i:=7) (N:=none) (yvb 8 255) rfl rfl (one_of HT_.out (by kernel_rfl)) (by decide) (fun K hK=>?_)
 have hs11:w9.cell? ⟨gb487,0,none⟩=some (.int .i64 0):=(blk_cell BK487.out 0).trans rfl
 have hfs11:=blk_frozen BK487.out 0
 have hns11_0:=NB482_487.out
 have hns11_1:=NB483_487.out
 have hms11_0:=NB487_482.out
 have hms11_1:=NB487_483.out
 have hs12:w9.cell? ⟨gb487,1,none⟩=some (.slice none 0 0):=(blk_cell BK487.out 1).trans rfl
 have hfs12:=blk_frozen BK487.out 1
 have hns12_0:=NB482_487.out
 have hns12_1:=NB483_487.out
 have hms12_0:=NB487_482.out
 have hms12_1:=NB487_483.out
 have hs13:w9.cell? ⟨gb487,2,none⟩=some (.slice none 0 0):=(blk_cell BK487.out 2).trans rfl
 have hfs13:=blk_frozen BK487.out 2
 have hns13_0:=NB482_487.out
 have hns13_1:=NB483_487.out
 have hms13_0:=NB487_482.out
 have hms13_1:=NB487_483.out
 refine skip_ (w1:=?_) (by rfl) rfl ?_ ?_
 rotate_left
 ·go_simp
  rfl
 refine hK.out _ _ ⟨((cell_far (p:=⟨gb487,_,none⟩) NB482_487.out _).trans (((cell_far (p:=⟨gb487,_,none⟩) NB482_487.out _).trans (((cell_far (p:=⟨gb487,_,none⟩) NB482_487.out _).trans (hHeld.1)))))),((cell_far (p:=⟨gb487,_,none⟩) NB482_487.out _).trans (((cell_far (p:=⟨gb487,_,none⟩) NB482_487.out _).trans (((cell_far (p:=⟨gb487,_,none⟩) NB482_487.out _).trans (hHeld.2.1)))))),((cell_far (p:=⟨gb487,_,none⟩) NB482_487.out _).trans (((cell_far (p:=⟨gb487,_,none⟩) NB482_487.out _).trans (((cell_far (p:=⟨gb487,_,none⟩) NB482_487.out _).trans (hHeld.2.2))))))⟩ (fun hHeld=>?_)
 clear hK K
 refine done_ (done_of HT_.out (by kernel_rfl)) ?_
 have hnb14:=NB482_483.out
 have hnc14:=NB483_482.out
 have hnb15:=NB482_487.out
 have hnc15:=NB487_482.out
 obtain ⟨hcz16_0,hcz16_1,hcz16_2,hfz16_0,hfz16_1,hfz16_2⟩:=ybc BK482.out
 try go_wp2
 go_loopg [15] k (fun kq v15 w'=>∃ (x15_1:Int) (x488002_1:List (S73)) (u488002:Value),v15= .int .i64 x15_1∧Aside0 (impl_copyPuzzle.l0 kq l0_2 (l0_2.length:Int) x15_1 a0_0 t484 x488002_1=some (r1,r2,r3))∧Aside0 (kq≤k)∧Aside0 (Kd.R (Kd.int .i64) 3 w' w.heap.size (fun _=>True) (.slice Ao10 t484.length co10) t484)∧Aside0 (Kd.S k73 73 w' w.heap.size (fun k_=>some k_≠((.slice Ao10 t484.length co10):Value).ownBlock) u488002 x488002_1)∧Aside0 (w'.heap[gb482]?=some (.cells #[.int .i64 a0_0,(.slice A0_1 l0_1.length c0_1),(.slice A0_2 l0_2.length c0_2)] 37 (0,0)))∧Aside0 (w'.heap[gb483]?=some (.cells #[.int .i64 0,(.slice none 0 0),(.slice none 0 0)] 37 (0,0)))∧Aside0 (w'.heap[gb487]?=some (.cells #[.int .i64 a0_0,(.slice Ao10 t484.length co10),u488002] 37 (0,0)))∧Aside0 (Below w.heap.size w w'))
 case atStart=>exact ⟨(0),(([]:List (S73))),(.slice none 0 0),yeq,H,⟨Nat.le_refl _⟩,⟨by (with_reducible repeat (first|apply Kd.Ya|apply Kd.Yn|apply Kd.Yd));exact Kd.R_mono (Kd.R_far (p:=⟨gb487,2,none⟩) (Kd.R_far (p:=⟨gb487,1,none⟩) (Kd.R_far (p:=⟨gb487,0,none⟩) (Kd.R_types HO486.out BK487.out (by decide)) (fun _ hk=>hk.2) (.int .i64 a0_0)) (fun _ hk=>hk.2) (.slice Ao10 t484.length co10)) (fun _ hk=>hk.2) (.slice none 0 0)) (fun _ hk=>trivial)⟩,⟨by first|exact Kd.S_nil _ _ _ _ _|exact Kd.N_nil _ _ _ _ _|exact Kd.V_nil _ _ _ _ _|exact Kd.Q_nil _ _ _ _ _|exact Kd.R_nil _ _ _ _ _⟩,⟨by (with_reducible repeat (first|refine ybn ?_ _|refine ybd ?_|refine yba ?_ _));refine blk_far ?_ NB482_487.out _;(with_reducible repeat (first|refine ybn ?_ _|refine ybd ?_|refine yba ?_ _));refine blk_far ?_ NB482_487.out _;(with_reducible repeat (first|refine ybn ?_ _|refine ybd ?_|refine yba ?_ _));refine blk_far ?_ NB482_487.out _;(with_reducible repeat (first|refine ybn ?_ _|refine ybd ?_|refine yba ?_ _));exact BK482.out⟩,⟨by (with_reducible repeat (first|refine ybn ?_ _|refine ybd ?_|refine yba ?_ _));refine blk_far ?_ NB483_487.out _;(with_reducible repeat (first|refine ybn ?_ _|refine ybd ?_|refine yba ?_ _));refine blk_far ?_ NB483_487.out _;(with_reducible repeat (first|refine ybn ?_ _|refine ybd ?_|refine yba ?_ _));refine blk_far ?_ NB483_487.out _;(with_reducible repeat (first|refine ybn ?_ _|refine ybd ?_|refine yba ?_ _));exact BK483.out⟩,⟨by (with_reducible repeat (first|refine ybn ?_ _|refine ybd ?_|refine yba ?_ _));refine blk_put (cs:= #[.int .i64 a0_0,.slice Ao10 t484.length co10,.slice none 0 0]) ?_ 2 _ rfl;(with_reducible repeat (first|refine ybn ?_ _|refine ybd ?_|refine yba ?_ _));refine blk_put (cs:= #[.int .i64 a0_0,.slice none 0 0,.slice none 0 0]) ?_ 1 _ rfl;(with_reducible repeat (first|refine ybn ?_ _|refine ybd ?_|refine yba ?_ _));refine blk_put (cs:= #[.int .i64 0,.slice none 0 0,.slice none 0 0]) ?_ 0 _ rfl;(with_reducible repeat (first|refine ybn ?_ _|refine ybd ?_|refine yba ?_ _));exact BK487.out⟩,⟨yhb⟩⟩
 case round =>
  clear H
  try clear hcz16_0
  try clear hcz16_1
  try clear hcz16_2
  try clear hfz16_0
  try clear hfz16_1
  try clear hfz16_2
  obtain ⟨x15_1,x488002_1,u488002,rfl,HA,HK1,HO_488001,HO_488002,BK482,BK483,BK487,HB⟩:=hrel
  rcases gk with _|k1
  ·exact absurd HA.out (by simp [impl_copyPuzzle.l0])
  obtain ⟨H⟩:=HA
  simp only [impl_copyPuzzle.l0] at H
  replace H:=yis H;obtain ⟨c17b0,H⟩ | ⟨c17b0,H⟩:=H
  rotate_left
  ·simp only [Option.some.injEq,Prod.mk.injEq] at H
   obtain ⟨rfl,rfl,rfl⟩:=H
   have hnb38:=NB487_482.out
   have hnc38:=NB482_487.out
   have hnb39:=NB487_483.out
   have hnc39:=NB483_487.out
   obtain ⟨hcz40_0,hcz40_1,hcz40_2,hfz40_0,hfz40_1,hfz40_2⟩:=ybc BK487.out
   have hnb41:=NB483_482.out
   have hnc41:=NB482_483.out
   obtain ⟨hcz42_0,hcz42_1,hcz42_2,hfz42_0,hfz42_1,hfz42_2⟩:=ybc BK483.out
   obtain ⟨Ao43,co43,eo43⟩:=Kd.S_slice HO_488002.out
   subst eo43
   go_wp2
   refine bodyPost_ret (results_cell_row rfl _ _ gb483 37 #[.int .i64 a0_0,.slice Ao10 t484.length co10,.slice Ao43 x488002_1.length co43] (0,0) _ rfl (by (with_reducible repeat (first|refine ybn ?_ _|refine ybd ?_|refine yba ?_ _));refine blk_put (cs:= #[.int .i64 a0_0,.slice Ao10 t484.length co10,.slice none 0 0]) ?_ 2 _ rfl;(with_reducible repeat (first|refine ybn ?_ _|refine ybd ?_|refine yba ?_ _));refine blk_put (cs:= #[.int .i64 a0_0,.slice none 0 0,.slice none 0 0]) ?_ 1 _ rfl;(with_reducible repeat (first|refine ybn ?_ _|refine ybd ?_|refine yba ?_ _));refine blk_put (cs:= #[.int .i64 0,.slice none 0 0,.slice none 0 0]) ?_ 0 _ rfl;(with_reducible repeat (first|refine ybn ?_ _|refine ybd ?_|refine yba ?_ _));exact BK483.out) Try.underlying37 rfl (by kernel_rfl)) rfl ?_
   exact ⟨_,_,yer,by (with_reducible repeat (first|apply Kd.Ya|apply Kd.Yn|apply Kd.Yd));exact Kd.R_mono (Kd.R_far (p:=⟨gb483,2,none⟩) (Kd.R_far (p:=⟨gb483,1,none⟩) (Kd.R_far (p:=⟨gb483,0,none⟩) (Kd.R_types HO_488001.out BK483.out (by decide)) (fun _ hk=>hk.2) (.int .i64 a0_0)) (fun _ hk=>hk.2) (.slice Ao10 t484.length co10)) (fun _ hk=>hk.2) (.slice Ao43 x488002_1.length co43)) (fun _ hk=>trivial),by (with_reducible repeat (first|apply Kd.S_alloc|apply Kd.S_drewN|apply Kd.S_drew));exact Kd.S_mono (Kd.S_far (p:=⟨gb483,2,none⟩) (Kd.S_far (p:=⟨gb483,1,none⟩) (Kd.S_far (p:=⟨gb483,0,none⟩) (Kd.S_types HO_488002.out BK483.out (by decide)) (fun _ hk=>hk.2) (.int .i64 a0_0)) (fun _ hk=>hk.2) (.slice Ao10 t484.length co10)) (fun _ hk=>hk.2) (.slice Ao43 x488002_1.length co43)) (fun _ hk=>hk.1),yhb⟩
  replace H:=yif H;obtain ⟨c18b0,H⟩:=H
  replace H:=yif H;obtain ⟨c19b0,H⟩:=H
  replace H:=ybi H;obtain ⟨t490,A20,H⟩:=H
  replace H:(if x488002_1.length < 3518437208883 then (impl_copyPuzzle.l0 k1 l0_2 (l0_2.length:Int) (wrap64 (x15_1 + 1)) a0_0 t484 (x488002_1 ++ [(⟨(rd_T73 l0_2 x15_1).f0,t490,(rd_T73 l0_2 x15_1).f2⟩:S73)])) else (none))=some (r1,r2,r3):=H
  replace H:=yig H;obtain ⟨c21,H⟩:=H
  have LMc21:=yam c21
  clear c21
  obtain ⟨y493,Ny493⟩:∃ y_:List (S73),Aside0 (y_=(x488002_1 ++ [(⟨(rd_T73 l0_2 x15_1).f0,t490,(rd_T73 l0_2 x15_1).f2⟩:S73)])):=⟨_,⟨rfl⟩⟩
  replace H:(impl_copyPuzzle.l0 k1 l0_2 (l0_2.length:Int) (wrap64 (x15_1 + 1)) a0_0 t484 y493)=some (r1,r2,r3):=yhn Ny493.out H
  replace H:=yam H
  have p488:0≤(x15_1:Int):=ydt
  have q488:x15_1 < (l0_2.length:Int):=ydt
  obtain ⟨ad488,A488_1,c488_1,e488,hx488_0,hx488_1,hx488_2,hl488_1,hi488_1⟩:=at_T73 HR0_2.out x15_1 p488 q488
  cases e488
  replace hx488_0:=ybx HB.out hx488_0
  replace hx488_1:=ybx HB.out hx488_1
  replace hx488_2:=ybx HB.out hx488_2
  have HR488_1:=yam hi488_1
  have HC488_1:=yam hl488_1
  clear hi488_1 hl488_1
  replace p488:=eq_true p488
  replace q488:=eq_true q488
  go_wp2_with (first|(refine ybe 5 #[.int .i64 0,.slice none 0 0,.int .i64 0] 73 ?_;intro gb489 hg w22 hbox hb;replace HO_488001:=yam (Kd.R_below (Kd.Yz HO_488001.out) hb);replace HO_488002:=yam (Kd.S_below (Kd.S_elderB (by (with_reducible repeat (first|apply Kd.S_alloc|apply Kd.S_drewN|apply Kd.S_drew));exact HO_488002.out) gb489 (Nat.le_of_eq hg.symm)) hb);have BK489:=yam (hbox);have GW489:=yam ((by rw [hg];exact (below_size yhb):w.heap.size≤gb489));replace HB:=yam (below_step yhb hb);have GE489:=GW489;have NB482_489:=yam ((by rw [hg];exact Nat.ne_of_lt (blk_lt (g:=gb482) (o:= .cells #[.int .i64 a0_0,.slice A0_1 l0_1.length c0_1,.slice (some ad488) l0_2.length c0_2] 37 (0,0)) (ybz BK482.out)):gb482≠gb489));have NB489_482:=yam ((by rw [hg];exact Nat.ne_of_gt (blk_lt (g:=gb482) (o:= .cells #[.int .i64 a0_0,.slice A0_1 l0_1.length c0_1,.slice (some ad488) l0_2.length c0_2] 37 (0,0)) (ybz BK482.out)):gb489≠gb482));replace BK482:=yam (ybb BK482.out hb);have NB483_489:=yam ((by rw [hg];exact Nat.ne_of_lt (blk_lt (g:=gb483) (o:= .cells #[.int .i64 0,.slice none 0 0,.slice none 0 0] 37 (0,0)) (ybz BK483.out)):gb483≠gb489));have NB489_483:=yam ((by rw [hg];exact Nat.ne_of_gt (blk_lt (g:=gb483) (o:= .cells #[.int .i64 0,.slice none 0 0,.slice none 0 0] 37 (0,0)) (ybz BK483.out)):gb489≠gb483));replace BK483:=yam (ybb BK483.out hb);have NB487_489:=yam ((by rw [hg];exact Nat.ne_of_lt (blk_lt (g:=gb487) (o:= .cells #[.int .i64 a0_0,.slice Ao10 t484.length co10,u488002] 37 (0,0)) (ybz BK487.out)):gb487≠gb489));have NB489_487:=yam ((by rw [hg];exact Nat.ne_of_gt (blk_lt (g:=gb487) (o:= .cells #[.int .i64 a0_0,.slice Ao10 t484.length co10,u488002] 37 (0,0)) (ybz BK487.out)):gb489≠gb487));replace BK487:=yam (ybb BK487.out hb);clear hb hbox hg;have hnb23:=NB489_482.out;have hnc23:=NB482_489.out;have hnb24:=NB489_483.out;have hnc24:=NB483_489.out;have hnb25:=NB489_487.out;have hnc25:=NB487_489.out;obtain ⟨hcz26_0,hcz26_1,hcz26_2,hfz26_0,hfz26_1,hfz26_2⟩:=ybc BK489.out)|(refine goesL_ (some 21) rfl rfl Try.func47 (by kernel_rfl) rfl #[.slice A488_1 ((rd_T73 l0_2 x15_1).f1).length c488_1] rfl ymd ?_;(with_reducible refine (slices_Clone_int_int.calls _ _ ((rd_T73 l0_2 x15_1).f1) t490 _ ?_ ?_ A20.out).mono ?_);exact Kd.C_below HR488_1.out yhb;exact HC488_1.out;rintro e w27 ⟨v491,rfl,ho0,hb⟩;refine ⟨_,rfl,?_⟩;replace HO_488002:=yam (Kd.S_elder' (by (with_reducible repeat (first|apply Kd.S_alloc|apply Kd.S_drewN|apply Kd.S_drew));exact (Kd.S_mono (Kd.S_far (p:=⟨gb489,2,none⟩) (Kd.S_far (p:=⟨gb489,1,none⟩) (Kd.S_far (p:=⟨gb489,0,none⟩) (Kd.S_mono HO_488002.out (fun k_ hk=>(⟨hk,hk.2⟩:_∧k_≠gb489))) (fun _ hk=>hk.2) (.int .i64 ((rd_T73 l0_2 x15_1).f0))) (fun _ hk=>hk.2) (.slice A488_1 ((rd_T73 l0_2 x15_1).f1).length c488_1)) (fun _ hk=>hk.2) (.int .i64 ((rd_T73 l0_2 x15_1).f2))) (fun _ h_=>h_.1))) (Kd.Yb ho0) hb);have HO492:=yam (Kd.R_lower (Kd.Yw ho0 (Kd.R_lt (by (with_reducible repeat (first|apply Kd.Ya|apply Kd.Yn|apply Kd.Yd));exact (Kd.R_mono (Kd.R_far (p:=⟨gb489,2,none⟩) (Kd.R_far (p:=⟨gb489,1,none⟩) (Kd.R_far (p:=⟨gb489,0,none⟩) (Kd.R_types HO_488001.out BK489.out (by decide)) (fun _ hk=>hk.2) (.int .i64 ((rd_T73 l0_2 x15_1).f0))) (fun _ hk=>hk.2) (.slice A488_1 ((rd_T73 l0_2 x15_1).f1).length c488_1)) (fun _ hk=>hk.2) (.int .i64 ((rd_T73 l0_2 x15_1).f2))) (fun _ h_=>h_.1))))) (below_size yhb));replace HO_488001:=yam (Kd.Ye (by (with_reducible repeat (first|apply Kd.Ya|apply Kd.Yn|apply Kd.Yd));exact (Kd.R_mono (Kd.R_far (p:=⟨gb489,2,none⟩) (Kd.R_far (p:=⟨gb489,1,none⟩) (Kd.R_far (p:=⟨gb489,0,none⟩) (Kd.R_types HO_488001.out BK489.out (by decide)) (fun _ hk=>hk.2) (.int .i64 ((rd_T73 l0_2 x15_1).f0))) (fun _ hk=>hk.2) (.slice A488_1 ((rd_T73 l0_2 x15_1).f1).length c488_1)) (fun _ hk=>hk.2) (.int .i64 ((rd_T73 l0_2 x15_1).f2))) (fun _ h_=>h_.1))) (Kd.Yb ho0) hb);replace BK482:=yam (blk_below (g:=gb482) (o:= .cells #[.int .i64 a0_0,.slice A0_1 l0_1.length c0_1,.slice (some ad488) l0_2.length c0_2] 37 (0,0)) (by (with_reducible repeat (first|refine ybn ?_ _|refine ybd ?_|refine yba ?_ _));refine blk_far ?_ NB482_489.out _;(with_reducible repeat (first|refine ybn ?_ _|refine ybd ?_|refine yba ?_ _));refine blk_far ?_ NB482_489.out _;(with_reducible repeat (first|refine ybn ?_ _|refine ybd ?_|refine yba ?_ _));refine blk_far ?_ NB482_489.out _;(with_reducible repeat (first|refine ybn ?_ _|refine ybd ?_|refine yba ?_ _));exact BK482.out) hb);replace BK483:=yam (blk_below (g:=gb483) (o:= .cells #[.int .i64 0,.slice none 0 0,.slice none 0 0] 37 (0,0)) (by (with_reducible repeat (first|refine ybn ?_ _|refine ybd ?_|refine yba ?_ _));refine blk_far ?_ NB483_489.out _;(with_reducible repeat (first|refine ybn ?_ _|refine ybd ?_|refine yba ?_ _));refine blk_far ?_ NB483_489.out _;(with_reducible repeat (first|refine ybn ?_ _|refine ybd ?_|refine yba ?_ _));refine blk_far ?_ NB483_489.out _;(with_reducible repeat (first|refine ybn ?_ _|refine ybd ?_|refine yba ?_ _));exact BK483.out) hb);replace BK487:=yam (blk_below (g:=gb487) (o:= .cells #[.int .i64 a0_0,.slice Ao10 t484.length co10,u488002] 37 (0,0)) (by (with_reducible repeat (first|refine ybn ?_ _|refine ybd ?_|refine yba ?_ _));refine blk_far ?_ NB487_489.out _;(with_reducible repeat (first|refine ybn ?_ _|refine ybd ?_|refine yba ?_ _));refine blk_far ?_ NB487_489.out _;(with_reducible repeat (first|refine ybn ?_ _|refine ybd ?_|refine yba ?_ _));refine blk_far ?_ NB487_489.out _;(with_reducible repeat (first|refine ybn ?_ _|refine ybd ?_|refine yba ?_ _));exact BK487.out) hb);replace BK489:=yam (blk_below (g:=gb489) (o:= .cells #[.int .i64 ((rd_T73 l0_2 x15_1).f0),.slice A488_1 ((rd_T73 l0_2 x15_1).f1).length c488_1,.int .i64 ((rd_T73 l0_2 x15_1).f2)] 73 (0,0)) (by (with_reducible repeat (first|refine ybn ?_ _|refine ybd ?_|refine yba ?_ _));refine blk_put (cs:= #[.int .i64 ((rd_T73 l0_2 x15_1).f0),.slice A488_1 ((rd_T73 l0_2 x15_1).f1).length c488_1,.int .i64 0]) ?_ 2 _ rfl;(with_reducible repeat (first|refine ybn ?_ _|refine ybd ?_|refine yba ?_ _));refine blk_put (cs:= #[.int .i64 ((rd_T73 l0_2 x15_1).f0),.slice none 0 0,.int .i64 0]) ?_ 1 _ rfl;(with_reducible repeat (first|refine ybn ?_ _|refine ybd ?_|refine yba ?_ _));refine blk_put (cs:= #[.int .i64 0,.slice none 0 0,.int .i64 0]) ?_ 0 _ rfl;(with_reducible repeat (first|refine ybn ?_ _|refine ybd ?_|refine yba ?_ _));exact BK489.out) hb);replace HB:=yam (below_step yhb hb);(try clear hb);(try clear hk);(try clear ho0);obtain ⟨Ao28,co28,eo28⟩:=Kd.R_slice HO492.out;subst eo28;obtain ⟨hcz29_0,hcz29_1,hcz29_2,hfz29_0,hfz29_1,hfz29_2⟩:=ybc BK489.out)|((with_reducible refine gate_store (t:=22) (p:=22) rfl ?_);refine store_event (t:=22) (p:=22) (v:=?vo_w30) (w1:=(w27.setCell ⟨gb489,1,none⟩ (.slice Ao28 t490.length co28))) ?hg ?ho ?hn ?hr ?_;(case ho=>rfl);(case hg=>rfl);(case hn=>rfl);(case hr=>first|(go_simp;done)|(go_simp;rfl));intro w30 hw;replace HO_488001:Aside0 (Kd.R (Kd.int .i64) 3 w30 w.heap.size (fun k_=>some k_≠(.slice Ao28 t490.length co28:Value).ownBlock) (.slice Ao10 t484.length co10) t484):=⟨(by rw [hw];exact (by (with_reducible repeat (first|apply Kd.Ya|apply Kd.Yn|apply Kd.Yd));exact Kd.R_mono (Kd.R_far (p:=⟨gb489,1,none⟩) (Kd.R_types HO_488001.out BK489.out (by decide)) (fun _ hk=>hk.2) (.slice Ao28 t490.length co28)) (fun _ hk=>hk.1.2)))⟩;replace HO_488002:Aside0 (Kd.S k73 73 w30 w.heap.size (fun k_=>some k_≠(.slice Ao10 t484.length co10:Value).ownBlock∧some k_≠(.slice Ao28 t490.length co28:Value).ownBlock∧k_≠gb489) u488002 x488002_1):=⟨(by rw [hw];exact (by (with_reducible repeat (first|apply Kd.S_alloc|apply Kd.S_drewN|apply Kd.S_drew));exact Kd.S_mono (Kd.S_far (p:=⟨gb489,1,none⟩) (Kd.S_mono HO_488002.out (fun k_ hk=>(⟨hk,hk.1.2⟩:_∧k_≠gb489))) (fun _ hk=>hk.2) (.slice Ao28 t490.length co28)) (fun _ hk=>⟨hk.1.1.1,⟨hk.1.2,hk.1.1.2⟩⟩)))⟩;replace HO492:Aside0 (Kd.R (Kd.int .i64) 3 w30 w.heap.size (fun k_=>some k_≠(.slice Ao10 t484.length co10:Value).ownBlock) (.slice Ao28 t490.length co28) t490):=⟨(by rw [hw];exact (by (with_reducible repeat (first|apply Kd.Ya|apply Kd.Yn|apply Kd.Yd));exact Kd.R_mono (Kd.R_far (p:=⟨gb489,1,none⟩) (Kd.R_types HO492.out BK489.out (by decide)) (fun _ hk=>hk.2) (.slice Ao28 t490.length co28)) (fun _ hk=>hk.1.2)))⟩;replace BK482:Aside0 (w30.heap[gb482]?=some (.cells #[.int .i64 a0_0,.slice A0_1 l0_1.length c0_1,.slice (some ad488) l0_2.length c0_2] 37 (0,0))):=⟨(by rw [hw];exact (by (with_reducible repeat (first|refine ybn ?_ _|refine ybd ?_|refine yba ?_ _));refine blk_far ?_ NB482_489.out _;(with_reducible repeat (first|refine ybn ?_ _|refine ybd ?_|refine yba ?_ _));exact BK482.out))⟩;replace BK483:Aside0 (w30.heap[gb483]?=some (.cells #[.int .i64 0,.slice none 0 0,.slice none 0 0] 37 (0,0))):=⟨(by rw [hw];exact (by (with_reducible repeat (first|refine ybn ?_ _|refine ybd ?_|refine yba ?_ _));refine blk_far ?_ NB483_489.out _;(with_reducible repeat (first|refine ybn ?_ _|refine ybd ?_|refine yba ?_ _));exact BK483.out))⟩;replace BK487:Aside0 (w30.heap[gb487]?=some (.cells #[.int .i64 a0_0,.slice Ao10 t484.length co10,u488002] 37 (0,0))):=⟨(by rw [hw];exact (by (with_reducible repeat (first|refine ybn ?_ _|refine ybd ?_|refine yba ?_ _));refine blk_far ?_ NB487_489.out _;(with_reducible repeat (first|refine ybn ?_ _|refine ybd ?_|refine yba ?_ _));exact BK487.out))⟩;replace BK489:Aside0 (w30.heap[gb489]?=some (.cells #[.int .i64 ((rd_T73 l0_2 x15_1).f0),.slice Ao28 t490.length co28,.int .i64 ((rd_T73 l0_2 x15_1).f2)] 73 (0,0))):=⟨(by rw [hw];exact (by (with_reducible repeat (first|refine ybn ?_ _|refine ybd ?_|refine yba ?_ _));refine blk_put (cs:= #[.int .i64 ((rd_T73 l0_2 x15_1).f0),.slice A488_1 ((rd_T73 l0_2 x15_1).f1).length c488_1,.int .i64 ((rd_T73 l0_2 x15_1).f2)]) ?_ 1 _ rfl;(with_reducible repeat (first|refine ybn ?_ _|refine ybd ?_|refine yba ?_ _));exact BK489.out))⟩;replace HB:Aside0 (Below w.heap.size w w30):=⟨(by rw [hw];exact yhb)⟩;clear hw;have hnb31:=NB487_482.out;have hnc31:=NB482_487.out;have hnb32:=NB487_483.out;have hnc32:=NB483_487.out;obtain ⟨hcz33_0,hcz33_1,hcz33_2,hfz33_0,hfz33_1,hfz33_2⟩:=ybc BK487.out;obtain ⟨hcz34_0,hcz34_1,hcz34_2,hfz34_0,hfz34_1,hfz34_2⟩:=ybc BK489.out)|((with_reducible refine gate_builtin (b:= .append) (xs:= #[.tmp 24,.tmp 26]) rfl ?_);at_builtin;refine Kd.S_append k73 (w0:=w) w.heap.size rfl (.tmp 24) (.tmp 26) 35 73 (.agg #[(.int .i64 0),(.slice none 0 0),(.int .i64 0)]) 40 rfl Try.underlying35 info73 rfl (by decide) (by omega) u488002 x488002_1 (⟨(rd_T73 l0_2 x15_1).f0,t490,(rd_T73 l0_2 x15_1).f2⟩:S73) [.int .i64 ((rd_T73 l0_2 x15_1).f0),.slice Ao28 t490.length co28,.int .i64 ((rd_T73 l0_2 x15_1).f2)] (fun k_=>some k_≠(.slice Ao10 t484.length co10:Value).ownBlock∧k_≠gb489) (fun k_=>some k_=(.slice Ao28 t490.length co28:Value).ownBlock) rfl rfl ?aP (fun k_ hk_=>((Kd.R_mono (ok':=fun k_=>((fun k_=>some k_≠(.slice Ao10 t484.length co10:Value).ownBlock∧k_≠gb489)) k_∧some k_≠(u488002:Value).ownBlock) (Kd.R_types (Kd.R_apart' (HO492.out) (Kd.S_typed HO_488002.out) (by decide)) BK489.out (by decide)) (fun k_ hk=>⟨⟨hk.1.1,hk.2⟩,hk.1.2⟩))).1 k_ hk_.symm) ?aF ?aO ?aB ?aS ?aL ?_;(case aP=>exact k73_mkM _ _ _ (⟨(rd_T73 l0_2 x15_1).f0,t490,(rd_T73 l0_2 x15_1).f2⟩:S73) (Kd.R_mono (Kd.R_tight rfl (Kd.R_mono (ok':=fun k_=>((fun k_=>some k_≠(.slice Ao10 t484.length co10:Value).ownBlock∧k_≠gb489)) k_∧some k_≠(u488002:Value).ownBlock) (Kd.R_types (Kd.R_apart' (HO492.out) (Kd.S_typed HO_488002.out) (by decide)) BK489.out (by decide)) (fun k_ hk=>⟨⟨hk.1.1,hk.2⟩,hk.1.2⟩))) (fun _ h_=>h_)));(case aB=>exact yhb);(case aF=>exact (fun k_ hk=>⟨Kd.fresh' (Kd.R_lt (Kd.Yz HO_488001.out)) k_ hk,Kd.freshB (g:=gb489) (o:= .cells #[.int .i64 ((rd_T73 l0_2 x15_1).f0),.slice Ao28 t490.length co28,.int .i64 ((rd_T73 l0_2 x15_1).f2)] 73 (0,0)) (ybz BK489.out) k_ hk⟩));(case aO=>exact (by (with_reducible repeat (first|apply Kd.S_alloc|apply Kd.S_drewN|apply Kd.S_drew));exact Kd.S_mono HO_488002.out (fun k_ hk=>⟨⟨hk.1,hk.2.2⟩,fun e_=>hk.2.1 e_⟩)));(case aS=>exact (below_size yhb));(case aL=>have:=LMc21.out;omega);intro v494 w35 ho hb hg hat;rw [← Ny493.out] at ho;replace HO_488001:=yam (Kd.R_over' (Kd.Yz HO_488001.out) (Kd.S_typed (by (with_reducible repeat (first|apply Kd.S_alloc|apply Kd.S_drewN|apply Kd.S_drew));exact HO_488002.out)) (by decide) hg);replace BK482:=yam (blk_grown (g:=gb482) (o:= .cells #[.int .i64 a0_0,.slice A0_1 l0_1.length c0_1,.slice (some ad488) l0_2.length c0_2] 37 (0,0)) (ybz BK482.out) hg (Kd.S_ne HO_488002.out BK482.out (by decide)));replace BK483:=yam (blk_grown (g:=gb483) (o:= .cells #[.int .i64 0,.slice none 0 0,.slice none 0 0] 37 (0,0)) (ybz BK483.out) hg (Kd.S_ne HO_488002.out BK483.out (by decide)));replace BK487:=yam (blk_grown (g:=gb487) (o:= .cells #[.int .i64 a0_0,.slice Ao10 t484.length co10,u488002] 37 (0,0)) (ybz BK487.out) hg (Kd.S_ne HO_488002.out BK487.out (by decide)));replace BK489:=yam (blk_grown (g:=gb489) (o:= .cells #[.int .i64 ((rd_T73 l0_2 x15_1).f0),.slice Ao28 t490.length co28,.int .i64 ((rd_T73 l0_2 x15_1).f2)] 73 (0,0)) (ybz BK489.out) hg (Kd.S_away HO_488002.out (fun _ hk=>hk.2.2)));replace HB:=yam (hb);have HO495:=yam (ho);clear HO_488002 HO492;clear ho hb hg hat;obtain ⟨Ao36,co36,eo36⟩:=Kd.S_slice HO495.out;subst eo36;obtain ⟨hcz37_0,hcz37_1,hcz37_2,hfz37_0,hfz37_1,hfz37_2⟩:=ybc BK487.out))
  go_roundg k1
  case measure=>have:=HK1.out;omega
  case rel=>exact ⟨(wrap64 (x15_1 + 1)),(y493),(.slice Ao36 y493.length co36),yeq,H,⟨by have:=HK1.out;omega⟩,⟨by (with_reducible repeat (first|apply Kd.Ya|apply Kd.Yn|apply Kd.Yd));exact Kd.R_mono (Kd.R_far (p:=⟨gb487,2,none⟩) (Kd.R_types HO_488001.out BK487.out (by decide)) (fun _ hk=>hk.2) (.slice Ao36 y493.length co36)) (fun _ hk=>trivial)⟩,⟨by (with_reducible repeat (first|apply Kd.S_alloc|apply Kd.S_drewN|apply Kd.S_drew));exact Kd.S_mono (Kd.S_far (p:=⟨gb487,2,none⟩) (Kd.S_types HO495.out BK487.out (by decide)) (fun _ hk=>hk.2) (.slice Ao36 y493.length co36)) (fun _ hk=>hk.1.1)⟩,⟨by (with_reducible repeat (first|refine ybn ?_ _|refine ybd ?_|refine yba ?_ _));refine blk_far ?_ NB482_487.out _;(with_reducible repeat (first|refine ybn ?_ _|refine ybd ?_|refine yba ?_ _));exact BK482.out⟩,⟨by (with_reducible repeat (first|refine ybn ?_ _|refine ybd ?_|refine yba ?_ _));refine blk_far ?_ NB483_487.out _;(with_reducible repeat (first|refine ybn ?_ _|refine ybd ?_|refine yba ?_ _));exact BK483.out⟩,⟨by (with_reducible repeat (first|refine ybn ?_ _|refine ybd ?_|refine yba ?_ _));refine blk_put (cs:= #[.int .i64 a0_0,.slice Ao10 t484.length co10,u488002]) ?_ 2 _ rfl;(with_reducible repeat (first|refine ybn ?_ _|refine ybd ?_|refine yba ?_ _));exact BK487.out⟩,⟨yhb⟩⟩
def impl_sizeOk.f (a0:Int):Option (Bool):=if a0 ≥ 2 then (some (decide (a0≤4))) else (some false)
theorem impl_sizeOk.calls (a0:Int)(r:Bool)(w:World)(h:impl_sizeOk.f a0=some r) :
  Calls Try.prog 44 #[.int .i64 a0] w fun e w'=>e= .returned (.bool r)∧Drawn0 w w':=by
 unfold impl_sizeOk.f at h
 have H:=h
 clear h
 replace H:=yis H;obtain ⟨c2b0,H⟩ | ⟨c2b0,H⟩:=H
 ·obtain rfl:=ysi H
  go_enter Try.func44,Try.ntmps44
  go_wp2
  go_ret
  exact ⟨yeq,by repeat (first|exact Drawn0.refl _|apply Drawn0.step)⟩
 obtain rfl:=ysi H
 go_enter Try.func44,Try.ntmps44
 go_wp2
 go_ret
 exact ⟨yeq,by repeat (first|exact Drawn0.refl _|apply Drawn0.step)⟩
mutual
def impl_GridValid.j0:Nat→List Int→Int→Bool→Option (Bool)
 | 0,_,_,_=>none
 | k + 1,x0,x1,x17=>if x17=true then (some false) else (impl_GridValid.l0 k x1 x0 (x0.length:Int) 0)
def impl_GridValid.l0:Nat→Int→List Int→Int→Int→Option (Bool)
 | 0,_,_,_,_=>none
 | k + 1,x1,x18,x19,x20=>if x20 < x19 then (if 0≤x20 then (if x20 < (x18.length:Int) then (if (rd x18 x20) < 0 then (some false) else (if (rd x18 x20) > x1 then (some false) else (impl_GridValid.l0 k x1 x18 x19 (wrap64 (x20 + 1))))) else (none)) else (none)) else (some true)
end
def impl_GridValid.f (k:Nat)(l0:List Int)(a1:Int):Option (Bool):=(impl_sizeOk.f a1).bind fun t129=>(if t129=true then (impl_GridValid.j0 k l0 a1 ((l0.length:Int) != (wrap64 (a1 * a1)))) else (impl_GridValid.j0 k l0 a1 true))
theorem impl_GridValid.calls (k:Nat)(A0:Option Addr)(c0:Nat)(l0:List Int)(a1:Int)(r:Bool)(w:World)(hr0:Kd.C (Kd.int .i64) w A0 l0.length l0)(hc0:l0.length≤c0)(h:impl_GridValid.f k l0 a1=some r) :
  Calls Try.prog 76 #[.slice A0 l0.length c0,.int .i64 a1] w fun e w'=>e= .returned (.bool r)∧Drawn0 w w':=by
 have HR0:=yam hr0
 have HC0:=yam hc0
 clear hr0 hc0
 unfold impl_GridValid.f at h
 have H:=h
 clear h
 have HC3:=yam H
 clear H
 go_enter Try.func76,Try.ntmps76
 go_upto_region 1 with (fail)
 go_cut [17] (fun v17 wc=>∃ (kq:Nat) (x17_2:Bool),v17= .bool x17_2∧Aside0 (impl_GridValid.j0 kq l0 a1 x17_2=some r)∧Aside0 (kq≤k)∧Drawn0 w wc)
 case first =>
  have H:=HC3.out
  clear HC3
  replace H:=ybi H;obtain ⟨t129,A4,H⟩:=H
  try dsimp only at H
  cases t129
  rotate_left
  ·replace H:=ytt H
   replace H:=yam H
   go_wp2_with (first|(refine goesL_ (some 8) rfl rfl Try.func44 (by kernel_rfl) rfl #[.int .i64 a1] rfl ymd ?_;(with_reducible refine (impl_sizeOk.calls a1 true _ A4.out).mono ?_);rintro e w' ⟨rfl,⟨nd,rfl⟩⟩;refine ⟨_,rfl,?_⟩))
   go_meet
   case rel=>exact ⟨_,(((l0.length:Int) != (wrap64 (a1 * a1)))),yeq,H,⟨by first|omega|exact Nat.le_refl _⟩,by repeat (first|exact Drawn0.refl _|apply Drawn0.step)⟩
  replace H:=yff H
  replace H:=yam H
  go_wp2_with (first|(refine goesL_ (some 8) rfl rfl Try.func44 (by kernel_rfl) rfl #[.int .i64 a1] rfl ymd ?_;(with_reducible refine (impl_sizeOk.calls a1 false _ A4.out).mono ?_);rintro e w' ⟨rfl,⟨nd,rfl⟩⟩;refine ⟨_,rfl,?_⟩))
  go_meet
  case rel=>exact ⟨_,(true),yeq,H,⟨by first|omega|exact Nat.le_refl _⟩,by repeat (first|exact Drawn0.refl _|apply Drawn0.step)⟩
 case rest =>
  clear HC3
  obtain ⟨kq,x17_2,rfl,HA,HJ2,⟨mc2,rfl⟩⟩:=hcut
  rcases kq with _|kj2
  ·exact absurd HA.out (by simp [impl_GridValid.j0])
  obtain ⟨H⟩:=HA
  simp only [impl_GridValid.j0] at H
  cases x17_2
  rotate_left
  ·replace H:=ytt H
   obtain rfl:=ysi H
   go_wp2
   go_ret
   exact ⟨yeq,by repeat (first|exact Drawn0.refl _|apply Drawn0.step)⟩
  replace H:=yff H
  replace H:=yam H
  go_wp2
  go_loopg [20] kj2 (fun kq v20 w'=>∃ (x20_2:Int),v20= .int .i64 x20_2∧Aside0 (impl_GridValid.l0 kq a1 l0 (l0.length:Int) x20_2=some r)∧Aside0 (kq≤kj2)∧Drawn0 w w')
  case atStart=>exact ⟨(0),yeq,H,⟨Nat.le_refl _⟩,by repeat (first|exact Drawn0.refl _|apply Drawn0.step)⟩
  case round =>
   clear H
   obtain ⟨x20_2,rfl,HA,HK2,⟨m2,rfl⟩⟩:=hrel
   rcases gk with _|k2
   ·exact absurd HA.out (by simp [impl_GridValid.l0])
   obtain ⟨H⟩:=HA
   simp only [impl_GridValid.l0] at H
   replace H:=yis H;obtain ⟨c7b0,H⟩ | ⟨c7b0,H⟩:=H
   rotate_left
   ·obtain rfl:=ysi H
    go_wp2
    go_ret
    exact ⟨yeq,by repeat (first|exact Drawn0.refl _|apply Drawn0.step)⟩
   replace H:=yif H;obtain ⟨c8b0,H⟩:=H
   replace H:=yif H;obtain ⟨c9b0,H⟩:=H
   replace H:=yis H;obtain ⟨c10b0,H⟩ | ⟨c10b0,H⟩:=H
   ·obtain rfl:=ysi H
    obtain ⟨ad130,e130,hx130_0,p130,q130⟩:=yat HR0.out x20_2
    cases e130
    go_wp2
    go_ret
    exact ⟨yeq,by repeat (first|exact Drawn0.refl _|apply Drawn0.step)⟩
   replace H:=yis H;obtain ⟨c11b0,H⟩ | ⟨c11b0,H⟩:=H
   ·obtain rfl:=ysi H
    obtain ⟨ad130,e130,hx130_0,p130,q130⟩:=yat HR0.out x20_2
    cases e130
    go_wp2
    go_ret
    exact ⟨yeq,by repeat (first|exact Drawn0.refl _|apply Drawn0.step)⟩
   replace H:=yam H
   obtain ⟨ad130,e130,hx130_0,p130,q130⟩:=yat HR0.out x20_2
   cases e130
   go_wp2
   go_roundg k2
   case measure=>have:=HJ2.out;have:=HK2.out;omega
   case rel=>exact ⟨(wrap64 (x20_2 + 1)),yeq,H,⟨by have:=HJ2.out;have:=HK2.out;omega⟩,by repeat (first|exact Drawn0.refl _|apply Drawn0.step)⟩
def slices_Index_int_int.l0:Nat→List Int→Int→Int→Int→Option (Int)
 | 0,_,_,_,_=>none
 | k + 1,x0,x1,x7,x8=>if x8 < x7 then (if 0≤x8 then (if x8 < (x0.length:Int) then (if x1=(rd x0 x8) then (some x8) else (slices_Index_int_int.l0 k x0 x1 x7 (wrap64 (x8 + 1)))) else (none)) else (none)) else (some (-1))
def slices_Index_int_int.f (k:Nat)(l0:List Int)(a1:Int):Option (Int):=slices_Index_int_int.l0 k l0 a1 (l0.length:Int) 0
theorem slices_Index_int_int.calls (k:Nat)(A0:Option Addr)(c0:Nat)(l0:List Int)(a1:Int)(r:Int)(w:World)(hr0:Kd.C (Kd.int .i64) w A0 l0.length l0)(hc0:l0.length≤c0)(h:slices_Index_int_int.f k l0 a1=some r) :
  Calls Try.prog 93 #[.slice A0 l0.length c0,.int .i64 a1] w fun e w'=>e= .returned (.int .i64 r)∧Drawn0 w w':=by
 have HR0:=yam hr0
 have HC0:=yam hc0
 clear hr0 hc0
 unfold slices_Index_int_int.f at h
 have H:=h
 clear h
 replace H:=yam H
 go_enter Try.func93,Try.ntmps93
 go_wp2
 go_loopg [8] k (fun kq v8 w'=>∃ (x8_1:Int),v8= .int .i64 x8_1∧Aside0 (slices_Index_int_int.l0 kq l0 a1 (l0.length:Int) x8_1=some r)∧Aside0 (kq≤k)∧Drawn0 w w')
 case atStart=>exact ⟨(0),yeq,H,⟨Nat.le_refl _⟩,by repeat (first|exact Drawn0.refl _|apply Drawn0.step)⟩
 case round =>
  clear H
  obtain ⟨x8_1,rfl,HA,HK1,⟨m1,rfl⟩⟩:=hrel
  rcases gk with _|k1
  ·exact absurd HA.out (by simp [slices_Index_int_int.l0])
  obtain ⟨H⟩:=HA
  simp only [slices_Index_int_int.l0] at H
  replace H:=yis H;obtain ⟨c3b0,H⟩ | ⟨c3b0,H⟩:=H
  rotate_left
  ·obtain rfl:=ysi H
   go_wp2
   go_ret
   exact ⟨yeq,by repeat (first|exact Drawn0.refl _|apply Drawn0.step)⟩
  replace H:=yif H;obtain ⟨c4b0,H⟩:=H
  replace H:=yif H;obtain ⟨c5b0,H⟩:=H
  replace H:=yit H;obtain ⟨c6,H⟩ | ⟨c6,H⟩:=H
  ·have c6b0:(a1 == (rd l0 x8_1))=true:=beq_iff_eq.mpr c6
   have c6b1:(a1 != (rd l0 x8_1))=false:=bne_eq_false_iff_eq.mpr c6
   clear c6
   obtain rfl:=ysi H
   obtain ⟨ad141,e141,hx141_0,p141,q141⟩:=yat HR0.out x8_1
   cases e141
   go_wp2
   go_ret
   exact ⟨yeq,by repeat (first|exact Drawn0.refl _|apply Drawn0.step)⟩
  have c6b0:(a1 == (rd l0 x8_1))=false:=beq_eq_false_iff_ne.mpr c6
  have c6b1:(a1 != (rd l0 x8_1))=true:=bne_iff_ne.mpr c6
  replace H:=yam H
  obtain ⟨ad141,e141,hx141_0,p141,q141⟩:=yat HR0.out x8_1
  cases e141
  go_wp2
  go_roundg k1
  case measure=>have:=HK1.out;omega
  case rel=>exact ⟨(wrap64 (x8_1 + 1)),yeq,H,⟨by have:=HK1.out;omega⟩,by repeat (first|exact Drawn0.refl _|apply Drawn0.step)⟩
def slices_Contains_int_int.f (k:Nat)(l0:List Int)(a1:Int):Option (Bool):=(slices_Index_int_int.f k l0 a1).bind fun t142=>(some (decide (t142 ≥ 0)))
theorem slices_Contains_int_int.calls (k:Nat)(A0:Option Addr)(c0:Nat)(l0:List Int)(a1:Int)(r:Bool)(w:World)(hr0:Kd.C (Kd.int .i64) w A0 l0.length l0)(hc0:l0.length≤c0)(h:slices_Contains_int_int.f k l0 a1=some r) :
  Calls Try.prog 89 #[.slice A0 l0.length c0,.int .i64 a1] w fun e w'=>e= .returned (.bool r)∧Drawn0 w w':=by
 have HR0:=yam hr0
 have HC0:=yam hc0
 clear hr0 hc0
 unfold slices_Contains_int_int.f at h
 have H:=h
 clear h
 replace H:=ybi H;obtain ⟨t142,A3,H⟩:=H
 try dsimp only at H
 obtain rfl:=ysi H
 go_enter Try.func89,Try.ntmps89
 go_wp2_with (first|(refine goesL_ (some 7) rfl rfl Try.func93 (by kernel_rfl) rfl #[.slice A0 l0.length c0,.int .i64 a1] rfl ymd ?_;(with_reducible refine (slices_Index_int_int.calls k _ _ l0 a1 t142 _ ?_ ?_ A3.out).mono ?_);exact Kd.Cz (HR0.out);exact HC0.out;rintro e w' ⟨rfl,⟨nd,rfl⟩⟩;refine ⟨_,rfl,?_⟩))
 go_ret
 exact ⟨yeq,by repeat (first|exact Drawn0.refl _|apply Drawn0.step)⟩
mutual
def impl_RuleValid.l0:Nat→Int→List Int→Int→Int→Int→List Int→Int→Option (Bool)
 | 0,_,_,_,_,_,_,_=>none
 | k + 1,x1,x12,x13,x14,x144000,x144001,x144002=>if x14 < x13 then (if 0≤x14 then (if x14 < (x12.length:Int) then (if (rd x12 x14) < 0 then (some false) else (if (rd x12 x14) ≥ (wrap64 (x1 * x1)) then (some false) else (if x14≤(x144001.length:Int) then ((slices_Contains_int_int.f k (x144001.take (x14:Int).toNat) (rd x12 x14)).bind fun t147=>(if t147=true then (some false) else (impl_RuleValid.l0 k x1 x12 x13 (wrap64 (x14 + 1)) x144000 x144001 x144002))) else (none)))) else (none)) else (none)) else (if x144000=1 then (if (x144001.length:Int) ≥ 2 then (if (x144001.length:Int)≤4 then (some (x144002 == 0)) else (some false)) else (some false)) else (if x144000=2 then (impl_RuleValid.j1 k x1 (x144001.length:Int) x144000 (x144000 == 2) x144000 x144001 x144002) else (impl_RuleValid.j1 k x1 (x144001.length:Int) x144000 (x144000 == 3) x144000 x144001 x144002)))
def impl_RuleValid.j1:Nat→Int→Int→Int→Bool→Int→List Int→Int→Option (Bool)
 | 0,_,_,_,_,_,_,_=>none
 | k + 1,x1,x7,x41,x55,x144000,x144001,x144002=>if x55=true then (if x7 ≥ 1 then (if x7≤4 then (if x144002 ≥ 1 then (some (decide (x144002≤(wrap64 ((wrap64 ((wrap64 (x1 * x1)) * x1)) * x1))))) else (some false)) else (some false)) else (some false)) else (if x41=4 then (if x7=2 then (some (x144002 == 0)) else (some false)) else (if x41=5 then (if x7=2 then (if x144002 ≥ 0 then (some (decide (x144002 < x1))) else (some false)) else (some false)) else (some false)))
end
def impl_RuleValid.f (k:Nat)(a0_0:Int)(l0_1:List Int)(a0_2:Int)(a1:Int):Option (Bool):=(impl_sizeOk.f a1).bind fun t144=>(if t144=true then (impl_RuleValid.l0 k a1 l0_1 (l0_1.length:Int) 0 a0_0 l0_1 a0_2) else (some false))
theorem impl_RuleValid.calls (k:Nat)(a0_0:Int)(A0_1:Option Addr)(c0_1:Nat)(l0_1:List Int)(a0_2:Int)(a1:Int)(r:Bool)(w:World)(hr0_1:Kd.C (Kd.int .i64) w A0_1 l0_1.length l0_1)(hc0_1:l0_1.length≤c0_1)(h:impl_RuleValid.f k a0_0 l0_1 a0_2 a1=some r) :
  Calls Try.prog 81 #[.agg #[.int .i64 a0_0,.slice A0_1 l0_1.length c0_1,.int .i64 a0_2],.int .i64 a1] w fun e w'=>e= .returned (.bool r)∧Below w.heap.size w w':=by
 have hu73:=Try.underlying73
 have HR0_1:=yam hr0_1
 have HC0_1:=yam hc0_1
 clear hr0_1 hc0_1
 have HB:=yam (Below.refl w.heap.size w)
 unfold impl_RuleValid.f at h
 have H:=h
 clear h
 replace H:=ybi H;obtain ⟨t144,A3,H⟩:=H
 try dsimp only at H
 cases t144
 ·replace H:=yff H
  obtain rfl:=ysi H
  go_enter Try.func81,Try.ntmps81
  go_wp2_with (first|(refine ybe 2 #[.int .i64 a0_0,.slice A0_1 l0_1.length c0_1,.int .i64 a0_2] 73 ?_;intro gb143 hg w43 hbox hb;have BK143:=yam (hbox);have GW143:=yam ((by rw [hg];exact (below_size (yez HB.out)):w.heap.size≤gb143));replace HB:=yam (below_step (yez HB.out) hb);have GE143:=GW143;clear hb hbox hg)|(refine goesL_ (some 9) rfl rfl Try.func44 (by kernel_rfl) rfl #[.int .i64 a1] rfl ymd ?_;(with_reducible refine (impl_sizeOk.calls a1 false _ A3.out).mono ?_);rintro e w' ⟨rfl,⟨nd,rfl⟩⟩;refine ⟨_,rfl,?_⟩))
  go_ret
  exact ⟨yer,yhb⟩
 replace H:=ytt H
 replace H:=yam H
 go_enter Try.func81,Try.ntmps81
 go_wp2_with (first|(refine ybe 2 #[.int .i64 a0_0,.slice A0_1 l0_1.length c0_1,.int .i64 a0_2] 73 ?_;intro gb143 hg w5 hbox hb;have BK143:=yam (hbox);have GW143:=yam ((by rw [hg];exact (below_size (yez HB.out)):w.heap.size≤gb143));replace HB:=yam (below_step (yez HB.out) hb);have GE143:=GW143;clear hb hbox hg)|(refine goesL_ (some 9) rfl rfl Try.func44 (by kernel_rfl) rfl #[.int .i64 a1] rfl ymd ?_;(with_reducible refine (impl_sizeOk.calls a1 true _ A3.out).mono ?_);rintro e w' ⟨rfl,⟨nd,rfl⟩⟩;refine ⟨_,rfl,?_⟩;obtain ⟨hcz6_0,hcz6_1,hcz6_2,hfz6_0,hfz6_1,hfz6_2⟩:=ybc BK143.out))
 go_loopg [14] k (fun kq v14 w'=>∃ (x14_1:Int),v14= .int .i64 x14_1∧Aside0 (impl_RuleValid.l0 kq a1 l0_1 (l0_1.length:Int) x14_1 a0_0 l0_1 a0_2=some r)∧Aside0 (kq≤k)∧Aside0 (w'.heap[gb143]?=some (.cells #[.int .i64 a0_0,(.slice A0_1 l0_1.length c0_1),.int .i64 a0_2] 73 (0,0)))∧Aside0 (Below w.heap.size w w'))
 case atStart=>exact ⟨(0),yeq,H,⟨Nat.le_refl _⟩,⟨ybk BK143.out⟩,⟨yhb⟩⟩
 case round =>
  clear H
  try clear hcz6_0
  try clear hcz6_1
  try clear hcz6_2
  try clear hfz6_0
  try clear hfz6_1
  try clear hfz6_2
  obtain ⟨x14_1,rfl,HA,HK1,BK143,HB⟩:=hrel
  rcases gk with _|k1
  ·exact absurd HA.out (by simp [impl_RuleValid.l0])
  obtain ⟨H⟩:=HA
  simp only [impl_RuleValid.l0] at H
  replace H:=yis H;obtain ⟨c7b0,H⟩ | ⟨c7b0,H⟩:=H
  ·replace H:=yif H;obtain ⟨c8b0,H⟩:=H
   replace H:=yif H;obtain ⟨c9b0,H⟩:=H
   replace H:=yis H;obtain ⟨c10b0,H⟩ | ⟨c10b0,H⟩:=H
   ·obtain rfl:=ysi H
    obtain ⟨ad145,e145,hx145_0,p145,q145⟩:=yat HR0_1.out x14_1
    cases e145
    replace hx145_0:=ybx HB.out hx145_0
    go_wp2
    go_ret
    exact ⟨yer,yhb⟩
   replace H:=yis H;obtain ⟨c11b0,H⟩ | ⟨c11b0,H⟩:=H
   ·obtain rfl:=ysi H
    obtain ⟨ad145,e145,hx145_0,p145,q145⟩:=yat HR0_1.out x14_1
    cases e145
    replace hx145_0:=ybx HB.out hx145_0
    go_wp2
    go_ret
    exact ⟨yer,yhb⟩
   have c12b0:=eq_true (ydt:0≤x14_1)
   replace H:=yig H;obtain ⟨c13,H⟩:=H
   have c13b0:=eq_true c13
   have c13b1:decide (x14_1≤(l0_1.length:Int))=true:=decide_eq_true c13
   clear c13
   replace H:=ybi H;obtain ⟨t147,A14,H⟩:=H
   try dsimp only at H
   cases t147
   rotate_left
   ·replace H:=ytt H
    obtain rfl:=ysi H
    obtain ⟨ad145,e145,hx145_0,p145,q145⟩:=yat HR0_1.out x14_1
    cases e145
    replace hx145_0:=ybx HB.out hx145_0
    obtain ⟨hcz16_0,hcz16_1,hcz16_2,hfz16_0,hfz16_1,hfz16_2⟩:=ybc BK143.out
    obtain ⟨i017,hi017,_,hsz17,_⟩:=info_parts info3
    obtain ⟨hcut17,hA17,hC17⟩:=print_take_of (P:=Try.prog) (Value.int .i64) 0 22 3 .i64 Try.underlying22 hi017 hsz17 (some ad145) c0_1 l0_1 x14_1 (ydt) (ydt) HC0_1.out
    have hl17_:(l0_1.take (x14_1:Int).toNat).length=(x14_1:Int).toNat:=by
     have e0_:0≤(x14_1:Int):=ydt
     have e1_:(x14_1:Int)≤(l0_1.length:Int):=ydt
     rw [List.length_take];omega
    have HR146:=yam (Kd.C_of_reads (h1:=fun _=>rfl) (hA17 _ (Kd.reads_of_C HR0_1.out)))
    have HC146:=yam hC17
    clear hA17 hC17 hi017 hsz17
    go_wp2_with (first|(go_at_call 89;(first|(with_reducible refine (slices_Contains_int_int.calls k1 _ _ (l0_1.take (x14_1:Int).toNat) (rd l0_1 x14_1) true _ ?side1 ?side2 A14.out).mono ?_)|(rw [← hl17_];(with_reducible refine (slices_Contains_int_int.calls k1 _ _ (l0_1.take (x14_1:Int).toNat) (rd l0_1 x14_1) true _ ?_ ?_ A14.out).mono ?_)));exact Kd.Cz ((Kd.C_below HR146.out HB.out));exact HC146.out;rintro e w' ⟨rfl,⟨nd,rfl⟩⟩))
    go_ret
    exact ⟨yer,yhb⟩
   replace H:=yff H
   replace H:=yam H
   obtain ⟨ad145,e145,hx145_0,p145,q145⟩:=yat HR0_1.out x14_1
   cases e145
   replace hx145_0:=ybx HB.out hx145_0
   obtain ⟨hcz18_0,hcz18_1,hcz18_2,hfz18_0,hfz18_1,hfz18_2⟩:=ybc BK143.out
   obtain ⟨i019,hi019,_,hsz19,_⟩:=info_parts info3
   obtain ⟨hcut19,hA19,hC19⟩:=print_take_of (P:=Try.prog) (Value.int .i64) 0 22 3 .i64 Try.underlying22 hi019 hsz19 (some ad145) c0_1 l0_1 x14_1 (ydt) (ydt) HC0_1.out
   have hl19_:(l0_1.take (x14_1:Int).toNat).length=(x14_1:Int).toNat:=by
    have e0_:0≤(x14_1:Int):=ydt
    have e1_:(x14_1:Int)≤(l0_1.length:Int):=ydt
    rw [List.length_take];omega
   have HR146:=yam (Kd.C_of_reads (h1:=fun _=>rfl) (hA19 _ (Kd.reads_of_C HR0_1.out)))
   have HC146:=yam hC19
   clear hA19 hC19 hi019 hsz19
   go_wp2_with (first|(go_at_call 89;(first|(with_reducible refine (slices_Contains_int_int.calls k1 _ _ (l0_1.take (x14_1:Int).toNat) (rd l0_1 x14_1) false _ ?side1 ?side2 A14.out).mono ?_)|(rw [← hl19_];(with_reducible refine (slices_Contains_int_int.calls k1 _ _ (l0_1.take (x14_1:Int).toNat) (rd l0_1 x14_1) false _ ?_ ?_ A14.out).mono ?_)));exact Kd.Cz ((Kd.C_below HR146.out HB.out));exact HC146.out;rintro e w' ⟨rfl,⟨nd,rfl⟩⟩))
   go_roundg k1
   case measure=>have:=HK1.out;omega
   case rel=>exact ⟨(wrap64 (x14_1 + 1)),yeq,H,⟨by have:=HK1.out;omega⟩,⟨ybk BK143.out⟩,⟨yhb⟩⟩
  replace H:=yit H;obtain ⟨c20,H⟩ | ⟨c20,H⟩:=H
  ·have c20b0:(a0_0 == 1)=true:=beq_iff_eq.mpr c20
   have c20b1:(a0_0 != 1)=false:=bne_eq_false_iff_eq.mpr c20
   clear c20
   replace H:=yit H;obtain ⟨c21,H⟩ | ⟨c21,H⟩:=H
   rotate_left
   ·have c21b0:decide (2≤(l0_1.length:Int))=false:=decide_eq_false c21
    have c21b1:decide (2≤l0_1.length)=false:=decide_eq_false (by omega)
    clear c21
    obtain rfl:=ysi H
    obtain ⟨hcz25_0,hcz25_1,hcz25_2,hfz25_0,hfz25_1,hfz25_2⟩:=ybc BK143.out
    go_wp2
    go_ret
    exact ⟨yer,yhb⟩
   have c21b0:decide (2≤(l0_1.length:Int))=true:=decide_eq_true c21
   have c21b1:decide (2≤l0_1.length)=true:=decide_eq_true (by omega)
   clear c21
   replace H:=yit H;obtain ⟨c22,H⟩ | ⟨c22,H⟩:=H
   ·have c22b0:decide ((l0_1.length:Int)≤4)=true:=decide_eq_true c22
    have c22b1:decide (l0_1.length≤4)=true:=decide_eq_true (by omega)
    clear c22
    obtain rfl:=ysi H
    obtain ⟨hcz23_0,hcz23_1,hcz23_2,hfz23_0,hfz23_1,hfz23_2⟩:=ybc BK143.out
    go_wp2
    go_ret
    exact ⟨yer,yhb⟩
   have c22b0:decide ((l0_1.length:Int)≤4)=false:=decide_eq_false c22
   have c22b1:decide (l0_1.length≤4)=false:=decide_eq_false (by omega)
   clear c22
   obtain rfl:=ysi H
   obtain ⟨hcz24_0,hcz24_1,hcz24_2,hfz24_0,hfz24_1,hfz24_2⟩:=ybc BK143.out
   go_wp2
   go_ret
   exact ⟨yer,yhb⟩
  have c20b0:(a0_0 == 1)=false:=beq_eq_false_iff_ne.mpr c20
  have c20b1:(a0_0 != 1)=true:=bne_iff_ne.mpr c20
  have HC26:=yam H
  clear H
  obtain ⟨hcz27_0,hcz27_1,hcz27_2,hfz27_0,hfz27_1,hfz27_2⟩:=ybc BK143.out
  go_upto_if 55 with (fail)
  go_cut [55] (fun v55 wc=>∃ (kq:Nat) (x55_25:Bool),v55= .bool x55_25∧Aside0 (impl_RuleValid.j1 kq a1 (l0_1.length:Int) a0_0 x55_25 a0_0 l0_1 a0_2=some r)∧Aside0 (kq≤k1)∧Aside0 (wc.heap[gb143]?=some (.cells #[.int .i64 a0_0,(.slice A0_1 l0_1.length c0_1),.int .i64 a0_2] 73 (0,0)))∧Aside0 (Below w.heap.size w wc))
  case first =>
   have H:=HC26.out
   clear HC26
   replace H:=yit H;obtain ⟨c28,H⟩ | ⟨c28,H⟩:=H
   rotate_left
   ·have c28b0:(a0_0 == 2)=false:=beq_eq_false_iff_ne.mpr c28
    have c28b1:(a0_0 != 2)=true:=bne_iff_ne.mpr c28
    (first|rw [c28b0]|(simp only [i64_w,i32_w];rw [c28b0])|skip)
    replace H:=yam H
    go_wp2
    go_meet
    case rel=>exact ⟨_,((a0_0 == 3)),yeq,H,⟨by have:=HK1.out;first|omega|exact Nat.le_refl _⟩,⟨ybk BK143.out⟩,⟨yhb⟩⟩
   have c28b0:(a0_0 == 2)=true:=beq_iff_eq.mpr c28
   have c28b1:(a0_0 != 2)=false:=bne_eq_false_iff_eq.mpr c28
   clear c28
   (first|rw [c28b0]|(simp only [i64_w,i32_w];rw [c28b0])|skip)
   replace H:=yam H
   go_wp2
   go_meet
   case rel=>exact ⟨_,((a0_0 == 2)),yeq,H,⟨by have:=HK1.out;first|omega|exact Nat.le_refl _⟩,⟨ybk BK143.out⟩,⟨yhb⟩⟩
  case rest =>
   clear HC26
   try clear c7b0
   try clear c20
   try clear c20b0
   try clear c20b1
   try clear hcz27_0
   try clear hcz27_1
   try clear hcz27_2
   try clear hfz27_0
   try clear hfz27_1
   try clear hfz27_2
   obtain ⟨kq,x55_25,rfl,HA,HJ25,BK143,HB⟩:=hcut
   rcases kq with _|kj25
   ·exact absurd HA.out (by simp [impl_RuleValid.j1])
   obtain ⟨H⟩:=HA
   simp only [impl_RuleValid.j1] at H
   cases x55_25
   rotate_left
   ·replace H:=ytt H
    replace H:=yit H;obtain ⟨c30,H⟩ | ⟨c30,H⟩:=H
    rotate_left
    ·have c30b0:decide (1≤(l0_1.length:Int))=false:=decide_eq_false c30
     have c30b1:decide (1≤l0_1.length)=false:=decide_eq_false (by omega)
     clear c30
     obtain rfl:=ysi H
     go_wp2
     go_ret
     exact ⟨yer,yhb⟩
    have c30b0:decide (1≤(l0_1.length:Int))=true:=decide_eq_true c30
    have c30b1:decide (1≤l0_1.length)=true:=decide_eq_true (by omega)
    clear c30
    replace H:=yit H;obtain ⟨c31,H⟩ | ⟨c31,H⟩:=H
    rotate_left
    ·have c31b0:decide ((l0_1.length:Int)≤4)=false:=decide_eq_false c31
     have c31b1:decide (l0_1.length≤4)=false:=decide_eq_false (by omega)
     clear c31
     obtain rfl:=ysi H
     go_wp2
     go_ret
     exact ⟨yer,yhb⟩
    have c31b0:decide ((l0_1.length:Int)≤4)=true:=decide_eq_true c31
    have c31b1:decide (l0_1.length≤4)=true:=decide_eq_true (by omega)
    clear c31
    replace H:=yis H;obtain ⟨c32b0,H⟩ | ⟨c32b0,H⟩:=H
    ·obtain rfl:=ysi H
     obtain ⟨hcz33_0,hcz33_1,hcz33_2,hfz33_0,hfz33_1,hfz33_2⟩:=ybc BK143.out
     go_wp2
     go_ret
     exact ⟨yer,yhb⟩
    obtain rfl:=ysi H
    obtain ⟨hcz34_0,hcz34_1,hcz34_2,hfz34_0,hfz34_1,hfz34_2⟩:=ybc BK143.out
    go_wp2
    go_ret
    exact ⟨yer,yhb⟩
   replace H:=yff H
   replace H:=yit H;obtain ⟨c35,H⟩ | ⟨c35,H⟩:=H
   ·have c35b0:(a0_0 == 4)=true:=beq_iff_eq.mpr c35
    have c35b1:(a0_0 != 4)=false:=bne_eq_false_iff_eq.mpr c35
    clear c35
    replace H:=yit H;obtain ⟨c36,H⟩ | ⟨c36,H⟩:=H
    rotate_left
    ·have c36b0:((l0_1.length:Int) == 2)=false:=beq_eq_false_iff_ne.mpr c36
     have c36b1:((l0_1.length:Int) != 2)=true:=bne_iff_ne.mpr c36
     obtain rfl:=ysi H
     go_wp2
     go_ret
     exact ⟨yer,yhb⟩
    have c36b0:((l0_1.length:Int) == 2)=true:=beq_iff_eq.mpr c36
    have c36b1:((l0_1.length:Int) != 2)=false:=bne_eq_false_iff_eq.mpr c36
    clear c36
    obtain rfl:=ysi H
    obtain ⟨hcz37_0,hcz37_1,hcz37_2,hfz37_0,hfz37_1,hfz37_2⟩:=ybc BK143.out
    go_wp2
    go_ret
    exact ⟨yer,yhb⟩
   have c35b0:(a0_0 == 4)=false:=beq_eq_false_iff_ne.mpr c35
   have c35b1:(a0_0 != 4)=true:=bne_iff_ne.mpr c35
   replace H:=yit H;obtain ⟨c38,H⟩ | ⟨c38,H⟩:=H
   rotate_left
   ·have c38b0:(a0_0 == 5)=false:=beq_eq_false_iff_ne.mpr c38
    have c38b1:(a0_0 != 5)=true:=bne_iff_ne.mpr c38
    obtain rfl:=ysi H
    go_wp2
    go_ret
    exact ⟨yer,yhb⟩
   have c38b0:(a0_0 == 5)=true:=beq_iff_eq.mpr c38
   have c38b1:(a0_0 != 5)=false:=bne_eq_false_iff_eq.mpr c38
   clear c38
   replace H:=yit H;obtain ⟨c39,H⟩ | ⟨c39,H⟩:=H
   rotate_left
   ·have c39b0:((l0_1.length:Int) == 2)=false:=beq_eq_false_iff_ne.mpr c39
    have c39b1:((l0_1.length:Int) != 2)=true:=bne_iff_ne.mpr c39
    obtain rfl:=ysi H
    go_wp2
    go_ret
    exact ⟨yer,yhb⟩
   have c39b0:((l0_1.length:Int) == 2)=true:=beq_iff_eq.mpr c39
   have c39b1:((l0_1.length:Int) != 2)=false:=bne_eq_false_iff_eq.mpr c39
   clear c39
   replace H:=yis H;obtain ⟨c40b0,H⟩ | ⟨c40b0,H⟩:=H
   ·obtain rfl:=ysi H
    obtain ⟨hcz41_0,hcz41_1,hcz41_2,hfz41_0,hfz41_1,hfz41_2⟩:=ybc BK143.out
    go_wp2
    go_ret
    exact ⟨yer,yhb⟩
   obtain rfl:=ysi H
   obtain ⟨hcz42_0,hcz42_1,hcz42_2,hfz42_0,hfz42_1,hfz42_2⟩:=ybc BK143.out
   go_wp2
   go_ret
   exact ⟨yer,yhb⟩
mutual
def impl_PuzzleValid.j0:Nat→Bool→Int→List Int→List (S73)→Option (Bool)
 | 0,_,_,_,_=>none
 | k + 1,x16,x149000,x149001,x149002=>if x16=true then (some false) else (impl_PuzzleValid.l0 k x149002 (x149002.length:Int) 0 x149000 x149001 x149002)
def impl_PuzzleValid.l0:Nat→List (S73)→Int→Int→Int→List Int→List (S73)→Option (Bool)
 | 0,_,_,_,_,_,_=>none
 | k + 1,x18,x19,x20,x149000,x149001,x149002=>if x20 < x19 then (if 0≤x20 then (if x20 < (x18.length:Int) then ((impl_RuleValid.f k ((rd_T73 x18 x20).f0) ((rd_T73 x18 x20).f1) ((rd_T73 x18 x20).f2) x149000).bind fun t152=>(if t152=true then (impl_PuzzleValid.l0 k x18 x19 (wrap64 (x20 + 1)) x149000 x149001 x149002) else (some false))) else (none)) else (none)) else (some true)
end
def impl_PuzzleValid.f (k:Nat)(a0_0:Int)(l0_1:List Int)(l0_2:List (S73)):Option (Bool):=(impl_GridValid.f k l0_1 a0_0).bind fun t149=>(if t149=true then (impl_PuzzleValid.j0 k (decide ((l0_2.length:Int) > 20)) a0_0 l0_1 l0_2) else (impl_PuzzleValid.j0 k true a0_0 l0_1 l0_2))
theorem impl_PuzzleValid.calls (k:Nat)(a0_0:Int)(A0_1:Option Addr)(c0_1:Nat)(l0_1:List Int)(A0_2:Option Addr)(c0_2:Nat)(l0_2:List (S73))(r:Bool)(w:World)(hr0_1:Kd.C (Kd.int .i64) w A0_1 l0_1.length l0_1)(hc0_1:l0_1.length≤c0_1)(hr0_2:Kd.C k73 w A0_2 l0_2.length l0_2)(hc0_2:l0_2.length≤c0_2)(h:impl_PuzzleValid.f k a0_0 l0_1 l0_2=some r) :
  Calls Try.prog 64 #[.agg #[.int .i64 a0_0,.slice A0_1 l0_1.length c0_1,.slice A0_2 l0_2.length c0_2]] w fun e w'=>e= .returned (.bool r)∧Below w.heap.size w w':=by
 have hu37:=Try.underlying37
 have hu73:=Try.underlying73
 have HR0_1:=yam hr0_1
 have HC0_1:=yam hc0_1
 clear hr0_1 hc0_1
 have HR0_2:=yam hr0_2
 have HC0_2:=yam hc0_2
 clear hr0_2 hc0_2
 have HB:=yam (Below.refl w.heap.size w)
 unfold impl_PuzzleValid.f at h
 have H:=h
 clear h
 have HC2:=yam H
 clear H
 go_enter Try.func64,Try.ntmps64
 go_upto_region 1 with (first|((with_reducible refine gate_dst (N:=1) rfl ?_);(try (refine gate_guard (by rfl) ?_;dsimp only));refine ybe 1 #[.int .i64 a0_0,.slice A0_1 l0_1.length c0_1,.slice A0_2 l0_2.length c0_2] 37 ?_;intro gb148 hg w3 hbox hb;have BK148:=yam (hbox);have GW148:=yam ((by rw [hg];exact (below_size (yez HB.out)):w.heap.size≤gb148));replace HB:=yam (below_step (yez HB.out) hb);have GE148:=GW148;clear hb hbox hg))
 (try simp only [Act.put,yps])
 go_cut [16] (fun v16 wc=>∃ (kq:Nat) (x16_1:Bool),v16= .bool x16_1∧Aside0 (impl_PuzzleValid.j0 kq x16_1 a0_0 l0_1 l0_2=some r)∧Aside0 (kq≤k)∧Aside0 (wc.heap[gb148]?=some (.cells #[.int .i64 a0_0,(.slice A0_1 l0_1.length c0_1),(.slice A0_2 l0_2.length c0_2)] 37 (0,0)))∧Aside0 (Below w.heap.size w wc))
 case first =>
  have H:=HC2.out
  clear HC2
  replace H:=ybi H;obtain ⟨t149,A4,H⟩:=H
  try dsimp only at H
  cases t149
  rotate_left
  ·replace H:=ytt H
   replace H:=yam H
   obtain ⟨hcz6_0,hcz6_1,hcz6_2,hfz6_0,hfz6_1,hfz6_2⟩:=ybc BK148.out
   go_wp2_with (first|(refine goesL_ (some 9) rfl rfl Try.func76 (by kernel_rfl) rfl #[.slice A0_1 l0_1.length c0_1,.int .i64 a0_0] rfl ymd ?_;(with_reducible refine (impl_GridValid.calls k _ _ l0_1 a0_0 true _ ?_ ?_ A4.out).mono ?_);exact Kd.Cz ((Kd.C_below HR0_1.out HB.out));exact HC0_1.out;rintro e w' ⟨rfl,⟨nd,rfl⟩⟩;refine ⟨_,rfl,?_⟩))
   go_meet
   case rel=>exact ⟨_,(decide ((l0_2.length:Int) > 20)),yeq,H,⟨by first|omega|exact Nat.le_refl _⟩,⟨ybk BK148.out⟩,⟨yhb⟩⟩
  replace H:=yff H
  replace H:=yam H
  obtain ⟨hcz7_0,hcz7_1,hcz7_2,hfz7_0,hfz7_1,hfz7_2⟩:=ybc BK148.out
  go_wp2_with (first|(refine goesL_ (some 9) rfl rfl Try.func76 (by kernel_rfl) rfl #[.slice A0_1 l0_1.length c0_1,.int .i64 a0_0] rfl ymd ?_;(with_reducible refine (impl_GridValid.calls k _ _ l0_1 a0_0 false _ ?_ ?_ A4.out).mono ?_);exact Kd.Cz ((Kd.C_below HR0_1.out HB.out));exact HC0_1.out;rintro e w' ⟨rfl,⟨nd,rfl⟩⟩;refine ⟨_,rfl,?_⟩))
  go_meet
  case rel=>exact ⟨_,(true),yeq,H,⟨by first|omega|exact Nat.le_refl _⟩,⟨ybk BK148.out⟩,⟨yhb⟩⟩
 case rest =>
  clear HC2
  obtain ⟨kq,x16_1,rfl,HA,HJ1,BK148,HB⟩:=hcut
  rcases kq with _|kj1
  ·exact absurd HA.out (by simp [impl_PuzzleValid.j0])
  obtain ⟨H⟩:=HA
  simp only [impl_PuzzleValid.j0] at H
  cases x16_1
  rotate_left
  ·replace H:=ytt H
   obtain rfl:=ysi H
   go_wp2
   go_ret
   exact ⟨yer,yhb⟩
  replace H:=yff H
  replace H:=yam H
  obtain ⟨hcz9_0,hcz9_1,hcz9_2,hfz9_0,hfz9_1,hfz9_2⟩:=ybc BK148.out
  go_wp2
  go_loopg [20] kj1 (fun kq v20 w'=>∃ (x20_2:Int),v20= .int .i64 x20_2∧Aside0 (impl_PuzzleValid.l0 kq l0_2 (l0_2.length:Int) x20_2 a0_0 l0_1 l0_2=some r)∧Aside0 (kq≤kj1)∧Aside0 (w'.heap[gb148]?=some (.cells #[.int .i64 a0_0,(.slice A0_1 l0_1.length c0_1),(.slice A0_2 l0_2.length c0_2)] 37 (0,0)))∧Aside0 (Below w.heap.size w w'))
  case atStart=>exact ⟨(0),yeq,H,⟨Nat.le_refl _⟩,⟨ybk BK148.out⟩,⟨yhb⟩⟩
  case round =>
   clear H
   try clear hcz9_0
   try clear hcz9_1
   try clear hcz9_2
   try clear hfz9_0
   try clear hfz9_1
   try clear hfz9_2
   obtain ⟨x20_2,rfl,HA,HK2,BK148,HB⟩:=hrel
   rcases gk with _|k2
   ·exact absurd HA.out (by simp [impl_PuzzleValid.l0])
   obtain ⟨H⟩:=HA
   simp only [impl_PuzzleValid.l0] at H
   replace H:=yis H;obtain ⟨c10b0,H⟩ | ⟨c10b0,H⟩:=H
   rotate_left
   ·obtain rfl:=ysi H
    go_wp2
    go_ret
    exact ⟨yer,yhb⟩
   replace H:=yif H;obtain ⟨c11b0,H⟩:=H
   replace H:=yif H;obtain ⟨c12b0,H⟩:=H
   replace H:=ybi H;obtain ⟨t152,A13,H⟩:=H
   try dsimp only at H
   cases t152
   ·replace H:=yff H
    obtain rfl:=ysi H
    have p150:0≤(x20_2:Int):=ydt
    have q150:x20_2 < (l0_2.length:Int):=ydt
    obtain ⟨ad150,A150_1,c150_1,e150,hx150_0,hx150_1,hx150_2,hl150_1,hi150_1⟩:=at_T73 HR0_2.out x20_2 p150 q150
    cases e150
    replace hx150_0:=ybx HB.out hx150_0
    replace hx150_1:=ybx HB.out hx150_1
    replace hx150_2:=ybx HB.out hx150_2
    have HR150_1:=yam hi150_1
    have HC150_1:=yam hl150_1
    clear hi150_1 hl150_1
    replace p150:=eq_true p150
    replace q150:=eq_true q150
    go_wp2_with (first|((with_reducible refine gate_dst (N:=4) rfl ?_);(try (refine gate_guard (by rfl) ?_;dsimp only));refine ybe 4 #[.int .i64 0,.slice none 0 0,.int .i64 0] 73 ?_;intro gb151 hg w20 hbox hb;have BK151:=yam (hbox);have GW151:=yam ((by rw [hg];exact (below_size yhb):w.heap.size≤gb151));replace HB:=yam (below_step yhb hb);have GE151:=GW151;have NB148_151:=yam ((by rw [hg];exact Nat.ne_of_lt (blk_lt (g:=gb148) (o:= .cells #[.int .i64 a0_0,.slice A0_1 l0_1.length c0_1,.slice (some ad150) l0_2.length c0_2] 37 (0,0)) (ybz BK148.out)):gb148≠gb151));have NB151_148:=yam ((by rw [hg];exact Nat.ne_of_gt (blk_lt (g:=gb148) (o:= .cells #[.int .i64 a0_0,.slice A0_1 l0_1.length c0_1,.slice (some ad150) l0_2.length c0_2] 37 (0,0)) (ybz BK148.out)):gb151≠gb148));replace BK148:=yam (ybb BK148.out hb);clear hb hbox hg;have hnb21:=NB151_148.out;have hnc21:=NB148_151.out;obtain ⟨hcz22_0,hcz22_1,hcz22_2,hfz22_0,hfz22_1,hfz22_2⟩:=ybc BK151.out;obtain ⟨hcz23_0,hcz23_1,hcz23_2,hfz23_0,hfz23_1,hfz23_2⟩:=ybc BK148.out)|(refine goesL_ (some 27) rfl rfl Try.func81 (by kernel_rfl) rfl #[.agg #[.int .i64 ((rd_T73 l0_2 x20_2).f0),.slice A150_1 ((rd_T73 l0_2 x20_2).f1).length c150_1,.int .i64 ((rd_T73 l0_2 x20_2).f2)],.int .i64 a0_0] rfl ymd ?_;(with_reducible refine (impl_RuleValid.calls k2 ((rd_T73 l0_2 x20_2).f0) _ _ ((rd_T73 l0_2 x20_2).f1) ((rd_T73 l0_2 x20_2).f2) a0_0 false _ ?_ ?_ A13.out).mono ?_);exact Kd.C_below HR150_1.out yhb;exact HC150_1.out;rintro e w24 ⟨rfl,hb⟩;refine ⟨_,rfl,?_⟩;replace BK148:=yam (blk_below (g:=gb148) (o:= .cells #[.int .i64 a0_0,.slice A0_1 l0_1.length c0_1,.slice (some ad150) l0_2.length c0_2] 37 (0,0)) (by (with_reducible repeat (first|refine ybn ?_ _|refine ybd ?_|refine yba ?_ _));refine blk_far ?_ NB148_151.out _;(with_reducible repeat (first|refine ybn ?_ _|refine ybd ?_|refine yba ?_ _));refine blk_far ?_ NB148_151.out _;(with_reducible repeat (first|refine ybn ?_ _|refine ybd ?_|refine yba ?_ _));refine blk_far ?_ NB148_151.out _;(with_reducible repeat (first|refine ybn ?_ _|refine ybd ?_|refine yba ?_ _));exact BK148.out) hb);replace BK151:=yam (blk_below (g:=gb151) (o:= .cells #[.int .i64 ((rd_T73 l0_2 x20_2).f0),.slice A150_1 ((rd_T73 l0_2 x20_2).f1).length c150_1,.int .i64 ((rd_T73 l0_2 x20_2).f2)] 73 (0,0)) (by (with_reducible repeat (first|refine ybn ?_ _|refine ybd ?_|refine yba ?_ _));refine blk_put (cs:= #[.int .i64 ((rd_T73 l0_2 x20_2).f0),.slice A150_1 ((rd_T73 l0_2 x20_2).f1).length c150_1,.int .i64 0]) ?_ 2 _ rfl;(with_reducible repeat (first|refine ybn ?_ _|refine ybd ?_|refine yba ?_ _));refine blk_put (cs:= #[.int .i64 ((rd_T73 l0_2 x20_2).f0),.slice none 0 0,.int .i64 0]) ?_ 1 _ rfl;(with_reducible repeat (first|refine ybn ?_ _|refine ybd ?_|refine yba ?_ _));refine blk_put (cs:= #[.int .i64 0,.slice none 0 0,.int .i64 0]) ?_ 0 _ rfl;(with_reducible repeat (first|refine ybn ?_ _|refine ybd ?_|refine yba ?_ _));exact BK151.out) hb);replace HB:=yam (below_step yhb hb);(try clear hb)))
    go_ret
    exact ⟨yer,yhb⟩
   replace H:=ytt H
   replace H:=yam H
   have p150:0≤(x20_2:Int):=ydt
   have q150:x20_2 < (l0_2.length:Int):=ydt
   obtain ⟨ad150,A150_1,c150_1,e150,hx150_0,hx150_1,hx150_2,hl150_1,hi150_1⟩:=at_T73 HR0_2.out x20_2 p150 q150
   cases e150
   replace hx150_0:=ybx HB.out hx150_0
   replace hx150_1:=ybx HB.out hx150_1
   replace hx150_2:=ybx HB.out hx150_2
   have HR150_1:=yam hi150_1
   have HC150_1:=yam hl150_1
   clear hi150_1 hl150_1
   replace p150:=eq_true p150
   replace q150:=eq_true q150
   go_wp2_with (first|((with_reducible refine gate_dst (N:=4) rfl ?_);(try (refine gate_guard (by rfl) ?_;dsimp only));refine ybe 4 #[.int .i64 0,.slice none 0 0,.int .i64 0] 73 ?_;intro gb151 hg w15 hbox hb;have BK151:=yam (hbox);have GW151:=yam ((by rw [hg];exact (below_size yhb):w.heap.size≤gb151));replace HB:=yam (below_step yhb hb);have GE151:=GW151;have NB148_151:=yam ((by rw [hg];exact Nat.ne_of_lt (blk_lt (g:=gb148) (o:= .cells #[.int .i64 a0_0,.slice A0_1 l0_1.length c0_1,.slice (some ad150) l0_2.length c0_2] 37 (0,0)) (ybz BK148.out)):gb148≠gb151));have NB151_148:=yam ((by rw [hg];exact Nat.ne_of_gt (blk_lt (g:=gb148) (o:= .cells #[.int .i64 a0_0,.slice A0_1 l0_1.length c0_1,.slice (some ad150) l0_2.length c0_2] 37 (0,0)) (ybz BK148.out)):gb151≠gb148));replace BK148:=yam (ybb BK148.out hb);clear hb hbox hg;have hnb16:=NB151_148.out;have hnc16:=NB148_151.out;obtain ⟨hcz17_0,hcz17_1,hcz17_2,hfz17_0,hfz17_1,hfz17_2⟩:=ybc BK151.out;obtain ⟨hcz18_0,hcz18_1,hcz18_2,hfz18_0,hfz18_1,hfz18_2⟩:=ybc BK148.out)|(refine goesL_ (some 27) rfl rfl Try.func81 (by kernel_rfl) rfl #[.agg #[.int .i64 ((rd_T73 l0_2 x20_2).f0),.slice A150_1 ((rd_T73 l0_2 x20_2).f1).length c150_1,.int .i64 ((rd_T73 l0_2 x20_2).f2)],.int .i64 a0_0] rfl ymd ?_;(with_reducible refine (impl_RuleValid.calls k2 ((rd_T73 l0_2 x20_2).f0) _ _ ((rd_T73 l0_2 x20_2).f1) ((rd_T73 l0_2 x20_2).f2) a0_0 true _ ?_ ?_ A13.out).mono ?_);exact Kd.C_below HR150_1.out yhb;exact HC150_1.out;rintro e w19 ⟨rfl,hb⟩;refine ⟨_,rfl,?_⟩;replace BK148:=yam (blk_below (g:=gb148) (o:= .cells #[.int .i64 a0_0,.slice A0_1 l0_1.length c0_1,.slice (some ad150) l0_2.length c0_2] 37 (0,0)) (by (with_reducible repeat (first|refine ybn ?_ _|refine ybd ?_|refine yba ?_ _));refine blk_far ?_ NB148_151.out _;(with_reducible repeat (first|refine ybn ?_ _|refine ybd ?_|refine yba ?_ _));refine blk_far ?_ NB148_151.out _;(with_reducible repeat (first|refine ybn ?_ _|refine ybd ?_|refine yba ?_ _));refine blk_far ?_ NB148_151.out _;(with_reducible repeat (first|refine ybn ?_ _|refine ybd ?_|refine yba ?_ _));exact BK148.out) hb);replace BK151:=yam (blk_below (g:=gb151) (o:= .cells #[.int .i64 ((rd_T73 l0_2 x20_2).f0),.slice A150_1 ((rd_T73 l0_2 x20_2).f1).length c150_1,.int .i64 ((rd_T73 l0_2 x20_2).f2)] 73 (0,0)) (by (with_reducible repeat (first|refine ybn ?_ _|refine ybd ?_|refine yba ?_ _));refine blk_put (cs:= #[.int .i64 ((rd_T73 l0_2 x20_2).f0),.slice A150_1 ((rd_T73 l0_2 x20_2).f1).length c150_1,.int .i64 0]) ?_ 2 _ rfl;(with_reducible repeat (first|refine ybn ?_ _|refine ybd ?_|refine yba ?_ _));refine blk_put (cs:= #[.int .i64 ((rd_T73 l0_2 x20_2).f0),.slice none 0 0,.int .i64 0]) ?_ 1 _ rfl;(with_reducible repeat (first|refine ybn ?_ _|refine ybd ?_|refine yba ?_ _));refine blk_put (cs:= #[.int .i64 0,.slice none 0 0,.int .i64 0]) ?_ 0 _ rfl;(with_reducible repeat (first|refine ybn ?_ _|refine ybd ?_|refine yba ?_ _));exact BK151.out) hb);replace HB:=yam (below_step yhb hb);(try clear hb)))
   go_roundg k2
   case measure=>have:=HJ1.out;have:=HK2.out;omega
   case rel=>exact ⟨(wrap64 (x20_2 + 1)),yeq,H,⟨by have:=HJ1.out;have:=HK2.out;omega⟩,⟨ybk BK148.out⟩,⟨yhb⟩⟩
mutual
def impl_LineCells.j0:Nat→Int→Int→Bool→Option (List Int)
 | 0,_,_,_=>none
 | k + 1,x0,x1,x19=>if x19=true then (some ([]:List Int)) else (if 0≤x0 then (if (x0:Int).toNat≤35184372088832 then (impl_LineCells.l0 k x0 x1 (([]:List Int)) x0 0) else (none)) else (none))
def impl_LineCells.l0:Nat→Int→Int→List Int→Int→Int→Option (List Int)
 | 0,_,_,_,_,_=>none
 | k + 1,x0,x1,x5,x22,x23=>if x23 < x22 then (if x1 < x0 then (if x5.length < 17592186044416 then (impl_LineCells.l0 k x0 x1 (x5 ++ [wrap64 ((wrap64 (x1 * x0)) + x23)]) x22 (wrap64 (x23 + 1))) else (none)) else (if x5.length < 17592186044416 then (impl_LineCells.l0 k x0 x1 (x5 ++ [wrap64 ((wrap64 ((wrap64 (x23 * x0)) + x1)) - x0)]) x22 (wrap64 (x23 + 1))) else (none))) else (some x5)
end
def impl_LineCells.f (k:Nat)(a0:Int)(a1:Int):Option (List Int):=(impl_sizeOk.f a0).bind fun t131=>(if t131=true then (if a1 < 0 then (impl_LineCells.j0 k a0 a1 true) else (impl_LineCells.j0 k a0 a1 (decide (a1 ≥ (wrap64 (2 * a0)))))) else (impl_LineCells.j0 k a0 a1 true))
theorem impl_LineCells.mono_l:∀ k,(∀ y0 y1 y2,LeO (impl_LineCells.j0 k y0 y1 y2) (impl_LineCells.j0 (k + 1) y0 y1 y2))∧(∀ y0 y1 y2 y3 y4,LeO (impl_LineCells.l0 k y0 y1 y2 y3 y4) (impl_LineCells.l0 (k + 1) y0 y1 y2 y3 y4))
 | 0=>⟨fun _ _ _ r h=>by simp [impl_LineCells.j0] at h,fun _ _ _ _ _ r h=>by simp [impl_LineCells.l0] at h⟩
 | k + 1=>by
  obtain ⟨ih0,ih1⟩:=impl_LineCells.mono_l k
  refine ⟨?_,?_⟩
  ·intro y0 y1 y2
   unfold impl_LineCells.j0
   repeat' first
   | (with_reducible exact ih0 _ _ _)
   | (with_reducible exact ih1 _ _ _ _ _)
   | (with_reducible exact LeO.refl _)
   | (with_reducible exact LeO.none _)
   | (with_reducible refine LeO.ite ?_ ?_)
   | (with_reducible refine LeO.bind ?_ (fun _=>?_))
   | exact ih0 _ _ _
   | exact ih1 _ _ _ _ _
   | exact LeO.none _
   | refine LeO.ite ?_ ?_
   | refine LeO.bind ?_ (fun _=>?_)
  ·intro y0 y1 y2 y3 y4
   unfold impl_LineCells.l0
   repeat' first
   | (with_reducible exact ih0 _ _ _)
   | (with_reducible exact ih1 _ _ _ _ _)
   | (with_reducible exact LeO.refl _)
   | (with_reducible exact LeO.none _)
   | (with_reducible refine LeO.ite ?_ ?_)
   | (with_reducible refine LeO.bind ?_ (fun _=>?_))
   | exact ih0 _ _ _
   | exact ih1 _ _ _ _ _
   | exact LeO.none _
   | refine LeO.ite ?_ ?_
   | refine LeO.bind ?_ (fun _=>?_)
theorem impl_LineCells.mono:∀ a0 a1 k,LeO (impl_LineCells.f k a0 a1) (impl_LineCells.f (k + 1) a0 a1):=by
 intro a0 a1 k
 obtain ⟨ih0,ih1⟩:=impl_LineCells.mono_l k
 unfold impl_LineCells.f
 repeat' first
   | (with_reducible exact ih0 _ _ _)
   | (with_reducible exact ih1 _ _ _ _ _)
   | (with_reducible exact LeO.refl _)
   | (with_reducible exact LeO.none _)
   | (with_reducible refine LeO.ite ?_ ?_)
   | (with_reducible refine LeO.bind ?_ (fun _=>?_))
   | exact ih0 _ _ _
   | exact ih1 _ _ _ _ _
   | exact LeO.none _
   | refine LeO.ite ?_ ?_
   | refine LeO.bind ?_ (fun _=>?_)
theorem impl_LineCells.calls (k:Nat)(a0:Int)(a1:Int)(r:List Int)(w:World)(h:impl_LineCells.f k a0 a1=some r) :
  Calls Try.prog 77 #[.int .i64 a0,.int .i64 a1] w fun e w'=>∃ v0_:Value,e= .returned (v0_)∧Kd.R (Kd.int .i64) 3 w' w.heap.size (fun _=>True) v0_ r∧Below w.heap.size w w':=by
 have HB:=yam (Below.refl w.heap.size w)
 unfold impl_LineCells.f at h
 have H:=h
 clear h
 have HC3:=yam H
 clear H
 go_enter Try.func77,Try.ntmps77
 go_upto_region 1 with (fail)
 go_cut [19] (fun v19 wc=>∃ (kq:Nat) (x19_2:Bool),v19= .bool x19_2∧Aside0 (impl_LineCells.j0 kq a0 a1 x19_2=some r)∧Aside0 (kq≤k)∧Aside0 (Below w.heap.size w wc))
 case first =>
  have H:=HC3.out
  clear HC3
  replace H:=ybi H;obtain ⟨t131,A4,H⟩:=H
  try dsimp only at H
  cases t131
  ·replace H:=yff H
   replace H:=yam H
   go_wp2_with (first|(refine goesL_ (some 8) rfl rfl Try.func44 (by kernel_rfl) rfl #[.int .i64 a0] rfl ymd ?_;(with_reducible refine (impl_sizeOk.calls a0 false _ A4.out).mono ?_);rintro e w' ⟨rfl,⟨nd,rfl⟩⟩;refine ⟨_,rfl,?_⟩))
   go_meet
   case rel=>exact ⟨_,(true),yeq,H,⟨by first|omega|exact Nat.le_refl _⟩,⟨yhb⟩⟩
  replace H:=ytt H
  replace H:=yis H;obtain ⟨c6b0,H⟩ | ⟨c6b0,H⟩:=H
  ·(first|rw [c6b0]|(simp only [i64_w,i32_w];rw [c6b0])|skip)
   replace H:=yam H
   go_wp2_with (first|(refine goesL_ (some 8) rfl rfl Try.func44 (by kernel_rfl) rfl #[.int .i64 a0] rfl ymd ?_;(with_reducible refine (impl_sizeOk.calls a0 true _ A4.out).mono ?_);rintro e w' ⟨rfl,⟨nd,rfl⟩⟩;refine ⟨_,rfl,?_⟩))
   go_meet
   case rel=>exact ⟨_,(true),yeq,H,⟨by first|omega|exact Nat.le_refl _⟩,⟨yhb⟩⟩
  (first|rw [c6b0]|(simp only [i64_w,i32_w];rw [c6b0])|skip)
  replace H:=yam H
  go_wp2_with (first|(refine goesL_ (some 8) rfl rfl Try.func44 (by kernel_rfl) rfl #[.int .i64 a0] rfl ymd ?_;(with_reducible refine (impl_sizeOk.calls a0 true _ A4.out).mono ?_);rintro e w' ⟨rfl,⟨nd,rfl⟩⟩;refine ⟨_,rfl,?_⟩))
  go_meet
  case rel=>exact ⟨_,(decide (a1 ≥ (wrap64 (2 * a0)))),yeq,H,⟨by first|omega|exact Nat.le_refl _⟩,⟨yhb⟩⟩
 case rest =>
  clear HC3
  obtain ⟨kq,x19_2,rfl,HA,HJ2,HB⟩:=hcut
  rcases kq with _|kj2
  ·exact absurd HA.out (by simp [impl_LineCells.j0])
  obtain ⟨H⟩:=HA
  simp only [impl_LineCells.j0] at H
  cases x19_2
  rotate_left
  ·replace H:=ytt H
   obtain rfl:=ysi H
   go_wp2
   go_ret
   exact ⟨_,yer,by first|exact Kd.R_nil _ _ _ _ _|exact Kd.N_nil _ _ _ _ _|exact Kd.V_nil _ _ _ _ _|exact Kd.Q_nil _ _ _ _ _|exact Kd.S_nil _ _ _ _ _,yhb⟩
  replace H:=yff H
  replace H:=yit H;obtain ⟨c8,H⟩ | ⟨c8,H⟩:=H
  rotate_left
  ·exact absurd H (by simp)
  have c8b0:=eq_true c8
  have c8b1:decide (0≤a0)=true:=decide_eq_true c8
  clear c8
  replace H:=yig H;obtain ⟨c9,H⟩:=H
  have c9b0:=eq_true c9
  have c9b1:decide ((a0:Int).toNat≤35184372088832)=true:=decide_eq_true c9
  clear c9
  obtain ⟨y132,Ny132⟩:∃ y_:List Int,Aside0 (y_=(([]:List Int))):=⟨_,⟨rfl⟩⟩
  replace H:(impl_LineCells.l0 kj2 a0 a1 y132 a0 0)=some r:=yhn Ny132.out H
  replace H:=yam H
  go_wp2_with (first|((with_reducible refine gate_dst (N:=21) rfl ?_);refine Kd.R_make_cap (Kd.int .i64) _ 3 rfl (N:=21) rfl 22 _ _ rfl a0 rfl rfl Try.underlying22 (.int .i64 0) 8 info3 rfl (by decide) (by omega) (ok:=fun _=>True) trivial (ydt) (Nat.le_trans (Nat.mul_le_mul_right _ (ydt:a0.toNat≤35184372088832)) (by omega)) (Below.refl _ _) (Nat.le_refl _) ?_;intro v133 w10 ho11 hb hg_ hnew_;clear hg_ hnew_;(first|rw [← Ny132.out] at ho11|(simp only [Int.reduceToNat] at ho11;rw [← Ny132.out] at ho11));have HO134:=yam (Kd.R_lower ho11 (below_size (yez HB.out)));replace HB:=yam (below_step (yez HB.out) hb);clear hb ho11))
  go_loopg [5,23] kj2 (fun kq v5 v23 w'=>∃ (x5_2:List Int) (x23_2:Int),v23= .int .i64 x23_2∧Aside0 (impl_LineCells.l0 kq a0 a1 x5_2 a0 x23_2=some r)∧Aside0 (kq≤kj2)∧Aside0 (Kd.R (Kd.int .i64) 3 w' w.heap.size (fun _=>True) v5 x5_2)∧Aside0 (Below w.heap.size w w'))
  case atStart=>exact ⟨(y132),(0),yeq,H,⟨Nat.le_refl _⟩,⟨yka HO134.out⟩,⟨yhb⟩⟩
  case round =>
   clear H
   try clear c8b0
   try clear c8b1
   try clear c9b0
   try clear c9b1
   obtain ⟨x5_2,x23_2,rfl,HA,HK2,HO_5,HB⟩:=hrel
   rcases gk with _|k2
   ·exact absurd HA.out (by simp [impl_LineCells.l0])
   obtain ⟨H⟩:=HA
   simp only [impl_LineCells.l0] at H
   replace H:=yis H;obtain ⟨c12b0,H⟩ | ⟨c12b0,H⟩:=H
   rotate_left
   ·obtain rfl:=ysi H
    go_wp2
    go_ret
    exact ⟨_,yer,yka HO_5.out,yhb⟩
   replace H:=yis H;obtain ⟨c13b0,H⟩ | ⟨c13b0,H⟩:=H
   ·replace H:=yig H;obtain ⟨c14,H⟩:=H
    have LMc14:=yam c14
    clear c14
    obtain ⟨y135,Ny135⟩:∃ y_:List Int,Aside0 (y_=(x5_2 ++ [wrap64 ((wrap64 (a1 * a0)) + x23_2)])):=⟨_,⟨rfl⟩⟩
    replace H:(impl_LineCells.l0 k2 a0 a1 y135 a0 (wrap64 (x23_2 + 1)))=some r:=yhn Ny135.out H
    replace H:=yam H
    go_wp2_with (first|((with_reducible refine gate_builtin (b:= .append) (xs:= #[.tmp 29,.tmp 35]) rfl ?_);at_builtin;refine Kd.R_append (Kd.int .i64) (w0:=w) w.heap.size rfl (.tmp 29) (.tmp 35) 22 3 (.int .i64 0) 8 rfl Try.underlying22 info3 rfl (by decide) (by omega) u5 x5_2 (wrap64 ((wrap64 (a1 * a0)) + x23_2)) [.int .i64 (wrap64 ((wrap64 (a1 * a0)) + x23_2))] (fun _=>True) (fun _=>False) rfl rfl ?aP (fun _ hk=>hk.elim) ?aF ?aO ?aB ?aS ?aL ?_;(case aP=>exact rfl);(case aB=>exact (yez HB.out));(case aF=>exact (fun _ _=>trivial));(case aO=>exact (Kd.Yz HO_5.out));(case aS=>exact (below_size (yez HB.out)));(case aL=>have:=LMc14.out;omega);intro v136 w15 ho hb hg hat;rw [← Ny135.out] at ho;replace HB:=yam (hb);have HO137:=yam (ho);clear HO_5;clear ho hb hg hat))
    go_roundg k2
    case measure=>have:=HJ2.out;have:=HK2.out;omega
    case rel=>exact ⟨(y135),(wrap64 (x23_2 + 1)),yeq,H,⟨by have:=HJ2.out;have:=HK2.out;omega⟩,⟨yka HO137.out⟩,⟨yhb⟩⟩
   replace H:=yig H;obtain ⟨c16,H⟩:=H
   have LMc16:=yam c16
   clear c16
   obtain ⟨y138,Ny138⟩:∃ y_:List Int,Aside0 (y_=(x5_2 ++ [wrap64 ((wrap64 ((wrap64 (x23_2 * a0)) + a1)) - a0)])):=⟨_,⟨rfl⟩⟩
   replace H:(impl_LineCells.l0 k2 a0 a1 y138 a0 (wrap64 (x23_2 + 1)))=some r:=yhn Ny138.out H
   replace H:=yam H
   go_wp2_with (first|((with_reducible refine gate_builtin (b:= .append) (xs:= #[.tmp 37,.tmp 45]) rfl ?_);at_builtin;refine Kd.R_append (Kd.int .i64) (w0:=w) w.heap.size rfl (.tmp 37) (.tmp 45) 22 3 (.int .i64 0) 8 rfl Try.underlying22 info3 rfl (by decide) (by omega) u5 x5_2 (wrap64 ((wrap64 ((wrap64 (x23_2 * a0)) + a1)) - a0)) [.int .i64 (wrap64 ((wrap64 ((wrap64 (x23_2 * a0)) + a1)) - a0))] (fun _=>True) (fun _=>False) rfl rfl ?aP (fun _ hk=>hk.elim) ?aF ?aO ?aB ?aS ?aL ?_;(case aP=>exact rfl);(case aB=>exact (yez HB.out));(case aF=>exact (fun _ _=>trivial));(case aO=>exact (Kd.Yz HO_5.out));(case aS=>exact (below_size (yez HB.out)));(case aL=>have:=LMc16.out;omega);intro v139 w17 ho hb hg hat;rw [← Ny138.out] at ho;replace HB:=yam (hb);have HO140:=yam (ho);clear HO_5;clear ho hb hg hat))
   go_roundg k2
   case measure=>have:=HJ2.out;have:=HK2.out;omega
   case rel=>exact ⟨(y138),(wrap64 (x23_2 + 1)),yeq,H,⟨by have:=HJ2.out;have:=HK2.out;omega⟩,⟨yka HO140.out⟩,⟨yhb⟩⟩
mutual
def impl_SquareFits.l0:Nat→List Int→Int→Int→Option (Bool)
 | 0,_,_,_=>none
 | k + 1,x0,x1,x15=>if x15 < (wrap64 (2 * x1)) then ((impl_LineCells.f k x1 x15).bind fun t=>(impl_SquareFits.l1 k x0 x1 x15 t [false,false,false,false,false] 0)) else (some true)
def impl_SquareFits.l1:Nat→List Int→Int→Int→List Int→List Bool→Int→Option (Bool)
 | 0,_,_,_,_,_,_=>none
 | k + 1,x0,x1,x15,x21,x6,x23=>if x23 < (x21.length:Int) then (if 0≤x23 then (if 0≤(rd x21 x23) then (if (rd x21 x23) < (x0.length:Int) then (if 0≤(rd x0 (rd x21 x23)) then (if (rd x0 (rd x21 x23)) < (x6.length:Int) then (if (rd x0 (rd x21 x23)) > 0 then (if (rdOf false x6 (rd x0 (rd x21 x23)))=true then (some false) else (impl_SquareFits.l1 k x0 x1 x15 x21 (x6.set (rd x0 (rd x21 x23)).toNat true) (wrap64 (x23 + 1)))) else (impl_SquareFits.l1 k x0 x1 x15 x21 (x6.set (rd x0 (rd x21 x23)).toNat true) (wrap64 (x23 + 1)))) else (none)) else (none)) else (none)) else (none)) else (none)) else (impl_SquareFits.l0 k x0 x1 (wrap64 (x15 + 1)))
end
def impl_SquareFits.f (k:Nat)(l0:List Int)(a1:Int):Option (Bool):=(impl_GridValid.f k l0 a1).bind fun t=>(if t=true then (impl_SquareFits.l0 k l0 a1 0) else (some false))
theorem impl_SquareFits.calls (k:Nat)(A0:Option Addr)(c0:Nat)(l0:List Int)(a1:Int)(r:Bool)(w:World)(hr0:Kd.C (Kd.int .i64) w A0 l0.length l0)(hc0:l0.length≤c0)(h:impl_SquareFits.f k l0 a1=some r) :
  Calls Try.prog 52 #[.slice A0 l0.length c0,.int .i64 a1] w fun e w'=>e= .returned (.bool r)∧Below w.heap.size w w':=by
 have HR0:=yam hr0
 have HC0:=yam hc0
 clear hr0 hc0
 have HB:=yam (Below.refl w.heap.size w)
 unfold impl_SquareFits.f at h
 have H:=h
 clear h
 replace H:=ybi H;obtain ⟨t1,A1,H⟩:=H
 replace H:(if t1=true then (impl_SquareFits.l0 k l0 a1 0) else (some false))=some r:=H
 by_cases c1:t1=true
 ·subst c1
  rw [if_pos rfl] at H
  replace H:=yam H
  go_enter Try.func52,Try.ntmps52
  go_wp2_with (first|(go_at_call 76;(with_reducible refine (impl_GridValid.calls k _ _ l0 a1 true _ HR0.out HC0.out A1.out).mono ?_);rintro e w' ⟨rfl,⟨nd,rfl⟩⟩))
  go_loopg [5,15] k (fun kq v5 v15 w'=>∃ (x15:Int),v15= .int .i64 x15∧Aside0 (impl_SquareFits.l0 kq l0 a1 x15=some r)∧Aside0 (kq≤k)∧Aside0 (Below w.heap.size w w'))
  case atStart=>exact ⟨0,rfl,H,⟨Nat.le_refl _⟩,⟨by repeat (first|(with_reducible first|exact HB.out|apply below_alloc|apply pw_below_drewN|apply below_drew1)|exact HB.out)⟩⟩
  case round =>
   clear H HB
   obtain ⟨x15,rfl,HA,HK1,HB⟩:=hrel
   rcases gk with _|k1
   ·exact absurd HA.out (by simp [impl_SquareFits.l0])
   obtain ⟨H⟩:=HA
   simp only [impl_SquareFits.l0] at H
   by_cases c3:x15 < (wrap64 (2 * a1))
   ·rw [if_pos c3] at H
    have c3b0:decide (x15 < (wrap64 (2 * a1)))=true:=decide_eq_true c3
    clear c3
    replace H:=ybi H;obtain ⟨t4,A4,H⟩:=H
    replace H:(impl_SquareFits.l1 k1 l0 a1 x15 t4 [false,false,false,false,false] 0)=some r:=H
    replace H:=yam H
    have hsz:=HB.out.size
    have HG:=yam hsz
    clear hsz
    obtain ⟨wo,rfl⟩:∃ wo:World,wo=wr:=⟨_,rfl⟩
    have HO6:=yam (arr5_new wo w.heap.size HG.out 86)
    have HB2:=yam (below_alloc HB.out (.cells #[.bool false,.bool false,.bool false,.bool false,.bool false] 86))
    go_wp2_with (first|(refine goesL_ (some 21) rfl rfl Try.func77 (by kernel_rfl) rfl #[.int .i64 a1,.int .i64 x15] rfl yma ?_;(with_reducible refine (impl_LineCells.calls k1 a1 x15 t4 _ A4.out).mono ?_);rintro e w5 ⟨v116,rfl,ho0,hb⟩;refine ⟨_,rfl,?_⟩;obtain ⟨Ao14,co14,eo14⟩:=Kd.R_slice ho0;subst eo14;have HO21:=yam (show Kd.R (Kd.int .i64) 3 w5 w.heap.size (fun k_=>k_≠wo.heap.size) (.slice Ao14 t4.length co14) t4 from Kd.R_lower (Kd.R_mono (Kd.R_bound ho0) (fun k_ hk_=>Nat.ne_of_gt (Nat.lt_of_lt_of_le (below_alloc_size wo _) hk_.2.1))) (below_size HB2.out));have n2_:=yam (Kd.R_below HO6.out hb);clear HO6;have HO6:=n2_;have n1_:=yam (below_step HB2.out hb);clear HB HB2 n2_;have HB:=n1_;clear n1_ hb ho0))
    go_loopg [8,23] k1 (fun kq v8 v23 w'=>∃ (x6:List Bool) (x23:Int),v23= .int .i64 x23∧Aside0 (impl_SquareFits.l1 kq l0 a1 x15 t4 x6 x23=some r)∧Aside0 (kq≤k1)∧Aside0 (Kd.R Kd.bool 86 w' w.heap.size (fun _=>True) (.slice (some ⟨wo.heap.size,0,none⟩) x6.length 5) x6)∧Aside0 (x6.length=5)∧Aside0 (Kd.R (Kd.int .i64) 3 w' w.heap.size (fun k_=>k_≠wo.heap.size) (.slice Ao14 t4.length co14) t4)∧Aside0 (Below w.heap.size w w'))
    case atStart=>exact ⟨_,0,rfl,H,⟨Nat.le_refl _⟩,HO6,⟨rfl⟩,HO21,HB⟩
    case round =>
     clear H HO6 HO21 HB
     obtain ⟨x6,x23,rfl,HA,HK2,HO6,HL6,HO21,HB⟩:=hrel
     rcases gk with _|k2
     ·exact absurd HA.out (by simp [impl_SquareFits.l1])
     obtain ⟨H⟩:=HA
     simp only [impl_SquareFits.l1] at H
     by_cases c6:x23 < (t4.length:Int)
     ·rw [if_pos c6] at H
      have c6b0:decide (x23 < (t4.length:Int))=true:=decide_eq_true c6
      clear c6
      by_cases c7:0≤x23
      ·rw [if_pos c7] at H
       have c7b0:decide (0≤x23)=true:=decide_eq_true c7
       clear c7
       by_cases c8:0≤(rd t4 x23)
       ·rw [if_pos c8] at H
        have c8b0:decide (0≤(rd t4 x23))=true:=decide_eq_true c8
        clear c8
        by_cases c9:(rd t4 x23) < (l0.length:Int)
        ·rw [if_pos c9] at H
         have c9b0:decide ((rd t4 x23) < (l0.length:Int))=true:=decide_eq_true c9
         clear c9
         by_cases c10:0≤(rd l0 (rd t4 x23))
         ·rw [if_pos c10] at H
          have c10b0:decide (0≤(rd l0 (rd t4 x23)))=true:=decide_eq_true c10
          clear c10
          by_cases c11:(rd l0 (rd t4 x23)) < (x6.length:Int)
          ·rw [if_pos c11] at H
           obtain ⟨ad118,e118,hx118_0,p118,q118⟩:=yat (Kd.R_reads' HO21.out).2.2 x23
           cases e118
           obtain ⟨ad119,e119,hx119_0,p119,q119⟩:=yat HR0.out (rd t4 x23)
           cases e119
           replace hx119_0:=ybx HB.out hx119_0
           have p120:0≤(rd l0 (rd t4 x23)):=ydt
           have q120:(rd l0 (rd t4 x23)) < 5:=by have:=HL6.out;omega
           obtain ⟨hc120,hf120⟩:=Kd.R_cell false HO6.out (rd l0 (rd t4 x23)) p120 c11
           clear c11
           have p121:=eq_true p120
           have q121:=eq_true q120
           have q122:decide ((rd l0 (rd t4 x23)) < 5)=true:=decide_eq_true q120
           by_cases c12:(rd l0 (rd t4 x23)) > 0
           ·rw [if_pos c12] at H
            have c12b0:decide (0 < (rd l0 (rd t4 x23)))=true:=decide_eq_true c12
            clear c12
            by_cases c13:rdOf false x6 (rd l0 (rd t4 x23))=true
            ·rw [if_pos c13] at H
             obtain rfl:=ysi H
             go_wp2
             go_ret
             exact ⟨rfl,HB.out⟩
            ·rw [if_neg c13] at H
             have c13b0:rdOf false x6 (rd l0 (rd t4 x23))=false:=eq_false_of_ne_true c13
             clear c13
             replace H:=yam H
             go_wp2
             go_roundg k2
             case measure=>have:=HK1.out;have:=HK2.out;omega
             case rel =>
              have hput:=Kd.R_put HO6.out (rd l0 (rd t4 x23)) true
              refine ⟨_,_,rfl,H,⟨by have:=HK1.out;have:=HK2.out;omega⟩,⟨?_⟩,⟨by rw [List.length_set];exact HL6.out⟩,⟨Kd.R_grown HO21.out hput.2 (fun k_ hk_ e_=>hk_ (Option.some.inj e_))⟩,⟨below_set HB.out HG.out⟩⟩
              rw [List.length_set]
              exact hput.1
           ·rw [if_neg c12] at H
            have c12b0:decide (0 < (rd l0 (rd t4 x23)))=false:=decide_eq_false c12
            clear c12
            replace H:=yam H
            go_wp2
            go_roundg k2
            case measure=>have:=HK1.out;have:=HK2.out;omega
            case rel =>
             have hput:=Kd.R_put HO6.out (rd l0 (rd t4 x23)) true
             refine ⟨_,_,rfl,H,⟨by have:=HK1.out;have:=HK2.out;omega⟩,⟨?_⟩,⟨by rw [List.length_set];exact HL6.out⟩,⟨Kd.R_grown HO21.out hput.2 (fun k_ hk_ e_=>hk_ (Option.some.inj e_))⟩,⟨below_set HB.out HG.out⟩⟩
             rw [List.length_set]
             exact hput.1
          ·rw [if_neg c11] at H
           exact absurd H (by simp)
         ·rw [if_neg c10] at H
          exact absurd H (by simp)
        ·rw [if_neg c9] at H
         exact absurd H (by simp)
       ·rw [if_neg c8] at H
        exact absurd H (by simp)
      ·rw [if_neg c7] at H
       exact absurd H (by simp)
     ·rw [if_neg c6] at H
      have c6b0:decide (x23 < (t4.length:Int))=false:=decide_eq_false c6
      clear c6
      replace H:=yam H
      go_wp2
      go_roundg k2
      case measure=>have:=HK1.out;have:=HK2.out;omega
      case rel=>exact ⟨(wrap64 (x15 + 1)),rfl,H,⟨by have:=HK1.out;have:=HK2.out;omega⟩,HB⟩
   ·rw [if_neg c3] at H
    have c3b0:decide (x15 < (wrap64 (2 * a1)))=false:=decide_eq_false c3
    clear c3
    obtain rfl:=ysi H
    go_wp2
    go_ret
    exact ⟨rfl,HB.out⟩
 ·rw [if_neg c1] at H
  obtain rfl:=ysi H
  obtain rfl:t1=false:=eq_false_of_ne_true c1
  clear c1
  go_enter Try.func52,Try.ntmps52
  go_wp2_with (first|(go_at_call 76;(with_reducible refine (impl_GridValid.calls k _ _ l0 a1 false _ HR0.out HC0.out A1.out).mono ?_);rintro e w' ⟨rfl,⟨nd,rfl⟩⟩))
  go_ret
  exact ⟨rfl,by repeat (first|(with_reducible first|exact HB.out|apply below_alloc|apply pw_below_drewN|apply below_drew1)|exact HB.out)⟩
def impl_allValues.f (a0:Int):Option (Int):=if 0≤(wrap64 (a0 + 1)) then (some (wrap64 ((shl .i64 1 (wrap64 (a0 + 1))) - 2))) else (none)
theorem impl_allValues.calls (a0:Int)(r:Int)(w:World)(h:impl_allValues.f a0=some r) :
  Calls Try.prog 91 #[.int .i64 a0] w fun e w'=>e= .returned (.int .i64 r)∧Drawn0 w w':=by
 unfold impl_allValues.f at h
 have H:=h
 clear h
 obtain ⟨ji2,hji2⟩:∃ j_:Int,(wrap64 (a0 + 1))=j_:=⟨_,rfl⟩
 replace H:(if 0≤(ji2) then (some (wrap64 ((shl .i64 1 (ji2)) - 2))) else (none))=some r:=by first|(rw [hji2] at H;exact H)|(simp only [hji2] at H ⊢;exact H)
 have hji2w:(IntKind.i64.wrap (a0 + 1))=ji2:=(i64_w _).trans hji2
 replace H:=yit H;obtain ⟨c3,H⟩ | ⟨c3,H⟩:=H
 rotate_left
 ·exact absurd H (by simp)
 have c3b0:=eq_true c3
 have c3b1:decide (0≤(ji2))=true:=decide_eq_true c3
 clear c3
 obtain ⟨ji4,hji4⟩:∃ j_:Int,(shl .i64 1 (ji2))=j_:=⟨_,rfl⟩
 replace H:(some (wrap64 ((ji4) - 2)))=some r:=by first|(rw [hji4] at H;exact H)|(simp only [hji4] at H ⊢;exact H)
 have hji4_:(IntKind.i64.wrap (1 * 2 ^ min (ji2).toNat 64))=ji4:=hji4
 have hji4z:(ji2)≤64→(IntKind.i64.wrap (1 * 2 ^ (ji2).toNat))=ji4:=shl_small hji4
 have hji4u:(IntKind.i64.wrap (2 ^ min (ji2).toNat 64))=ji4:=by have h_:=hji4_;rw [Int.one_mul] at h_;exact h_
 have hji4v:(ji2)≤64→(IntKind.i64.wrap (2 ^ (ji2).toNat))=ji4:=fun hle_=>by have h_:=hji4z hle_;rw [Int.one_mul] at h_;exact h_
 have hji4y:(wrap64 (1 * 2 ^ min (ji2).toNat 64))=ji4:=(i64_w _).symm.trans hji4_
 have hji4x:(ji2)≤64→(wrap64 (1 * 2 ^ (ji2).toNat))=ji4:=fun h_=>(i64_w _).symm.trans (hji4z h_)
 obtain rfl:=ysi H
 go_enter Try.func91,Try.ntmps91
 go_wp2
 go_ret
 exact ⟨by first|rfl|(simp;done)|(simp only [← hji2,← hji4] <;> (first|rfl|simp))|(simp [*];done),by repeat (first|exact Drawn0.refl _|apply Drawn0.step)⟩
def impl_valuesHold.l0:Nat→List Int→Int→Int→List Int→Int→Int→Int→List Int→Int→Option (Bool)
 | 0,_,_,_,_,_,_,_,_,_=>none
 | k + 1,x1,x5,x6,x9,x10,x11,x154000,x154001,x154002=>if x11 < x10 then (if 0≤x11 then (if x11 < (x9.length:Int) then (if x154000=1 then (if x11≤(x1.length:Int) then ((slices_Contains_int_int.f k (x1.take (x11:Int).toNat) (rd x9 x11)).bind fun t156=>(if t156=true then (some false) else (impl_valuesHold.l0 k x1 (wrap64 (x5 + (rd x9 x11))) (wrap64 (x6 * (rd x9 x11))) x9 x10 (wrap64 (x11 + 1)) x154000 x154001 x154002))) else (none)) else (impl_valuesHold.l0 k x1 (wrap64 (x5 + (rd x9 x11))) (wrap64 (x6 * (rd x9 x11))) x9 x10 (wrap64 (x11 + 1)) x154000 x154001 x154002)) else (none)) else (none)) else (if x154000=2 then (some (x5 == x154002)) else (if x154000=3 then (some (x6 == x154002)) else (if x154000=4 then (if 0 < (x1.length:Int) then (if 1 < (x1.length:Int) then (some (decide ((rd x1 0) < (rd x1 1)))) else (none)) else (none)) else (if x154000=5 then (if 0 < (x1.length:Int) then (if 1 < (x1.length:Int) then (some ((mx (wrap64 ((rd x1 0) - (rd x1 1))) (wrap64 ((rd x1 1) - (rd x1 0)))) == x154002)) else (none)) else (none)) else (some true)))))
def impl_valuesHold.f (k:Nat)(a0_0:Int)(l0_1:List Int)(a0_2:Int)(l1:List Int):Option (Bool):=impl_valuesHold.l0 k l1 0 1 l1 (l1.length:Int) 0 a0_0 l0_1 a0_2
theorem impl_valuesHold.calls (k:Nat)(a0_0:Int)(A0_1:Option Addr)(c0_1:Nat)(l0_1:List Int)(a0_2:Int)(A1:Option Addr)(c1:Nat)(l1:List Int)(r:Bool)(w:World)(hr0_1:Kd.C (Kd.int .i64) w A0_1 l0_1.length l0_1)(hc0_1:l0_1.length≤c0_1)(hr1:Kd.C (Kd.int .i64) w A1 l1.length l1)(hc1:l1.length≤c1)(h:impl_valuesHold.f k a0_0 l0_1 a0_2 l1=some r) :
  Calls Try.prog 82 #[.agg #[.int .i64 a0_0,.slice A0_1 l0_1.length c0_1,.int .i64 a0_2],.slice A1 l1.length c1] w fun e w'=>e= .returned (.bool r)∧Below w.heap.size w w':=by
 have hu73:=Try.underlying73
 have HR0_1:=yam hr0_1
 have HC0_1:=yam hc0_1
 clear hr0_1 hc0_1
 have HR1:=yam hr1
 have HC1:=yam hc1
 clear hr1 hc1
 have HB:=yam (Below.refl w.heap.size w)
 unfold impl_valuesHold.f at h
 have H:=h
 clear h
 replace H:=yam H
 go_enter Try.func82,Try.ntmps82
 go_wp2_with (first|(refine ybe 2 #[.int .i64 a0_0,.slice A0_1 l0_1.length c0_1,.int .i64 a0_2] 73 ?_;intro gb153 hg w3 hbox hb;have BK153:=yam (hbox);have GW153:=yam ((by rw [hg];exact (below_size (yez HB.out)):w.heap.size≤gb153));replace HB:=yam (below_step (yez HB.out) hb);have GE153:=GW153;clear hb hbox hg))
 repeat (go_quiet (first|(refine ybe 2 #[.int .i64 a0_0,.slice A0_1 l0_1.length c0_1,.int .i64 a0_2] 73 ?_;intro gb153 hg w3 hbox hb;have BK153:=yam (hbox);have GW153:=yam ((by rw [hg];exact (below_size (yez HB.out)):w.heap.size≤gb153));replace HB:=yam (below_step (yez HB.out) hb);have GE153:=GW153;clear hb hbox hg));try go_wp2_with (first|(refine ybe 2 #[.int .i64 a0_0,.slice A0_1 l0_1.length c0_1,.int .i64 a0_2] 73 ?_;intro gb153 hg w3 hbox hb;have BK153:=yam (hbox);have GW153:=yam ((by rw [hg];exact (below_size (yez HB.out)):w.heap.size≤gb153));replace HB:=yam (below_step (yez HB.out) hb);have GE153:=GW153;clear hb hbox hg)))
 go_loopg [5,6,11] k (fun kq v5 v6 v11 w'=>∃ (x5_1:Int) (x6_1:Int) (x11_1:Int),v5= .int .i64 x5_1∧v6= .int .i64 x6_1∧v11= .int .i64 x11_1∧Aside0 (impl_valuesHold.l0 kq l1 x5_1 x6_1 l1 (l1.length:Int) x11_1 a0_0 l0_1 a0_2=some r)∧Aside0 (kq≤k)∧Aside0 (w'.heap[gb153]?=some (.cells #[.int .i64 a0_0,(.slice A0_1 l0_1.length c0_1),.int .i64 a0_2] 73 (0,0)))∧Aside0 (Below w.heap.size w w'))
 case atStart=>exact ⟨(0),(1),(0),yeq,yeq,yeq,H,⟨Nat.le_refl _⟩,⟨ybk BK153.out⟩,⟨yhb⟩⟩
 case round =>
  clear H
  try clear c1
  obtain ⟨x5_1,x6_1,x11_1,rfl,rfl,rfl,HA,HK1,BK153,HB⟩:=hrel
  rcases gk with _|k1
  ·exact absurd HA.out (by simp [impl_valuesHold.l0])
  obtain ⟨H⟩:=HA
  simp only [impl_valuesHold.l0] at H
  replace H:=yis H;obtain ⟨c4b0,H⟩ | ⟨c4b0,H⟩:=H
  rotate_left
  ·replace H:=yit H;obtain ⟨c17,H⟩ | ⟨c17,H⟩:=H
   ·have c17b0:(a0_0 == 2)=true:=beq_iff_eq.mpr c17
    have c17b1:(a0_0 != 2)=false:=bne_eq_false_iff_eq.mpr c17
    clear c17
    obtain rfl:=ysi H
    obtain ⟨hcz18_0,hcz18_1,hcz18_2,hfz18_0,hfz18_1,hfz18_2⟩:=ybc BK153.out
    go_wp2
    repeat (go_quiet (fail);try go_wp2)
    go_ret
    exact ⟨yer,yhb⟩
   have c17b0:(a0_0 == 2)=false:=beq_eq_false_iff_ne.mpr c17
   have c17b1:(a0_0 != 2)=true:=bne_iff_ne.mpr c17
   replace H:=yit H;obtain ⟨c19,H⟩ | ⟨c19,H⟩:=H
   ·have c19b0:(a0_0 == 3)=true:=beq_iff_eq.mpr c19
    have c19b1:(a0_0 != 3)=false:=bne_eq_false_iff_eq.mpr c19
    clear c19
    obtain rfl:=ysi H
    obtain ⟨hcz20_0,hcz20_1,hcz20_2,hfz20_0,hfz20_1,hfz20_2⟩:=ybc BK153.out
    go_wp2
    repeat (go_quiet (fail);try go_wp2)
    go_ret
    exact ⟨yer,yhb⟩
   have c19b0:(a0_0 == 3)=false:=beq_eq_false_iff_ne.mpr c19
   have c19b1:(a0_0 != 3)=true:=bne_iff_ne.mpr c19
   replace H:=yit H;obtain ⟨c21,H⟩ | ⟨c21,H⟩:=H
   ·have c21b0:(a0_0 == 4)=true:=beq_iff_eq.mpr c21
    have c21b1:(a0_0 != 4)=false:=bne_eq_false_iff_eq.mpr c21
    clear c21
    replace H:=yig H;obtain ⟨c22,H⟩:=H
    have c22b0:decide (0 < (l1.length:Int))=true:=decide_eq_true c22
    have c22b1:decide (0 < l1.length)=true:=decide_eq_true (by omega)
    clear c22
    replace H:=yig H;obtain ⟨c23,H⟩:=H
    have c23b0:decide (1 < (l1.length:Int))=true:=decide_eq_true c23
    have c23b1:decide (1 < l1.length)=true:=decide_eq_true (by omega)
    clear c23
    obtain rfl:=ysi H
    obtain ⟨hcz24_0,hcz24_1,hcz24_2,hfz24_0,hfz24_1,hfz24_2⟩:=ybc BK153.out
    have p157:0≤(0:Int):=(by omega)
    have q157:0 < (l1.length:Int):=ydt
    obtain ⟨ad157,e157,hx157_0⟩:=Kd.at_int HR1.out 0 p157 q157
    cases e157
    have qi157:(0 < l1.length)=True:=eq_true (by omega)
    (try rw [show ((0:Int)).toNat=0 from rfl] at hx157_0)
    (try rw [Addr.add_zero'] at hx157_0)
    replace hx157_0:=ybx HB.out hx157_0
    replace p157:=eq_true p157
    replace q157:=eq_true q157
    have p158:0≤(1:Int):=(by omega)
    have q158:1 < (l1.length:Int):=ydt
    obtain ⟨ad158,e158,hx158_0⟩:=Kd.at_int HR1.out 1 p158 q158
    obtain rfl:ad157=ad158:=(by injection e158)
    (try simp only [show (1:Int).toNat=1 from rfl,Nat.reduceMul,Nat.reduceEqDiff,Go.Addr.add,↓reduceIte] at hx158_0)
    have qi158:(1 < l1.length)=True:=eq_true (by omega)
    (try rw [show ((1:Int)).toNat=1 from rfl] at hx158_0)
    replace hx158_0:=ybx HB.out hx158_0
    replace p158:=eq_true p158
    replace q158:=eq_true q158
    go_wp2
    repeat (go_quiet (fail);try go_wp2)
    go_ret
    exact ⟨yer,yhb⟩
   have c21b0:(a0_0 == 4)=false:=beq_eq_false_iff_ne.mpr c21
   have c21b1:(a0_0 != 4)=true:=bne_iff_ne.mpr c21
   replace H:=yit H;obtain ⟨c25,H⟩ | ⟨c25,H⟩:=H
   rotate_left
   ·have c25b0:(a0_0 == 5)=false:=beq_eq_false_iff_ne.mpr c25
    have c25b1:(a0_0 != 5)=true:=bne_iff_ne.mpr c25
    obtain rfl:=ysi H
    obtain ⟨hcz30_0,hcz30_1,hcz30_2,hfz30_0,hfz30_1,hfz30_2⟩:=ybc BK153.out
    go_wp2
    repeat (go_quiet (fail);try go_wp2)
    go_ret
    exact ⟨yer,yhb⟩
   have c25b0:(a0_0 == 5)=true:=beq_iff_eq.mpr c25
   have c25b1:(a0_0 != 5)=false:=bne_eq_false_iff_eq.mpr c25
   clear c25
   replace H:=yig H;obtain ⟨c26,H⟩:=H
   have c26b0:decide (0 < (l1.length:Int))=true:=decide_eq_true c26
   have c26b1:decide (0 < l1.length)=true:=decide_eq_true (by omega)
   clear c26
   replace H:=yig H;obtain ⟨c27,H⟩:=H
   have c27b0:decide (1 < (l1.length:Int))=true:=decide_eq_true c27
   have c27b1:decide (1 < l1.length)=true:=decide_eq_true (by omega)
   clear c27
   obtain ⟨ji28,hji28⟩:∃ j_:Int,(mx (wrap64 ((rd l1 0) - (rd l1 1))) (wrap64 ((rd l1 1) - (rd l1 0))))=j_:=⟨_,rfl⟩
   replace H:(some ((ji28) == a0_2))=some r:=by first|(rw [hji28] at H;exact H)|(simp only [hji28] at H ⊢;exact H)
   have hji28_:(if (wrap64 ((rd l1 0) - (rd l1 1))) < (wrap64 ((rd l1 1) - (rd l1 0))) then (wrap64 ((rd l1 1) - (rd l1 0))) else (wrap64 ((rd l1 0) - (rd l1 1))))=ji28:=hji28
   obtain rfl:=ysi H
   obtain ⟨hcz29_0,hcz29_1,hcz29_2,hfz29_0,hfz29_1,hfz29_2⟩:=ybc BK153.out
   have p159:0≤(0:Int):=(by omega)
   have q159:0 < (l1.length:Int):=ydt
   obtain ⟨ad159,e159,hx159_0⟩:=Kd.at_int HR1.out 0 p159 q159
   cases e159
   have qi159:(0 < l1.length)=True:=eq_true (by omega)
   (try rw [show ((0:Int)).toNat=0 from rfl] at hx159_0)
   (try rw [Addr.add_zero'] at hx159_0)
   replace hx159_0:=ybx HB.out hx159_0
   replace p159:=eq_true p159
   replace q159:=eq_true q159
   have p160:0≤(1:Int):=(by omega)
   have q160:1 < (l1.length:Int):=ydt
   obtain ⟨ad160,e160,hx160_0⟩:=Kd.at_int HR1.out 1 p160 q160
   obtain rfl:ad159=ad160:=(by injection e160)
   (try simp only [show (1:Int).toNat=1 from rfl,Nat.reduceMul,Nat.reduceEqDiff,Go.Addr.add,↓reduceIte] at hx160_0)
   have qi160:(1 < l1.length)=True:=eq_true (by omega)
   (try rw [show ((1:Int)).toNat=1 from rfl] at hx160_0)
   replace hx160_0:=ybx HB.out hx160_0
   replace p160:=eq_true p160
   replace q160:=eq_true q160
   have p161:0≤(1:Int):=(by omega)
   have q161:1 < (l1.length:Int):=ydt
   obtain ⟨ad161,e161,hx161_0⟩:=Kd.at_int HR1.out 1 p161 q161
   obtain rfl:ad159=ad161:=(by injection e161)
   (try simp only [show (1:Int).toNat=1 from rfl,Nat.reduceMul,Nat.reduceEqDiff,Go.Addr.add,↓reduceIte] at hx161_0)
   have qi161:(1 < l1.length)=True:=eq_true (by omega)
   (try rw [show ((1:Int)).toNat=1 from rfl] at hx161_0)
   replace hx161_0:=ybx HB.out hx161_0
   replace p161:=eq_true p161
   replace q161:=eq_true q161
   have p162:0≤(0:Int):=(by omega)
   have q162:0 < (l1.length:Int):=ydt
   obtain ⟨ad162,e162,hx162_0⟩:=Kd.at_int HR1.out 0 p162 q162
   obtain rfl:ad159=ad162:=(by injection e162)
   have qi162:(0 < l1.length)=True:=eq_true (by omega)
   (try rw [show ((0:Int)).toNat=0 from rfl] at hx162_0)
   (try rw [Addr.add_zero'] at hx162_0)
   replace hx162_0:=ybx HB.out hx162_0
   replace p162:=eq_true p162
   replace q162:=eq_true q162
   go_wp2
   repeat (go_quiet (fail);try go_wp2)
   go_ret
   exact ⟨by first|rfl|(simp [errW_none,errW_some] <;> rfl)|(simp only [← hji28];first|rfl|(simp [errW_none,errW_some] <;> rfl))|(simp [*,errW_none,errW_some] <;> rfl),yhb⟩
  replace H:=yif H;obtain ⟨c5b0,H⟩:=H
  replace H:=yif H;obtain ⟨c6b0,H⟩:=H
  replace H:=yit H;obtain ⟨c7,H⟩ | ⟨c7,H⟩:=H
  rotate_left
  ·have c7b0:(a0_0 == 1)=false:=beq_eq_false_iff_ne.mpr c7
   have c7b1:(a0_0 != 1)=true:=bne_iff_ne.mpr c7
   replace H:=yam H
   obtain ⟨ad154,e154,hx154_0,p154,q154⟩:=yat HR1.out x11_1
   cases e154
   replace hx154_0:=ybx HB.out hx154_0
   obtain ⟨hcz16_0,hcz16_1,hcz16_2,hfz16_0,hfz16_1,hfz16_2⟩:=ybc BK153.out
   go_wp2
   repeat (go_quiet (fail);try go_wp2)
   go_roundg k1
   case measure=>have:=HK1.out;omega
   case rel=>exact ⟨(wrap64 (x5_1 + (rd l1 x11_1))),(wrap64 (x6_1 * (rd l1 x11_1))),(wrap64 (x11_1 + 1)),yeq,yeq,yeq,H,⟨by have:=HK1.out;omega⟩,⟨ybk BK153.out⟩,⟨yhb⟩⟩
  have c7b0:(a0_0 == 1)=true:=beq_iff_eq.mpr c7
  have c7b1:(a0_0 != 1)=false:=bne_eq_false_iff_eq.mpr c7
  clear c7
  have c8b0:=eq_true (ydt:0≤x11_1)
  replace H:=yig H;obtain ⟨c9,H⟩:=H
  have c9b0:=eq_true c9
  have c9b1:decide (x11_1≤(l1.length:Int))=true:=decide_eq_true c9
  clear c9
  replace H:=ybi H;obtain ⟨t156,A10,H⟩:=H
  try dsimp only at H
  cases t156
  rotate_left
  ·replace H:=ytt H
   obtain rfl:=ysi H
   obtain ⟨ad154,e154,hx154_0,p154,q154⟩:=yat HR1.out x11_1
   cases e154
   replace hx154_0:=ybx HB.out hx154_0
   obtain ⟨hcz12_0,hcz12_1,hcz12_2,hfz12_0,hfz12_1,hfz12_2⟩:=ybc BK153.out
   obtain ⟨i013,hi013,_,hsz13,_⟩:=info_parts info3
   obtain ⟨hcut13,hA13,hC13⟩:=print_take_of (P:=Try.prog) (Value.int .i64) 0 22 3 .i64 Try.underlying22 hi013 hsz13 (some ad154) c1 l1 x11_1 (ydt) (ydt) HC1.out
   have hl13_:(l1.take (x11_1:Int).toNat).length=(x11_1:Int).toNat:=by
    have e0_:0≤(x11_1:Int):=ydt
    have e1_:(x11_1:Int)≤(l1.length:Int):=ydt
    rw [List.length_take];omega
   have HR155:=yam (Kd.C_of_reads (h1:=fun _=>rfl) (hA13 _ (Kd.reads_of_C HR1.out)))
   have HC155:=yam hC13
   clear hA13 hC13 hi013 hsz13
   go_wp2_with (first|(go_at_call 89;(first|(with_reducible refine (slices_Contains_int_int.calls k1 _ _ (l1.take (x11_1:Int).toNat) (rd l1 x11_1) true _ ?side1 ?side2 A10.out).mono ?_)|(rw [← hl13_];(with_reducible refine (slices_Contains_int_int.calls k1 _ _ (l1.take (x11_1:Int).toNat) (rd l1 x11_1) true _ ?_ ?_ A10.out).mono ?_)));exact Kd.Cz ((Kd.C_below HR155.out HB.out));exact HC155.out;rintro e w' ⟨rfl,⟨nd,rfl⟩⟩;(try first|exact ⟨rfl,_,World.drewN_drewN _ _ _⟩|exact ⟨rfl,_,Eq.trans (World.drewN_drewN _ _ _) (congrArg (World.drewN _) (Nat.add_assoc _ _ _))⟩)))
   repeat (go_quiet (first|(go_at_call 89;(first|(with_reducible refine (slices_Contains_int_int.calls k1 _ _ (l1.take (x11_1:Int).toNat) (rd l1 x11_1) true _ ?side1 ?side2 A10.out).mono ?_)|(rw [← hl13_];(with_reducible refine (slices_Contains_int_int.calls k1 _ _ (l1.take (x11_1:Int).toNat) (rd l1 x11_1) true _ ?_ ?_ A10.out).mono ?_)));exact Kd.Cz ((Kd.C_below HR155.out HB.out));exact HC155.out;rintro e w' ⟨rfl,⟨nd,rfl⟩⟩;(try first|exact ⟨rfl,_,World.drewN_drewN _ _ _⟩|exact ⟨rfl,_,Eq.trans (World.drewN_drewN _ _ _) (congrArg (World.drewN _) (Nat.add_assoc _ _ _))⟩)));try go_wp2_with (first|(go_at_call 89;(first|(with_reducible refine (slices_Contains_int_int.calls k1 _ _ (l1.take (x11_1:Int).toNat) (rd l1 x11_1) true _ ?side1 ?side2 A10.out).mono ?_)|(rw [← hl13_];(with_reducible refine (slices_Contains_int_int.calls k1 _ _ (l1.take (x11_1:Int).toNat) (rd l1 x11_1) true _ ?_ ?_ A10.out).mono ?_)));exact Kd.Cz ((Kd.C_below HR155.out HB.out));exact HC155.out;rintro e w' ⟨rfl,⟨nd,rfl⟩⟩;(try first|exact ⟨rfl,_,World.drewN_drewN _ _ _⟩|exact ⟨rfl,_,Eq.trans (World.drewN_drewN _ _ _) (congrArg (World.drewN _) (Nat.add_assoc _ _ _))⟩))))
   go_ret
   exact ⟨yer,yhb⟩
  replace H:=yff H
  replace H:=yam H
  obtain ⟨ad154,e154,hx154_0,p154,q154⟩:=yat HR1.out x11_1
  cases e154
  replace hx154_0:=ybx HB.out hx154_0
  obtain ⟨hcz14_0,hcz14_1,hcz14_2,hfz14_0,hfz14_1,hfz14_2⟩:=ybc BK153.out
  obtain ⟨i015,hi015,_,hsz15,_⟩:=info_parts info3
  obtain ⟨hcut15,hA15,hC15⟩:=print_take_of (P:=Try.prog) (Value.int .i64) 0 22 3 .i64 Try.underlying22 hi015 hsz15 (some ad154) c1 l1 x11_1 (ydt) (ydt) HC1.out
  have hl15_:(l1.take (x11_1:Int).toNat).length=(x11_1:Int).toNat:=by
   have e0_:0≤(x11_1:Int):=ydt
   have e1_:(x11_1:Int)≤(l1.length:Int):=ydt
   rw [List.length_take];omega
  have HR155:=yam (Kd.C_of_reads (h1:=fun _=>rfl) (hA15 _ (Kd.reads_of_C HR1.out)))
  have HC155:=yam hC15
  clear hA15 hC15 hi015 hsz15
  go_wp2_with (first|(go_at_call 89;(first|(with_reducible refine (slices_Contains_int_int.calls k1 _ _ (l1.take (x11_1:Int).toNat) (rd l1 x11_1) false _ ?side1 ?side2 A10.out).mono ?_)|(rw [← hl15_];(with_reducible refine (slices_Contains_int_int.calls k1 _ _ (l1.take (x11_1:Int).toNat) (rd l1 x11_1) false _ ?_ ?_ A10.out).mono ?_)));exact Kd.Cz ((Kd.C_below HR155.out HB.out));exact HC155.out;rintro e w' ⟨rfl,⟨nd,rfl⟩⟩;(try first|exact ⟨rfl,_,World.drewN_drewN _ _ _⟩|exact ⟨rfl,_,Eq.trans (World.drewN_drewN _ _ _) (congrArg (World.drewN _) (Nat.add_assoc _ _ _))⟩)))
  repeat (go_quiet (first|(go_at_call 89;(first|(with_reducible refine (slices_Contains_int_int.calls k1 _ _ (l1.take (x11_1:Int).toNat) (rd l1 x11_1) false _ ?side1 ?side2 A10.out).mono ?_)|(rw [← hl15_];(with_reducible refine (slices_Contains_int_int.calls k1 _ _ (l1.take (x11_1:Int).toNat) (rd l1 x11_1) false _ ?_ ?_ A10.out).mono ?_)));exact Kd.Cz ((Kd.C_below HR155.out HB.out));exact HC155.out;rintro e w' ⟨rfl,⟨nd,rfl⟩⟩;(try first|exact ⟨rfl,_,World.drewN_drewN _ _ _⟩|exact ⟨rfl,_,Eq.trans (World.drewN_drewN _ _ _) (congrArg (World.drewN _) (Nat.add_assoc _ _ _))⟩)));try go_wp2_with (first|(go_at_call 89;(first|(with_reducible refine (slices_Contains_int_int.calls k1 _ _ (l1.take (x11_1:Int).toNat) (rd l1 x11_1) false _ ?side1 ?side2 A10.out).mono ?_)|(rw [← hl15_];(with_reducible refine (slices_Contains_int_int.calls k1 _ _ (l1.take (x11_1:Int).toNat) (rd l1 x11_1) false _ ?_ ?_ A10.out).mono ?_)));exact Kd.Cz ((Kd.C_below HR155.out HB.out));exact HC155.out;rintro e w' ⟨rfl,⟨nd,rfl⟩⟩;(try first|exact ⟨rfl,_,World.drewN_drewN _ _ _⟩|exact ⟨rfl,_,Eq.trans (World.drewN_drewN _ _ _) (congrArg (World.drewN _) (Nat.add_assoc _ _ _))⟩))))
  go_roundg k1
  case measure=>have:=HK1.out;omega
  case rel=>exact ⟨(wrap64 (x5_1 + (rd l1 x11_1))),(wrap64 (x6_1 * (rd l1 x11_1))),(wrap64 (x11_1 + 1)),yeq,yeq,yeq,H,⟨by have:=HK1.out;omega⟩,⟨ybk BK153.out⟩,⟨yhb⟩⟩
end Go.Proofs.Ytmjbnghhfadapaa.P
