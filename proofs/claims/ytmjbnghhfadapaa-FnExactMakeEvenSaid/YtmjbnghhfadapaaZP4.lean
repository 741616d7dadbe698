/- The machine's side: each Go function as a plain Lean function and the proof that the machine's call does what that function says; written by this session's own program over the kit's print. -/
import Derived.Test.YtmjbnghhfadapaaZP1
import Derived.Test.YtmjbnghhfadapaaZP3
namespace Go.Proofs.Ytmjbnghhfadapaa.P
set_option maxHeartbeats 8000000
set_option maxRecDepth 100000
open Go.RowKit Go.Proofs.YtmjbnghhfadapaaW.PrintWords Go.Proofs.YtmjbnghhfadapaaW.PrintLast Go.Proofs.YtmjbnghhfadapaaW.PrintMore
attribute [local go_sem] max2_int min2_int max_two min_two max_three min_three max_four min_four   -- for this text's walks alone
set_option linter.unusedVariables false
set_option linter.unusedSimpArgs false
def spec_l5Search.loop (fits:List Int→Option Bool)(f:List Int→List (List Int)→Option (List (List Int)))(g:List Int)(i:Nat)(most:Int):Nat→Int→List (List Int)→Option (List (List Int))
 | 0,_,out=>some out
 | n + 1,v,out=>if (out.length:Int) < most then (fits (g.set i v)).bind fun b=>(if b=true then (f (g.set i v) out).bind fun o=>spec_l5Search.loop fits f g i most n (v + 1) o else spec_l5Search.loop fits f g i most n (v + 1) out) else some out
def spec_l5Search.srch (k:Nat)(s:Int)(l1:List Int)(l2:List S73)(most:Int)(N:Nat):Nat→List Int→List (List Int)→Option (List (List Int))
 | 0,g,out=>if out.length≤100000 then some (out ++ [g]) else none
 | d + 1,g,out=>if 0 < rd g ((N:Int) - (d + 1:Nat)) then spec_l5Search.srch k s l1 l2 most N d g out else spec_l5Search.loop (fun g'=>spec_l5Fits.f k s l1 l2 g') (spec_l5Search.srch k s l1 l2 most N d) g ((N:Int) - (d + 1:Nat)).toNat most s.toNat 1 out
theorem below_of_grown {W w1:World}(hg:W.grownBy w1 none):Below W.heap.size W w1:=⟨hg.os,hg.tape,hg.output,hg.size,fun i hi=>hg.block i hi (by simp)⟩
theorem below_own {w W W':World}{row:Option Nat}(h:Below w.heap.size w W)(hg:W.grownBy W' row)(hr:∀ k,row=some k→w.heap.size≤k):Below w.heap.size w W':=pw_below_grown h row h.size hg hr
def spec_l5Search.OutB (p:Nat)(w0 w:World)(Pt:Nat→Prop)(out:List (List Int)):Prop:=∃ v,w.heap[p]?=some (.cells #[v] 78 (0,0))∧Kd.S (Kd.slice 3 (Kd.int .i64)) 22 w w0.heap.size (fun k=>¬ Pt k∧k≠p) v out
theorem spec_l5Search.OutB.below {p:Nat}{w0 w w':World}{Pt:Nat→Prop}{out:List (List Int)}(h:spec_l5Search.OutB p w0 w Pt out)(hb:Below w.heap.size w w'):spec_l5Search.OutB p w0 w' Pt out:=by
 obtain ⟨v,h1,h2⟩:=h
 exact ⟨v,blk_below h1 hb,Kd.S_below h2 hb⟩
theorem spec_l5Search.OutB.mono {p:Nat}{w0 w:World}{Pt Pt':Nat→Prop}{out:List (List Int)}(h:spec_l5Search.OutB p w0 w Pt out)(hp:∀ k,k < w.heap.size→Pt' k→Pt k):spec_l5Search.OutB p w0 w Pt' out:=by
 obtain ⟨v,h1,h2⟩:=h
 exact ⟨v,h1,Kd.S_mono (Kd.S_bound h2) (fun k hk=>⟨fun hq=>hk.1.1 (hp k hk.2.2.1 hq),hk.1.2⟩)⟩
theorem spec_l5Search.OutB.set {p g:Nat}{w0 w:World}{Pt:Nat→Prop}{out:List (List Int)}(h:spec_l5Search.OutB p w0 w Pt out)(hg:Pt g)(hne:p≠g)(j:Nat)(u:Value):spec_l5Search.OutB p w0 (w.setCell ⟨g,j,none⟩ u) Pt out:=by
 obtain ⟨v,h1,h2⟩:=h
 exact ⟨v,(Below.heap_setCell w ⟨g,j,none⟩ u p hne).trans h1,Kd.S_far (p:=⟨g,j,none⟩) h2 (fun k hk e=>hk.1 (by simp only at e;rw [e];exact hg)) u⟩
theorem spec_l5Search.clo (k:Nat)(s:Int)(A1:Option Addr)(c1:Nat)(l1:List Int)(A2:Option Addr)(c2:Nat)(l2:List S73)(most:Int)(N p:Nat)(w0:World)(hN:N≤100000)(hs4:s≤1000)(hp0:w0.heap.size≤p)(hc1:l1.length≤c1)(hc2:l2.length≤c2) :
  ∀ (d:Nat) (a:Int) (g:List Int) (A:Option Addr) (c:Nat) (out out':List (List Int)) (Pt:Nat→Prop) (w:World) (_:(N:Int) - d=a) (_:d≤N) (_:g.length=N) (_:∀ W,Agr Pt w W→Kd.C (Kd.int .i64) W A N g) (_:N≤c) (_:∀ W,Agr Pt w W→Kd.C (Kd.int .i64) W A1 l1.length l1) (_:∀ W,Agr Pt w W→Kd.C k73 W A2 l2.length l2) (_:∀ k,Pt k→k < w.heap.size) (_:¬ Pt p) (_:spec_l5Search.OutB p w0 w Pt out) (_:Below w0.heap.size w0 w) (_:spec_l5Search.srch k s l1 l2 most N d g out=some out'),
  Calls Try.prog 85 #[.agg #[.int .i64 s,.slice A1 l1.length c1,.slice A2 l2.length c2],.slice A N c,.int .i64 a,.int .i64 most,.pointer (some ⟨p,0,none⟩)] w fun e w'=>e= .returned (.tuple #[])∧spec_l5Search.OutB p w0 w' Pt out'∧Agr Pt w w'∧Below w0.heap.size w0 w':=by
 intro d
 have HN:=yam hN
 have HS4:=yam hs4
 have HP0:=yam hp0
 have HC1:=yam hc1
 have HC2:=yam hc2
 clear hN hs4 hp0 hc1 hc2
 induction d using Nat.strongRecOn with
 | _ d ih =>
 have IH:=yam ih
 clear ih
 intro a g A c out out' Pt w ha hd hl hr hc hr1 hr2 hPl hPp hO hB h
 have HAD:=yam (show (N:Int) - d=a∧d≤N from ⟨ha,hd⟩)
 have HL:=yam hl
 have HR:=yam hr
 have HC:=yam hc
 have HR1:=yam hr1
 have HR2:=yam hr2
 have HPL:=yam hPl
 have HPP:=yam hPp
 have HO:=yam hO
 have HB:=yam hB
 have HT:=yam h
 have hu:=Try.underlying37
 clear ha hd hl hr hc hr1 hr2 hPl hPp hO hB h
 go_enter Try.func85,Try.ntmps85
 go_wp2_with (first
  | (refine ybe 5 #[.int .i64 s,.slice A1 l1.length c1,.slice A2 l2.length c2] 37 ?_;intro gP hg w3 hbox hb;have BgP:=yam hbox;have HW:=yam hb;have HGP:=yam (show w.heap.size≤gP∧gP < w3.heap.size∧p < w.heap.size from ⟨Nat.le_of_eq hg.symm,blk_lt hbox,by obtain ⟨_,h_,_⟩:=HO.out;exact blk_lt h_⟩);have HO3:=yam ((HO.out.mono (Pt':=fun k_=>Pt k_∨k_=gP) (fun k_ hl_ hp_=>hp_.resolve_right (by omega))).below hb);clear hg hbox hb HO))
 (try simp only [Act.put,List.setIfInBounds_toArray,List.set_cons_zero,List.set_cons_succ])
 go_loopg [2] d (fun kq v2 w'=>∃ (i:Int),v2= .int .i64 i∧w'=w3∧Aside0 ((N:Int) - kq=i∧kq≤d)∧Aside0 (spec_l5Search.srch k s l1 l2 most N kq g out=some out'))
 case atStart=>exact ⟨a,rfl,rfl,⟨HAD.out.1,Nat.le_refl _⟩,HT⟩
 case round =>
  clear HT
  obtain ⟨i,rfl,rfl,HK,HT⟩:=hrel
  cases gk with
  | zero =>
   have hi:i=(N:Int):=by have:=HK.out;omega
   subst hi
   have hlt:decide ((N:Int) < (N:Int))=false:=decide_eq_false (by omega)
   have h:=HT.out
   clear HT
   unfold spec_l5Search.srch at h
   by_cases hol:out.length≤100000
   rotate_left
   ·rw [if_neg hol] at h
    cases h
   rw [if_pos hol] at h
   obtain rfl:=Option.some.inj h
   clear h
   have HOL:=yam hol
   clear hol
   obtain ⟨v0,hpb,hS⟩:=HO3.out
   obtain ⟨Av,cv,ev⟩:=Kd.S_slice hS
   subst ev
   have HP0_:=yam hpb
   have HS:=yam hS
   clear hpb hS HO3
   go_wp2
   refine start_ (n:=11) (S:=fun w'=>w'.cell? ⟨p,0,none⟩=some (.slice Av out.length cv)) (ds:=[10]) (yvb 11 0) (by kernel_rfl) rfl rfl ((blk_cell (show wr.drew.heap[p]?=_ from HP0_.out) 0).trans rfl) (fun hHeld=>?_)
   have n1_:=yam (show wr.drew.heap[p]?=_ from HP0_.out)
   have n2_:=yam (Kd.S_drew HS.out)
   have n3_:=yam (show Below w.heap.size w wr.drew from below_drew1 HW.out)
   clear HP0_ HS HW
   have n4_:=yam (show wr.heap.size≤wr.drew.heap.size from Nat.le_refl _)
   generalize wr.drew=w4 at n1_ n2_ n3_ n4_ hHeld ⊢
   have HZ0:=n4_
   clear n4_
   have HP:=n1_
   have HS:=n2_
   have HW:=n3_
   clear n1_ n2_ n3_
   refine pure_ (i:=0) (N:=some 29) (v:=?_) (a':=?_) (yvb 11 1) rfl rfl (by kernel_rfl) (fun _ _ _ h=>h) (Or.inl ⟨by rfl,?_⟩) ?_ ?_
   rotate_left
   ·intro w'
    go_simp
    with_reducible rfl
   rotate_left
   ·simp only [Act.put,yps,i64_w,i32_w]
    rfl
   refine pure_ (i:=1) (N:=some 30) (v:=?_) (a':=?_) (yvb 11 3) rfl rfl (by kernel_rfl) (fun _ _ _ h=>h) (Or.inl ⟨by rfl,?_⟩) ?_ ?_
   rotate_left
   ·intro w'
    go_simp
    with_reducible rfl
   rotate_left
   ·simp only [Act.put,yps,i64_w,i32_w]
    rfl
   refine pure_ (i:=2) (N:=some 31) (v:=?_) (a':=?_) (yvb 11 7) rfl rfl (by kernel_rfl) (fun _ _ _ h=>h) (Or.inl ⟨by rfl,?_⟩) ?_ ?_
   rotate_left
   ·intro w'
    go_simp
    with_reducible rfl
   rotate_left
   ·simp only [Act.put,yps,i64_w,i32_w]
    rfl
   refine take_ (i:=3) (N:=some 32) (v:=?_) (a':=?_) (yvb 11 15) rfl rfl (by kernel_rfl) (fun _ _ _ h=>h) (Or.inl ⟨by rfl,?_⟩) hHeld ?_ ?_
   rotate_left
   ·intro w' s0
    go_simp
    with_reducible rfl
   rotate_left
   ·simp only [Act.put,yps,i64_w,i32_w]
    rfl
   refine pure_ (i:=5) (N:=some 34) (v:=?_) (a':=?_) (yvb 11 47) rfl rfl (by kernel_rfl) (fun _ _ _ h=>h) (Or.inl ⟨by rfl,?_⟩) ?_ ?_
   rotate_left
   ·intro w'
    go_simp
    with_reducible rfl
   rotate_left
   ·simp only [Act.put,yps,i64_w,i32_w]
    rfl
   refine one_ (i:=4) (N:=some 33) (yvb 11 63) rfl rfl (by kernel_rfl) (by decide) (fun K hK=>?_)
   refine Kd.R_lit_step (Kd.int .i64) (w0:=w0) w0.heap.size 3 (by rfl) (N:=33) rfl (xs:=([]:List Int)) (inner:=[]) (ok:=fun k_=>w4.heap.size≤k_) (okp:=fun _=>False) (by first|(go_simp;done)|(go_simp;rfl)) (Reps.none _ _) (fun _ h_=>h_.elim) (Nat.le_refl _) (below_step HB.out HW.out) (Nat.le_trans HB.out.size HW.out.size) (by simp) ?_
   intro v33 w5 ho hb hg hat
   have hbl:Below w4.heap.size w4 w5:=below_of_grown hg
   have n1_:=yam (blk_below HP.out hbl)
   have n2_:=yam (Kd.S_below (Kd.S_bound HS.out) hbl)
   have n3_:=yam (below_step HW.out hbl)
   have n4_:=yam ho
   have n5_:=yam (show w.heap.size≤w4.heap.size∧w4.heap.size≤w5.heap.size from ⟨HW.out.size,hbl.size⟩)
   clear HP HS HW ho hb hg hat hbl
   have HP:=n1_
   have HS:=n2_
   have HW:=n3_
   have HV:=n4_
   have HZ:=n5_
   clear n1_ n2_ n3_ n4_ n5_
   obtain ⟨A33,c33,e33⟩:=Kd.R_slice HV.out
   subst e33
   refine hK.out _ _ ((blk_cell HP.out 0).trans rfl) (fun hHeld=>?_)
   clear hK K
   refine norm_ (a':=?_) ?_ ?_
   rotate_left
   ·show Act.put _ (some 33) _=_
    simp only [Act.put,yps,i64_w,i32_w]
    rfl
   refine one_ (i:=6) (N:=some 35) (yvb 11 127) rfl rfl (by kernel_rfl) (by decide) (fun K hK=>?_)
   refine Kd.R_append_rows_step (Kd.int .i64) (w0:=w0) w0.heap.size (by rfl) (.tmp 33) (.tmp 34) 22 3 (.int .i64 0) 8 rfl Try.underlying22 info3 rfl (by decide) (by omega) (.slice A33 ([]:List Int).length c33) [] g A N c (fun k_=>w4.heap.size≤k_) (fun _=>False) rfl rfl HV.out (HR.out w5 (Agr.of_below HW.out)) (fun _ _ h=>h) (fun _ h=>h.elim) (fun k_ h_=>Nat.le_trans HZ.out.2 h_) (below_step HB.out HW.out) (Nat.le_trans HB.out.size HW.out.size) (by have:=HN.out;simp only [List.length_nil];omega) ?_
   intro v35 w6 ho hb hg hat
   simp only [List.nil_append] at ho
   have hown:∀ k,(Value.slice A33 ([]:List Int).length c33).ownBlock=some k→w4.heap.size≤k:=fun k_ e_=>HV.out.1 k_ e_
   have n1_:=yam (blk_grown HP.out hg (fun e_=>by have:=hown p e_.symm;have:=HGP.out;have:=HZ.out;omega))
   have n2_:=yam (Kd.S_grown HS.out hg (fun k_ h_ e_=>by have:=hown k_ e_.symm;have:=h_.2.2.1;omega))
   have n3_:=yam (below_own HW.out hg (fun k_ e_=>by have:=hown k_ e_;have:=HZ.out;omega))
   have n4_:=yam ho
   have n5_:=yam (show w.heap.size≤w4.heap.size∧w4.heap.size≤w6.heap.size from ⟨HZ.out.1,Nat.le_trans HZ.out.2 hg.size⟩)
   clear HP HS HW HV HZ ho hb hg hat hown
   have HP:=n1_
   have HS:=n2_
   have HW:=n3_
   have HV:=n4_
   have HZ:=n5_
   clear n1_ n2_ n3_ n4_ n5_
   obtain ⟨A35,c35,e35⟩:=Kd.R_slice HV.out
   subst e35
   refine hK.out _ _ ((blk_cell HP.out 0).trans rfl) (fun hHeld=>?_)
   clear hK K
   refine norm_ (a':=?_) ?_ ?_
   rotate_left
   ·show Act.put _ (some 35) _=_
    simp only [Act.put,yps,i64_w,i32_w]
    rfl
   refine one_ (i:=7) (N:=some 36) (yvb 11 255) rfl rfl (by kernel_rfl) (by decide) (fun K hK=>?_)
   refine value_ (w1:=w6.alloc (.cells #[.slice A35 g.length c35] 22)) (v:= .slice (some ⟨w6.heap.size,0,none⟩) 1 1) (by rfl) rfl ?_ ?_
   ·go_simp
    first|done|rfl|(constructor <;> rfl)
   refine hK.out _ _ ((blk_cell (blk_alloc HP.out _) 0).trans rfl) (fun hHeld=>?_)
   clear hK K
   refine norm_ (a':=?_) ?_ ?_
   rotate_left
   ·show Act.put _ (some 36) _=_
    simp only [Act.put,yps,i64_w,i32_w]
    rfl
   refine one_ (i:=8) (N:=some 37) (yvb 11 511) rfl rfl (by kernel_rfl) (by decide) (fun K hK=>?_)
   refine Kd.S_append_step (Kd.slice 3 (Kd.int .i64)) (w0:=w0) w0.heap.size (by rfl) (.tmp 32) (.tmp 36) 78 22 (.slice none 0 0) 24 rfl Try.underlying78 info22 rfl (by decide) (by omega) (.slice Av out.length cv) out g [.slice A35 g.length c35] (fun k_=>¬ (Pt k_∨k_=gP)∧k_≠p) (fun k_=>some k_=(Value.slice A35 g.length c35).ownBlock) rfl rfl (Kd.M_row (Kd.R_tight rfl HV.out)) (fun k_ h_=>by
    have h1_:=HV.out.1 k_ h_.symm
    have h2_:=HGP.out
    have h3_:=HZ.out
    exact ⟨⟨fun hp_=>hp_.elim (fun hp_=>by have:=HPL.out k_ hp_;omega) (fun hp_=>by have:=HZ0.out;omega),by omega⟩,fun e_=>by have:=((Kd.S_R HS.out).1 k_ e_.symm).2.2.1;omega⟩) (fun k_ h_=>by
    have h2_:=HGP.out
    have h3_:=HZ.out
    exact ⟨fun hp_=>hp_.elim (fun hp_=>by have:=HPL.out k_ hp_;omega) (fun hp_=>by have:=HZ0.out;omega),by omega⟩) (Kd.S_mono HS.out (fun k_ h_=>⟨h_.1,fun e_=>by have:=HV.out.1 k_ e_.symm;have:=h_.2.2.1;omega⟩)) (below_step HB.out HW.out) (Nat.le_trans HB.out.size HW.out.size) (by have:=HOL.out;omega) ?_
   intro v37 w8 ho hb hg hat
   have hown:∀ k,(Value.slice Av out.length cv).ownBlock=some k→(¬ (Pt k∨k=gP)∧k≠p):=fun k_ e_=>((Kd.S_R HS.out).1 k_ e_).1
   have n1_:=yam (blk_grown HP.out hg (fun e_=>(hown p e_.symm).2 rfl))
   have n2_:=yam ho
   have n3_:=yam (show Agr Pt w w8 from ⟨Nat.le_trans HW.out.size hg.size,fun k_ hl_ hp_=>(hg.block k_ (Nat.lt_of_lt_of_le hl_ HW.out.size) (fun e_=>(hown k_ e_.symm).1 (.inl hp_))).trans (HW.out.block k_ hl_)⟩)
   have n4_:=yam hb
   clear HP HS HW HV ho hb hg hat hown
   have HP:=n1_
   have HS:=n2_
   have HA:=n3_
   have HB8:=n4_
   clear n1_ n2_ n3_ n4_
   obtain ⟨A37,c37,e37⟩:=Kd.S_slice HS.out
   subst e37
   refine hK.out _ _ ((blk_cell HP.out 0).trans rfl) (fun hHeld=>?_)
   clear hK K
   refine norm_ (a':=?_) ?_ ?_
   rotate_left
   ·show Act.put _ (some 37) _=_
    simp only [Act.put,yps,i64_w,i32_w]
    rfl
   refine pure_ (i:=9) (N:=some 38) (v:=?_) (a':=?_) (yvb 11 1023) rfl rfl (by kernel_rfl) (fun _ _ _ h=>h) (Or.inl ⟨by rfl,?_⟩) ?_ ?_
   rotate_left
   ·intro w'
    go_simp
    with_reducible rfl
   rotate_left
   ·simp only [Act.put,yps,i64_w,i32_w]
    rfl
   have hzf:=blk_frozen HP.out 0
   have hz:=hHeld
   refine last_ (i:=10) (N:=none) (yvb 11 2047) rfl rfl (by kernel_rfl) (by decide) (fun K hK=>?_)
   refine skip_ (w1:=w8.setCell ⟨p,0,none⟩ (.slice A37 (out ++ [g]).length c37)) (by rfl) rfl ?_ ?_
   ·go_simp
    first|done|rfl
   refine hK.out _ _ ?_
   clear hK K hz hzf hHeld
   have n1_:Aside0 (spec_l5Search.OutB p w0 (w8.setCell ⟨p,0,none⟩ (.slice A37 (out ++ [g]).length c37)) Pt (out ++ [g])):=⟨⟨_,by simpa using blk_set HP.out 0 (.slice A37 (out ++ [g]).length c37),Kd.S_far (p:=⟨p,0,none⟩) (Kd.S_mono HS.out (fun k_ h_=>⟨fun hp_=>h_.1 (.inl hp_),h_.2⟩)) (fun k_ h_=>h_.2) _⟩⟩
   have n2_:Aside0 (Agr Pt w (w8.setCell ⟨p,0,none⟩ (.slice A37 (out ++ [g]).length c37))):=⟨⟨by have:=HA.out.1;simpa [World.setCell] using this,fun k_ hl_ hp_=>(Below.heap_setCell w8 ⟨p,0,none⟩ _ k_ (fun e_=>HPP.out (by simp only at e_;rw [← e_];exact hp_))).trans (HA.out.2 k_ hl_ hp_)⟩⟩
   have n3_:Aside0 (Below w0.heap.size w0 (w8.setCell ⟨p,0,none⟩ (.slice A37 (out ++ [g]).length c37))):=⟨below_set HB8.out HP0.out⟩
   refine done_ (by kernel_rfl) ?_
   go_wp2
   first|go_end0|((try simp only [Exit.inBlock,Exit.then]);refine bodyPost_ret (results_none rfl _ _ _) rfl ?_)
   exact ⟨rfl,n1_.out,n2_.out,n3_.out⟩
  | succ q =>
   have h0:0≤i:=by have:=HK.out;have:=HAD.out;omega
   have h1:i < (N:Int):=by have:=HK.out;omega
   obtain ⟨ad,eA,hx⟩:=Kd.at_int (HR.out wr (Agr.of_below HW.out)) i h0 h1
   subst eA
   have hlt:decide (i < (N:Int))=true:=decide_eq_true h1
   have hae:(i == (N:Int))=false:=beq_eq_false_iff_ne.mpr (by omega)
   have hw1:wrap64 (i + 1)=i + 1:=by have:=HN.out;unfold wrap64;omega
   have hw2:IntKind.i64.wrap (i + 1)=i + 1:=by rw [i64_w];exact hw1
   have h:=HT.out
   clear HT
   unfold spec_l5Search.srch at h
   have hi:(N:Int) - ((q + 1:Nat):Int)=i:=HK.out.1
   rw [hi] at h
   have HI:=yam (show 0≤i∧i < (N:Int)∧(N:Int) - q=i + 1∧q < d from ⟨h0,h1,by omega,by have:=HK.out;omega⟩)
   have q0:=eq_true h0
   have q1:=eq_true h1
   clear h0 h1 hi
   by_cases hpos:0 < rd g i
   ·rw [if_pos hpos] at h
    have hpb:decide (0 < rd g i)=true:=decide_eq_true hpos
    have HT:=yam h
    clear h hpos
    go_wp2
    go_roundg q
    case measure=>omega
    case rel=>exact ⟨i + 1,rfl,rfl,⟨HI.out.2.2.1,by have:=HI.out;omega⟩,HT⟩
   ·rw [if_neg hpos] at h
    have hpb:decide (0 < rd g i)=false:=decide_eq_false hpos
    have HT:=yam h
    clear h hpos
    go_wp2
    have HA0:=yam (Agr.of_below (P:=Pt) HW.out)
    have HB0:=yam (below_step HB.out HW.out)
    clear hx hlt hae hpb hw1 hw2 q0 q1
    obtain ⟨sz,hsz⟩:∃ x,x=wr.heap.size:=⟨_,rfl⟩
    rw [← hsz] at HGP
    have HSZ0:=yam (Nat.le_of_eq hsz)
    clear hsz
    go_loopg [10] s.toNat (fun kq v10 w'=>∃ (v:Int) (o:List (List Int)),v10= .int .i64 v∧Aside0 (1≤v∧v + (kq:Int)=(s.toNat:Int) + 1)∧Aside0 (spec_l5Search.loop (fun g'=>spec_l5Fits.f k s l1 l2 g') (spec_l5Search.srch k s l1 l2 most N q) g i.toNat most kq v o=some out')∧Aside0 (w'.heap[gP]?=some (.cells #[.int .i64 s,.slice A1 l1.length c1,.slice A2 l2.length c2] 37 (0,0)))∧Aside0 (spec_l5Search.OutB p w0 w' (fun k_=>Pt k_∨k_=gP) o)∧Aside0 (Agr Pt w w')∧Aside0 (Below w0.heap.size w0 w')∧Aside0 (sz≤w'.heap.size))
    case atStart=>exact ⟨1,out,rfl,⟨by omega⟩,HT,BgP,HO3,HA0,HB0,HSZ0⟩
    case round =>
     clear HT BgP HO3 HA0 HB0 HSZ0 HW HB
     obtain ⟨v,o,rfl,HK2,HT,BP,HO4,HA,HB,HSZ⟩:=hrel
     obtain ⟨vv,hpb,hS⟩:=HO4.out
     obtain ⟨Av,cv,ev⟩:=Kd.S_slice hS
     subst ev
     have hcO:wr.cell? ⟨p,0,none⟩=some (.slice Av o.length cv):=(blk_cell hpb 0).trans rfl
     have hcP0:wr.cell? ⟨gP,0,none⟩=some (.int .i64 s):=(blk_cell BP.out 0).trans rfl
     clear hpb hS
     cases gk with
     | zero =>
      have h:=HT.out
      unfold spec_l5Search.loop at h
      obtain rfl:=Option.some.inj h
      clear HT h
      have hvb:decide (v≤s)=false:=decide_eq_false (by have:=HK2.out;omega)
      go_wp2
      first|go_end0|((try simp only [Exit.inBlock,Exit.then]);refine bodyPost_ret (results_none rfl _ _ _) rfl ?_)
      exact ⟨rfl,HO4.out.mono (fun _ _ hp_=> .inl hp_),HA.out,HB.out⟩
     | succ n =>
      have h:=HT.out
      clear HT
      unfold spec_l5Search.loop at h
      have hvb:decide (v≤s)=true:=decide_eq_true (by have:=HK2.out;omega)
      have hvw:wrap64 (v + 1)=v + 1:=by have:=HK2.out;have:=HS4.out;unfold wrap64;omega
      have hvw2:IntKind.i64.wrap (v + 1)=v + 1:=by rw [i64_w];exact hvw
      by_cases hm:(o.length:Int) < most
      rotate_left
      ·rw [if_neg hm] at h
       obtain rfl:=Option.some.inj h
       clear h
       have hmb:decide ((o.length:Int) < most)=false:=decide_eq_false hm
       clear hm
       go_wp2
       first|go_end0|((try simp only [Exit.inBlock,Exit.then]);refine bodyPost_ret (results_none rfl _ _ _) rfl ?_)
       exact ⟨rfl,HO4.out.mono (fun _ _ hp_=> .inl hp_),HA.out,HB.out⟩
      rw [if_pos hm] at h
      have hmb:decide ((o.length:Int) < most)=true:=decide_eq_true hm
      clear hm
      obtain ⟨b,hF,h⟩:=Option.bind_eq_some_iff.1 h
      have HF:=yam hF
      clear hF
      have h0:=HI.out.1
      have h1:=HI.out.2.1
      have q0:=eq_true h0
      have q1:=eq_true h1
      have hiw:wrap64 (i + 1)=i + 1:=by have:=HN.out;unfold wrap64;omega
      have hiw2:IntKind.i64.wrap (i + 1)=i + 1:=by rw [i64_w];exact hiw
      have hlt:decide (i < (N:Int))=true:=decide_eq_true h1
      clear h0 h1
      cases b with
      | false =>
       simp only [Bool.false_eq_true,if_false] at h
       have HT:=yam h
       clear h
       go_wp2_with (first
        | ((with_reducible refine gate_dst (N:=53) rfl ?_);refine Kd.R_lit (Kd.int .i64) (w0:=w0) w0.heap.size 3 ?hg (N:=53) ?hd (xs:=([]:List Int)) (inner:=[]) (ok:=fun k_=>wr.heap.size≤k_) (okp:=fun _=>False) ?hr ?hp (fun _ hk=>hk.elim) (Nat.le_refl _) HB.out HB.out.size (by simp) ?_;(case hd=>rfl);(case hg=>rfl);(case hr=>first|(go_simp;done)|(go_simp;rfl));(case hp=>exact (Reps.none _ _));intro v53 w53 ho hbb hg_ hnew_;have HWr:=yam (below_of_grown hg_);have HV:=yam ho;clear ho hbb hg_ hnew_ hcO hcP0;obtain ⟨A53,c53,e53⟩:=Kd.R_slice HV.out;subst e53)
        | ((with_reducible refine gate_builtin (b:= .append) (xs:= #[.tmp 53,.tmp 54]) rfl ?_);at_builtin;refine Kd.R_append_rows (Kd.int .i64) (w0:=w0) w0.heap.size rfl (.tmp 53) (.tmp 54) 22 3 (.int .i64 0) 8 rfl Try.underlying22 info3 rfl (by decide) (by omega) (.slice A53 ([]:List Int).length c53) [] g (some ad) N c (fun k_=>wr.heap.size≤k_) (fun _=>False) rfl rfl HV.out (HR.out w53 (HA.out.trans (Agr.of_below HWr.out))) (fun _ _ h=>h) (fun _ h=>h.elim) (fun k_ h_=>Nat.le_trans HWr.out.size h_) (below_step HB.out HWr.out) (Nat.le_trans HB.out.size HWr.out.size) (by have:=HN.out;simp only [List.length_nil];omega) ?_;intro v55 w55 ho hbb hg_ hat;simp only [List.nil_append] at ho;have n1_:=yam (below_own HWr.out hg_ (fun k_ e_=>HV.out.1 k_ e_));obtain ⟨gn,c55,e55,gb_,gl_,gx_⟩:=Kd.R_form ho (by have:=HI.out;have:=HL.out;omega);rw [HL.out] at e55;subst e55;have n2_:=yam (Kd.R_mono (Kd.R_tight rfl ho) (fun k_ h_=>by simpa [Value.ownBlock] using h_):Kd.R (Kd.int .i64) 3 w55 w0.heap.size (fun k_=>k_=gn) (.slice (some ⟨gn,0,none⟩) N c55) g);have n3_:=yam (show wr.heap.size≤gn∧gn < w55.heap.size from ⟨ho.1 gn rfl,gl_⟩);clear HV HWr ho hbb hg_ hat gb_ gl_ gx_;have HWr:=n1_;have HV:=n2_;have HGN:=n3_;clear n1_ n2_ n3_;obtain ⟨hxv0,hfv⟩:=Kd.R_celln 0 HV.out i HI.out.1 HI.out.2.1;have hxv:=hxv0.trans (rfl:_=some (Value.int .i64 (rd g i)));have HPO:=yam (Kd.R_putg HV.out i v);clear hxv0)
        | ((with_reducible refine gate_store (t:=3) (p:=59) rfl ?_);refine store_event (t:=3) (p:=59) (v:=?vo1) (w1:=w55.setCell ⟨gn,i.toNat,none⟩ (.int .i64 v)) ?hg ?ho ?hn ?hr ?_;(case ho=>rfl);(case hg=>rfl);(case hn=>rfl);(case hr=>first|(go_simp;done)|(go_simp;rfl));intro w59 hw;have n1_:Aside0 (Below wr.heap.size wr w59):=⟨by rw [hw];exact below_set HWr.out HGN.out.1⟩;have n2_:Aside0 (Kd.R (Kd.int .i64) 3 w59 w0.heap.size (fun k_=>k_=gn) (.slice (some ⟨gn,0,none⟩) N c55) (g.set i.toNat v)):=⟨by rw [hw];exact HPO.out.1⟩;have n3_:Aside0 (wr.heap.size≤gn∧gn < w59.heap.size):=⟨by have:=HGN.out;rw [hw];simpa [World.setCell] using this⟩;clear HWr HV HGN HPO hxv hfv hw;have HWr:=n1_;have HV:=n2_;have HGN:=n3_;clear n1_ n2_ n3_;have hcP0:w59.cell? ⟨gP,0,none⟩=some (.int .i64 s):=(blk_cell (blk_below BP.out HWr.out) 0).trans rfl;have hcP1:w59.cell? ⟨gP,1,none⟩=some (.slice A1 l1.length c1):=(blk_cell (blk_below BP.out HWr.out) 1).trans rfl;have hcP2:w59.cell? ⟨gP,2,none⟩=some (.slice A2 l2.length c2):=(blk_cell (blk_below BP.out HWr.out) 2).trans rfl)
        | (refine goesL_ (some 62) rfl rfl Try.func90 (by kernel_rfl) rfl #[.agg #[.int .i64 s,.slice A1 l1.length c1,.slice A2 l2.length c2],.slice (some ⟨gn,0,none⟩) (g.set i.toNat v).length c55] rfl (by (try simp only [List.map_toArray,List.map_cons,List.map_nil]);rw [List.length_set,HL.out];rfl) ?_;(with_reducible refine (spec_l5Fits.calls k s _ _ l1 _ _ l2 _ _ (g.set i.toNat v) false w59 (HR1.out _ (HA.out.trans (Agr.of_below HWr.out))) HC1.out (HR2.out _ (HA.out.trans (Agr.of_below HWr.out))) HC2.out (Kd.R_reads' HV.out).2.2 (by rw [List.length_set,HL.out];exact (Kd.R_reads' HV.out).2.1) HF.out).mono ?_);rintro e w62 ⟨rfl,hb⟩;refine ⟨_,rfl,?_⟩;replace HV:=yam (Kd.R_below HV.out hb);have HGN_:=HGN.out;clear HGN;have HGN:=yam (show wr.heap.size≤gn∧gn < w62.heap.size from ⟨HGN_.1,Nat.lt_of_lt_of_le HGN_.2 hb.size⟩);replace HWr:=yam (below_step HWr.out hb);clear hb HGN_ hcP0 hcP1 hcP2;have hcP0:w62.cell? ⟨gP,0,none⟩=some (.int .i64 s):=(blk_cell (blk_below BP.out HWr.out) 0).trans rfl;have hcP1:w62.cell? ⟨gP,1,none⟩=some (.slice A1 l1.length c1):=(blk_cell (blk_below BP.out HWr.out) 1).trans rfl;have hcP2:w62.cell? ⟨gP,2,none⟩=some (.slice A2 l2.length c2):=(blk_cell (blk_below BP.out HWr.out) 2).trans rfl))
       go_roundg n
       case measure=>omega
       case rel=>exact ⟨v + 1,o,rfl,⟨by have:=HK2.out;omega⟩,HT,⟨blk_below BP.out HWr.out⟩,⟨HO4.out.below HWr.out⟩,⟨HA.out.trans (Agr.of_below HWr.out)⟩,⟨below_step HB.out HWr.out⟩,⟨Nat.le_trans HSZ.out HWr.out.size⟩⟩
      | true =>
       simp only [if_true] at h
       obtain ⟨o2,hsr,h⟩:=Option.bind_eq_some_iff.1 h
       have HSR:=yam hsr
       have HT:=yam h
       clear h hsr
       go_wp2_with (first
        | ((with_reducible refine gate_dst (N:=53) rfl ?_);refine Kd.R_lit (Kd.int .i64) (w0:=w0) w0.heap.size 3 ?hg (N:=53) ?hd (xs:=([]:List Int)) (inner:=[]) (ok:=fun k_=>wr.heap.size≤k_) (okp:=fun _=>False) ?hr ?hp (fun _ hk=>hk.elim) (Nat.le_refl _) HB.out HB.out.size (by simp) ?_;(case hd=>rfl);(case hg=>rfl);(case hr=>first|(go_simp;done)|(go_simp;rfl));(case hp=>exact (Reps.none _ _));intro v53 w53 ho hbb hg_ hnew_;have HWr:=yam (below_of_grown hg_);have HV:=yam ho;clear ho hbb hg_ hnew_ hcO hcP0;obtain ⟨A53,c53,e53⟩:=Kd.R_slice HV.out;subst e53)
        | ((with_reducible refine gate_builtin (b:= .append) (xs:= #[.tmp 53,.tmp 54]) rfl ?_);at_builtin;refine Kd.R_append_rows (Kd.int .i64) (w0:=w0) w0.heap.size rfl (.tmp 53) (.tmp 54) 22 3 (.int .i64 0) 8 rfl Try.underlying22 info3 rfl (by decide) (by omega) (.slice A53 ([]:List Int).length c53) [] g (some ad) N c (fun k_=>wr.heap.size≤k_) (fun _=>False) rfl rfl HV.out (HR.out w53 (HA.out.trans (Agr.of_below HWr.out))) (fun _ _ h=>h) (fun _ h=>h.elim) (fun k_ h_=>Nat.le_trans HWr.out.size h_) (below_step HB.out HWr.out) (Nat.le_trans HB.out.size HWr.out.size) (by have:=HN.out;simp only [List.length_nil];omega) ?_;intro v55 w55 ho hbb hg_ hat;simp only [List.nil_append] at ho;have n1_:=yam (below_own HWr.out hg_ (fun k_ e_=>HV.out.1 k_ e_));obtain ⟨gn,c55,e55,gb_,gl_,gx_⟩:=Kd.R_form ho (by have:=HI.out;have:=HL.out;omega);rw [HL.out] at e55;subst e55;have n2_:=yam (Kd.R_mono (Kd.R_tight rfl ho) (fun k_ h_=>by simpa [Value.ownBlock] using h_):Kd.R (Kd.int .i64) 3 w55 w0.heap.size (fun k_=>k_=gn) (.slice (some ⟨gn,0,none⟩) N c55) g);have n3_:=yam (show wr.heap.size≤gn∧gn < w55.heap.size from ⟨ho.1 gn rfl,gl_⟩);clear HV HWr ho hbb hg_ hat gb_ gl_ gx_;have HWr:=n1_;have HV:=n2_;have HGN:=n3_;clear n1_ n2_ n3_;obtain ⟨hxv0,hfv⟩:=Kd.R_celln 0 HV.out i HI.out.1 HI.out.2.1;have hxv:=hxv0.trans (rfl:_=some (Value.int .i64 (rd g i)));have HPO:=yam (Kd.R_putg HV.out i v);clear hxv0)
        | ((with_reducible refine gate_store (t:=3) (p:=59) rfl ?_);refine store_event (t:=3) (p:=59) (v:=?vo2) (w1:=w55.setCell ⟨gn,i.toNat,none⟩ (.int .i64 v)) ?hg ?ho ?hn ?hr ?_;(case ho=>rfl);(case hg=>rfl);(case hn=>rfl);(case hr=>first|(go_simp;done)|(go_simp;rfl));intro w59 hw;have n1_:Aside0 (Below wr.heap.size wr w59):=⟨by rw [hw];exact below_set HWr.out HGN.out.1⟩;have n2_:Aside0 (Kd.R (Kd.int .i64) 3 w59 w0.heap.size (fun k_=>k_=gn) (.slice (some ⟨gn,0,none⟩) N c55) (g.set i.toNat v)):=⟨by rw [hw];exact HPO.out.1⟩;have n3_:Aside0 (wr.heap.size≤gn∧gn < w59.heap.size):=⟨by have:=HGN.out;rw [hw];simpa [World.setCell] using this⟩;clear HWr HV HGN HPO hxv hfv hw;have HWr:=n1_;have HV:=n2_;have HGN:=n3_;clear n1_ n2_ n3_;have hcP0:w59.cell? ⟨gP,0,none⟩=some (.int .i64 s):=(blk_cell (blk_below BP.out HWr.out) 0).trans rfl;have hcP1:w59.cell? ⟨gP,1,none⟩=some (.slice A1 l1.length c1):=(blk_cell (blk_below BP.out HWr.out) 1).trans rfl;have hcP2:w59.cell? ⟨gP,2,none⟩=some (.slice A2 l2.length c2):=(blk_cell (blk_below BP.out HWr.out) 2).trans rfl)
        | (refine goesL_ (some 62) rfl rfl Try.func90 (by kernel_rfl) rfl #[.agg #[.int .i64 s,.slice A1 l1.length c1,.slice A2 l2.length c2],.slice (some ⟨gn,0,none⟩) (g.set i.toNat v).length c55] rfl (by (try simp only [List.map_toArray,List.map_cons,List.map_nil]);rw [List.length_set,HL.out];rfl) ?_;(with_reducible refine (spec_l5Fits.calls k s _ _ l1 _ _ l2 _ _ (g.set i.toNat v) true w59 (HR1.out _ (HA.out.trans (Agr.of_below HWr.out))) HC1.out (HR2.out _ (HA.out.trans (Agr.of_below HWr.out))) HC2.out (Kd.R_reads' HV.out).2.2 (by rw [List.length_set,HL.out];exact (Kd.R_reads' HV.out).2.1) HF.out).mono ?_);rintro e w62 ⟨rfl,hb⟩;refine ⟨_,rfl,?_⟩;replace HV:=yam (Kd.R_below HV.out hb);have HGN_:=HGN.out;clear HGN;have HGN:=yam (show wr.heap.size≤gn∧gn < w62.heap.size from ⟨HGN_.1,Nat.lt_of_lt_of_le HGN_.2 hb.size⟩);replace HWr:=yam (below_step HWr.out hb);clear hb HGN_ hcP0 hcP1 hcP2;have hcP0:w62.cell? ⟨gP,0,none⟩=some (.int .i64 s):=(blk_cell (blk_below BP.out HWr.out) 0).trans rfl;have hcP1:w62.cell? ⟨gP,1,none⟩=some (.slice A1 l1.length c1):=(blk_cell (blk_below BP.out HWr.out) 1).trans rfl;have hcP2:w62.cell? ⟨gP,2,none⟩=some (.slice A2 l2.length c2):=(blk_cell (blk_below BP.out HWr.out) 2).trans rfl)
        | (refine goesL_ (some 69) rfl rfl Try.func85 (by kernel_rfl) rfl #[.agg #[.int .i64 s,.slice A1 l1.length c1,.slice A2 l2.length c2],.slice (some ⟨gn,0,none⟩) N c55,.int .i64 (i + 1),.int .i64 most,.pointer (some ⟨p,0,none⟩)] rfl yma ?_;(refine (IH.out q HI.out.2.2.2 (i + 1) (g.set i.toNat v) (some ⟨gn,0,none⟩) c55 o o2 (fun k_=>Pt k_∨k_=gP∨k_=gn) w62 HI.out.2.2.1 (by have:=HI.out;have:=HAD.out;omega) (by rw [List.length_set];exact HL.out) (fun W_ h_=>by have q_:=Kd.R_reads' (Agr.R HV.out h_ (fun k_ e_=> .inr (.inr e_)));have e_:=q_.1;rw [e_];exact q_.2.2) (Kd.R_reads' HV.out).2.1 (fun W_ h_=>HR1.out W_ ((HA.out.trans (Agr.of_below HWr.out)).trans (h_.mono (fun _ _ hp_=> .inl hp_)))) (fun W_ h_=>HR2.out W_ ((HA.out.trans (Agr.of_below HWr.out)).trans (h_.mono (fun _ _ hp_=> .inl hp_)))) (fun k_ hp_=>hp_.elim (fun hp_=>by have h1_:=HPL.out k_ hp_;have h2_:=HA.out.1;have h3_:=HWr.out.size;omega) (fun hp_=>hp_.elim (fun hp_=>by have h1_:=HSZ.out;have h2_:=HWr.out.size;have h3_:=HGP.out;omega) (fun hp_=>by have:=HGN.out;omega))) (fun hp_=>hp_.elim HPP.out (fun hp_=>hp_.elim (fun hp_=>by have:=HGP.out;omega) (fun hp_=>by have h1_:=HGP.out;have h2_:=HGN.out;have h3_:=HA.out.1;omega))) ((HO4.out.mono (Pt':=(fun k_=>Pt k_∨k_=gP∨k_=gn)) (fun k_ hl_ hp_=>hp_.elim .inl (fun hp_=>hp_.elim .inr (fun hp_=>by have:=HGN.out;omega)))).below HWr.out) (below_step HB.out HWr.out) HSR.out).mono ?_);rintro e w69 ⟨rfl,hO2,hA2,hB2⟩;refine ⟨_,rfl,?_⟩;have n1_:=yam (Agr.blk (blk_below BP.out HWr.out) hA2 (.inr (.inl rfl)));have n2_:=yam (hO2.mono (Pt':=(fun k_=>Pt k_∨k_=gP)) (fun _ _ hp_=>hp_.elim .inl (fun hp_=> .inr (.inl hp_))));have n3_:=yam ((HA.out.trans (Agr.of_below HWr.out)).trans (hA2.mono (fun _ _ hp_=> .inl hp_)));have n4_:=yam hB2;have n5_:=yam (Nat.le_trans HSZ.out (Nat.le_trans HWr.out.size hA2.1));clear hO2 hA2 hB2 HWr HV HGN hcP0 hcP1 hcP2))
       go_roundg n
       case measure=>omega
       case rel=>exact ⟨v + 1,o2,rfl,⟨by have:=HK2.out;omega⟩,HT,n1_,n2_,n3_,n4_,n5_⟩
def spec_l5Search.f (k:Nat):Option Unit:=none
theorem spec_l5Search.calls:True:=trivial
def spec_l5All.f (k:Nat)(a0_0:Int)(l0_1:List Int)(l0_2:List S73)(a1:Int):Option (List (List Int)):=(spec_PuzzleFits.f k a0_0 l0_1 l0_2 l0_1).bind fun b=>(if b=true then (if l0_1.length≤100000∧a0_0≤1000 then spec_l5Search.srch k a0_0 l0_1 l0_2 a1 l0_1.length l0_1.length l0_1 [] else none) else some [])
theorem spec_l5All.calls (k:Nat)(a0_0:Int)(A0_1:Option Addr)(c0_1:Nat)(l0_1:List Int)(A0_2:Option Addr)(c0_2:Nat)(l0_2:List S73)(a1:Int)(r:List (List Int))(w:World)(hr0_1:Kd.C (Kd.int .i64) w A0_1 l0_1.length l0_1)(hc0_1:l0_1.length≤c0_1)(hr0_2:Kd.C k73 w A0_2 l0_2.length l0_2)(hc0_2:l0_2.length≤c0_2)(h:spec_l5All.f k a0_0 l0_1 l0_2 a1=some r) :
  Calls Try.prog 63 #[.agg #[.int .i64 a0_0,.slice A0_1 l0_1.length c0_1,.slice A0_2 l0_2.length c0_2],.int .i64 a1] w fun e w'=>∃ v0_:Value,e= .returned (v0_)∧Kd.S (Kd.slice 3 (Kd.int .i64)) 22 w' w.heap.size (fun _=>True) v0_ r∧Below w.heap.size w w':=by
 unfold spec_l5All.f at h
 obtain ⟨b,hF,h⟩:=Option.bind_eq_some_iff.1 h
 have HF:=yam hF
 have HS_:=yam h
 have HR1:=yam hr0_1
 have HC1:=yam hc0_1
 have HR2:=yam hr0_2
 have HC2:=yam hc0_2
 have hu:=Try.underlying37
 clear h hF hr0_1 hc0_1 hr0_2 hc0_2
 go_enter Try.func63,Try.ntmps63
 cases b with
 | false =>
  have HE:=HS_.out
  clear HS_
  simp only [Bool.false_eq_true,if_false] at HE
  obtain rfl:=ysi HE
  clear HE
  go_wp2_with (first
    | (refine ybe 2 #[.int .i64 a0_0,.slice A0_1 l0_1.length c0_1,.slice A0_2 l0_2.length c0_2] 37 ?_;intro gP hg w3 hbox hb;have BgP:=yam hbox;have HW:=yam hb;have HO:=yam (show w.heap.size≤gP∧gP < w3.heap.size from ⟨Nat.le_of_eq hg.symm,blk_lt hbox⟩);clear hg hbox hb)
    | ((with_reducible refine gate_dst (N:=6) rfl ?_);refine Kd.S_lit (Kd.slice 3 (Kd.int .i64)) _ 22 ?hg (N:=6) ?hd (xs:=([]:List (List Int))) (inner:=[]) (ok:=fun k_=>k_=w3.heap.size) (okp:=fun _=>False) ?hr ?hp (fun _ hk=>hk.elim) rfl (Below.refl _ _) (Nat.le_refl _) (by simp) ?_;(case hd=>rfl);(case hg=>rfl);(case hr=>first|(go_simp;done)|(go_simp;rfl));(case hp=>exact (Reps.none _ _));intro v8 w8 ho hb hg_ hnew_;clear hg_;obtain ⟨b_,e_,l_⟩:=hnew_;have l2_:=Kd.S_lt ho b_ e_;have HS:=yam (Kd.S_lower ho HW.out.size);replace BgP:=yam (blk_below BgP.out hb);replace HW:=yam (below_step HW.out hb);have HO_:=HO.out;clear HO;have HO:=yam (show w.heap.size≤gP∧gP < w3.heap.size∧w3.heap.size < w8.heap.size from ⟨HO_.1,HO_.2,by omega⟩);clear HO_ ho hb e_ l_ l2_;obtain ⟨A8,c8,e8⟩:=Kd.S_slice HS.out;subst e8)
    | (refine ybe 5 #[.slice none 0 0] 78 ?_;intro gO hg w9 hbox hb;have BgO:=yam hbox;replace BgP:=yam (blk_below BgP.out hb);replace HW:=yam (below_step HW.out hb);replace HS:=yam (Kd.S_below (Kd.S_bound HS.out) hb);have HO_:=HO.out;clear HO;have HO:=yam (show w.heap.size≤gP∧gP < w3.heap.size∧w3.heap.size < w8.heap.size∧w8.heap.size≤gO∧gO < w9.heap.size from ⟨HO_.1,HO_.2.1,HO_.2.2,Nat.le_of_eq hg.symm,blk_lt hbox⟩);have hz:w9.cell? ⟨gO,0,none⟩=some (.slice none 0 0):=(blk_cell hbox 0).trans rfl;have hzf:=blk_frozen hbox 0;clear HO_ hg hbox hb)
    | ((with_reducible refine gate_store (t:=78) (p:=5) rfl ?_);refine store_event (t:=78) (p:=5) (v:=?vo1) (w1:=w9.setCell ⟨gO,0,none⟩ (.slice A8 ([]:List (List Int)).length c8)) ?hg ?ho ?hn ?hr ?_;(case ho=>rfl);(case hg=>rfl);(case hn=>rfl);(case hr=>first|(go_simp;done)|(go_simp;rfl));intro w10 hw;replace BgP:=yam (far1 hw BgP.out (by have:=HO.out;omega));replace BgO:Aside0 (w10.heap[gO]?=some (.cells #[.slice A8 ([]:List (List Int)).length c8] 78 (0,0))):=⟨by rw [hw];simpa using blk_set BgO.out 0 (.slice A8 ([]:List (List Int)).length c8)⟩;replace HW:Aside0 (Below w.heap.size w w10):=⟨by rw [hw];exact below_set HW.out (by have:=HO.out;omega)⟩;replace HS:Aside0 (Kd.S (Kd.slice 3 (Kd.int .i64)) 22 w10 w.heap.size (fun k_=>k_=w3.heap.size) (.slice A8 ([]:List (List Int)).length c8) []):=⟨by rw [hw];exact Kd.S_mono (Kd.S_far (p:=⟨gO,0,none⟩) HS.out (fun k_ h_ e_=>by have:=h_.2.2.1;have:=HO.out;simp only at e_;omega) _) (fun _ h_=>h_.1)⟩;have HO2:=yam (show w3.heap.size < gO from by have h1_:=HO.out;omega);replace HO:Aside0 (w.heap.size≤gP∧gP < w3.heap.size∧w3.heap.size≤gO∧gO < w10.heap.size):=⟨by have:=HO.out;rw [hw];simp only [World.setCell];(try simp);omega⟩;clear hz hzf hw;have hp0:w10.cell? ⟨gP,0,none⟩=some (.int .i64 a0_0):=(blk_cell BgP.out 0).trans rfl;have hp1:w10.cell? ⟨gP,1,none⟩=some (.slice A0_1 l0_1.length c0_1):=(blk_cell BgP.out 1).trans rfl;have hp2:w10.cell? ⟨gP,2,none⟩=some (.slice A0_2 l0_2.length c0_2):=(blk_cell BgP.out 2).trans rfl)
    | (refine goesL_ (some 10) rfl rfl Try.func79 (by kernel_rfl) rfl #[.agg #[.int .i64 a0_0,.slice A0_1 l0_1.length c0_1,.slice A0_2 l0_2.length c0_2],.slice A0_1 l0_1.length c0_1] rfl yma ?_;(with_reducible refine (spec_PuzzleFits.calls k a0_0 _ _ l0_1 _ _ l0_2 _ _ l0_1 false w10 (Kd.C_below HR1.out HW.out) HC1.out (Kd.C_below HR2.out HW.out) HC2.out (Kd.C_below HR1.out HW.out) HC1.out HF.out).mono ?_);rintro e w11 ⟨rfl,hb⟩;refine ⟨_,rfl,?_⟩;replace BgP:=yam (blk_below BgP.out hb);replace BgO:=yam (blk_below BgO.out hb);replace HW:=yam (below_step HW.out hb);replace HS:=yam (Kd.S_below (Kd.S_bound HS.out) hb);replace HO:=yam (show w.heap.size≤gP∧gP < w3.heap.size∧w3.heap.size≤gO∧gO < w11.heap.size from ⟨HO.out.1,HO.out.2.1,HO.out.2.2.1,Nat.lt_of_lt_of_le HO.out.2.2.2 hb.size⟩);clear hp0 hp1 hp2 hb;have hp0:w11.cell? ⟨gP,0,none⟩=some (.int .i64 a0_0):=(blk_cell BgP.out 0).trans rfl;have hp1:w11.cell? ⟨gP,1,none⟩=some (.slice A0_1 l0_1.length c0_1):=(blk_cell BgP.out 1).trans rfl;have hp2:w11.cell? ⟨gP,2,none⟩=some (.slice A0_2 l0_2.length c0_2):=(blk_cell BgP.out 2).trans rfl;have hcO:w11.cell? ⟨gO,0,none⟩=some (.slice A8 ([]:List (List Int)).length c8):=(blk_cell BgO.out 0).trans rfl))
  go_ret
  exact ⟨_,rfl,Kd.S_mono HS.out (fun _ _=>trivial),HW.out⟩
 | true =>
  have HE:=HS_.out
  clear HS_
  simp only [if_true] at HE
  by_cases hg:l0_1.length≤100000∧a0_0≤1000
  rotate_left
  ·rw [if_neg hg] at HE
   cases HE
  rw [if_pos hg] at HE
  have HG:=yam hg
  have HS_:=yam HE
  clear hg
  clear HE
  go_wp2_with (first
    | (refine ybe 2 #[.int .i64 a0_0,.slice A0_1 l0_1.length c0_1,.slice A0_2 l0_2.length c0_2] 37 ?_;intro gP hg w3 hbox hb;have BgP:=yam hbox;have HW:=yam hb;have HO:=yam (show w.heap.size≤gP∧gP < w3.heap.size from ⟨Nat.le_of_eq hg.symm,blk_lt hbox⟩);clear hg hbox hb)
    | ((with_reducible refine gate_dst (N:=6) rfl ?_);refine Kd.S_lit (Kd.slice 3 (Kd.int .i64)) _ 22 ?hg (N:=6) ?hd (xs:=([]:List (List Int))) (inner:=[]) (ok:=fun k_=>k_=w3.heap.size) (okp:=fun _=>False) ?hr ?hp (fun _ hk=>hk.elim) rfl (Below.refl _ _) (Nat.le_refl _) (by simp) ?_;(case hd=>rfl);(case hg=>rfl);(case hr=>first|(go_simp;done)|(go_simp;rfl));(case hp=>exact (Reps.none _ _));intro v8 w8 ho hb hg_ hnew_;clear hg_;obtain ⟨b_,e_,l_⟩:=hnew_;have l2_:=Kd.S_lt ho b_ e_;have HS:=yam (Kd.S_lower ho HW.out.size);replace BgP:=yam (blk_below BgP.out hb);replace HW:=yam (below_step HW.out hb);have HO_:=HO.out;clear HO;have HO:=yam (show w.heap.size≤gP∧gP < w3.heap.size∧w3.heap.size < w8.heap.size from ⟨HO_.1,HO_.2,by omega⟩);clear HO_ ho hb e_ l_ l2_;obtain ⟨A8,c8,e8⟩:=Kd.S_slice HS.out;subst e8)
    | (refine ybe 5 #[.slice none 0 0] 78 ?_;intro gO hg w9 hbox hb;have BgO:=yam hbox;replace BgP:=yam (blk_below BgP.out hb);replace HW:=yam (below_step HW.out hb);replace HS:=yam (Kd.S_below (Kd.S_bound HS.out) hb);have HO_:=HO.out;clear HO;have HO:=yam (show w.heap.size≤gP∧gP < w3.heap.size∧w3.heap.size < w8.heap.size∧w8.heap.size≤gO∧gO < w9.heap.size from ⟨HO_.1,HO_.2.1,HO_.2.2,Nat.le_of_eq hg.symm,blk_lt hbox⟩);have hz:w9.cell? ⟨gO,0,none⟩=some (.slice none 0 0):=(blk_cell hbox 0).trans rfl;have hzf:=blk_frozen hbox 0;clear HO_ hg hbox hb)
    | ((with_reducible refine gate_store (t:=78) (p:=5) rfl ?_);refine store_event (t:=78) (p:=5) (v:=?vo2) (w1:=w9.setCell ⟨gO,0,none⟩ (.slice A8 ([]:List (List Int)).length c8)) ?hg ?ho ?hn ?hr ?_;(case ho=>rfl);(case hg=>rfl);(case hn=>rfl);(case hr=>first|(go_simp;done)|(go_simp;rfl));intro w10 hw;replace BgP:=yam (far1 hw BgP.out (by have:=HO.out;omega));replace BgO:Aside0 (w10.heap[gO]?=some (.cells #[.slice A8 ([]:List (List Int)).length c8] 78 (0,0))):=⟨by rw [hw];simpa using blk_set BgO.out 0 (.slice A8 ([]:List (List Int)).length c8)⟩;replace HW:Aside0 (Below w.heap.size w w10):=⟨by rw [hw];exact below_set HW.out (by have:=HO.out;omega)⟩;replace HS:Aside0 (Kd.S (Kd.slice 3 (Kd.int .i64)) 22 w10 w.heap.size (fun k_=>k_=w3.heap.size) (.slice A8 ([]:List (List Int)).length c8) []):=⟨by rw [hw];exact Kd.S_mono (Kd.S_far (p:=⟨gO,0,none⟩) HS.out (fun k_ h_ e_=>by have:=h_.2.2.1;have:=HO.out;simp only at e_;omega) _) (fun _ h_=>h_.1)⟩;have HO2:=yam (show w3.heap.size < gO from by have h1_:=HO.out;omega);replace HO:Aside0 (w.heap.size≤gP∧gP < w3.heap.size∧w3.heap.size≤gO∧gO < w10.heap.size):=⟨by have:=HO.out;rw [hw];simp only [World.setCell];(try simp);omega⟩;clear hz hzf hw;have hp0:w10.cell? ⟨gP,0,none⟩=some (.int .i64 a0_0):=(blk_cell BgP.out 0).trans rfl;have hp1:w10.cell? ⟨gP,1,none⟩=some (.slice A0_1 l0_1.length c0_1):=(blk_cell BgP.out 1).trans rfl;have hp2:w10.cell? ⟨gP,2,none⟩=some (.slice A0_2 l0_2.length c0_2):=(blk_cell BgP.out 2).trans rfl)
    | (refine goesL_ (some 10) rfl rfl Try.func79 (by kernel_rfl) rfl #[.agg #[.int .i64 a0_0,.slice A0_1 l0_1.length c0_1,.slice A0_2 l0_2.length c0_2],.slice A0_1 l0_1.length c0_1] rfl yma ?_;(with_reducible refine (spec_PuzzleFits.calls k a0_0 _ _ l0_1 _ _ l0_2 _ _ l0_1 true w10 (Kd.C_below HR1.out HW.out) HC1.out (Kd.C_below HR2.out HW.out) HC2.out (Kd.C_below HR1.out HW.out) HC1.out HF.out).mono ?_);rintro e w11 ⟨rfl,hb⟩;refine ⟨_,rfl,?_⟩;replace BgP:=yam (blk_below BgP.out hb);replace BgO:=yam (blk_below BgO.out hb);replace HW:=yam (below_step HW.out hb);replace HS:=yam (Kd.S_below (Kd.S_bound HS.out) hb);replace HO:=yam (show w.heap.size≤gP∧gP < w3.heap.size∧w3.heap.size≤gO∧gO < w11.heap.size from ⟨HO.out.1,HO.out.2.1,HO.out.2.2.1,Nat.lt_of_lt_of_le HO.out.2.2.2 hb.size⟩);clear hp0 hp1 hp2 hb;have hp0:w11.cell? ⟨gP,0,none⟩=some (.int .i64 a0_0):=(blk_cell BgP.out 0).trans rfl;have hp1:w11.cell? ⟨gP,1,none⟩=some (.slice A0_1 l0_1.length c0_1):=(blk_cell BgP.out 1).trans rfl;have hp2:w11.cell? ⟨gP,2,none⟩=some (.slice A0_2 l0_2.length c0_2):=(blk_cell BgP.out 2).trans rfl;have hcO:w11.cell? ⟨gO,0,none⟩=some (.slice A8 ([]:List (List Int)).length c8):=(blk_cell BgO.out 0).trans rfl)
    | (refine goesL_ (some 15) rfl rfl Try.func85 (by kernel_rfl) rfl #[.agg #[.int .i64 a0_0,.slice A0_1 l0_1.length c0_1,.slice A0_2 l0_2.length c0_2],.slice A0_1 l0_1.length c0_1,.int .i64 0,.int .i64 a1,.pointer (some ⟨gO,0,none⟩)] rfl yma ?_;(refine (spec_l5Search.clo k a0_0 A0_1 c0_1 l0_1 A0_2 c0_2 l0_2 a1 l0_1.length gO w HG.out.1 HG.out.2 (by have:=HO.out;omega) HC1.out HC2.out l0_1.length 0 l0_1 A0_1 c0_1 [] r (fun k_=>k_ < w11.heap.size∧k_≠gO∧k_≠w3.heap.size) w11 (by omega) (Nat.le_refl _) rfl (fun W_ h_=>(Kd.heap_int .i64).C (fun k_ hl_=>(h_.2 k_ (Nat.lt_of_lt_of_le hl_ HW.out.size) ⟨Nat.lt_of_lt_of_le hl_ HW.out.size,by have:=HO.out;omega,by have:=HO.out;omega⟩).trans (HW.out.block k_ hl_)) HR1.out) HC1.out (fun W_ h_=>(Kd.heap_int .i64).C (fun k_ hl_=>(h_.2 k_ (Nat.lt_of_lt_of_le hl_ HW.out.size) ⟨Nat.lt_of_lt_of_le hl_ HW.out.size,by have:=HO.out;omega,by have:=HO.out;omega⟩).trans (HW.out.block k_ hl_)) HR1.out) (fun W_ h_=>(Kd.heap_iso _ (Kd.heap_pair (Kd.heap_int _) (Kd.heap_pair (Kd.heap_slice _ (Kd.heap_int _)) (Kd.heap_int _)))).C (fun k_ hl_=>(h_.2 k_ (Nat.lt_of_lt_of_le hl_ HW.out.size) ⟨Nat.lt_of_lt_of_le hl_ HW.out.size,by have:=HO.out;omega,by have:=HO.out;omega⟩).trans (HW.out.block k_ hl_)) HR2.out) (fun _ h_=>h_.1) (fun h_=>h_.2.1 rfl) ⟨_,BgO.out,Kd.S_mono HS.out (fun k_ h_=>⟨fun hp_=>hp_.2.2 h_.1,by have:=HO2.out;have:=h_.1;omega⟩)⟩ HW.out HS_.out).mono ?_);rintro e w12 ⟨rfl,⟨v_,hO_,hS_⟩,hA,hB⟩;refine ⟨_,rfl,?_⟩;have HSS:=yam hS_;have HBB:=yam hB;obtain ⟨Ar,cr,er⟩:=Kd.S_slice HSS.out;subst er;have hcO2:w12.cell? ⟨gO,0,none⟩=some (.slice Ar r.length cr):=(blk_cell hO_ 0).trans rfl;clear hO_ hS_ hA hB hp0 hp1 hp2 hcO))
  go_ret
  exact ⟨_,rfl,Kd.S_mono HSS.out (fun _ _=>trivial),HBB.out⟩
def spec_l10One.f (k:Nat)(a0_0:Int)(l0_1:List Int)(l0_2:List (S73)):Option (Bool):=(spec_l5All.f k a0_0 l0_1 l0_2 2).bind fun t576=>(some ((t576.length:Int) == 1))
theorem spec_l10One.calls (k:Nat)(a0_0:Int)(A0_1:Option Addr)(c0_1:Nat)(l0_1:List Int)(A0_2:Option Addr)(c0_2:Nat)(l0_2:List (S73))(r:Bool)(w:World)(hr0_1:Kd.C (Kd.int .i64) w A0_1 l0_1.length l0_1)(hc0_1:l0_1.length≤c0_1)(hr0_2:Kd.C k73 w A0_2 l0_2.length l0_2)(hc0_2:l0_2.length≤c0_2)(h:spec_l10One.f k a0_0 l0_1 l0_2=some r) :
  Calls Try.prog 66 #[.agg #[.int .i64 a0_0,.slice A0_1 l0_1.length c0_1,.slice A0_2 l0_2.length c0_2]] w fun e w'=>e= .returned (.bool r)∧Below w.heap.size w w':=by
 have hu37:=Try.underlying37
 have HR0_1:=yam hr0_1
 have HC0_1:=yam hc0_1
 clear hr0_1 hc0_1
 have HR0_2:=yam hr0_2
 have HC0_2:=yam hc0_2
 clear hr0_2 hc0_2
 have HB:=yam (Below.refl w.heap.size w)
 unfold spec_l10One.f at h
 have H:=h
 clear h
 replace H:=ybi H;obtain ⟨t576,A2,H⟩:=H
 try dsimp only at H
 obtain rfl:=ysi H
 go_enter Try.func66,Try.ntmps66
 go_wp2_with (first|(refine ybe 1 #[.int .i64 a0_0,.slice A0_1 l0_1.length c0_1,.slice A0_2 l0_2.length c0_2] 37 ?_;intro gb575 hg w3 hbox hb;have BK575:=yam (hbox);have GW575:=yam ((by rw [hg];exact (below_size (yez HB.out)):w.heap.size≤gb575));replace HB:=yam (below_step (yez HB.out) hb);have GE575:=GW575;clear hb hbox hg;obtain ⟨hcz4_0,hcz4_1,hcz4_2,hfz4_0,hfz4_1,hfz4_2⟩:=ybc BK575.out)|(refine goesL_ (some 4) rfl rfl Try.func63 (by kernel_rfl) rfl #[.agg #[.int .i64 a0_0,.slice A0_1 l0_1.length c0_1,.slice A0_2 l0_2.length c0_2],.int .i64 2] rfl ymd ?_;(with_reducible refine (spec_l5All.calls k a0_0 _ _ l0_1 _ _ l0_2 2 t576 _ ?_ ?_ ?_ ?_ A2.out).mono ?_);exact Kd.Cz ((Kd.C_below HR0_1.out HB.out));exact HC0_1.out;exact Kd.Cz ((Kd.C_below HR0_2.out HB.out));exact HC0_2.out;rintro e w5 ⟨v577,rfl,ho0,hb⟩;refine ⟨_,rfl,?_⟩;have HO578:=yam (Kd.S_lower ho0 (below_size yhb));replace BK575:=yam (ybb BK575.out hb);replace HB:=yam (below_step yhb hb);(try clear hb);(try clear ho0);obtain ⟨Ao6,co6,eo6⟩:=Kd.S_slice HO578.out;subst eo6))
 go_ret
 exact ⟨yer,yhb⟩
def spec_l10Without.f (a0_0:Int)(l0_1:List Int)(l0_2:List (S73))(a1:Int):Option (Int × List Int × (List (S73))):=(some (([]:List Int):List Int)).bind fun y581=>(if y581.length + l0_1.length < 17592186044416 then ((some (y581 ++ l0_1:List Int)).bind fun y584=>(if 0≤a1 then (if a1 < (y584.length:Int) then (some (a0_0,(y584.set (a1:Int).toNat 0),l0_2)) else (none)) else (none))) else (none))
theorem spec_l10Without.calls (a0_0:Int)(A0_1:Option Addr)(c0_1:Nat)(l0_1:List Int)(P0_2_:Nat→Prop)(A0_2:Option Addr)(c0_2:Nat)(l0_2:List (S73))(a1:Int)(r1:Int)(r2:List Int)(r3:List (S73))(w:World)(hr0_1:Kd.C (Kd.int .i64) w A0_1 l0_1.length l0_1)(hc0_1:l0_1.length≤c0_1)(hs0_2:Kd.V k73 73 w w.heap.size (fun k_=>P0_2_ k_) (.slice A0_2 l0_2.length c0_2) l0_2)(h:spec_l10Without.f a0_0 l0_1 l0_2 a1=some (r1,r2,r3)) :
  Calls Try.prog 67 #[.agg #[.int .i64 a0_0,.slice A0_1 l0_1.length c0_1,.slice A0_2 l0_2.length c0_2],.int .i64 a1] w fun e w'=>∃ v1_ v2_:Value,e= .returned (.agg #[.int .i64 r1,v1_,v2_])∧Kd.R (Kd.int .i64) 3 w' w.heap.size (fun k_=>(w.heap.size≤k_)) v1_ r2∧Kd.V k73 73 w' w.heap.size (fun k_=>(P0_2_ k_∨w.heap.size≤k_)∧some k_≠(v1_:Value).ownBlock) v2_ r3∧Below w.heap.size w w':=by
 have hu37:=Try.underlying37
 have HR0_1:=yam hr0_1
 have HC0_1:=yam hc0_1
 clear hr0_1 hc0_1
 have HO0_2:=yam (show Kd.V k73 73 w w.heap.size (fun k_=>(P0_2_ k_∨w.heap.size≤k_)) (.slice A0_2 l0_2.length c0_2) l0_2 from Kd.V_mono hs0_2 (fun k_ hk=> .inl hk))
 have HB:=yam (Below.refl w.heap.size w)
 unfold spec_l10Without.f at h
 have H:=h
 clear h
 obtain ⟨y581,Ny581⟩:∃ y_:List Int,Aside0 (y_=(([]:List Int))):=⟨_,⟨rfl⟩⟩
 replace H:(if y581.length + l0_1.length < 17592186044416 then ((some (y581 ++ l0_1:List Int)).bind fun y584=>(if 0≤a1 then (if a1 < (y584.length:Int) then (some (a0_0,(y584.set (a1:Int).toNat 0),l0_2)) else (none)) else (none))) else (none))=some (r1,r2,r3):=yhn Ny581.out H
 replace H:=yit H;obtain ⟨c3,H⟩ | ⟨c3,H⟩:=H
 rotate_left
 ·exact absurd H (by simp)
 have LMc3:=yam c3
 clear c3
 obtain ⟨y584,Ny584⟩:∃ y_:List Int,Aside0 (y_=(y581 ++ l0_1)):=⟨_,⟨rfl⟩⟩
 replace H:(if 0≤a1 then (if a1 < (y584.length:Int) then (some (a0_0,(y584.set (a1:Int).toNat 0),l0_2)) else (none)) else (none))=some (r1,r2,r3):=yhn Ny584.out H
 replace H:=yif H;obtain ⟨c4b0,H⟩:=H
 replace H:=yif H;obtain ⟨c5b0,H⟩:=H
 obtain ⟨y587,Ny587⟩:∃ y_:List Int,Aside0 (y_=(y584.set (a1:Int).toNat 0)):=⟨_,⟨rfl⟩⟩
 replace H:(some (a0_0,y587,l0_2))=some (r1,r2,r3):=yhn Ny587.out H
 simp only [Option.some.injEq,Prod.mk.injEq] at H
 obtain ⟨rfl,rfl,rfl⟩:=H
 go_enter Try.func67,Try.ntmps67
 go_wp2_with (first|(refine ybe 2 #[.int .i64 a0_0,.slice A0_1 l0_1.length c0_1,.slice A0_2 l0_2.length c0_2] 37 ?_;intro gb579 hg w7 hbox hb;replace HO0_2:=yam (Kd.V_below (Kd.V_elderB (by (with_reducible repeat (first|apply Kd.V_alloc|apply Kd.V_drewN|apply Kd.V_drew));exact HO0_2.out) gb579 (Nat.le_of_eq hg.symm)) hb);have BK579:=yam (hbox);have GW579:=yam ((by rw [hg];exact (below_size (yez HB.out)):w.heap.size≤gb579));replace HB:=yam (below_step (yez HB.out) hb);have GE579:=GW579;clear hb hbox hg)|(refine ybe 4 #[.int .i64 0,.slice none 0 0,.slice none 0 0] 37 ?_;intro gb580 hg w8 hbox hb;replace HO0_2:=yam (Kd.V_below (Kd.V_elderB (by (with_reducible repeat (first|apply Kd.V_alloc|apply Kd.V_drewN|apply Kd.V_drew));exact HO0_2.out) gb580 (Nat.le_of_eq hg.symm)) hb);have BK580:=yam (hbox);have GW580:=yam ((by rw [hg];exact (below_size yhb):w.heap.size≤gb580));replace HB:=yam (below_step yhb hb);have GE580:=GW580;have NB579_580:=yam ((by rw [hg];exact Nat.ne_of_lt (blk_lt (g:=gb579) (o:= .cells #[.int .i64 a0_0,.slice A0_1 l0_1.length c0_1,.slice A0_2 l0_2.length c0_2] 37 (0,0)) (ybz BK579.out)):gb579≠gb580));have NB580_579:=yam ((by rw [hg];exact Nat.ne_of_gt (blk_lt (g:=gb579) (o:= .cells #[.int .i64 a0_0,.slice A0_1 l0_1.length c0_1,.slice A0_2 l0_2.length c0_2] 37 (0,0)) (ybz BK579.out)):gb580≠gb579));replace BK579:=yam (ybb BK579.out hb);clear hb hbox hg)|((with_reducible refine gate_dst (N:=6) rfl ?_);refine Kd.R_lit (Kd.int .i64) _ 3 ?hg (N:=6) ?hd (xs:=([]:List Int)) (inner:=[]) (ok:=fun _=>True) (okp:=fun _=>True) ?hr ?hp (fun _ hk=>hk) trivial (Below.refl _ _) (Nat.le_refl _) (by simp) ?_;(case hd=>rfl);(case hg=>rfl);(case hr=>first|(go_simp;done)|(go_simp;rfl));(case hp=>exact (Reps.none _ _));intro v582 w9 ho10 hb hg_ hnew_;clear hg_ hnew_;(first|rw [← Ny581.out] at ho10|(simp only [Int.reduceToNat] at ho10;rw [← Ny581.out] at ho10));replace HO0_2:=yam (Kd.V_elder' (by (with_reducible repeat (first|apply Kd.V_alloc|apply Kd.V_drewN|apply Kd.V_drew));exact HO0_2.out) (Kd.Yb ho10) hb);have HO583:=yam (Kd.R_lower (Kd.R_newM (M:=fun k_=>(w.heap.size≤k_)) ho10 (below_size yhb) (fun k_ h_=>h_)) (below_size yhb));replace BK579:=yam (ybb BK579.out hb);replace BK580:=yam (ybb BK580.out hb);replace HB:=yam (below_step yhb hb);clear hb ho10;have hnb11:=NB579_580.out;have hnc11:=NB580_579.out;obtain ⟨hcz12_0,hcz12_1,hcz12_2,hfz12_0,hfz12_1,hfz12_2⟩:=ybc BK579.out)|((with_reducible refine gate_builtin (b:= .append) (xs:= #[.tmp 6,.tmp 8]) rfl ?_);at_builtin;refine Kd.R_append_rows (Kd.int .i64) (w0:=w) w.heap.size rfl (.tmp 6) (.tmp 8) 22 3 (.int .i64 0) 8 rfl Try.underlying22 info3 rfl (by decide) (by omega) v582 y581 l0_1 _ _ _ (fun k_=>(w.heap.size≤k_)) (fun _=>False) rfl rfl ?aO ?aR (fun _ _ h=>h) (fun _ h=>h.elim) ?aF ?aB ?aS ?aL ?_;(case aR=>exact Kd.Cz ((Kd.C_below HR0_1.out HB.out)));(case aB=>exact yhb);(case aF=>exact (fun k_ hk=>(Nat.le_trans (below_size yhb) hk)));(case aO=>exact (by (with_reducible repeat (first|apply Kd.Ya|apply Kd.Yn|apply Kd.Yd));exact Kd.R_mono HO583.out (fun _ hk=>hk.1)));(case aS=>exact (below_size yhb));(case aL=>have:=LMc3.out;omega);intro v585 w13 ho hb hg hat;rw [← Ny584.out] at ho;replace HO0_2:=yam (Kd.V_afterv (ok:=(fun k_=>(P0_2_ k_∨w.heap.size≤k_)∧k_≠gb579∧k_≠gb580)) (by (with_reducible repeat (first|apply Kd.V_alloc|apply Kd.V_drewN|apply Kd.V_drew));exact Kd.V_mono HO0_2.out (fun _ hk=>⟨⟨hk.1.1.1,⟨hk.1.1.2,hk.1.2⟩⟩,hk.2⟩)) hg hat);replace BK579:=yam (blk_grown (g:=gb579) (o:= .cells #[.int .i64 a0_0,.slice A0_1 l0_1.length c0_1,.slice A0_2 l0_2.length c0_2] 37 (0,0)) (ybz BK579.out) hg (Kd.R_ne HO583.out BK579.out (by decide)));replace BK580:=yam (blk_grown (g:=gb580) (o:= .cells #[.int .i64 0,.slice none 0 0,.slice none 0 0] 37 (0,0)) (ybz BK580.out) hg (Kd.R_ne HO583.out BK580.out (by decide)));replace HB:=yam (hb);have HO586:=yam (ho);clear HO583;clear ho hb hg hat;have p6:0≤(a1:Int):=ydt;have q6:(a1:Int) < ((y584.length:Int):Int):=ydt;obtain ⟨go6,co6,eo6,gb6,gl6,cl6,HG6⟩:=Kd.R_form HO586.out (by omega);(first|cases eo6|(injection eo6 with ea_ en_ ec_;(first|subst ea_|(injection ea_ with ea_;subst ea_));subst ec_;clear en_));have GB6:=yam gb6;have GG6:=yam HG6;clear gb6 gl6 HG6;obtain ⟨hx6_0,hf6_0⟩:=Kd.R_celln 0 HO586.out (a1:Int) p6 q6;replace p6:=eq_true p6;replace q6:=eq_true q6;obtain ⟨hy14_,hz14_⟩:=Kd.R_celln 0 HO586.out (a1:Int) (ydt) (ydt);have HP14:=Kd.R_putg HO586.out (a1:Int) 0)|((with_reducible refine gate_store (t:=3) (p:=12) rfl ?_);refine store_event (t:=3) (p:=12) (v:=?vo_w15) (w1:=(w13.setCell ⟨go6,(a1:Int).toNat,none⟩ (.int .i64 0))) ?hg ?ho ?hn ?hr ?_;(case ho=>rfl);(case hg=>rfl);(case hn=>rfl);(case hr=>first|(go_simp;done)|(go_simp;rfl));intro w15 hw;have hg:w13.grownBy w15 (some go6):=(by rw [hw];exact HP14.2);have hp_:Kd.R (Kd.int .i64) 3 w15 w.heap.size (fun k_=>(w.heap.size≤k_)) (.slice (some ⟨go6,0,none⟩) y584.length co6) y587:=(by rw [hw,Ny587.out];exact HP14.1);clear HP14;replace HO0_2:=yam (Kd.V_afterv (v:=(.slice (some ⟨go6,0,none⟩) y584.length co6)) (v1:=(.slice (some ⟨go6,0,none⟩) y584.length co6)) (ok:=(fun k_=>(P0_2_ k_∨w.heap.size≤k_)∧k_≠gb579∧k_≠gb580)) (by (with_reducible repeat (first|apply Kd.V_alloc|apply Kd.V_drewN|apply Kd.V_drew));exact HO0_2.out) hg (.inl rfl));replace BK579:=yam (blk_grown (g:=gb579) (o:= .cells #[.int .i64 a0_0,.slice A0_1 l0_1.length c0_1,.slice A0_2 l0_2.length c0_2] 37 (0,0)) (ybz BK579.out) hg (Kd.R_ne HO586.out BK579.out (by decide)));replace BK580:=yam (blk_grown (g:=gb580) (o:= .cells #[.int .i64 0,.slice none 0 0,.slice none 0 0] 37 (0,0)) (ybz BK580.out) hg (Kd.R_ne HO586.out BK580.out (by decide)));replace HO586:=yam (hp_);replace HB:=yam ((by rw [hw];exact below_set (HB.out) GB6.out:Below w.heap.size w w15));clear hg hw hp_;obtain ⟨hcz16_0,hcz16_1,hcz16_2,hfz16_0,hfz16_1,hfz16_2⟩:=ybc BK579.out;obtain ⟨hcz17_0,hcz17_1,hcz17_2,hfz17_0,hfz17_1,hfz17_2⟩:=ybc BK580.out))
 refine bodyPost_ret (results_cell_row rfl _ _ gb580 37 #[.int .i64 a0_0,.slice (some ⟨go6,0,none⟩) y584.length co6,.slice A0_2 l0_2.length c0_2] (0,0) _ rfl (by (with_reducible repeat (first|refine ybn ?_ _|refine ybd ?_|refine yba ?_ _));refine blk_put (cs:= #[.int .i64 a0_0,.slice (some ⟨go6,0,none⟩) y584.length co6,.slice none 0 0]) ?_ 2 _ rfl;(with_reducible repeat (first|refine ybn ?_ _|refine ybd ?_|refine yba ?_ _));refine blk_put (cs:= #[.int .i64 a0_0,.slice none 0 0,.slice none 0 0]) ?_ 1 _ rfl;(with_reducible repeat (first|refine ybn ?_ _|refine ybd ?_|refine yba ?_ _));refine blk_put (cs:= #[.int .i64 0,.slice none 0 0,.slice none 0 0]) ?_ 0 _ rfl;(with_reducible repeat (first|refine ybn ?_ _|refine ybd ?_|refine yba ?_ _));exact BK580.out) Try.underlying37 rfl (by kernel_rfl)) rfl ?_
 exact ⟨_,_,yer,by (with_reducible repeat (first|apply Kd.Ya|apply Kd.Yn|apply Kd.Yd));exact Kd.R_mono (Kd.R_far (p:=⟨gb580,2,none⟩) (Kd.R_far (p:=⟨gb580,1,none⟩) (Kd.R_far (p:=⟨gb580,0,none⟩) (Kd.R_types HO586.out BK580.out (by decide)) (fun _ hk=>hk.2) (.int .i64 a0_0)) (fun _ hk=>hk.2) (.slice (some ⟨go6,0,none⟩) y584.length co6)) (fun _ hk=>hk.2) (.slice A0_2 l0_2.length c0_2)) (fun _ hk=>hk.1),by (with_reducible repeat (first|apply Kd.V_alloc|apply Kd.V_drewN|apply Kd.V_drew));exact Kd.V_mono (Kd.V_far (p:=⟨gb580,2,none⟩) (Kd.V_far (p:=⟨gb580,1,none⟩) (Kd.V_far (p:=⟨gb580,0,none⟩) (Kd.V_mono HO0_2.out (fun k_ hk=>(⟨hk,hk.1.2.2⟩:_∧k_≠gb580))) (fun _ hk=>hk.2) (.int .i64 a0_0)) (fun _ hk=>hk.2) (.slice (some ⟨go6,0,none⟩) y584.length co6)) (fun _ hk=>hk.2) (.slice A0_2 l0_2.length c0_2)) (fun _ hk=>⟨hk.1.1.1,hk.1.2⟩),yhb⟩
def spec_l1OwnRule.f (a0_0:Int)(l0_1:List Int)(a0_2:Int):Option (Int × List Int × Int):=(some (([]:List Int):List Int)).bind fun y302=>(if y302.length + l0_1.length < 17592186044416 then (some (a0_0,(y302 ++ l0_1),a0_2)) else (none))
theorem spec_l1OwnRule.calls (a0_0:Int)(A0_1:Option Addr)(c0_1:Nat)(l0_1:List Int)(a0_2:Int)(r1:Int)(r2:List Int)(r3:Int)(w:World)(hr0_1:Kd.C (Kd.int .i64) w A0_1 l0_1.length l0_1)(hc0_1:l0_1.length≤c0_1)(h:spec_l1OwnRule.f a0_0 l0_1 a0_2=some (r1,r2,r3)) :
  Calls Try.prog 78 #[.agg #[.int .i64 a0_0,.slice A0_1 l0_1.length c0_1,.int .i64 a0_2]] w fun e w'=>∃ v1_:Value,e= .returned (.agg #[.int .i64 r1,v1_,.int .i64 r3])∧Kd.R (Kd.int .i64) 3 w' w.heap.size (fun _=>True) v1_ r2∧Below w.heap.size w w':=by
 have hu73:=Try.underlying73
 have HR0_1:=yam hr0_1
 have HC0_1:=yam hc0_1
 clear hr0_1 hc0_1
 have HB:=yam (Below.refl w.heap.size w)
 unfold spec_l1OwnRule.f at h
 have H:=h
 clear h
 obtain ⟨y302,Ny302⟩:∃ y_:List Int,Aside0 (y_=(([]:List Int))):=⟨_,⟨rfl⟩⟩
 replace H:(if y302.length + l0_1.length < 17592186044416 then (some (a0_0,(y302 ++ l0_1),a0_2)) else (none))=some (r1,r2,r3):=yhn Ny302.out H
 replace H:=yit H;obtain ⟨c2,H⟩ | ⟨c2,H⟩:=H
 rotate_left
 ·exact absurd H (by simp)
 have LMc2:=yam c2
 clear c2
 obtain ⟨y305,Ny305⟩:∃ y_:List Int,Aside0 (y_=(y302 ++ l0_1)):=⟨_,⟨rfl⟩⟩
 replace H:(some (a0_0,y305,a0_2))=some (r1,r2,r3):=yhn Ny305.out H
 simp only [Option.some.injEq,Prod.mk.injEq] at H
 obtain ⟨rfl,rfl,rfl⟩:=H
 go_enter Try.func78,Try.ntmps78
 go_wp2_with (first|(refine ybe 1 #[.int .i64 a0_0,.slice A0_1 l0_1.length c0_1,.int .i64 a0_2] 73 ?_;intro gb299 hg w3 hbox hb;have BK299:=yam (hbox);have GW299:=yam ((by rw [hg];exact (below_size (yez HB.out)):w.heap.size≤gb299));replace HB:=yam (below_step (yez HB.out) hb);have GE299:=GW299;clear hb hbox hg)|(refine ybe 2 #[.int .i64 0,.slice none 0 0,.int .i64 0] 73 ?_;intro gb300 hg w4 hbox hb;have BK300:=yam (hbox);have GW300:=yam ((by rw [hg];exact (below_size yhb):w.heap.size≤gb300));replace HB:=yam (below_step yhb hb);have GE300:=GW300;have NB299_300:=yam ((by rw [hg];exact Nat.ne_of_lt (blk_lt (g:=gb299) (o:= .cells #[.int .i64 a0_0,.slice A0_1 l0_1.length c0_1,.int .i64 a0_2] 73 (0,0)) (ybz BK299.out)):gb299≠gb300));have NB300_299:=yam ((by rw [hg];exact Nat.ne_of_gt (blk_lt (g:=gb299) (o:= .cells #[.int .i64 a0_0,.slice A0_1 l0_1.length c0_1,.int .i64 a0_2] 73 (0,0)) (ybz BK299.out)):gb300≠gb299));replace BK299:=yam (ybb BK299.out hb);clear hb hbox hg;have hnb5:=NB299_300.out;have hnc5:=NB300_299.out;obtain ⟨hcz6_0,hcz6_1,hcz6_2,hfz6_0,hfz6_1,hfz6_2⟩:=ybc BK299.out)|(refine ybe 3 #[.int .i64 0,.slice none 0 0,.int .i64 0] 73 ?_;intro gb301 hg w7 hbox hb;have BK301:=yam (hbox);have GW301:=yam ((by rw [hg];exact (below_size yhb):w.heap.size≤gb301));replace HB:=yam (below_step yhb hb);have GE301:=GW301;have NB299_301:=yam ((by rw [hg];exact Nat.ne_of_lt (blk_lt (g:=gb299) (o:= .cells #[.int .i64 a0_0,.slice A0_1 l0_1.length c0_1,.int .i64 a0_2] 73 (0,0)) (ybz BK299.out)):gb299≠gb301));have NB301_299:=yam ((by rw [hg];exact Nat.ne_of_gt (blk_lt (g:=gb299) (o:= .cells #[.int .i64 a0_0,.slice A0_1 l0_1.length c0_1,.int .i64 a0_2] 73 (0,0)) (ybz BK299.out)):gb301≠gb299));replace BK299:=yam (ybb BK299.out hb);have NB300_301:=yam ((by rw [hg];exact Nat.ne_of_lt (blk_lt (g:=gb300) (o:= .cells #[.int .i64 0,.slice none 0 0,.int .i64 0] 73 (0,0)) (ybz BK300.out)):gb300≠gb301));have NB301_300:=yam ((by rw [hg];exact Nat.ne_of_gt (blk_lt (g:=gb300) (o:= .cells #[.int .i64 0,.slice none 0 0,.int .i64 0] 73 (0,0)) (ybz BK300.out)):gb301≠gb300));replace BK300:=yam (ybb BK300.out hb);clear hb hbox hg;have hnb8:=NB301_299.out;have hnc8:=NB299_301.out;have hnb9:=NB301_300.out;have hnc9:=NB300_301.out;obtain ⟨hcz10_0,hcz10_1,hcz10_2,hfz10_0,hfz10_1,hfz10_2⟩:=ybc BK301.out)|((with_reducible refine gate_dst (N:=5) rfl ?_);refine Kd.R_lit (Kd.int .i64) _ 3 ?hg (N:=5) ?hd (xs:=([]:List Int)) (inner:=[]) (ok:=fun _=>True) (okp:=fun _=>True) ?hr ?hp (fun _ hk=>hk) trivial (Below.refl _ _) (Nat.le_refl _) (by simp) ?_;(case hd=>rfl);(case hg=>rfl);(case hr=>first|(go_simp;done)|(go_simp;rfl));(case hp=>exact (Reps.none _ _));intro v303 w11 ho12 hb hg_ hnew_;clear hg_ hnew_;(first|rw [← Ny302.out] at ho12|(simp only [Int.reduceToNat] at ho12;rw [← Ny302.out] at ho12));have HO304:=yam (Kd.R_lower ho12 (below_size yhb));replace BK299:=yam (blk_below (g:=gb299) (o:= .cells #[.int .i64 a0_0,.slice A0_1 l0_1.length c0_1,.int .i64 a0_2] 73 (0,0)) (by (with_reducible repeat (first|refine ybn ?_ _|refine ybd ?_|refine yba ?_ _));refine blk_far ?_ NB299_301.out _;(with_reducible repeat (first|refine ybn ?_ _|refine ybd ?_|refine yba ?_ _));refine blk_far ?_ NB299_301.out _;(with_reducible repeat (first|refine ybn ?_ _|refine ybd ?_|refine yba ?_ _));refine blk_far ?_ NB299_301.out _;(with_reducible repeat (first|refine ybn ?_ _|refine ybd ?_|refine yba ?_ _));exact BK299.out) hb);replace BK300:=yam (blk_below (g:=gb300) (o:= .cells #[.int .i64 0,.slice none 0 0,.int .i64 0] 73 (0,0)) (by (with_reducible repeat (first|refine ybn ?_ _|refine ybd ?_|refine yba ?_ _));refine blk_far ?_ NB300_301.out _;(with_reducible repeat (first|refine ybn ?_ _|refine ybd ?_|refine yba ?_ _));refine blk_far ?_ NB300_301.out _;(with_reducible repeat (first|refine ybn ?_ _|refine ybd ?_|refine yba ?_ _));refine blk_far ?_ NB300_301.out _;(with_reducible repeat (first|refine ybn ?_ _|refine ybd ?_|refine yba ?_ _));exact BK300.out) hb);replace BK301:=yam (blk_below (g:=gb301) (o:= .cells #[.int .i64 a0_0,.slice A0_1 l0_1.length c0_1,.int .i64 a0_2] 73 (0,0)) (by (with_reducible repeat (first|refine ybn ?_ _|refine ybd ?_|refine yba ?_ _));refine blk_put (cs:= #[.int .i64 a0_0,.slice A0_1 l0_1.length c0_1,.int .i64 0]) ?_ 2 _ rfl;(with_reducible repeat (first|refine ybn ?_ _|refine ybd ?_|refine yba ?_ _));refine blk_put (cs:= #[.int .i64 a0_0,.slice none 0 0,.int .i64 0]) ?_ 1 _ rfl;(with_reducible repeat (first|refine ybn ?_ _|refine ybd ?_|refine yba ?_ _));refine blk_put (cs:= #[.int .i64 0,.slice none 0 0,.int .i64 0]) ?_ 0 _ rfl;(with_reducible repeat (first|refine ybn ?_ _|refine ybd ?_|refine yba ?_ _));exact BK301.out) hb);replace HB:=yam (below_step yhb hb);clear hb ho12;obtain ⟨hcz13_0,hcz13_1,hcz13_2,hfz13_0,hfz13_1,hfz13_2⟩:=ybc BK299.out)|((with_reducible refine gate_builtin (b:= .append) (xs:= #[.tmp 5,.tmp 7]) rfl ?_);at_builtin;refine Kd.R_append_rows (Kd.int .i64) (w0:=w) w.heap.size rfl (.tmp 5) (.tmp 7) 22 3 (.int .i64 0) 8 rfl Try.underlying22 info3 rfl (by decide) (by omega) v303 y302 l0_1 _ _ _ (fun _=>True) (fun _=>False) rfl rfl ?aO ?aR (fun _ _ h=>h) (fun _ h=>h.elim) ?aF ?aB ?aS ?aL ?_;(case aR=>exact Kd.Cz ((Kd.C_below HR0_1.out HB.out)));(case aB=>exact yhb);(case aF=>exact (fun _ _=>trivial));(case aO=>exact (Kd.Yz HO304.out));(case aS=>exact (below_size yhb));(case aL=>have:=LMc2.out;omega);intro v306 w14 ho hb hg hat;rw [← Ny305.out] at ho;replace BK299:=yam (blk_grown (g:=gb299) (o:= .cells #[.int .i64 a0_0,.slice A0_1 l0_1.length c0_1,.int .i64 a0_2] 73 (0,0)) (ybz BK299.out) hg (Kd.R_ne HO304.out BK299.out (by decide)));replace BK300:=yam (blk_grown (g:=gb300) (o:= .cells #[.int .i64 0,.slice none 0 0,.int .i64 0] 73 (0,0)) (ybz BK300.out) hg (Kd.R_ne HO304.out BK300.out (by decide)));replace BK301:=yam (blk_grown (g:=gb301) (o:= .cells #[.int .i64 a0_0,.slice A0_1 l0_1.length c0_1,.int .i64 a0_2] 73 (0,0)) (ybz BK301.out) hg (Kd.R_ne HO304.out BK301.out (by decide)));replace HB:=yam (hb);have HO307:=yam (ho);clear HO304;clear ho hb hg hat;obtain ⟨Ao15,co15,eo15⟩:=Kd.R_slice HO307.out;subst eo15;obtain ⟨hcz16_0,hcz16_1,hcz16_2,hfz16_0,hfz16_1,hfz16_2⟩:=ybc BK301.out;obtain ⟨hcz17_0,hcz17_1,hcz17_2,hfz17_0,hfz17_1,hfz17_2⟩:=ybc BK300.out))
 refine bodyPost_ret (results_cell_row rfl _ _ gb300 73 #[.int .i64 a0_0,.slice Ao15 y305.length co15,.int .i64 a0_2] (0,0) _ rfl (by (with_reducible repeat (first|refine ybn ?_ _|refine ybd ?_|refine yba ?_ _));refine blk_put (cs:= #[.int .i64 a0_0,.slice Ao15 y305.length co15,.int .i64 0]) ?_ 2 _ rfl;(with_reducible repeat (first|refine ybn ?_ _|refine ybd ?_|refine yba ?_ _));refine blk_put (cs:= #[.int .i64 a0_0,.slice none 0 0,.int .i64 0]) ?_ 1 _ rfl;(with_reducible repeat (first|refine ybn ?_ _|refine ybd ?_|refine yba ?_ _));refine blk_put (cs:= #[.int .i64 0,.slice none 0 0,.int .i64 0]) ?_ 0 _ rfl;(with_reducible repeat (first|refine ybn ?_ _|refine ybd ?_|refine yba ?_ _));refine blk_far ?_ NB300_301.out _;(with_reducible repeat (first|refine ybn ?_ _|refine ybd ?_|refine yba ?_ _));exact BK300.out) Try.underlying73 rfl (by kernel_rfl)) rfl ?_
 exact ⟨_,yer,by (with_reducible repeat (first|apply Kd.Ya|apply Kd.Yn|apply Kd.Yd));exact Kd.R_mono (Kd.R_far (p:=⟨gb300,2,none⟩) (Kd.R_far (p:=⟨gb300,1,none⟩) (Kd.R_far (p:=⟨gb300,0,none⟩) (Kd.R_far (p:=⟨gb301,1,none⟩) (Kd.R_types (Kd.R_types HO307.out BK301.out (by decide)) BK300.out (by decide)) (fun _ hk=>hk.1.2) (.slice Ao15 y305.length co15)) (fun _ hk=>hk.2) (.int .i64 a0_0)) (fun _ hk=>hk.2) (.slice Ao15 y305.length co15)) (fun _ hk=>hk.2) (.int .i64 a0_2)) (fun _ hk=>trivial),yhb⟩
def spec_l1OwnRuleList.l0:Nat→List (S73)→List (S73)→Int→Option ((List (S73)))
 | 0,_,_,_=>none
 | k + 1,x0,x3,x4=>if x4 < (x0.length:Int) then (if 0≤x4 then ((spec_l1OwnRule.f ((rd_T73 x0 x4).f0) ((rd_T73 x0 x4).f1) ((rd_T73 x0 x4).f2)).bind fun bt312=>(if x3.length < 3518437208883 then (spec_l1OwnRuleList.l0 k x0 (x3 ++ [(⟨bt312.1,bt312.2.1,bt312.2.2⟩:S73)]) (wrap64 (x4 + 1))) else (none))) else (none)) else (some x3)
def spec_l1OwnRuleList.f (k:Nat)(l0:List (S73)):Option ((List (S73))):=spec_l1OwnRuleList.l0 k l0 (([]:List (S73))) 0
theorem spec_l1OwnRuleList.calls (k:Nat)(A0:Option Addr)(c0:Nat)(l0:List (S73))(r:List (S73))(w:World)(hr0:Kd.C k73 w A0 l0.length l0)(hc0:l0.length≤c0)(h:spec_l1OwnRuleList.f k l0=some r) :
  Calls Try.prog 54 #[.slice A0 l0.length c0] w fun e w'=>∃ v0_:Value,e= .returned (v0_)∧Kd.S k73 73 w' w.heap.size (fun _=>True) v0_ r∧Below w.heap.size w w':=by
 have hu73:=Try.underlying73
 have HR0:=yam hr0
 have HC0:=yam hc0
 clear hr0 hc0
 have HB:=yam (Below.refl w.heap.size w)
 unfold spec_l1OwnRuleList.f at h
 have H:=h
 clear h
 obtain ⟨y308,Ny308⟩:∃ y_:List (S73),Aside0 (y_=(([]:List (S73)))):=⟨_,⟨rfl⟩⟩
 replace H:(spec_l1OwnRuleList.l0 k l0 y308 0)=some r:=yhn Ny308.out H
 replace H:=yam H
 go_enter Try.func54,Try.ntmps54
 go_wp2_with (first|((with_reducible refine gate_dst (N:=5) rfl ?_);refine Kd.S_lit k73 _ 73 ?hg (N:=5) ?hd (xs:=([]:List (S73))) (inner:=[]) (ok:=fun _=>True) (okp:=fun _=>True) ?hr ?hp (fun _ hk=>hk) trivial (Below.refl _ _) (Nat.le_refl _) (by simp) ?_;(case hd=>rfl);(case hg=>rfl);(case hr=>first|(go_simp;done)|(go_simp;rfl));(case hp=>exact (Reps.none _ _));intro v309 w2 ho3 hb hg_ hnew_;clear hg_ hnew_;(first|rw [← Ny308.out] at ho3|(simp only [Int.reduceToNat] at ho3;rw [← Ny308.out] at ho3));have HO310:=yam (Kd.S_lower ho3 (below_size (yez HB.out)));replace HB:=yam (below_step (yez HB.out) hb);clear hb ho3))
 go_loopg [3,4] k (fun kq v3 v4 w'=>∃ (x3_1:List (S73)) (x4_1:Int),v4= .int .i64 x4_1∧Aside0 (spec_l1OwnRuleList.l0 kq l0 x3_1 x4_1=some r)∧Aside0 (kq≤k)∧Aside0 (Kd.S k73 73 w' w.heap.size (fun _=>True) v3 x3_1)∧Aside0 (Below w.heap.size w w'))
 case atStart=>exact ⟨(y308),(0),yeq,H,⟨Nat.le_refl _⟩,⟨by (with_reducible repeat (first|apply Kd.S_alloc|apply Kd.S_drewN|apply Kd.S_drew));exact HO310.out⟩,⟨yhb⟩⟩
 case round =>
  clear H
  obtain ⟨x3_1,x4_1,rfl,HA,HK1,HO_3,HB⟩:=hrel
  rcases gk with _|k1
  ·exact absurd HA.out (by simp [spec_l1OwnRuleList.l0])
  obtain ⟨H⟩:=HA
  simp only [spec_l1OwnRuleList.l0] at H
  replace H:=yis H;obtain ⟨c4b0,H⟩ | ⟨c4b0,H⟩:=H
  rotate_left
  ·obtain rfl:=ysi H
   go_wp2
   go_ret
   exact ⟨_,yer,by (with_reducible repeat (first|apply Kd.S_alloc|apply Kd.S_drewN|apply Kd.S_drew));exact HO_3.out,yhb⟩
  replace H:=yif H;obtain ⟨c5b0,H⟩:=H
  replace H:=ybi H;obtain ⟨⟨t312,t313,t316⟩,A6,H⟩:=H
  try dsimp only at H
  replace H:=yig H;obtain ⟨c7,H⟩:=H
  have LMc7:=yam c7
  clear c7
  obtain ⟨y317,Ny317⟩:∃ y_:List (S73),Aside0 (y_=(x3_1 ++ [(⟨t312,t313,t316⟩:S73)])):=⟨_,⟨rfl⟩⟩
  replace H:(spec_l1OwnRuleList.l0 k1 l0 y317 (wrap64 (x4_1 + 1)))=some r:=yhn Ny317.out H
  replace H:=yam H
  have p311:0≤(x4_1:Int):=ydt
  have q311:x4_1 < (l0.length:Int):=ydt
  obtain ⟨ad311,A311_1,c311_1,e311,hx311_0,hx311_1,hx311_2,hl311_1,hi311_1⟩:=at_T73 HR0.out x4_1 p311 q311
  cases e311
  replace hx311_0:=ybx HB.out hx311_0
  replace hx311_1:=ybx HB.out hx311_1
  replace hx311_2:=ybx HB.out hx311_2
  have HR311_1:=yam hi311_1
  have HC311_1:=yam hl311_1
  clear hi311_1 hl311_1
  replace p311:=eq_true p311
  replace q311:=eq_true q311
  go_wp2_with (first|(refine goesL_ (some 17) rfl rfl Try.func78 (by kernel_rfl) rfl #[.agg #[.int .i64 ((rd_T73 l0 x4_1).f0),.slice A311_1 ((rd_T73 l0 x4_1).f1).length c311_1,.int .i64 ((rd_T73 l0 x4_1).f2)]] rfl ymd ?_;(with_reducible refine (spec_l1OwnRule.calls ((rd_T73 l0 x4_1).f0) _ _ ((rd_T73 l0 x4_1).f1) ((rd_T73 l0 x4_1).f2) t312 t313 t316 _ ?_ ?_ A6.out).mono ?_);exact Kd.Cz ((Kd.C_below HR311_1.out HB.out));exact HC311_1.out;rintro e w8 ⟨v314,rfl,ho0,hb⟩;refine ⟨_,rfl,?_⟩;replace HO_3:=yam (Kd.S_elder' (by (with_reducible repeat (first|apply Kd.S_alloc|apply Kd.S_drewN|apply Kd.S_drew));exact HO_3.out) (Kd.Yb ho0) hb);have HO315:=yam (Kd.R_lower ho0 (below_size (yez HB.out)));replace HB:=yam (below_step (yez HB.out) hb);(try clear hb);(try clear ho0);obtain ⟨Ao10,co10,eo10⟩:=Kd.R_slice HO315.out;subst eo10)|((with_reducible refine gate_builtin (b:= .append) (xs:= #[.tmp 12,.tmp 18]) rfl ?_);at_builtin;refine Kd.S_append k73 (w0:=w) w.heap.size rfl (.tmp 12) (.tmp 18) 35 73 (.agg #[(.int .i64 0),(.slice none 0 0),(.int .i64 0)]) 40 rfl Try.underlying35 info73 rfl (by decide) (by omega) u3 x3_1 (⟨t312,t313,t316⟩:S73) [.int .i64 t312,.slice Ao10 t313.length co10,.int .i64 t316] (fun _=>True) (fun k_=>some k_=(.slice Ao10 t313.length co10:Value).ownBlock) rfl rfl ?aP (fun k_ hk_=>((Kd.R_mono (ok':=fun k_=>((fun _=>True)) k_∧some k_≠(u3:Value).ownBlock) (Kd.R_apart' (HO315.out) (Kd.S_typed HO_3.out) (by decide)) (fun k_ hk=>⟨trivial,hk.2⟩))).1 k_ hk_.symm) ?aF ?aO ?aB ?aS ?aL ?_;(case aP=>exact k73_mkM _ _ _ (⟨t312,t313,t316⟩:S73) (Kd.R_mono (Kd.R_tight rfl (Kd.R_mono (ok':=fun k_=>((fun _=>True)) k_∧some k_≠(u3:Value).ownBlock) (Kd.R_apart' (HO315.out) (Kd.S_typed HO_3.out) (by decide)) (fun k_ hk=>⟨trivial,hk.2⟩))) (fun _ h_=>h_)));(case aB=>exact (yez HB.out));(case aF=>exact (fun _ _=>trivial));(case aO=>exact (by (with_reducible repeat (first|apply Kd.S_alloc|apply Kd.S_drewN|apply Kd.S_drew));exact Kd.S_mono HO_3.out (fun k_ hk=>⟨trivial,fun e_=>hk.2 e_⟩)));(case aS=>exact (below_size (yez HB.out)));(case aL=>have:=LMc7.out;omega);intro v318 w9 ho hb hg hat;rw [← Ny317.out] at ho;replace HB:=yam (hb);have HO319:=yam (ho);clear HO_3 HO315;clear ho hb hg hat))
  go_roundg k1
  case measure=>have:=HK1.out;omega
  case rel=>exact ⟨(y317),(wrap64 (x4_1 + 1)),yeq,H,⟨by have:=HK1.out;omega⟩,⟨by (with_reducible repeat (first|apply Kd.S_alloc|apply Kd.S_drewN|apply Kd.S_drew));exact HO319.out⟩,⟨yhb⟩⟩
def spec_l1OwnPuzzle.f (k:Nat)(a0_0:Int)(l0_1:List Int)(l0_2:List (S73)):Option (Int × List Int × (List (S73))):=(some (([]:List Int):List Int)).bind fun y707=>(if y707.length + l0_1.length < 17592186044416 then ((spec_l1OwnRuleList.f k l0_2).bind fun t713=>(some (a0_0,(y707 ++ l0_1),t713))) else (none))
theorem spec_l1OwnPuzzle.calls (k:Nat)(a0_0:Int)(A0_1:Option Addr)(c0_1:Nat)(l0_1:List Int)(A0_2:Option Addr)(c0_2:Nat)(l0_2:List (S73))(r1:Int)(r2:List Int)(r3:List (S73))(w:World)(hr0_1:Kd.C (Kd.int .i64) w A0_1 l0_1.length l0_1)(hc0_1:l0_1.length≤c0_1)(hr0_2:Kd.C k73 w A0_2 l0_2.length l0_2)(hc0_2:l0_2.length≤c0_2)(h:spec_l1OwnPuzzle.f k a0_0 l0_1 l0_2=some (r1,r2,r3)) :
  Calls Try.prog 70 #[.agg #[.int .i64 a0_0,.slice A0_1 l0_1.length c0_1,.slice A0_2 l0_2.length c0_2]] w fun e w'=>∃ v1_ v2_:Value,e= .returned (.agg #[.int .i64 r1,v1_,v2_])∧Kd.R (Kd.int .i64) 3 w' w.heap.size (fun _=>True) v1_ r2∧Kd.S k73 73 w' w.heap.size (fun k_=>some k_≠(v1_:Value).ownBlock) v2_ r3∧Below w.heap.size w w':=by
 have hu37:=Try.underlying37
 have HR0_1:=yam hr0_1
 have HC0_1:=yam hc0_1
 clear hr0_1 hc0_1
 have HR0_2:=yam hr0_2
 have HC0_2:=yam hc0_2
 clear hr0_2 hc0_2
 have HB:=yam (Below.refl w.heap.size w)
 unfold spec_l1OwnPuzzle.f at h
 have H:=h
 clear h
 obtain ⟨y707,Ny707⟩:∃ y_:List Int,Aside0 (y_=(([]:List Int))):=⟨_,⟨rfl⟩⟩
 replace H:(if y707.length + l0_1.length < 17592186044416 then ((spec_l1OwnRuleList.f k l0_2).bind fun t713=>(some (a0_0,(y707 ++ l0_1),t713))) else (none))=some (r1,r2,r3):=yhn Ny707.out H
 replace H:=yit H;obtain ⟨c2,H⟩ | ⟨c2,H⟩:=H
 rotate_left
 ·exact absurd H (by simp)
 have LMc2:=yam c2
 clear c2
 obtain ⟨y710,Ny710⟩:∃ y_:List Int,Aside0 (y_=(y707 ++ l0_1)):=⟨_,⟨rfl⟩⟩
 replace H:((spec_l1OwnRuleList.f k l0_2).bind fun t713=>(some (a0_0,y710,t713)))=some (r1,r2,r3):=yhn Ny710.out H
 replace H:=ybi H;obtain ⟨t713,A3,H⟩:=H
 replace H:(some (a0_0,y710,t713))=some (r1,r2,r3):=H
 simp only [Option.some.injEq,Prod.mk.injEq] at H
 obtain ⟨rfl,rfl,rfl⟩:=H
 go_enter Try.func70,Try.ntmps70
 go_wp2_with (first|(refine ybe 1 #[.int .i64 a0_0,.slice A0_1 l0_1.length c0_1,.slice A0_2 l0_2.length c0_2] 37 ?_;intro gb704 hg w4 hbox hb;have BK704:=yam (hbox);have GW704:=yam ((by rw [hg];exact (below_size (yez HB.out)):w.heap.size≤gb704));replace HB:=yam (below_step (yez HB.out) hb);have GE704:=GW704;clear hb hbox hg)|(refine ybe 2 #[.int .i64 0,.slice none 0 0,.slice none 0 0] 37 ?_;intro gb705 hg w5 hbox hb;have BK705:=yam (hbox);have GW705:=yam ((by rw [hg];exact (below_size yhb):w.heap.size≤gb705));replace HB:=yam (below_step yhb hb);have GE705:=GW705;have NB704_705:=yam ((by rw [hg];exact Nat.ne_of_lt (blk_lt (g:=gb704) (o:= .cells #[.int .i64 a0_0,.slice A0_1 l0_1.length c0_1,.slice A0_2 l0_2.length c0_2] 37 (0,0)) (ybz BK704.out)):gb704≠gb705));have NB705_704:=yam ((by rw [hg];exact Nat.ne_of_gt (blk_lt (g:=gb704) (o:= .cells #[.int .i64 a0_0,.slice A0_1 l0_1.length c0_1,.slice A0_2 l0_2.length c0_2] 37 (0,0)) (ybz BK704.out)):gb705≠gb704));replace BK704:=yam (ybb BK704.out hb);clear hb hbox hg;have hnb6:=NB704_705.out;have hnc6:=NB705_704.out;obtain ⟨hcz7_0,hcz7_1,hcz7_2,hfz7_0,hfz7_1,hfz7_2⟩:=ybc BK704.out)|(refine ybe 3 #[.int .i64 0,.slice none 0 0,.slice none 0 0] 37 ?_;intro gb706 hg w8 hbox hb;have BK706:=yam (hbox);have GW706:=yam ((by rw [hg];exact (below_size yhb):w.heap.size≤gb706));replace HB:=yam (below_step yhb hb);have GE706:=GW706;have NB704_706:=yam ((by rw [hg];exact Nat.ne_of_lt (blk_lt (g:=gb704) (o:= .cells #[.int .i64 a0_0,.slice A0_1 l0_1.length c0_1,.slice A0_2 l0_2.length c0_2] 37 (0,0)) (ybz BK704.out)):gb704≠gb706));have NB706_704:=yam ((by rw [hg];exact Nat.ne_of_gt (blk_lt (g:=gb704) (o:= .cells #[.int .i64 a0_0,.slice A0_1 l0_1.length c0_1,.slice A0_2 l0_2.length c0_2] 37 (0,0)) (ybz BK704.out)):gb706≠gb704));replace BK704:=yam (ybb BK704.out hb);have NB705_706:=yam ((by rw [hg];exact Nat.ne_of_lt (blk_lt (g:=gb705) (o:= .cells #[.int .i64 0,.slice none 0 0,.slice none 0 0] 37 (0,0)) (ybz BK705.out)):gb705≠gb706));have NB706_705:=yam ((by rw [hg];exact Nat.ne_of_gt (blk_lt (g:=gb705) (o:= .cells #[.int .i64 0,.slice none 0 0,.slice none 0 0] 37 (0,0)) (ybz BK705.out)):gb706≠gb705));replace BK705:=yam (ybb BK705.out hb);clear hb hbox hg;have hnb9:=NB706_704.out;have hnc9:=NB704_706.out;have hnb10:=NB706_705.out;have hnc10:=NB705_706.out;obtain ⟨hcz11_0,hcz11_1,hcz11_2,hfz11_0,hfz11_1,hfz11_2⟩:=ybc BK706.out)|((with_reducible refine gate_dst (N:=5) rfl ?_);refine Kd.R_lit (Kd.int .i64) _ 3 ?hg (N:=5) ?hd (xs:=([]:List Int)) (inner:=[]) (ok:=fun _=>True) (okp:=fun _=>True) ?hr ?hp (fun _ hk=>hk) trivial (Below.refl _ _) (Nat.le_refl _) (by simp) ?_;(case hd=>rfl);(case hg=>rfl);(case hr=>first|(go_simp;done)|(go_simp;rfl));(case hp=>exact (Reps.none _ _));intro v708 w12 ho13 hb hg_ hnew_;clear hg_ hnew_;(first|rw [← Ny707.out] at ho13|(simp only [Int.reduceToNat] at ho13;rw [← Ny707.out] at ho13));have HO709:=yam (Kd.R_lower ho13 (below_size yhb));replace BK704:=yam (blk_below (g:=gb704) (o:= .cells #[.int .i64 a0_0,.slice A0_1 l0_1.length c0_1,.slice A0_2 l0_2.length c0_2] 37 (0,0)) (by (with_reducible repeat (first|refine ybn ?_ _|refine ybd ?_|refine yba ?_ _));refine blk_far ?_ NB704_706.out _;(with_reducible repeat (first|refine ybn ?_ _|refine ybd ?_|refine yba ?_ _));refine blk_far ?_ NB704_706.out _;(with_reducible repeat (first|refine ybn ?_ _|refine ybd ?_|refine yba ?_ _));refine blk_far ?_ NB704_706.out _;(with_reducible repeat (first|refine ybn ?_ _|refine ybd ?_|refine yba ?_ _));exact BK704.out) hb);replace BK705:=yam (blk_below (g:=gb705) (o:= .cells #[.int .i64 0,.slice none 0 0,.slice none 0 0] 37 (0,0)) (by (with_reducible repeat (first|refine ybn ?_ _|refine ybd ?_|refine yba ?_ _));refine blk_far ?_ NB705_706.out _;(with_reducible repeat (first|refine ybn ?_ _|refine ybd ?_|refine yba ?_ _));refine blk_far ?_ NB705_706.out _;(with_reducible repeat (first|refine ybn ?_ _|refine ybd ?_|refine yba ?_ _));refine blk_far ?_ NB705_706.out _;(with_reducible repeat (first|refine ybn ?_ _|refine ybd ?_|refine yba ?_ _));exact BK705.out) hb);replace BK706:=yam (blk_below (g:=gb706) (o:= .cells #[.int .i64 a0_0,.slice A0_1 l0_1.length c0_1,.slice A0_2 l0_2.length c0_2] 37 (0,0)) (by (with_reducible repeat (first|refine ybn ?_ _|refine ybd ?_|refine yba ?_ _));refine blk_put (cs:= #[.int .i64 a0_0,.slice A0_1 l0_1.length c0_1,.slice none 0 0]) ?_ 2 _ rfl;(with_reducible repeat (first|refine ybn ?_ _|refine ybd ?_|refine yba ?_ _));refine blk_put (cs:= #[.int .i64 a0_0,.slice none 0 0,.slice none 0 0]) ?_ 1 _ rfl;(with_reducible repeat (first|refine ybn ?_ _|refine ybd ?_|refine yba ?_ _));refine blk_put (cs:= #[.int .i64 0,.slice none 0 0,.slice none 0 0]) ?_ 0 _ rfl;(with_reducible repeat (first|refine ybn ?_ _|refine ybd ?_|refine yba ?_ _));exact BK706.out) hb);replace HB:=yam (below_step yhb hb);clear hb ho13;obtain ⟨hcz14_0,hcz14_1,hcz14_2,hfz14_0,hfz14_1,hfz14_2⟩:=ybc BK704.out)|((with_reducible refine gate_builtin (b:= .append) (xs:= #[.tmp 5,.tmp 7]) rfl ?_);at_builtin;refine Kd.R_append_rows (Kd.int .i64) (w0:=w) w.heap.size rfl (.tmp 5) (.tmp 7) 22 3 (.int .i64 0) 8 rfl Try.underlying22 info3 rfl (by decide) (by omega) v708 y707 l0_1 _ _ _ (fun _=>True) (fun _=>False) rfl rfl ?aO ?aR (fun _ _ h=>h) (fun _ h=>h.elim) ?aF ?aB ?aS ?aL ?_;(case aR=>exact Kd.Cz ((Kd.C_below HR0_1.out HB.out)));(case aB=>exact yhb);(case aF=>exact (fun _ _=>trivial));(case aO=>exact (Kd.Yz HO709.out));(case aS=>exact (below_size yhb));(case aL=>have:=LMc2.out;omega);intro v711 w15 ho hb hg hat;rw [← Ny710.out] at ho;replace BK704:=yam (blk_grown (g:=gb704) (o:= .cells #[.int .i64 a0_0,.slice A0_1 l0_1.length c0_1,.slice A0_2 l0_2.length c0_2] 37 (0,0)) (ybz BK704.out) hg (Kd.R_ne HO709.out BK704.out (by decide)));replace BK705:=yam (blk_grown (g:=gb705) (o:= .cells #[.int .i64 0,.slice none 0 0,.slice none 0 0] 37 (0,0)) (ybz BK705.out) hg (Kd.R_ne HO709.out BK705.out (by decide)));replace BK706:=yam (blk_grown (g:=gb706) (o:= .cells #[.int .i64 a0_0,.slice A0_1 l0_1.length c0_1,.slice A0_2 l0_2.length c0_2] 37 (0,0)) (ybz BK706.out) hg (Kd.R_ne HO709.out BK706.out (by decide)));replace HB:=yam (hb);have HO712:=yam (ho);clear HO709;clear ho hb hg hat;obtain ⟨Ao16,co16,eo16⟩:=Kd.R_slice HO712.out;subst eo16;obtain ⟨hcz17_0,hcz17_1,hcz17_2,hfz17_0,hfz17_1,hfz17_2⟩:=ybc BK706.out;obtain ⟨hcz18_0,hcz18_1,hcz18_2,hfz18_0,hfz18_1,hfz18_2⟩:=ybc BK704.out)|(refine goesL_ (some 12) rfl rfl Try.func54 (by kernel_rfl) rfl #[.slice A0_2 l0_2.length c0_2] rfl ymd ?_;(with_reducible refine (spec_l1OwnRuleList.calls k _ _ l0_2 t713 _ ?_ ?_ A3.out).mono ?_);exact Kd.C_below HR0_2.out yhb;exact HC0_2.out;rintro e w19 ⟨v714,rfl,ho0,hb⟩;refine ⟨_,rfl,?_⟩;have HO715:=yam (Kd.S_lower (Kd.S_new' ho0 (Kd.R_lt (by (with_reducible repeat (first|apply Kd.Ya|apply Kd.Yn|apply Kd.Yd));exact (Kd.R_mono (Kd.R_far (p:=⟨gb706,1,none⟩) (Kd.R_types HO712.out BK706.out (by decide)) (fun _ hk=>hk.2) (.slice Ao16 y710.length co16)) (fun _ h_=>h_.1))))) (below_size yhb));replace HO712:=yam (Kd.R_below (by (with_reducible repeat (first|apply Kd.Ya|apply Kd.Yn|apply Kd.Yd));exact (Kd.R_mono (Kd.R_far (p:=⟨gb706,1,none⟩) (Kd.R_types HO712.out BK706.out (by decide)) (fun _ hk=>hk.2) (.slice Ao16 y710.length co16)) (fun _ h_=>h_.1))) hb);replace BK704:=yam (blk_below (g:=gb704) (o:= .cells #[.int .i64 a0_0,.slice A0_1 l0_1.length c0_1,.slice A0_2 l0_2.length c0_2] 37 (0,0)) (by (with_reducible repeat (first|refine ybn ?_ _|refine ybd ?_|refine yba ?_ _));refine blk_far ?_ NB704_706.out _;(with_reducible repeat (first|refine ybn ?_ _|refine ybd ?_|refine yba ?_ _));exact BK704.out) hb);replace BK705:=yam (blk_below (g:=gb705) (o:= .cells #[.int .i64 0,.slice none 0 0,.slice none 0 0] 37 (0,0)) (by (with_reducible repeat (first|refine ybn ?_ _|refine ybd ?_|refine yba ?_ _));refine blk_far ?_ NB705_706.out _;(with_reducible repeat (first|refine ybn ?_ _|refine ybd ?_|refine yba ?_ _));exact BK705.out) hb);replace BK706:=yam (blk_below (g:=gb706) (o:= .cells #[.int .i64 a0_0,.slice Ao16 y710.length co16,.slice A0_2 l0_2.length c0_2] 37 (0,0)) (by (with_reducible repeat (first|refine ybn ?_ _|refine ybd ?_|refine yba ?_ _));refine blk_put (cs:= #[.int .i64 a0_0,.slice A0_1 l0_1.length c0_1,.slice A0_2 l0_2.length c0_2]) ?_ 1 _ rfl;(with_reducible repeat (first|refine ybn ?_ _|refine ybd ?_|refine yba ?_ _));exact BK706.out) hb);replace HB:=yam (below_step yhb hb);(try clear hb);(try clear hk);(try clear ho0);obtain ⟨Ao20,co20,eo20⟩:=Kd.S_slice HO715.out;subst eo20;obtain ⟨hcz21_0,hcz21_1,hcz21_2,hfz21_0,hfz21_1,hfz21_2⟩:=ybc BK706.out;obtain ⟨hcz22_0,hcz22_1,hcz22_2,hfz22_0,hfz22_1,hfz22_2⟩:=ybc BK705.out))
 refine bodyPost_ret (results_cell_row rfl _ _ gb705 37 #[.int .i64 a0_0,.slice Ao16 y710.length co16,.slice Ao20 t713.length co20] (0,0) _ rfl (by (with_reducible repeat (first|refine ybn ?_ _|refine ybd ?_|refine yba ?_ _));refine blk_put (cs:= #[.int .i64 a0_0,.slice Ao16 y710.length co16,.slice none 0 0]) ?_ 2 _ rfl;(with_reducible repeat (first|refine ybn ?_ _|refine ybd ?_|refine yba ?_ _));refine blk_put (cs:= #[.int .i64 a0_0,.slice none 0 0,.slice none 0 0]) ?_ 1 _ rfl;(with_reducible repeat (first|refine ybn ?_ _|refine ybd ?_|refine yba ?_ _));refine blk_put (cs:= #[.int .i64 0,.slice none 0 0,.slice none 0 0]) ?_ 0 _ rfl;(with_reducible repeat (first|refine ybn ?_ _|refine ybd ?_|refine yba ?_ _));refine blk_far ?_ NB705_706.out _;(with_reducible repeat (first|refine ybn ?_ _|refine ybd ?_|refine yba ?_ _));exact BK705.out) Try.underlying37 rfl (by kernel_rfl)) rfl ?_
 exact ⟨_,_,yer,by (with_reducible repeat (first|apply Kd.Ya|apply Kd.Yn|apply Kd.Yd));exact Kd.R_mono (Kd.R_far (p:=⟨gb705,2,none⟩) (Kd.R_far (p:=⟨gb705,1,none⟩) (Kd.R_far (p:=⟨gb705,0,none⟩) (Kd.R_far (p:=⟨gb706,2,none⟩) (Kd.R_types (Kd.R_types HO712.out BK706.out (by decide)) BK705.out (by decide)) (fun _ hk=>hk.1.2) (.slice Ao20 t713.length co20)) (fun _ hk=>hk.2) (.int .i64 a0_0)) (fun _ hk=>hk.2) (.slice Ao16 y710.length co16)) (fun _ hk=>hk.2) (.slice Ao20 t713.length co20)) (fun _ hk=>trivial),by (with_reducible repeat (first|apply Kd.S_alloc|apply Kd.S_drewN|apply Kd.S_drew));exact Kd.S_mono (Kd.S_far (p:=⟨gb705,2,none⟩) (Kd.S_far (p:=⟨gb705,1,none⟩) (Kd.S_far (p:=⟨gb705,0,none⟩) (Kd.S_far (p:=⟨gb706,2,none⟩) (Kd.S_types (Kd.S_types HO715.out BK706.out (by decide)) BK705.out (by decide)) (fun _ hk=>hk.1.2) (.slice Ao20 t713.length co20)) (fun _ hk=>hk.2) (.int .i64 a0_0)) (fun _ hk=>hk.2) (.slice Ao16 y710.length co16)) (fun _ hk=>hk.2) (.slice Ao20 t713.length co20)) (fun _ hk=>hk.1.1.2),yhb⟩
end Go.Proofs.Ytmjbnghhfadapaa.P
