/- The machine's side: each Go function as a plain Lean function and the proof that the machine's call does what that function says; written by this session's own program over the kit's print. -/
import Derived.Test.YtmjbnghhfadapaaZP1
import Derived.Test.YtmjbnghhfadapaaZP6
namespace Go.Proofs.Ytmjbnghhfadapaa.P
set_option maxHeartbeats 8000000
set_option maxRecDepth 100000
open Go.RowKit Go.Proofs.YtmjbnghhfadapaaW.PrintWords Go.Proofs.YtmjbnghhfadapaaW.PrintLast Go.Proofs.YtmjbnghhfadapaaW.PrintMore
attribute [local go_sem] max2_int min2_int max_two min_two max_three min_three max_four min_four   -- for this text's walks alone
set_option linter.unusedVariables false
set_option linter.unusedSimpArgs false
def impl_ruleMasks.orFrom (vals:List Int):Nat→Int→List Int→List Int
 | 0,_,out=>out
 | d + 1,i,out=>impl_ruleMasks.orFrom vals d (i + 1) (out.set i.toNat (Go.bits .or .i64 (rd out i) (shl .i64 1 (rd vals i))))
def impl_ruleMasks.tryV (f:List Int→List Int→Option (List Int × List Int))(m:Int)(i:Nat):Nat→Int→List Int→List Int→Option (List Int × List Int)
 | 0,_,vals,out=>some (vals,out)
 | n + 1,v,vals,out=>if Go.bits .and .i64 (shr .i64 m v) 1=1 then (f (vals.set i v) out).bind fun t=>impl_ruleMasks.tryV f m i n (v + 1) t.1 t.2 else impl_ruleMasks.tryV f m i n (v + 1) vals out
def impl_ruleMasks.try_ (k:Nat)(a0_0:Int)(l0_1:List Int)(a0_2:Int)(own:List Int):Nat→List Int→List Int→Option (List Int × List Int)
 | 0,vals,out=>(impl_valuesHold.f k a0_0 l0_1 a0_2 vals).bind fun b=>if b=true then (if ∀ x∈vals,0≤x then some (vals,impl_ruleMasks.orFrom vals own.length 0 out) else none) else some (vals,out)
 | d + 1,vals,out=>impl_ruleMasks.tryV (impl_ruleMasks.try_ k a0_0 l0_1 a0_2 own d) (rd own ((own.length:Int) - (d + 1:Nat))) ((own.length:Int) - (d + 1:Nat)).toNat 4 1 vals out
def impl_ruleMasks.Boxes (W:World)(gown gr gval gout gtry gv go cv cu:Nat)(Ao:Option Addr)(co n:Nat)(a0_0:Int)(Ac:Option Addr)(cc nc:Nat)(a0_2:Int):Prop :=
 W.heap[gown]?=some (.cells #[.slice Ao n co] 22 (0,0))∧W.heap[gr]?=some (.cells #[.int .i64 a0_0,.slice Ac nc cc,.int .i64 a0_2] 73 (0,0))∧W.heap[gval]?=some (.cells #[.slice (some ⟨gv,0,none⟩) n cv] 22 (0,0))∧W.heap[gout]?=some (.cells #[.slice (some ⟨go,0,none⟩) n cu] 22 (0,0))∧W.heap[gtry]?=some (.cells #[.func (.func 95) #[] #[.pointer (some ⟨gown,0,none⟩),.pointer (some ⟨gr,0,none⟩),.pointer (some ⟨gval,0,none⟩),.pointer (some ⟨gout,0,none⟩),.pointer (some ⟨gtry,0,none⟩)]] 93 (0,0))
theorem impl_ruleMasks.Boxes.below {W W1:World}{gown gr gval gout gtry gv go cv cu:Nat}{Ao:Option Addr}{co n:Nat}{a0_0:Int}{Ac:Option Addr}{cc nc:Nat}{a0_2:Int}(h:impl_ruleMasks.Boxes W gown gr gval gout gtry gv go cv cu Ao co n a0_0 Ac cc nc a0_2)(hb:Below W.heap.size W W1):impl_ruleMasks.Boxes W1 gown gr gval gout gtry gv go cv cu Ao co n a0_0 Ac cc nc a0_2 :=
 ⟨blk_below h.1 hb,blk_below h.2.1 hb,blk_below h.2.2.1 hb,blk_below h.2.2.2.1 hb,blk_below h.2.2.2.2 hb⟩
theorem impl_ruleMasks.Boxes.drewN {W:World}{gown gr gval gout gtry gv go cv cu:Nat}{Ao:Option Addr}{co n:Nat}{a0_0:Int}{Ac:Option Addr}{cc nc:Nat}{a0_2:Int}(h:impl_ruleMasks.Boxes W gown gr gval gout gtry gv go cv cu Ao co n a0_0 Ac cc nc a0_2)(m:Nat):impl_ruleMasks.Boxes (W.drewN m) gown gr gval gout gtry gv go cv cu Ao co n a0_0 Ac cc nc a0_2:=h
theorem impl_ruleMasks.Boxes.grown {W W1:World}{gown gr gval gout gtry gv go cv cu:Nat}{Ao:Option Addr}{co n:Nat}{a0_0:Int}{Ac:Option Addr}{cc nc:Nat}{a0_2:Int}(h:impl_ruleMasks.Boxes W gown gr gval gout gtry gv go cv cu Ao co n a0_0 Ac cc nc a0_2){α:Type}{d:Kd α}{base:Nat}{ok:Nat→Prop}{v:Value}{xs:List α}(ho:d.R 3 W base ok v xs)(hg:W.grownBy W1 v.ownBlock):impl_ruleMasks.Boxes W1 gown gr gval gout gtry gv go cv cu Ao co n a0_0 Ac cc nc a0_2 :=
 ⟨blk_grown h.1 hg (Kd.R_ne ho h.1 (by decide)),blk_grown h.2.1 hg (Kd.R_ne ho h.2.1 (by decide)),blk_grown h.2.2.1 hg (Kd.R_ne ho h.2.2.1 (by decide)),blk_grown h.2.2.2.1 hg (Kd.R_ne ho h.2.2.2.1 (by decide)),blk_grown h.2.2.2.2 hg (Kd.R_ne ho h.2.2.2.2 (by decide))⟩
theorem impl_ruleMasks.R_other {W W1:World}{base:Nat}{g g2:Nat}{n c n2 c2:Nat}{xs:List Int}(h:Kd.R (Kd.int .i64) 3 W base (fun k=>k=g) (.slice (some ⟨g,0,none⟩) n c) xs)(hne:g≠g2)(hg:W.grownBy W1 (some g2)):Kd.R (Kd.int .i64) 3 W1 base (fun k=>k=g) (.slice (some ⟨g,0,none⟩) n c) xs :=
 Kd.R_mono (Kd.R_after (v:= .slice (some ⟨g2,0,none⟩) n2 c2) (v1:= .slice (some ⟨g2,0,none⟩) n2 c2) (ok:=fun k=>k=g) (Kd.R_mono h (fun k hk=>⟨hk,by subst hk;simpa [Value.ownBlock] using hne⟩)) hg (.inl rfl)) (fun k hk=>hk.1)
theorem impl_ruleMasks.clo (k:Nat)(a0_0:Int)(Ac:Option Addr)(cc:Nat)(l0_1:List Int)(a0_2:Int)(Ao:Option Addr)(co:Nat)(own:List Int)(gown gr gval gout gtry gv go cv cu:Nat)(w0:World)(hne:gv≠go)(hbv:w0.heap.size≤gv)(hbo:w0.heap.size≤go)(hrC:Kd.C (Kd.int .i64) w0 Ac l0_1.length l0_1)(hcC:l0_1.length≤cc)(hrO:Kd.C (Kd.int .i64) w0 Ao own.length own) :
  ∀ (d:Nat) (a:Int) (vals out vals' out':List Int) (w:World) (_:(own.length:Int) - d=a) (_:d≤own.length) (_:own.length≤100000) (_:vals.length=own.length) (_:out.length=own.length) (_:Kd.R (Kd.int .i64) 3 w w0.heap.size (fun k=>k=gv) (.slice (some ⟨gv,0,none⟩) own.length cv) vals) (_:Kd.R (Kd.int .i64) 3 w w0.heap.size (fun k=>k=go) (.slice (some ⟨go,0,none⟩) own.length cu) out) (_:impl_ruleMasks.Boxes w gown gr gval gout gtry gv go cv cu Ao co own.length a0_0 Ac cc l0_1.length a0_2) (_:Below w0.heap.size w0 w) (_:impl_ruleMasks.try_ k a0_0 l0_1 a0_2 own d vals out=some (vals',out')),
  Calls Try.prog 95 #[.int .i64 a,.pointer (some ⟨gown,0,none⟩),.pointer (some ⟨gr,0,none⟩),.pointer (some ⟨gval,0,none⟩),.pointer (some ⟨gout,0,none⟩),.pointer (some ⟨gtry,0,none⟩)] w fun e w'=>e= .returned (.tuple #[])∧vals'.length=own.length∧out'.length=own.length∧Kd.R (Kd.int .i64) 3 w' w0.heap.size (fun k=>k=gv) (.slice (some ⟨gv,0,none⟩) own.length cv) vals'∧Kd.R (Kd.int .i64) 3 w' w0.heap.size (fun k=>k=go) (.slice (some ⟨go,0,none⟩) own.length cu) out'∧impl_ruleMasks.Boxes w' gown gr gval gout gtry gv go cv cu Ao co own.length a0_0 Ac cc l0_1.length a0_2∧Below w0.heap.size w0 w':=by
 intro d
 have HRC:=yam hrC
 have HCC:=yam hcC
 have HRO:=yam hrO
 clear hrC hcC hrO
 induction d with
 | zero =>
  intro a vals out vals' out' w ha hd hn hlv hlo hV hO hX hB h
  have ha0:a=(own.length:Int):=by omega
  have hae:(a == (own.length:Int))=true:=beq_iff_eq.mpr ha0
  clear ha ha0 hd
  have HN:=yam hn
  have HLV:=yam hlv
  have HLO:=yam hlo
  have HV:=yam hV
  have HO:=yam hO
  have HX:=yam hX
  have HB:=yam hB
  clear hn hlv hlo hV hO hB
  unfold impl_ruleMasks.try_ at h
  obtain ⟨b,hb,h⟩:=Option.bind_eq_some_iff.1 h
  have HVH:=yam hb
  have H:=yam h
  clear hb h
  have hcO:w.cell? ⟨gown,0,none⟩=some (.slice Ao own.length co):=(blk_cell hX.1 0).trans rfl
  have hcR0:w.cell? ⟨gr,0,none⟩=some (.int .i64 a0_0):=(blk_cell hX.2.1 0).trans rfl
  have hcR1:w.cell? ⟨gr,1,none⟩=some (.slice Ac l0_1.length cc):=(blk_cell hX.2.1 1).trans rfl
  have hcR2:w.cell? ⟨gr,2,none⟩=some (.int .i64 a0_2):=(blk_cell hX.2.1 2).trans rfl
  have hcV:w.cell? ⟨gval,0,none⟩=some (.slice (some ⟨gv,0,none⟩) own.length cv):=(blk_cell hX.2.2.1 0).trans rfl
  clear hX
  cases b with
  | false =>
   have H2:=H.out
   simp only [Bool.false_eq_true,if_false,Option.some.injEq,Prod.mk.injEq] at H2
   obtain ⟨rfl,rfl⟩:=H2
   clear H
   go_enter Try.func95,Try.ntmps95
   go_wp2_with (first|(refine goesL_ (some 16) rfl rfl Try.func82 (by kernel_rfl) rfl #[.agg #[.int .i64 a0_0,.slice Ac l0_1.length cc,.int .i64 a0_2],.slice (some ⟨gv,0,none⟩) vals.length cv] rfl (by (try simp only [List.map_toArray,List.map_cons,List.map_nil]);rw [HLV.out];rfl) ?_;(with_reducible refine (impl_valuesHold.calls k a0_0 _ _ l0_1 a0_2 _ _ vals false _ (Kd.C_below HRC.out HB.out) HCC.out (Kd.R_reads' HV.out).2.2 (by rw [HLV.out];exact (Kd.R_reads' HV.out).2.1) HVH.out).mono ?_);rintro e w' ⟨rfl,hb⟩;refine ⟨_,rfl,?_⟩;replace HV:=yam (Kd.R_below HV.out hb);replace HO:=yam (Kd.R_below HO.out hb);replace HX:=yam (impl_ruleMasks.Boxes.below HX.out hb);replace HB:=yam (below_step HB.out hb);clear hb hcO hcR0 hcR1 hcR2 hcV))
   first|go_end0|((try simp only [Exit.inBlock,Exit.then]);refine bodyPost_ret (results_none rfl _ _ _) rfl ?_)
   exact ⟨rfl,HLV.out,HLO.out,HV.out,HO.out,HX.out,HB.out⟩
  | true =>
   have H2:=H.out
   simp only [if_true] at H2
   by_cases hpos:∀ x∈vals,0≤x
   ·rw [if_pos hpos] at H2
    simp only [Option.some.injEq,Prod.mk.injEq] at H2
    obtain ⟨rfl,rfl⟩:=H2
    clear H
    have HP:=yam hpos
    clear hpos
    go_enter Try.func95,Try.ntmps95
    go_wp2_with (first|(refine goesL_ (some 16) rfl rfl Try.func82 (by kernel_rfl) rfl #[.agg #[.int .i64 a0_0,.slice Ac l0_1.length cc,.int .i64 a0_2],.slice (some ⟨gv,0,none⟩) vals.length cv] rfl (by (try simp only [List.map_toArray,List.map_cons,List.map_nil]);rw [HLV.out];rfl) ?_;(with_reducible refine (impl_valuesHold.calls k a0_0 _ _ l0_1 a0_2 _ _ vals true _ (Kd.C_below HRC.out HB.out) HCC.out (Kd.R_reads' HV.out).2.2 (by rw [HLV.out];exact (Kd.R_reads' HV.out).2.1) HVH.out).mono ?_);rintro e w' ⟨rfl,hb⟩;refine ⟨_,rfl,?_⟩;replace HV:=yam (Kd.R_below HV.out hb);replace HO:=yam (Kd.R_below HO.out hb);replace HX:=yam (impl_ruleMasks.Boxes.below HX.out hb);replace HB:=yam (below_step HB.out hb);clear hb hcO hcR0 hcR1 hcR2 hcV;have hcV:=(blk_cell HX.out.2.2.1 0).trans (rfl:_=some (Value.slice (some ⟨gv,0,none⟩) own.length cv))))
    go_loopg [19] own.length (fun kq v19 w'=>∃ (x:Int) (o:List Int),v19= .int .i64 x∧Aside0 (0≤x∧x + (kq:Int)=(own.length:Int))∧Aside0 (impl_ruleMasks.orFrom vals own.length 0 out=impl_ruleMasks.orFrom vals kq x o)∧Aside0 (o.length=own.length)∧Aside0 (Kd.R (Kd.int .i64) 3 w' w0.heap.size (fun k=>k=gv) (.slice (some ⟨gv,0,none⟩) own.length cv) vals)∧Aside0 (Kd.R (Kd.int .i64) 3 w' w0.heap.size (fun k=>k=go) (.slice (some ⟨go,0,none⟩) own.length cu) o)∧Aside0 (impl_ruleMasks.Boxes w' gown gr gval gout gtry gv go cv cu Ao co own.length a0_0 Ac cc l0_1.length a0_2)∧Aside0 (Below w0.heap.size w0 w'))
    case atStart=>exact ⟨0,out,rfl,⟨by omega⟩,⟨rfl⟩,HLO,HV,HO,HX,HB⟩
    case round =>
     clear hcV HV HO HX HB HLO
     obtain ⟨x,o,rfl,HK,HE,HLO,HV,HO,HX,HB⟩:=hrel
     cases gk with
     | zero =>
      have h1b:decide ((x:Int) < (own.length:Int))=false:=decide_eq_false (by have:=HK.out;omega)
      go_wp2
      first|go_end0|((try simp only [Exit.inBlock,Exit.then]);refine bodyPost_ret (results_none rfl _ _ _) rfl ?_)
      have HE2:=HE.out
      unfold impl_ruleMasks.orFrom at HE2
      exact ⟨rfl,HLV.out,by rw [HE.out];exact HLO.out,HV.out,by rw [HE.out];exact HO.out,HX.out,HB.out⟩
     | succ k1 =>
      have h0:0≤x:=HK.out.1
      have h1:x < (own.length:Int):=by have:=HK.out.2;omega
      have h1b:decide ((x:Int) < (own.length:Int))=true:=decide_eq_true h1
      have hcU:=(blk_cell HX.out.2.2.2.1 0).trans (rfl:_=some (Value.slice (some ⟨go,0,none⟩) own.length cu))
      obtain ⟨hxV0,hfV⟩:=Kd.R_celln 0 HV.out x h0 h1
      obtain ⟨hxO0,hfO⟩:=Kd.R_celln 0 HO.out x h0 h1
      have hxV:=hxV0.trans (rfl:_=some (Value.int .i64 (rd vals x)))
      have hxO:=hxO0.trans (rfl:_=some (Value.int .i64 (rd o x)))
      clear hxV0 hxO0
      have hpv:0≤rd vals x:=HP.out _ (by
       have hl:=HLV.out
       obtain ⟨n,rfl⟩:=Int.eq_ofNat_of_zero_le h0
       have hn:n < vals.length:=by omega
       have e:rd vals (n:Int)=vals[n]:=by simp [rd,hn]
       rw [e];exact List.getElem_mem hn)
      have hpvb:decide (0≤rd vals x)=true:=decide_eq_true hpv
      have HES:impl_ruleMasks.orFrom vals (k1 + 1) x o=impl_ruleMasks.orFrom vals k1 (x + 1) (o.set x.toNat (Go.bits .or .i64 (rd o x) (shl .i64 1 (rd vals x)))):=rfl
      obtain ⟨ji,hji⟩:∃ j_:Int,(shl .i64 1 (rd vals x))=j_:=⟨_,rfl⟩
      rw [hji] at HES
      have hji_:(IntKind.i64.wrap (1 * 2 ^ min (rd vals x).toNat 64))=ji:=hji
      have hjiu:(IntKind.i64.wrap (2 ^ min (rd vals x).toNat 64))=ji:=by have h_:=hji_;rw [Int.one_mul] at h_;exact h_
      have hjiy:(wrap64 (1 * 2 ^ min (rd vals x).toNat 64))=ji:=(i64_w _).symm.trans hji_
      have hjiw:(wrap64 (2 ^ min (rd vals x).toNat 64))=ji:=(i64_w _).symm.trans hjiu
      have HES2:=yam HES
      clear HES hji
      have HPO:=yam (Kd.R_putg HO.out x (Go.bits .or .i64 (rd o x) ji))
      have hnw:wrap64 (x + 1)=x + 1:=by have:=HN.out;unfold wrap64;omega
      have hnw2:IntKind.i64.wrap (x + 1)=x + 1:=by rw [i64_w];exact hnw
      have p0:=eq_true h0
      have p1:=eq_true h1
      have p2:=eq_true hpv
      clear h0 h1 hpv
      go_wp2
      refine start_ (n:=9) (S:=fun w'=>w'.cell? ⟨gout,0,none⟩=some (.slice (some ⟨go,0,none⟩) own.length cu)∧w'.cell? ⟨go,(x:Int).toNat,none⟩=some (.int .i64 (rd o x))) (ds:=[8]) (yvb 9 0) (by kernel_rfl) rfl rfl ⟨hcU,hxO⟩ (fun hHeld=>?_)
      refine pure_ (i:=1) (N:=some 25) (v:=?_) (a':=?_) (yvb 9 2) rfl rfl (by kernel_rfl) (fun _ _ _ h=>h) (Or.inl ⟨by rfl,?_⟩) ?_ ?_
      rotate_left
      ·intro w'
       go_simp
       with_reducible rfl
      rotate_left
      ·simp only [Act.put,List.setIfInBounds_toArray,List.set_cons_zero,List.set_cons_succ,i64_w,i32_w]
       rfl
      refine pure_ (i:=4) (N:=some 28) (v:=?_) (a':=?_) (yvb 9 18) rfl rfl (by kernel_rfl) (fun _ _ _ h=>h) (Or.inl ⟨by rfl,?_⟩) ?_ ?_
      rotate_left
      ·intro w'
       go_simp
       with_reducible rfl
      rotate_left
      ·simp only [Act.put,List.setIfInBounds_toArray,List.set_cons_zero,List.set_cons_succ,i64_w,i32_w]
       rfl
      refine pure_ (i:=5) (N:=some 29) (v:=?_) (a':=?_) (yvb 9 50) rfl rfl (by kernel_rfl) (fun _ _ _ h=>h) (Or.inl ⟨by rfl,?_⟩) ?_ ?_
      rotate_left
      ·intro w'
       go_simp
       with_reducible rfl
      rotate_left
      ·simp only [Act.put,List.setIfInBounds_toArray,List.set_cons_zero,List.set_cons_succ,i64_w,i32_w]
       rfl
      refine take_ (i:=0) (N:=some 24) (v:=?_) (a':=?_) (yvb 9 51) rfl rfl (by kernel_rfl) (fun _ _ _ h=>h) (Or.inl ⟨by rfl,?_⟩) hHeld ?_ ?_
      rotate_left
      ·rintro w' ⟨s0,s1⟩
       go_simp
       with_reducible rfl
      rotate_left
      ·simp only [Act.put,List.setIfInBounds_toArray,List.set_cons_zero,List.set_cons_succ,i64_w,i32_w]
       rfl
      refine pure_ (i:=2) (N:=some 26) (v:=?_) (a':=?_) (yvb 9 55) rfl rfl (by kernel_rfl) (fun _ _ _ h=>h) (Or.inl ⟨by rfl,?_⟩) ?_ ?_
      rotate_left
      ·intro w'
       go_simp
       with_reducible rfl
      rotate_left
      ·simp only [Act.put,List.setIfInBounds_toArray,List.set_cons_zero,List.set_cons_succ,i64_w,i32_w]
       rfl
      refine take_ (i:=3) (N:=some 27) (v:=?_) (a':=?_) (yvb 9 63) rfl rfl (by kernel_rfl) (fun _ _ _ h=>h) (Or.inl ⟨by rfl,?_⟩) hHeld ?_ ?_
      rotate_left
      ·rintro w' ⟨s0,s1⟩
       go_simp
       with_reducible rfl
      rotate_left
      ·simp only [Act.put,List.setIfInBounds_toArray,List.set_cons_zero,List.set_cons_succ,i64_w,i32_w]
       rfl
      refine pure_ (i:=6) (N:=some 30) (v:=?_) (a':=?_) (yvb 9 127) rfl rfl (by kernel_rfl) (fun _ _ _ h=>h) (Or.inl ⟨by rfl,?_⟩) ?_ ?_
      rotate_left
      ·intro w'
       go_simp
       with_reducible rfl
      rotate_left
      ·simp only [Act.put,List.setIfInBounds_toArray,List.set_cons_zero,List.set_cons_succ,i64_w,i32_w]
       rfl
      refine pure_ (i:=7) (N:=some 31) (v:=?_) (a':=?_) (yvb 9 255) rfl rfl (by kernel_rfl) (fun _ _ _ h=>h) (Or.inl ⟨by rfl,?_⟩) ?_ ?_
      rotate_left
      ·intro w'
       go_simp
       with_reducible rfl
      rotate_left
      ·simp only [Act.put,List.setIfInBounds_toArray,List.set_cons_zero,List.set_cons_succ,i64_w,i32_w]
       rfl
      refine last_ (i:=8) (N:=none) (yvb 9 511) rfl rfl (by kernel_rfl) (by decide) (fun K hK=>?_)
      refine skip_ (w1:=?_) (by rfl) rfl ?_ ?_
      rotate_left
      ·go_simp
       rfl
      refine hK.out _ _ ?_
      clear hK K
      refine done_ (by kernel_rfl) ?_
      go_wp2
      go_roundg k1
      case measure=>omega
      case rel=>exact ⟨x + 1,o.set x.toNat (Go.bits .or .i64 (rd o x) ji),by first|rfl|(rw [hnw])|(rw [hnw2]),⟨by have:=HK.out;omega⟩,⟨by rw [HE.out];exact HES2.out⟩,⟨by rw [List.length_set];exact HLO.out⟩,⟨Kd.R_drew (impl_ruleMasks.R_other (n2:=own.length) (c2:=own.length) HV.out hne HPO.out.2)⟩,⟨Kd.R_drew HPO.out.1⟩,⟨(impl_ruleMasks.Boxes.grown HX.out HO.out HPO.out.2).drewN 1⟩,⟨below_drew1 (below_set HB.out hbo)⟩⟩
   ·rw [if_neg hpos] at H2
    exact absurd H2 (by simp)
 | succ d ih =>
  intro a vals out vals' out' w ha hd hn hlv hlo hV hO hX hB h
  have ha1:¬ a=(own.length:Int):=by omega
  have hae:(a == (own.length:Int))=false:=beq_eq_false_iff_ne.mpr ha1
  have HA:=yam (show (own.length:Int) - (d + 1:Nat)=a∧0≤a∧a < (own.length:Int) from ⟨ha,by omega,by omega⟩)
  have HD:=yam (show d≤own.length by omega)
  have HN:=yam hn
  have HLV:=yam hlv
  have HLO:=yam hlo
  have HV:=yam hV
  have HO:=yam hO
  have HX:=yam hX
  have HB:=yam hB
  unfold impl_ruleMasks.try_ at h
  rw [ha] at h
  have H:=yam h
  have hcO:w.cell? ⟨gown,0,none⟩=some (.slice Ao own.length co):=(blk_cell hX.1 0).trans rfl
  clear ha ha1 hd hn hlv hlo hV hO hX hB h
  have IH:=yam ih
  clear ih
  go_enter Try.func95,Try.ntmps95
  go_wp2
  go_loopg [9] 4 (fun kq v9 w'=>∃ (x:Int) (vs o:List Int),v9= .int .i64 x∧Aside0 (1≤x∧x + (kq:Int)=5)∧Aside0 (impl_ruleMasks.tryV (impl_ruleMasks.try_ k a0_0 l0_1 a0_2 own d) (rd own a) a.toNat kq x vs o=some (vals',out'))∧Aside0 (vs.length=own.length)∧Aside0 (o.length=own.length)∧Aside0 (Kd.R (Kd.int .i64) 3 w' w0.heap.size (fun k=>k=gv) (.slice (some ⟨gv,0,none⟩) own.length cv) vs)∧Aside0 (Kd.R (Kd.int .i64) 3 w' w0.heap.size (fun k=>k=go) (.slice (some ⟨go,0,none⟩) own.length cu) o)∧Aside0 (impl_ruleMasks.Boxes w' gown gr gval gout gtry gv go cv cu Ao co own.length a0_0 Ac cc l0_1.length a0_2)∧Aside0 (Below w0.heap.size w0 w'))
  case atStart=>exact ⟨1,vals,out,rfl,⟨by omega⟩,H,HLV,HLO,HV,HO,HX,HB⟩
  case round =>
   clear hcO HV HO HX HB HLO HLV H
   obtain ⟨x,vs,o,rfl,HK,HE,HLV,HLO,HV,HO,HX,HB⟩:=hrel
   cases gk with
   | zero =>
    have h1b:decide ((x:Int)≤4)=false:=decide_eq_false (by have:=HK.out;omega)
    have HE2:=HE.out
    unfold impl_ruleMasks.tryV at HE2
    simp only [Option.some.injEq,Prod.mk.injEq] at HE2
    obtain ⟨rfl,rfl⟩:=HE2
    go_wp2
    first|go_end0|((try simp only [Exit.inBlock,Exit.then]);refine bodyPost_ret (results_none rfl _ _ _) rfl ?_)
    exact ⟨rfl,HLV.out,HLO.out,HV.out,HO.out,HX.out,HB.out⟩
   | succ k1 =>
    have h1b:decide ((x:Int)≤4)=true:=decide_eq_true (by have:=HK.out;omega)
    have h0:0≤a:=HA.out.2.1
    have h1:a < (own.length:Int):=HA.out.2.2
    have hx0:0≤x:=by have:=HK.out;omega
    have hcO:=(blk_cell HX.out.1 0).trans (rfl:_=some (Value.slice Ao own.length co))
    obtain ⟨ad,eA,hxA⟩:=Kd.at_int (Kd.C_below HRO.out HB.out) a h0 h1
    have hnw:wrap64 (x + 1)=x + 1:=by have:=HK.out;unfold wrap64;omega
    have hnw2:IntKind.i64.wrap (x + 1)=x + 1:=by rw [i64_w];exact hnw
    have p0:=eq_true h0
    have p1:=eq_true h1
    have p2:=eq_true hx0
    have p2b:decide (0≤x)=true:=decide_eq_true hx0
    have HE2:=HE.out
    rw [impl_ruleMasks.tryV] at HE2
    obtain ⟨ji,hji⟩:∃ j_:Int,(shr .i64 (rd own a) x)=j_:=⟨_,rfl⟩
    rw [hji] at HE2
    have hji_:((rd own a) / 2 ^ min x.toNat 64)=ji:=hji
    clear hji
    by_cases hbit:Go.bits .and .i64 ji 1=1
    ·rw [if_pos hbit] at HE2
     obtain ⟨⟨t1,t2⟩,hT,HE3⟩:=Option.bind_eq_some_iff.1 HE2
     have hbb:(Go.bits .and .i64 ji 1 == 1)=true:=beq_iff_eq.mpr hbit
     have HT:=yam hT
     have HE4:=yam HE3
     have hcV:=(blk_cell HX.out.2.2.1 0).trans (rfl:_=some (Value.slice (some ⟨gv,0,none⟩) own.length cv))
     obtain ⟨hxV,hfV⟩:=Kd.R_celln 0 HV.out a h0 h1
     have HPV:=yam (Kd.R_putg HV.out a x)
     have HX2:=yam (impl_ruleMasks.Boxes.grown HX.out HV.out HPV.out.2)
     have HO2:=yam (impl_ruleMasks.R_other (n2:=own.length) (c2:=own.length) HO.out (fun e=>hne e.symm) HPV.out.2)
     have HB2:=yam (below_set (j:=a.toNat) (v:= .int .i64 x) HB.out hbv)
     have hcT:=(blk_cell HX2.out.2.2.2.2 0).trans (rfl:_=some (Value.func (.func 95) #[] #[.pointer (some ⟨gown,0,none⟩),.pointer (some ⟨gr,0,none⟩),.pointer (some ⟨gval,0,none⟩),.pointer (some ⟨gout,0,none⟩),.pointer (some ⟨gtry,0,none⟩)]))
     have haw:wrap64 (a + 1)=a + 1:=by have:=HN.out;unfold wrap64;omega
     have haw2:IntKind.i64.wrap (a + 1)=a + 1:=by rw [i64_w];exact haw
     clear h0 h1 hx0 HE2 HE3 hT hbit HE
     cases eA
     go_wp2_with (first|(go_at_call 95;(refine (IH.out (a + 1) (vs.set a.toNat x) o t1 t2 _ (by have:=HA.out.1;omega) HD.out HN.out (by rw [List.length_set];exact HLV.out) HLO.out HPV.out.1 HO2.out HX2.out HB2.out HT.out).mono ?_);rintro e w' ⟨rfl,HL1,HL2,hV,hO,hX,hB⟩;have HV3:=yam hV;have HO3:=yam hO;have HX3:=yam hX;have HB3:=yam hB;have HLV3:=yam HL1;have HLO3:=yam HL2;clear hV hO hX hB HL1 HL2))
     go_roundg k1
     case measure=>omega
     case rel=>exact ⟨x + 1,t1,t2,by first|rfl|(rw [hnw])|(rw [hnw2]),⟨by have:=HK.out;omega⟩,HE4,HLV3,HLO3,HV3,HO3,HX3,HB3⟩
    ·rw [if_neg hbit] at HE2
     have hbb:(Go.bits .and .i64 ji 1 == 1)=false:=beq_eq_false_iff_ne.mpr hbit
     have HE4:=yam HE2
     clear h0 h1 hx0 HE2 hbit HE
     cases eA
     go_wp2
     go_roundg k1
     case measure=>omega
     case rel=>exact ⟨x + 1,vs,o,by first|rfl|(rw [hnw])|(rw [hnw2]),⟨by have:=HK.out;omega⟩,HE4,HLV,HLO,HV,HO,HX,HB⟩
theorem impl_ruleMasks.newBox (W:World)(z v:Value)(t:TypeId):Below W.heap.size W ((W.alloc (.cells #[z] t)).setCell ⟨W.heap.size,0,none⟩ v)∧((W.alloc (.cells #[z] t)).setCell ⟨W.heap.size,0,none⟩ v).heap[W.heap.size]?=some (.cells #[v] t (0,0))∧(W.alloc (.cells #[z] t)).cell? ⟨W.heap.size,0,none⟩=some z∧(W.alloc (.cells #[z] t)).frozen? ⟨W.heap.size,0,none⟩=false :=
 ⟨below_set (below_alloc (Below.refl _ _) _) (Nat.le_refl _),by simpa using blk_set (heap_alloc_new W (.cells #[z] t)) 0 v,(blk_cell (heap_alloc_new W (.cells #[z] t)) 0).trans rfl,blk_frozen (heap_alloc_new W (.cells #[z] t)) 0⟩
def impl_ruleMasks.f (k:Nat)(a0_0:Int)(l0_1:List Int)(a0_2:Int)(l1:List Int):Option (List Int) :=
 if 0 < l1.length∧l1.length≤100000 then (impl_ruleMasks.try_ k a0_0 l0_1 a0_2 l1 l1.length (List.replicate l1.length 0) (List.replicate l1.length 0)).bind fun t=>some t.2 else none
theorem impl_ruleMasks.calls (k:Nat)(a0_0:Int)(A0_1:Option Addr)(c0_1:Nat)(l0_1:List Int)(a0_2:Int)(A1:Option Addr)(c1:Nat)(l1:List Int)(r:List Int)(w:World)(hr0_1:Kd.C (Kd.int .i64) w A0_1 l0_1.length l0_1)(hc0_1:l0_1.length≤c0_1)(hr1:Kd.C (Kd.int .i64) w A1 l1.length l1)(hc1:l1.length≤c1)(h:impl_ruleMasks.f k a0_0 l0_1 a0_2 l1=some r) :
  Calls Try.prog 92 #[.agg #[.int .i64 a0_0,.slice A0_1 l0_1.length c0_1,.int .i64 a0_2],.slice A1 l1.length c1] w fun e w'=>∃ v0_:Value,e= .returned (v0_)∧Kd.R (Kd.int .i64) 3 w' w.heap.size (fun _=>True) v0_ r∧Below w.heap.size w w':=by
 unfold impl_ruleMasks.f at h
 by_cases hc:0 < l1.length∧l1.length≤100000
 ·rw [if_pos hc] at h
  obtain ⟨⟨t1,t2⟩,hT,h⟩:=Option.bind_eq_some_iff.1 h
  obtain rfl:=Option.some.inj h
  have HT:=yam hT
  have HN:=yam hc
  have HR0:=yam hr0_1
  have HC0:=yam hc0_1
  have HR1:=yam hr1
  have hu32:=Try.underlying73
  clear h hT hc hr0_1 hc0_1 hr1 hc1
  have HB:=yam (Below.refl w.heap.size w)
  go_enter Try.func92,Try.ntmps92
  go_upto_region 1 with (first
   | (refine ybe 2 #[.int .i64 a0_0,.slice A0_1 l0_1.length c0_1,.int .i64 a0_2] 73 ?_;intro gr hg w5 hbox hb;have n0_:=yam (below_step HB.out hb);have BR:=yam hbox;clear HB;have HB:=n0_;clear n0_ hb hbox hg)
   | (refine ybe 3 #[.slice A1 l1.length c1] 22 ?_;intro gown hg w6 hbox hb;have n0_:=yam (below_step HB.out hb);have BO:=yam hbox;have n1_:=yam (blk_below BR.out hb);clear HB BR;have HB:=n0_;have BR:=n1_;clear n0_ n1_ hb hbox hg))
  (try simp only [Act.put,List.setIfInBounds_toArray,List.set_cons_zero,List.set_cons_succ])
  have hcO:=(blk_cell BO.out 0).trans (rfl:_=some (Value.slice A1 l1.length c1))
  go_upto_region 2 with (first
   | ((with_reducible refine gate_dst (N:=10) rfl ?_);refine Kd.R_make (Kd.int .i64) _ 3 rfl (N:=10) rfl 22 _ _ rfl (l1.length:Int) rfl rfl Try.underlying22 (.int .i64 0) 8 info3 rfl (by decide) (by omega) 0 (ok:=fun _=>True) (okp:=fun _=>False) rfl (fun _ hk=>hk.elim) trivial (by omega) (by have:=HN.out;omega) (Below.refl _ _) (Nat.le_refl _) ?_;intro v10 w10 ho10 hb hg_ hnew_;clear hg_ hnew_;obtain ⟨go,cu,e10,_,_,_⟩:=Kd.R_form ho10 (by have:=HN.out;simp;omega);simp only [List.length_replicate,Int.toNat_natCast] at e10 ho10;subst e10;replace BR:=yam (blk_below BR.out hb);replace BO:=yam (blk_below BO.out hb);have HO:=yam (Kd.R_lower ho10 (below_size HB.out));replace HB:=yam (below_step HB.out hb);clear hcO ho10 hb;have hcz:=(impl_ruleMasks.newBox w10 (.slice none 0 0) (.int .i64 0) 22).2.2.1;have hfz:=(impl_ruleMasks.newBox w10 (.slice none 0 0) (.int .i64 0) 22).2.2.2))
  replace HB:=yam (show Below w.heap.size w (w10.alloc (Obj.cells #[Value.slice (some ⟨go,0,none⟩) l1.length cu] 22)) from below_alloc HB.out _)
  replace BR:=yam (show (w10.alloc (Obj.cells #[Value.slice (some ⟨go,0,none⟩) l1.length cu] 22)).heap[gr]?=_ from blk_alloc BR.out _)
  replace BO:=yam (show (w10.alloc (Obj.cells #[Value.slice (some ⟨go,0,none⟩) l1.length cu] 22)).heap[gown]?=_ from blk_alloc BO.out _)
  replace HO:=yam (show Kd.R (Kd.int .i64) 3 (w10.alloc (Obj.cells #[Value.slice (some ⟨go,0,none⟩) l1.length cu] 22)) w.heap.size _ _ _ from Kd.R_alloc HO.out _)
  have BU:=yam (show (w10.alloc (Obj.cells #[Value.slice (some ⟨go,0,none⟩) l1.length cu] 22)).heap[w10.heap.size]?=_ from heap_alloc_new w10 _)
  clear hcz hfz
  generalize w10.alloc (Obj.cells #[Value.slice (some ⟨go,0,none⟩) l1.length cu] 22)=W1 at HB BR BO HO BU ⊢
  generalize w10.heap.size=gout at BU ⊢
  have hcO:=(blk_cell BO.out 0).trans (rfl:_=some (Value.slice A1 l1.length c1))
  go_upto_region 3 with (first
   | ((with_reducible refine gate_dst (N:=13) rfl ?_);refine Kd.R_make (Kd.int .i64) _ 3 rfl (N:=13) rfl 22 _ _ rfl (l1.length:Int) rfl rfl Try.underlying22 (.int .i64 0) 8 info3 rfl (by decide) (by omega) 0 (ok:=fun _=>True) (okp:=fun _=>False) rfl (fun _ hk=>hk.elim) trivial (by omega) (by have:=HN.out;omega) (Below.refl _ _) (Nat.le_refl _) ?_;intro v13 w13 ho13 hb hg_ hnew_;clear hg_;obtain ⟨gv,cv,e13,_,_,_⟩:=Kd.R_form ho13 (by have:=HN.out;simp;omega);simp only [List.length_replicate,Int.toNat_natCast] at e13 ho13;subst e13;have HNE:=yam (show go < W1.heap.size∧W1.heap.size≤gv from ⟨Kd.R_lt HO.out go rfl,by obtain ⟨b_,e_,l_⟩:=hnew_;simp [Value.ownBlock] at e_;omega⟩);replace BR:=yam (blk_below BR.out hb);replace BO:=yam (blk_below BO.out hb);have HV:=yam (Kd.R_lower ho13 (below_size HB.out));replace HB:=yam (below_step HB.out hb);replace HO:=yam (Kd.R_below HO.out hb);replace BU:=yam (blk_below BU.out hb);clear hcO ho13 hb hnew_;have hcz:=(impl_ruleMasks.newBox w13 (.slice none 0 0) (.int .i64 0) 22).2.2.1;have hfz:=(impl_ruleMasks.newBox w13 (.slice none 0 0) (.int .i64 0) 22).2.2.2))
  replace HB:=yam (show Below w.heap.size w (w13.alloc (Obj.cells #[Value.slice (some ⟨gv,0,none⟩) l1.length cv] 22)) from below_alloc HB.out _)
  replace BR:=yam (show (w13.alloc (Obj.cells #[Value.slice (some ⟨gv,0,none⟩) l1.length cv] 22)).heap[gr]?=_ from blk_alloc BR.out _)
  replace BO:=yam (show (w13.alloc (Obj.cells #[Value.slice (some ⟨gv,0,none⟩) l1.length cv] 22)).heap[gown]?=_ from blk_alloc BO.out _)
  replace HO:=yam (show Kd.R (Kd.int .i64) 3 (w13.alloc (Obj.cells #[Value.slice (some ⟨gv,0,none⟩) l1.length cv] 22)) w.heap.size _ _ _ from Kd.R_alloc HO.out _)
  replace BU:=yam (show (w13.alloc (Obj.cells #[Value.slice (some ⟨gv,0,none⟩) l1.length cv] 22)).heap[gout]?=_ from blk_alloc BU.out _)
  have BV:=yam (show (w13.alloc (Obj.cells #[Value.slice (some ⟨gv,0,none⟩) l1.length cv] 22)).heap[w13.heap.size]?=_ from heap_alloc_new w13 _)
  replace HV:=yam (show Kd.R (Kd.int .i64) 3 (w13.alloc (Obj.cells #[Value.slice (some ⟨gv,0,none⟩) l1.length cv] 22)) w.heap.size _ _ _ from Kd.R_alloc HV.out _)
  clear hcz hfz
  generalize w13.alloc (Obj.cells #[Value.slice (some ⟨gv,0,none⟩) l1.length cv] 22)=W2 at HB BR BO HO BU BV HV ⊢
  generalize w13.heap.size=gval at BV ⊢
  have hcz:=(impl_ruleMasks.newBox W2 .nilFunc (.int .i64 0) 93).2.2.1
  have hfz:=(impl_ruleMasks.newBox W2 .nilFunc (.int .i64 0) 93).2.2.2
  have hsf:=fun (a:Addr) (c:Array Value) (w:World)=>run_store Try.prog w a (.func (.func 95) #[] c) .plain rfl
  go_upto_region 5 with (fail)
  clear hsf
  clear hcz hfz
  have n0_:=yam (show Below w.heap.size w (W2.alloc (Obj.cells #[(Value.func (.func 95) #[] #[.pointer (some ⟨gown,0,none⟩),.pointer (some ⟨gr,0,none⟩),.pointer (some ⟨gval,0,none⟩),.pointer (some ⟨gout,0,none⟩),.pointer (some ⟨W2.heap.size,0,none⟩)])] 93)) from below_alloc HB.out _)
  have n3_:=yam (show Kd.R (Kd.int .i64) 3 (W2.alloc (Obj.cells #[(Value.func (.func 95) #[] #[.pointer (some ⟨gown,0,none⟩),.pointer (some ⟨gr,0,none⟩),.pointer (some ⟨gval,0,none⟩),.pointer (some ⟨gout,0,none⟩),.pointer (some ⟨W2.heap.size,0,none⟩)])] 93)) w.heap.size (fun k_=>k_=go) _ _ from Kd.R_alloc (Kd.R_mono (Kd.R_tight rfl HO.out) (fun k_ hk_=>by simpa [Value.ownBlock] using hk_)) _)
  have n6_:=yam (show Kd.R (Kd.int .i64) 3 (W2.alloc (Obj.cells #[(Value.func (.func 95) #[] #[.pointer (some ⟨gown,0,none⟩),.pointer (some ⟨gr,0,none⟩),.pointer (some ⟨gval,0,none⟩),.pointer (some ⟨gout,0,none⟩),.pointer (some ⟨W2.heap.size,0,none⟩)])] 93)) w.heap.size (fun k_=>k_=gv) _ _ from Kd.R_alloc (Kd.R_mono (Kd.R_tight rfl HV.out) (fun k_ hk_=>by simpa [Value.ownBlock] using hk_)) _)
  have n7_:=yam (show impl_ruleMasks.Boxes (W2.alloc (Obj.cells #[(Value.func (.func 95) #[] #[.pointer (some ⟨gown,0,none⟩),.pointer (some ⟨gr,0,none⟩),.pointer (some ⟨gval,0,none⟩),.pointer (some ⟨gout,0,none⟩),.pointer (some ⟨W2.heap.size,0,none⟩)])] 93)) gown gr gval gout W2.heap.size gv go cv cu A1 c1 l1.length a0_0 A0_1 c0_1 l0_1.length a0_2 from ⟨blk_alloc BO.out _,blk_alloc BR.out _,blk_alloc BV.out _,blk_alloc BU.out _,heap_alloc_new W2 _⟩)
  have gv0:=Kd.R_base HV.out gv rfl
  have go0:=Kd.R_base HO.out go rfl
  clear HB HO HV BR BO BU BV
  have HB:=n0_
  have HO:=n3_
  have HV:=n6_
  have HX:=n7_
  clear n0_ n3_ n6_ n7_
  generalize (W2.alloc (Obj.cells #[(Value.func (.func 95) #[] #[.pointer (some ⟨gown,0,none⟩),.pointer (some ⟨gr,0,none⟩),.pointer (some ⟨gval,0,none⟩),.pointer (some ⟨gout,0,none⟩),.pointer (some ⟨W2.heap.size,0,none⟩)])] 93))=W3 at HB HO HV HX ⊢
  generalize W2.heap.size=gtry at HX ⊢
  have hcT:=(blk_cell HX.out.2.2.2.2 0).trans (rfl:_=some (Value.func (.func 95) #[] #[.pointer (some ⟨gown,0,none⟩),.pointer (some ⟨gr,0,none⟩),.pointer (some ⟨gval,0,none⟩),.pointer (some ⟨gout,0,none⟩),.pointer (some ⟨gtry,0,none⟩)]))
  go_wp2_with (first|(go_at_call 95;(refine (impl_ruleMasks.clo k a0_0 A0_1 c0_1 l0_1 a0_2 A1 c1 l1 gown gr gval gout gtry gv go cv cu w (by have:=HNE.out;omega) gv0 go0 HR0.out HC0.out HR1.out l1.length 0 (List.replicate l1.length 0) (List.replicate l1.length 0) t1 t2 _ (by omega) (Nat.le_refl _) HN.out.2 (by simp) (by simp) HV.out HO.out HX.out HB.out HT.out).mono ?_);rintro e w' ⟨rfl,HL1,HL2,hV,hO,hX,hB⟩;clear HV HO HX HB hcT hV HL1;have HO:=yam hO;have HB:=yam hB;have HL:=yam HL2;have hcU:=(blk_cell hX.2.2.2.1 0).trans (rfl:_=some (Value.slice (some ⟨go,0,none⟩) l1.length cu));clear hO hB hX HL2))
  go_ret
  exact ⟨_,rfl,Kd.R_mono HO.out (fun _ _=>trivial),HB.out⟩
 ·rw [if_neg hc] at h;cases h
def impl_canHold.l0:Nat→List Int→Int→List Int→List Int→Int→Int→Int→List Int→Int→Option (Bool)
 | 0,_,_,_,_,_,_,_,_,_=>none
 | k + 1,x1,x2,x7,x12,x13,x14,x164000,x164001,x164002=>if x14 < x13 then (if 0≤x14 then (if x14 < (x12.length:Int) then (if 0≤(rd x12 x14) then (if (rd x12 x14) < (x1.length:Int) then (if (rd x1 (rd x12 x14)) > 0 then (if 0≤(rd x1 (rd x12 x14)) then (if x7.length < 17592186044416 then (impl_canHold.l0 k x1 x2 (x7 ++ [shl .i64 1 (rd x1 (rd x12 x14))]) x12 x13 (wrap64 (x14 + 1)) x164000 x164001 x164002) else (none)) else (none)) else ((impl_allValues.f x2).bind fun t173=>(if x7.length < 17592186044416 then (impl_canHold.l0 k x1 x2 (x7 ++ [t173]) x12 x13 (wrap64 (x14 + 1)) x164000 x164001 x164002) else (none)))) else (none)) else (none)) else (none)) else (none)) else ((impl_ruleMasks.f k x164000 x164001 x164002 x7).bind fun t177=>(if 0 < (t177.length:Int) then (some ((rd t177 0) != 0)) else (none)))
def impl_canHold.f (k:Nat)(a0_0:Int)(l0_1:List Int)(a0_2:Int)(l1:List Int)(a2:Int):Option (Bool):=impl_canHold.l0 k l1 a2 (([]:List Int)) l0_1 (l0_1.length:Int) 0 a0_0 l0_1 a0_2
theorem impl_canHold.calls (k:Nat)(a0_0:Int)(A0_1:Option Addr)(c0_1:Nat)(l0_1:List Int)(a0_2:Int)(A1:Option Addr)(c1:Nat)(l1:List Int)(a2:Int)(r:Bool)(w:World)(hr0_1:Kd.C (Kd.int .i64) w A0_1 l0_1.length l0_1)(hc0_1:l0_1.length≤c0_1)(hr1:Kd.C (Kd.int .i64) w A1 l1.length l1)(hc1:l1.length≤c1)(h:impl_canHold.f k a0_0 l0_1 a0_2 l1 a2=some r) :
  Calls Try.prog 88 #[.agg #[.int .i64 a0_0,.slice A0_1 l0_1.length c0_1,.int .i64 a0_2],.slice A1 l1.length c1,.int .i64 a2] w fun e w'=>e= .returned (.bool r)∧Below w.heap.size w w':=by
 have hu73:=Try.underlying73
 have HR0_1:=yam hr0_1
 have HC0_1:=yam hc0_1
 clear hr0_1 hc0_1
 have HR1:=yam hr1
 have HC1:=yam hc1
 clear hr1 hc1
 have HB:=yam (Below.refl w.heap.size w)
 unfold impl_canHold.f at h
 have H:=h
 clear h
 obtain ⟨y164,Ny164⟩:∃ y_:List Int,Aside0 (y_=(([]:List Int))):=⟨_,⟨rfl⟩⟩
 replace H:(impl_canHold.l0 k l1 a2 y164 l0_1 (l0_1.length:Int) 0 a0_0 l0_1 a0_2)=some r:=yhn Ny164.out H
 replace H:=yam H
 go_enter Try.func88,Try.ntmps88
 go_wp2_with (first|(refine ybe 3 #[.int .i64 a0_0,.slice A0_1 l0_1.length c0_1,.int .i64 a0_2] 73 ?_;intro gb163 hg w4 hbox hb;have BK163:=yam (hbox);have GW163:=yam ((by rw [hg];exact (below_size (yez HB.out)):w.heap.size≤gb163));replace HB:=yam (below_step (yez HB.out) hb);have GE163:=GW163;clear hb hbox hg)|((with_reducible refine gate_dst (N:=10) rfl ?_);refine Kd.R_lit (Kd.int .i64) _ 3 ?hg (N:=10) ?hd (xs:=([]:List Int)) (inner:=[]) (ok:=fun _=>True) (okp:=fun _=>True) ?hr ?hp (fun _ hk=>hk) trivial (Below.refl _ _) (Nat.le_refl _) (by simp) ?_;(case hd=>rfl);(case hg=>rfl);(case hr=>first|(go_simp;done)|(go_simp;rfl));(case hp=>exact (Reps.none _ _));intro v165 w5 ho6 hb hg_ hnew_;clear hg_ hnew_;(first|rw [← Ny164.out] at ho6|(simp only [Int.reduceToNat] at ho6;rw [← Ny164.out] at ho6));have HO166:=yam (Kd.R_lower ho6 (below_size yhb));replace BK163:=yam (ybb BK163.out hb);replace HB:=yam (below_step yhb hb);clear hb ho6;obtain ⟨hcz7_0,hcz7_1,hcz7_2,hfz7_0,hfz7_1,hfz7_2⟩:=ybc BK163.out))
 go_loopg [7,14] k (fun kq v7 v14 w'=>∃ (x7_1:List Int) (x14_1:Int),v14= .int .i64 x14_1∧Aside0 (impl_canHold.l0 kq l1 a2 x7_1 l0_1 (l0_1.length:Int) x14_1 a0_0 l0_1 a0_2=some r)∧Aside0 (kq≤k)∧Aside0 (Kd.R (Kd.int .i64) 3 w' w.heap.size (fun _=>True) v7 x7_1)∧Aside0 (w'.heap[gb163]?=some (.cells #[.int .i64 a0_0,(.slice A0_1 l0_1.length c0_1),.int .i64 a0_2] 73 (0,0)))∧Aside0 (Below w.heap.size w w'))
 case atStart=>exact ⟨(y164),(0),yeq,H,⟨Nat.le_refl _⟩,⟨yka HO166.out⟩,⟨ybk BK163.out⟩,⟨yhb⟩⟩
 case round =>
  clear H
  try clear c1
  try clear hcz7_0
  try clear hcz7_1
  try clear hcz7_2
  try clear hfz7_0
  try clear hfz7_1
  try clear hfz7_2
  obtain ⟨x7_1,x14_1,rfl,HA,HK1,HO_7,BK163,HB⟩:=hrel
  rcases gk with _|k1
  ·exact absurd HA.out (by simp [impl_canHold.l0])
  obtain ⟨H⟩:=HA
  simp only [impl_canHold.l0] at H
  replace H:=yis H;obtain ⟨c8b0,H⟩ | ⟨c8b0,H⟩:=H
  rotate_left
  ·replace H:=ybi H;obtain ⟨t177,A21,H⟩:=H
   try dsimp only at H
   replace H:=yit H;obtain ⟨c22,H⟩ | ⟨c22,H⟩:=H
   rotate_left
   ·exact absurd H (by simp)
   have c22b0:decide (0 < (t177.length:Int))=true:=decide_eq_true c22
   have c22b1:decide (0 < t177.length)=true:=decide_eq_true (by omega)
   clear c22
   obtain rfl:=ysi H
   obtain ⟨hcz23_0,hcz23_1,hcz23_2,hfz23_0,hfz23_1,hfz23_2⟩:=ybc BK163.out
   obtain ⟨Ao24,co24,eo24⟩:=Kd.R_slice HO_7.out
   subst eo24
   go_wp2_with (first|(refine goesL_ (some 39) rfl rfl Try.func92 (by kernel_rfl) rfl #[.agg #[.int .i64 a0_0,.slice A0_1 l0_1.length c0_1,.int .i64 a0_2],.slice Ao24 x7_1.length co24] rfl ymd ?_;(with_reducible refine (impl_ruleMasks.calls k1 a0_0 _ _ l0_1 a0_2 _ _ x7_1 t177 _ ?_ ?_ ?_ ?_ A21.out).mono ?_);exact Kd.Cz ((Kd.C_below HR0_1.out HB.out));exact HC0_1.out;exact Kd.Cz (Kd.Yr HO_7.out).2.2;exact (Kd.Yr HO_7.out).2.1;rintro e w25 ⟨v178,rfl,ho0,hb⟩;refine ⟨_,rfl,?_⟩;have HO179:=yam (Kd.R_lower (Kd.Yw ho0 (Kd.R_lt (Kd.Yz HO_7.out))) (below_size yhb));replace HO_7:=yam (Kd.Ye (Kd.Yz HO_7.out) (Kd.Yb ho0) hb);replace BK163:=yam (ybb BK163.out hb);replace HB:=yam (below_step yhb hb);(try clear hb);(try clear ho0);obtain ⟨Ao26,co26,eo26⟩:=Kd.R_slice HO179.out;subst eo26;have p180:0≤(0:Int):=(by omega);have q180:0 < (t177.length:Int):=ydt;obtain ⟨ad180,e180,hx180_0⟩:=Kd.at_int (Kd.Yr HO179.out).2.2 0 p180 q180;cases e180;have qi180:(0 < t177.length)=True:=eq_true (by omega);(try rw [show ((0:Int)).toNat=0 from rfl] at hx180_0);(try rw [Addr.add_zero'] at hx180_0);replace p180:=eq_true p180;replace q180:=eq_true q180))
   go_ret
   exact ⟨yer,yhb⟩
  replace H:=yif H;obtain ⟨c9b0,H⟩:=H
  replace H:=yif H;obtain ⟨c10b0,H⟩:=H
  replace H:=yif H;obtain ⟨c11b0,H⟩:=H
  replace H:=yif H;obtain ⟨c12b0,H⟩:=H
  replace H:=yis H;obtain ⟨c13b0,H⟩ | ⟨c13b0,H⟩:=H
  rotate_left
  ·replace H:=ybi H;obtain ⟨t173,A18,H⟩:=H
   try dsimp only at H
   replace H:=yig H;obtain ⟨c19,H⟩:=H
   have LMc19:=yam c19
   clear c19
   obtain ⟨y174,Ny174⟩:∃ y_:List Int,Aside0 (y_=(x7_1 ++ [t173])):=⟨_,⟨rfl⟩⟩
   replace H:(impl_canHold.l0 k1 l1 a2 y174 l0_1 (l0_1.length:Int) (wrap64 (x14_1 + 1)) a0_0 l0_1 a0_2)=some r:=yhn Ny174.out H
   replace H:=yam H
   obtain ⟨ad167,e167,hx167_0,p167,q167⟩:=yat HR0_1.out x14_1
   cases e167
   replace hx167_0:=ybx HB.out hx167_0
   obtain ⟨ad168,e168,hx168_0,p168,q168⟩:=yat HR1.out (rd l0_1 x14_1)
   cases e168
   replace hx168_0:=ybx HB.out hx168_0
   go_wp2_with (first|(refine goesL_ (some 33) rfl rfl Try.func91 (by kernel_rfl) rfl #[.int .i64 a2] rfl ymd ?_;(with_reducible refine (impl_allValues.calls a2 t173 _ A18.out).mono ?_);rintro e w' ⟨rfl,⟨nd,rfl⟩⟩;refine ⟨_,rfl,?_⟩)|((with_reducible refine gate_builtin (b:= .append) (xs:= #[.tmp 31,.tmp 34]) rfl ?_);at_builtin;refine Kd.R_append (Kd.int .i64) (w0:=w) w.heap.size rfl (.tmp 31) (.tmp 34) 22 3 (.int .i64 0) 8 rfl Try.underlying22 info3 rfl (by decide) (by omega) u7 x7_1 t173 [.int .i64 t173] (fun _=>True) (fun _=>False) rfl rfl ?aP (fun _ hk=>hk.elim) ?aF ?aO ?aB ?aS ?aL ?_;(case aP=>exact rfl);(case aB=>exact yhb);(case aF=>exact (fun _ _=>trivial));(case aO=>exact (Kd.Yz HO_7.out));(case aS=>exact (below_size yhb));(case aL=>have:=LMc19.out;omega);intro v175 w20 ho hb hg hat;rw [← Ny174.out] at ho;replace BK163:=yam (blk_grown (g:=gb163) (o:= .cells #[.int .i64 a0_0,.slice (some ad167) l0_1.length c0_1,.int .i64 a0_2] 73 (0,0)) (ybz BK163.out) hg (Kd.R_ne HO_7.out BK163.out (by decide)));replace HB:=yam (hb);have HO176:=yam (ho);clear HO_7;clear ho hb hg hat))
   go_roundg k1
   case measure=>have:=HK1.out;omega
   case rel=>exact ⟨(y174),(wrap64 (x14_1 + 1)),yeq,H,⟨by have:=HK1.out;omega⟩,⟨yka HO176.out⟩,⟨ybk BK163.out⟩,⟨yhb⟩⟩
  replace H:=yig H;obtain ⟨c14,H⟩:=H
  have c14b0:=eq_true c14
  have c14b1:decide (0≤(rd l1 (rd l0_1 x14_1)))=true:=decide_eq_true c14
  clear c14
  obtain ⟨ji15,hji15⟩:∃ j_:Int,(shl .i64 1 (rd l1 (rd l0_1 x14_1)))=j_:=⟨_,rfl⟩
  replace H:(if x7_1.length < 17592186044416 then (impl_canHold.l0 k1 l1 a2 (x7_1 ++ [ji15]) l0_1 (l0_1.length:Int) (wrap64 (x14_1 + 1)) a0_0 l0_1 a0_2) else (none))=some r:=by first|(rw [hji15] at H;exact H)|(simp only [hji15] at H ⊢;exact H)
  have hji15_:(IntKind.i64.wrap (1 * 2 ^ min (rd l1 (rd l0_1 x14_1)).toNat 64))=ji15:=hji15
  have hji15z:(rd l1 (rd l0_1 x14_1))≤64→(IntKind.i64.wrap (1 * 2 ^ (rd l1 (rd l0_1 x14_1)).toNat))=ji15:=shl_small hji15
  have hji15u:(IntKind.i64.wrap (2 ^ min (rd l1 (rd l0_1 x14_1)).toNat 64))=ji15:=by have h_:=hji15_;rw [Int.one_mul] at h_;exact h_
  have hji15v:(rd l1 (rd l0_1 x14_1))≤64→(IntKind.i64.wrap (2 ^ (rd l1 (rd l0_1 x14_1)).toNat))=ji15:=fun hle_=>by have h_:=hji15z hle_;rw [Int.one_mul] at h_;exact h_
  have hji15y:(wrap64 (1 * 2 ^ min (rd l1 (rd l0_1 x14_1)).toNat 64))=ji15:=(i64_w _).symm.trans hji15_
  have hji15x:(rd l1 (rd l0_1 x14_1))≤64→(wrap64 (1 * 2 ^ (rd l1 (rd l0_1 x14_1)).toNat))=ji15:=fun h_=>(i64_w _).symm.trans (hji15z h_)
  replace H:=yig H;obtain ⟨c16,H⟩:=H
  have LMc16:=yam c16
  clear c16
  obtain ⟨y170,Ny170⟩:∃ y_:List Int,Aside0 (y_=(x7_1 ++ [ji15])):=⟨_,⟨rfl⟩⟩
  replace H:(impl_canHold.l0 k1 l1 a2 y170 l0_1 (l0_1.length:Int) (wrap64 (x14_1 + 1)) a0_0 l0_1 a0_2)=some r:=yhn Ny170.out H
  replace H:=yam H
  obtain ⟨ad167,e167,hx167_0,p167,q167⟩:=yat HR0_1.out x14_1
  cases e167
  replace hx167_0:=ybx HB.out hx167_0
  obtain ⟨ad168,e168,hx168_0,p168,q168⟩:=yat HR1.out (rd l0_1 x14_1)
  cases e168
  replace hx168_0:=ybx HB.out hx168_0
  obtain ⟨ad169,e169,hx169_0,p169,q169⟩:=yat HR1.out (rd l0_1 x14_1)
  obtain rfl:ad168=ad169:=(by injection e169)
  replace hx169_0:=ybx HB.out hx169_0
  go_wp2_with (first|((with_reducible refine gate_builtin (b:= .append) (xs:= #[.tmp 23,.tmp 29]) rfl ?_);at_builtin;refine Kd.R_append (Kd.int .i64) (w0:=w) w.heap.size rfl (.tmp 23) (.tmp 29) 22 3 (.int .i64 0) 8 rfl Try.underlying22 info3 rfl (by decide) (by omega) u7 x7_1 ji15 [.int .i64 ji15] (fun _=>True) (fun _=>False) rfl rfl ?aP (fun _ hk=>hk.elim) ?aF ?aO ?aB ?aS ?aL ?_;(case aP=>exact rfl);(case aB=>exact yhb);(case aF=>exact (fun _ _=>trivial));(case aO=>exact (Kd.Yz HO_7.out));(case aS=>exact (below_size yhb));(case aL=>have:=LMc16.out;omega);intro v171 w17 ho hb hg hat;rw [← Ny170.out] at ho;replace BK163:=yam (blk_grown (g:=gb163) (o:= .cells #[.int .i64 a0_0,.slice (some ad167) l0_1.length c0_1,.int .i64 a0_2] 73 (0,0)) (ybz BK163.out) hg (Kd.R_ne HO_7.out BK163.out (by decide)));replace HB:=yam (hb);have HO172:=yam (ho);clear HO_7;clear ho hb hg hat))
  go_roundg k1
  case measure=>have:=HK1.out;omega
  case rel=>exact ⟨(y170),(wrap64 (x14_1 + 1)),yeq,H,⟨by have:=HK1.out;omega⟩,⟨yka HO172.out⟩,⟨ybk BK163.out⟩,⟨yhb⟩⟩
mutual
def impl_PuzzleFits.j0:Nat→List Int→Bool→Int→List Int→List (S73)→Option (Bool)
 | 0,_,_,_,_,_=>none
 | k + 1,x1,x18,x182000,x182001,x182002=>if x18=true then (some false) else (impl_PuzzleFits.l0 k x1 x1 (x1.length:Int) 0 x182000 x182001 x182002)
def impl_PuzzleFits.l0:Nat→List Int→List Int→Int→Int→Int→List Int→List (S73)→Option (Bool)
 | 0,_,_,_,_,_,_,_=>none
 | k + 1,x1,x19,x20,x21,x182000,x182001,x182002=>if x21 < x20 then (if 0≤x21 then (if x21 < (x19.length:Int) then (if (rd x19 x21) > 0 then (if x21 < (x182001.length:Int) then (if (rd x182001 x21) > 0 then (if (rd x19 x21)=(rd x182001 x21) then (impl_PuzzleFits.l0 k x1 x19 x20 (wrap64 (x21 + 1)) x182000 x182001 x182002) else (some false)) else (impl_PuzzleFits.l0 k x1 x19 x20 (wrap64 (x21 + 1)) x182000 x182001 x182002)) else (none)) else (impl_PuzzleFits.l0 k x1 x19 x20 (wrap64 (x21 + 1)) x182000 x182001 x182002)) else (none)) else (none)) else (impl_PuzzleFits.l1 k x1 x182002 (x182002.length:Int) 0 x182000 x182001 x182002)
def impl_PuzzleFits.l1:Nat→List Int→List (S73)→Int→Int→Int→List Int→List (S73)→Option (Bool)
 | 0,_,_,_,_,_,_,_=>none
 | k + 1,x1,x47,x48,x49,x182000,x182001,x182002=>if x49 < x48 then (if 0≤x49 then (if x49 < (x47.length:Int) then ((impl_canHold.f k ((rd_T73 x47 x49).f0) ((rd_T73 x47 x49).f1) ((rd_T73 x47 x49).f2) x1 x182000).bind fun t189=>(if t189=true then (impl_PuzzleFits.l1 k x1 x47 x48 (wrap64 (x49 + 1)) x182000 x182001 x182002) else (some false))) else (none)) else (none)) else (some true)
end
def impl_PuzzleFits.f (k:Nat)(a0_0:Int)(l0_1:List Int)(l0_2:List (S73))(l1:List Int):Option (Bool):=(impl_PuzzleValid.f k a0_0 l0_1 l0_2).bind fun t182=>(if t182=true then ((impl_SquareFits.f k l1 a0_0).bind fun t183=>(impl_PuzzleFits.j0 k l1 (!t183) a0_0 l0_1 l0_2)) else (impl_PuzzleFits.j0 k l1 true a0_0 l0_1 l0_2))
theorem impl_PuzzleFits.calls (k:Nat)(a0_0:Int)(A0_1:Option Addr)(c0_1:Nat)(l0_1:List Int)(A0_2:Option Addr)(c0_2:Nat)(l0_2:List (S73))(A1:Option Addr)(c1:Nat)(l1:List Int)(r:Bool)(w:World)(hr0_1:Kd.C (Kd.int .i64) w A0_1 l0_1.length l0_1)(hc0_1:l0_1.length≤c0_1)(hr0_2:Kd.C k73 w A0_2 l0_2.length l0_2)(hc0_2:l0_2.length≤c0_2)(hr1:Kd.C (Kd.int .i64) w A1 l1.length l1)(hc1:l1.length≤c1)(h:impl_PuzzleFits.f k a0_0 l0_1 l0_2 l1=some r) :
  Calls Try.prog 72 #[.agg #[.int .i64 a0_0,.slice A0_1 l0_1.length c0_1,.slice A0_2 l0_2.length c0_2],.slice A1 l1.length c1] w fun e w'=>e= .returned (.bool r)∧Below w.heap.size w w':=by
 have hu37:=Try.underlying37
 have hu73:=Try.underlying73
 have HR0_1:=yam hr0_1
 have HC0_1:=yam hc0_1
 clear hr0_1 hc0_1
 have HR0_2:=yam hr0_2
 have HC0_2:=yam hc0_2
 clear hr0_2 hc0_2
 have HR1:=yam hr1
 have HC1:=yam hc1
 clear hr1 hc1
 have HB:=yam (Below.refl w.heap.size w)
 unfold impl_PuzzleFits.f at h
 have H:=h
 clear h
 have HC3:=yam H
 clear H
 go_enter Try.func72,Try.ntmps72
 go_upto_region 1 with (first|(refine ybe 2 #[.int .i64 a0_0,.slice A0_1 l0_1.length c0_1,.slice A0_2 l0_2.length c0_2] 37 ?_;intro gb181 hg w4 hbox hb;have BK181:=yam (hbox);have GW181:=yam ((by rw [hg];exact (below_size (yez HB.out)):w.heap.size≤gb181));replace HB:=yam (below_step (yez HB.out) hb);have GE181:=GW181;clear hb hbox hg))
 (try simp only [Act.put,yps])
 go_cut [18] (fun v18 wc=>∃ (kq:Nat) (x18_2:Bool),v18= .bool x18_2∧Aside0 (impl_PuzzleFits.j0 kq l1 x18_2 a0_0 l0_1 l0_2=some r)∧Aside0 (kq≤k)∧Aside0 (wc.heap[gb181]?=some (.cells #[.int .i64 a0_0,(.slice A0_1 l0_1.length c0_1),(.slice A0_2 l0_2.length c0_2)] 37 (0,0)))∧Aside0 (Below w.heap.size w wc))
 case first =>
  have H:=HC3.out
  clear HC3
  replace H:=ybi H;obtain ⟨t182,A5,H⟩:=H
  try dsimp only at H
  cases t182
  ·replace H:=yff H
   replace H:=yam H
   obtain ⟨hcz12_0,hcz12_1,hcz12_2,hfz12_0,hfz12_1,hfz12_2⟩:=ybc BK181.out
   go_wp2_with (first|(refine goesL_ (some 10) rfl rfl Try.func64 (by kernel_rfl) rfl #[.agg #[.int .i64 a0_0,.slice A0_1 l0_1.length c0_1,.slice A0_2 l0_2.length c0_2]] rfl ymd ?_;(with_reducible refine (impl_PuzzleValid.calls k a0_0 _ _ l0_1 _ _ l0_2 false _ ?_ ?_ ?_ ?_ A5.out).mono ?_);exact Kd.Cz ((Kd.C_below HR0_1.out HB.out));exact HC0_1.out;exact Kd.Cz ((Kd.C_below HR0_2.out HB.out));exact HC0_2.out;rintro e w13 ⟨rfl,hb⟩;refine ⟨_,rfl,?_⟩;replace BK181:=yam (ybb BK181.out hb);replace HB:=yam (below_step yhb hb);(try clear hb)))
   go_meet
   case rel=>exact ⟨_,(true),yeq,H,⟨by first|omega|exact Nat.le_refl _⟩,⟨ybk BK181.out⟩,⟨yhb⟩⟩
  replace H:=ytt H
  replace H:=ybi H;obtain ⟨t183,A7,H⟩:=H
  try dsimp only at H
  replace H:=yam H
  obtain ⟨hcz8_0,hcz8_1,hcz8_2,hfz8_0,hfz8_1,hfz8_2⟩:=ybc BK181.out
  go_wp2_with (first|(refine goesL_ (some 10) rfl rfl Try.func64 (by kernel_rfl) rfl #[.agg #[.int .i64 a0_0,.slice A0_1 l0_1.length c0_1,.slice A0_2 l0_2.length c0_2]] rfl ymd ?_;(with_reducible refine (impl_PuzzleValid.calls k a0_0 _ _ l0_1 _ _ l0_2 true _ ?_ ?_ ?_ ?_ A5.out).mono ?_);exact Kd.Cz ((Kd.C_below HR0_1.out HB.out));exact HC0_1.out;exact Kd.Cz ((Kd.C_below HR0_2.out HB.out));exact HC0_2.out;rintro e w9 ⟨rfl,hb⟩;refine ⟨_,rfl,?_⟩;replace BK181:=yam (ybb BK181.out hb);replace HB:=yam (below_step yhb hb);(try clear hb);obtain ⟨hcz10_0,hcz10_1,hcz10_2,hfz10_0,hfz10_1,hfz10_2⟩:=ybc BK181.out)|(go_at_call 52;(with_reducible refine (impl_SquareFits.calls k _ _ l1 a0_0 t183 _ ?_ ?_ A7.out).mono ?_);exact Kd.Cz ((Kd.C_below HR1.out HB.out));exact HC1.out;rintro e w11 ⟨rfl,hb⟩;replace BK181:=yam (ybb BK181.out hb);replace HB:=yam (below_step yhb hb);(try clear hb)))
  go_meet
  case rel=>exact ⟨_,(!t183),yeq,H,⟨by first|omega|exact Nat.le_refl _⟩,⟨ybk BK181.out⟩,⟨yhb⟩⟩
 case rest =>
  clear HC3
  try clear c1
  obtain ⟨kq,x18_2,rfl,HA,HJ2,BK181,HB⟩:=hcut
  rcases kq with _|kj2
  ·exact absurd HA.out (by simp [impl_PuzzleFits.j0])
  obtain ⟨H⟩:=HA
  simp only [impl_PuzzleFits.j0] at H
  cases x18_2
  rotate_left
  ·replace H:=ytt H
   obtain rfl:=ysi H
   go_wp2
   go_ret
   exact ⟨yer,yhb⟩
  replace H:=yff H
  replace H:=yam H
  go_wp2
  go_loopg [21] kj2 (fun kq v21 w'=>∃ (x21_2:Int),v21= .int .i64 x21_2∧Aside0 (impl_PuzzleFits.l0 kq l1 l1 (l1.length:Int) x21_2 a0_0 l0_1 l0_2=some r)∧Aside0 (kq≤kj2)∧Aside0 (w'.heap[gb181]?=some (.cells #[.int .i64 a0_0,(.slice A0_1 l0_1.length c0_1),(.slice A0_2 l0_2.length c0_2)] 37 (0,0)))∧Aside0 (Below w.heap.size w w'))
  case atStart=>exact ⟨(0),yeq,H,⟨Nat.le_refl _⟩,⟨ybk BK181.out⟩,⟨yhb⟩⟩
  case round =>
   clear H
   obtain ⟨x21_2,rfl,HA,HK2,BK181,HB⟩:=hrel
   rcases gk with _|k2
   ·exact absurd HA.out (by simp [impl_PuzzleFits.l0])
   obtain ⟨H⟩:=HA
   simp only [impl_PuzzleFits.l0] at H
   replace H:=yis H;obtain ⟨c15b0,H⟩ | ⟨c15b0,H⟩:=H
   ·replace H:=yif H;obtain ⟨c16b0,H⟩:=H
    replace H:=yif H;obtain ⟨c17b0,H⟩:=H
    replace H:=yis H;obtain ⟨c18b0,H⟩ | ⟨c18b0,H⟩:=H
    rotate_left
    ·replace H:=yam H
     obtain ⟨ad184,e184,hx184_0,p184,q184⟩:=yat HR1.out x21_2
     cases e184
     replace hx184_0:=ybx HB.out hx184_0
     go_wp2
     go_roundg k2
     case measure=>have:=HJ2.out;have:=HK2.out;omega
     case rel=>exact ⟨(wrap64 (x21_2 + 1)),yeq,H,⟨by have:=HJ2.out;have:=HK2.out;omega⟩,⟨ybk BK181.out⟩,⟨yhb⟩⟩
    replace H:=yif H;obtain ⟨c19b0,H⟩:=H
    replace H:=yis H;obtain ⟨c20b0,H⟩ | ⟨c20b0,H⟩:=H
    rotate_left
    ·replace H:=yam H
     obtain ⟨ad184,e184,hx184_0,p184,q184⟩:=yat HR1.out x21_2
     cases e184
     replace hx184_0:=ybx HB.out hx184_0
     obtain ⟨hcz24_0,hcz24_1,hcz24_2,hfz24_0,hfz24_1,hfz24_2⟩:=ybc BK181.out
     obtain ⟨ad185,e185,hx185_0,p185,q185⟩:=yat HR0_1.out x21_2
     cases e185
     replace hx185_0:=ybx HB.out hx185_0
     go_wp2
     go_roundg k2
     case measure=>have:=HJ2.out;have:=HK2.out;omega
     case rel=>exact ⟨(wrap64 (x21_2 + 1)),yeq,H,⟨by have:=HJ2.out;have:=HK2.out;omega⟩,⟨ybk BK181.out⟩,⟨yhb⟩⟩
    replace H:=yit H;obtain ⟨c21,H⟩ | ⟨c21,H⟩:=H
    rotate_left
    ·have c21b0:((rd l1 x21_2) == (rd l0_1 x21_2))=false:=beq_eq_false_iff_ne.mpr c21
     have c21b1:((rd l1 x21_2) != (rd l0_1 x21_2))=true:=bne_iff_ne.mpr c21
     obtain rfl:=ysi H
     obtain ⟨ad184,e184,hx184_0,p184,q184⟩:=yat HR1.out x21_2
     cases e184
     replace hx184_0:=ybx HB.out hx184_0
     obtain ⟨hcz23_0,hcz23_1,hcz23_2,hfz23_0,hfz23_1,hfz23_2⟩:=ybc BK181.out
     obtain ⟨ad185,e185,hx185_0,p185,q185⟩:=yat HR0_1.out x21_2
     cases e185
     replace hx185_0:=ybx HB.out hx185_0
     obtain ⟨ad186,e186,hx186_0,p186,q186⟩:=yat HR0_1.out x21_2
     obtain rfl:ad185=ad186:=(by injection e186)
     replace hx186_0:=ybx HB.out hx186_0
     go_wp2
     go_ret
     exact ⟨yer,yhb⟩
    have c21b0:((rd l1 x21_2) == (rd l0_1 x21_2))=true:=beq_iff_eq.mpr c21
    have c21b1:((rd l1 x21_2) != (rd l0_1 x21_2))=false:=bne_eq_false_iff_eq.mpr c21
    clear c21
    replace H:=yam H
    obtain ⟨ad184,e184,hx184_0,p184,q184⟩:=yat HR1.out x21_2
    cases e184
    replace hx184_0:=ybx HB.out hx184_0
    obtain ⟨hcz22_0,hcz22_1,hcz22_2,hfz22_0,hfz22_1,hfz22_2⟩:=ybc BK181.out
    obtain ⟨ad185,e185,hx185_0,p185,q185⟩:=yat HR0_1.out x21_2
    cases e185
    replace hx185_0:=ybx HB.out hx185_0
    obtain ⟨ad186,e186,hx186_0,p186,q186⟩:=yat HR0_1.out x21_2
    obtain rfl:ad185=ad186:=(by injection e186)
    replace hx186_0:=ybx HB.out hx186_0
    go_wp2
    go_roundg k2
    case measure=>have:=HJ2.out;have:=HK2.out;omega
    case rel=>exact ⟨(wrap64 (x21_2 + 1)),yeq,H,⟨by have:=HJ2.out;have:=HK2.out;omega⟩,⟨ybk BK181.out⟩,⟨yhb⟩⟩
   replace H:=yam H
   obtain ⟨hcz25_0,hcz25_1,hcz25_2,hfz25_0,hfz25_1,hfz25_2⟩:=ybc BK181.out
   go_wp2
   go_loopg [49] k2 (fun kq v49 w'=>∃ (x49_3:Int),v49= .int .i64 x49_3∧Aside0 (impl_PuzzleFits.l1 kq l1 l0_2 (l0_2.length:Int) x49_3 a0_0 l0_1 l0_2=some r)∧Aside0 (kq≤k2)∧Aside0 (w'.heap[gb181]?=some (.cells #[.int .i64 a0_0,(.slice A0_1 l0_1.length c0_1),(.slice A0_2 l0_2.length c0_2)] 37 (0,0)))∧Aside0 (Below w.heap.size w w'))
   case atStart=>exact ⟨(0),yeq,H,⟨Nat.le_refl _⟩,⟨ybk BK181.out⟩,⟨yhb⟩⟩
   case round =>
    clear H
    try clear c15b0
    try clear hcz25_0
    try clear hcz25_1
    try clear hcz25_2
    try clear hfz25_0
    try clear hfz25_1
    try clear hfz25_2
    obtain ⟨x49_3,rfl,HA,HK3,BK181,HB⟩:=hrel
    rcases gk with _|k3
    ·exact absurd HA.out (by simp [impl_PuzzleFits.l1])
    obtain ⟨H⟩:=HA
    simp only [impl_PuzzleFits.l1] at H
    replace H:=yis H;obtain ⟨c26b0,H⟩ | ⟨c26b0,H⟩:=H
    rotate_left
    ·obtain rfl:=ysi H
     go_wp2
     go_ret
     exact ⟨yer,yhb⟩
    replace H:=yif H;obtain ⟨c27b0,H⟩:=H
    replace H:=yif H;obtain ⟨c28b0,H⟩:=H
    replace H:=ybi H;obtain ⟨t189,A29,H⟩:=H
    try dsimp only at H
    cases t189
    ·replace H:=yff H
     obtain rfl:=ysi H
     have p187:0≤(x49_3:Int):=ydt
     have q187:x49_3 < (l0_2.length:Int):=ydt
     obtain ⟨ad187,A187_1,c187_1,e187,hx187_0,hx187_1,hx187_2,hl187_1,hi187_1⟩:=at_T73 HR0_2.out x49_3 p187 q187
     cases e187
     replace hx187_0:=ybx HB.out hx187_0
     replace hx187_1:=ybx HB.out hx187_1
     replace hx187_2:=ybx HB.out hx187_2
     have HR187_1:=yam hi187_1
     have HC187_1:=yam hl187_1
     clear hi187_1 hl187_1
     replace p187:=eq_true p187
     replace q187:=eq_true q187
     go_wp2_with (first|(refine ybe 8 #[.int .i64 0,.slice none 0 0,.int .i64 0] 73 ?_;intro gb188 hg w36 hbox hb;have BK188:=yam (hbox);have GW188:=yam ((by rw [hg];exact (below_size yhb):w.heap.size≤gb188));replace HB:=yam (below_step yhb hb);have GE188:=GW188;have NB181_188:=yam ((by rw [hg];exact Nat.ne_of_lt (blk_lt (g:=gb181) (o:= .cells #[.int .i64 a0_0,.slice A0_1 l0_1.length c0_1,.slice (some ad187) l0_2.length c0_2] 37 (0,0)) (ybz BK181.out)):gb181≠gb188));have NB188_181:=yam ((by rw [hg];exact Nat.ne_of_gt (blk_lt (g:=gb181) (o:= .cells #[.int .i64 a0_0,.slice A0_1 l0_1.length c0_1,.slice (some ad187) l0_2.length c0_2] 37 (0,0)) (ybz BK181.out)):gb188≠gb181));replace BK181:=yam (ybb BK181.out hb);clear hb hbox hg;have hnb37:=NB188_181.out;have hnc37:=NB181_188.out;obtain ⟨hcz38_0,hcz38_1,hcz38_2,hfz38_0,hfz38_1,hfz38_2⟩:=ybc BK188.out;obtain ⟨hcz39_0,hcz39_1,hcz39_2,hfz39_0,hfz39_1,hfz39_2⟩:=ybc BK181.out)|(refine goesL_ (some 57) rfl rfl Try.func88 (by kernel_rfl) rfl #[.agg #[.int .i64 ((rd_T73 l0_2 x49_3).f0),.slice A187_1 ((rd_T73 l0_2 x49_3).f1).length c187_1,.int .i64 ((rd_T73 l0_2 x49_3).f2)],.slice A1 l1.length c1,.int .i64 a0_0] rfl ymd ?_;(with_reducible refine (impl_canHold.calls k3 ((rd_T73 l0_2 x49_3).f0) _ _ ((rd_T73 l0_2 x49_3).f1) ((rd_T73 l0_2 x49_3).f2) _ _ l1 a0_0 false _ ?_ ?_ ?_ ?_ A29.out).mono ?_);exact Kd.C_below HR187_1.out yhb;exact HC187_1.out;exact Kd.C_below HR1.out yhb;exact HC1.out;rintro e w40 ⟨rfl,hb⟩;refine ⟨_,rfl,?_⟩;replace BK181:=yam (blk_below (g:=gb181) (o:= .cells #[.int .i64 a0_0,.slice A0_1 l0_1.length c0_1,.slice (some ad187) l0_2.length c0_2] 37 (0,0)) (by (with_reducible repeat (first|refine ybn ?_ _|refine ybd ?_|refine yba ?_ _));refine blk_far ?_ NB181_188.out _;(with_reducible repeat (first|refine ybn ?_ _|refine ybd ?_|refine yba ?_ _));refine blk_far ?_ NB181_188.out _;(with_reducible repeat (first|refine ybn ?_ _|refine ybd ?_|refine yba ?_ _));refine blk_far ?_ NB181_188.out _;(with_reducible repeat (first|refine ybn ?_ _|refine ybd ?_|refine yba ?_ _));exact BK181.out) hb);replace BK188:=yam (blk_below (g:=gb188) (o:= .cells #[.int .i64 ((rd_T73 l0_2 x49_3).f0),.slice A187_1 ((rd_T73 l0_2 x49_3).f1).length c187_1,.int .i64 ((rd_T73 l0_2 x49_3).f2)] 73 (0,0)) (by (with_reducible repeat (first|refine ybn ?_ _|refine ybd ?_|refine yba ?_ _));refine blk_put (cs:= #[.int .i64 ((rd_T73 l0_2 x49_3).f0),.slice A187_1 ((rd_T73 l0_2 x49_3).f1).length c187_1,.int .i64 0]) ?_ 2 _ rfl;(with_reducible repeat (first|refine ybn ?_ _|refine ybd ?_|refine yba ?_ _));refine blk_put (cs:= #[.int .i64 ((rd_T73 l0_2 x49_3).f0),.slice none 0 0,.int .i64 0]) ?_ 1 _ rfl;(with_reducible repeat (first|refine ybn ?_ _|refine ybd ?_|refine yba ?_ _));refine blk_put (cs:= #[.int .i64 0,.slice none 0 0,.int .i64 0]) ?_ 0 _ rfl;(with_reducible repeat (first|refine ybn ?_ _|refine ybd ?_|refine yba ?_ _));exact BK188.out) hb);replace HB:=yam (below_step yhb hb);(try clear hb)))
     go_ret
     exact ⟨yer,yhb⟩
    replace H:=ytt H
    replace H:=yam H
    have p187:0≤(x49_3:Int):=ydt
    have q187:x49_3 < (l0_2.length:Int):=ydt
    obtain ⟨ad187,A187_1,c187_1,e187,hx187_0,hx187_1,hx187_2,hl187_1,hi187_1⟩:=at_T73 HR0_2.out x49_3 p187 q187
    cases e187
    replace hx187_0:=ybx HB.out hx187_0
    replace hx187_1:=ybx HB.out hx187_1
    replace hx187_2:=ybx HB.out hx187_2
    have HR187_1:=yam hi187_1
    have HC187_1:=yam hl187_1
    clear hi187_1 hl187_1
    replace p187:=eq_true p187
    replace q187:=eq_true q187
    go_wp2_with (first|(refine ybe 8 #[.int .i64 0,.slice none 0 0,.int .i64 0] 73 ?_;intro gb188 hg w31 hbox hb;have BK188:=yam (hbox);have GW188:=yam ((by rw [hg];exact (below_size yhb):w.heap.size≤gb188));replace HB:=yam (below_step yhb hb);have GE188:=GW188;have NB181_188:=yam ((by rw [hg];exact Nat.ne_of_lt (blk_lt (g:=gb181) (o:= .cells #[.int .i64 a0_0,.slice A0_1 l0_1.length c0_1,.slice (some ad187) l0_2.length c0_2] 37 (0,0)) (ybz BK181.out)):gb181≠gb188));have NB188_181:=yam ((by rw [hg];exact Nat.ne_of_gt (blk_lt (g:=gb181) (o:= .cells #[.int .i64 a0_0,.slice A0_1 l0_1.length c0_1,.slice (some ad187) l0_2.length c0_2] 37 (0,0)) (ybz BK181.out)):gb188≠gb181));replace BK181:=yam (ybb BK181.out hb);clear hb hbox hg;have hnb32:=NB188_181.out;have hnc32:=NB181_188.out;obtain ⟨hcz33_0,hcz33_1,hcz33_2,hfz33_0,hfz33_1,hfz33_2⟩:=ybc BK188.out;obtain ⟨hcz34_0,hcz34_1,hcz34_2,hfz34_0,hfz34_1,hfz34_2⟩:=ybc BK181.out)|(refine goesL_ (some 57) rfl rfl Try.func88 (by kernel_rfl) rfl #[.agg #[.int .i64 ((rd_T73 l0_2 x49_3).f0),.slice A187_1 ((rd_T73 l0_2 x49_3).f1).length c187_1,.int .i64 ((rd_T73 l0_2 x49_3).f2)],.slice A1 l1.length c1,.int .i64 a0_0] rfl ymd ?_;(with_reducible refine (impl_canHold.calls k3 ((rd_T73 l0_2 x49_3).f0) _ _ ((rd_T73 l0_2 x49_3).f1) ((rd_T73 l0_2 x49_3).f2) _ _ l1 a0_0 true _ ?_ ?_ ?_ ?_ A29.out).mono ?_);exact Kd.C_below HR187_1.out yhb;exact HC187_1.out;exact Kd.C_below HR1.out yhb;exact HC1.out;rintro e w35 ⟨rfl,hb⟩;refine ⟨_,rfl,?_⟩;replace BK181:=yam (blk_below (g:=gb181) (o:= .cells #[.int .i64 a0_0,.slice A0_1 l0_1.length c0_1,.slice (some ad187) l0_2.length c0_2] 37 (0,0)) (by (with_reducible repeat (first|refine ybn ?_ _|refine ybd ?_|refine yba ?_ _));refine blk_far ?_ NB181_188.out _;(with_reducible repeat (first|refine ybn ?_ _|refine ybd ?_|refine yba ?_ _));refine blk_far ?_ NB181_188.out _;(with_reducible repeat (first|refine ybn ?_ _|refine ybd ?_|refine yba ?_ _));refine blk_far ?_ NB181_188.out _;(with_reducible repeat (first|refine ybn ?_ _|refine ybd ?_|refine yba ?_ _));exact BK181.out) hb);replace BK188:=yam (blk_below (g:=gb188) (o:= .cells #[.int .i64 ((rd_T73 l0_2 x49_3).f0),.slice A187_1 ((rd_T73 l0_2 x49_3).f1).length c187_1,.int .i64 ((rd_T73 l0_2 x49_3).f2)] 73 (0,0)) (by (with_reducible repeat (first|refine ybn ?_ _|refine ybd ?_|refine yba ?_ _));refine blk_put (cs:= #[.int .i64 ((rd_T73 l0_2 x49_3).f0),.slice A187_1 ((rd_T73 l0_2 x49_3).f1).length c187_1,.int .i64 0]) ?_ 2 _ rfl;(with_reducible repeat (first|refine ybn ?_ _|refine ybd ?_|refine yba ?_ _));refine blk_put (cs:= #[.int .i64 ((rd_T73 l0_2 x49_3).f0),.slice none 0 0,.int .i64 0]) ?_ 1 _ rfl;(with_reducible repeat (first|refine ybn ?_ _|refine ybd ?_|refine yba ?_ _));refine blk_put (cs:= #[.int .i64 0,.slice none 0 0,.int .i64 0]) ?_ 0 _ rfl;(with_reducible repeat (first|refine ybn ?_ _|refine ybd ?_|refine yba ?_ _));exact BK188.out) hb);replace HB:=yam (below_step yhb hb);(try clear hb)))
    go_roundg k3
    case measure=>have:=HJ2.out;have:=HK2.out;have:=HK3.out;omega
    case rel=>exact ⟨(wrap64 (x49_3 + 1)),yeq,H,⟨by have:=HJ2.out;have:=HK2.out;have:=HK3.out;omega⟩,⟨ybk BK181.out⟩,⟨yhb⟩⟩
mutual
def impl_cellFits.l0:Nat→List Int→Int→Int→Int→Int→Int→List Int→List (S73)→Option (Bool)
 | 0,_,_,_,_,_,_,_,_=>none
 | k + 1,x1,x2,x7,x15,x16,x191000,x191001,x191002=>if x16 < x15 then (if x7=0 then (none) else ((some (([wrap64 ((wrap64 ((wrap64 (Int.tdiv x2 x7)) * x7)) + x16),wrap64 ((wrap64 (x16 * x7)) + (Int.tmod x2 x7))]:List Int):List Int)).bind fun y191=>(impl_cellFits.l1 k x1 x2 x7 x15 x16 y191 (y191.length:Int) 0 x191000 x191001 x191002))) else (impl_cellFits.l2 k x1 x2 x7 x191002 (x191002.length:Int) 0)
def impl_cellFits.l1:Nat→List Int→Int→Int→Int→Int→List Int→Int→Int→Int→List Int→List (S73)→Option (Bool)
 | 0,_,_,_,_,_,_,_,_,_,_,_=>none
 | k + 1,x1,x2,x7,x15,x16,x33,x34,x35,x191000,x191001,x191002=>if x35 < x34 then (if 0≤x35 then (if x35 < (x33.length:Int) then (if (rd x33 x35)=x2 then (impl_cellFits.l1 k x1 x2 x7 x15 x16 x33 x34 (wrap64 (x35 + 1)) x191000 x191001 x191002) else (if 0≤(rd x33 x35) then (if (rd x33 x35) < (x1.length:Int) then (if 0≤x2 then (if x2 < (x1.length:Int) then (if (rd x1 (rd x33 x35))=(rd x1 x2) then (some false) else (impl_cellFits.l1 k x1 x2 x7 x15 x16 x33 x34 (wrap64 (x35 + 1)) x191000 x191001 x191002)) else (none)) else (none)) else (none)) else (none))) else (none)) else (none)) else (impl_cellFits.l0 k x1 x2 x7 x15 (wrap64 (x16 + 1)) x191000 x191001 x191002)
def impl_cellFits.l2:Nat→List Int→Int→Int→List (S73)→Int→Int→Option (Bool)
 | 0,_,_,_,_,_,_=>none
 | k + 1,x1,x2,x7,x56,x57,x58=>if x58 < x57 then (if 0≤x58 then (if x58 < (x56.length:Int) then ((slices_Contains_int_int.f k ((rd_T73 x56 x58).f1) x2).bind fun t199=>(if t199=true then ((impl_canHold.f k ((rd_T73 x56 x58).f0) ((rd_T73 x56 x58).f1) ((rd_T73 x56 x58).f2) x1 x7).bind fun t200=>(if t200=true then (impl_cellFits.l2 k x1 x2 x7 x56 x57 (wrap64 (x58 + 1))) else (some false))) else (impl_cellFits.l2 k x1 x2 x7 x56 x57 (wrap64 (x58 + 1))))) else (none)) else (none)) else (some true)
end
def impl_cellFits.f (k:Nat)(a0_0:Int)(l0_1:List Int)(l0_2:List (S73))(l1:List Int)(a2:Int):Option (Bool):=impl_cellFits.l0 k l1 a2 a0_0 a0_0 0 a0_0 l0_1 l0_2
def impl_cellFits.T5:Bool × List (List Nat × List Nat):=(true,[([],[]),([],[]),([0,1],[0,1]),([],[]),([2,3],[2,3]),([],[]),([4,5],[4,5]),([],[]),([],[]),([7,8],[7,8]),([],[]),([],[]),([10,11],[10,11]),([9,12],[9,12]),([6,13],[6,13]),([14],[14]),([],[])])
def impl_cellFits.B5:List Nat:=[0,0,3,0,15,0,63,0,0,384,0,0,3072,8064,16383,32767,0]
theorem impl_cellFits.tab5:rtab .any (opsOf Try.f74 5)=impl_cellFits.T5:=by kernel_rfl
theorem impl_cellFits.bits5:waitsOk impl_cellFits.T5.2 impl_cellFits.B5=true:=by kernel_rfl
def impl_cellFits.T8:Bool × List (List Nat × List Nat):=(true,[([],[]),([],[]),([0,1],[0,1]),([2],[2]),([3],[3]),([3],[3]),([4,5,3],[3,4,5]),([6,3],[3,6]),([3],[3]),([3],[3]),([8,9,3],[3,8,9]),([10,3],[3,10]),([7,11,3],[3,7,11]),([3,12],[3,12])])
def impl_cellFits.B8:List Nat:=[0,0,3,7,15,15,63,127,15,15,783,1807,4095,8191]
theorem impl_cellFits.tab8:rtab .any (opsOf Try.f74 8)=impl_cellFits.T8:=by kernel_rfl
theorem impl_cellFits.bits8:waitsOk impl_cellFits.T8.2 impl_cellFits.B8=true:=by kernel_rfl
theorem impl_cellFits.calls (k:Nat)(a0_0:Int)(A0_1:Option Addr)(c0_1:Nat)(l0_1:List Int)(A0_2:Option Addr)(c0_2:Nat)(l0_2:List (S73))(A1:Option Addr)(c1:Nat)(l1:List Int)(a2:Int)(r:Bool)(w:World)(hr0_1:Kd.C (Kd.int .i64) w A0_1 l0_1.length l0_1)(hc0_1:l0_1.length≤c0_1)(hr0_2:Kd.C k73 w A0_2 l0_2.length l0_2)(hc0_2:l0_2.length≤c0_2)(hr1:Kd.C (Kd.int .i64) w A1 l1.length l1)(hc1:l1.length≤c1)(h:impl_cellFits.f k a0_0 l0_1 l0_2 l1 a2=some r) :
  Calls Try.prog 74 #[.agg #[.int .i64 a0_0,.slice A0_1 l0_1.length c0_1,.slice A0_2 l0_2.length c0_2],.slice A1 l1.length c1,.int .i64 a2] w fun e w'=>e= .returned (.bool r)∧Below w.heap.size w w':=by
 have hu37:=Try.underlying37
 have hu73:=Try.underlying73
 have HR0_1:=yam hr0_1
 have HC0_1:=yam hc0_1
 clear hr0_1 hc0_1
 have HR0_2:=yam hr0_2
 have HC0_2:=yam hc0_2
 clear hr0_2 hc0_2
 have HR1:=yam hr1
 have HC1:=yam hc1
 clear hr1 hc1
 have HB:=yam (Below.refl w.heap.size w)
 unfold impl_cellFits.f at h
 have H:=h
 clear h
 replace H:=yam H
 go_enter Try.func74,Try.ntmps74
 go_wp2_with (first|(refine ybe 3 #[.int .i64 a0_0,.slice A0_1 l0_1.length c0_1,.slice A0_2 l0_2.length c0_2] 37 ?_;intro gb190 hg w4 hbox hb;have BK190:=yam (hbox);have GW190:=yam ((by rw [hg];exact (below_size (yez HB.out)):w.heap.size≤gb190));replace HB:=yam (below_step (yez HB.out) hb);have GE190:=GW190;clear hb hbox hg;obtain ⟨hcz5_0,hcz5_1,hcz5_2,hfz5_0,hfz5_1,hfz5_2⟩:=ybc BK190.out))
 go_loopg [16] k (fun kq v16 w'=>∃ (x16_1:Int),v16= .int .i64 x16_1∧Aside0 (impl_cellFits.l0 kq l1 a2 a0_0 a0_0 x16_1 a0_0 l0_1 l0_2=some r)∧Aside0 (kq≤k)∧Aside0 (w'.heap[gb190]?=some (.cells #[.int .i64 a0_0,(.slice A0_1 l0_1.length c0_1),(.slice A0_2 l0_2.length c0_2)] 37 (0,0)))∧Aside0 (Below w.heap.size w w'))
 case atStart=>exact ⟨(0),yeq,H,⟨Nat.le_refl _⟩,⟨ybk BK190.out⟩,⟨yhb⟩⟩
 case round =>
  clear H
  try clear c1
  try clear hcz5_0
  try clear hcz5_1
  try clear hcz5_2
  try clear hfz5_0
  try clear hfz5_1
  try clear hfz5_2
  obtain ⟨x16_1,rfl,HA,HK1,BK190,HB⟩:=hrel
  rcases gk with _|k1
  ·exact absurd HA.out (by simp [impl_cellFits.l0])
  obtain ⟨H⟩:=HA
  simp only [impl_cellFits.l0] at H
  replace H:=yis H;obtain ⟨c6b0,H⟩ | ⟨c6b0,H⟩:=H
  rotate_left
  ·replace H:=yam H
   obtain ⟨hcz24_0,hcz24_1,hcz24_2,hfz24_0,hfz24_1,hfz24_2⟩:=ybc BK190.out
   go_wp2
   go_loopg [58] k1 (fun kq v58 w'=>∃ (x58_2:Int),v58= .int .i64 x58_2∧Aside0 (impl_cellFits.l2 kq l1 a2 a0_0 l0_2 (l0_2.length:Int) x58_2=some r)∧Aside0 (kq≤k1)∧Aside0 (w'.heap[gb190]?=some (.cells #[.int .i64 a0_0,(.slice A0_1 l0_1.length c0_1),(.slice A0_2 l0_2.length c0_2)] 37 (0,0)))∧Aside0 (Below w.heap.size w w'))
   case atStart=>exact ⟨(0),yeq,H,⟨Nat.le_refl _⟩,⟨ybk BK190.out⟩,⟨yhb⟩⟩
   case round =>
    clear H
    try clear c6b0
    try clear hcz24_0
    try clear hcz24_1
    try clear hcz24_2
    try clear hfz24_0
    try clear hfz24_1
    try clear hfz24_2
    obtain ⟨x58_2,rfl,HA,HK2,BK190,HB⟩:=hrel
    rcases gk with _|k2
    ·exact absurd HA.out (by simp [impl_cellFits.l2])
    obtain ⟨H⟩:=HA
    simp only [impl_cellFits.l2] at H
    replace H:=yis H;obtain ⟨c25b0,H⟩ | ⟨c25b0,H⟩:=H
    rotate_left
    ·obtain rfl:=ysi H
     go_wp2
     go_ret
     exact ⟨yer,yhb⟩
    replace H:=yif H;obtain ⟨c26b0,H⟩:=H
    replace H:=yif H;obtain ⟨c27b0,H⟩:=H
    replace H:=ybi H;obtain ⟨t199,A28,H⟩:=H
    try dsimp only at H
    cases t199
    ·replace H:=yff H
     replace H:=yam H
     have p197:0≤(x58_2:Int):=ydt
     have q197:x58_2 < (l0_2.length:Int):=ydt
     obtain ⟨ad197,A197_1,c197_1,e197,hx197_0,hx197_1,hx197_2,hl197_1,hi197_1⟩:=at_T73 HR0_2.out x58_2 p197 q197
     cases e197
     replace hx197_0:=ybx HB.out hx197_0
     replace hx197_1:=ybx HB.out hx197_1
     replace hx197_2:=ybx HB.out hx197_2
     have HR197_1:=yam hi197_1
     have HC197_1:=yam hl197_1
     clear hi197_1 hl197_1
     replace p197:=eq_true p197
     replace q197:=eq_true q197
     go_wp2_with (first|(refine ybe 12 #[.int .i64 0,.slice none 0 0,.int .i64 0] 73 ?_;intro gb198 hg w40 hbox hb;have BK198:=yam (hbox);have GW198:=yam ((by rw [hg];exact (below_size yhb):w.heap.size≤gb198));replace HB:=yam (below_step yhb hb);have GE198:=GW198;have NB190_198:=yam ((by rw [hg];exact Nat.ne_of_lt (blk_lt (g:=gb190) (o:= .cells #[.int .i64 a0_0,.slice A0_1 l0_1.length c0_1,.slice (some ad197) l0_2.length c0_2] 37 (0,0)) (ybz BK190.out)):gb190≠gb198));have NB198_190:=yam ((by rw [hg];exact Nat.ne_of_gt (blk_lt (g:=gb190) (o:= .cells #[.int .i64 a0_0,.slice A0_1 l0_1.length c0_1,.slice (some ad197) l0_2.length c0_2] 37 (0,0)) (ybz BK190.out)):gb198≠gb190));replace BK190:=yam (ybb BK190.out hb);clear hb hbox hg;have hnb41:=NB198_190.out;have hnc41:=NB190_198.out;obtain ⟨hcz42_0,hcz42_1,hcz42_2,hfz42_0,hfz42_1,hfz42_2⟩:=ybc BK198.out)|(refine goesL_ (some 65) rfl rfl Try.func89 (by kernel_rfl) rfl #[.slice A197_1 ((rd_T73 l0_2 x58_2).f1).length c197_1,.int .i64 a2] rfl ymd ?_;(with_reducible refine (slices_Contains_int_int.calls k2 _ _ ((rd_T73 l0_2 x58_2).f1) a2 false _ ?_ ?_ A28.out).mono ?_);exact Kd.C_below HR197_1.out yhb;exact HC197_1.out;rintro e w' ⟨rfl,⟨nd,rfl⟩⟩;refine ⟨_,rfl,?_⟩))
     go_roundg k2
     case measure=>have:=HK1.out;have:=HK2.out;omega
     case rel=>exact ⟨(wrap64 (x58_2 + 1)),yeq,H,⟨by have:=HK1.out;have:=HK2.out;omega⟩,⟨by (with_reducible repeat (first|refine ybn ?_ _|refine ybd ?_|refine yba ?_ _));refine blk_far ?_ NB190_198.out _;(with_reducible repeat (first|refine ybn ?_ _|refine ybd ?_|refine yba ?_ _));refine blk_far ?_ NB190_198.out _;(with_reducible repeat (first|refine ybn ?_ _|refine ybd ?_|refine yba ?_ _));refine blk_far ?_ NB190_198.out _;(with_reducible repeat (first|refine ybn ?_ _|refine ybd ?_|refine yba ?_ _));exact BK190.out⟩,⟨yhb⟩⟩
    replace H:=ytt H
    replace H:=ybi H;obtain ⟨t200,A30,H⟩:=H
    try dsimp only at H
    cases t200
    ·replace H:=yff H
     obtain rfl:=ysi H
     have p197:0≤(x58_2:Int):=ydt
     have q197:x58_2 < (l0_2.length:Int):=ydt
     obtain ⟨ad197,A197_1,c197_1,e197,hx197_0,hx197_1,hx197_2,hl197_1,hi197_1⟩:=at_T73 HR0_2.out x58_2 p197 q197
     cases e197
     replace hx197_0:=ybx HB.out hx197_0
     replace hx197_1:=ybx HB.out hx197_1
     replace hx197_2:=ybx HB.out hx197_2
     have HR197_1:=yam hi197_1
     have HC197_1:=yam hl197_1
     clear hi197_1 hl197_1
     replace p197:=eq_true p197
     replace q197:=eq_true q197
     go_wp2_with (first|(refine ybe 12 #[.int .i64 0,.slice none 0 0,.int .i64 0] 73 ?_;intro gb198 hg w36 hbox hb;have BK198:=yam (hbox);have GW198:=yam ((by rw [hg];exact (below_size yhb):w.heap.size≤gb198));replace HB:=yam (below_step yhb hb);have GE198:=GW198;have NB190_198:=yam ((by rw [hg];exact Nat.ne_of_lt (blk_lt (g:=gb190) (o:= .cells #[.int .i64 a0_0,.slice A0_1 l0_1.length c0_1,.slice (some ad197) l0_2.length c0_2] 37 (0,0)) (ybz BK190.out)):gb190≠gb198));have NB198_190:=yam ((by rw [hg];exact Nat.ne_of_gt (blk_lt (g:=gb190) (o:= .cells #[.int .i64 a0_0,.slice A0_1 l0_1.length c0_1,.slice (some ad197) l0_2.length c0_2] 37 (0,0)) (ybz BK190.out)):gb198≠gb190));replace BK190:=yam (ybb BK190.out hb);clear hb hbox hg;have hnb37:=NB198_190.out;have hnc37:=NB190_198.out;obtain ⟨hcz38_0,hcz38_1,hcz38_2,hfz38_0,hfz38_1,hfz38_2⟩:=ybc BK198.out)|(refine goesL_ (some 65) rfl rfl Try.func89 (by kernel_rfl) rfl #[.slice A197_1 ((rd_T73 l0_2 x58_2).f1).length c197_1,.int .i64 a2] rfl ymd ?_;(with_reducible refine (slices_Contains_int_int.calls k2 _ _ ((rd_T73 l0_2 x58_2).f1) a2 true _ ?_ ?_ A28.out).mono ?_);exact Kd.C_below HR197_1.out yhb;exact HC197_1.out;rintro e w' ⟨rfl,⟨nd,rfl⟩⟩;refine ⟨_,rfl,?_⟩)|(go_at_call 88;(with_reducible refine (impl_canHold.calls k2 ((rd_T73 l0_2 x58_2).f0) _ _ ((rd_T73 l0_2 x58_2).f1) ((rd_T73 l0_2 x58_2).f2) _ _ l1 a0_0 false _ ?_ ?_ ?_ ?_ A30.out).mono ?_);exact Kd.C_below HR197_1.out yhb;exact HC197_1.out;exact Kd.C_below HR1.out yhb;exact HC1.out;rintro e w39 ⟨rfl,hb⟩;replace BK190:=yam (blk_below (g:=gb190) (o:= .cells #[.int .i64 a0_0,.slice A0_1 l0_1.length c0_1,.slice (some ad197) l0_2.length c0_2] 37 (0,0)) (by (with_reducible repeat (first|refine ybn ?_ _|refine ybd ?_|refine yba ?_ _));refine blk_far ?_ NB190_198.out _;(with_reducible repeat (first|refine ybn ?_ _|refine ybd ?_|refine yba ?_ _));refine blk_far ?_ NB190_198.out _;(with_reducible repeat (first|refine ybn ?_ _|refine ybd ?_|refine yba ?_ _));refine blk_far ?_ NB190_198.out _;(with_reducible repeat (first|refine ybn ?_ _|refine ybd ?_|refine yba ?_ _));exact BK190.out) hb);replace BK198:=yam (blk_below (g:=gb198) (o:= .cells #[.int .i64 ((rd_T73 l0_2 x58_2).f0),.slice A197_1 ((rd_T73 l0_2 x58_2).f1).length c197_1,.int .i64 ((rd_T73 l0_2 x58_2).f2)] 73 (0,0)) (by (with_reducible repeat (first|refine ybn ?_ _|refine ybd ?_|refine yba ?_ _));refine blk_put (cs:= #[.int .i64 ((rd_T73 l0_2 x58_2).f0),.slice A197_1 ((rd_T73 l0_2 x58_2).f1).length c197_1,.int .i64 0]) ?_ 2 _ rfl;(with_reducible repeat (first|refine ybn ?_ _|refine ybd ?_|refine yba ?_ _));refine blk_put (cs:= #[.int .i64 ((rd_T73 l0_2 x58_2).f0),.slice none 0 0,.int .i64 0]) ?_ 1 _ rfl;(with_reducible repeat (first|refine ybn ?_ _|refine ybd ?_|refine yba ?_ _));refine blk_put (cs:= #[.int .i64 0,.slice none 0 0,.int .i64 0]) ?_ 0 _ rfl;(with_reducible repeat (first|refine ybn ?_ _|refine ybd ?_|refine yba ?_ _));exact BK198.out) hb);replace HB:=yam (below_step yhb hb);(try clear hb)))
     go_ret
     exact ⟨yer,yhb⟩
    replace H:=ytt H
    replace H:=yam H
    have p197:0≤(x58_2:Int):=ydt
    have q197:x58_2 < (l0_2.length:Int):=ydt
    obtain ⟨ad197,A197_1,c197_1,e197,hx197_0,hx197_1,hx197_2,hl197_1,hi197_1⟩:=at_T73 HR0_2.out x58_2 p197 q197
    cases e197
    replace hx197_0:=ybx HB.out hx197_0
    replace hx197_1:=ybx HB.out hx197_1
    replace hx197_2:=ybx HB.out hx197_2
    have HR197_1:=yam hi197_1
    have HC197_1:=yam hl197_1
    clear hi197_1 hl197_1
    replace p197:=eq_true p197
    replace q197:=eq_true q197
    go_wp2_with (first|(refine ybe 12 #[.int .i64 0,.slice none 0 0,.int .i64 0] 73 ?_;intro gb198 hg w32 hbox hb;have BK198:=yam (hbox);have GW198:=yam ((by rw [hg];exact (below_size yhb):w.heap.size≤gb198));replace HB:=yam (below_step yhb hb);have GE198:=GW198;have NB190_198:=yam ((by rw [hg];exact Nat.ne_of_lt (blk_lt (g:=gb190) (o:= .cells #[.int .i64 a0_0,.slice A0_1 l0_1.length c0_1,.slice (some ad197) l0_2.length c0_2] 37 (0,0)) (ybz BK190.out)):gb190≠gb198));have NB198_190:=yam ((by rw [hg];exact Nat.ne_of_gt (blk_lt (g:=gb190) (o:= .cells #[.int .i64 a0_0,.slice A0_1 l0_1.length c0_1,.slice (some ad197) l0_2.length c0_2] 37 (0,0)) (ybz BK190.out)):gb198≠gb190));replace BK190:=yam (ybb BK190.out hb);clear hb hbox hg;have hnb33:=NB198_190.out;have hnc33:=NB190_198.out;obtain ⟨hcz34_0,hcz34_1,hcz34_2,hfz34_0,hfz34_1,hfz34_2⟩:=ybc BK198.out)|(refine goesL_ (some 65) rfl rfl Try.func89 (by kernel_rfl) rfl #[.slice A197_1 ((rd_T73 l0_2 x58_2).f1).length c197_1,.int .i64 a2] rfl ymd ?_;(with_reducible refine (slices_Contains_int_int.calls k2 _ _ ((rd_T73 l0_2 x58_2).f1) a2 true _ ?_ ?_ A28.out).mono ?_);exact Kd.C_below HR197_1.out yhb;exact HC197_1.out;rintro e w' ⟨rfl,⟨nd,rfl⟩⟩;refine ⟨_,rfl,?_⟩)|(go_at_call 88;(with_reducible refine (impl_canHold.calls k2 ((rd_T73 l0_2 x58_2).f0) _ _ ((rd_T73 l0_2 x58_2).f1) ((rd_T73 l0_2 x58_2).f2) _ _ l1 a0_0 true _ ?_ ?_ ?_ ?_ A30.out).mono ?_);exact Kd.C_below HR197_1.out yhb;exact HC197_1.out;exact Kd.C_below HR1.out yhb;exact HC1.out;rintro e w35 ⟨rfl,hb⟩;replace BK190:=yam (blk_below (g:=gb190) (o:= .cells #[.int .i64 a0_0,.slice A0_1 l0_1.length c0_1,.slice (some ad197) l0_2.length c0_2] 37 (0,0)) (by (with_reducible repeat (first|refine ybn ?_ _|refine ybd ?_|refine yba ?_ _));refine blk_far ?_ NB190_198.out _;(with_reducible repeat (first|refine ybn ?_ _|refine ybd ?_|refine yba ?_ _));refine blk_far ?_ NB190_198.out _;(with_reducible repeat (first|refine ybn ?_ _|refine ybd ?_|refine yba ?_ _));refine blk_far ?_ NB190_198.out _;(with_reducible repeat (first|refine ybn ?_ _|refine ybd ?_|refine yba ?_ _));exact BK190.out) hb);replace BK198:=yam (blk_below (g:=gb198) (o:= .cells #[.int .i64 ((rd_T73 l0_2 x58_2).f0),.slice A197_1 ((rd_T73 l0_2 x58_2).f1).length c197_1,.int .i64 ((rd_T73 l0_2 x58_2).f2)] 73 (0,0)) (by (with_reducible repeat (first|refine ybn ?_ _|refine ybd ?_|refine yba ?_ _));refine blk_put (cs:= #[.int .i64 ((rd_T73 l0_2 x58_2).f0),.slice A197_1 ((rd_T73 l0_2 x58_2).f1).length c197_1,.int .i64 0]) ?_ 2 _ rfl;(with_reducible repeat (first|refine ybn ?_ _|refine ybd ?_|refine yba ?_ _));refine blk_put (cs:= #[.int .i64 ((rd_T73 l0_2 x58_2).f0),.slice none 0 0,.int .i64 0]) ?_ 1 _ rfl;(with_reducible repeat (first|refine ybn ?_ _|refine ybd ?_|refine yba ?_ _));refine blk_put (cs:= #[.int .i64 0,.slice none 0 0,.int .i64 0]) ?_ 0 _ rfl;(with_reducible repeat (first|refine ybn ?_ _|refine ybd ?_|refine yba ?_ _));exact BK198.out) hb);replace HB:=yam (below_step yhb hb);(try clear hb)))
    go_roundg k2
    case measure=>have:=HK1.out;have:=HK2.out;omega
    case rel=>exact ⟨(wrap64 (x58_2 + 1)),yeq,H,⟨by have:=HK1.out;have:=HK2.out;omega⟩,⟨ybk BK190.out⟩,⟨yhb⟩⟩
  replace H:=yit H;obtain ⟨c7,H⟩ | ⟨c7,H⟩:=H
  ·exact absurd H (by simp)
  have c7b0:(a0_0 == 0)=false:=beq_eq_false_iff_ne.mpr c7
  have c7b1:(a0_0 != 0)=true:=bne_iff_ne.mpr c7
  obtain ⟨y191,Ny191⟩:∃ y_:List Int,Aside0 (y_=(([wrap64 ((wrap64 ((wrap64 (Int.tdiv a2 a0_0)) * a0_0)) + x16_1),wrap64 ((wrap64 (x16_1 * a0_0)) + (Int.tmod a2 a0_0))]:List Int))):=⟨_,⟨rfl⟩⟩
  replace H:(impl_cellFits.l1 k1 l1 a2 a0_0 a0_0 x16_1 y191 (y191.length:Int) 0 a0_0 l0_1 l0_2)=some r:=yhn Ny191.out H
  replace H:=yam H
  try go_wp2
  replace BK190:=yam (ybd BK190.out)
  replace HB:=yam (yed HB.out)
  refine start_ (n:=17) (S:=fun w'=>True) (ds:=[]) (yvb 17 0) (by kernel_rfl) rfl rfl trivial (fun hHeld=>?_);refine with_tabW impl_cellFits.tab5 impl_cellFits.bits5 (fun HT_ HW_=>?_)
  generalize wr.drew=w8 at BK190 HB hHeld ⊢
  refine yvp 0 19 (yvb 17 1) HT_.out ?_
  refine yvp 1 20 (yvb 17 3) HT_.out ?_
  refine yvp 2 21 (yvb 17 7) HT_.out ?_
  refine yvp 3 22 (yvb 17 15) HT_.out ?_
  refine yvp 4 23 (yvb 17 31) HT_.out ?_
  refine yvp 5 24 (yvb 17 63) HT_.out ?_
  refine yvp 6 25 (yvb 17 127) HT_.out ?_
  refine yvp 7 26 (yvb 17 255) HT_.out ?_
  refine yvp 8 27 (yvb 17 511) HT_.out ?_
  refine yvp 9 28 (yvb 17 1023) HT_.out ?_
  refine yvp 10 29 (yvb 17 2047) HT_.out ?_
  refine yvp 11 30 (yvb 17 4095) HT_.out ?_
  refine yvp 12 31 (yvb 17 8191) HT_.out ?_
  refine yvp 13 32 (yvb 17 16383) HT_.out ?_
  refine yvp 16 35 (yvb 17 81919) HT_.out ?_
  refine one_ (i:=14) (N:=some 33) (yvb 17 98303) rfl rfl (one_of HT_.out (by kernel_rfl)) (by decide) (fun K hK=>?_)
  refine Kd.R_lit_step (Kd.int .i64) _ 3 ?hg (N:=33) ?hd (xs:=([wrap64 ((wrap64 ((wrap64 (Int.tdiv a2 a0_0)) * a0_0)) + x16_1),wrap64 ((wrap64 (x16_1 * a0_0)) + (Int.tmod a2 a0_0))]:List Int)) (inner:=[.int .i64 (wrap64 ((wrap64 ((wrap64 (Int.tdiv a2 a0_0)) * a0_0)) + x16_1)),.int .i64 (wrap64 ((wrap64 (x16_1 * a0_0)) + (Int.tmod a2 a0_0)))]) (ok:=fun _=>True) (okp:=fun _=>True) ?hr ?hp (fun _ hk=>hk) trivial (Below.refl _ _) (Nat.le_refl _) (by simp) ?_;(case hd=>rfl);(case hg=>rfl);(case hr=>first|(go_simp;done)|(go_simp;rfl));(case hp=>exact (Reps.one (show Kd.M (Kd.int .i64) _ _ _ (wrap64 ((wrap64 ((wrap64 (Int.tdiv a2 a0_0)) * a0_0)) + x16_1)) [.int .i64 (wrap64 ((wrap64 ((wrap64 (Int.tdiv a2 a0_0)) * a0_0)) + x16_1))] from rfl) (Reps.one (show Kd.M (Kd.int .i64) _ _ _ (wrap64 ((wrap64 (x16_1 * a0_0)) + (Int.tmod a2 a0_0))) [.int .i64 (wrap64 ((wrap64 (x16_1 * a0_0)) + (Int.tmod a2 a0_0)))] from rfl) (Reps.none _ _))))
  intro v192 w9 ho10 hb hg_ hnew_
  clear hg_ hnew_
  (first|rw [← Ny191.out] at ho10|(simp only [Int.reduceToNat] at ho10;rw [← Ny191.out] at ho10))
  have HO193:=yam (Kd.R_lower ho10 (below_size yhb))
  replace BK190:=yam (ybb BK190.out hb)
  replace HB:=yam (below_step yhb hb)
  clear hb ho10
  obtain ⟨Ao11,co11,eo11⟩:=Kd.R_slice HO193.out
  (first|subst eo11|(injection eo11 with f1_ f2_ f3_;have f4_:=f1_.symm;have f5_:=f3_.symm;clear f1_ f2_ f3_;subst f4_;subst f5_))
  refine hK.out _ _ trivial (fun hHeld=>?_)
  clear hK K
  refine norm_ (a':=?_) ?_ ?_
  rotate_left
  ·show Act.put _ (some 33) _=_
   simp only [Act.put,yps,i64_w,i32_w]
   rfl
  refine yvp 15 34 (yvb 17 131071) HT_.out ?_
  refine done_ (done_of HT_.out (by kernel_rfl)) ?_
  try go_wp2
  go_loopg [35] k1 (fun kq v35 w'=>∃ (x35_2:Int),v35= .int .i64 x35_2∧Aside0 (impl_cellFits.l1 kq l1 a2 a0_0 a0_0 x16_1 y191 (y191.length:Int) x35_2 a0_0 l0_1 l0_2=some r)∧Aside0 (kq≤k1)∧Aside0 (Kd.R (Kd.int .i64) 3 w' w.heap.size (fun _=>True) (.slice Ao11 y191.length co11) y191)∧Aside0 (w'.heap[gb190]?=some (.cells #[.int .i64 a0_0,(.slice A0_1 l0_1.length c0_1),(.slice A0_2 l0_2.length c0_2)] 37 (0,0)))∧Aside0 (Below w.heap.size w w'))
  case atStart=>exact ⟨(0),yeq,H,⟨Nat.le_refl _⟩,⟨yka HO193.out⟩,⟨ybk BK190.out⟩,⟨yhb⟩⟩
  case round =>
   clear H
   try clear c6b0
   try clear c7
   try clear c7b0
   try clear c7b1
   obtain ⟨x35_2,rfl,HA,HK2,HO_33,BK190,HB⟩:=hrel
   rcases gk with _|k2
   ·exact absurd HA.out (by simp [impl_cellFits.l1])
   obtain ⟨H⟩:=HA
   simp only [impl_cellFits.l1] at H
   replace H:=yis H;obtain ⟨c12b0,H⟩ | ⟨c12b0,H⟩:=H
   rotate_left
   ·replace H:=yam H
    go_wp2
    go_roundg k2
    case measure=>have:=HK1.out;have:=HK2.out;omega
    case rel=>exact ⟨(wrap64 (x16_1 + 1)),yeq,H,⟨by have:=HK1.out;have:=HK2.out;omega⟩,⟨ybk BK190.out⟩,⟨yhb⟩⟩
   replace H:=yif H;obtain ⟨c13b0,H⟩:=H
   replace H:=yif H;obtain ⟨c14b0,H⟩:=H
   replace H:=yit H;obtain ⟨c15,H⟩ | ⟨c15,H⟩:=H
   ·have c15b0:((rd y191 x35_2) == a2)=true:=beq_iff_eq.mpr c15
    have c15b1:((rd y191 x35_2) != a2)=false:=bne_eq_false_iff_eq.mpr c15
    clear c15
    replace H:=yam H
    obtain ⟨ad194,e194,hx194_0,p194,q194⟩:=yat (Kd.Yr HO_33.out).2.2 x35_2
    cases e194
    try go_wp2
    replace HO_33:=yam (Kd.Yd HO_33.out)
    replace BK190:=yam (ybd BK190.out)
    replace HB:=yam (yed HB.out)
    refine start_ (n:=14) (S:=fun w'=>True) (ds:=[]) (yvb 14 0) (by kernel_rfl) rfl rfl trivial (fun hHeld=>?_);refine with_tabW impl_cellFits.tab8 impl_cellFits.bits8 (fun HT_ HW_=>?_)
    generalize wr.drew=w16 at HO_33 BK190 HB hHeld ⊢
    refine yvp 0 39 (yvb 14 1) HT_.out ?_
    refine yvp 1 40 (yvb 14 3) HT_.out ?_
    refine yvp 2 41 (yvb 14 7) HT_.out ?_
    refine yvp 3 42 (yvb 14 15) HT_.out ?_
    refine yvu 4 43 (yvb 14 31) HT_.out ?_
    refine yvu 5 44 (yvb 14 63) HT_.out ?_
    refine yvu 6 45 (yvb 14 127) HT_.out ?_
    refine yvu 7 46 (yvb 14 255) HT_.out ?_
    refine yvu 8 47 (yvb 14 511) HT_.out ?_
    refine yvu 9 48 (yvb 14 1023) HT_.out ?_
    refine yvu 10 49 (yvb 14 2047) HT_.out ?_
    refine yvu 11 50 (yvb 14 4095) HT_.out ?_
    refine yvu 12 51 (yvb 14 8191) HT_.out ?_
    refine yvp 13 52 (yvb 14 16383) HT_.out ?_
    refine done_ (done_of HT_.out (by kernel_rfl)) ?_
    try go_wp2
    go_roundg k2
    case measure=>have:=HK1.out;have:=HK2.out;omega
    case rel=>exact ⟨(wrap64 (x35_2 + 1)),yeq,H,⟨by have:=HK1.out;have:=HK2.out;omega⟩,⟨yka HO_33.out⟩,⟨ybk BK190.out⟩,⟨yhb⟩⟩
   have c15b0:((rd y191 x35_2) == a2)=false:=beq_eq_false_iff_ne.mpr c15
   have c15b1:((rd y191 x35_2) != a2)=true:=bne_iff_ne.mpr c15
   replace H:=yif H;obtain ⟨c17b0,H⟩:=H
   replace H:=yif H;obtain ⟨c18b0,H⟩:=H
   replace H:=yif H;obtain ⟨c19b0,H⟩:=H
   replace H:=yif H;obtain ⟨c20b0,H⟩:=H
   replace H:=yit H;obtain ⟨c21,H⟩ | ⟨c21,H⟩:=H
   ·have c21b0:((rd l1 (rd y191 x35_2)) == (rd l1 a2))=true:=beq_iff_eq.mpr c21
    have c21b1:((rd l1 (rd y191 x35_2)) != (rd l1 a2))=false:=bne_eq_false_iff_eq.mpr c21
    clear c21
    obtain rfl:=ysi H
    obtain ⟨ad194,e194,hx194_0,p194,q194⟩:=yat (Kd.Yr HO_33.out).2.2 x35_2
    cases e194
    try go_wp2
    replace HO_33:=yam (Kd.Yd HO_33.out)
    replace BK190:=yam (ybd BK190.out)
    replace HB:=yam (yed HB.out)
    obtain ⟨ad195,e195,hx195_0,p195,q195⟩:=yat HR1.out (rd y191 x35_2)
    have hw195_0:=hx195_0
    cases e195
    replace hx195_0:=ybx HB.out hx195_0
    obtain ⟨ad196,e196,hx196_0,p196,q196⟩:=yat HR1.out a2
    have hw196_0:=hx196_0
    obtain rfl:ad195=ad196:=(by injection e196)
    replace hx196_0:=ybx HB.out hx196_0
    refine start_ (n:=14) (S:=fun w'=>w'.cell? (ad195.add ((rd y191 x35_2)).toNat)=some (.int .i64 (rd l1 (rd y191 x35_2)))∧w'.cell? (ad195.add (a2).toNat)=some (.int .i64 (rd l1 a2))) (ds:=[]) (yvb 14 0) (by kernel_rfl) rfl rfl ⟨((HB.out.cell (World.block_lt_of_cell? w _ hw195_0)).trans hw195_0),((HB.out.cell (World.block_lt_of_cell? w _ hw196_0)).trans hw196_0)⟩ (fun hHeld=>?_);refine with_tabW impl_cellFits.tab8 impl_cellFits.bits8 (fun HT_ HW_=>?_)
    generalize wr.drew=w22 at HO_33 BK190 HB hx195_0 hx196_0 hHeld ⊢
    refine yvp 0 39 (yvb 14 1) HT_.out ?_
    refine yvp 1 40 (yvb 14 3) HT_.out ?_
    refine yvp 2 41 (yvb 14 7) HT_.out ?_
    refine yvp 3 42 (yvb 14 15) HT_.out ?_
    refine yvp 4 43 (yvb 14 31) HT_.out ?_
    refine yvp 5 44 (yvb 14 63) HT_.out ?_
    refine yvp 6 45 (yvb 14 127) HT_.out ?_
    refine yvp 8 47 (yvb 14 383) HT_.out ?_
    refine yvp 9 48 (yvb 14 895) HT_.out ?_
    refine yvp 10 49 (yvb 14 1919) HT_.out ?_
    refine yvt 7 46 (yvb 14 2047) HT_.out HW_.out hHeld ?_
    refine yvt 11 50 (yvb 14 4095) HT_.out HW_.out hHeld ?_
    refine yvp 12 51 (yvb 14 8191) HT_.out ?_
    refine yvp 13 52 (yvb 14 16383) HT_.out ?_
    refine done_ (done_of HT_.out (by kernel_rfl)) ?_
    try go_wp2
    go_ret
    exact ⟨yer,yhb⟩
   have c21b0:((rd l1 (rd y191 x35_2)) == (rd l1 a2))=false:=beq_eq_false_iff_ne.mpr c21
   have c21b1:((rd l1 (rd y191 x35_2)) != (rd l1 a2))=true:=bne_iff_ne.mpr c21
   replace H:=yam H
   obtain ⟨ad194,e194,hx194_0,p194,q194⟩:=yat (Kd.Yr HO_33.out).2.2 x35_2
   cases e194
   try go_wp2
   replace HO_33:=yam (Kd.Yd HO_33.out)
   replace BK190:=yam (ybd BK190.out)
   replace HB:=yam (yed HB.out)
   obtain ⟨ad195,e195,hx195_0,p195,q195⟩:=yat HR1.out (rd y191 x35_2)
   have hw195_0:=hx195_0
   cases e195
   replace hx195_0:=ybx HB.out hx195_0
   obtain ⟨ad196,e196,hx196_0,p196,q196⟩:=yat HR1.out a2
   have hw196_0:=hx196_0
   obtain rfl:ad195=ad196:=(by injection e196)
   replace hx196_0:=ybx HB.out hx196_0
   refine start_ (n:=14) (S:=fun w'=>w'.cell? (ad195.add ((rd y191 x35_2)).toNat)=some (.int .i64 (rd l1 (rd y191 x35_2)))∧w'.cell? (ad195.add (a2).toNat)=some (.int .i64 (rd l1 a2))) (ds:=[]) (yvb 14 0) (by kernel_rfl) rfl rfl ⟨((HB.out.cell (World.block_lt_of_cell? w _ hw195_0)).trans hw195_0),((HB.out.cell (World.block_lt_of_cell? w _ hw196_0)).trans hw196_0)⟩ (fun hHeld=>?_);refine with_tabW impl_cellFits.tab8 impl_cellFits.bits8 (fun HT_ HW_=>?_)
   generalize wr.drew=w23 at HO_33 BK190 HB hx195_0 hx196_0 hHeld ⊢
   refine yvp 0 39 (yvb 14 1) HT_.out ?_
   refine yvp 1 40 (yvb 14 3) HT_.out ?_
   refine yvp 2 41 (yvb 14 7) HT_.out ?_
   refine yvp 3 42 (yvb 14 15) HT_.out ?_
   refine yvp 4 43 (yvb 14 31) HT_.out ?_
   refine yvp 5 44 (yvb 14 63) HT_.out ?_
   refine yvp 6 45 (yvb 14 127) HT_.out ?_
   refine yvp 8 47 (yvb 14 383) HT_.out ?_
   refine yvp 9 48 (yvb 14 895) HT_.out ?_
   refine yvp 10 49 (yvb 14 1919) HT_.out ?_
   refine yvt 7 46 (yvb 14 2047) HT_.out HW_.out hHeld ?_
   refine yvt 11 50 (yvb 14 4095) HT_.out HW_.out hHeld ?_
   refine yvp 12 51 (yvb 14 8191) HT_.out ?_
   refine yvp 13 52 (yvb 14 16383) HT_.out ?_
   refine done_ (done_of HT_.out (by kernel_rfl)) ?_
   try go_wp2
   go_roundg k2
   case measure=>have:=HK1.out;have:=HK2.out;omega
   case rel=>exact ⟨(wrap64 (x35_2 + 1)),yeq,H,⟨by have:=HK1.out;have:=HK2.out;omega⟩,⟨yka HO_33.out⟩,⟨ybk BK190.out⟩,⟨yhb⟩⟩
structure Teller (w0:World) {σ:Type} (tf p1 p2:Nat) (T:σ→List Int→Option (Bool × σ)) (Inv:(Nat→Prop)→σ→World→Prop):Prop where
 hf : ∃ fn : Func, Try.prog.funcs[tf]? = some fn ∧ (fn.name == "runtime.NumGoroutine") = false ∧ fn.body.isSome = true
 keep:∀ {P:Nat→Prop} {s:σ} {w w':World},Inv P s w→w.heap.size≤w'.heap.size→(∀ k,k < w.heap.size→¬ P k→w'.heap[k]?=w.heap[k]?)→Inv P s w'
 mono:∀ {P P':Nat→Prop} {s:σ} {w:World},Inv P s w→(∀ k,k < w.heap.size→P' k→P k)→Inv P' s w
 call:∀ {P:Nat→Prop} {s s':σ} {w:World} {g:List Int} {A:Option Addr} {c:Nat} {b:Bool},Below w0.heap.size w0 w→Inv P s w→Kd.C (Kd.int .i64) w A g.length g→g.length≤c→(∀ k,P k→k < w.heap.size)→T s g=some (b,s') →
  Calls Try.prog tf #[.slice A g.length c,.pointer (some ⟨p1,0,none⟩),.pointer (some ⟨p2,0,none⟩)] w fun e w'=>e= .returned (.bool b)∧Inv P s' w'∧Agr P w w'∧Below w0.heap.size w0 w'
def impl_solutions.tryV {σ:Type}(cf:List Int→Option Bool)(f:List Int→σ→Option (Bool × List Int × σ))(i:Nat):Nat→Int→List Int→σ→Option (Bool × List Int × σ)
 | 0,_,g,s=>some (true,g.set i 0,s)
 | n + 1,v,g,s=>(cf (g.set i v)).bind fun b=>if b=true then (f (g.set i v) s).bind fun t=>(if t.1=true then impl_solutions.tryV cf f i n (v + 1) t.2.1 t.2.2 else some (false,t.2.1,t.2.2)) else impl_solutions.tryV cf f i n (v + 1) (g.set i v) s
def impl_solutions.try_ {σ:Type}(T:σ→List Int→Option (Bool × σ))(k:Nat)(s:Int)(l1:List Int)(l2:List S73)(N:Nat):Nat→List Int→σ→Option (Bool × List Int × σ)
 | 0,g,st=>(T st g).bind fun t=>some (t.1,g,t.2)
 | d + 1,g,st=>if 0 < rd g ((N:Int) - (d + 1:Nat)) then impl_solutions.try_ T k s l1 l2 N d g st else impl_solutions.tryV (fun g'=>impl_cellFits.f k s l1 l2 g' ((N:Int) - (d + 1:Nat))) (impl_solutions.try_ T k s l1 l2 N d) ((N:Int) - (d + 1:Nat)).toNat s.toNat 1 g st
theorem impl_solutions.tryV_len {σ:Type}{cf:List Int→Option Bool}{f:List Int→σ→Option (Bool × List Int × σ)}{i N:Nat}(hf:∀ g s b g' s',g.length=N→f g s=some (b,g',s')→g'.length=N):∀ (n:Nat) (v:Int) (g:List Int) (s:σ) (b:Bool) (g':List Int) (s':σ),g.length=N→impl_solutions.tryV cf f i n v g s=some (b,g',s')→g'.length=N
 | 0,v,g,s,b,g',s',hg,h=>by
  unfold impl_solutions.tryV at h
  simp only [Option.some.injEq,Prod.mk.injEq] at h
  obtain ⟨_,rfl,_⟩:=h
  rw [List.length_set];exact hg
 | n + 1,v,g,s,b,g',s',hg,h=>by
  unfold impl_solutions.tryV at h
  obtain ⟨c,_,h⟩:=Option.bind_eq_some_iff.1 h
  have hgs:(g.set i v).length=N:=by rw [List.length_set];exact hg
  cases c with
  | false=>exact impl_solutions.tryV_len hf n _ _ _ _ _ _ hgs (by simpa using h)
  | true =>
   simp only [if_true] at h
   obtain ⟨⟨t1,t2,t3⟩,ht,h⟩:=Option.bind_eq_some_iff.1 h
   have ht2:=hf _ _ _ _ _ hgs ht
   cases t1 with
   | true=>exact impl_solutions.tryV_len hf n _ _ _ _ _ _ ht2 (by simpa using h)
   | false =>
    simp only [Bool.false_eq_true,if_false,Option.some.injEq,Prod.mk.injEq] at h
    obtain ⟨_,rfl,_⟩:=h
    exact ht2
def impl_solutions.Boxes (tf p1 p2:Nat)(W:World)(gg cg N gG gT gY gS gP:Nat)(s:Int)(A1:Option Addr)(c1 n1:Nat)(A2:Option Addr)(c2 n2:Nat):Prop :=
 W.heap[gG]?=some (.cells #[.slice (some ⟨gg,0,none⟩) N cg] 22 (0,0))∧W.heap[gT]?=some (.cells #[.func (.func tf) #[] #[.pointer (some ⟨p1,0,none⟩),.pointer (some ⟨p2,0,none⟩)]] 63 (0,0))∧W.heap[gY]?=some (.cells #[.func (.func 73) #[] #[.pointer (some ⟨gG,0,none⟩),.pointer (some ⟨gT,0,none⟩),.pointer (some ⟨gY,0,none⟩),.pointer (some ⟨gS,0,none⟩),.pointer (some ⟨gP,0,none⟩)]] 61 (0,0))∧W.heap[gS]?=some (.cells #[.int .i64 s] 3 (0,0))∧W.heap[gP]?=some (.cells #[.int .i64 s,.slice A1 n1 c1,.slice A2 n2 c2] 37 (0,0))
theorem impl_solutions.Boxes.agr {tf p1 p2:Nat}{W W':World}{gg cg N gG gT gY gS gP:Nat}{s:Int}{A1:Option Addr}{c1 n1:Nat}{A2:Option Addr}{c2 n2:Nat}{P:Nat→Prop}(h:impl_solutions.Boxes tf p1 p2 W gg cg N gG gT gY gS gP s A1 c1 n1 A2 c2 n2)(ha:Agr P W W')(hP:P gG∧P gT∧P gY∧P gS∧P gP):impl_solutions.Boxes tf p1 p2 W' gg cg N gG gT gY gS gP s A1 c1 n1 A2 c2 n2 :=
 ⟨Agr.blk h.1 ha hP.1,Agr.blk h.2.1 ha hP.2.1,Agr.blk h.2.2.1 ha hP.2.2.1,Agr.blk h.2.2.2.1 ha hP.2.2.2.1,Agr.blk h.2.2.2.2 ha hP.2.2.2.2⟩
theorem impl_solutions.Boxes.set {tf p1 p2:Nat}{W:World}{gg cg N gG gT gY gS gP:Nat}{s:Int}{A1:Option Addr}{c1 n1:Nat}{A2:Option Addr}{c2 n2:Nat}(h:impl_solutions.Boxes tf p1 p2 W gg cg N gG gT gY gS gP s A1 c1 n1 A2 c2 n2)(hne:gg≠gG∧gg≠gT∧gg≠gY∧gg≠gS∧gg≠gP)(j:Nat)(u:Value):impl_solutions.Boxes tf p1 p2 (W.setCell ⟨gg,j,none⟩ u) gg cg N gG gT gY gS gP s A1 c1 n1 A2 c2 n2 :=
 impl_solutions.Boxes.agr (P:=fun k=>k≠gg) h ⟨by simp [World.setCell],fun k _ hk=>Below.heap_setCell W ⟨gg,j,none⟩ u k hk⟩ ⟨hne.1.symm,hne.2.1.symm,hne.2.2.1.symm,hne.2.2.2.1.symm,hne.2.2.2.2.symm⟩
theorem goesV_ {P : Program} {ops : Array Oper} {Q : Exit → Act → World → Prop} {rest : List Oper} {oi : Oper} {a : Act} {w : World} (N : Option Tmp) (hd : oi.dst = N) (hg : oi.guard = none) {f : FuncId} {fn : Func} {x : Operand} {ag : Array Operand} {ts : Array TypeId} {caps : Array Value} (hf : P.funcs[f]? = some fn) (hname : (fn.name == "runtime.NumGoroutine") = false) (hb : fn.body.isSome = true) (args : Array Value)
  (hop:oi.op= .call { callee:= .value x,args:=ag,argTypes:=ts }) (hx:a.eval x= .func (.func f) #[] caps) (hargs:ag.map a.eval ++ caps=args)
  (h:Calls P f args w fun e w'=>∃ v,e= .returned v∧wpList P ops Q rest (a.put N v) w'):wpList P ops Q (oi :: rest) a w:=by
 refine wpList_plain hg fun K hK=>?_
 have he:=enters_ hf hname hb args w
 have hrun:(execOp a.eval oi).run P w= .ok (.enter f args) w:=by
  unfold execOp
  simp only [hop,resolve,hx,Deferred.ofValue]
  subst hargs
  simpa [invoke] using he
 unfold Oper.wp
 rw [hrun,Oper.upon_enter]
 refine h.mono fun e w'' hh=>?_
 obtain ⟨v,rfl,hk⟩:=hh
 subst hd
 exact hK _ _ hk
theorem impl_solutions.clo {w0:World}{σ:Type}{tf p1 p2:Nat}{T:σ→List Int→Option (Bool × σ)}{Inv:(Nat→Prop)→σ→World→Prop}(Te:Teller w0 tf p1 p2 T Inv)(k:Nat)(s:Int)(A1:Option Addr)(c1:Nat)(l1:List Int)(A2:Option Addr)(c2:Nat)(l2:List S73)(gg cg N gG gT gY gS gP:Nat)(P:Nat→Prop)(wE:World)(hP:P gG∧P gT∧P gY∧P gS∧P gP)(hPg:P gg)(hne:gg≠gG∧gg≠gT∧gg≠gY∧gg≠gS∧gg≠gP)(hgE:wE.heap.size≤gg)(hg0:w0.heap.size≤gg)(hs4:s≤1000)(hr1:∀ W,Agr P wE W→Kd.C (Kd.int .i64) W A1 l1.length l1)(hc1:l1.length≤c1)(hr2:∀ W,Agr P wE W→Kd.C k73 W A2 l2.length l2)(hc2:l2.length≤c2) :
  ∀ (d:Nat) (a:Int) (g:List Int) (st:σ) (b:Bool) (g':List Int) (st':σ) (w:World) (_:(N:Int) - d=a) (_:d≤N) (_:N≤100000) (_:g.length=N) (_:Kd.R (Kd.int .i64) 3 w w0.heap.size (fun k=>k=gg) (.slice (some ⟨gg,0,none⟩) N cg) g) (_:Inv P st w) (_:impl_solutions.Boxes tf p1 p2 w gg cg N gG gT gY gS gP s A1 c1 l1.length A2 c2 l2.length) (_:Agr P wE w) (_:Below w0.heap.size w0 w) (_:∀ k,P k→k < w.heap.size) (_:impl_solutions.try_ T k s l1 l2 N d g st=some (b,g',st')),
  Calls Try.prog 73 #[.int .i64 a,.pointer (some ⟨gG,0,none⟩),.pointer (some ⟨gT,0,none⟩),.pointer (some ⟨gY,0,none⟩),.pointer (some ⟨gS,0,none⟩),.pointer (some ⟨gP,0,none⟩)] w fun e w'=>e= .returned (.bool b)∧g'.length=N∧Kd.R (Kd.int .i64) 3 w' w0.heap.size (fun k=>k=gg) (.slice (some ⟨gg,0,none⟩) N cg) g'∧Inv P st' w'∧impl_solutions.Boxes tf p1 p2 w' gg cg N gG gT gY gS gP s A1 c1 l1.length A2 c2 l2.length∧Agr P wE w'∧Below w0.heap.size w0 w'∧(∀ k,P k→k < w'.heap.size):=by
 intro d
 obtain ⟨fn,hfn⟩:=Te.hf
 have HFN:=yam hfn
 clear hfn
 have HP:=yam hP
 have HPG:=yam hPg
 have HNE:=yam hne
 have HGE:=yam hgE
 have HG0:=yam hg0
 have HR1:=yam hr1
 have HC1:=yam hc1
 have HR2:=yam hr2
 have HC2:=yam hc2
 have HS4:=yam hs4
 clear hP hPg hne hgE hg0 hr1 hc1 hr2 hc2 hs4
 induction d with
 | zero =>
  intro a g st b g' st' w ha hd hn hl hV hI hX hA hB hL h
  have hae:(a == (N:Int))=true:=beq_iff_eq.mpr (by omega)
  clear ha hd
  have HN:=yam hn
  have HLV:=yam hl
  have HV:=yam hV
  have HI:=yam hI
  have HX:=yam hX
  have HA:=yam hA
  have HB:=yam hB
  have HL:=yam hL
  unfold impl_solutions.try_ at h
  obtain ⟨⟨t1,t2⟩,hT,h2⟩:=Option.bind_eq_some_iff.1 h
  simp only [Option.some.injEq,Prod.mk.injEq] at h2
  obtain ⟨rfl,rfl,rfl⟩:=h2
  have HT:=yam hT
  have hcG:w.cell? ⟨gG,0,none⟩=some (.slice (some ⟨gg,0,none⟩) N cg):=(blk_cell hX.1 0).trans rfl
  have hcT:w.cell? ⟨gT,0,none⟩=some (.func (.func tf) #[] #[.pointer (some ⟨p1,0,none⟩),.pointer (some ⟨p2,0,none⟩)]):=(blk_cell hX.2.1 0).trans rfl
  clear hn hl hV hI hX hA hB hL h hT
  go_enter Try.func73,Try.ntmps73
  go_wp2_with (first
   | ((with_reducible refine gate_dst (N:=15) rfl ?_);refine goesV_ (some 15) rfl rfl HFN.out.1 HFN.out.2.1 HFN.out.2.2 #[.slice (some ⟨gg,0,none⟩) g.length cg,.pointer (some ⟨p1,0,none⟩),.pointer (some ⟨p2,0,none⟩)] rfl rfl (by simp only [List.map_toArray,List.map_cons,List.map_nil,List.append_toArray,List.cons_append,List.nil_append,HLV.out];rfl) ?_;refine (Te.call HB.out HI.out (Kd.R_reads' HV.out).2.2 (by rw [HLV.out];exact (Kd.R_reads' HV.out).2.1) HL.out HT.out).mono ?_;rintro e w' ⟨rfl,hI,hA,hB⟩;refine ⟨_,rfl,?_⟩;have n0_:=yam (Agr.R HV.out hA (fun k_ h_=>by rw [h_];exact HPG.out));have n1_:=yam hI;have n2_:=yam (impl_solutions.Boxes.agr HX.out hA HP.out);have n3_:=yam (HA.out.trans hA);have n4_:=yam hB;have n5_:=yam (fun k_ h_=>Nat.lt_of_lt_of_le (HL.out k_ h_) hA.1:∀ k,P k→k < w'.heap.size);clear HV HI HX HA HB HL hI hA hB hcG hcT))
  go_ret
  exact ⟨rfl,HLV.out,n0_.out,n1_.out,n2_.out,n3_.out,n4_.out,n5_.out⟩
 | succ d ih =>
  have IH:=yam ih
  clear ih
  intro a g st b g' st' w ha hd hn hl hV hI hX hA hB hL h
  unfold impl_solutions.try_ at h
  rw [ha] at h
  have h0:0≤a:=by omega
  have h1:a < (N:Int):=by omega
  have hae:(a == (N:Int))=false:=beq_eq_false_iff_ne.mpr (by omega)
  have HAA:=yam (show 0≤a∧a < (N:Int)∧(N:Int) - d=a + 1 from ⟨h0,h1,by omega⟩)
  have HD:=yam (show d≤N by omega)
  clear ha hd
  have HN:=yam hn
  have HLV:=yam hl
  have HV:=yam hV
  have HI:=yam hI
  have HX:=yam hX
  have HA:=yam hA
  have HB:=yam hB
  have HL:=yam hL
  have hcG:w.cell? ⟨gG,0,none⟩=some (.slice (some ⟨gg,0,none⟩) N cg):=(blk_cell hX.1 0).trans rfl
  have hcY:w.cell? ⟨gY,0,none⟩=some (.func (.func 73) #[] #[.pointer (some ⟨gG,0,none⟩),.pointer (some ⟨gT,0,none⟩),.pointer (some ⟨gY,0,none⟩),.pointer (some ⟨gS,0,none⟩),.pointer (some ⟨gP,0,none⟩)]):=(blk_cell hX.2.2.1 0).trans rfl
  obtain ⟨hxv0,hfv⟩:=Kd.R_celln 0 hV a h0 h1
  have hxv:=hxv0.trans (rfl:_=some (Value.int .i64 (rd g a)))
  have haw:wrap64 (a + 1)=a + 1:=by unfold wrap64;omega
  have haw2:IntKind.i64.wrap (a + 1)=a + 1:=by rw [i64_w];exact haw
  have q0:=eq_true h0
  have q1:=eq_true h1
  clear hn hl hV hI hX hA hB hL hxv0 hfv h0 h1
  by_cases hpos:0 < rd g a
  ·rw [if_pos hpos] at h
   have hpb:decide (0 < rd g a)=true:=decide_eq_true hpos
   have HT:=yam h
   clear h hpos
   go_enter Try.func73,Try.ntmps73
   go_wp2_with (first
    | (go_at_call 73;(refine (IH.out (a + 1) g st b g' st' _ HAA.out.2.2 HD.out HN.out HLV.out HV.out HI.out HX.out HA.out HB.out HL.out HT.out).mono ?_);rintro e w' ⟨rfl,HL1,hV,hI,hX,hA,hB,hL⟩;have n0_:=yam hV;have n1_:=yam hI;have n2_:=yam hX;have n3_:=yam hA;have n4_:=yam hB;have n5_:=yam hL;have n6_:=yam HL1;clear hV hI hX hA hB hL HL1))
   go_ret
   exact ⟨rfl,n6_.out,n0_.out,n1_.out,n2_.out,n3_.out,n4_.out,n5_.out⟩
  ·rw [if_neg hpos] at h
   have hpb:decide (0 < rd g a)=false:=decide_eq_false hpos
   have HT:=yam h
   clear h hpos
   go_enter Try.func73,Try.ntmps73
   go_wp2
   go_loopg [8] s.toNat (fun kq v8 w'=>∃ (v:Int) (gr:List Int) (s1:σ),v8= .int .i64 v∧Aside0 (1≤v∧v + (kq:Int)=(s.toNat:Int) + 1)∧Aside0 (impl_solutions.tryV (fun g'=>impl_cellFits.f k s l1 l2 g' a) (impl_solutions.try_ T k s l1 l2 N d) a.toNat kq v gr s1=some (b,g',st'))∧Aside0 (gr.length=N)∧Aside0 (Kd.R (Kd.int .i64) 3 w' w0.heap.size (fun k=>k=gg) (.slice (some ⟨gg,0,none⟩) N cg) gr)∧Aside0 (Inv P s1 w')∧Aside0 (impl_solutions.Boxes tf p1 p2 w' gg cg N gG gT gY gS gP s A1 c1 l1.length A2 c2 l2.length)∧Aside0 (Agr P wE w')∧Aside0 (Below w0.heap.size w0 w')∧Aside0 (∀ k,P k→k < w'.heap.size))
   case atStart=>exact ⟨1,g,st,rfl,⟨by omega⟩,HT,HLV,HV,HI,HX,HA,HB,HL⟩
   case round =>
    clear HT HLV HV HI HX HA HB HL hcG hcY hxv hpb
    obtain ⟨v,gr,s1,rfl,HK,HT,HLV,HV,HI,HX,HA,HB,HL⟩:=hrel
    have hcG:wr.cell? ⟨gG,0,none⟩=some (.slice (some ⟨gg,0,none⟩) N cg):=(blk_cell HX.out.1 0).trans rfl
    have hcS:wr.cell? ⟨gS,0,none⟩=some (.int .i64 s):=(blk_cell HX.out.2.2.2.1 0).trans rfl
    obtain ⟨hxv0,hfv⟩:=Kd.R_celln 0 HV.out a HAA.out.1 HAA.out.2.1
    have hxv:=hxv0.trans (rfl:_=some (Value.int .i64 (rd gr a)))
    clear hxv0
    cases gk with
    | zero =>
     have h:=HT.out
     unfold impl_solutions.tryV at h
     simp only [Option.some.injEq,Prod.mk.injEq] at h
     obtain ⟨rfl,rfl,rfl⟩:=h
     clear HT
     have hvb:decide (v≤s)=false:=decide_eq_false (by have:=HK.out;omega)
     have HPO:=yam (Kd.R_putg HV.out a 0)
     go_wp2
     go_ret
     exact ⟨rfl,by rw [List.length_set];exact HLV.out,HPO.out.1,Te.keep HI.out (by simp [World.setCell]) (fun k_ _ hn_=>Below.heap_setCell wr ⟨gg,a.toNat,none⟩ _ k_ (fun e_=>hn_ (by rw [e_];exact HPG.out))),impl_solutions.Boxes.set HX.out HNE.out _ _,Agr.set HA.out HGE.out _ _,below_set HB.out HG0.out,fun k_ hk_=>by have:=HL.out k_ hk_;simpa [World.setCell] using this⟩
    | succ q =>
     have h:=HT.out
     clear HT
     unfold impl_solutions.tryV at h
     obtain ⟨c,hc,h⟩:=Option.bind_eq_some_iff.1 h
     have HC:=yam hc
     clear hc
     have hvb:decide (v≤s)=true:=decide_eq_true (by have:=HK.out;omega)
     have hvw:wrap64 (v + 1)=v + 1:=by have:=HK.out;have:=HS4.out;unfold wrap64;omega
     have hvw2:IntKind.i64.wrap (v + 1)=v + 1:=by rw [i64_w];exact hvw
     have HPO:=yam (Kd.R_putg HV.out a v)
     cases c with
     | false =>
      simp only [Bool.false_eq_true,if_false] at h
      have HT:=yam h
      clear h
      go_wp2_with (first
       | ((with_reducible refine gate_store (t:=3) (p:=33) rfl ?_);refine store_event (t:=3) (p:=33) (v:=?vo1) (w1:=wr.setCell ⟨gg,a.toNat,none⟩ (.int .i64 v)) ?hg ?ho ?hn ?hr ?_;(case ho=>rfl);(case hg=>rfl);(case hn=>rfl);(case hr=>first|(go_simp;done)|(go_simp;rfl));intro w8 hw;have HV8:Aside0 (Kd.R (Kd.int .i64) 3 w8 w0.heap.size (fun k=>k=gg) (.slice (some ⟨gg,0,none⟩) N cg) (gr.set a.toNat v)):=⟨by rw [hw];exact HPO.out.1⟩;have HI8:Aside0 (Inv P s1 w8):=⟨by rw [hw];exact Te.keep HI.out (by simp [World.setCell]) (fun k_ _ hn_=>Below.heap_setCell wr ⟨gg,a.toNat,none⟩ _ k_ (fun e_=>hn_ (by rw [e_];exact HPG.out)))⟩;have HX8:Aside0 (impl_solutions.Boxes tf p1 p2 w8 gg cg N gG gT gY gS gP s A1 c1 l1.length A2 c2 l2.length):=⟨by rw [hw];exact impl_solutions.Boxes.set HX.out HNE.out _ _⟩;have HA8:Aside0 (Agr P wE w8):=⟨by rw [hw];exact Agr.set HA.out HGE.out _ _⟩;have HB8:Aside0 (Below w0.heap.size w0 w8):=⟨by rw [hw];exact below_set HB.out HG0.out⟩;have HL8:Aside0 (∀ k,P k→k < w8.heap.size):=⟨fun k_ hk_=>by have:=HL.out k_ hk_;rw [hw];simpa [World.setCell] using this⟩;clear hw hxv hfv hcG hcS HPO HV HI HX HA HB HL;have hcG:w8.cell? ⟨gG,0,none⟩=some (.slice (some ⟨gg,0,none⟩) N cg):=(blk_cell HX8.out.1 0).trans rfl;have hcP0:w8.cell? ⟨gP,0,none⟩=some (.int .i64 s):=(blk_cell HX8.out.2.2.2.2 0).trans rfl;have hcP1:w8.cell? ⟨gP,1,none⟩=some (.slice A1 l1.length c1):=(blk_cell HX8.out.2.2.2.2 1).trans rfl;have hcP2:w8.cell? ⟨gP,2,none⟩=some (.slice A2 l2.length c2):=(blk_cell HX8.out.2.2.2.2 2).trans rfl)
       | (refine goesL_ (some 37) rfl rfl Try.func74 (by kernel_rfl) rfl #[.agg #[.int .i64 s,.slice A1 l1.length c1,.slice A2 l2.length c2],.slice (some ⟨gg,0,none⟩) (gr.set a.toNat v).length cg,.int .i64 a] rfl (by (try simp only [List.map_toArray,List.map_cons,List.map_nil]);rw [List.length_set,HLV.out];rfl) ?_;(with_reducible refine (impl_cellFits.calls k s _ _ l1 _ _ l2 _ _ (gr.set a.toNat v) a false w8 (HR1.out _ HA8.out) HC1.out (HR2.out _ HA8.out) HC2.out (Kd.R_reads' HV8.out).2.2 (by rw [List.length_set,HLV.out];exact (Kd.R_reads' HV8.out).2.1) HC.out).mono ?_);rintro e w9 ⟨rfl,hb⟩;refine ⟨_,rfl,?_⟩;have HV9:=yam (Kd.R_below HV8.out hb);have HI9:=yam (Te.keep HI8.out hb.size (fun k_ hk_ _=>hb.block k_ hk_));have HX9:=yam (impl_solutions.Boxes.agr HX8.out (Agr.of_below (P:=P) hb) HP.out);have HA9:=yam (HA8.out.trans (Agr.of_below hb));have HB9:=yam (below_step HB8.out hb);have HL9:Aside0 (∀ k,P k→k < w9.heap.size):=⟨fun k_ hk_=>Nat.lt_of_lt_of_le (HL8.out k_ hk_) hb.size⟩;clear hb hcG hcP0 hcP1 hcP2 HV8 HI8 HX8 HA8 HB8 HL8;have hcY:w9.cell? ⟨gY,0,none⟩=some (.func (.func 73) #[] #[.pointer (some ⟨gG,0,none⟩),.pointer (some ⟨gT,0,none⟩),.pointer (some ⟨gY,0,none⟩),.pointer (some ⟨gS,0,none⟩),.pointer (some ⟨gP,0,none⟩)]):=(blk_cell HX9.out.2.2.1 0).trans rfl))
      clear hcY
      go_roundg q
      case measure=>omega
      case rel=>exact ⟨v + 1,gr.set a.toNat v,s1,rfl,⟨by have:=HK.out;omega⟩,HT,⟨by rw [List.length_set];exact HLV.out⟩,HV9,HI9,HX9,HA9,HB9,HL9⟩
     | true =>
      simp only [if_true] at h
      obtain ⟨⟨t1,t2,t3⟩,hr,h⟩:=Option.bind_eq_some_iff.1 h
      have HR:=yam hr
      clear hr
      cases t1 with
      | false =>
       simp only [Bool.false_eq_true,if_false,Option.some.injEq,Prod.mk.injEq] at h
       obtain ⟨rfl,rfl,rfl⟩:=h
       go_wp2_with (first
        | ((with_reducible refine gate_store (t:=3) (p:=33) rfl ?_);refine store_event (t:=3) (p:=33) (v:=?vo1) (w1:=wr.setCell ⟨gg,a.toNat,none⟩ (.int .i64 v)) ?hg ?ho ?hn ?hr ?_;(case ho=>rfl);(case hg=>rfl);(case hn=>rfl);(case hr=>first|(go_simp;done)|(go_simp;rfl));intro w8 hw;have HV8:Aside0 (Kd.R (Kd.int .i64) 3 w8 w0.heap.size (fun k=>k=gg) (.slice (some ⟨gg,0,none⟩) N cg) (gr.set a.toNat v)):=⟨by rw [hw];exact HPO.out.1⟩;have HI8:Aside0 (Inv P s1 w8):=⟨by rw [hw];exact Te.keep HI.out (by simp [World.setCell]) (fun k_ _ hn_=>Below.heap_setCell wr ⟨gg,a.toNat,none⟩ _ k_ (fun e_=>hn_ (by rw [e_];exact HPG.out)))⟩;have HX8:Aside0 (impl_solutions.Boxes tf p1 p2 w8 gg cg N gG gT gY gS gP s A1 c1 l1.length A2 c2 l2.length):=⟨by rw [hw];exact impl_solutions.Boxes.set HX.out HNE.out _ _⟩;have HA8:Aside0 (Agr P wE w8):=⟨by rw [hw];exact Agr.set HA.out HGE.out _ _⟩;have HB8:Aside0 (Below w0.heap.size w0 w8):=⟨by rw [hw];exact below_set HB.out HG0.out⟩;have HL8:Aside0 (∀ k,P k→k < w8.heap.size):=⟨fun k_ hk_=>by have:=HL.out k_ hk_;rw [hw];simpa [World.setCell] using this⟩;clear hw hxv hfv hcG hcS HPO HV HI HX HA HB HL;have hcG:w8.cell? ⟨gG,0,none⟩=some (.slice (some ⟨gg,0,none⟩) N cg):=(blk_cell HX8.out.1 0).trans rfl;have hcP0:w8.cell? ⟨gP,0,none⟩=some (.int .i64 s):=(blk_cell HX8.out.2.2.2.2 0).trans rfl;have hcP1:w8.cell? ⟨gP,1,none⟩=some (.slice A1 l1.length c1):=(blk_cell HX8.out.2.2.2.2 1).trans rfl;have hcP2:w8.cell? ⟨gP,2,none⟩=some (.slice A2 l2.length c2):=(blk_cell HX8.out.2.2.2.2 2).trans rfl)
        | (refine goesL_ (some 37) rfl rfl Try.func74 (by kernel_rfl) rfl #[.agg #[.int .i64 s,.slice A1 l1.length c1,.slice A2 l2.length c2],.slice (some ⟨gg,0,none⟩) (gr.set a.toNat v).length cg,.int .i64 a] rfl (by (try simp only [List.map_toArray,List.map_cons,List.map_nil]);rw [List.length_set,HLV.out];rfl) ?_;(with_reducible refine (impl_cellFits.calls k s _ _ l1 _ _ l2 _ _ (gr.set a.toNat v) a true w8 (HR1.out _ HA8.out) HC1.out (HR2.out _ HA8.out) HC2.out (Kd.R_reads' HV8.out).2.2 (by rw [List.length_set,HLV.out];exact (Kd.R_reads' HV8.out).2.1) HC.out).mono ?_);rintro e w9 ⟨rfl,hb⟩;refine ⟨_,rfl,?_⟩;have HV9:=yam (Kd.R_below HV8.out hb);have HI9:=yam (Te.keep HI8.out hb.size (fun k_ hk_ _=>hb.block k_ hk_));have HX9:=yam (impl_solutions.Boxes.agr HX8.out (Agr.of_below (P:=P) hb) HP.out);have HA9:=yam (HA8.out.trans (Agr.of_below hb));have HB9:=yam (below_step HB8.out hb);have HL9:Aside0 (∀ k,P k→k < w9.heap.size):=⟨fun k_ hk_=>Nat.lt_of_lt_of_le (HL8.out k_ hk_) hb.size⟩;clear hb hcG hcP0 hcP1 hcP2 HV8 HI8 HX8 HA8 HB8 HL8;have hcY:w9.cell? ⟨gY,0,none⟩=some (.func (.func 73) #[] #[.pointer (some ⟨gG,0,none⟩),.pointer (some ⟨gT,0,none⟩),.pointer (some ⟨gY,0,none⟩),.pointer (some ⟨gS,0,none⟩),.pointer (some ⟨gP,0,none⟩)]):=(blk_cell HX9.out.2.2.1 0).trans rfl)
        | (go_at_call 73;(refine (IH.out (a + 1) (gr.set a.toNat v) s1 false t2 t3 _ HAA.out.2.2 HD.out HN.out (by rw [List.length_set];exact HLV.out) HV9.out HI9.out HX9.out HA9.out HB9.out HL9.out HR.out).mono ?_);rintro e w10 ⟨rfl,HL1,hV,hI,hX,hA,hB,hL⟩;have HV10:=yam hV;have HI10:=yam hI;have HX10:=yam hX;have HA10:=yam hA;have HB10:=yam hB;have HL10:=yam hL;have HLV10:=yam HL1;clear hV hI hX hA hB hL HL1 HV9 HI9 HX9 HA9 HB9 HL9 hcY))
       go_ret
       exact ⟨rfl,HLV10.out,HV10.out,HI10.out,HX10.out,HA10.out,HB10.out,HL10.out⟩
      | true =>
       simp only [if_true] at h
       have HT:=yam h
       clear h
       go_wp2_with (first
        | ((with_reducible refine gate_store (t:=3) (p:=33) rfl ?_);refine store_event (t:=3) (p:=33) (v:=?vo1) (w1:=wr.setCell ⟨gg,a.toNat,none⟩ (.int .i64 v)) ?hg ?ho ?hn ?hr ?_;(case ho=>rfl);(case hg=>rfl);(case hn=>rfl);(case hr=>first|(go_simp;done)|(go_simp;rfl));intro w8 hw;have HV8:Aside0 (Kd.R (Kd.int .i64) 3 w8 w0.heap.size (fun k=>k=gg) (.slice (some ⟨gg,0,none⟩) N cg) (gr.set a.toNat v)):=⟨by rw [hw];exact HPO.out.1⟩;have HI8:Aside0 (Inv P s1 w8):=⟨by rw [hw];exact Te.keep HI.out (by simp [World.setCell]) (fun k_ _ hn_=>Below.heap_setCell wr ⟨gg,a.toNat,none⟩ _ k_ (fun e_=>hn_ (by rw [e_];exact HPG.out)))⟩;have HX8:Aside0 (impl_solutions.Boxes tf p1 p2 w8 gg cg N gG gT gY gS gP s A1 c1 l1.length A2 c2 l2.length):=⟨by rw [hw];exact impl_solutions.Boxes.set HX.out HNE.out _ _⟩;have HA8:Aside0 (Agr P wE w8):=⟨by rw [hw];exact Agr.set HA.out HGE.out _ _⟩;have HB8:Aside0 (Below w0.heap.size w0 w8):=⟨by rw [hw];exact below_set HB.out HG0.out⟩;have HL8:Aside0 (∀ k,P k→k < w8.heap.size):=⟨fun k_ hk_=>by have:=HL.out k_ hk_;rw [hw];simpa [World.setCell] using this⟩;clear hw hxv hfv hcG hcS HPO HV HI HX HA HB HL;have hcG:w8.cell? ⟨gG,0,none⟩=some (.slice (some ⟨gg,0,none⟩) N cg):=(blk_cell HX8.out.1 0).trans rfl;have hcP0:w8.cell? ⟨gP,0,none⟩=some (.int .i64 s):=(blk_cell HX8.out.2.2.2.2 0).trans rfl;have hcP1:w8.cell? ⟨gP,1,none⟩=some (.slice A1 l1.length c1):=(blk_cell HX8.out.2.2.2.2 1).trans rfl;have hcP2:w8.cell? ⟨gP,2,none⟩=some (.slice A2 l2.length c2):=(blk_cell HX8.out.2.2.2.2 2).trans rfl)
        | (refine goesL_ (some 37) rfl rfl Try.func74 (by kernel_rfl) rfl #[.agg #[.int .i64 s,.slice A1 l1.length c1,.slice A2 l2.length c2],.slice (some ⟨gg,0,none⟩) (gr.set a.toNat v).length cg,.int .i64 a] rfl (by (try simp only [List.map_toArray,List.map_cons,List.map_nil]);rw [List.length_set,HLV.out];rfl) ?_;(with_reducible refine (impl_cellFits.calls k s _ _ l1 _ _ l2 _ _ (gr.set a.toNat v) a true w8 (HR1.out _ HA8.out) HC1.out (HR2.out _ HA8.out) HC2.out (Kd.R_reads' HV8.out).2.2 (by rw [List.length_set,HLV.out];exact (Kd.R_reads' HV8.out).2.1) HC.out).mono ?_);rintro e w9 ⟨rfl,hb⟩;refine ⟨_,rfl,?_⟩;have HV9:=yam (Kd.R_below HV8.out hb);have HI9:=yam (Te.keep HI8.out hb.size (fun k_ hk_ _=>hb.block k_ hk_));have HX9:=yam (impl_solutions.Boxes.agr HX8.out (Agr.of_below (P:=P) hb) HP.out);have HA9:=yam (HA8.out.trans (Agr.of_below hb));have HB9:=yam (below_step HB8.out hb);have HL9:Aside0 (∀ k,P k→k < w9.heap.size):=⟨fun k_ hk_=>Nat.lt_of_lt_of_le (HL8.out k_ hk_) hb.size⟩;clear hb hcG hcP0 hcP1 hcP2 HV8 HI8 HX8 HA8 HB8 HL8;have hcY:w9.cell? ⟨gY,0,none⟩=some (.func (.func 73) #[] #[.pointer (some ⟨gG,0,none⟩),.pointer (some ⟨gT,0,none⟩),.pointer (some ⟨gY,0,none⟩),.pointer (some ⟨gS,0,none⟩),.pointer (some ⟨gP,0,none⟩)]):=(blk_cell HX9.out.2.2.1 0).trans rfl)
        | (go_at_call 73;(refine (IH.out (a + 1) (gr.set a.toNat v) s1 true t2 t3 _ HAA.out.2.2 HD.out HN.out (by rw [List.length_set];exact HLV.out) HV9.out HI9.out HX9.out HA9.out HB9.out HL9.out HR.out).mono ?_);rintro e w10 ⟨rfl,HL1,hV,hI,hX,hA,hB,hL⟩;have HV10:=yam hV;have HI10:=yam hI;have HX10:=yam hX;have HA10:=yam hA;have HB10:=yam hB;have HL10:=yam hL;have HLV10:=yam HL1;clear hV hI hX hA hB hL HL1 HV9 HI9 HX9 HA9 HB9 HL9 hcY))
       go_roundg q
       case measure=>omega
       case rel=>exact ⟨v + 1,t2,t3,rfl,⟨by have:=HK.out;omega⟩,HT,HLV10,HV10,HI10,HX10,HA10,HB10,HL10⟩
def impl_solutions.run {σ:Type}(T:σ→List Int→Option (Bool × σ))(k:Nat)(s:Int)(l1:List Int)(l2:List S73)(l:List Int)(st:σ):Option σ :=
 if 0 < l.length∧l.length≤100000∧s≤1000 then (impl_PuzzleFits.f k s l1 l2 l).bind fun b=>(if b=true then (impl_solutions.try_ T k s l1 l2 l.length l.length l st).bind fun t=>some t.2.2 else some st) else none
theorem impl_solutions.gen {w0:World}{σ:Type}{tf p1 p2:Nat}{T:σ→List Int→Option (Bool × σ)}{Inv:(Nat→Prop)→σ→World→Prop}(Te:Teller w0 tf p1 p2 T Inv)(k:Nat)(s:Int)(A1:Option Addr)(c1:Nat)(l1:List Int)(A2:Option Addr)(c2:Nat)(l2:List S73)(A:Option Addr)(c:Nat)(l:List Int)(P:Nat→Prop)(st st':σ)(w:World)(hB:Below w0.heap.size w0 w)(hPl:∀ k,P k→k < w.heap.size)(hI:Inv P st w)(hr1:∀ W,Agr P w W→Kd.C (Kd.int .i64) W A1 l1.length l1)(hc1:l1.length≤c1)(hr2:∀ W,Agr P w W→Kd.C k73 W A2 l2.length l2)(hc2:l2.length≤c2)(hr:Kd.C (Kd.int .i64) w A l.length l)(hc:l.length≤c)(h:impl_solutions.run T k s l1 l2 l st=some st') :
  Calls Try.prog 45 #[.agg #[.int .i64 s,.slice A1 l1.length c1,.slice A2 l2.length c2],.slice A l.length c,.func (.func tf) #[] #[.pointer (some ⟨p1,0,none⟩),.pointer (some ⟨p2,0,none⟩)]] w fun e w'=>e= .returned (.tuple #[])∧Inv P st' w'∧Agr P w w'∧Below w0.heap.size w0 w':=by
 unfold impl_solutions.run at h
 by_cases hN:0 < l.length∧l.length≤100000∧s≤1000
 rotate_left
 ·rw [if_neg hN] at h
  cases h
 rw [if_pos hN] at h
 have HCL:=yam (show slices_Clone_int_int.f l=some l by unfold slices_Clone_int_int.f;rw [if_pos (by omega)])
 obtain ⟨b,hF,h⟩:=Option.bind_eq_some_iff.1 h
 have HF:=yam hF
 have HN:=yam hN
 have HB:=yam hB
 have HPL:=yam hPl
 have HI:=yam hI
 have HR1:=yam hr1
 have HC1:=yam hc1
 have HR2:=yam hr2
 have HC2:=yam hc2
 have HR:=yam hr
 have HC:=yam hc
 have hu:=Try.underlying37
 have hsf:=fun (a:Addr) (c:Array Value) (w:World)=>run_store Try.prog w a (.func (.func 73) #[] c) .plain rfl
 clear hN hF hB hPl hI hr1 hc1 hr2 hc2 hr hc
 cases b with
 | false =>
  simp only [Bool.false_eq_true,if_false,Option.some.injEq] at h
  subst h
  go_enter Try.func45,Try.ntmps45
  go_wp2_with (first
   | (refine ybe 3 #[.int .i64 s,.slice A1 l1.length c1,.slice A2 l2.length c2] 37 ?_;intro gP hg w3 hbox hb;have BgP:=yam hbox;have HW:=yam hb;have HO:=yam (show w.heap.size≤gP∧gP < w3.heap.size from ⟨Nat.le_of_eq hg.symm,blk_lt hbox⟩);clear hg hbox hb)
   | (refine ybe 5 #[.func (.func tf) #[] #[.pointer (some ⟨p1,0,none⟩),.pointer (some ⟨p2,0,none⟩)]] 63 ?_;intro gT hg w5 hbox hb;replace HW:=yam (below_step HW.out hb);replace BgP:=yam (blk_below BgP.out hb);have BgT:=yam hbox;have HO_:=HO.out;clear HO;have HO:=yam (show w.heap.size≤gP∧gP < gT∧gT < w5.heap.size from ⟨HO_.1,by omega,blk_lt hbox⟩);clear HO_;clear hg hbox hb)
   | (refine goesL_ (some 10) rfl rfl Try.func47 (by kernel_rfl) rfl #[.slice A l.length c] rfl yma ?_;(with_reducible refine (slices_Clone_int_int.calls A c l l w5 (Kd.C_below HR.out HW.out) HC.out HCL.out).mono ?_);rintro e w10 ⟨v10,rfl,ho,hb⟩;refine ⟨_,rfl,?_⟩;obtain ⟨gg,cg,e_,gb_,gl_,gx_⟩:=Kd.R_form ho HN.out.1;subst e_;have HV:=yam (Kd.R_mono (Kd.R_tight rfl (Kd.R_lower ho (Nat.le_trans HB.out.size HW.out.size))) (fun k_ h_=>by simpa [Value.ownBlock] using h_):Kd.R (Kd.int .i64) 3 w10 w0.heap.size (fun k=>k=gg) (.slice (some ⟨gg,0,none⟩) l.length cg) l);replace HW:=yam (below_step HW.out hb);replace BgP:=yam (blk_below BgP.out hb);replace BgT:=yam (blk_below BgT.out hb);have HO_:=HO.out;clear HO;have HO:=yam (show w.heap.size≤gP∧gP < gT∧gT < gg∧gg < w10.heap.size from ⟨HO_.1,HO_.2.1,by omega,gl_⟩);clear HO_ gb_ gl_ gx_ ho hb)
   | (refine ybe 6 #[.slice none 0 0] 22 ?_;intro gG hg w11 hbox hb;replace HW:=yam (below_step HW.out hb);replace BgP:=yam (blk_below BgP.out hb);replace BgT:=yam (blk_below BgT.out hb);replace HV:=yam (Kd.R_below HV.out hb);have BgG:=yam hbox;have hz:w11.cell? ⟨gG,0,none⟩=some (.slice none 0 0):=(blk_cell hbox 0).trans rfl;have hzf:=blk_frozen hbox 0;have HO_:=HO.out;clear HO;have HO:=yam (show w.heap.size≤gP∧gP < gT∧gT < gg∧gg < gG∧gG < w11.heap.size from ⟨HO_.1,HO_.2.1,HO_.2.2.1,by omega,blk_lt hbox⟩);clear HO_;clear hg hbox hb)
   | ((with_reducible refine gate_store (t:=22) (p:=6) rfl ?_);refine store_event (t:=22) (p:=6) (v:=?vo1) (w1:=w11.setCell ⟨gG,0,none⟩ (.slice (some ⟨gg,0,none⟩) l.length cg)) ?hg ?ho ?hn ?hr ?_;(case ho=>rfl);(case hg=>rfl);(case hn=>rfl);(case hr=>first|(go_simp;done)|(go_simp;rfl));intro w12 hw;have n_:=yam (far1 hw BgP.out (by have:=HO.out;omega));clear BgP;have BgP:=n_;clear n_;have n_:=yam (far1 hw BgT.out (by have:=HO.out;omega));clear BgT;have BgT:=n_;clear n_;have n_:Aside0 (w12.heap[gG]?=some (.cells #[.slice (some ⟨gg,0,none⟩) l.length cg] 22 (0,0))):=⟨by rw [hw];simpa using blk_set BgG.out 0 (.slice (some ⟨gg,0,none⟩) l.length cg)⟩;clear BgG;have BgG:=n_;clear n_;have n_:Aside0 (Below w.heap.size w w12):=⟨by rw [hw];exact below_set HW.out (by have:=HO.out;omega)⟩;clear HW;have HW:=n_;clear n_;have n_:Aside0 (Kd.R (Kd.int .i64) 3 w12 w0.heap.size (fun k=>k=gg) (.slice (some ⟨gg,0,none⟩) l.length cg) l):=⟨by rw [hw];exact Kd.R_far (p:=⟨gG,0,none⟩) HV.out (fun k_ h_=>by have:=HO.out;show k_≠gG;omega) _⟩;clear HV;have HV:=n_;clear n_;clear hz hzf;have hg0:w12.cell? ⟨gG,0,none⟩=some (.slice (some ⟨gg,0,none⟩) l.length cg):=(blk_cell BgG.out 0).trans rfl;have hp0:w12.cell? ⟨gP,0,none⟩=some (.int .i64 s):=(blk_cell BgP.out 0).trans rfl;have hp1:w12.cell? ⟨gP,1,none⟩=some (.slice A1 l1.length c1):=(blk_cell BgP.out 1).trans rfl;have hp2:w12.cell? ⟨gP,2,none⟩=some (.slice A2 l2.length c2):=(blk_cell BgP.out 2).trans rfl;have HO_:Aside0 (w.heap.size≤gP∧gP < gT∧gT < gg∧gg < gG∧gG < w12.heap.size):=⟨by have:=HO.out;rw [hw];simpa [World.setCell] using this⟩;clear HO;have HO:=HO_;clear HO_;clear hw)
   | (refine goesL_ (some 13) rfl rfl Try.func72 (by kernel_rfl) rfl #[.agg #[.int .i64 s,.slice A1 l1.length c1,.slice A2 l2.length c2],.slice (some ⟨gg,0,none⟩) l.length cg] rfl yma ?_;(with_reducible refine (impl_PuzzleFits.calls k s _ _ l1 _ _ l2 _ _ l false w12 (HR1.out _ (Agr.of_below HW.out)) HC1.out (HR2.out _ (Agr.of_below HW.out)) HC2.out (Kd.R_reads' HV.out).2.2 (Kd.R_reads' HV.out).2.1 HF.out).mono ?_);rintro e w13 ⟨rfl,hb⟩;refine ⟨_,rfl,?_⟩;replace HW:=yam (below_step HW.out hb);replace BgP:=yam (blk_below BgP.out hb);replace BgT:=yam (blk_below BgT.out hb);replace HV:=yam (Kd.R_below HV.out hb);replace BgG:=yam (blk_below BgG.out hb);have HO_:=HO.out;clear HO;have HO:=yam (show w.heap.size≤gP∧gP < gT∧gT < gg∧gg < gG∧gG < w13.heap.size from ⟨HO_.1,HO_.2.1,HO_.2.2.1,HO_.2.2.2.1,Nat.lt_of_lt_of_le HO_.2.2.2.2 hb.size⟩);clear HO_ hg0 hp0 hp1 hp2;have hp0:w13.cell? ⟨gP,0,none⟩=some (.int .i64 s):=(blk_cell BgP.out 0).trans rfl;clear hb))
  first|go_end0|((try simp only [Exit.inBlock,Exit.then]);refine bodyPost_ret (results_none rfl _ _ _) rfl ?_)
  exact ⟨rfl,Te.keep HI.out HW.out.size (fun k_ hl_ _=>HW.out.block k_ hl_),Agr.of_below HW.out,below_step HB.out HW.out⟩
 | true =>
  simp only [if_true] at h
  obtain ⟨⟨t1,t2,t3⟩,hT,h⟩:=Option.bind_eq_some_iff.1 h
  obtain rfl:=Option.some.inj h
  have HT:=yam hT
  clear h hT
  go_enter Try.func45,Try.ntmps45
  go_wp2_with (first
   | (refine ybe 3 #[.int .i64 s,.slice A1 l1.length c1,.slice A2 l2.length c2] 37 ?_;intro gP hg w3 hbox hb;have BgP:=yam hbox;have HW:=yam hb;have HO:=yam (show w.heap.size≤gP∧gP < w3.heap.size from ⟨Nat.le_of_eq hg.symm,blk_lt hbox⟩);clear hg hbox hb)
   | (refine ybe 5 #[.func (.func tf) #[] #[.pointer (some ⟨p1,0,none⟩),.pointer (some ⟨p2,0,none⟩)]] 63 ?_;intro gT hg w5 hbox hb;replace HW:=yam (below_step HW.out hb);replace BgP:=yam (blk_below BgP.out hb);have BgT:=yam hbox;have HO_:=HO.out;clear HO;have HO:=yam (show w.heap.size≤gP∧gP < gT∧gT < w5.heap.size from ⟨HO_.1,by omega,blk_lt hbox⟩);clear HO_;clear hg hbox hb)
   | (refine goesL_ (some 10) rfl rfl Try.func47 (by kernel_rfl) rfl #[.slice A l.length c] rfl yma ?_;(with_reducible refine (slices_Clone_int_int.calls A c l l w5 (Kd.C_below HR.out HW.out) HC.out HCL.out).mono ?_);rintro e w10 ⟨v10,rfl,ho,hb⟩;refine ⟨_,rfl,?_⟩;obtain ⟨gg,cg,e_,gb_,gl_,gx_⟩:=Kd.R_form ho HN.out.1;subst e_;have HV:=yam (Kd.R_mono (Kd.R_tight rfl (Kd.R_lower ho (Nat.le_trans HB.out.size HW.out.size))) (fun k_ h_=>by simpa [Value.ownBlock] using h_):Kd.R (Kd.int .i64) 3 w10 w0.heap.size (fun k=>k=gg) (.slice (some ⟨gg,0,none⟩) l.length cg) l);replace HW:=yam (below_step HW.out hb);replace BgP:=yam (blk_below BgP.out hb);replace BgT:=yam (blk_below BgT.out hb);have HO_:=HO.out;clear HO;have HO:=yam (show w.heap.size≤gP∧gP < gT∧gT < gg∧gg < w10.heap.size from ⟨HO_.1,HO_.2.1,by omega,gl_⟩);clear HO_ gb_ gl_ gx_ ho hb)
   | (refine ybe 6 #[.slice none 0 0] 22 ?_;intro gG hg w11 hbox hb;replace HW:=yam (below_step HW.out hb);replace BgP:=yam (blk_below BgP.out hb);replace BgT:=yam (blk_below BgT.out hb);replace HV:=yam (Kd.R_below HV.out hb);have BgG:=yam hbox;have hz:w11.cell? ⟨gG,0,none⟩=some (.slice none 0 0):=(blk_cell hbox 0).trans rfl;have hzf:=blk_frozen hbox 0;have HO_:=HO.out;clear HO;have HO:=yam (show w.heap.size≤gP∧gP < gT∧gT < gg∧gg < gG∧gG < w11.heap.size from ⟨HO_.1,HO_.2.1,HO_.2.2.1,by omega,blk_lt hbox⟩);clear HO_;clear hg hbox hb)
   | ((with_reducible refine gate_store (t:=22) (p:=6) rfl ?_);refine store_event (t:=22) (p:=6) (v:=?vo1) (w1:=w11.setCell ⟨gG,0,none⟩ (.slice (some ⟨gg,0,none⟩) l.length cg)) ?hg ?ho ?hn ?hr ?_;(case ho=>rfl);(case hg=>rfl);(case hn=>rfl);(case hr=>first|(go_simp;done)|(go_simp;rfl));intro w12 hw;have n_:=yam (far1 hw BgP.out (by have:=HO.out;omega));clear BgP;have BgP:=n_;clear n_;have n_:=yam (far1 hw BgT.out (by have:=HO.out;omega));clear BgT;have BgT:=n_;clear n_;have n_:Aside0 (w12.heap[gG]?=some (.cells #[.slice (some ⟨gg,0,none⟩) l.length cg] 22 (0,0))):=⟨by rw [hw];simpa using blk_set BgG.out 0 (.slice (some ⟨gg,0,none⟩) l.length cg)⟩;clear BgG;have BgG:=n_;clear n_;have n_:Aside0 (Below w.heap.size w w12):=⟨by rw [hw];exact below_set HW.out (by have:=HO.out;omega)⟩;clear HW;have HW:=n_;clear n_;have n_:Aside0 (Kd.R (Kd.int .i64) 3 w12 w0.heap.size (fun k=>k=gg) (.slice (some ⟨gg,0,none⟩) l.length cg) l):=⟨by rw [hw];exact Kd.R_far (p:=⟨gG,0,none⟩) HV.out (fun k_ h_=>by have:=HO.out;show k_≠gG;omega) _⟩;clear HV;have HV:=n_;clear n_;clear hz hzf;have hg0:w12.cell? ⟨gG,0,none⟩=some (.slice (some ⟨gg,0,none⟩) l.length cg):=(blk_cell BgG.out 0).trans rfl;have hp0:w12.cell? ⟨gP,0,none⟩=some (.int .i64 s):=(blk_cell BgP.out 0).trans rfl;have hp1:w12.cell? ⟨gP,1,none⟩=some (.slice A1 l1.length c1):=(blk_cell BgP.out 1).trans rfl;have hp2:w12.cell? ⟨gP,2,none⟩=some (.slice A2 l2.length c2):=(blk_cell BgP.out 2).trans rfl;have HO_:Aside0 (w.heap.size≤gP∧gP < gT∧gT < gg∧gg < gG∧gG < w12.heap.size):=⟨by have:=HO.out;rw [hw];simpa [World.setCell] using this⟩;clear HO;have HO:=HO_;clear HO_;clear hw)
   | (refine goesL_ (some 13) rfl rfl Try.func72 (by kernel_rfl) rfl #[.agg #[.int .i64 s,.slice A1 l1.length c1,.slice A2 l2.length c2],.slice (some ⟨gg,0,none⟩) l.length cg] rfl yma ?_;(with_reducible refine (impl_PuzzleFits.calls k s _ _ l1 _ _ l2 _ _ l true w12 (HR1.out _ (Agr.of_below HW.out)) HC1.out (HR2.out _ (Agr.of_below HW.out)) HC2.out (Kd.R_reads' HV.out).2.2 (Kd.R_reads' HV.out).2.1 HF.out).mono ?_);rintro e w13 ⟨rfl,hb⟩;refine ⟨_,rfl,?_⟩;replace HW:=yam (below_step HW.out hb);replace BgP:=yam (blk_below BgP.out hb);replace BgT:=yam (blk_below BgT.out hb);replace HV:=yam (Kd.R_below HV.out hb);replace BgG:=yam (blk_below BgG.out hb);have HO_:=HO.out;clear HO;have HO:=yam (show w.heap.size≤gP∧gP < gT∧gT < gg∧gg < gG∧gG < w13.heap.size from ⟨HO_.1,HO_.2.1,HO_.2.2.1,HO_.2.2.2.1,Nat.lt_of_lt_of_le HO_.2.2.2.2 hb.size⟩);clear HO_ hg0 hp0 hp1 hp2;have hp0:w13.cell? ⟨gP,0,none⟩=some (.int .i64 s):=(blk_cell BgP.out 0).trans rfl;clear hb)
   | (refine ybe 7 #[.int .i64 0] 3 ?_;intro gS hg w14 hbox hb;replace HW:=yam (below_step HW.out hb);replace BgP:=yam (blk_below BgP.out hb);replace BgT:=yam (blk_below BgT.out hb);replace HV:=yam (Kd.R_below HV.out hb);replace BgG:=yam (blk_below BgG.out hb);have BgS:=yam hbox;clear hp0;have hz:w14.cell? ⟨gS,0,none⟩=some (.int .i64 0):=(blk_cell hbox 0).trans rfl;have hzf:=blk_frozen hbox 0;have HO_:=HO.out;clear HO;have HO:=yam (show w.heap.size≤gP∧gP < gT∧gT < gg∧gg < gG∧gG < gS∧gS < w14.heap.size from ⟨HO_.1,HO_.2.1,HO_.2.2.1,HO_.2.2.2.1,by omega,blk_lt hbox⟩);clear HO_;clear hg hbox hb)
   | ((with_reducible refine gate_store (t:=3) (p:=7) rfl ?_);refine store_event (t:=3) (p:=7) (v:=?vo2) (w1:=w14.setCell ⟨gS,0,none⟩ (.int .i64 s)) ?hg ?ho ?hn ?hr ?_;(case ho=>rfl);(case hg=>rfl);(case hn=>rfl);(case hr=>first|(go_simp;done)|(go_simp;rfl));intro w15 hw;have n_:=yam (far1 hw BgP.out (by have:=HO.out;omega));clear BgP;have BgP:=n_;clear n_;have n_:=yam (far1 hw BgT.out (by have:=HO.out;omega));clear BgT;have BgT:=n_;clear n_;have n_:=yam (far1 hw BgG.out (by have:=HO.out;omega));clear BgG;have BgG:=n_;clear n_;have n_:Aside0 (w15.heap[gS]?=some (.cells #[.int .i64 s] 3 (0,0))):=⟨by rw [hw];simpa using blk_set BgS.out 0 (.int .i64 s)⟩;clear BgS;have BgS:=n_;clear n_;have n_:Aside0 (Below w.heap.size w w15):=⟨by rw [hw];exact below_set HW.out (by have:=HO.out;omega)⟩;clear HW;have HW:=n_;clear n_;have n_:Aside0 (Kd.R (Kd.int .i64) 3 w15 w0.heap.size (fun k=>k=gg) (.slice (some ⟨gg,0,none⟩) l.length cg) l):=⟨by rw [hw];exact Kd.R_far (p:=⟨gS,0,none⟩) HV.out (fun k_ h_=>by have:=HO.out;show k_≠gS;omega) _⟩;clear HV;have HV:=n_;clear n_;clear hz hzf;have HO_:Aside0 (w.heap.size≤gP∧gP < gT∧gT < gg∧gg < gG∧gG < gS∧gS < w15.heap.size):=⟨by have:=HO.out;rw [hw];simpa [World.setCell] using this⟩;clear HO;have HO:=HO_;clear HO_;clear hw)
   | (refine ybe 8 #[.nilFunc] 61 ?_;intro gY hg w16 hbox hb;replace HW:=yam (below_step HW.out hb);replace BgP:=yam (blk_below BgP.out hb);replace BgT:=yam (blk_below BgT.out hb);replace HV:=yam (Kd.R_below HV.out hb);replace BgG:=yam (blk_below BgG.out hb);replace BgS:=yam (blk_below BgS.out hb);have BgY:=yam hbox;have hz:w16.cell? ⟨gY,0,none⟩=some (.nilFunc):=(blk_cell hbox 0).trans rfl;have hzf:=blk_frozen hbox 0;have HO_:=HO.out;clear HO;have HO:=yam (show w.heap.size≤gP∧gP < gT∧gT < gg∧gg < gG∧gG < gS∧gS < gY∧gY < w16.heap.size from ⟨HO_.1,HO_.2.1,HO_.2.2.1,HO_.2.2.2.1,HO_.2.2.2.2.1,by omega,blk_lt hbox⟩);clear HO_;clear hg hbox hb)
   | ((with_reducible refine gate_store (t:=61) (p:=8) rfl ?_);refine store_event (t:=61) (p:=8) (v:=?vo3) (w1:=w16.setCell ⟨gY,0,none⟩ (.func (.func 73) #[] #[.pointer (some ⟨gG,0,none⟩),.pointer (some ⟨gT,0,none⟩),.pointer (some ⟨gY,0,none⟩),.pointer (some ⟨gS,0,none⟩),.pointer (some ⟨gP,0,none⟩)])) ?hg ?ho ?hn ?hr ?_;(case ho=>rfl);(case hg=>rfl);(case hn=>rfl);(case hr=>first|(go_simp;done)|(go_simp;rfl));intro w17 hw;have n_:=yam (far1 hw BgP.out (by have:=HO.out;omega));clear BgP;have BgP:=n_;clear n_;have n_:=yam (far1 hw BgT.out (by have:=HO.out;omega));clear BgT;have BgT:=n_;clear n_;have n_:=yam (far1 hw BgG.out (by have:=HO.out;omega));clear BgG;have BgG:=n_;clear n_;have n_:=yam (far1 hw BgS.out (by have:=HO.out;omega));clear BgS;have BgS:=n_;clear n_;have n_:Aside0 (w17.heap[gY]?=some (.cells #[.func (.func 73) #[] #[.pointer (some ⟨gG,0,none⟩),.pointer (some ⟨gT,0,none⟩),.pointer (some ⟨gY,0,none⟩),.pointer (some ⟨gS,0,none⟩),.pointer (some ⟨gP,0,none⟩)]] 61 (0,0))):=⟨by rw [hw];simpa using blk_set BgY.out 0 (.func (.func 73) #[] #[.pointer (some ⟨gG,0,none⟩),.pointer (some ⟨gT,0,none⟩),.pointer (some ⟨gY,0,none⟩),.pointer (some ⟨gS,0,none⟩),.pointer (some ⟨gP,0,none⟩)])⟩;clear BgY;have BgY:=n_;clear n_;have n_:Aside0 (Below w.heap.size w w17):=⟨by rw [hw];exact below_set HW.out (by have:=HO.out;omega)⟩;clear HW;have HW:=n_;clear n_;have n_:Aside0 (Kd.R (Kd.int .i64) 3 w17 w0.heap.size (fun k=>k=gg) (.slice (some ⟨gg,0,none⟩) l.length cg) l):=⟨by rw [hw];exact Kd.R_far (p:=⟨gY,0,none⟩) HV.out (fun k_ h_=>by have:=HO.out;show k_≠gY;omega) _⟩;clear HV;have HV:=n_;clear n_;clear hz hzf;have hy0:w17.cell? ⟨gY,0,none⟩=some (.func (.func 73) #[] #[.pointer (some ⟨gG,0,none⟩),.pointer (some ⟨gT,0,none⟩),.pointer (some ⟨gY,0,none⟩),.pointer (some ⟨gS,0,none⟩),.pointer (some ⟨gP,0,none⟩)]):=(blk_cell BgY.out 0).trans rfl;have HO_:Aside0 (w.heap.size≤gP∧gP < gT∧gT < gg∧gg < gG∧gG < gS∧gS < gY∧gY < w17.heap.size):=⟨by have:=HO.out;rw [hw];simpa [World.setCell] using this⟩;clear HO;have HO:=HO_;clear HO_;clear hw)
   | (go_at_call 73;(refine (impl_solutions.clo Te k s A1 c1 l1 A2 c2 l2 gg cg l.length gG gT gY gS gP (fun k_=>P k_∨k_=gg∨k_=gG∨k_=gT∨k_=gY∨k_=gS∨k_=gP) w ⟨.inr (.inr (.inl rfl)),.inr (.inr (.inr (.inl rfl))),.inr (.inr (.inr (.inr (.inl rfl)))),.inr (.inr (.inr (.inr (.inr (.inl rfl))))),.inr (.inr (.inr (.inr (.inr (.inr rfl)))))⟩ (.inr (.inl rfl)) (by have:=HO.out;omega) (by have:=HO.out;omega) (Nat.le_trans HB.out.size (by have:=HO.out;omega)) HN.out.2.2 (fun W_ h_=>HR1.out W_ (h_.mono (fun _ _ hp_=> .inl hp_))) HC1.out (fun W_ h_=>HR2.out W_ (h_.mono (fun _ _ hp_=> .inl hp_))) HC2.out l.length 0 l st t1 t2 t3 w17 (by omega) (Nat.le_refl _) HN.out.2.1 rfl HV.out (Te.keep (Te.mono HI.out (fun k_ hl_ hp_=>hp_.resolve_right (by have:=HO.out;omega))) HW.out.size (fun k_ hl_ _=>HW.out.block k_ hl_)) ⟨BgG.out,BgT.out,BgY.out,BgS.out,BgP.out⟩ (Agr.of_below HW.out) (below_step HB.out HW.out) (fun k_ hp_=>hp_.elim (fun hp_=>by have h1_:=HO.out;have h2_:=HW.out.size;have:=HPL.out k_ hp_;omega) (fun hp_=>by have h1_:=HO.out;omega)) HT.out).mono ?_);rintro e w18 ⟨rfl,hL1,hV,hI,hX,hA,hB,hL⟩;have n0_:=yam (Te.mono hI (fun k_ _ hp_=> .inl hp_):Inv P t3 w18);have n1_:=yam (hA.mono (fun _ _ hp_=> .inl hp_):Agr P w w18);have n2_:=yam hB;clear hL1 hV hI hX hA hB hL hy0))
  first|go_end0|((try simp only [Exit.inBlock,Exit.then]);refine bodyPost_ret (results_none rfl _ _ _) rfl ?_)
  exact ⟨rfl,n0_.out,n1_.out,n2_.out⟩
def impl_solutions.f (k:Nat):Option Unit:=none
theorem impl_solutions.calls:True:=trivial
def impl_firstSolutions.T (most:Int)(out:List (List Int))(g:List Int):Option (Bool × List (List Int)):=if g.length≤100000∧out.length≤100000 then some (decide (((out ++ [g]).length:Int) < most),out ++ [g]) else none
def impl_firstSolutions.Inv (w0:World)(p1 p2:Nat)(most:Int)(P:Nat→Prop)(out:List (List Int))(w:World):Prop :=
 w.heap[p2]?=some (.cells #[.int .i64 most] 3 (0,0))∧(∃ v,w.heap[p1]?=some (.cells #[v] 78 (0,0))∧Kd.S (Kd.slice 3 (Kd.int .i64)) 22 w w0.heap.size (fun k=>¬ P k∧k≠p1∧k≠p2) v out)∧¬ P p1∧¬ P p2∧w0.heap.size≤p1∧p2 < p1
theorem impl_firstSolutions.keep {w0:World}{p1 p2:Nat}{most:Int}{P:Nat→Prop}{s:List (List Int)}{w w':World}(h:impl_firstSolutions.Inv w0 p1 p2 most P s w)(_:w.heap.size≤w'.heap.size)(hk:∀ k,k < w.heap.size→¬ P k→w'.heap[k]?=w.heap[k]?):impl_firstSolutions.Inv w0 p1 p2 most P s w':=by
 obtain ⟨h1,⟨v,h2,hR⟩,n1,n2,h3,h4⟩:=h
 exact ⟨(hk p2 (blk_lt h1) n2).trans h1,⟨v,(hk p1 (blk_lt h2) n1).trans h2,Kd.S_step hR (fun k hk2 hlt=>hk k hlt hk2.1)⟩,n1,n2,h3,h4⟩
theorem impl_firstSolutions.mono_ {w0:World}{p1 p2:Nat}{most:Int}{P P':Nat→Prop}{s:List (List Int)}{w:World}(h:impl_firstSolutions.Inv w0 p1 p2 most P s w)(hk:∀ k,k < w.heap.size→P' k→P k):impl_firstSolutions.Inv w0 p1 p2 most P' s w:=by
 obtain ⟨h1,⟨v,h2,hR⟩,n1,n2,h3,h4⟩:=h
 exact ⟨h1,⟨v,h2,Kd.S_mono (Kd.S_bound hR) (fun k hk2=>⟨fun hp=>hk2.1.1 (hk k hk2.2.2.1 hp),hk2.1.2⟩)⟩,fun hp=>n1 (hk p1 (blk_lt h2) hp),fun hp=>n2 (hk p2 (blk_lt h1) hp),h3,h4⟩
theorem impl_firstSolutions.call {w0:World}{p1 p2:Nat}{most:Int}{P:Nat→Prop}{out s':List (List Int)}{w:World}{g:List Int}{A:Option Addr}{c:Nat}{b:Bool}(hB:Below w0.heap.size w0 w)(hI:impl_firstSolutions.Inv w0 p1 p2 most P out w)(hr:Kd.C (Kd.int .i64) w A g.length g)(hc:g.length≤c)(hP:∀ k,P k→k < w.heap.size)(h:impl_firstSolutions.T most out g=some (b,s')) :
  Calls Try.prog 86 #[.slice A g.length c,.pointer (some ⟨p1,0,none⟩),.pointer (some ⟨p2,0,none⟩)] w fun e w'=>e= .returned (.bool b)∧impl_firstSolutions.Inv w0 p1 p2 most P s' w'∧Agr P w w'∧Below w0.heap.size w0 w':=by
 unfold impl_firstSolutions.T at h
 by_cases hl:g.length≤100000∧out.length≤100000
 rotate_left
 ·rw [if_neg hl] at h
  cases h
 rw [if_pos hl] at h
 obtain ⟨o,hoe⟩:∃ o,o=out ++ [g]:=⟨_,rfl⟩
 rw [← hoe] at h
 simp only [Option.some.injEq,Prod.mk.injEq] at h
 obtain ⟨rfl,rfl⟩:=h
 obtain ⟨h1,⟨v,h2,hS⟩,n1,n2,h3,h4⟩:=hI
 obtain ⟨Av,cv,ev⟩:=Kd.S_slice hS
 subst ev
 have HOE:=yam hoe
 have HLT:=yam (show p1 < w.heap.size∧p2 < w.heap.size from ⟨blk_lt h2,blk_lt h1⟩)
 have HL:=yam hl
 have H1:=yam h1
 have H2:=yam h2
 have HS:=yam hS
 have N1:=yam n1
 have N2:=yam n2
 have H3:=yam h3
 have H4:=yam h4
 have HB:=yam hB
 have HP:=yam hP
 have HR:=yam hr
 have HC:=yam hc
 have HCL:=yam (show slices_Clone_int_int.f g=some g by unfold slices_Clone_int_int.f;rw [if_pos (by omega)])
 clear hB hr hc hP hl h1 h2 hS n1 n2 h3 h4 hoe
 go_enter Try.func86,Try.ntmps86
 go_wp2
 refine start_ (n:=6) (S:=fun w'=>w'.cell? ⟨p1,0,none⟩=some (.slice Av out.length cv)) (ds:=[5]) (yvb 6 0) (by kernel_rfl) rfl rfl ((blk_cell (show w.drew.heap[p1]?=_ from H2.out) 0).trans rfl) (fun hHeld=>?_)
 have n1_:=yam (show w.drew.heap[p2]?=_ from H1.out)
 have n2_:=yam (show w.drew.heap[p1]?=_ from H2.out)
 have n3_:=yam (Kd.S_drew HS.out)
 have n4_:=yam (Kd.C_drew HR.out)
 have n5_:=yam (show Below w.heap.size w w.drew from below_drew1 (Below.refl _ _))
 clear H1 H2 HS HR
 generalize w.drew=w1 at n1_ n2_ n3_ n4_ n5_ hHeld ⊢
 have H1:=n1_
 have H2:=n2_
 have HS:=n3_
 have HR:=n4_
 have HW:=n5_
 clear n1_ n2_ n3_ n4_ n5_
 refine pure_ (i:=1) (N:=some 6) (v:=?_) (a':=?_) (yvb 6 2) rfl rfl (by kernel_rfl) (fun _ _ _ h=>h) (Or.inl ⟨by rfl,?_⟩) ?_ ?_
 rotate_left
 ·intro w'
  go_simp
  with_reducible rfl
 rotate_left
 ·simp only [Act.put,yps,i64_w,i32_w]
  rfl
 refine take_ (i:=0) (N:=some 5) (v:=?_) (a':=?_) (yvb 6 3) rfl rfl (by kernel_rfl) (fun _ _ _ h=>h) (Or.inl ⟨by rfl,?_⟩) hHeld ?_ ?_
 rotate_left
 ·intro w' s0
  go_simp
  with_reducible rfl
 rotate_left
 ·simp only [Act.put,yps,i64_w,i32_w]
  rfl
 refine one_ (i:=2) (N:=some 7) (yvb 6 7) rfl rfl (by kernel_rfl) (by decide) (fun K hK=>?_)
 refine goes_ Try.func47 (by kernel_rfl) rfl #[.slice A g.length c] (by rfl) rfl rfl yma ?_
 with_reducible refine (slices_Clone_int_int.calls A c g g w1 HR.out HC.out HCL.out).mono ?_
 rintro e w2 ⟨v7,rfl,ho,hb⟩
 refine ⟨_,rfl,?_⟩
 have n1_:=yam (blk_below H1.out hb)
 have n2_:=yam (blk_below H2.out hb)
 have n3_:=yam (Kd.S_below (Kd.S_bound HS.out) hb)
 have n5_:=yam (below_step HW.out hb)
 have n6_:=yam (Kd.R_lower (Kd.R_tight rfl ho) (Nat.le_trans HB.out.size HW.out.size))
 have n7_:=yam (show ∀ k,some k=v7.ownBlock→w1.heap.size≤k∧k < w2.heap.size from fun k_ h_=>⟨Kd.R_base ho k_ h_.symm,Kd.R_lt ho k_ h_.symm⟩)
 have hz1:=yam HW.out.size
 clear H1 H2 HS HW HR ho hb
 have H1:=n1_
 have H2:=n2_
 have HS:=n3_
 have HW:=n5_
 have HV:=n6_
 have HVB:=n7_
 clear n1_ n2_ n3_ n5_ n6_ n7_
 obtain ⟨A7,c7,e7⟩:=Kd.R_slice HV.out
 subst e7
 refine hK.out _ _ ((blk_cell H2.out 0).trans rfl) (fun hHeld=>?_)
 clear hK K
 refine norm_ (a':=?_) ?_ ?_
 rotate_left
 ·show Act.put _ (some 7) _=_
  simp only [Act.put,yps,i64_w,i32_w]
  rfl
 refine one_ (i:=3) (N:=some 8) (yvb 6 15) rfl rfl (by kernel_rfl) (by decide) (fun K hK=>?_)
 refine value_ (w1:=w2.alloc (.cells #[.slice A7 g.length c7] 22)) (v:= .slice (some ⟨w2.heap.size,0,none⟩) 1 1) (by rfl) rfl ?_ ?_
 ·go_simp
  first|done|rfl|(constructor <;> rfl)
 refine hK.out _ _ ((blk_cell (blk_alloc H2.out _) 0).trans rfl) (fun hHeld=>?_)
 clear hK K
 refine norm_ (a':=?_) ?_ ?_
 rotate_left
 ·show Act.put _ (some 8) _=_
  simp only [Act.put,yps,i64_w,i32_w]
  rfl
 refine one_ (i:=4) (N:=some 9) (yvb 6 31) rfl rfl (by kernel_rfl) (by decide) (fun K hK=>?_)
 refine Kd.S_append_step (Kd.slice 3 (Kd.int .i64)) (w0:=w0) w0.heap.size (by rfl) (.tmp 5) (.tmp 8) 78 22 (.slice none 0 0) 24 rfl Try.underlying78 info22 rfl (by decide) (by omega) (.slice Av out.length cv) out g [.slice A7 g.length c7] (fun k=>¬ P k∧k≠p1∧k≠p2) (fun k=>some k=(Value.slice A7 g.length c7).ownBlock) rfl rfl (Kd.M_row HV.out) (fun k_ h_=>by
  have h1_:=HVB.out k_ h_
  have h2_:=hz1.out
  have h3_:=HLT.out
  exact ⟨⟨fun hp_=>by have:=HP.out k_ hp_;omega,by omega,by omega⟩,fun e_=>by have:=((Kd.S_R HS.out).1 k_ e_.symm).2.2.1;omega⟩) (fun k_ h_=>by
  have h1_:=HLT.out
  have h2_:=HW.out.size
  exact ⟨fun hp_=>by have:=HP.out k_ hp_;omega,by omega,by omega⟩) (Kd.S_mono HS.out (fun k_ h_=>⟨h_.1,fun e_=>by have:=HVB.out k_ e_;have:=h_.2.2.1;omega⟩)) (below_step HB.out HW.out) (Nat.le_trans HB.out.size HW.out.size) (by have:=HL.out;omega) ?_
 intro v9 w4 ho hb hg hat
 rw [← HOE.out] at ho
 have hown:∀ k,(Value.slice Av out.length cv).ownBlock=some k→(¬ P k∧k≠p1∧k≠p2):=fun k_ e_=>((Kd.S_R HS.out).1 k_ e_).1
 have n1_:=yam (blk_grown H1.out hg (fun e_=>(hown p2 e_.symm).2.2 rfl))
 have n2_:=yam (blk_grown H2.out hg (fun e_=>(hown p1 e_.symm).2.1 rfl))
 have n3_:=yam ho
 have n4_:=yam hb
 have n5_:=yam (show Agr P w w4 from ⟨Nat.le_trans HW.out.size hg.size,fun k_ hl_ hp_=>(hg.block k_ (Nat.lt_of_lt_of_le hl_ HW.out.size) (fun e_=>(hown k_ e_.symm).1 hp_)).trans (HW.out.block k_ hl_)⟩)
 clear ho hb hg hat hown H1 H2 HS HW HV HVB hz1
 have H1:=n1_
 have H2:=n2_
 have HS:=n3_
 have HB4:=n4_
 have HA:=n5_
 clear n1_ n2_ n3_ n4_ n5_
 obtain ⟨A9,c9,e9⟩:=Kd.S_slice HS.out
 subst e9
 refine hK.out _ _ ((blk_cell H2.out 0).trans rfl) (fun hHeld=>?_)
 clear hK K
 refine norm_ (a':=?_) ?_ ?_
 rotate_left
 ·show Act.put _ (some 9) _=_
  simp only [Act.put,yps,i64_w,i32_w]
  rfl
 have hzf:=blk_frozen H2.out 0
 have hz:=hHeld
 refine last_ (i:=5) (N:=none) (yvb 6 63) rfl rfl (by kernel_rfl) (by decide) (fun K hK=>?_)
 refine skip_ (w1:=w4.setCell ⟨p1,0,none⟩ (.slice A9 o.length c9)) (by rfl) rfl ?_ ?_
 ·go_simp
  first|done|rfl
 have n1_:=yam (far1 (rfl:w4.setCell ⟨p1,0,none⟩ (.slice A9 o.length c9)=_) H1.out (by have:=H4.out;omega))
 have n2_:Aside0 ((w4.setCell ⟨p1,0,none⟩ (.slice A9 o.length c9)).heap[p1]?=some (.cells #[.slice A9 o.length c9] 78 (0,0))):=⟨by simpa using blk_set H2.out 0 (.slice A9 o.length c9)⟩
 have n3_:=yam (Kd.S_far (p:=⟨p1,0,none⟩) HS.out (fun k_ h_=>h_.2.1) (.slice A9 o.length c9))
 have n4_:Aside0 (Below w0.heap.size w0 (w4.setCell ⟨p1,0,none⟩ (.slice A9 o.length c9))):=⟨below_set HB4.out H3.out⟩
 have n5_:Aside0 (Agr P w (w4.setCell ⟨p1,0,none⟩ (.slice A9 o.length c9))):=⟨⟨by have:=HA.out.1;simpa [World.setCell] using this,fun k_ hl_ hp_=>(Below.heap_setCell w4 ⟨p1,0,none⟩ _ k_ (fun e_=>N1.out (by simp only at e_;rw [← e_];exact hp_))).trans (HA.out.2 k_ hl_ hp_)⟩⟩
 refine hK.out _ _ ?_
 clear hK K hz hzf hHeld
 generalize w4.setCell ⟨p1,0,none⟩ (.slice A9 o.length c9)=w5 at n1_ n2_ n3_ n4_ n5_ ⊢
 have hcO:w5.cell? ⟨p1,0,none⟩=some (.slice A9 o.length c9):=(blk_cell n2_.out 0).trans rfl
 have hcM:w5.cell? ⟨p2,0,none⟩=some (.int .i64 most):=(blk_cell n1_.out 0).trans rfl
 refine done_ (by kernel_rfl) ?_
 go_wp2
 go_ret
 exact ⟨rfl,⟨n1_.out,⟨_,n2_.out,n3_.out⟩,N1.out,N2.out,H3.out,H4.out⟩,n5_.out,n4_.out⟩
theorem impl_firstSolutions.teller (w0:World)(p1 p2:Nat)(most:Int):Teller w0 86 p1 p2 (impl_firstSolutions.T most) (impl_firstSolutions.Inv w0 p1 p2 most) :=
 ⟨⟨_,Try.func86,by kernel_rfl,rfl⟩,impl_firstSolutions.keep,impl_firstSolutions.mono_,impl_firstSolutions.call⟩
def impl_firstSolutions.f (k:Nat)(a0_0:Int)(l0_1:List Int)(l0_2:List S73)(l1:List Int)(a2:Int):Option (List (List Int)):=impl_solutions.run (impl_firstSolutions.T a2) k a0_0 l0_1 l0_2 l1 []
theorem impl_firstSolutions.calls (k:Nat)(a0_0:Int)(A0_1:Option Addr)(c0_1:Nat)(l0_1:List Int)(A0_2:Option Addr)(c0_2:Nat)(l0_2:List S73)(A1:Option Addr)(c1:Nat)(l1:List Int)(a2:Int)(r:List (List Int))(w:World)(hr0_1:Kd.C (Kd.int .i64) w A0_1 l0_1.length l0_1)(hc0_1:l0_1.length≤c0_1)(hr0_2:Kd.C k73 w A0_2 l0_2.length l0_2)(hc0_2:l0_2.length≤c0_2)(hr1:Kd.C (Kd.int .i64) w A1 l1.length l1)(hc1:l1.length≤c1)(h:impl_firstSolutions.f k a0_0 l0_1 l0_2 l1 a2=some r) :
  Calls Try.prog 65 #[.agg #[.int .i64 a0_0,.slice A0_1 l0_1.length c0_1,.slice A0_2 l0_2.length c0_2],.slice A1 l1.length c1,.int .i64 a2] w fun e w'=>∃ v0_:Value,e= .returned (v0_)∧Kd.S (Kd.slice 3 (Kd.int .i64)) 22 w' w.heap.size (fun _=>True) v0_ r∧Below w.heap.size w w':=by
 have HS_:=yam (show impl_solutions.run (impl_firstSolutions.T a2) k a0_0 l0_1 l0_2 l1 []=some r from h)
 have HR1:=yam hr0_1
 have HC1:=yam hc0_1
 have HR2:=yam hr0_2
 have HC2:=yam hc0_2
 have HR3:=yam hr1
 have HC3:=yam hc1
 have hu:=Try.underlying37
 clear h hr0_1 hc0_1 hr0_2 hc0_2 hr1 hc1
 go_enter Try.func65,Try.ntmps65
 go_wp2_with (first
  | (refine ybe 3 #[.int .i64 a0_0,.slice A0_1 l0_1.length c0_1,.slice A0_2 l0_2.length c0_2] 37 ?_;intro gP hg w3 hbox hb;have BgP:=yam hbox;have HW:=yam hb;have HO:=yam (show w.heap.size≤gP∧gP < w3.heap.size from ⟨Nat.le_of_eq hg.symm,blk_lt hbox⟩);clear hg hbox hb)
  | (refine ybe 5 #[.int .i64 a2] 3 ?_;intro gM hg w5 hbox hb;have BgM:=yam hbox;replace BgP:=yam (blk_below BgP.out hb);replace HW:=yam (below_step HW.out hb);have HO_:=HO.out;clear HO;have HO:=yam (show w.heap.size≤gP∧gP < gM∧gM < w5.heap.size from ⟨HO_.1,by omega,blk_lt hbox⟩);clear HO_ hg hbox hb)
  | ((with_reducible refine gate_dst (N:=8) rfl ?_);refine Kd.S_lit (Kd.slice 3 (Kd.int .i64)) _ 22 ?hg (N:=8) ?hd (xs:=([]:List (List Int))) (inner:=[]) (ok:=fun k_=>k_=w5.heap.size) (okp:=fun _=>False) ?hr ?hp (fun _ hk=>hk.elim) rfl (Below.refl _ _) (Nat.le_refl _) (by simp) ?_;(case hd=>rfl);(case hg=>rfl);(case hr=>first|(go_simp;done)|(go_simp;rfl));(case hp=>exact (Reps.none _ _));intro v8 w8 ho hb hg_ hnew_;clear hg_;obtain ⟨b_,e_,l_⟩:=hnew_;have l2_:=Kd.S_lt ho b_ e_;have HS:=yam (Kd.S_lower ho HW.out.size);replace BgP:=yam (blk_below BgP.out hb);replace BgM:=yam (blk_below BgM.out hb);replace HW:=yam (below_step HW.out hb);have HO_:=HO.out;clear HO;have HO:=yam (show w.heap.size≤gP∧gP < gM∧gM < w5.heap.size∧w5.heap.size < w8.heap.size from ⟨HO_.1,HO_.2.1,HO_.2.2,by omega⟩);clear HO_ ho hb e_ l_ l2_;obtain ⟨A8,c8,e8⟩:=Kd.S_slice HS.out;subst e8)
  | (refine ybe 7 #[.slice none 0 0] 78 ?_;intro gO hg w9 hbox hb;have BgO:=yam hbox;replace BgP:=yam (blk_below BgP.out hb);replace BgM:=yam (blk_below BgM.out hb);replace HW:=yam (below_step HW.out hb);replace HS:=yam (Kd.S_below (Kd.S_bound HS.out) hb);have HO_:=HO.out;clear HO;have HO:=yam (show w.heap.size≤gP∧gP < gM∧gM < w5.heap.size∧w5.heap.size < w8.heap.size∧w8.heap.size≤gO∧gO < w9.heap.size from ⟨HO_.1,HO_.2.1,HO_.2.2.1,HO_.2.2.2,Nat.le_of_eq hg.symm,blk_lt hbox⟩);have hz:w9.cell? ⟨gO,0,none⟩=some (.slice none 0 0):=(blk_cell hbox 0).trans rfl;have hzf:=blk_frozen hbox 0;clear HO_ hg hbox hb)
  | ((with_reducible refine gate_store (t:=78) (p:=7) rfl ?_);refine store_event (t:=78) (p:=7) (v:=?vo1) (w1:=w9.setCell ⟨gO,0,none⟩ (.slice A8 ([]:List (List Int)).length c8)) ?hg ?ho ?hn ?hr ?_;(case ho=>rfl);(case hg=>rfl);(case hn=>rfl);(case hr=>first|(go_simp;done)|(go_simp;rfl));intro w10 hw;replace BgP:=yam (far1 hw BgP.out (by have:=HO.out;omega));replace BgM:=yam (far1 hw BgM.out (by have:=HO.out;omega));replace BgO:Aside0 (w10.heap[gO]?=some (.cells #[.slice A8 ([]:List (List Int)).length c8] 78 (0,0))):=⟨by rw [hw];simpa using blk_set BgO.out 0 (.slice A8 ([]:List (List Int)).length c8)⟩;replace HW:Aside0 (Below w.heap.size w w10):=⟨by rw [hw];exact below_set HW.out (by have:=HO.out;omega)⟩;replace HS:Aside0 (Kd.S (Kd.slice 3 (Kd.int .i64)) 22 w10 w.heap.size (fun k_=>k_=w5.heap.size) (.slice A8 ([]:List (List Int)).length c8) []):=⟨by rw [hw];exact Kd.S_mono (Kd.S_far (p:=⟨gO,0,none⟩) HS.out (fun k_ h_ e_=>by have:=h_.2.2.1;have:=HO.out;simp only at e_;omega) _) (fun _ h_=>h_.1)⟩;have HO2:=yam (show w5.heap.size < gO from by have h1_:=HO.out;omega);replace HO:Aside0 (w.heap.size≤gP∧gP < gM∧gM < w5.heap.size∧w5.heap.size≤gO∧gO < w10.heap.size):=⟨by have:=HO.out;rw [hw];simp only [World.setCell];(try simp);omega⟩;clear hz hzf hw;have hp0:w10.cell? ⟨gP,0,none⟩=some (.int .i64 a0_0):=(blk_cell BgP.out 0).trans rfl;have hp1:w10.cell? ⟨gP,1,none⟩=some (.slice A0_1 l0_1.length c0_1):=(blk_cell BgP.out 1).trans rfl;have hp2:w10.cell? ⟨gP,2,none⟩=some (.slice A0_2 l0_2.length c0_2):=(blk_cell BgP.out 2).trans rfl)
  | (refine goesL_ (some 12) rfl rfl Try.func45 (by kernel_rfl) rfl #[.agg #[.int .i64 a0_0,.slice A0_1 l0_1.length c0_1,.slice A0_2 l0_2.length c0_2],.slice A1 l1.length c1,.func (.func 86) #[] #[.pointer (some ⟨gO,0,none⟩),.pointer (some ⟨gM,0,none⟩)]] rfl yma ?_;(refine (impl_solutions.gen (impl_firstSolutions.teller w gO gM a2) k a0_0 A0_1 c0_1 l0_1 A0_2 c0_2 l0_2 A1 c1 l1 (fun k_=>k_ < w10.heap.size∧k_≠gO∧k_≠gM∧k_≠w5.heap.size) [] r w10 HW.out (fun _ h_=>h_.1) ⟨BgM.out,⟨_,BgO.out,Kd.S_mono HS.out (fun k_ h_=>⟨fun hp_=>hp_.2.2.2 h_,by have:=HO2.out;omega,by have:=HO.out;omega⟩)⟩,fun h_=>h_.2.1 rfl,fun h_=>h_.2.2.1 rfl,by have:=HO.out;omega,by have:=HO.out;omega⟩ (fun W_ h_=>(Kd.heap_int .i64).C (fun k_ hl_=>(h_.2 k_ (Nat.lt_of_lt_of_le hl_ HW.out.size) ⟨Nat.lt_of_lt_of_le hl_ HW.out.size,by have:=HO.out;omega,by have:=HO.out;omega,by have:=HO.out;omega⟩).trans (HW.out.block k_ hl_)) HR1.out) HC1.out (fun W_ h_=>(Kd.heap_iso _ (Kd.heap_pair (Kd.heap_int _) (Kd.heap_pair (Kd.heap_slice _ (Kd.heap_int _)) (Kd.heap_int _)))).C (fun k_ hl_=>(h_.2 k_ (Nat.lt_of_lt_of_le hl_ HW.out.size) ⟨Nat.lt_of_lt_of_le hl_ HW.out.size,by have:=HO.out;omega,by have:=HO.out;omega,by have:=HO.out;omega⟩).trans (HW.out.block k_ hl_)) HR2.out) HC2.out (Kd.C_below HR3.out HW.out) HC3.out HS_.out).mono ?_);rintro e w12 ⟨rfl,⟨hM_,⟨v_,hO_,hS_⟩,hn_⟩,hA,hB⟩;refine ⟨_,rfl,?_⟩;have HSS:=yam hS_;have HBB:=yam hB;obtain ⟨Ar,cr,er⟩:=Kd.S_slice HSS.out;subst er;have hcO:w12.cell? ⟨gO,0,none⟩=some (.slice Ar r.length cr):=(blk_cell hO_ 0).trans rfl;clear hM_ hO_ hS_ hn_ hA hB hp0 hp1 hp2))
 go_ret
 exact ⟨_,rfl,Kd.S_mono HSS.out (fun _ _=>trivial),HBB.out⟩
end Go.Proofs.Ytmjbnghhfadapaa.P
