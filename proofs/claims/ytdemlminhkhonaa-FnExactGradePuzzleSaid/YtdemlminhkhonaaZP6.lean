/- The machine's side: each Go function as a plain Lean function and the proof that the machine's call does what that function says; written by this session's own program over the kit's print. -/
import Derived.Test.YtdemlminhkhonaaZP1
import Derived.Test.YtdemlminhkhonaaZP4
import Derived.Test.YtdemlminhkhonaaZP5
namespace Go.Proofs.Ytdemlminhkhonaa.P
set_option maxHeartbeats 8000000
set_option maxRecDepth 100000
open Go.RowKit Go.Proofs.YtdemlminhkhonaaW.PrintWords Go.Proofs.YtdemlminhkhonaaW.PrintLast Go.Proofs.YtdemlminhkhonaaW.PrintMore
attribute [local go_sem] max2_int min2_int max_two min_two max_three min_three max_four min_four   -- for this text's walks alone
set_option linter.unusedVariables false
set_option linter.unusedSimpArgs false
def impl_ruleMasks.orFrom (vals:List Int):Nat→Int→List Int→List Int
 | 0,_,out=>out
 | d + 1,i,out=>impl_ruleMasks.orFrom vals d (i + 1) (out.set i.toNat (Go.bits .or .i64 (rd out i) (shl .i64 1 (rd vals i))))
def impl_ruleMasks.tryV (f:List Int→List Int→Option (List Int × List Int))(m:Int)(i:Nat):Nat→Int→List Int→List Int→Option (List Int × List Int)
 | 0,_,vals,out=>some (vals,out)
 | n + 1,v,vals,out=>if Go.bits .and .i64 (shr .i64 m v) 1=1 then (f (vals.set i v) out).bind fun t=>impl_ruleMasks.tryV f m i n (v + 1) t.1 t.2 else impl_ruleMasks.tryV f m i n (v + 1) vals out
def impl_ruleMasks.try_ (k:Nat)(a0_0:Int)(l0_1:List Int)(a0_2:Int)(own:List Int):Nat→List Int→List Int→Option (List Int × List Int)
 | 0,vals,out=>(impl_valuesHold.f k a0_0 l0_1 a0_2 vals).bind fun b=>if b=true then (if ∀ x∈vals,0≤x then some (vals,impl_ruleMasks.orFrom vals own.length 0 out) else none) else some (vals,out)
 | d + 1,vals,out=>impl_ruleMasks.tryV (impl_ruleMasks.try_ k a0_0 l0_1 a0_2 own d) (rd own ((own.length:Int) - (d + 1:Nat))) ((own.length:Int) - (d + 1:Nat)).toNat 4 1 vals out
def impl_ruleMasks.Boxes (W:World)(gown gr gval gout gtry gv go cv cu:Nat)(Ao:Option Addr)(co n:Nat)(a0_0:Int)(Ac:Option Addr)(cc nc:Nat)(a0_2:Int):Prop :=
 W.heap[gown]?=some (.cells #[.slice Ao n co] 22 (0,0))∧W.heap[gr]?=some (.cells #[.int .i64 a0_0,.slice Ac nc cc,.int .i64 a0_2] 67 (0,0))∧W.heap[gval]?=some (.cells #[.slice (some ⟨gv,0,none⟩) n cv] 22 (0,0))∧W.heap[gout]?=some (.cells #[.slice (some ⟨go,0,none⟩) n cu] 22 (0,0))∧W.heap[gtry]?=some (.cells #[.func (.func 98) #[] #[.pointer (some ⟨gown,0,none⟩),.pointer (some ⟨gr,0,none⟩),.pointer (some ⟨gval,0,none⟩),.pointer (some ⟨gout,0,none⟩),.pointer (some ⟨gtry,0,none⟩)]] 91 (0,0))
theorem impl_ruleMasks.Boxes.below {W W1:World}{gown gr gval gout gtry gv go cv cu:Nat}{Ao:Option Addr}{co n:Nat}{a0_0:Int}{Ac:Option Addr}{cc nc:Nat}{a0_2:Int}(h:impl_ruleMasks.Boxes W gown gr gval gout gtry gv go cv cu Ao co n a0_0 Ac cc nc a0_2)(hb:Below W.heap.size W W1):impl_ruleMasks.Boxes W1 gown gr gval gout gtry gv go cv cu Ao co n a0_0 Ac cc nc a0_2 :=
 ⟨blk_below h.1 hb,blk_below h.2.1 hb,blk_below h.2.2.1 hb,blk_below h.2.2.2.1 hb,blk_below h.2.2.2.2 hb⟩
theorem impl_ruleMasks.Boxes.drewN {W:World}{gown gr gval gout gtry gv go cv cu:Nat}{Ao:Option Addr}{co n:Nat}{a0_0:Int}{Ac:Option Addr}{cc nc:Nat}{a0_2:Int}(h:impl_ruleMasks.Boxes W gown gr gval gout gtry gv go cv cu Ao co n a0_0 Ac cc nc a0_2)(m:Nat):impl_ruleMasks.Boxes (W.drewN m) gown gr gval gout gtry gv go cv cu Ao co n a0_0 Ac cc nc a0_2:=h
theorem impl_ruleMasks.Boxes.grown {W W1:World}{gown gr gval gout gtry gv go cv cu:Nat}{Ao:Option Addr}{co n:Nat}{a0_0:Int}{Ac:Option Addr}{cc nc:Nat}{a0_2:Int}(h:impl_ruleMasks.Boxes W gown gr gval gout gtry gv go cv cu Ao co n a0_0 Ac cc nc a0_2){α:Type}{d:Kd α}{base:Nat}{ok:Nat→Prop}{v:Value}{xs:List α}(ho:d.R 3 W base ok v xs)(hg:W.grownBy W1 v.ownBlock):impl_ruleMasks.Boxes W1 gown gr gval gout gtry gv go cv cu Ao co n a0_0 Ac cc nc a0_2 :=
 ⟨blk_grown h.1 hg (Kd.R_ne ho h.1 (by decide)),blk_grown h.2.1 hg (Kd.R_ne ho h.2.1 (by decide)),blk_grown h.2.2.1 hg (Kd.R_ne ho h.2.2.1 (by decide)),blk_grown h.2.2.2.1 hg (Kd.R_ne ho h.2.2.2.1 (by decide)),blk_grown h.2.2.2.2 hg (Kd.R_ne ho h.2.2.2.2 (by decide))⟩
theorem impl_ruleMasks.R_other {W W1:World}{base:Nat}{g g2:Nat}{n c n2 c2:Nat}{xs:List Int}(h:Kd.R (Kd.int .i64) 3 W base (fun k=>k=g) (.slice (some ⟨g,0,none⟩) n c) xs)(hne:g≠g2)(hg:W.grownBy W1 (some g2)):Kd.R (Kd.int .i64) 3 W1 base (fun k=>k=g) (.slice (some ⟨g,0,none⟩) n c) xs :=
 Kd.R_mono (Kd.R_after (v:= .slice (some ⟨g2,0,none⟩) n2 c2) (v1:= .slice (some ⟨g2,0,none⟩) n2 c2) (ok:=fun k=>k=g) (Kd.R_mono h (fun k hk=>⟨hk,by subst hk;simpa [Value.ownBlock] using hne⟩)) hg (.inl rfl)) (fun k hk=>hk.1)
theorem impl_ruleMasks.clo (k:Nat)(a0_0:Int)(Ac:Option Addr)(cc:Nat)(l0_1:List Int)(a0_2:Int)(Ao:Option Addr)(co:Nat)(own:List Int)(gown gr gval gout gtry gv go cv cu:Nat)(w0:World)(hne:gv≠go)(hbv:w0.heap.size≤gv)(hbo:w0.heap.size≤go)(hrC:Kd.C (Kd.int .i64) w0 Ac l0_1.length l0_1)(hcC:l0_1.length≤cc)(hrO:Kd.C (Kd.int .i64) w0 Ao own.length own) :
  ∀ (d:Nat) (a:Int) (vals out vals' out':List Int) (w:World) (_:(own.length:Int) - d=a) (_:d≤own.length) (_:own.length≤100000) (_:vals.length=own.length) (_:out.length=own.length) (_:Kd.R (Kd.int .i64) 3 w w0.heap.size (fun k=>k=gv) (.slice (some ⟨gv,0,none⟩) own.length cv) vals) (_:Kd.R (Kd.int .i64) 3 w w0.heap.size (fun k=>k=go) (.slice (some ⟨go,0,none⟩) own.length cu) out) (_:impl_ruleMasks.Boxes w gown gr gval gout gtry gv go cv cu Ao co own.length a0_0 Ac cc l0_1.length a0_2) (_:Below w0.heap.size w0 w) (_:impl_ruleMasks.try_ k a0_0 l0_1 a0_2 own d vals out=some (vals',out')),
  Calls Try.prog 98 #[.int .i64 a,.pointer (some ⟨gown,0,none⟩),.pointer (some ⟨gr,0,none⟩),.pointer (some ⟨gval,0,none⟩),.pointer (some ⟨gout,0,none⟩),.pointer (some ⟨gtry,0,none⟩)] w fun e w'=>e= .returned (.tuple #[])∧vals'.length=own.length∧out'.length=own.length∧Kd.R (Kd.int .i64) 3 w' w0.heap.size (fun k=>k=gv) (.slice (some ⟨gv,0,none⟩) own.length cv) vals'∧Kd.R (Kd.int .i64) 3 w' w0.heap.size (fun k=>k=go) (.slice (some ⟨go,0,none⟩) own.length cu) out'∧impl_ruleMasks.Boxes w' gown gr gval gout gtry gv go cv cu Ao co own.length a0_0 Ac cc l0_1.length a0_2∧Below w0.heap.size w0 w':=by
 intro d
 have HRC:=yam hrC
 have HCC:=yam hcC
 have HRO:=yam hrO
 clear hrC hcC hrO
 induction d with
 | zero =>
  intro a vals out vals' out' w ha hd hn hlv hlo hV hO hX hB h
  have ha0:a=(own.length:Int):=by omega
  have hae:(a == (own.length:Int))=true:=beq_iff_eq.mpr ha0
  clear ha ha0 hd
  have HN:=yam hn
  have HLV:=yam hlv
  have HLO:=yam hlo
  have HV:=yam hV
  have HO:=yam hO
  have HX:=yam hX
  have HB:=yam hB
  clear hn hlv hlo hV hO hB
  unfold impl_ruleMasks.try_ at h
  obtain ⟨b,hb,h⟩:=Option.bind_eq_some_iff.1 h
  have HVH:=yam hb
  have H:=yam h
  clear hb h
  have hcO:w.cell? ⟨gown,0,none⟩=some (.slice Ao own.length co):=(blk_cell hX.1 0).trans rfl
  have hcR0:w.cell? ⟨gr,0,none⟩=some (.int .i64 a0_0):=(blk_cell hX.2.1 0).trans rfl
  have hcR1:w.cell? ⟨gr,1,none⟩=some (.slice Ac l0_1.length cc):=(blk_cell hX.2.1 1).trans rfl
  have hcR2:w.cell? ⟨gr,2,none⟩=some (.int .i64 a0_2):=(blk_cell hX.2.1 2).trans rfl
  have hcV:w.cell? ⟨gval,0,none⟩=some (.slice (some ⟨gv,0,none⟩) own.length cv):=(blk_cell hX.2.2.1 0).trans rfl
  clear hX
  cases b with
  | false =>
   have H2:=H.out
   simp only [Bool.false_eq_true,if_false,Option.some.injEq,Prod.mk.injEq] at H2
   obtain ⟨rfl,rfl⟩:=H2
   clear H
   go_enter Try.func98,Try.ntmps98
   go_wp2_with (first|(refine goesL_ (some 16) rfl rfl Try.func99 (by kernel_rfl) rfl #[.agg #[.int .i64 a0_0,.slice Ac l0_1.length cc,.int .i64 a0_2],.slice (some ⟨gv,0,none⟩) vals.length cv] rfl (by (try simp only [List.map_toArray,List.map_cons,List.map_nil]);rw [HLV.out];rfl) ?_;(with_reducible refine (impl_valuesHold.calls k a0_0 _ _ l0_1 a0_2 _ _ vals false _ (Kd.C_below HRC.out HB.out) HCC.out (Kd.R_reads' HV.out).2.2 (by rw [HLV.out];exact (Kd.R_reads' HV.out).2.1) HVH.out).mono ?_);rintro e w' ⟨rfl,hb⟩;refine ⟨_,rfl,?_⟩;replace HV:=yam (Kd.R_below HV.out hb);replace HO:=yam (Kd.R_below HO.out hb);replace HX:=yam (impl_ruleMasks.Boxes.below HX.out hb);replace HB:=yam (below_step HB.out hb);clear hb hcO hcR0 hcR1 hcR2 hcV))
   first|go_end0|((try simp only [Exit.inBlock,Exit.then]);refine bodyPost_ret (results_none rfl _ _ _) rfl ?_)
   exact ⟨rfl,HLV.out,HLO.out,HV.out,HO.out,HX.out,HB.out⟩
  | true =>
   have H2:=H.out
   simp only [if_true] at H2
   by_cases hpos:∀ x∈vals,0≤x
   ·rw [if_pos hpos] at H2
    simp only [Option.some.injEq,Prod.mk.injEq] at H2
    obtain ⟨rfl,rfl⟩:=H2
    clear H
    have HP:=yam hpos
    clear hpos
    go_enter Try.func98,Try.ntmps98
    go_wp2_with (first|(refine goesL_ (some 16) rfl rfl Try.func99 (by kernel_rfl) rfl #[.agg #[.int .i64 a0_0,.slice Ac l0_1.length cc,.int .i64 a0_2],.slice (some ⟨gv,0,none⟩) vals.length cv] rfl (by (try simp only [List.map_toArray,List.map_cons,List.map_nil]);rw [HLV.out];rfl) ?_;(with_reducible refine (impl_valuesHold.calls k a0_0 _ _ l0_1 a0_2 _ _ vals true _ (Kd.C_below HRC.out HB.out) HCC.out (Kd.R_reads' HV.out).2.2 (by rw [HLV.out];exact (Kd.R_reads' HV.out).2.1) HVH.out).mono ?_);rintro e w' ⟨rfl,hb⟩;refine ⟨_,rfl,?_⟩;replace HV:=yam (Kd.R_below HV.out hb);replace HO:=yam (Kd.R_below HO.out hb);replace HX:=yam (impl_ruleMasks.Boxes.below HX.out hb);replace HB:=yam (below_step HB.out hb);clear hb hcO hcR0 hcR1 hcR2 hcV;have hcV:=(blk_cell HX.out.2.2.1 0).trans (rfl:_=some (Value.slice (some ⟨gv,0,none⟩) own.length cv))))
    go_loopg [19] own.length (fun kq v19 w'=>∃ (x:Int) (o:List Int),v19= .int .i64 x∧Aside0 (0≤x∧x + (kq:Int)=(own.length:Int))∧Aside0 (impl_ruleMasks.orFrom vals own.length 0 out=impl_ruleMasks.orFrom vals kq x o)∧Aside0 (o.length=own.length)∧Aside0 (Kd.R (Kd.int .i64) 3 w' w0.heap.size (fun k=>k=gv) (.slice (some ⟨gv,0,none⟩) own.length cv) vals)∧Aside0 (Kd.R (Kd.int .i64) 3 w' w0.heap.size (fun k=>k=go) (.slice (some ⟨go,0,none⟩) own.length cu) o)∧Aside0 (impl_ruleMasks.Boxes w' gown gr gval gout gtry gv go cv cu Ao co own.length a0_0 Ac cc l0_1.length a0_2)∧Aside0 (Below w0.heap.size w0 w'))
    case atStart=>exact ⟨0,out,rfl,⟨by omega⟩,⟨rfl⟩,HLO,HV,HO,HX,HB⟩
    case round =>
     clear hcV HV HO HX HB HLO
     obtain ⟨x,o,rfl,HK,HE,HLO,HV,HO,HX,HB⟩:=hrel
     cases gk with
     | zero =>
      have h1b:decide ((x:Int) < (own.length:Int))=false:=decide_eq_false (by have:=HK.out;omega)
      go_wp2
      first|go_end0|((try simp only [Exit.inBlock,Exit.then]);refine bodyPost_ret (results_none rfl _ _ _) rfl ?_)
      have HE2:=HE.out
      unfold impl_ruleMasks.orFrom at HE2
      exact ⟨rfl,HLV.out,by rw [HE.out];exact HLO.out,HV.out,by rw [HE.out];exact HO.out,HX.out,HB.out⟩
     | succ k1 =>
      have h0:0≤x:=HK.out.1
      have h1:x < (own.length:Int):=by have:=HK.out.2;omega
      have h1b:decide ((x:Int) < (own.length:Int))=true:=decide_eq_true h1
      have hcU:=(blk_cell HX.out.2.2.2.1 0).trans (rfl:_=some (Value.slice (some ⟨go,0,none⟩) own.length cu))
      obtain ⟨hxV0,hfV⟩:=Kd.R_celln 0 HV.out x h0 h1
      obtain ⟨hxO0,hfO⟩:=Kd.R_celln 0 HO.out x h0 h1
      have hxV:=hxV0.trans (rfl:_=some (Value.int .i64 (rd vals x)))
      have hxO:=hxO0.trans (rfl:_=some (Value.int .i64 (rd o x)))
      clear hxV0 hxO0
      have hpv:0≤rd vals x:=HP.out _ (by
       have hl:=HLV.out
       obtain ⟨n,rfl⟩:=Int.eq_ofNat_of_zero_le h0
       have hn:n < vals.length:=by omega
       have e:rd vals (n:Int)=vals[n]:=by simp [rd,hn]
       rw [e];exact List.getElem_mem hn)
      have hpvb:decide (0≤rd vals x)=true:=decide_eq_true hpv
      have HES:impl_ruleMasks.orFrom vals (k1 + 1) x o=impl_ruleMasks.orFrom vals k1 (x + 1) (o.set x.toNat (Go.bits .or .i64 (rd o x) (shl .i64 1 (rd vals x)))):=rfl
      obtain ⟨ji,hji⟩:∃ j_:Int,(shl .i64 1 (rd vals x))=j_:=⟨_,rfl⟩
      rw [hji] at HES
      have hji_:(IntKind.i64.wrap (1 * 2 ^ min (rd vals x).toNat 64))=ji:=hji
      have hjiu:(IntKind.i64.wrap (2 ^ min (rd vals x).toNat 64))=ji:=by have h_:=hji_;rw [Int.one_mul] at h_;exact h_
      have hjiy:(wrap64 (1 * 2 ^ min (rd vals x).toNat 64))=ji:=(i64_w _).symm.trans hji_
      have hjiw:(wrap64 (2 ^ min (rd vals x).toNat 64))=ji:=(i64_w _).symm.trans hjiu
      have HES2:=yam HES
      clear HES hji
      have HPO:=yam (Kd.R_putg HO.out x (Go.bits .or .i64 (rd o x) ji))
      have hnw:wrap64 (x + 1)=x + 1:=by have:=HN.out;unfold wrap64;omega
      have hnw2:IntKind.i64.wrap (x + 1)=x + 1:=by rw [i64_w];exact hnw
      have p0:=eq_true h0
      have p1:=eq_true h1
      have p2:=eq_true hpv
      clear h0 h1 hpv
      go_wp2
      refine start_ (n:=9) (S:=fun w'=>w'.cell? ⟨gout,0,none⟩=some (.slice (some ⟨go,0,none⟩) own.length cu)∧w'.cell? ⟨go,(x:Int).toNat,none⟩=some (.int .i64 (rd o x))) (ds:=[8]) (yvb 9 0) (by kernel_rfl) rfl rfl ⟨hcU,hxO⟩ (fun hHeld=>?_)
      refine pure_ (i:=1) (N:=some 25) (v:=?_) (a':=?_) (yvb 9 2) rfl rfl (by kernel_rfl) (fun _ _ _ h=>h) (Or.inl ⟨by rfl,?_⟩) ?_ ?_
      rotate_left
      ·intro w'
       go_simp
       with_reducible rfl
      rotate_left
      ·simp only [Act.put,List.setIfInBounds_toArray,List.set_cons_zero,List.set_cons_succ,i64_w,i32_w]
       rfl
      refine pure_ (i:=4) (N:=some 28) (v:=?_) (a':=?_) (yvb 9 18) rfl rfl (by kernel_rfl) (fun _ _ _ h=>h) (Or.inl ⟨by rfl,?_⟩) ?_ ?_
      rotate_left
      ·intro w'
       go_simp
       with_reducible rfl
      rotate_left
      ·simp only [Act.put,List.setIfInBounds_toArray,List.set_cons_zero,List.set_cons_succ,i64_w,i32_w]
       rfl
      refine pure_ (i:=5) (N:=some 29) (v:=?_) (a':=?_) (yvb 9 50) rfl rfl (by kernel_rfl) (fun _ _ _ h=>h) (Or.inl ⟨by rfl,?_⟩) ?_ ?_
      rotate_left
      ·intro w'
       go_simp
       with_reducible rfl
      rotate_left
      ·simp only [Act.put,List.setIfInBounds_toArray,List.set_cons_zero,List.set_cons_succ,i64_w,i32_w]
       rfl
      refine take_ (i:=0) (N:=some 24) (v:=?_) (a':=?_) (yvb 9 51) rfl rfl (by kernel_rfl) (fun _ _ _ h=>h) (Or.inl ⟨by rfl,?_⟩) hHeld ?_ ?_
      rotate_left
      ·rintro w' ⟨s0,s1⟩
       go_simp
       with_reducible rfl
      rotate_left
      ·simp only [Act.put,List.setIfInBounds_toArray,List.set_cons_zero,List.set_cons_succ,i64_w,i32_w]
       rfl
      refine pure_ (i:=2) (N:=some 26) (v:=?_) (a':=?_) (yvb 9 55) rfl rfl (by kernel_rfl) (fun _ _ _ h=>h) (Or.inl ⟨by rfl,?_⟩) ?_ ?_
      rotate_left
      ·intro w'
       go_simp
       with_reducible rfl
      rotate_left
      ·simp only [Act.put,List.setIfInBounds_toArray,List.set_cons_zero,List.set_cons_succ,i64_w,i32_w]
       rfl
      refine take_ (i:=3) (N:=some 27) (v:=?_) (a':=?_) (yvb 9 63) rfl rfl (by kernel_rfl) (fun _ _ _ h=>h) (Or.inl ⟨by rfl,?_⟩) hHeld ?_ ?_
      rotate_left
      ·rintro w' ⟨s0,s1⟩
       go_simp
       with_reducible rfl
      rotate_left
      ·simp only [Act.put,List.setIfInBounds_toArray,List.set_cons_zero,List.set_cons_succ,i64_w,i32_w]
       rfl
      refine pure_ (i:=6) (N:=some 30) (v:=?_) (a':=?_) (yvb 9 127) rfl rfl (by kernel_rfl) (fun _ _ _ h=>h) (Or.inl ⟨by rfl,?_⟩) ?_ ?_
      rotate_left
      ·intro w'
       go_simp
       with_reducible rfl
      rotate_left
      ·simp only [Act.put,List.setIfInBounds_toArray,List.set_cons_zero,List.set_cons_succ,i64_w,i32_w]
       rfl
      refine pure_ (i:=7) (N:=some 31) (v:=?_) (a':=?_) (yvb 9 255) rfl rfl (by kernel_rfl) (fun _ _ _ h=>h) (Or.inl ⟨by rfl,?_⟩) ?_ ?_
      rotate_left
      ·intro w'
       go_simp
       with_reducible rfl
      rotate_left
      ·simp only [Act.put,List.setIfInBounds_toArray,List.set_cons_zero,List.set_cons_succ,i64_w,i32_w]
       rfl
      refine last_ (i:=8) (N:=none) (yvb 9 511) rfl rfl (by kernel_rfl) (by decide) (fun K hK=>?_)
      refine skip_ (w1:=?_) (by rfl) rfl ?_ ?_
      rotate_left
      ·go_simp
       rfl
      refine hK.out _ _ ?_
      clear hK K
      refine done_ (by kernel_rfl) ?_
      go_wp2
      go_roundg k1
      case measure=>omega
      case rel=>exact ⟨x + 1,o.set x.toNat (Go.bits .or .i64 (rd o x) ji),by first|rfl|(rw [hnw])|(rw [hnw2]),⟨by have:=HK.out;omega⟩,⟨by rw [HE.out];exact HES2.out⟩,⟨by rw [List.length_set];exact HLO.out⟩,⟨Kd.R_drew (impl_ruleMasks.R_other (n2:=own.length) (c2:=own.length) HV.out hne HPO.out.2)⟩,⟨Kd.R_drew HPO.out.1⟩,⟨(impl_ruleMasks.Boxes.grown HX.out HO.out HPO.out.2).drewN 1⟩,⟨below_drew1 (below_set HB.out hbo)⟩⟩
   ·rw [if_neg hpos] at H2
    exact absurd H2 (by simp)
 | succ d ih =>
  intro a vals out vals' out' w ha hd hn hlv hlo hV hO hX hB h
  have ha1:¬ a=(own.length:Int):=by omega
  have hae:(a == (own.length:Int))=false:=beq_eq_false_iff_ne.mpr ha1
  have HA:=yam (show (own.length:Int) - (d + 1:Nat)=a∧0≤a∧a < (own.length:Int) from ⟨ha,by omega,by omega⟩)
  have HD:=yam (show d≤own.length by omega)
  have HN:=yam hn
  have HLV:=yam hlv
  have HLO:=yam hlo
  have HV:=yam hV
  have HO:=yam hO
  have HX:=yam hX
  have HB:=yam hB
  unfold impl_ruleMasks.try_ at h
  rw [ha] at h
  have H:=yam h
  have hcO:w.cell? ⟨gown,0,none⟩=some (.slice Ao own.length co):=(blk_cell hX.1 0).trans rfl
  clear ha ha1 hd hn hlv hlo hV hO hX hB h
  have IH:=yam ih
  clear ih
  go_enter Try.func98,Try.ntmps98
  go_wp2
  go_loopg [9] 4 (fun kq v9 w'=>∃ (x:Int) (vs o:List Int),v9= .int .i64 x∧Aside0 (1≤x∧x + (kq:Int)=5)∧Aside0 (impl_ruleMasks.tryV (impl_ruleMasks.try_ k a0_0 l0_1 a0_2 own d) (rd own a) a.toNat kq x vs o=some (vals',out'))∧Aside0 (vs.length=own.length)∧Aside0 (o.length=own.length)∧Aside0 (Kd.R (Kd.int .i64) 3 w' w0.heap.size (fun k=>k=gv) (.slice (some ⟨gv,0,none⟩) own.length cv) vs)∧Aside0 (Kd.R (Kd.int .i64) 3 w' w0.heap.size (fun k=>k=go) (.slice (some ⟨go,0,none⟩) own.length cu) o)∧Aside0 (impl_ruleMasks.Boxes w' gown gr gval gout gtry gv go cv cu Ao co own.length a0_0 Ac cc l0_1.length a0_2)∧Aside0 (Below w0.heap.size w0 w'))
  case atStart=>exact ⟨1,vals,out,rfl,⟨by omega⟩,H,HLV,HLO,HV,HO,HX,HB⟩
  case round =>
   clear hcO HV HO HX HB HLO HLV H
   obtain ⟨x,vs,o,rfl,HK,HE,HLV,HLO,HV,HO,HX,HB⟩:=hrel
   cases gk with
   | zero =>
    have h1b:decide ((x:Int)≤4)=false:=decide_eq_false (by have:=HK.out;omega)
    have HE2:=HE.out
    unfold impl_ruleMasks.tryV at HE2
    simp only [Option.some.injEq,Prod.mk.injEq] at HE2
    obtain ⟨rfl,rfl⟩:=HE2
    go_wp2
    first|go_end0|((try simp only [Exit.inBlock,Exit.then]);refine bodyPost_ret (results_none rfl _ _ _) rfl ?_)
    exact ⟨rfl,HLV.out,HLO.out,HV.out,HO.out,HX.out,HB.out⟩
   | succ k1 =>
    have h1b:decide ((x:Int)≤4)=true:=decide_eq_true (by have:=HK.out;omega)
    have h0:0≤a:=HA.out.2.1
    have h1:a < (own.length:Int):=HA.out.2.2
    have hx0:0≤x:=by have:=HK.out;omega
    have hcO:=(blk_cell HX.out.1 0).trans (rfl:_=some (Value.slice Ao own.length co))
    obtain ⟨ad,eA,hxA⟩:=Kd.at_int (Kd.C_below HRO.out HB.out) a h0 h1
    have hnw:wrap64 (x + 1)=x + 1:=by have:=HK.out;unfold wrap64;omega
    have hnw2:IntKind.i64.wrap (x + 1)=x + 1:=by rw [i64_w];exact hnw
    have p0:=eq_true h0
    have p1:=eq_true h1
    have p2:=eq_true hx0
    have p2b:decide (0≤x)=true:=decide_eq_true hx0
    have HE2:=HE.out
    rw [impl_ruleMasks.tryV] at HE2
    obtain ⟨ji,hji⟩:∃ j_:Int,(shr .i64 (rd own a) x)=j_:=⟨_,rfl⟩
    rw [hji] at HE2
    have hji_:((rd own a) / 2 ^ min x.toNat 64)=ji:=hji
    clear hji
    by_cases hbit:Go.bits .and .i64 ji 1=1
    ·rw [if_pos hbit] at HE2
     obtain ⟨⟨t1,t2⟩,hT,HE3⟩:=Option.bind_eq_some_iff.1 HE2
     have hbb:(Go.bits .and .i64 ji 1 == 1)=true:=beq_iff_eq.mpr hbit
     have HT:=yam hT
     have HE4:=yam HE3
     have hcV:=(blk_cell HX.out.2.2.1 0).trans (rfl:_=some (Value.slice (some ⟨gv,0,none⟩) own.length cv))
     obtain ⟨hxV,hfV⟩:=Kd.R_celln 0 HV.out a h0 h1
     have HPV:=yam (Kd.R_putg HV.out a x)
     have HX2:=yam (impl_ruleMasks.Boxes.grown HX.out HV.out HPV.out.2)
     have HO2:=yam (impl_ruleMasks.R_other (n2:=own.length) (c2:=own.length) HO.out (fun e=>hne e.symm) HPV.out.2)
     have HB2:=yam (below_set (j:=a.toNat) (v:= .int .i64 x) HB.out hbv)
     have hcT:=(blk_cell HX2.out.2.2.2.2 0).trans (rfl:_=some (Value.func (.func 98) #[] #[.pointer (some ⟨gown,0,none⟩),.pointer (some ⟨gr,0,none⟩),.pointer (some ⟨gval,0,none⟩),.pointer (some ⟨gout,0,none⟩),.pointer (some ⟨gtry,0,none⟩)]))
     have haw:wrap64 (a + 1)=a + 1:=by have:=HN.out;unfold wrap64;omega
     have haw2:IntKind.i64.wrap (a + 1)=a + 1:=by rw [i64_w];exact haw
     clear h0 h1 hx0 HE2 HE3 hT hbit HE
     cases eA
     go_wp2_with (first|(go_at_call 98;(refine (IH.out (a + 1) (vs.set a.toNat x) o t1 t2 _ (by have:=HA.out.1;omega) HD.out HN.out (by rw [List.length_set];exact HLV.out) HLO.out HPV.out.1 HO2.out HX2.out HB2.out HT.out).mono ?_);rintro e w' ⟨rfl,HL1,HL2,hV,hO,hX,hB⟩;have HV3:=yam hV;have HO3:=yam hO;have HX3:=yam hX;have HB3:=yam hB;have HLV3:=yam HL1;have HLO3:=yam HL2;clear hV hO hX hB HL1 HL2))
     go_roundg k1
     case measure=>omega
     case rel=>exact ⟨x + 1,t1,t2,by first|rfl|(rw [hnw])|(rw [hnw2]),⟨by have:=HK.out;omega⟩,HE4,HLV3,HLO3,HV3,HO3,HX3,HB3⟩
    ·rw [if_neg hbit] at HE2
     have hbb:(Go.bits .and .i64 ji 1 == 1)=false:=beq_eq_false_iff_ne.mpr hbit
     have HE4:=yam HE2
     clear h0 h1 hx0 HE2 hbit HE
     cases eA
     go_wp2
     go_roundg k1
     case measure=>omega
     case rel=>exact ⟨x + 1,vs,o,by first|rfl|(rw [hnw])|(rw [hnw2]),⟨by have:=HK.out;omega⟩,HE4,HLV,HLO,HV,HO,HX,HB⟩
theorem impl_ruleMasks.newBox (W:World)(z v:Value)(t:TypeId):Below W.heap.size W ((W.alloc (.cells #[z] t)).setCell ⟨W.heap.size,0,none⟩ v)∧((W.alloc (.cells #[z] t)).setCell ⟨W.heap.size,0,none⟩ v).heap[W.heap.size]?=some (.cells #[v] t (0,0))∧(W.alloc (.cells #[z] t)).cell? ⟨W.heap.size,0,none⟩=some z∧(W.alloc (.cells #[z] t)).frozen? ⟨W.heap.size,0,none⟩=false :=
 ⟨below_set (below_alloc (Below.refl _ _) _) (Nat.le_refl _),by simpa using blk_set (heap_alloc_new W (.cells #[z] t)) 0 v,(blk_cell (heap_alloc_new W (.cells #[z] t)) 0).trans rfl,blk_frozen (heap_alloc_new W (.cells #[z] t)) 0⟩
def impl_ruleMasks.f (k:Nat)(a0_0:Int)(l0_1:List Int)(a0_2:Int)(l1:List Int):Option (List Int) :=
 if 0 < l1.length∧l1.length≤100000 then (impl_ruleMasks.try_ k a0_0 l0_1 a0_2 l1 l1.length (List.replicate l1.length 0) (List.replicate l1.length 0)).bind fun t=>some t.2 else none
theorem impl_ruleMasks.calls (k:Nat)(a0_0:Int)(A0_1:Option Addr)(c0_1:Nat)(l0_1:List Int)(a0_2:Int)(A1:Option Addr)(c1:Nat)(l1:List Int)(r:List Int)(w:World)(hr0_1:Kd.C (Kd.int .i64) w A0_1 l0_1.length l0_1)(hc0_1:l0_1.length≤c0_1)(hr1:Kd.C (Kd.int .i64) w A1 l1.length l1)(hc1:l1.length≤c1)(h:impl_ruleMasks.f k a0_0 l0_1 a0_2 l1=some r) :
  Calls Try.prog 91 #[.agg #[.int .i64 a0_0,.slice A0_1 l0_1.length c0_1,.int .i64 a0_2],.slice A1 l1.length c1] w fun e w'=>∃ v0_:Value,e= .returned (v0_)∧Kd.R (Kd.int .i64) 3 w' w.heap.size (fun _=>True) v0_ r∧Below w.heap.size w w':=by
 unfold impl_ruleMasks.f at h
 by_cases hc:0 < l1.length∧l1.length≤100000
 ·rw [if_pos hc] at h
  obtain ⟨⟨t1,t2⟩,hT,h⟩:=Option.bind_eq_some_iff.1 h
  obtain rfl:=Option.some.inj h
  have HT:=yam hT
  have HN:=yam hc
  have HR0:=yam hr0_1
  have HC0:=yam hc0_1
  have HR1:=yam hr1
  have hu32:=Try.underlying67
  clear h hT hc hr0_1 hc0_1 hr1 hc1
  have HB:=yam (Below.refl w.heap.size w)
  go_enter Try.func91,Try.ntmps91
  go_upto_region 1 with (first
   | (refine ybe 2 #[.int .i64 a0_0,.slice A0_1 l0_1.length c0_1,.int .i64 a0_2] 67 ?_;intro gr hg w5 hbox hb;have n0_:=yam (below_step HB.out hb);have BR:=yam hbox;clear HB;have HB:=n0_;clear n0_ hb hbox hg)
   | (refine ybe 3 #[.slice A1 l1.length c1] 22 ?_;intro gown hg w6 hbox hb;have n0_:=yam (below_step HB.out hb);have BO:=yam hbox;have n1_:=yam (blk_below BR.out hb);clear HB BR;have HB:=n0_;have BR:=n1_;clear n0_ n1_ hb hbox hg))
  (try simp only [Act.put,List.setIfInBounds_toArray,List.set_cons_zero,List.set_cons_succ])
  have hcO:=(blk_cell BO.out 0).trans (rfl:_=some (Value.slice A1 l1.length c1))
  go_upto_region 2 with (first
   | ((with_reducible refine gate_dst (N:=10) rfl ?_);refine Kd.R_make (Kd.int .i64) _ 3 rfl (N:=10) rfl 22 _ _ rfl (l1.length:Int) rfl rfl Try.underlying22 (.int .i64 0) 8 info3 rfl (by decide) (by omega) 0 (ok:=fun _=>True) (okp:=fun _=>False) rfl (fun _ hk=>hk.elim) trivial (by omega) (by have:=HN.out;omega) (Below.refl _ _) (Nat.le_refl _) ?_;intro v10 w10 ho10 hb hg_ hnew_;clear hg_ hnew_;obtain ⟨go,cu,e10,_,_,_⟩:=Kd.R_form ho10 (by have:=HN.out;simp;omega);simp only [List.length_replicate,Int.toNat_natCast] at e10 ho10;subst e10;replace BR:=yam (blk_below BR.out hb);replace BO:=yam (blk_below BO.out hb);have HO:=yam (Kd.R_lower ho10 (below_size HB.out));replace HB:=yam (below_step HB.out hb);clear hcO ho10 hb;have hcz:=(impl_ruleMasks.newBox w10 (.slice none 0 0) (.int .i64 0) 22).2.2.1;have hfz:=(impl_ruleMasks.newBox w10 (.slice none 0 0) (.int .i64 0) 22).2.2.2))
  replace HB:=yam (show Below w.heap.size w (w10.alloc (Obj.cells #[Value.slice (some ⟨go,0,none⟩) l1.length cu] 22)) from below_alloc HB.out _)
  replace BR:=yam (show (w10.alloc (Obj.cells #[Value.slice (some ⟨go,0,none⟩) l1.length cu] 22)).heap[gr]?=_ from blk_alloc BR.out _)
  replace BO:=yam (show (w10.alloc (Obj.cells #[Value.slice (some ⟨go,0,none⟩) l1.length cu] 22)).heap[gown]?=_ from blk_alloc BO.out _)
  replace HO:=yam (show Kd.R (Kd.int .i64) 3 (w10.alloc (Obj.cells #[Value.slice (some ⟨go,0,none⟩) l1.length cu] 22)) w.heap.size _ _ _ from Kd.R_alloc HO.out _)
  have BU:=yam (show (w10.alloc (Obj.cells #[Value.slice (some ⟨go,0,none⟩) l1.length cu] 22)).heap[w10.heap.size]?=_ from heap_alloc_new w10 _)
  clear hcz hfz
  generalize w10.alloc (Obj.cells #[Value.slice (some ⟨go,0,none⟩) l1.length cu] 22)=W1 at HB BR BO HO BU ⊢
  generalize w10.heap.size=gout at BU ⊢
  have hcO:=(blk_cell BO.out 0).trans (rfl:_=some (Value.slice A1 l1.length c1))
  go_upto_region 3 with (first
   | ((with_reducible refine gate_dst (N:=13) rfl ?_);refine Kd.R_make (Kd.int .i64) _ 3 rfl (N:=13) rfl 22 _ _ rfl (l1.length:Int) rfl rfl Try.underlying22 (.int .i64 0) 8 info3 rfl (by decide) (by omega) 0 (ok:=fun _=>True) (okp:=fun _=>False) rfl (fun _ hk=>hk.elim) trivial (by omega) (by have:=HN.out;omega) (Below.refl _ _) (Nat.le_refl _) ?_;intro v13 w13 ho13 hb hg_ hnew_;clear hg_;obtain ⟨gv,cv,e13,_,_,_⟩:=Kd.R_form ho13 (by have:=HN.out;simp;omega);simp only [List.length_replicate,Int.toNat_natCast] at e13 ho13;subst e13;have HNE:=yam (show go < W1.heap.size∧W1.heap.size≤gv from ⟨Kd.R_lt HO.out go rfl,by obtain ⟨b_,e_,l_⟩:=hnew_;simp [Value.ownBlock] at e_;omega⟩);replace BR:=yam (blk_below BR.out hb);replace BO:=yam (blk_below BO.out hb);have HV:=yam (Kd.R_lower ho13 (below_size HB.out));replace HB:=yam (below_step HB.out hb);replace HO:=yam (Kd.R_below HO.out hb);replace BU:=yam (blk_below BU.out hb);clear hcO ho13 hb hnew_;have hcz:=(impl_ruleMasks.newBox w13 (.slice none 0 0) (.int .i64 0) 22).2.2.1;have hfz:=(impl_ruleMasks.newBox w13 (.slice none 0 0) (.int .i64 0) 22).2.2.2))
  replace HB:=yam (show Below w.heap.size w (w13.alloc (Obj.cells #[Value.slice (some ⟨gv,0,none⟩) l1.length cv] 22)) from below_alloc HB.out _)
  replace BR:=yam (show (w13.alloc (Obj.cells #[Value.slice (some ⟨gv,0,none⟩) l1.length cv] 22)).heap[gr]?=_ from blk_alloc BR.out _)
  replace BO:=yam (show (w13.alloc (Obj.cells #[Value.slice (some ⟨gv,0,none⟩) l1.length cv] 22)).heap[gown]?=_ from blk_alloc BO.out _)
  replace HO:=yam (show Kd.R (Kd.int .i64) 3 (w13.alloc (Obj.cells #[Value.slice (some ⟨gv,0,none⟩) l1.length cv] 22)) w.heap.size _ _ _ from Kd.R_alloc HO.out _)
  replace BU:=yam (show (w13.alloc (Obj.cells #[Value.slice (some ⟨gv,0,none⟩) l1.length cv] 22)).heap[gout]?=_ from blk_alloc BU.out _)
  have BV:=yam (show (w13.alloc (Obj.cells #[Value.slice (some ⟨gv,0,none⟩) l1.length cv] 22)).heap[w13.heap.size]?=_ from heap_alloc_new w13 _)
  replace HV:=yam (show Kd.R (Kd.int .i64) 3 (w13.alloc (Obj.cells #[Value.slice (some ⟨gv,0,none⟩) l1.length cv] 22)) w.heap.size _ _ _ from Kd.R_alloc HV.out _)
  clear hcz hfz
  generalize w13.alloc (Obj.cells #[Value.slice (some ⟨gv,0,none⟩) l1.length cv] 22)=W2 at HB BR BO HO BU BV HV ⊢
  generalize w13.heap.size=gval at BV ⊢
  have hcz:=(impl_ruleMasks.newBox W2 .nilFunc (.int .i64 0) 91).2.2.1
  have hfz:=(impl_ruleMasks.newBox W2 .nilFunc (.int .i64 0) 91).2.2.2
  have hsf:=fun (a:Addr) (c:Array Value) (w:World)=>run_store Try.prog w a (.func (.func 98) #[] c) .plain rfl
  go_upto_region 5 with (fail)
  clear hsf
  clear hcz hfz
  have n0_:=yam (show Below w.heap.size w (W2.alloc (Obj.cells #[(Value.func (.func 98) #[] #[.pointer (some ⟨gown,0,none⟩),.pointer (some ⟨gr,0,none⟩),.pointer (some ⟨gval,0,none⟩),.pointer (some ⟨gout,0,none⟩),.pointer (some ⟨W2.heap.size,0,none⟩)])] 91)) from below_alloc HB.out _)
  have n3_:=yam (show Kd.R (Kd.int .i64) 3 (W2.alloc (Obj.cells #[(Value.func (.func 98) #[] #[.pointer (some ⟨gown,0,none⟩),.pointer (some ⟨gr,0,none⟩),.pointer (some ⟨gval,0,none⟩),.pointer (some ⟨gout,0,none⟩),.pointer (some ⟨W2.heap.size,0,none⟩)])] 91)) w.heap.size (fun k_=>k_=go) _ _ from Kd.R_alloc (Kd.R_mono (Kd.R_tight rfl HO.out) (fun k_ hk_=>by simpa [Value.ownBlock] using hk_)) _)
  have n6_:=yam (show Kd.R (Kd.int .i64) 3 (W2.alloc (Obj.cells #[(Value.func (.func 98) #[] #[.pointer (some ⟨gown,0,none⟩),.pointer (some ⟨gr,0,none⟩),.pointer (some ⟨gval,0,none⟩),.pointer (some ⟨gout,0,none⟩),.pointer (some ⟨W2.heap.size,0,none⟩)])] 91)) w.heap.size (fun k_=>k_=gv) _ _ from Kd.R_alloc (Kd.R_mono (Kd.R_tight rfl HV.out) (fun k_ hk_=>by simpa [Value.ownBlock] using hk_)) _)
  have n7_:=yam (show impl_ruleMasks.Boxes (W2.alloc (Obj.cells #[(Value.func (.func 98) #[] #[.pointer (some ⟨gown,0,none⟩),.pointer (some ⟨gr,0,none⟩),.pointer (some ⟨gval,0,none⟩),.pointer (some ⟨gout,0,none⟩),.pointer (some ⟨W2.heap.size,0,none⟩)])] 91)) gown gr gval gout W2.heap.size gv go cv cu A1 c1 l1.length a0_0 A0_1 c0_1 l0_1.length a0_2 from ⟨blk_alloc BO.out _,blk_alloc BR.out _,blk_alloc BV.out _,blk_alloc BU.out _,heap_alloc_new W2 _⟩)
  have gv0:=Kd.R_base HV.out gv rfl
  have go0:=Kd.R_base HO.out go rfl
  clear HB HO HV BR BO BU BV
  have HB:=n0_
  have HO:=n3_
  have HV:=n6_
  have HX:=n7_
  clear n0_ n3_ n6_ n7_
  generalize (W2.alloc (Obj.cells #[(Value.func (.func 98) #[] #[.pointer (some ⟨gown,0,none⟩),.pointer (some ⟨gr,0,none⟩),.pointer (some ⟨gval,0,none⟩),.pointer (some ⟨gout,0,none⟩),.pointer (some ⟨W2.heap.size,0,none⟩)])] 91))=W3 at HB HO HV HX ⊢
  generalize W2.heap.size=gtry at HX ⊢
  have hcT:=(blk_cell HX.out.2.2.2.2 0).trans (rfl:_=some (Value.func (.func 98) #[] #[.pointer (some ⟨gown,0,none⟩),.pointer (some ⟨gr,0,none⟩),.pointer (some ⟨gval,0,none⟩),.pointer (some ⟨gout,0,none⟩),.pointer (some ⟨gtry,0,none⟩)]))
  go_wp2_with (first|(go_at_call 98;(refine (impl_ruleMasks.clo k a0_0 A0_1 c0_1 l0_1 a0_2 A1 c1 l1 gown gr gval gout gtry gv go cv cu w (by have:=HNE.out;omega) gv0 go0 HR0.out HC0.out HR1.out l1.length 0 (List.replicate l1.length 0) (List.replicate l1.length 0) t1 t2 _ (by omega) (Nat.le_refl _) HN.out.2 (by simp) (by simp) HV.out HO.out HX.out HB.out HT.out).mono ?_);rintro e w' ⟨rfl,HL1,HL2,hV,hO,hX,hB⟩;clear HV HO HX HB hcT hV HL1;have HO:=yam hO;have HB:=yam hB;have HL:=yam HL2;have hcU:=(blk_cell hX.2.2.2.1 0).trans (rfl:_=some (Value.slice (some ⟨go,0,none⟩) l1.length cu));clear hO hB hX HL2))
  go_ret
  exact ⟨_,rfl,Kd.R_mono HO.out (fun _ _=>trivial),HB.out⟩
 ·rw [if_neg hc] at h;cases h
mutual
def impl_RuleMasks.j0:Nat→List Int→Bool→Int→List Int→Int→Option (List Int)
 | 0,_,_,_,_,_=>none
 | k + 1,x1,x19,x465000,x465001,x465002=>if x19=true then (some ([]:List Int)) else (impl_RuleMasks.l0 k x1 (([]:List Int)) x465001 (x465001.length:Int) 0 x465000 x465001 x465002)
def impl_RuleMasks.l0:Nat→List Int→List Int→List Int→Int→Int→Int→List Int→Int→Option (List Int)
 | 0,_,_,_,_,_,_,_,_=>none
 | k + 1,x1,x7,x22,x23,x24,x465000,x465001,x465002=>if x24 < x23 then (if 0≤x24 then (if x24 < (x22.length:Int) then (if 0≤(rd x22 x24) then (if (rd x22 x24) < (x1.length:Int) then (if x7.length < 17592186044416 then (impl_RuleMasks.l0 k x1 (x7 ++ [rd x1 (rd x22 x24)]) x22 x23 (wrap64 (x24 + 1)) x465000 x465001 x465002) else (none)) else (none)) else (none)) else (none)) else (none)) else ((impl_ruleMasks.f k x465000 x465001 x465002 x7).bind fun t475=>(some t475))
end
def impl_RuleMasks.f (k:Nat)(a0_0:Int)(l0_1:List Int)(a0_2:Int)(l1:List Int)(a2:Int):Option (List Int):=(impl_RuleValid.f k a0_0 l0_1 a0_2 a2).bind fun t465=>(if t465=true then ((impl_MasksValid.f k l1 a2).bind fun t466=>(impl_RuleMasks.j0 k l1 (!t466) a0_0 l0_1 a0_2)) else (impl_RuleMasks.j0 k l1 true a0_0 l0_1 a0_2))
theorem impl_RuleMasks.calls (k:Nat)(a0_0:Int)(A0_1:Option Addr)(c0_1:Nat)(l0_1:List Int)(a0_2:Int)(A1:Option Addr)(c1:Nat)(l1:List Int)(a2:Int)(r:List Int)(w:World)(hr0_1:Kd.C (Kd.int .i64) w A0_1 l0_1.length l0_1)(hc0_1:l0_1.length≤c0_1)(hr1:Kd.C (Kd.int .i64) w A1 l1.length l1)(hc1:l1.length≤c1)(h:impl_RuleMasks.f k a0_0 l0_1 a0_2 l1 a2=some r) :
  Calls Try.prog 83 #[.agg #[.int .i64 a0_0,.slice A0_1 l0_1.length c0_1,.int .i64 a0_2],.slice A1 l1.length c1,.int .i64 a2] w fun e w'=>∃ v0_:Value,e= .returned (v0_)∧Kd.R (Kd.int .i64) 3 w' w.heap.size (fun _=>True) v0_ r∧Below w.heap.size w w':=by
 have hu67:=Try.underlying67
 have HR0_1:=yam hr0_1
 have HC0_1:=yam hc0_1
 clear hr0_1 hc0_1
 have HR1:=yam hr1
 have HC1:=yam hc1
 clear hr1 hc1
 have HB:=yam (Below.refl w.heap.size w)
 unfold impl_RuleMasks.f at h
 have H:=h
 clear h
 have HC4:=yam H
 clear H
 go_enter Try.func83,Try.ntmps83
 go_upto_region 1 with (first|(refine ybe 3 #[.int .i64 a0_0,.slice A0_1 l0_1.length c0_1,.int .i64 a0_2] 67 ?_;intro gb464 hg w5 hbox hb;have BK464:=yam (hbox);have GW464:=yam ((by rw [hg];exact (below_size (yez HB.out)):w.heap.size≤gb464));replace HB:=yam (below_step (yez HB.out) hb);have GE464:=GW464;clear hb hbox hg))
 (try simp only [Act.put,yps])
 go_cut [19] (fun v19 wc=>∃ (kq:Nat) (x19_3:Bool),v19= .bool x19_3∧Aside0 (impl_RuleMasks.j0 kq l1 x19_3 a0_0 l0_1 a0_2=some r)∧Aside0 (kq≤k)∧Aside0 (wc.heap[gb464]?=some (.cells #[.int .i64 a0_0,(.slice A0_1 l0_1.length c0_1),.int .i64 a0_2] 67 (0,0)))∧Aside0 (Below w.heap.size w wc))
 case first =>
  have H:=HC4.out
  clear HC4
  replace H:=ybi H;obtain ⟨t465,A6,H⟩:=H
  try dsimp only at H
  cases t465
  ·replace H:=yff H
   replace H:=yam H
   obtain ⟨hcz11_0,hcz11_1,hcz11_2,hfz11_0,hfz11_1,hfz11_2⟩:=ybc BK464.out
   go_wp2_with (first|(refine goesL_ (some 12) rfl rfl Try.func70 (by kernel_rfl) rfl #[.agg #[.int .i64 a0_0,.slice A0_1 l0_1.length c0_1,.int .i64 a0_2],.int .i64 a2] rfl ymd ?_;(with_reducible refine (impl_RuleValid.calls k a0_0 _ _ l0_1 a0_2 a2 false _ ?_ ?_ A6.out).mono ?_);exact Kd.Cz ((Kd.C_below HR0_1.out HB.out));exact HC0_1.out;rintro e w12 ⟨rfl,hb⟩;refine ⟨_,rfl,?_⟩;replace BK464:=yam (ybb BK464.out hb);replace HB:=yam (below_step yhb hb);(try clear hb)))
   go_meet
   case rel=>exact ⟨_,(true),yeq,H,⟨by first|omega|exact Nat.le_refl _⟩,⟨ybk BK464.out⟩,⟨yhb⟩⟩
  replace H:=ytt H
  replace H:=ybi H;obtain ⟨t466,A8,H⟩:=H
  try dsimp only at H
  replace H:=yam H
  obtain ⟨hcz9_0,hcz9_1,hcz9_2,hfz9_0,hfz9_1,hfz9_2⟩:=ybc BK464.out
  go_wp2_with (first|(refine goesL_ (some 12) rfl rfl Try.func70 (by kernel_rfl) rfl #[.agg #[.int .i64 a0_0,.slice A0_1 l0_1.length c0_1,.int .i64 a0_2],.int .i64 a2] rfl ymd ?_;(with_reducible refine (impl_RuleValid.calls k a0_0 _ _ l0_1 a0_2 a2 true _ ?_ ?_ A6.out).mono ?_);exact Kd.Cz ((Kd.C_below HR0_1.out HB.out));exact HC0_1.out;rintro e w10 ⟨rfl,hb⟩;refine ⟨_,rfl,?_⟩;replace BK464:=yam (ybb BK464.out hb);replace HB:=yam (below_step yhb hb);(try clear hb))|(go_at_call 63;(with_reducible refine (impl_MasksValid.calls k _ _ l1 a2 t466 _ ?_ ?_ A8.out).mono ?_);exact Kd.Cz ((Kd.C_below HR1.out HB.out));exact HC1.out;rintro e w' ⟨rfl,⟨nd,rfl⟩⟩))
  go_meet
  case rel=>exact ⟨_,(!t466),yeq,H,⟨by first|omega|exact Nat.le_refl _⟩,⟨ybk BK464.out⟩,⟨yhb⟩⟩
 case rest =>
  clear HC4
  try clear c1
  obtain ⟨kq,x19_3,rfl,HA,HJ3,BK464,HB⟩:=hcut
  rcases kq with _|kj3
  ·exact absurd HA.out (by simp [impl_RuleMasks.j0])
  obtain ⟨H⟩:=HA
  simp only [impl_RuleMasks.j0] at H
  cases x19_3
  rotate_left
  ·replace H:=ytt H
   obtain rfl:=ysi H
   go_wp2
   go_ret
   exact ⟨_,yer,by first|exact Kd.R_nil _ _ _ _ _|exact Kd.N_nil _ _ _ _ _|exact Kd.V_nil _ _ _ _ _|exact Kd.Q_nil _ _ _ _ _|exact Kd.S_nil _ _ _ _ _,yhb⟩
  replace H:=yff H
  obtain ⟨y467,Ny467⟩:∃ y_:List Int,Aside0 (y_=(([]:List Int))):=⟨_,⟨rfl⟩⟩
  replace H:(impl_RuleMasks.l0 kj3 l1 y467 l0_1 (l0_1.length:Int) 0 a0_0 l0_1 a0_2)=some r:=yhn Ny467.out H
  replace H:=yam H
  go_wp2_with (first|((with_reducible refine gate_dst (N:=20) rfl ?_);refine Kd.R_lit (Kd.int .i64) _ 3 ?hg (N:=20) ?hd (xs:=([]:List Int)) (inner:=[]) (ok:=fun _=>True) (okp:=fun _=>True) ?hr ?hp (fun _ hk=>hk) trivial (Below.refl _ _) (Nat.le_refl _) (by simp) ?_;(case hd=>rfl);(case hg=>rfl);(case hr=>first|(go_simp;done)|(go_simp;rfl));(case hp=>exact (Reps.none _ _));intro v468 w14 ho15 hb hg_ hnew_;clear hg_ hnew_;(first|rw [← Ny467.out] at ho15|(simp only [Int.reduceToNat] at ho15;rw [← Ny467.out] at ho15));have HO469:=yam (Kd.R_lower ho15 (below_size yhb));replace BK464:=yam (ybb BK464.out hb);replace HB:=yam (below_step yhb hb);clear hb ho15;obtain ⟨hcz16_0,hcz16_1,hcz16_2,hfz16_0,hfz16_1,hfz16_2⟩:=ybc BK464.out))
  go_loopg [7,24] kj3 (fun kq v7 v24 w'=>∃ (x7_2:List Int) (x24_2:Int),v24= .int .i64 x24_2∧Aside0 (impl_RuleMasks.l0 kq l1 x7_2 l0_1 (l0_1.length:Int) x24_2 a0_0 l0_1 a0_2=some r)∧Aside0 (kq≤kj3)∧Aside0 (Kd.R (Kd.int .i64) 3 w' w.heap.size (fun _=>True) v7 x7_2)∧Aside0 (w'.heap[gb464]?=some (.cells #[.int .i64 a0_0,(.slice A0_1 l0_1.length c0_1),.int .i64 a0_2] 67 (0,0)))∧Aside0 (Below w.heap.size w w'))
  case atStart=>exact ⟨(y467),(0),yeq,H,⟨Nat.le_refl _⟩,⟨yka HO469.out⟩,⟨ybk BK464.out⟩,⟨yhb⟩⟩
  case round =>
   clear H
   try clear hcz16_0
   try clear hcz16_1
   try clear hcz16_2
   try clear hfz16_0
   try clear hfz16_1
   try clear hfz16_2
   obtain ⟨x7_2,x24_2,rfl,HA,HK2,HO_7,BK464,HB⟩:=hrel
   rcases gk with _|k2
   ·exact absurd HA.out (by simp [impl_RuleMasks.l0])
   obtain ⟨H⟩:=HA
   simp only [impl_RuleMasks.l0] at H
   replace H:=yis H;obtain ⟨c17b0,H⟩ | ⟨c17b0,H⟩:=H
   rotate_left
   ·replace H:=ybi H;obtain ⟨t475,A24,H⟩:=H
    try dsimp only at H
    obtain rfl:=ysi H
    obtain ⟨hcz25_0,hcz25_1,hcz25_2,hfz25_0,hfz25_1,hfz25_2⟩:=ybc BK464.out
    obtain ⟨Ao26,co26,eo26⟩:=Kd.R_slice HO_7.out
    subst eo26
    go_wp2_with (first|(refine goesL_ (some 38) rfl rfl Try.func91 (by kernel_rfl) rfl #[.agg #[.int .i64 a0_0,.slice A0_1 l0_1.length c0_1,.int .i64 a0_2],.slice Ao26 x7_2.length co26] rfl ymd ?_;(with_reducible refine (impl_ruleMasks.calls k2 a0_0 _ _ l0_1 a0_2 _ _ x7_2 t475 _ ?_ ?_ ?_ ?_ A24.out).mono ?_);exact Kd.Cz ((Kd.C_below HR0_1.out HB.out));exact HC0_1.out;exact Kd.Cz (Kd.Yr HO_7.out).2.2;exact (Kd.Yr HO_7.out).2.1;rintro e w27 ⟨v476,rfl,ho0,hb⟩;refine ⟨_,rfl,?_⟩;have HO477:=yam (Kd.R_lower (Kd.Yw ho0 (Kd.R_lt (Kd.Yz HO_7.out))) (below_size yhb));replace HO_7:=yam (Kd.Ye (Kd.Yz HO_7.out) (Kd.Yb ho0) hb);replace BK464:=yam (ybb BK464.out hb);replace HB:=yam (below_step yhb hb);(try clear hb);(try clear ho0)))
    go_ret
    exact ⟨_,yer,by (with_reducible repeat (first|apply Kd.Ya|apply Kd.Yn|apply Kd.Yd));exact Kd.R_mono HO477.out (fun _ hk=>trivial),yhb⟩
   replace H:=yif H;obtain ⟨c18b0,H⟩:=H
   replace H:=yif H;obtain ⟨c19b0,H⟩:=H
   replace H:=yif H;obtain ⟨c20b0,H⟩:=H
   replace H:=yif H;obtain ⟨c21b0,H⟩:=H
   replace H:=yig H;obtain ⟨c22,H⟩:=H
   have LMc22:=yam c22
   clear c22
   obtain ⟨y472,Ny472⟩:∃ y_:List Int,Aside0 (y_=(x7_2 ++ [rd l1 (rd l0_1 x24_2)])):=⟨_,⟨rfl⟩⟩
   replace H:(impl_RuleMasks.l0 k2 l1 y472 l0_1 (l0_1.length:Int) (wrap64 (x24_2 + 1)) a0_0 l0_1 a0_2)=some r:=yhn Ny472.out H
   replace H:=yam H
   obtain ⟨ad470,e470,hx470_0,p470,q470⟩:=yat HR0_1.out x24_2
   cases e470
   replace hx470_0:=ybx HB.out hx470_0
   obtain ⟨ad471,e471,hx471_0,p471,q471⟩:=yat HR1.out (rd l0_1 x24_2)
   cases e471
   replace hx471_0:=ybx HB.out hx471_0
   go_wp2_with (first|((with_reducible refine gate_builtin (b:= .append) (xs:= #[.tmp 28,.tmp 33]) rfl ?_);at_builtin;refine Kd.R_append (Kd.int .i64) (w0:=w) w.heap.size rfl (.tmp 28) (.tmp 33) 22 3 (.int .i64 0) 8 rfl Try.underlying22 info3 rfl (by decide) (by omega) u7 x7_2 (rd l1 (rd l0_1 x24_2)) [.int .i64 (rd l1 (rd l0_1 x24_2))] (fun _=>True) (fun _=>False) rfl rfl ?aP (fun _ hk=>hk.elim) ?aF ?aO ?aB ?aS ?aL ?_;(case aP=>exact rfl);(case aB=>exact yhb);(case aF=>exact (fun _ _=>trivial));(case aO=>exact (Kd.Yz HO_7.out));(case aS=>exact (below_size yhb));(case aL=>have:=LMc22.out;omega);intro v473 w23 ho hb hg hat;rw [← Ny472.out] at ho;replace BK464:=yam (blk_grown (g:=gb464) (o:= .cells #[.int .i64 a0_0,.slice (some ad470) l0_1.length c0_1,.int .i64 a0_2] 67 (0,0)) (ybz BK464.out) hg (Kd.R_ne HO_7.out BK464.out (by decide)));replace HB:=yam (hb);have HO474:=yam (ho);clear HO_7;clear ho hb hg hat))
   go_roundg k2
   case measure=>have:=HJ3.out;have:=HK2.out;omega
   case rel=>exact ⟨(y472),(wrap64 (x24_2 + 1)),yeq,H,⟨by have:=HJ3.out;have:=HK2.out;omega⟩,⟨yka HO474.out⟩,⟨ybk BK464.out⟩,⟨yhb⟩⟩
mutual
def impl_NarrowRules.j0:Nat→List Int→Bool→Int→List Int→List (S67)→Option (List Int)
 | 0,_,_,_,_,_=>none
 | k + 1,x1,x19,x479000,x479001,x479002=>if x19=true then (some ([]:List Int)) else ((slices_Clone_int_int.f x1).bind fun t481=>(impl_NarrowRules.l0 k t481 x479002 (x479002.length:Int) 0 x479000 x479001 x479002))
def impl_NarrowRules.l0:Nat→List Int→List (S67)→Int→Int→Int→List Int→List (S67)→Option (List Int)
 | 0,_,_,_,_,_,_,_=>none
 | k + 1,x5,x23,x24,x25,x479000,x479001,x479002=>if x25 < x24 then (if 0≤x25 then (if x25 < (x23.length:Int) then ((impl_RuleMasks.f k ((rd_T67 x23 x25).f0) ((rd_T67 x23 x25).f1) ((rd_T67 x23 x25).f2) x5 x479000).bind fun t486=>(impl_NarrowRules.l1 k x5 x23 x24 x25 t486 (t486.length:Int) 0 x479000 x479001 x479002 ((rd_T67 x23 x25).f0) ((rd_T67 x23 x25).f1) ((rd_T67 x23 x25).f2))) else (none)) else (none)) else (some x5)
def impl_NarrowRules.l1:Nat→List Int→List (S67)→Int→Int→List Int→Int→Int→Int→List Int→List (S67)→Int→List Int→Int→Option (List Int)
 | 0,_,_,_,_,_,_,_,_,_,_,_,_,_=>none
 | k + 1,x5,x23,x24,x25,x33,x34,x35,x479000,x479001,x479002,x486000,x486001,x486002=>if x35 < x34 then (if 0≤x35 then (if x35 < (x33.length:Int) then (if x35 < (x486001.length:Int) then (if 0≤(rd x486001 x35) then (if (rd x486001 x35) < (x5.length:Int) then (impl_NarrowRules.l1 k (x5.set ((rd x486001 x35):Int).toNat (rd x33 x35)) x23 x24 x25 x33 x34 (wrap64 (x35 + 1)) x479000 x479001 x479002 x486000 x486001 x486002) else (none)) else (none)) else (none)) else (none)) else (none)) else (impl_NarrowRules.l0 k x5 x23 x24 (wrap64 (x25 + 1)) x479000 x479001 x479002)
end
def impl_NarrowRules.f (k:Nat)(a0_0:Int)(l0_1:List Int)(l0_2:List (S67))(l1:List Int):Option (List Int):=(impl_PuzzleValid.f k a0_0 l0_1 l0_2).bind fun t479=>(if t479=true then ((impl_MasksValid.f k l1 a0_0).bind fun t480=>(impl_NarrowRules.j0 k l1 (!t480) a0_0 l0_1 l0_2)) else (impl_NarrowRules.j0 k l1 true a0_0 l0_1 l0_2))
theorem impl_NarrowRules.calls (k:Nat)(a0_0:Int)(A0_1:Option Addr)(c0_1:Nat)(l0_1:List Int)(A0_2:Option Addr)(c0_2:Nat)(l0_2:List (S67))(A1:Option Addr)(c1:Nat)(l1:List Int)(r:List Int)(w:World)(hr0_1:Kd.C (Kd.int .i64) w A0_1 l0_1.length l0_1)(hc0_1:l0_1.length≤c0_1)(hr0_2:Kd.C k67 w A0_2 l0_2.length l0_2)(hc0_2:l0_2.length≤c0_2)(hr1:Kd.C (Kd.int .i64) w A1 l1.length l1)(hc1:l1.length≤c1)(h:impl_NarrowRules.f k a0_0 l0_1 l0_2 l1=some r) :
  Calls Try.prog 61 #[.agg #[.int .i64 a0_0,.slice A0_1 l0_1.length c0_1,.slice A0_2 l0_2.length c0_2],.slice A1 l1.length c1] w fun e w'=>∃ v0_:Value,e= .returned (v0_)∧Kd.R (Kd.int .i64) 3 w' w.heap.size (fun _=>True) v0_ r∧Below w.heap.size w w':=by
 have hu30:=Try.underlying30
 have hu67:=Try.underlying67
 have HR0_1:=yam hr0_1
 have HC0_1:=yam hc0_1
 clear hr0_1 hc0_1
 have HR0_2:=yam hr0_2
 have HC0_2:=yam hc0_2
 clear hr0_2 hc0_2
 have HR1:=yam hr1
 have HC1:=yam hc1
 clear hr1 hc1
 have HB:=yam (Below.refl w.heap.size w)
 unfold impl_NarrowRules.f at h
 have H:=h
 clear h
 have HC3:=yam H
 clear H
 go_enter Try.func61,Try.ntmps61
 go_upto_region 1 with (first|(refine ybe 2 #[.int .i64 a0_0,.slice A0_1 l0_1.length c0_1,.slice A0_2 l0_2.length c0_2] 30 ?_;intro gb478 hg w4 hbox hb;have BK478:=yam (hbox);have GW478:=yam ((by rw [hg];exact (below_size (yez HB.out)):w.heap.size≤gb478));replace HB:=yam (below_step (yez HB.out) hb);have GE478:=GW478;clear hb hbox hg))
 (try simp only [Act.put,yps])
 go_cut [19] (fun v19 wc=>∃ (kq:Nat) (x19_2:Bool),v19= .bool x19_2∧Aside0 (impl_NarrowRules.j0 kq l1 x19_2 a0_0 l0_1 l0_2=some r)∧Aside0 (kq≤k)∧Aside0 (wc.heap[gb478]?=some (.cells #[.int .i64 a0_0,(.slice A0_1 l0_1.length c0_1),(.slice A0_2 l0_2.length c0_2)] 30 (0,0)))∧Aside0 (Below w.heap.size w wc))
 case first =>
  have H:=HC3.out
  clear HC3
  replace H:=ybi H;obtain ⟨t479,A5,H⟩:=H
  try dsimp only at H
  cases t479
  ·replace H:=yff H
   replace H:=yam H
   obtain ⟨hcz11_0,hcz11_1,hcz11_2,hfz11_0,hfz11_1,hfz11_2⟩:=ybc BK478.out
   go_wp2_with (first|(refine goesL_ (some 11) rfl rfl Try.func36 (by kernel_rfl) rfl #[.agg #[.int .i64 a0_0,.slice A0_1 l0_1.length c0_1,.slice A0_2 l0_2.length c0_2]] rfl ymd ?_;(with_reducible refine (impl_PuzzleValid.calls k a0_0 _ _ l0_1 _ _ l0_2 false _ ?_ ?_ ?_ ?_ A5.out).mono ?_);exact Kd.Cz ((Kd.C_below HR0_1.out HB.out));exact HC0_1.out;exact Kd.Cz ((Kd.C_below HR0_2.out HB.out));exact HC0_2.out;rintro e w12 ⟨rfl,hb⟩;refine ⟨_,rfl,?_⟩;replace BK478:=yam (ybb BK478.out hb);replace HB:=yam (below_step yhb hb);(try clear hb)))
   go_meet
   case rel=>exact ⟨_,(true),yeq,H,⟨by first|omega|exact Nat.le_refl _⟩,⟨ybk BK478.out⟩,⟨yhb⟩⟩
  replace H:=ytt H
  replace H:=ybi H;obtain ⟨t480,A7,H⟩:=H
  try dsimp only at H
  replace H:=yam H
  obtain ⟨hcz8_0,hcz8_1,hcz8_2,hfz8_0,hfz8_1,hfz8_2⟩:=ybc BK478.out
  go_wp2_with (first|(refine goesL_ (some 11) rfl rfl Try.func36 (by kernel_rfl) rfl #[.agg #[.int .i64 a0_0,.slice A0_1 l0_1.length c0_1,.slice A0_2 l0_2.length c0_2]] rfl ymd ?_;(with_reducible refine (impl_PuzzleValid.calls k a0_0 _ _ l0_1 _ _ l0_2 true _ ?_ ?_ ?_ ?_ A5.out).mono ?_);exact Kd.Cz ((Kd.C_below HR0_1.out HB.out));exact HC0_1.out;exact Kd.Cz ((Kd.C_below HR0_2.out HB.out));exact HC0_2.out;rintro e w9 ⟨rfl,hb⟩;refine ⟨_,rfl,?_⟩;replace BK478:=yam (ybb BK478.out hb);replace HB:=yam (below_step yhb hb);(try clear hb);obtain ⟨hcz10_0,hcz10_1,hcz10_2,hfz10_0,hfz10_1,hfz10_2⟩:=ybc BK478.out)|(go_at_call 63;(with_reducible refine (impl_MasksValid.calls k _ _ l1 a0_0 t480 _ ?_ ?_ A7.out).mono ?_);exact Kd.Cz ((Kd.C_below HR1.out HB.out));exact HC1.out;rintro e w' ⟨rfl,⟨nd,rfl⟩⟩))
  go_meet
  case rel=>exact ⟨_,(!t480),yeq,H,⟨by first|omega|exact Nat.le_refl _⟩,⟨ybk BK478.out⟩,⟨yhb⟩⟩
 case rest =>
  clear HC3
  try clear c1
  obtain ⟨kq,x19_2,rfl,HA,HJ2,BK478,HB⟩:=hcut
  rcases kq with _|kj2
  ·exact absurd HA.out (by simp [impl_NarrowRules.j0])
  obtain ⟨H⟩:=HA
  simp only [impl_NarrowRules.j0] at H
  cases x19_2
  rotate_left
  ·replace H:=ytt H
   obtain rfl:=ysi H
   go_wp2
   go_ret
   exact ⟨_,yer,by first|exact Kd.R_nil _ _ _ _ _|exact Kd.N_nil _ _ _ _ _|exact Kd.V_nil _ _ _ _ _|exact Kd.Q_nil _ _ _ _ _|exact Kd.S_nil _ _ _ _ _,yhb⟩
  replace H:=yff H
  replace H:=ybi H;obtain ⟨t481,A14,H⟩:=H
  try dsimp only at H
  replace H:=yam H
  go_wp2_with (first|(refine goesL_ (some 21) rfl rfl Try.func64 (by kernel_rfl) rfl #[.slice A1 l1.length c1] rfl ymd ?_;(with_reducible refine (slices_Clone_int_int.calls _ _ l1 t481 _ ?_ ?_ A14.out).mono ?_);exact Kd.Cz ((Kd.C_below HR1.out HB.out));exact HC1.out;rintro e w15 ⟨v482,rfl,ho0,hb⟩;refine ⟨_,rfl,?_⟩;have HO483:=yam (Kd.R_lower ho0 (below_size yhb));replace BK478:=yam (ybb BK478.out hb);replace HB:=yam (below_step yhb hb);(try clear hb);(try clear ho0);obtain ⟨hcz16_0,hcz16_1,hcz16_2,hfz16_0,hfz16_1,hfz16_2⟩:=ybc BK478.out))
  go_loopg [25] kj2 (fun kq v25 w'=>∃ (x5_2:List Int) (x25_2:Int),v25= .int .i64 x25_2∧Aside0 (impl_NarrowRules.l0 kq x5_2 l0_2 (l0_2.length:Int) x25_2 a0_0 l0_1 l0_2=some r)∧Aside0 (kq≤kj2)∧Aside0 (Kd.R (Kd.int .i64) 3 w' w.heap.size (fun _=>True) v482 x5_2)∧Aside0 (w'.heap[gb478]?=some (.cells #[.int .i64 a0_0,(.slice A0_1 l0_1.length c0_1),(.slice A0_2 l0_2.length c0_2)] 30 (0,0)))∧Aside0 (Below w.heap.size w w'))
  case atStart=>exact ⟨(t481),(0),yeq,H,⟨Nat.le_refl _⟩,⟨yka HO483.out⟩,⟨ybk BK478.out⟩,⟨yhb⟩⟩
  case round =>
   clear H
   try clear c1
   try clear hcz16_0
   try clear hcz16_1
   try clear hcz16_2
   try clear hfz16_0
   try clear hfz16_1
   try clear hfz16_2
   obtain ⟨x5_2,x25_2,rfl,HA,HK2,HO_5,BK478,HB⟩:=hrel
   rcases gk with _|k2
   ·exact absurd HA.out (by simp [impl_NarrowRules.l0])
   obtain ⟨H⟩:=HA
   simp only [impl_NarrowRules.l0] at H
   replace H:=yis H;obtain ⟨c17b0,H⟩ | ⟨c17b0,H⟩:=H
   rotate_left
   ·obtain rfl:=ysi H
    go_wp2
    go_ret
    exact ⟨_,yer,yka HO_5.out,yhb⟩
   replace H:=yif H;obtain ⟨c18b0,H⟩:=H
   replace H:=yif H;obtain ⟨c19b0,H⟩:=H
   replace H:=ybi H;obtain ⟨t486,A20,H⟩:=H
   try dsimp only at H
   replace H:=yam H
   have p484:0≤(x25_2:Int):=ydt
   have q484:x25_2 < (l0_2.length:Int):=ydt
   obtain ⟨ad484,A484_1,c484_1,e484,hx484_0,hx484_1,hx484_2,hl484_1,hi484_1⟩:=at_T67 HR0_2.out x25_2 p484 q484
   cases e484
   replace hx484_0:=ybx HB.out hx484_0
   replace hx484_1:=ybx HB.out hx484_1
   replace hx484_2:=ybx HB.out hx484_2
   have HR484_1:=yam hi484_1
   have HC484_1:=yam hl484_1
   clear hi484_1 hl484_1
   replace p484:=eq_true p484
   replace q484:=eq_true q484
   go_wp2_with (first|(refine ybe 7 #[.int .i64 0,.slice none 0 0,.int .i64 0] 67 ?_;intro gb485 hg w21 hbox hb;replace HO_5:=yam (Kd.R_below (Kd.Yz HO_5.out) hb);have BK485:=yam (hbox);have GW485:=yam ((by rw [hg];exact (below_size yhb):w.heap.size≤gb485));replace HB:=yam (below_step yhb hb);have GE485:=GW485;have NB478_485:=yam ((by rw [hg];exact Nat.ne_of_lt (blk_lt (g:=gb478) (o:= .cells #[.int .i64 a0_0,.slice A0_1 l0_1.length c0_1,.slice (some ad484) l0_2.length c0_2] 30 (0,0)) (ybz BK478.out)):gb478≠gb485));have NB485_478:=yam ((by rw [hg];exact Nat.ne_of_gt (blk_lt (g:=gb478) (o:= .cells #[.int .i64 a0_0,.slice A0_1 l0_1.length c0_1,.slice (some ad484) l0_2.length c0_2] 30 (0,0)) (ybz BK478.out)):gb485≠gb478));replace BK478:=yam (ybb BK478.out hb);clear hb hbox hg;have hnb22:=NB485_478.out;have hnc22:=NB478_485.out;obtain ⟨hcz23_0,hcz23_1,hcz23_2,hfz23_0,hfz23_1,hfz23_2⟩:=ybc BK485.out;obtain ⟨hcz24_0,hcz24_1,hcz24_2,hfz24_0,hfz24_1,hfz24_2⟩:=ybc BK478.out;obtain ⟨Ao25,co25,eo25⟩:=Kd.R_slice HO_5.out;subst eo25)|(refine goesL_ (some 33) rfl rfl Try.func83 (by kernel_rfl) rfl #[.agg #[.int .i64 ((rd_T67 l0_2 x25_2).f0),.slice A484_1 ((rd_T67 l0_2 x25_2).f1).length c484_1,.int .i64 ((rd_T67 l0_2 x25_2).f2)],.slice Ao25 x5_2.length co25,.int .i64 a0_0] rfl ymd ?_;(with_reducible refine (impl_RuleMasks.calls k2 ((rd_T67 l0_2 x25_2).f0) _ _ ((rd_T67 l0_2 x25_2).f1) ((rd_T67 l0_2 x25_2).f2) _ _ x5_2 a0_0 t486 _ ?side1 ?side2 ?side3 ?side4 A20.out).mono ?_);(case side1=>exact Kd.C_below HR484_1.out yhb);(case side2=>exact HC484_1.out);(case side3=>refine (Kd.Yr (e:=3) (base:=w.heap.size) (ok:=fun k_=>True) (n:=x5_2.length) (c:=co25) ?_).2.2;exact (by (with_reducible repeat (first|apply Kd.Ya|apply Kd.Yn|apply Kd.Yd));exact (Kd.R_mono (Kd.R_far (p:=⟨gb485,2,none⟩) (Kd.R_far (p:=⟨gb485,1,none⟩) (Kd.R_far (p:=⟨gb485,0,none⟩) (Kd.R_types HO_5.out BK485.out (by decide)) (fun _ hk=>hk.2) (.int .i64 ((rd_T67 l0_2 x25_2).f0))) (fun _ hk=>hk.2) (.slice A484_1 ((rd_T67 l0_2 x25_2).f1).length c484_1)) (fun _ hk=>hk.2) (.int .i64 ((rd_T67 l0_2 x25_2).f2))) (fun _ h_=>h_.1))));(case side4=>exact (Kd.Yr HO_5.out).2.1);rintro e w26 ⟨v487,rfl,ho0,hb⟩;refine ⟨_,rfl,?_⟩;have HO488:=yam (Kd.R_lower (Kd.Yw ho0 (Kd.R_lt (by (with_reducible repeat (first|apply Kd.Ya|apply Kd.Yn|apply Kd.Yd));exact (Kd.R_mono (Kd.R_far (p:=⟨gb485,2,none⟩) (Kd.R_far (p:=⟨gb485,1,none⟩) (Kd.R_far (p:=⟨gb485,0,none⟩) (Kd.R_types HO_5.out BK485.out (by decide)) (fun _ hk=>hk.2) (.int .i64 ((rd_T67 l0_2 x25_2).f0))) (fun _ hk=>hk.2) (.slice A484_1 ((rd_T67 l0_2 x25_2).f1).length c484_1)) (fun _ hk=>hk.2) (.int .i64 ((rd_T67 l0_2 x25_2).f2))) (fun _ h_=>h_.1))))) (below_size yhb));replace HO_5:=yam (Kd.Ye (by (with_reducible repeat (first|apply Kd.Ya|apply Kd.Yn|apply Kd.Yd));exact (Kd.R_mono (Kd.R_far (p:=⟨gb485,2,none⟩) (Kd.R_far (p:=⟨gb485,1,none⟩) (Kd.R_far (p:=⟨gb485,0,none⟩) (Kd.R_types HO_5.out BK485.out (by decide)) (fun _ hk=>hk.2) (.int .i64 ((rd_T67 l0_2 x25_2).f0))) (fun _ hk=>hk.2) (.slice A484_1 ((rd_T67 l0_2 x25_2).f1).length c484_1)) (fun _ hk=>hk.2) (.int .i64 ((rd_T67 l0_2 x25_2).f2))) (fun _ h_=>h_.1))) (Kd.Yb ho0) hb);replace BK478:=yam (blk_below (g:=gb478) (o:= .cells #[.int .i64 a0_0,.slice A0_1 l0_1.length c0_1,.slice (some ad484) l0_2.length c0_2] 30 (0,0)) (by (with_reducible repeat (first|refine ybn ?_ _|refine ybd ?_|refine yba ?_ _));refine blk_far ?_ NB478_485.out _;(with_reducible repeat (first|refine ybn ?_ _|refine ybd ?_|refine yba ?_ _));refine blk_far ?_ NB478_485.out _;(with_reducible repeat (first|refine ybn ?_ _|refine ybd ?_|refine yba ?_ _));refine blk_far ?_ NB478_485.out _;(with_reducible repeat (first|refine ybn ?_ _|refine ybd ?_|refine yba ?_ _));exact BK478.out) hb);replace BK485:=yam (blk_below (g:=gb485) (o:= .cells #[.int .i64 ((rd_T67 l0_2 x25_2).f0),.slice A484_1 ((rd_T67 l0_2 x25_2).f1).length c484_1,.int .i64 ((rd_T67 l0_2 x25_2).f2)] 67 (0,0)) (by (with_reducible repeat (first|refine ybn ?_ _|refine ybd ?_|refine yba ?_ _));refine blk_put (cs:= #[.int .i64 ((rd_T67 l0_2 x25_2).f0),.slice A484_1 ((rd_T67 l0_2 x25_2).f1).length c484_1,.int .i64 0]) ?_ 2 _ rfl;(with_reducible repeat (first|refine ybn ?_ _|refine ybd ?_|refine yba ?_ _));refine blk_put (cs:= #[.int .i64 ((rd_T67 l0_2 x25_2).f0),.slice none 0 0,.int .i64 0]) ?_ 1 _ rfl;(with_reducible repeat (first|refine ybn ?_ _|refine ybd ?_|refine yba ?_ _));refine blk_put (cs:= #[.int .i64 0,.slice none 0 0,.int .i64 0]) ?_ 0 _ rfl;(with_reducible repeat (first|refine ybn ?_ _|refine ybd ?_|refine yba ?_ _));exact BK485.out) hb);replace HB:=yam (below_step yhb hb);(try clear hb);(try clear hk);(try clear ho0);obtain ⟨Ao27,co27,eo27⟩:=Kd.R_slice HO488.out;subst eo27))
   go_loopg [35] k2 (fun kq v35 w'=>∃ (x5_3:List Int) (x35_3:Int),v35= .int .i64 x35_3∧Aside0 (impl_NarrowRules.l1 kq x5_3 l0_2 (l0_2.length:Int) x25_2 t486 (t486.length:Int) x35_3 a0_0 l0_1 l0_2 ((rd_T67 l0_2 x25_2).f0) ((rd_T67 l0_2 x25_2).f1) ((rd_T67 l0_2 x25_2).f2)=some r)∧Aside0 (kq≤k2)∧Aside0 (Kd.R (Kd.int .i64) 3 w' w.heap.size (fun k_=>some k_≠((.slice Ao27 t486.length co27):Value).ownBlock) (.slice Ao25 x5_2.length co25) x5_3)∧Aside0 (Kd.R (Kd.int .i64) 3 w' w.heap.size (fun k_=>some k_≠((.slice Ao25 x5_2.length co25):Value).ownBlock) (.slice Ao27 t486.length co27) t486)∧Aside0 (w'.heap[gb478]?=some (.cells #[.int .i64 a0_0,(.slice A0_1 l0_1.length c0_1),(.slice (some ad484) l0_2.length c0_2)] 30 (0,0)))∧Aside0 (w'.heap[gb485]?=some (.cells #[.int .i64 ((rd_T67 l0_2 x25_2).f0),(.slice A484_1 ((rd_T67 l0_2 x25_2).f1).length c484_1),.int .i64 ((rd_T67 l0_2 x25_2).f2)] 67 (0,0)))∧Aside0 (Below w.heap.size w w'))
   case atStart=>exact ⟨(x5_2),(0),yeq,H,⟨Nat.le_refl _⟩,⟨by (with_reducible repeat (first|apply Kd.Ya|apply Kd.Yn|apply Kd.Yd));exact Kd.R_mono HO_5.out (fun _ hk=>hk.2)⟩,⟨by (with_reducible repeat (first|apply Kd.Ya|apply Kd.Yn|apply Kd.Yd));exact Kd.R_mono HO488.out (fun _ hk=>hk.2)⟩,⟨ybk BK478.out⟩,⟨ybk BK485.out⟩,⟨yhb⟩⟩
   case round =>
    clear H
    try clear c17b0
    try clear c18b0
    try clear c19b0
    try clear hcz23_0
    try clear hcz23_1
    try clear hcz23_2
    try clear hcz24_0
    try clear hcz24_1
    try clear hcz24_2
    try clear hfz23_0
    try clear hfz23_1
    try clear hfz23_2
    try clear hfz24_0
    try clear hfz24_1
    try clear hfz24_2
    try clear hx484_0
    try clear hx484_1
    try clear hx484_2
    try clear p484
    try clear q484
    obtain ⟨x5_3,x35_3,rfl,HA,HK3,HO_5,HO_33,BK478,BK485,HB⟩:=hrel
    have hl5_3:=(Kd.Yr HO_5.out).1
    rw [hl5_3] at HO_5
    (try simp only [hl5_3])
    (try simp only [hl5_3] at BK478)
    (try simp only [hl5_3] at BK485)
    (try simp only [hl5_3] at HO_33)
    rcases gk with _|k3
    ·exact absurd HA.out (by simp [impl_NarrowRules.l1])
    obtain ⟨H⟩:=HA
    simp only [impl_NarrowRules.l1] at H
    replace H:=yis H;obtain ⟨c28b0,H⟩ | ⟨c28b0,H⟩:=H
    rotate_left
    ·replace H:=yam H
     go_wp2
     (try simp only [← hl5_3])
     go_roundg k3
     case measure=>have:=HJ2.out;have:=HK2.out;have:=HK3.out;omega
     case rel=>exact ⟨(x5_3),(wrap64 (x25_2 + 1)),yeq,H,⟨by have:=HJ2.out;have:=HK2.out;have:=HK3.out;omega⟩,⟨by (try simp only [hl5_3]);(with_reducible repeat (first|apply Kd.Ya|apply Kd.Yn|apply Kd.Yd));exact Kd.R_mono HO_5.out (fun _ hk=>trivial)⟩,⟨by (try simp only [hl5_3]);(with_reducible repeat (first|refine ybn ?_ _|refine ybd ?_|refine yba ?_ _));exact BK478.out⟩,⟨yhb⟩⟩
    replace H:=yif H;obtain ⟨c29b0,H⟩:=H
    replace H:=yif H;obtain ⟨c30b0,H⟩:=H
    replace H:=yif H;obtain ⟨c31b0,H⟩:=H
    replace H:=yif H;obtain ⟨c32b0,H⟩:=H
    replace H:=yif H;obtain ⟨c33b0,H⟩:=H
    obtain ⟨y491,Ny491⟩:∃ y_:List Int,Aside0 (y_=(x5_3.set ((rd ((rd_T67 l0_2 x25_2).f1) x35_3):Int).toNat (rd t486 x35_3))):=⟨_,⟨rfl⟩⟩
    replace H:(impl_NarrowRules.l1 k3 y491 l0_2 (l0_2.length:Int) x25_2 t486 (t486.length:Int) (wrap64 (x35_3 + 1)) a0_0 l0_1 l0_2 ((rd_T67 l0_2 x25_2).f0) ((rd_T67 l0_2 x25_2).f1) ((rd_T67 l0_2 x25_2).f2))=some r:=yhn Ny491.out H
    replace H:=yam H
    obtain ⟨ad489,e489,hx489_0,p489,q489⟩:=yat (Kd.Yr HO_33.out).2.2 x35_3
    cases e489
    have hnb35:=NB485_478.out
    have hnc35:=NB478_485.out
    obtain ⟨hcz36_0,hcz36_1,hcz36_2,hfz36_0,hfz36_1,hfz36_2⟩:=ybc BK485.out
    obtain ⟨ad490,e490,hx490_0,p490,q490⟩:=yat HR484_1.out x35_3
    cases e490
    replace hx490_0:=ybx HB.out hx490_0
    have p34:0≤((rd ((rd_T67 l0_2 x25_2).f1) x35_3):Int):=ydt
    have q34:((rd ((rd_T67 l0_2 x25_2).f1) x35_3):Int) < ((x5_3.length:Int):Int):=ydt
    obtain ⟨go34,co34,eo34,gb34,gl34,cl34,HG34⟩:=Kd.R_form HO_5.out (by omega)
    (first|cases eo34|(injection eo34 with ea_ en_ ec_;(first|subst ea_|(injection ea_ with ea_;subst ea_));subst ec_;clear en_))
    have GB34:=yam gb34
    have GG34:=yam HG34
    clear gb34 gl34 HG34
    obtain ⟨hx34_0,hf34_0⟩:=Kd.R_celln 0 HO_5.out ((rd ((rd_T67 l0_2 x25_2).f1) x35_3):Int) p34 q34
    replace p34:=eq_true p34
    replace q34:=eq_true q34
    have HP37:=Kd.R_putg HO_5.out ((rd ((rd_T67 l0_2 x25_2).f1) x35_3):Int) (rd t486 x35_3)
    go_wp2_with (first|((with_reducible refine gate_store (t:=3) (p:=47) rfl ?_);refine store_event (t:=3) (p:=47) (v:=?vo_w38) (w1:=(wr.setCell ⟨go34,((rd ((rd_T67 l0_2 x25_2).f1) x35_3):Int).toNat,none⟩ (.int .i64 (rd t486 x35_3)))) ?hg ?ho ?hn ?hr ?_;(case ho=>rfl);(case hg=>rfl);(case hn=>rfl);(case hr=>first|(go_simp;done)|(go_simp;rfl));intro w38 hw;have hg:wr.grownBy w38 (some go34):=(by rw [hw];exact HP37.2);have hp_:Kd.R (Kd.int .i64) 3 w38 w.heap.size (fun k_=>some k_≠(.slice (some ad489) t486.length co27:Value).ownBlock) (.slice (some ⟨go34,0,none⟩) x5_3.length co25) y491:=(by rw [hw,Ny491.out];exact HP37.1);clear HP37;replace HO_33:=yam (Kd.R_after (v:=(.slice (some ⟨go34,0,none⟩) x5_3.length co25)) (v1:=(.slice (some ⟨go34,0,none⟩) x5_3.length co25)) (ok:=(fun _=>True)) (by (with_reducible repeat (first|apply Kd.Ya|apply Kd.Yn|apply Kd.Yd));exact Kd.R_mono HO_33.out (fun _ hk=>⟨trivial,hk⟩)) hg (.inl rfl));replace BK478:=yam (blk_grown (g:=gb478) (o:= .cells #[.int .i64 a0_0,.slice A0_1 l0_1.length c0_1,.slice (some ad484) l0_2.length c0_2] 30 (0,0)) (ybz BK478.out) hg (Kd.R_ne HO_5.out BK478.out (by decide)));replace BK485:=yam (blk_grown (g:=gb485) (o:= .cells #[.int .i64 ((rd_T67 l0_2 x25_2).f0),.slice (some ad490) ((rd_T67 l0_2 x25_2).f1).length c484_1,.int .i64 ((rd_T67 l0_2 x25_2).f2)] 67 (0,0)) (ybz BK485.out) hg (Kd.R_ne HO_5.out BK485.out (by decide)));replace HO_5:=yam (hp_);replace HB:=yam ((by rw [hw];exact below_set (HB.out) GB34.out:Below w.heap.size w w38));clear hg hw hp_))
    (try simp only [← hl5_3])
    go_roundg k3
    case measure=>have:=HJ2.out;have:=HK2.out;have:=HK3.out;omega
    case rel=>exact ⟨(y491),(wrap64 (x35_3 + 1)),yeq,H,⟨by have:=HJ2.out;have:=HK2.out;have:=HK3.out;omega⟩,⟨by (try simp only [hl5_3]);(with_reducible repeat (first|apply Kd.Ya|apply Kd.Yn|apply Kd.Yd));exact HO_5.out⟩,⟨by (try simp only [hl5_3]);(with_reducible repeat (first|apply Kd.Ya|apply Kd.Yn|apply Kd.Yd));exact Kd.R_mono HO_33.out (fun _ hk=>hk.2)⟩,⟨by (try simp only [hl5_3]);(with_reducible repeat (first|refine ybn ?_ _|refine ybd ?_|refine yba ?_ _));exact BK478.out⟩,⟨by (try simp only [hl5_3]);(with_reducible repeat (first|refine ybn ?_ _|refine ybd ?_|refine yba ?_ _));exact BK485.out⟩,⟨yhb⟩⟩
def impl_NarrowBy.f (k:Nat)(a0_0:Int)(l0_1:List Int)(l0_2:List (S67))(l1:List Int)(a2:Int):Option (List Int):=(impl_PuzzleValid.f k a0_0 l0_1 l0_2).bind fun t493=>(if t493=true then (if a2=1 then ((impl_NarrowSingles.f k l1 a0_0).bind fun t494=>(some t494)) else (if a2=2 then ((impl_NarrowHidden.f k l1 a0_0).bind fun t497=>(some t497)) else (if a2=3 then ((impl_NarrowPairs.f k l1 a0_0).bind fun t500=>(some t500)) else (if a2=4 then ((impl_NarrowRules.f k a0_0 l0_1 l0_2 l1).bind fun t503=>(some t503)) else (some ([]:List Int)))))) else (some ([]:List Int)))
theorem impl_NarrowBy.calls (k:Nat)(a0_0:Int)(A0_1:Option Addr)(c0_1:Nat)(l0_1:List Int)(A0_2:Option Addr)(c0_2:Nat)(l0_2:List (S67))(A1:Option Addr)(c1:Nat)(l1:List Int)(a2:Int)(r:List Int)(w:World)(hr0_1:Kd.C (Kd.int .i64) w A0_1 l0_1.length l0_1)(hc0_1:l0_1.length≤c0_1)(hr0_2:Kd.C k67 w A0_2 l0_2.length l0_2)(hc0_2:l0_2.length≤c0_2)(hr1:Kd.C (Kd.int .i64) w A1 l1.length l1)(hc1:l1.length≤c1)(h:impl_NarrowBy.f k a0_0 l0_1 l0_2 l1 a2=some r) :
  Calls Try.prog 27 #[.agg #[.int .i64 a0_0,.slice A0_1 l0_1.length c0_1,.slice A0_2 l0_2.length c0_2],.slice A1 l1.length c1,.int .i64 a2] w fun e w'=>∃ v0_:Value,e= .returned (v0_)∧Kd.R (Kd.int .i64) 3 w' w.heap.size (fun _=>True) v0_ r∧Below w.heap.size w w':=by
 have hu30:=Try.underlying30
 have HR0_1:=yam hr0_1
 have HC0_1:=yam hc0_1
 clear hr0_1 hc0_1
 have HR0_2:=yam hr0_2
 have HC0_2:=yam hc0_2
 clear hr0_2 hc0_2
 have HR1:=yam hr1
 have HC1:=yam hc1
 clear hr1 hc1
 have HB:=yam (Below.refl w.heap.size w)
 unfold impl_NarrowBy.f at h
 have H:=h
 clear h
 replace H:=ybi H;obtain ⟨t493,A4,H⟩:=H
 try dsimp only at H
 cases t493
 ·replace H:=yff H
  obtain rfl:=ysi H
  go_enter Try.func27,Try.ntmps27
  go_wp2_with (first|(refine ybe 3 #[.int .i64 a0_0,.slice A0_1 l0_1.length c0_1,.slice A0_2 l0_2.length c0_2] 30 ?_;intro gb492 hg w37 hbox hb;have BK492:=yam (hbox);have GW492:=yam ((by rw [hg];exact (below_size (yez HB.out)):w.heap.size≤gb492));replace HB:=yam (below_step (yez HB.out) hb);have GE492:=GW492;clear hb hbox hg;obtain ⟨hcz38_0,hcz38_1,hcz38_2,hfz38_0,hfz38_1,hfz38_2⟩:=ybc BK492.out)|(refine goesL_ (some 8) rfl rfl Try.func36 (by kernel_rfl) rfl #[.agg #[.int .i64 a0_0,.slice A0_1 l0_1.length c0_1,.slice A0_2 l0_2.length c0_2]] rfl ymd ?_;(with_reducible refine (impl_PuzzleValid.calls k a0_0 _ _ l0_1 _ _ l0_2 false _ ?_ ?_ ?_ ?_ A4.out).mono ?_);exact Kd.Cz ((Kd.C_below HR0_1.out HB.out));exact HC0_1.out;exact Kd.Cz ((Kd.C_below HR0_2.out HB.out));exact HC0_2.out;rintro e w39 ⟨rfl,hb⟩;refine ⟨_,rfl,?_⟩;replace BK492:=yam (ybb BK492.out hb);replace HB:=yam (below_step yhb hb);(try clear hb)))
  go_ret
  exact ⟨_,yer,by first|exact Kd.R_nil _ _ _ _ _|exact Kd.N_nil _ _ _ _ _|exact Kd.V_nil _ _ _ _ _|exact Kd.Q_nil _ _ _ _ _|exact Kd.S_nil _ _ _ _ _,yhb⟩
 replace H:=ytt H
 replace H:=yit H;obtain ⟨c6,H⟩ | ⟨c6,H⟩:=H
 ·have c6b0:(a2 == 1)=true:=beq_iff_eq.mpr c6
  have c6b1:(a2 != 1)=false:=bne_eq_false_iff_eq.mpr c6
  clear c6
  replace H:=ybi H;obtain ⟨t494,A7,H⟩:=H
  try dsimp only at H
  obtain rfl:=ysi H
  go_enter Try.func27,Try.ntmps27
  go_wp2_with (first|(refine ybe 3 #[.int .i64 a0_0,.slice A0_1 l0_1.length c0_1,.slice A0_2 l0_2.length c0_2] 30 ?_;intro gb492 hg w8 hbox hb;have BK492:=yam (hbox);have GW492:=yam ((by rw [hg];exact (below_size (yez HB.out)):w.heap.size≤gb492));replace HB:=yam (below_step (yez HB.out) hb);have GE492:=GW492;clear hb hbox hg;obtain ⟨hcz9_0,hcz9_1,hcz9_2,hfz9_0,hfz9_1,hfz9_2⟩:=ybc BK492.out)|(refine goesL_ (some 8) rfl rfl Try.func36 (by kernel_rfl) rfl #[.agg #[.int .i64 a0_0,.slice A0_1 l0_1.length c0_1,.slice A0_2 l0_2.length c0_2]] rfl ymd ?_;(with_reducible refine (impl_PuzzleValid.calls k a0_0 _ _ l0_1 _ _ l0_2 true _ ?_ ?_ ?_ ?_ A4.out).mono ?_);exact Kd.Cz ((Kd.C_below HR0_1.out HB.out));exact HC0_1.out;exact Kd.Cz ((Kd.C_below HR0_2.out HB.out));exact HC0_2.out;rintro e w10 ⟨rfl,hb⟩;refine ⟨_,rfl,?_⟩;replace BK492:=yam (ybb BK492.out hb);replace HB:=yam (below_step yhb hb);(try clear hb);obtain ⟨hcz11_0,hcz11_1,hcz11_2,hfz11_0,hfz11_1,hfz11_2⟩:=ybc BK492.out)|(refine goesL_ (some 16) rfl rfl Try.func58 (by kernel_rfl) rfl #[.slice A1 l1.length c1,.int .i64 a0_0] rfl ymd ?_;(with_reducible refine (impl_NarrowSingles.calls k _ _ l1 a0_0 t494 _ ?_ ?_ A7.out).mono ?_);exact Kd.Cz ((Kd.C_below HR1.out HB.out));exact HC1.out;rintro e w12 ⟨v495,rfl,ho0,hb⟩;refine ⟨_,rfl,?_⟩;have HO496:=yam (Kd.R_lower ho0 (below_size yhb));replace BK492:=yam (ybb BK492.out hb);replace HB:=yam (below_step yhb hb);(try clear hb);(try clear ho0)))
  go_ret
  exact ⟨_,yer,yka HO496.out,yhb⟩
 have c6b0:(a2 == 1)=false:=beq_eq_false_iff_ne.mpr c6
 have c6b1:(a2 != 1)=true:=bne_iff_ne.mpr c6
 replace H:=yit H;obtain ⟨c13,H⟩ | ⟨c13,H⟩:=H
 ·have c13b0:(a2 == 2)=true:=beq_iff_eq.mpr c13
  have c13b1:(a2 != 2)=false:=bne_eq_false_iff_eq.mpr c13
  clear c13
  replace H:=ybi H;obtain ⟨t497,A14,H⟩:=H
  try dsimp only at H
  obtain rfl:=ysi H
  go_enter Try.func27,Try.ntmps27
  go_wp2_with (first|(refine ybe 3 #[.int .i64 a0_0,.slice A0_1 l0_1.length c0_1,.slice A0_2 l0_2.length c0_2] 30 ?_;intro gb492 hg w15 hbox hb;have BK492:=yam (hbox);have GW492:=yam ((by rw [hg];exact (below_size (yez HB.out)):w.heap.size≤gb492));replace HB:=yam (below_step (yez HB.out) hb);have GE492:=GW492;clear hb hbox hg;obtain ⟨hcz16_0,hcz16_1,hcz16_2,hfz16_0,hfz16_1,hfz16_2⟩:=ybc BK492.out)|(refine goesL_ (some 8) rfl rfl Try.func36 (by kernel_rfl) rfl #[.agg #[.int .i64 a0_0,.slice A0_1 l0_1.length c0_1,.slice A0_2 l0_2.length c0_2]] rfl ymd ?_;(with_reducible refine (impl_PuzzleValid.calls k a0_0 _ _ l0_1 _ _ l0_2 true _ ?_ ?_ ?_ ?_ A4.out).mono ?_);exact Kd.Cz ((Kd.C_below HR0_1.out HB.out));exact HC0_1.out;exact Kd.Cz ((Kd.C_below HR0_2.out HB.out));exact HC0_2.out;rintro e w17 ⟨rfl,hb⟩;refine ⟨_,rfl,?_⟩;replace BK492:=yam (ybb BK492.out hb);replace HB:=yam (below_step yhb hb);(try clear hb);obtain ⟨hcz18_0,hcz18_1,hcz18_2,hfz18_0,hfz18_1,hfz18_2⟩:=ybc BK492.out)|(refine goesL_ (some 22) rfl rfl Try.func59 (by kernel_rfl) rfl #[.slice A1 l1.length c1,.int .i64 a0_0] rfl ymd ?_;(with_reducible refine (impl_NarrowHidden.calls k _ _ l1 a0_0 t497 _ ?_ ?_ A14.out).mono ?_);exact Kd.Cz ((Kd.C_below HR1.out HB.out));exact HC1.out;rintro e w19 ⟨v498,rfl,ho0,hb⟩;refine ⟨_,rfl,?_⟩;have HO499:=yam (Kd.R_lower ho0 (below_size yhb));replace BK492:=yam (ybb BK492.out hb);replace HB:=yam (below_step yhb hb);(try clear hb);(try clear ho0)))
  go_ret
  exact ⟨_,yer,yka HO499.out,yhb⟩
 have c13b0:(a2 == 2)=false:=beq_eq_false_iff_ne.mpr c13
 have c13b1:(a2 != 2)=true:=bne_iff_ne.mpr c13
 replace H:=yit H;obtain ⟨c20,H⟩ | ⟨c20,H⟩:=H
 ·have c20b0:(a2 == 3)=true:=beq_iff_eq.mpr c20
  have c20b1:(a2 != 3)=false:=bne_eq_false_iff_eq.mpr c20
  clear c20
  replace H:=ybi H;obtain ⟨t500,A21,H⟩:=H
  try dsimp only at H
  obtain rfl:=ysi H
  go_enter Try.func27,Try.ntmps27
  go_wp2_with (first|(refine ybe 3 #[.int .i64 a0_0,.slice A0_1 l0_1.length c0_1,.slice A0_2 l0_2.length c0_2] 30 ?_;intro gb492 hg w22 hbox hb;have BK492:=yam (hbox);have GW492:=yam ((by rw [hg];exact (below_size (yez HB.out)):w.heap.size≤gb492));replace HB:=yam (below_step (yez HB.out) hb);have GE492:=GW492;clear hb hbox hg;obtain ⟨hcz23_0,hcz23_1,hcz23_2,hfz23_0,hfz23_1,hfz23_2⟩:=ybc BK492.out)|(refine goesL_ (some 8) rfl rfl Try.func36 (by kernel_rfl) rfl #[.agg #[.int .i64 a0_0,.slice A0_1 l0_1.length c0_1,.slice A0_2 l0_2.length c0_2]] rfl ymd ?_;(with_reducible refine (impl_PuzzleValid.calls k a0_0 _ _ l0_1 _ _ l0_2 true _ ?_ ?_ ?_ ?_ A4.out).mono ?_);exact Kd.Cz ((Kd.C_below HR0_1.out HB.out));exact HC0_1.out;exact Kd.Cz ((Kd.C_below HR0_2.out HB.out));exact HC0_2.out;rintro e w24 ⟨rfl,hb⟩;refine ⟨_,rfl,?_⟩;replace BK492:=yam (ybb BK492.out hb);replace HB:=yam (below_step yhb hb);(try clear hb);obtain ⟨hcz25_0,hcz25_1,hcz25_2,hfz25_0,hfz25_1,hfz25_2⟩:=ybc BK492.out)|(refine goesL_ (some 28) rfl rfl Try.func60 (by kernel_rfl) rfl #[.slice A1 l1.length c1,.int .i64 a0_0] rfl ymd ?_;(with_reducible refine (impl_NarrowPairs.calls k _ _ l1 a0_0 t500 _ ?_ ?_ A21.out).mono ?_);exact Kd.Cz ((Kd.C_below HR1.out HB.out));exact HC1.out;rintro e w26 ⟨v501,rfl,ho0,hb⟩;refine ⟨_,rfl,?_⟩;have HO502:=yam (Kd.R_lower ho0 (below_size yhb));replace BK492:=yam (ybb BK492.out hb);replace HB:=yam (below_step yhb hb);(try clear hb);(try clear ho0)))
  go_ret
  exact ⟨_,yer,yka HO502.out,yhb⟩
 have c20b0:(a2 == 3)=false:=beq_eq_false_iff_ne.mpr c20
 have c20b1:(a2 != 3)=true:=bne_iff_ne.mpr c20
 replace H:=yit H;obtain ⟨c27,H⟩ | ⟨c27,H⟩:=H
 rotate_left
 ·have c27b0:(a2 == 4)=false:=beq_eq_false_iff_ne.mpr c27
  have c27b1:(a2 != 4)=true:=bne_iff_ne.mpr c27
  obtain rfl:=ysi H
  go_enter Try.func27,Try.ntmps27
  go_wp2_with (first|(refine ybe 3 #[.int .i64 a0_0,.slice A0_1 l0_1.length c0_1,.slice A0_2 l0_2.length c0_2] 30 ?_;intro gb492 hg w34 hbox hb;have BK492:=yam (hbox);have GW492:=yam ((by rw [hg];exact (below_size (yez HB.out)):w.heap.size≤gb492));replace HB:=yam (below_step (yez HB.out) hb);have GE492:=GW492;clear hb hbox hg;obtain ⟨hcz35_0,hcz35_1,hcz35_2,hfz35_0,hfz35_1,hfz35_2⟩:=ybc BK492.out)|(refine goesL_ (some 8) rfl rfl Try.func36 (by kernel_rfl) rfl #[.agg #[.int .i64 a0_0,.slice A0_1 l0_1.length c0_1,.slice A0_2 l0_2.length c0_2]] rfl ymd ?_;(with_reducible refine (impl_PuzzleValid.calls k a0_0 _ _ l0_1 _ _ l0_2 true _ ?_ ?_ ?_ ?_ A4.out).mono ?_);exact Kd.Cz ((Kd.C_below HR0_1.out HB.out));exact HC0_1.out;exact Kd.Cz ((Kd.C_below HR0_2.out HB.out));exact HC0_2.out;rintro e w36 ⟨rfl,hb⟩;refine ⟨_,rfl,?_⟩;replace BK492:=yam (ybb BK492.out hb);replace HB:=yam (below_step yhb hb);(try clear hb)))
  go_ret
  exact ⟨_,yer,by first|exact Kd.R_nil _ _ _ _ _|exact Kd.N_nil _ _ _ _ _|exact Kd.V_nil _ _ _ _ _|exact Kd.Q_nil _ _ _ _ _|exact Kd.S_nil _ _ _ _ _,yhb⟩
 have c27b0:(a2 == 4)=true:=beq_iff_eq.mpr c27
 have c27b1:(a2 != 4)=false:=bne_eq_false_iff_eq.mpr c27
 clear c27
 replace H:=ybi H;obtain ⟨t503,A28,H⟩:=H
 try dsimp only at H
 obtain rfl:=ysi H
 go_enter Try.func27,Try.ntmps27
 go_wp2_with (first|(refine ybe 3 #[.int .i64 a0_0,.slice A0_1 l0_1.length c0_1,.slice A0_2 l0_2.length c0_2] 30 ?_;intro gb492 hg w29 hbox hb;have BK492:=yam (hbox);have GW492:=yam ((by rw [hg];exact (below_size (yez HB.out)):w.heap.size≤gb492));replace HB:=yam (below_step (yez HB.out) hb);have GE492:=GW492;clear hb hbox hg;obtain ⟨hcz30_0,hcz30_1,hcz30_2,hfz30_0,hfz30_1,hfz30_2⟩:=ybc BK492.out)|(refine goesL_ (some 8) rfl rfl Try.func36 (by kernel_rfl) rfl #[.agg #[.int .i64 a0_0,.slice A0_1 l0_1.length c0_1,.slice A0_2 l0_2.length c0_2]] rfl ymd ?_;(with_reducible refine (impl_PuzzleValid.calls k a0_0 _ _ l0_1 _ _ l0_2 true _ ?_ ?_ ?_ ?_ A4.out).mono ?_);exact Kd.Cz ((Kd.C_below HR0_1.out HB.out));exact HC0_1.out;exact Kd.Cz ((Kd.C_below HR0_2.out HB.out));exact HC0_2.out;rintro e w31 ⟨rfl,hb⟩;refine ⟨_,rfl,?_⟩;replace BK492:=yam (ybb BK492.out hb);replace HB:=yam (below_step yhb hb);(try clear hb);obtain ⟨hcz32_0,hcz32_1,hcz32_2,hfz32_0,hfz32_1,hfz32_2⟩:=ybc BK492.out)|(refine goesL_ (some 33) rfl rfl Try.func61 (by kernel_rfl) rfl #[.agg #[.int .i64 a0_0,.slice A0_1 l0_1.length c0_1,.slice A0_2 l0_2.length c0_2],.slice A1 l1.length c1] rfl ymd ?_;(with_reducible refine (impl_NarrowRules.calls k a0_0 _ _ l0_1 _ _ l0_2 _ _ l1 t503 _ ?_ ?_ ?_ ?_ ?_ ?_ A28.out).mono ?_);exact Kd.Cz ((Kd.C_below HR0_1.out HB.out));exact HC0_1.out;exact Kd.Cz ((Kd.C_below HR0_2.out HB.out));exact HC0_2.out;exact Kd.Cz ((Kd.C_below HR1.out HB.out));exact HC1.out;rintro e w33 ⟨v504,rfl,ho0,hb⟩;refine ⟨_,rfl,?_⟩;have HO505:=yam (Kd.R_lower ho0 (below_size yhb));replace BK492:=yam (ybb BK492.out hb);replace HB:=yam (below_step yhb hb);(try clear hb);(try clear ho0)))
 go_ret
 exact ⟨_,yer,yka HO505.out,yhb⟩
def slices_Equal_int_int.l0:Nat→List Int→List Int→Int→Int→Option (Bool)
 | 0,_,_,_,_=>none
 | k + 1,x0,x1,x12,x13=>if x13 < x12 then (if 0≤x13 then (if x13 < (x0.length:Int) then (if x13 < (x1.length:Int) then (if (rd x0 x13)=(rd x1 x13) then (slices_Equal_int_int.l0 k x0 x1 x12 (wrap64 (x13 + 1))) else (some false)) else (none)) else (none)) else (none)) else (some true)
def slices_Equal_int_int.f (k:Nat)(l0:List Int)(l1:List Int):Option (Bool):=if (l0.length:Int)=(l1.length:Int) then (slices_Equal_int_int.l0 k l0 l1 (l0.length:Int) 0) else (some false)
theorem slices_Equal_int_int.calls (k:Nat)(A0:Option Addr)(c0:Nat)(l0:List Int)(A1:Option Addr)(c1:Nat)(l1:List Int)(r:Bool)(w:World)(hr0:Kd.C (Kd.int .i64) w A0 l0.length l0)(hc0:l0.length≤c0)(hr1:Kd.C (Kd.int .i64) w A1 l1.length l1)(hc1:l1.length≤c1)(h:slices_Equal_int_int.f k l0 l1=some r) :
  Calls Try.prog 74 #[.slice A0 l0.length c0,.slice A1 l1.length c1] w fun e w'=>e= .returned (.bool r)∧Drawn0 w w':=by
 have HR0:=yam hr0
 have HC0:=yam hc0
 clear hr0 hc0
 have HR1:=yam hr1
 have HC1:=yam hc1
 clear hr1 hc1
 unfold slices_Equal_int_int.f at h
 have H:=h
 clear h
 replace H:=yit H;obtain ⟨c3,H⟩ | ⟨c3,H⟩:=H
 rotate_left
 ·have c3b0:((l0.length:Int) == (l1.length:Int))=false:=beq_eq_false_iff_ne.mpr c3
  have c3b1:((l0.length:Int) != (l1.length:Int))=true:=bne_iff_ne.mpr c3
  have c3b2:(l0.length == l1.length)=false:=by first|simpa using c3|(simp at c3 ⊢;omega)
  obtain rfl:=ysi H
  go_enter Try.func74,Try.ntmps74
  go_wp2
  repeat (go_quiet (fail);try go_wp2)
  go_ret
  exact ⟨yeq,by repeat (first|exact Drawn0.refl _|apply Drawn0.step)⟩
 have c3b0:((l0.length:Int) == (l1.length:Int))=true:=beq_iff_eq.mpr c3
 have c3b1:((l0.length:Int) != (l1.length:Int))=false:=bne_eq_false_iff_eq.mpr c3
 have c3b2:(l0.length == l1.length)=true:=by first|simpa using c3|(simp at c3 ⊢;omega)
 clear c3
 replace H:=yam H
 go_enter Try.func74,Try.ntmps74
 go_wp2
 repeat (go_quiet (fail);try go_wp2)
 go_loopg [13] k (fun kq v13 w'=>∃ (x13_1:Int),v13= .int .i64 x13_1∧Aside0 (slices_Equal_int_int.l0 kq l0 l1 (l0.length:Int) x13_1=some r)∧Aside0 (kq≤k)∧Drawn0 w w')
 case atStart=>exact ⟨(0),yeq,H,⟨Nat.le_refl _⟩,by repeat (first|exact Drawn0.refl _|apply Drawn0.step)⟩
 case round =>
  clear H
  try clear c1
  try clear c3b0
  try clear c3b1
  try clear c3b2
  obtain ⟨x13_1,rfl,HA,HK1,⟨m1,rfl⟩⟩:=hrel
  rcases gk with _|k1
  ·exact absurd HA.out (by simp [slices_Equal_int_int.l0])
  obtain ⟨H⟩:=HA
  simp only [slices_Equal_int_int.l0] at H
  replace H:=yis H;obtain ⟨c4b0,H⟩ | ⟨c4b0,H⟩:=H
  rotate_left
  ·obtain rfl:=ysi H
   go_wp2
   repeat (go_quiet (fail);try go_wp2)
   go_ret
   exact ⟨yeq,by repeat (first|exact Drawn0.refl _|apply Drawn0.step)⟩
  replace H:=yif H;obtain ⟨c5b0,H⟩:=H
  replace H:=yif H;obtain ⟨c6b0,H⟩:=H
  replace H:=yif H;obtain ⟨c7b0,H⟩:=H
  replace H:=yit H;obtain ⟨c8,H⟩ | ⟨c8,H⟩:=H
  rotate_left
  ·have c8b0:((rd l0 x13_1) == (rd l1 x13_1))=false:=beq_eq_false_iff_ne.mpr c8
   have c8b1:((rd l0 x13_1) != (rd l1 x13_1))=true:=bne_iff_ne.mpr c8
   obtain rfl:=ysi H
   obtain ⟨ad506,e506,hx506_0,p506,q506⟩:=yat HR0.out x13_1
   cases e506
   obtain ⟨ad507,e507,hx507_0,p507,q507⟩:=yat HR1.out x13_1
   cases e507
   go_wp2
   repeat (go_quiet (fail);try go_wp2)
   go_ret
   exact ⟨yeq,by repeat (first|exact Drawn0.refl _|apply Drawn0.step)⟩
  have c8b0:((rd l0 x13_1) == (rd l1 x13_1))=true:=beq_iff_eq.mpr c8
  have c8b1:((rd l0 x13_1) != (rd l1 x13_1))=false:=bne_eq_false_iff_eq.mpr c8
  clear c8
  replace H:=yam H
  obtain ⟨ad506,e506,hx506_0,p506,q506⟩:=yat HR0.out x13_1
  cases e506
  obtain ⟨ad507,e507,hx507_0,p507,q507⟩:=yat HR1.out x13_1
  cases e507
  go_wp2
  repeat (go_quiet (fail);try go_wp2)
  go_roundg k1
  case measure=>have:=HK1.out;omega
  case rel=>exact ⟨(wrap64 (x13_1 + 1)),yeq,H,⟨by have:=HK1.out;omega⟩,by repeat (first|exact Drawn0.refl _|apply Drawn0.step)⟩
def impl_nextRound.l0:Nat→List Int→Int→Int→Int→List Int→List (S67)→Option (List Int × Int)
 | 0,_,_,_,_,_,_=>none
 | k + 1,x1,x2,x8,x509000,x509001,x509002=>if x8≤x2 then ((impl_NarrowBy.f k x509000 x509001 x509002 x1 x8).bind fun t509=>((slices_Equal_int_int.f k t509 x1).bind fun t512=>(if t512=true then (impl_nextRound.l0 k x1 x2 (wrap64 (x8 + 1)) x509000 x509001 x509002) else (some (t509,x8))))) else (some (([]:List Int),0))
def impl_nextRound.f (k:Nat)(a0_0:Int)(l0_1:List Int)(l0_2:List (S67))(l1:List Int)(a2:Int):Option (List Int × Int):=impl_nextRound.l0 k l1 a2 1 a0_0 l0_1 l0_2
theorem impl_nextRound.calls (k:Nat)(a0_0:Int)(A0_1:Option Addr)(c0_1:Nat)(l0_1:List Int)(A0_2:Option Addr)(c0_2:Nat)(l0_2:List (S67))(A1:Option Addr)(c1:Nat)(l1:List Int)(a2:Int)(r1:List Int)(r2:Int)(w:World)(hr0_1:Kd.C (Kd.int .i64) w A0_1 l0_1.length l0_1)(hc0_1:l0_1.length≤c0_1)(hr0_2:Kd.C k67 w A0_2 l0_2.length l0_2)(hc0_2:l0_2.length≤c0_2)(hr1:Kd.C (Kd.int .i64) w A1 l1.length l1)(hc1:l1.length≤c1)(h:impl_nextRound.f k a0_0 l0_1 l0_2 l1 a2=some (r1,r2)) :
  Calls Try.prog 44 #[.agg #[.int .i64 a0_0,.slice A0_1 l0_1.length c0_1,.slice A0_2 l0_2.length c0_2],.slice A1 l1.length c1,.int .i64 a2] w fun e w'=>∃ v0_:Value,e= .returned (.tuple #[v0_,.int .i64 r2])∧Kd.R (Kd.int .i64) 3 w' w.heap.size (fun _=>True) v0_ r1∧Below w.heap.size w w':=by
 have hu30:=Try.underlying30
 have HR0_1:=yam hr0_1
 have HC0_1:=yam hc0_1
 clear hr0_1 hc0_1
 have HR0_2:=yam hr0_2
 have HC0_2:=yam hc0_2
 clear hr0_2 hc0_2
 have HR1:=yam hr1
 have HC1:=yam hc1
 clear hr1 hc1
 have HB:=yam (Below.refl w.heap.size w)
 unfold impl_nextRound.f at h
 have H:=h
 clear h
 replace H:=yam H
 go_enter Try.func44,Try.ntmps44
 go_wp2_with (first|(refine ybe 3 #[.int .i64 a0_0,.slice A0_1 l0_1.length c0_1,.slice A0_2 l0_2.length c0_2] 30 ?_;intro gb508 hg w4 hbox hb;have BK508:=yam (hbox);have GW508:=yam ((by rw [hg];exact (below_size (yez HB.out)):w.heap.size≤gb508));replace HB:=yam (below_step (yez HB.out) hb);have GE508:=GW508;clear hb hbox hg))
 go_loopg [8] k (fun kq v8 w'=>∃ (x8_1:Int),v8= .int .i64 x8_1∧Aside0 (impl_nextRound.l0 kq l1 a2 x8_1 a0_0 l0_1 l0_2=some (r1,r2))∧Aside0 (kq≤k)∧Aside0 (w'.heap[gb508]?=some (.cells #[.int .i64 a0_0,(.slice A0_1 l0_1.length c0_1),(.slice A0_2 l0_2.length c0_2)] 30 (0,0)))∧Aside0 (Below w.heap.size w w'))
 case atStart=>exact ⟨(1),yeq,H,⟨Nat.le_refl _⟩,⟨ybk BK508.out⟩,⟨yhb⟩⟩
 case round =>
  clear H
  try clear c1
  obtain ⟨x8_1,rfl,HA,HK1,BK508,HB⟩:=hrel
  rcases gk with _|k1
  ·exact absurd HA.out (by simp [impl_nextRound.l0])
  obtain ⟨H⟩:=HA
  simp only [impl_nextRound.l0] at H
  replace H:=yis H;obtain ⟨c5b0,H⟩ | ⟨c5b0,H⟩:=H
  rotate_left
  ·simp only [Option.some.injEq,Prod.mk.injEq] at H
   obtain ⟨rfl,rfl⟩:=H
   go_wp2
   go_ret2
   exact ⟨_,yer,by first|exact Kd.R_nil _ _ _ _ _|exact Kd.N_nil _ _ _ _ _|exact Kd.V_nil _ _ _ _ _|exact Kd.Q_nil _ _ _ _ _|exact Kd.S_nil _ _ _ _ _,yhb⟩
  replace H:=ybi H;obtain ⟨t509,A6,H⟩:=H
  replace H:((slices_Equal_int_int.f k1 t509 l1).bind fun t512=>(if t512=true then (impl_nextRound.l0 k1 l1 a2 (wrap64 (x8_1 + 1)) a0_0 l0_1 l0_2) else (some (t509,x8_1))))=some (r1,r2):=H
  replace H:=ybi H;obtain ⟨t512,A7,H⟩:=H
  replace H:(if t512=true then (impl_nextRound.l0 k1 l1 a2 (wrap64 (x8_1 + 1)) a0_0 l0_1 l0_2) else (some (t509,x8_1)))=some (r1,r2):=H
  cases t512
  rotate_left
  ·replace H:=ytt H
   replace H:=yam H
   obtain ⟨hcz9_0,hcz9_1,hcz9_2,hfz9_0,hfz9_1,hfz9_2⟩:=ybc BK508.out
   go_wp2_with (first|(refine goesL_ (some 18) rfl rfl Try.func27 (by kernel_rfl) rfl #[.agg #[.int .i64 a0_0,.slice A0_1 l0_1.length c0_1,.slice A0_2 l0_2.length c0_2],.slice A1 l1.length c1,.int .i64 x8_1] rfl ymd ?_;(with_reducible refine (impl_NarrowBy.calls k1 a0_0 _ _ l0_1 _ _ l0_2 _ _ l1 x8_1 t509 _ ?_ ?_ ?_ ?_ ?_ ?_ A6.out).mono ?_);exact Kd.Cz ((Kd.C_below HR0_1.out HB.out));exact HC0_1.out;exact Kd.Cz ((Kd.C_below HR0_2.out HB.out));exact HC0_2.out;exact Kd.Cz ((Kd.C_below HR1.out HB.out));exact HC1.out;rintro e w10 ⟨v510,rfl,ho0,hb⟩;refine ⟨_,rfl,?_⟩;have HO511:=yam (Kd.R_lower ho0 (below_size yhb));replace BK508:=yam (ybb BK508.out hb);replace HB:=yam (below_step yhb hb);(try clear hb);(try clear ho0);obtain ⟨Ao11,co11,eo11⟩:=Kd.R_slice HO511.out;subst eo11)|(refine goesL_ (some 21) rfl rfl Try.func74 (by kernel_rfl) rfl #[.slice Ao11 t509.length co11,.slice A1 l1.length c1] rfl ymd ?_;(with_reducible refine (slices_Equal_int_int.calls k1 _ _ t509 _ _ l1 true _ ?_ ?_ ?_ ?_ A7.out).mono ?_);exact Kd.Cz (Kd.Yr HO511.out).2.2;exact (Kd.Yr HO511.out).2.1;exact Kd.Cz ((Kd.C_below HR1.out HB.out));exact HC1.out;rintro e w' ⟨rfl,⟨nd,rfl⟩⟩;refine ⟨_,rfl,?_⟩))
   go_roundg k1
   case measure=>have:=HK1.out;omega
   case rel=>exact ⟨(wrap64 (x8_1 + 1)),yeq,H,⟨by have:=HK1.out;omega⟩,⟨ybk BK508.out⟩,⟨yhb⟩⟩
  replace H:=yff H
  simp only [Option.some.injEq,Prod.mk.injEq] at H
  obtain ⟨rfl,rfl⟩:=H
  obtain ⟨hcz12_0,hcz12_1,hcz12_2,hfz12_0,hfz12_1,hfz12_2⟩:=ybc BK508.out
  go_wp2_with (first|(refine goesL_ (some 18) rfl rfl Try.func27 (by kernel_rfl) rfl #[.agg #[.int .i64 a0_0,.slice A0_1 l0_1.length c0_1,.slice A0_2 l0_2.length c0_2],.slice A1 l1.length c1,.int .i64 x8_1] rfl ymd ?_;(with_reducible refine (impl_NarrowBy.calls k1 a0_0 _ _ l0_1 _ _ l0_2 _ _ l1 x8_1 t509 _ ?_ ?_ ?_ ?_ ?_ ?_ A6.out).mono ?_);exact Kd.Cz ((Kd.C_below HR0_1.out HB.out));exact HC0_1.out;exact Kd.Cz ((Kd.C_below HR0_2.out HB.out));exact HC0_2.out;exact Kd.Cz ((Kd.C_below HR1.out HB.out));exact HC1.out;rintro e w13 ⟨v510,rfl,ho0,hb⟩;refine ⟨_,rfl,?_⟩;have HO511:=yam (Kd.R_lower ho0 (below_size yhb));replace BK508:=yam (ybb BK508.out hb);replace HB:=yam (below_step yhb hb);(try clear hb);(try clear ho0);obtain ⟨Ao14,co14,eo14⟩:=Kd.R_slice HO511.out;subst eo14)|(refine goesL_ (some 21) rfl rfl Try.func74 (by kernel_rfl) rfl #[.slice Ao14 t509.length co14,.slice A1 l1.length c1] rfl ymd ?_;(with_reducible refine (slices_Equal_int_int.calls k1 _ _ t509 _ _ l1 false _ ?_ ?_ ?_ ?_ A7.out).mono ?_);exact Kd.Cz (Kd.Yr HO511.out).2.2;exact (Kd.Yr HO511.out).2.1;exact Kd.Cz ((Kd.C_below HR1.out HB.out));exact HC1.out;rintro e w' ⟨rfl,⟨nd,rfl⟩⟩;refine ⟨_,rfl,?_⟩))
  go_ret2
  exact ⟨_,yer,yka HO511.out,yhb⟩
mutual
def impl_NarrowAll.j0:Nat→List Int→Int→Bool→Int→List Int→List (S67)→Option (List Int × Int)
 | 0,_,_,_,_,_,_=>none
 | k + 1,x1,x2,x29,x679000,x679001,x679002=>if x29=true then (some (([]:List Int),(-1))) else ((slices_Clone_int_int.f x1).bind fun t681=>(impl_NarrowAll.l0 k x2 t681 0 x679000 x679001 x679002))
def impl_NarrowAll.l0:Nat→Int→List Int→Int→Int→List Int→List (S67)→Option (List Int × Int)
 | 0,_,_,_,_,_,_=>none
 | k + 1,x2,x8,x9,x679000,x679001,x679002=>(impl_nextRound.f k x679000 x679001 x679002 x8 x2).bind fun bt684=>(if bt684.2=0 then (some (x8,x9)) else (impl_NarrowAll.l0 k x2 bt684.1 (wrap64 (x9 + 1)) x679000 x679001 x679002))
end
def impl_NarrowAll.f (k:Nat)(a0_0:Int)(l0_1:List Int)(l0_2:List (S67))(l1:List Int)(a2:Int):Option (List Int × Int):=(impl_PuzzleValid.f k a0_0 l0_1 l0_2).bind fun t679=>(if t679=true then ((impl_MasksValid.f k l1 a0_0).bind fun t680=>(if t680=true then (if a2 < 1 then (impl_NarrowAll.j0 k l1 a2 true a0_0 l0_1 l0_2) else (impl_NarrowAll.j0 k l1 a2 (decide (a2 > 4)) a0_0 l0_1 l0_2)) else (impl_NarrowAll.j0 k l1 a2 true a0_0 l0_1 l0_2))) else (impl_NarrowAll.j0 k l1 a2 true a0_0 l0_1 l0_2))
theorem impl_NarrowAll.calls (k:Nat)(a0_0:Int)(A0_1:Option Addr)(c0_1:Nat)(l0_1:List Int)(A0_2:Option Addr)(c0_2:Nat)(l0_2:List (S67))(A1:Option Addr)(c1:Nat)(l1:List Int)(a2:Int)(r1:List Int)(r2:Int)(w:World)(hr0_1:Kd.C (Kd.int .i64) w A0_1 l0_1.length l0_1)(hc0_1:l0_1.length≤c0_1)(hr0_2:Kd.C k67 w A0_2 l0_2.length l0_2)(hc0_2:l0_2.length≤c0_2)(hr1:Kd.C (Kd.int .i64) w A1 l1.length l1)(hc1:l1.length≤c1)(h:impl_NarrowAll.f k a0_0 l0_1 l0_2 l1 a2=some (r1,r2)) :
  Calls Try.prog 29 #[.agg #[.int .i64 a0_0,.slice A0_1 l0_1.length c0_1,.slice A0_2 l0_2.length c0_2],.slice A1 l1.length c1,.int .i64 a2] w fun e w'=>∃ v0_:Value,e= .returned (.tuple #[v0_,.int .i64 r2])∧Kd.R (Kd.int .i64) 3 w' w.heap.size (fun _=>True) v0_ r1∧Below w.heap.size w w':=by
 have hu30:=Try.underlying30
 have HR0_1:=yam hr0_1
 have HC0_1:=yam hc0_1
 clear hr0_1 hc0_1
 have HR0_2:=yam hr0_2
 have HC0_2:=yam hc0_2
 clear hr0_2 hc0_2
 have HR1:=yam hr1
 have HC1:=yam hc1
 clear hr1 hc1
 have HB:=yam (Below.refl w.heap.size w)
 unfold impl_NarrowAll.f at h
 have H:=h
 clear h
 have HC4:=yam H
 clear H
 go_enter Try.func29,Try.ntmps29
 go_upto_region 1 with (first|(refine ybe 3 #[.int .i64 a0_0,.slice A0_1 l0_1.length c0_1,.slice A0_2 l0_2.length c0_2] 30 ?_;intro gb678 hg w5 hbox hb;have BK678:=yam (hbox);have GW678:=yam ((by rw [hg];exact (below_size (yez HB.out)):w.heap.size≤gb678));replace HB:=yam (below_step (yez HB.out) hb);have GE678:=GW678;clear hb hbox hg))
 (try simp only [Act.put,yps])
 go_cut [29] (fun v29 wc=>∃ (kq:Nat) (x29_3:Bool),v29= .bool x29_3∧Aside0 (impl_NarrowAll.j0 kq l1 a2 x29_3 a0_0 l0_1 l0_2=some (r1,r2))∧Aside0 (kq≤k)∧Aside0 (wc.heap[gb678]?=some (.cells #[.int .i64 a0_0,(.slice A0_1 l0_1.length c0_1),(.slice A0_2 l0_2.length c0_2)] 30 (0,0)))∧Aside0 (Below w.heap.size w wc))
 case first =>
  have H:=HC4.out
  clear HC4
  replace H:=ybi H;obtain ⟨t679,A6,H⟩:=H
  replace H:(if t679=true then ((impl_MasksValid.f k l1 a0_0).bind fun t680=>(if t680=true then (if a2 < 1 then (impl_NarrowAll.j0 k l1 a2 true a0_0 l0_1 l0_2) else (impl_NarrowAll.j0 k l1 a2 (decide (a2 > 4)) a0_0 l0_1 l0_2)) else (impl_NarrowAll.j0 k l1 a2 true a0_0 l0_1 l0_2))) else (impl_NarrowAll.j0 k l1 a2 true a0_0 l0_1 l0_2))=some (r1,r2):=H
  cases t679
  ·replace H:=yff H
   replace H:=yam H
   obtain ⟨hcz20_0,hcz20_1,hcz20_2,hfz20_0,hfz20_1,hfz20_2⟩:=ybc BK678.out
   go_wp2_with (first|(refine goesL_ (some 13) rfl rfl Try.func36 (by kernel_rfl) rfl #[.agg #[.int .i64 a0_0,.slice A0_1 l0_1.length c0_1,.slice A0_2 l0_2.length c0_2]] rfl ymd ?_;(with_reducible refine (impl_PuzzleValid.calls k a0_0 _ _ l0_1 _ _ l0_2 false _ ?_ ?_ ?_ ?_ A6.out).mono ?_);exact Kd.Cz ((Kd.C_below HR0_1.out HB.out));exact HC0_1.out;exact Kd.Cz ((Kd.C_below HR0_2.out HB.out));exact HC0_2.out;rintro e w21 ⟨rfl,hb⟩;refine ⟨_,rfl,?_⟩;replace BK678:=yam (ybb BK678.out hb);replace HB:=yam (below_step yhb hb);(try clear hb)))
   go_meet
   case rel=>exact ⟨_,(true),yeq,H,⟨by first|omega|exact Nat.le_refl _⟩,⟨ybk BK678.out⟩,⟨yhb⟩⟩
  replace H:=ytt H
  replace H:=ybi H;obtain ⟨t680,A8,H⟩:=H
  replace H:(if t680=true then (if a2 < 1 then (impl_NarrowAll.j0 k l1 a2 true a0_0 l0_1 l0_2) else (impl_NarrowAll.j0 k l1 a2 (decide (a2 > 4)) a0_0 l0_1 l0_2)) else (impl_NarrowAll.j0 k l1 a2 true a0_0 l0_1 l0_2))=some (r1,r2):=H
  cases t680
  ·replace H:=yff H
   replace H:=yam H
   obtain ⟨hcz17_0,hcz17_1,hcz17_2,hfz17_0,hfz17_1,hfz17_2⟩:=ybc BK678.out
   go_wp2_with (first|(refine goesL_ (some 13) rfl rfl Try.func36 (by kernel_rfl) rfl #[.agg #[.int .i64 a0_0,.slice A0_1 l0_1.length c0_1,.slice A0_2 l0_2.length c0_2]] rfl ymd ?_;(with_reducible refine (impl_PuzzleValid.calls k a0_0 _ _ l0_1 _ _ l0_2 true _ ?_ ?_ ?_ ?_ A6.out).mono ?_);exact Kd.Cz ((Kd.C_below HR0_1.out HB.out));exact HC0_1.out;exact Kd.Cz ((Kd.C_below HR0_2.out HB.out));exact HC0_2.out;rintro e w18 ⟨rfl,hb⟩;refine ⟨_,rfl,?_⟩;replace BK678:=yam (ybb BK678.out hb);replace HB:=yam (below_step yhb hb);(try clear hb);obtain ⟨hcz19_0,hcz19_1,hcz19_2,hfz19_0,hfz19_1,hfz19_2⟩:=ybc BK678.out)|(go_at_call 63;(with_reducible refine (impl_MasksValid.calls k _ _ l1 a0_0 false _ ?_ ?_ A8.out).mono ?_);exact Kd.Cz ((Kd.C_below HR1.out HB.out));exact HC1.out;rintro e w' ⟨rfl,⟨nd,rfl⟩⟩))
   go_meet
   case rel=>exact ⟨_,(true),yeq,H,⟨by first|omega|exact Nat.le_refl _⟩,⟨ybk BK678.out⟩,⟨yhb⟩⟩
  replace H:=ytt H
  replace H:=yis H;obtain ⟨c10b0,H⟩ | ⟨c10b0,H⟩:=H
  ·(first|rw [c10b0]|(simp only [i64_w,i32_w];rw [c10b0])|skip)
   replace H:=yam H
   obtain ⟨hcz11_0,hcz11_1,hcz11_2,hfz11_0,hfz11_1,hfz11_2⟩:=ybc BK678.out
   go_wp2_with (first|(refine goesL_ (some 13) rfl rfl Try.func36 (by kernel_rfl) rfl #[.agg #[.int .i64 a0_0,.slice A0_1 l0_1.length c0_1,.slice A0_2 l0_2.length c0_2]] rfl ymd ?_;(with_reducible refine (impl_PuzzleValid.calls k a0_0 _ _ l0_1 _ _ l0_2 true _ ?_ ?_ ?_ ?_ A6.out).mono ?_);exact Kd.Cz ((Kd.C_below HR0_1.out HB.out));exact HC0_1.out;exact Kd.Cz ((Kd.C_below HR0_2.out HB.out));exact HC0_2.out;rintro e w12 ⟨rfl,hb⟩;refine ⟨_,rfl,?_⟩;replace BK678:=yam (ybb BK678.out hb);replace HB:=yam (below_step yhb hb);(try clear hb);obtain ⟨hcz13_0,hcz13_1,hcz13_2,hfz13_0,hfz13_1,hfz13_2⟩:=ybc BK678.out)|(go_at_call 63;(with_reducible refine (impl_MasksValid.calls k _ _ l1 a0_0 true _ ?_ ?_ A8.out).mono ?_);exact Kd.Cz ((Kd.C_below HR1.out HB.out));exact HC1.out;rintro e w' ⟨rfl,⟨nd,rfl⟩⟩))
   go_meet
   case rel=>exact ⟨_,(true),yeq,H,⟨by first|omega|exact Nat.le_refl _⟩,⟨ybk BK678.out⟩,⟨yhb⟩⟩
  (first|rw [c10b0]|(simp only [i64_w,i32_w];rw [c10b0])|skip)
  replace H:=yam H
  obtain ⟨hcz14_0,hcz14_1,hcz14_2,hfz14_0,hfz14_1,hfz14_2⟩:=ybc BK678.out
  go_wp2_with (first|(refine goesL_ (some 13) rfl rfl Try.func36 (by kernel_rfl) rfl #[.agg #[.int .i64 a0_0,.slice A0_1 l0_1.length c0_1,.slice A0_2 l0_2.length c0_2]] rfl ymd ?_;(with_reducible refine (impl_PuzzleValid.calls k a0_0 _ _ l0_1 _ _ l0_2 true _ ?_ ?_ ?_ ?_ A6.out).mono ?_);exact Kd.Cz ((Kd.C_below HR0_1.out HB.out));exact HC0_1.out;exact Kd.Cz ((Kd.C_below HR0_2.out HB.out));exact HC0_2.out;rintro e w15 ⟨rfl,hb⟩;refine ⟨_,rfl,?_⟩;replace BK678:=yam (ybb BK678.out hb);replace HB:=yam (below_step yhb hb);(try clear hb);obtain ⟨hcz16_0,hcz16_1,hcz16_2,hfz16_0,hfz16_1,hfz16_2⟩:=ybc BK678.out)|(go_at_call 63;(with_reducible refine (impl_MasksValid.calls k _ _ l1 a0_0 true _ ?_ ?_ A8.out).mono ?_);exact Kd.Cz ((Kd.C_below HR1.out HB.out));exact HC1.out;rintro e w' ⟨rfl,⟨nd,rfl⟩⟩))
  go_meet
  case rel=>exact ⟨_,(decide (a2 > 4)),yeq,H,⟨by first|omega|exact Nat.le_refl _⟩,⟨ybk BK678.out⟩,⟨yhb⟩⟩
 case rest =>
  clear HC4
  try clear c1
  obtain ⟨kq,x29_3,rfl,HA,HJ3,BK678,HB⟩:=hcut
  rcases kq with _|kj3
  ·exact absurd HA.out (by simp [impl_NarrowAll.j0])
  obtain ⟨H⟩:=HA
  simp only [impl_NarrowAll.j0] at H
  cases x29_3
  rotate_left
  ·replace H:=ytt H
   simp only [Option.some.injEq,Prod.mk.injEq] at H
   obtain ⟨rfl,rfl⟩:=H
   go_wp2
   go_ret2
   exact ⟨_,yer,by first|exact Kd.R_nil _ _ _ _ _|exact Kd.N_nil _ _ _ _ _|exact Kd.V_nil _ _ _ _ _|exact Kd.Q_nil _ _ _ _ _|exact Kd.S_nil _ _ _ _ _,yhb⟩
  replace H:=yff H
  replace H:=ybi H;obtain ⟨t681,A23,H⟩:=H
  replace H:(impl_NarrowAll.l0 kj3 a2 t681 0 a0_0 l0_1 l0_2)=some (r1,r2):=H
  replace H:=yam H
  go_wp2_with (first|(refine goesL_ (some 31) rfl rfl Try.func64 (by kernel_rfl) rfl #[.slice A1 l1.length c1] rfl ymd ?_;(with_reducible refine (slices_Clone_int_int.calls _ _ l1 t681 _ ?_ ?_ A23.out).mono ?_);exact Kd.Cz ((Kd.C_below HR1.out HB.out));exact HC1.out;rintro e w24 ⟨v682,rfl,ho0,hb⟩;refine ⟨_,rfl,?_⟩;have HO683:=yam (Kd.R_lower ho0 (below_size yhb));replace BK678:=yam (ybb BK678.out hb);replace HB:=yam (below_step yhb hb);(try clear hb);(try clear ho0)))
  go_loopg [8,9] kj3 (fun kq v8 v9 w'=>∃ (x8_2:List Int) (x9_2:Int),v9= .int .i64 x9_2∧Aside0 (impl_NarrowAll.l0 kq a2 x8_2 x9_2 a0_0 l0_1 l0_2=some (r1,r2))∧Aside0 (kq≤kj3)∧Aside0 (Kd.R (Kd.int .i64) 3 w' w.heap.size (fun _=>True) v8 x8_2)∧Aside0 (w'.heap[gb678]?=some (.cells #[.int .i64 a0_0,(.slice A0_1 l0_1.length c0_1),(.slice A0_2 l0_2.length c0_2)] 30 (0,0)))∧Aside0 (Below w.heap.size w w'))
  case atStart=>exact ⟨(t681),(0),yeq,H,⟨Nat.le_refl _⟩,⟨yka HO683.out⟩,⟨ybk BK678.out⟩,⟨yhb⟩⟩
  case round =>
   clear H
   try clear c1
   obtain ⟨x8_2,x9_2,rfl,HA,HK2,HO_8,BK678,HB⟩:=hrel
   rcases gk with _|k2
   ·exact absurd HA.out (by simp [impl_NarrowAll.l0])
   obtain ⟨H⟩:=HA
   simp only [impl_NarrowAll.l0] at H
   replace H:=ybi H;obtain ⟨⟨t684,t687⟩,A25,H⟩:=H
   replace H:(if t687=0 then (some (x8_2,x9_2)) else (impl_NarrowAll.l0 k2 a2 t684 (wrap64 (x9_2 + 1)) a0_0 l0_1 l0_2))=some (r1,r2):=H
   replace H:=yit H;obtain ⟨c26,H⟩ | ⟨c26,H⟩:=H
   ·have c26b0:(t687 == 0)=true:=beq_iff_eq.mpr c26
    have c26b1:(t687 != 0)=false:=bne_eq_false_iff_eq.mpr c26
    clear c26
    simp only [Option.some.injEq,Prod.mk.injEq] at H
    obtain ⟨rfl,rfl⟩:=H
    obtain ⟨hcz27_0,hcz27_1,hcz27_2,hfz27_0,hfz27_1,hfz27_2⟩:=ybc BK678.out
    obtain ⟨Ao28,co28,eo28⟩:=Kd.R_slice HO_8.out
    subst eo28
    go_wp2_with (first|(refine goesL_ (some 36) rfl rfl Try.func44 (by kernel_rfl) rfl #[.agg #[.int .i64 a0_0,.slice A0_1 l0_1.length c0_1,.slice A0_2 l0_2.length c0_2],.slice Ao28 x8_2.length co28,.int .i64 a2] rfl ymd ?_;(with_reducible refine (impl_nextRound.calls k2 a0_0 _ _ l0_1 _ _ l0_2 _ _ x8_2 a2 t684 t687 _ ?_ ?_ ?_ ?_ ?_ ?_ A25.out).mono ?_);exact Kd.Cz ((Kd.C_below HR0_1.out HB.out));exact HC0_1.out;exact Kd.Cz ((Kd.C_below HR0_2.out HB.out));exact HC0_2.out;exact Kd.Cz (Kd.Yr HO_8.out).2.2;exact (Kd.Yr HO_8.out).2.1;rintro e w29 ⟨v685,rfl,ho0,hb⟩;refine ⟨_,rfl,?_⟩;have HO686:=yam (Kd.R_lower (Kd.Yw ho0 (Kd.R_lt (Kd.Yz HO_8.out))) (below_size yhb));replace HO_8:=yam (Kd.Ye (Kd.Yz HO_8.out) (Kd.Yb ho0) hb);replace BK678:=yam (ybb BK678.out hb);replace HB:=yam (below_step yhb hb);(try clear hb);(try clear ho0)))
    go_ret2
    exact ⟨_,yer,by (with_reducible repeat (first|apply Kd.Ya|apply Kd.Yn|apply Kd.Yd));exact Kd.R_mono HO_8.out (fun _ hk=>trivial),yhb⟩
   have c26b0:(t687 == 0)=false:=beq_eq_false_iff_ne.mpr c26
   have c26b1:(t687 != 0)=true:=bne_iff_ne.mpr c26
   replace H:=yam H
   obtain ⟨hcz30_0,hcz30_1,hcz30_2,hfz30_0,hfz30_1,hfz30_2⟩:=ybc BK678.out
   obtain ⟨Ao31,co31,eo31⟩:=Kd.R_slice HO_8.out
   subst eo31
   go_wp2_with (first|(refine goesL_ (some 36) rfl rfl Try.func44 (by kernel_rfl) rfl #[.agg #[.int .i64 a0_0,.slice A0_1 l0_1.length c0_1,.slice A0_2 l0_2.length c0_2],.slice Ao31 x8_2.length co31,.int .i64 a2] rfl ymd ?_;(with_reducible refine (impl_nextRound.calls k2 a0_0 _ _ l0_1 _ _ l0_2 _ _ x8_2 a2 t684 t687 _ ?_ ?_ ?_ ?_ ?_ ?_ A25.out).mono ?_);exact Kd.Cz ((Kd.C_below HR0_1.out HB.out));exact HC0_1.out;exact Kd.Cz ((Kd.C_below HR0_2.out HB.out));exact HC0_2.out;exact Kd.Cz (Kd.Yr HO_8.out).2.2;exact (Kd.Yr HO_8.out).2.1;rintro e w32 ⟨v685,rfl,ho0,hb⟩;refine ⟨_,rfl,?_⟩;have HO686:=yam (Kd.R_lower (Kd.Yw ho0 (Kd.R_lt (Kd.Yz HO_8.out))) (below_size yhb));replace HO_8:=yam (Kd.Ye (Kd.Yz HO_8.out) (Kd.Yb ho0) hb);replace BK678:=yam (ybb BK678.out hb);replace HB:=yam (below_step yhb hb);(try clear hb);(try clear ho0)))
   go_roundg k2
   case measure=>have:=HJ3.out;have:=HK2.out;omega
   case rel=>exact ⟨(t684),(wrap64 (x9_2 + 1)),yeq,H,⟨by have:=HJ3.out;have:=HK2.out;omega⟩,⟨by (with_reducible repeat (first|apply Kd.Ya|apply Kd.Yn|apply Kd.Yd));exact Kd.R_mono HO686.out (fun _ hk=>trivial)⟩,⟨ybk BK678.out⟩,⟨yhb⟩⟩
def impl_canHold.l0:Nat→List Int→Int→List Int→List Int→Int→Int→Int→List Int→Int→Option (Bool)
 | 0,_,_,_,_,_,_,_,_,_=>none
 | k + 1,x1,x2,x7,x12,x13,x14,x617000,x617001,x617002=>if x14 < x13 then (if 0≤x14 then (if x14 < (x12.length:Int) then (if 0≤(rd x12 x14) then (if (rd x12 x14) < (x1.length:Int) then (if (rd x1 (rd x12 x14)) > 0 then (if 0≤(rd x1 (rd x12 x14)) then (if x7.length < 17592186044416 then (impl_canHold.l0 k x1 x2 (x7 ++ [shl .i64 1 (rd x1 (rd x12 x14))]) x12 x13 (wrap64 (x14 + 1)) x617000 x617001 x617002) else (none)) else (none)) else ((impl_allValues.f x2).bind fun t626=>(if x7.length < 17592186044416 then (impl_canHold.l0 k x1 x2 (x7 ++ [t626]) x12 x13 (wrap64 (x14 + 1)) x617000 x617001 x617002) else (none)))) else (none)) else (none)) else (none)) else (none)) else ((impl_ruleMasks.f k x617000 x617001 x617002 x7).bind fun t630=>(if 0 < (t630.length:Int) then (some ((rd t630 0) != 0)) else (none)))
def impl_canHold.f (k:Nat)(a0_0:Int)(l0_1:List Int)(a0_2:Int)(l1:List Int)(a2:Int):Option (Bool):=impl_canHold.l0 k l1 a2 (([]:List Int)) l0_1 (l0_1.length:Int) 0 a0_0 l0_1 a0_2
theorem impl_canHold.calls (k:Nat)(a0_0:Int)(A0_1:Option Addr)(c0_1:Nat)(l0_1:List Int)(a0_2:Int)(A1:Option Addr)(c1:Nat)(l1:List Int)(a2:Int)(r:Bool)(w:World)(hr0_1:Kd.C (Kd.int .i64) w A0_1 l0_1.length l0_1)(hc0_1:l0_1.length≤c0_1)(hr1:Kd.C (Kd.int .i64) w A1 l1.length l1)(hc1:l1.length≤c1)(h:impl_canHold.f k a0_0 l0_1 a0_2 l1 a2=some r) :
  Calls Try.prog 104 #[.agg #[.int .i64 a0_0,.slice A0_1 l0_1.length c0_1,.int .i64 a0_2],.slice A1 l1.length c1,.int .i64 a2] w fun e w'=>e= .returned (.bool r)∧Below w.heap.size w w':=by
 have hu67:=Try.underlying67
 have HR0_1:=yam hr0_1
 have HC0_1:=yam hc0_1
 clear hr0_1 hc0_1
 have HR1:=yam hr1
 have HC1:=yam hc1
 clear hr1 hc1
 have HB:=yam (Below.refl w.heap.size w)
 unfold impl_canHold.f at h
 have H:=h
 clear h
 obtain ⟨y617,Ny617⟩:∃ y_:List Int,Aside0 (y_=(([]:List Int))):=⟨_,⟨rfl⟩⟩
 replace H:(impl_canHold.l0 k l1 a2 y617 l0_1 (l0_1.length:Int) 0 a0_0 l0_1 a0_2)=some r:=yhn Ny617.out H
 replace H:=yam H
 go_enter Try.func104,Try.ntmps104
 go_wp2_with (first|(refine ybe 3 #[.int .i64 a0_0,.slice A0_1 l0_1.length c0_1,.int .i64 a0_2] 67 ?_;intro gb616 hg w4 hbox hb;have BK616:=yam (hbox);have GW616:=yam ((by rw [hg];exact (below_size (yez HB.out)):w.heap.size≤gb616));replace HB:=yam (below_step (yez HB.out) hb);have GE616:=GW616;clear hb hbox hg)|((with_reducible refine gate_dst (N:=10) rfl ?_);refine Kd.R_lit (Kd.int .i64) _ 3 ?hg (N:=10) ?hd (xs:=([]:List Int)) (inner:=[]) (ok:=fun _=>True) (okp:=fun _=>True) ?hr ?hp (fun _ hk=>hk) trivial (Below.refl _ _) (Nat.le_refl _) (by simp) ?_;(case hd=>rfl);(case hg=>rfl);(case hr=>first|(go_simp;done)|(go_simp;rfl));(case hp=>exact (Reps.none _ _));intro v618 w5 ho6 hb hg_ hnew_;clear hg_ hnew_;(first|rw [← Ny617.out] at ho6|(simp only [Int.reduceToNat] at ho6;rw [← Ny617.out] at ho6));have HO619:=yam (Kd.R_lower ho6 (below_size yhb));replace BK616:=yam (ybb BK616.out hb);replace HB:=yam (below_step yhb hb);clear hb ho6;obtain ⟨hcz7_0,hcz7_1,hcz7_2,hfz7_0,hfz7_1,hfz7_2⟩:=ybc BK616.out))
 go_loopg [7,14] k (fun kq v7 v14 w'=>∃ (x7_1:List Int) (x14_1:Int),v14= .int .i64 x14_1∧Aside0 (impl_canHold.l0 kq l1 a2 x7_1 l0_1 (l0_1.length:Int) x14_1 a0_0 l0_1 a0_2=some r)∧Aside0 (kq≤k)∧Aside0 (Kd.R (Kd.int .i64) 3 w' w.heap.size (fun _=>True) v7 x7_1)∧Aside0 (w'.heap[gb616]?=some (.cells #[.int .i64 a0_0,(.slice A0_1 l0_1.length c0_1),.int .i64 a0_2] 67 (0,0)))∧Aside0 (Below w.heap.size w w'))
 case atStart=>exact ⟨(y617),(0),yeq,H,⟨Nat.le_refl _⟩,⟨yka HO619.out⟩,⟨ybk BK616.out⟩,⟨yhb⟩⟩
 case round =>
  clear H
  try clear c1
  try clear hcz7_0
  try clear hcz7_1
  try clear hcz7_2
  try clear hfz7_0
  try clear hfz7_1
  try clear hfz7_2
  obtain ⟨x7_1,x14_1,rfl,HA,HK1,HO_7,BK616,HB⟩:=hrel
  rcases gk with _|k1
  ·exact absurd HA.out (by simp [impl_canHold.l0])
  obtain ⟨H⟩:=HA
  simp only [impl_canHold.l0] at H
  replace H:=yis H;obtain ⟨c8b0,H⟩ | ⟨c8b0,H⟩:=H
  rotate_left
  ·replace H:=ybi H;obtain ⟨t630,A21,H⟩:=H
   try dsimp only at H
   replace H:=yit H;obtain ⟨c22,H⟩ | ⟨c22,H⟩:=H
   rotate_left
   ·exact absurd H (by simp)
   have c22b0:decide (0 < (t630.length:Int))=true:=decide_eq_true c22
   have c22b1:decide (0 < t630.length)=true:=decide_eq_true (by omega)
   clear c22
   obtain rfl:=ysi H
   obtain ⟨hcz23_0,hcz23_1,hcz23_2,hfz23_0,hfz23_1,hfz23_2⟩:=ybc BK616.out
   obtain ⟨Ao24,co24,eo24⟩:=Kd.R_slice HO_7.out
   subst eo24
   go_wp2_with (first|(refine goesL_ (some 39) rfl rfl Try.func91 (by kernel_rfl) rfl #[.agg #[.int .i64 a0_0,.slice A0_1 l0_1.length c0_1,.int .i64 a0_2],.slice Ao24 x7_1.length co24] rfl ymd ?_;(with_reducible refine (impl_ruleMasks.calls k1 a0_0 _ _ l0_1 a0_2 _ _ x7_1 t630 _ ?_ ?_ ?_ ?_ A21.out).mono ?_);exact Kd.Cz ((Kd.C_below HR0_1.out HB.out));exact HC0_1.out;exact Kd.Cz (Kd.Yr HO_7.out).2.2;exact (Kd.Yr HO_7.out).2.1;rintro e w25 ⟨v631,rfl,ho0,hb⟩;refine ⟨_,rfl,?_⟩;have HO632:=yam (Kd.R_lower (Kd.Yw ho0 (Kd.R_lt (Kd.Yz HO_7.out))) (below_size yhb));replace HO_7:=yam (Kd.Ye (Kd.Yz HO_7.out) (Kd.Yb ho0) hb);replace BK616:=yam (ybb BK616.out hb);replace HB:=yam (below_step yhb hb);(try clear hb);(try clear ho0);obtain ⟨Ao26,co26,eo26⟩:=Kd.R_slice HO632.out;subst eo26;have p633:0≤(0:Int):=(by omega);have q633:0 < (t630.length:Int):=ydt;obtain ⟨ad633,e633,hx633_0⟩:=Kd.at_int (Kd.Yr HO632.out).2.2 0 p633 q633;cases e633;have qi633:(0 < t630.length)=True:=eq_true (by omega);(try rw [show ((0:Int)).toNat=0 from rfl] at hx633_0);(try rw [Addr.add_zero'] at hx633_0);replace p633:=eq_true p633;replace q633:=eq_true q633))
   go_ret
   exact ⟨yer,yhb⟩
  replace H:=yif H;obtain ⟨c9b0,H⟩:=H
  replace H:=yif H;obtain ⟨c10b0,H⟩:=H
  replace H:=yif H;obtain ⟨c11b0,H⟩:=H
  replace H:=yif H;obtain ⟨c12b0,H⟩:=H
  replace H:=yis H;obtain ⟨c13b0,H⟩ | ⟨c13b0,H⟩:=H
  rotate_left
  ·replace H:=ybi H;obtain ⟨t626,A18,H⟩:=H
   try dsimp only at H
   replace H:=yig H;obtain ⟨c19,H⟩:=H
   have LMc19:=yam c19
   clear c19
   obtain ⟨y627,Ny627⟩:∃ y_:List Int,Aside0 (y_=(x7_1 ++ [t626])):=⟨_,⟨rfl⟩⟩
   replace H:(impl_canHold.l0 k1 l1 a2 y627 l0_1 (l0_1.length:Int) (wrap64 (x14_1 + 1)) a0_0 l0_1 a0_2)=some r:=yhn Ny627.out H
   replace H:=yam H
   obtain ⟨ad620,e620,hx620_0,p620,q620⟩:=yat HR0_1.out x14_1
   cases e620
   replace hx620_0:=ybx HB.out hx620_0
   obtain ⟨ad621,e621,hx621_0,p621,q621⟩:=yat HR1.out (rd l0_1 x14_1)
   cases e621
   replace hx621_0:=ybx HB.out hx621_0
   go_wp2_with (first|(refine goesL_ (some 33) rfl rfl Try.func73 (by kernel_rfl) rfl #[.int .i64 a2] rfl ymd ?_;(with_reducible refine (impl_allValues.calls a2 t626 _ A18.out).mono ?_);rintro e w' ⟨rfl,⟨nd,rfl⟩⟩;refine ⟨_,rfl,?_⟩)|((with_reducible refine gate_builtin (b:= .append) (xs:= #[.tmp 31,.tmp 34]) rfl ?_);at_builtin;refine Kd.R_append (Kd.int .i64) (w0:=w) w.heap.size rfl (.tmp 31) (.tmp 34) 22 3 (.int .i64 0) 8 rfl Try.underlying22 info3 rfl (by decide) (by omega) u7 x7_1 t626 [.int .i64 t626] (fun _=>True) (fun _=>False) rfl rfl ?aP (fun _ hk=>hk.elim) ?aF ?aO ?aB ?aS ?aL ?_;(case aP=>exact rfl);(case aB=>exact yhb);(case aF=>exact (fun _ _=>trivial));(case aO=>exact (Kd.Yz HO_7.out));(case aS=>exact (below_size yhb));(case aL=>have:=LMc19.out;omega);intro v628 w20 ho hb hg hat;rw [← Ny627.out] at ho;replace BK616:=yam (blk_grown (g:=gb616) (o:= .cells #[.int .i64 a0_0,.slice (some ad620) l0_1.length c0_1,.int .i64 a0_2] 67 (0,0)) (ybz BK616.out) hg (Kd.R_ne HO_7.out BK616.out (by decide)));replace HB:=yam (hb);have HO629:=yam (ho);clear HO_7;clear ho hb hg hat))
   go_roundg k1
   case measure=>have:=HK1.out;omega
   case rel=>exact ⟨(y627),(wrap64 (x14_1 + 1)),yeq,H,⟨by have:=HK1.out;omega⟩,⟨yka HO629.out⟩,⟨ybk BK616.out⟩,⟨yhb⟩⟩
  replace H:=yig H;obtain ⟨c14,H⟩:=H
  have c14b0:=eq_true c14
  have c14b1:decide (0≤(rd l1 (rd l0_1 x14_1)))=true:=decide_eq_true c14
  clear c14
  obtain ⟨ji15,hji15⟩:∃ j_:Int,(shl .i64 1 (rd l1 (rd l0_1 x14_1)))=j_:=⟨_,rfl⟩
  replace H:(if x7_1.length < 17592186044416 then (impl_canHold.l0 k1 l1 a2 (x7_1 ++ [ji15]) l0_1 (l0_1.length:Int) (wrap64 (x14_1 + 1)) a0_0 l0_1 a0_2) else (none))=some r:=by first|(rw [hji15] at H;exact H)|(simp only [hji15] at H ⊢;exact H)
  have hji15_:(IntKind.i64.wrap (1 * 2 ^ min (rd l1 (rd l0_1 x14_1)).toNat 64))=ji15:=hji15
  have hji15z:(rd l1 (rd l0_1 x14_1))≤64→(IntKind.i64.wrap (1 * 2 ^ (rd l1 (rd l0_1 x14_1)).toNat))=ji15:=shl_small hji15
  have hji15u:(IntKind.i64.wrap (2 ^ min (rd l1 (rd l0_1 x14_1)).toNat 64))=ji15:=by have h_:=hji15_;rw [Int.one_mul] at h_;exact h_
  have hji15v:(rd l1 (rd l0_1 x14_1))≤64→(IntKind.i64.wrap (2 ^ (rd l1 (rd l0_1 x14_1)).toNat))=ji15:=fun hle_=>by have h_:=hji15z hle_;rw [Int.one_mul] at h_;exact h_
  have hji15y:(wrap64 (1 * 2 ^ min (rd l1 (rd l0_1 x14_1)).toNat 64))=ji15:=(i64_w _).symm.trans hji15_
  have hji15x:(rd l1 (rd l0_1 x14_1))≤64→(wrap64 (1 * 2 ^ (rd l1 (rd l0_1 x14_1)).toNat))=ji15:=fun h_=>(i64_w _).symm.trans (hji15z h_)
  replace H:=yig H;obtain ⟨c16,H⟩:=H
  have LMc16:=yam c16
  clear c16
  obtain ⟨y623,Ny623⟩:∃ y_:List Int,Aside0 (y_=(x7_1 ++ [ji15])):=⟨_,⟨rfl⟩⟩
  replace H:(impl_canHold.l0 k1 l1 a2 y623 l0_1 (l0_1.length:Int) (wrap64 (x14_1 + 1)) a0_0 l0_1 a0_2)=some r:=yhn Ny623.out H
  replace H:=yam H
  obtain ⟨ad620,e620,hx620_0,p620,q620⟩:=yat HR0_1.out x14_1
  cases e620
  replace hx620_0:=ybx HB.out hx620_0
  obtain ⟨ad621,e621,hx621_0,p621,q621⟩:=yat HR1.out (rd l0_1 x14_1)
  cases e621
  replace hx621_0:=ybx HB.out hx621_0
  obtain ⟨ad622,e622,hx622_0,p622,q622⟩:=yat HR1.out (rd l0_1 x14_1)
  obtain rfl:ad621=ad622:=(by injection e622)
  replace hx622_0:=ybx HB.out hx622_0
  go_wp2_with (first|((with_reducible refine gate_builtin (b:= .append) (xs:= #[.tmp 23,.tmp 29]) rfl ?_);at_builtin;refine Kd.R_append (Kd.int .i64) (w0:=w) w.heap.size rfl (.tmp 23) (.tmp 29) 22 3 (.int .i64 0) 8 rfl Try.underlying22 info3 rfl (by decide) (by omega) u7 x7_1 ji15 [.int .i64 ji15] (fun _=>True) (fun _=>False) rfl rfl ?aP (fun _ hk=>hk.elim) ?aF ?aO ?aB ?aS ?aL ?_;(case aP=>exact rfl);(case aB=>exact yhb);(case aF=>exact (fun _ _=>trivial));(case aO=>exact (Kd.Yz HO_7.out));(case aS=>exact (below_size yhb));(case aL=>have:=LMc16.out;omega);intro v624 w17 ho hb hg hat;rw [← Ny623.out] at ho;replace BK616:=yam (blk_grown (g:=gb616) (o:= .cells #[.int .i64 a0_0,.slice (some ad620) l0_1.length c0_1,.int .i64 a0_2] 67 (0,0)) (ybz BK616.out) hg (Kd.R_ne HO_7.out BK616.out (by decide)));replace HB:=yam (hb);have HO625:=yam (ho);clear HO_7;clear ho hb hg hat))
  go_roundg k1
  case measure=>have:=HK1.out;omega
  case rel=>exact ⟨(y623),(wrap64 (x14_1 + 1)),yeq,H,⟨by have:=HK1.out;omega⟩,⟨yka HO625.out⟩,⟨ybk BK616.out⟩,⟨yhb⟩⟩
mutual
def impl_cellFits.l0:Nat→List Int→Int→Int→Int→Int→Int→List Int→List (S67)→Option (Bool)
 | 0,_,_,_,_,_,_,_,_=>none
 | k + 1,x1,x2,x7,x15,x16,x635000,x635001,x635002=>if x16 < x15 then (if x7=0 then (none) else ((some (([wrap64 ((wrap64 ((wrap64 (Int.tdiv x2 x7)) * x7)) + x16),wrap64 ((wrap64 (x16 * x7)) + (Int.tmod x2 x7))]:List Int):List Int)).bind fun y635=>(impl_cellFits.l1 k x1 x2 x7 x15 x16 y635 (y635.length:Int) 0 x635000 x635001 x635002))) else (impl_cellFits.l2 k x1 x2 x7 x635002 (x635002.length:Int) 0)
def impl_cellFits.l1:Nat→List Int→Int→Int→Int→Int→List Int→Int→Int→Int→List Int→List (S67)→Option (Bool)
 | 0,_,_,_,_,_,_,_,_,_,_,_=>none
 | k + 1,x1,x2,x7,x15,x16,x33,x34,x35,x635000,x635001,x635002=>if x35 < x34 then (if 0≤x35 then (if x35 < (x33.length:Int) then (if (rd x33 x35)=x2 then (impl_cellFits.l1 k x1 x2 x7 x15 x16 x33 x34 (wrap64 (x35 + 1)) x635000 x635001 x635002) else (if 0≤(rd x33 x35) then (if (rd x33 x35) < (x1.length:Int) then (if 0≤x2 then (if x2 < (x1.length:Int) then (if (rd x1 (rd x33 x35))=(rd x1 x2) then (some false) else (impl_cellFits.l1 k x1 x2 x7 x15 x16 x33 x34 (wrap64 (x35 + 1)) x635000 x635001 x635002)) else (none)) else (none)) else (none)) else (none))) else (none)) else (none)) else (impl_cellFits.l0 k x1 x2 x7 x15 (wrap64 (x16 + 1)) x635000 x635001 x635002)
def impl_cellFits.l2:Nat→List Int→Int→Int→List (S67)→Int→Int→Option (Bool)
 | 0,_,_,_,_,_,_=>none
 | k + 1,x1,x2,x7,x56,x57,x58=>if x58 < x57 then (if 0≤x58 then (if x58 < (x56.length:Int) then ((slices_Contains_int_int.f k ((rd_T67 x56 x58).f1) x2).bind fun t643=>(if t643=true then ((impl_canHold.f k ((rd_T67 x56 x58).f0) ((rd_T67 x56 x58).f1) ((rd_T67 x56 x58).f2) x1 x7).bind fun t644=>(if t644=true then (impl_cellFits.l2 k x1 x2 x7 x56 x57 (wrap64 (x58 + 1))) else (some false))) else (impl_cellFits.l2 k x1 x2 x7 x56 x57 (wrap64 (x58 + 1))))) else (none)) else (none)) else (some true)
end
def impl_cellFits.f (k:Nat)(a0_0:Int)(l0_1:List Int)(l0_2:List (S67))(l1:List Int)(a2:Int):Option (Bool):=impl_cellFits.l0 k l1 a2 a0_0 a0_0 0 a0_0 l0_1 l0_2
def impl_cellFits.T5:Bool × List (List Nat × List Nat):=(true,[([],[]),([],[]),([0,1],[0,1]),([],[]),([2,3],[2,3]),([],[]),([4,5],[4,5]),([],[]),([],[]),([7,8],[7,8]),([],[]),([],[]),([10,11],[10,11]),([9,12],[9,12]),([6,13],[6,13]),([14],[14]),([],[])])
def impl_cellFits.B5:List Nat:=[0,0,3,0,15,0,63,0,0,384,0,0,3072,8064,16383,32767,0]
theorem impl_cellFits.tab5:rtab .any (opsOf Try.f102 5)=impl_cellFits.T5:=by kernel_rfl
theorem impl_cellFits.bits5:waitsOk impl_cellFits.T5.2 impl_cellFits.B5=true:=by kernel_rfl
def impl_cellFits.T8:Bool × List (List Nat × List Nat):=(true,[([],[]),([],[]),([0,1],[0,1]),([2],[2]),([3],[3]),([3],[3]),([4,5,3],[3,4,5]),([6,3],[3,6]),([3],[3]),([3],[3]),([8,9,3],[3,8,9]),([10,3],[3,10]),([7,11,3],[3,7,11]),([3,12],[3,12])])
def impl_cellFits.B8:List Nat:=[0,0,3,7,15,15,63,127,15,15,783,1807,4095,8191]
theorem impl_cellFits.tab8:rtab .any (opsOf Try.f102 8)=impl_cellFits.T8:=by kernel_rfl
theorem impl_cellFits.bits8:waitsOk impl_cellFits.T8.2 impl_cellFits.B8=true:=by kernel_rfl
theorem impl_cellFits.calls (k:Nat)(a0_0:Int)(A0_1:Option Addr)(c0_1:Nat)(l0_1:List Int)(A0_2:Option Addr)(c0_2:Nat)(l0_2:List (S67))(A1:Option Addr)(c1:Nat)(l1:List Int)(a2:Int)(r:Bool)(w:World)(hr0_1:Kd.C (Kd.int .i64) w A0_1 l0_1.length l0_1)(hc0_1:l0_1.length≤c0_1)(hr0_2:Kd.C k67 w A0_2 l0_2.length l0_2)(hc0_2:l0_2.length≤c0_2)(hr1:Kd.C (Kd.int .i64) w A1 l1.length l1)(hc1:l1.length≤c1)(h:impl_cellFits.f k a0_0 l0_1 l0_2 l1 a2=some r) :
  Calls Try.prog 102 #[.agg #[.int .i64 a0_0,.slice A0_1 l0_1.length c0_1,.slice A0_2 l0_2.length c0_2],.slice A1 l1.length c1,.int .i64 a2] w fun e w'=>e= .returned (.bool r)∧Below w.heap.size w w':=by
 have hu30:=Try.underlying30
 have hu67:=Try.underlying67
 have HR0_1:=yam hr0_1
 have HC0_1:=yam hc0_1
 clear hr0_1 hc0_1
 have HR0_2:=yam hr0_2
 have HC0_2:=yam hc0_2
 clear hr0_2 hc0_2
 have HR1:=yam hr1
 have HC1:=yam hc1
 clear hr1 hc1
 have HB:=yam (Below.refl w.heap.size w)
 unfold impl_cellFits.f at h
 have H:=h
 clear h
 replace H:=yam H
 go_enter Try.func102,Try.ntmps102
 go_wp2_with (first|(refine ybe 3 #[.int .i64 a0_0,.slice A0_1 l0_1.length c0_1,.slice A0_2 l0_2.length c0_2] 30 ?_;intro gb634 hg w4 hbox hb;have BK634:=yam (hbox);have GW634:=yam ((by rw [hg];exact (below_size (yez HB.out)):w.heap.size≤gb634));replace HB:=yam (below_step (yez HB.out) hb);have GE634:=GW634;clear hb hbox hg;obtain ⟨hcz5_0,hcz5_1,hcz5_2,hfz5_0,hfz5_1,hfz5_2⟩:=ybc BK634.out))
 go_loopg [16] k (fun kq v16 w'=>∃ (x16_1:Int),v16= .int .i64 x16_1∧Aside0 (impl_cellFits.l0 kq l1 a2 a0_0 a0_0 x16_1 a0_0 l0_1 l0_2=some r)∧Aside0 (kq≤k)∧Aside0 (w'.heap[gb634]?=some (.cells #[.int .i64 a0_0,(.slice A0_1 l0_1.length c0_1),(.slice A0_2 l0_2.length c0_2)] 30 (0,0)))∧Aside0 (Below w.heap.size w w'))
 case atStart=>exact ⟨(0),yeq,H,⟨Nat.le_refl _⟩,⟨ybk BK634.out⟩,⟨yhb⟩⟩
 case round =>
  clear H
  try clear c1
  try clear hcz5_0
  try clear hcz5_1
  try clear hcz5_2
  try clear hfz5_0
  try clear hfz5_1
  try clear hfz5_2
  obtain ⟨x16_1,rfl,HA,HK1,BK634,HB⟩:=hrel
  rcases gk with _|k1
  ·exact absurd HA.out (by simp [impl_cellFits.l0])
  obtain ⟨H⟩:=HA
  simp only [impl_cellFits.l0] at H
  replace H:=yis H;obtain ⟨c6b0,H⟩ | ⟨c6b0,H⟩:=H
  rotate_left
  ·replace H:=yam H
   obtain ⟨hcz24_0,hcz24_1,hcz24_2,hfz24_0,hfz24_1,hfz24_2⟩:=ybc BK634.out
   go_wp2
   go_loopg [58] k1 (fun kq v58 w'=>∃ (x58_2:Int),v58= .int .i64 x58_2∧Aside0 (impl_cellFits.l2 kq l1 a2 a0_0 l0_2 (l0_2.length:Int) x58_2=some r)∧Aside0 (kq≤k1)∧Aside0 (w'.heap[gb634]?=some (.cells #[.int .i64 a0_0,(.slice A0_1 l0_1.length c0_1),(.slice A0_2 l0_2.length c0_2)] 30 (0,0)))∧Aside0 (Below w.heap.size w w'))
   case atStart=>exact ⟨(0),yeq,H,⟨Nat.le_refl _⟩,⟨ybk BK634.out⟩,⟨yhb⟩⟩
   case round =>
    clear H
    try clear c6b0
    try clear hcz24_0
    try clear hcz24_1
    try clear hcz24_2
    try clear hfz24_0
    try clear hfz24_1
    try clear hfz24_2
    obtain ⟨x58_2,rfl,HA,HK2,BK634,HB⟩:=hrel
    rcases gk with _|k2
    ·exact absurd HA.out (by simp [impl_cellFits.l2])
    obtain ⟨H⟩:=HA
    simp only [impl_cellFits.l2] at H
    replace H:=yis H;obtain ⟨c25b0,H⟩ | ⟨c25b0,H⟩:=H
    rotate_left
    ·obtain rfl:=ysi H
     go_wp2
     go_ret
     exact ⟨yer,yhb⟩
    replace H:=yif H;obtain ⟨c26b0,H⟩:=H
    replace H:=yif H;obtain ⟨c27b0,H⟩:=H
    replace H:=ybi H;obtain ⟨t643,A28,H⟩:=H
    try dsimp only at H
    cases t643
    ·replace H:=yff H
     replace H:=yam H
     have p641:0≤(x58_2:Int):=ydt
     have q641:x58_2 < (l0_2.length:Int):=ydt
     obtain ⟨ad641,A641_1,c641_1,e641,hx641_0,hx641_1,hx641_2,hl641_1,hi641_1⟩:=at_T67 HR0_2.out x58_2 p641 q641
     cases e641
     replace hx641_0:=ybx HB.out hx641_0
     replace hx641_1:=ybx HB.out hx641_1
     replace hx641_2:=ybx HB.out hx641_2
     have HR641_1:=yam hi641_1
     have HC641_1:=yam hl641_1
     clear hi641_1 hl641_1
     replace p641:=eq_true p641
     replace q641:=eq_true q641
     go_wp2_with (first|(refine ybe 12 #[.int .i64 0,.slice none 0 0,.int .i64 0] 67 ?_;intro gb642 hg w40 hbox hb;have BK642:=yam (hbox);have GW642:=yam ((by rw [hg];exact (below_size yhb):w.heap.size≤gb642));replace HB:=yam (below_step yhb hb);have GE642:=GW642;have NB634_642:=yam ((by rw [hg];exact Nat.ne_of_lt (blk_lt (g:=gb634) (o:= .cells #[.int .i64 a0_0,.slice A0_1 l0_1.length c0_1,.slice (some ad641) l0_2.length c0_2] 30 (0,0)) (ybz BK634.out)):gb634≠gb642));have NB642_634:=yam ((by rw [hg];exact Nat.ne_of_gt (blk_lt (g:=gb634) (o:= .cells #[.int .i64 a0_0,.slice A0_1 l0_1.length c0_1,.slice (some ad641) l0_2.length c0_2] 30 (0,0)) (ybz BK634.out)):gb642≠gb634));replace BK634:=yam (ybb BK634.out hb);clear hb hbox hg;have hnb41:=NB642_634.out;have hnc41:=NB634_642.out;obtain ⟨hcz42_0,hcz42_1,hcz42_2,hfz42_0,hfz42_1,hfz42_2⟩:=ybc BK642.out)|(refine goesL_ (some 65) rfl rfl Try.func85 (by kernel_rfl) rfl #[.slice A641_1 ((rd_T67 l0_2 x58_2).f1).length c641_1,.int .i64 a2] rfl ymd ?_;(with_reducible refine (slices_Contains_int_int.calls k2 _ _ ((rd_T67 l0_2 x58_2).f1) a2 false _ ?_ ?_ A28.out).mono ?_);exact Kd.C_below HR641_1.out yhb;exact HC641_1.out;rintro e w' ⟨rfl,⟨nd,rfl⟩⟩;refine ⟨_,rfl,?_⟩))
     go_roundg k2
     case measure=>have:=HK1.out;have:=HK2.out;omega
     case rel=>exact ⟨(wrap64 (x58_2 + 1)),yeq,H,⟨by have:=HK1.out;have:=HK2.out;omega⟩,⟨by (with_reducible repeat (first|refine ybn ?_ _|refine ybd ?_|refine yba ?_ _));refine blk_far ?_ NB634_642.out _;(with_reducible repeat (first|refine ybn ?_ _|refine ybd ?_|refine yba ?_ _));refine blk_far ?_ NB634_642.out _;(with_reducible repeat (first|refine ybn ?_ _|refine ybd ?_|refine yba ?_ _));refine blk_far ?_ NB634_642.out _;(with_reducible repeat (first|refine ybn ?_ _|refine ybd ?_|refine yba ?_ _));exact BK634.out⟩,⟨yhb⟩⟩
    replace H:=ytt H
    replace H:=ybi H;obtain ⟨t644,A30,H⟩:=H
    try dsimp only at H
    cases t644
    ·replace H:=yff H
     obtain rfl:=ysi H
     have p641:0≤(x58_2:Int):=ydt
     have q641:x58_2 < (l0_2.length:Int):=ydt
     obtain ⟨ad641,A641_1,c641_1,e641,hx641_0,hx641_1,hx641_2,hl641_1,hi641_1⟩:=at_T67 HR0_2.out x58_2 p641 q641
     cases e641
     replace hx641_0:=ybx HB.out hx641_0
     replace hx641_1:=ybx HB.out hx641_1
     replace hx641_2:=ybx HB.out hx641_2
     have HR641_1:=yam hi641_1
     have HC641_1:=yam hl641_1
     clear hi641_1 hl641_1
     replace p641:=eq_true p641
     replace q641:=eq_true q641
     go_wp2_with (first|(refine ybe 12 #[.int .i64 0,.slice none 0 0,.int .i64 0] 67 ?_;intro gb642 hg w36 hbox hb;have BK642:=yam (hbox);have GW642:=yam ((by rw [hg];exact (below_size yhb):w.heap.size≤gb642));replace HB:=yam (below_step yhb hb);have GE642:=GW642;have NB634_642:=yam ((by rw [hg];exact Nat.ne_of_lt (blk_lt (g:=gb634) (o:= .cells #[.int .i64 a0_0,.slice A0_1 l0_1.length c0_1,.slice (some ad641) l0_2.length c0_2] 30 (0,0)) (ybz BK634.out)):gb634≠gb642));have NB642_634:=yam ((by rw [hg];exact Nat.ne_of_gt (blk_lt (g:=gb634) (o:= .cells #[.int .i64 a0_0,.slice A0_1 l0_1.length c0_1,.slice (some ad641) l0_2.length c0_2] 30 (0,0)) (ybz BK634.out)):gb642≠gb634));replace BK634:=yam (ybb BK634.out hb);clear hb hbox hg;have hnb37:=NB642_634.out;have hnc37:=NB634_642.out;obtain ⟨hcz38_0,hcz38_1,hcz38_2,hfz38_0,hfz38_1,hfz38_2⟩:=ybc BK642.out)|(refine goesL_ (some 65) rfl rfl Try.func85 (by kernel_rfl) rfl #[.slice A641_1 ((rd_T67 l0_2 x58_2).f1).length c641_1,.int .i64 a2] rfl ymd ?_;(with_reducible refine (slices_Contains_int_int.calls k2 _ _ ((rd_T67 l0_2 x58_2).f1) a2 true _ ?_ ?_ A28.out).mono ?_);exact Kd.C_below HR641_1.out yhb;exact HC641_1.out;rintro e w' ⟨rfl,⟨nd,rfl⟩⟩;refine ⟨_,rfl,?_⟩)|(go_at_call 104;(with_reducible refine (impl_canHold.calls k2 ((rd_T67 l0_2 x58_2).f0) _ _ ((rd_T67 l0_2 x58_2).f1) ((rd_T67 l0_2 x58_2).f2) _ _ l1 a0_0 false _ ?_ ?_ ?_ ?_ A30.out).mono ?_);exact Kd.C_below HR641_1.out yhb;exact HC641_1.out;exact Kd.C_below HR1.out yhb;exact HC1.out;rintro e w39 ⟨rfl,hb⟩;replace BK634:=yam (blk_below (g:=gb634) (o:= .cells #[.int .i64 a0_0,.slice A0_1 l0_1.length c0_1,.slice (some ad641) l0_2.length c0_2] 30 (0,0)) (by (with_reducible repeat (first|refine ybn ?_ _|refine ybd ?_|refine yba ?_ _));refine blk_far ?_ NB634_642.out _;(with_reducible repeat (first|refine ybn ?_ _|refine ybd ?_|refine yba ?_ _));refine blk_far ?_ NB634_642.out _;(with_reducible repeat (first|refine ybn ?_ _|refine ybd ?_|refine yba ?_ _));refine blk_far ?_ NB634_642.out _;(with_reducible repeat (first|refine ybn ?_ _|refine ybd ?_|refine yba ?_ _));exact BK634.out) hb);replace BK642:=yam (blk_below (g:=gb642) (o:= .cells #[.int .i64 ((rd_T67 l0_2 x58_2).f0),.slice A641_1 ((rd_T67 l0_2 x58_2).f1).length c641_1,.int .i64 ((rd_T67 l0_2 x58_2).f2)] 67 (0,0)) (by (with_reducible repeat (first|refine ybn ?_ _|refine ybd ?_|refine yba ?_ _));refine blk_put (cs:= #[.int .i64 ((rd_T67 l0_2 x58_2).f0),.slice A641_1 ((rd_T67 l0_2 x58_2).f1).length c641_1,.int .i64 0]) ?_ 2 _ rfl;(with_reducible repeat (first|refine ybn ?_ _|refine ybd ?_|refine yba ?_ _));refine blk_put (cs:= #[.int .i64 ((rd_T67 l0_2 x58_2).f0),.slice none 0 0,.int .i64 0]) ?_ 1 _ rfl;(with_reducible repeat (first|refine ybn ?_ _|refine ybd ?_|refine yba ?_ _));refine blk_put (cs:= #[.int .i64 0,.slice none 0 0,.int .i64 0]) ?_ 0 _ rfl;(with_reducible repeat (first|refine ybn ?_ _|refine ybd ?_|refine yba ?_ _));exact BK642.out) hb);replace HB:=yam (below_step yhb hb);(try clear hb)))
     go_ret
     exact ⟨yer,yhb⟩
    replace H:=ytt H
    replace H:=yam H
    have p641:0≤(x58_2:Int):=ydt
    have q641:x58_2 < (l0_2.length:Int):=ydt
    obtain ⟨ad641,A641_1,c641_1,e641,hx641_0,hx641_1,hx641_2,hl641_1,hi641_1⟩:=at_T67 HR0_2.out x58_2 p641 q641
    cases e641
    replace hx641_0:=ybx HB.out hx641_0
    replace hx641_1:=ybx HB.out hx641_1
    replace hx641_2:=ybx HB.out hx641_2
    have HR641_1:=yam hi641_1
    have HC641_1:=yam hl641_1
    clear hi641_1 hl641_1
    replace p641:=eq_true p641
    replace q641:=eq_true q641
    go_wp2_with (first|(refine ybe 12 #[.int .i64 0,.slice none 0 0,.int .i64 0] 67 ?_;intro gb642 hg w32 hbox hb;have BK642:=yam (hbox);have GW642:=yam ((by rw [hg];exact (below_size yhb):w.heap.size≤gb642));replace HB:=yam (below_step yhb hb);have GE642:=GW642;have NB634_642:=yam ((by rw [hg];exact Nat.ne_of_lt (blk_lt (g:=gb634) (o:= .cells #[.int .i64 a0_0,.slice A0_1 l0_1.length c0_1,.slice (some ad641) l0_2.length c0_2] 30 (0,0)) (ybz BK634.out)):gb634≠gb642));have NB642_634:=yam ((by rw [hg];exact Nat.ne_of_gt (blk_lt (g:=gb634) (o:= .cells #[.int .i64 a0_0,.slice A0_1 l0_1.length c0_1,.slice (some ad641) l0_2.length c0_2] 30 (0,0)) (ybz BK634.out)):gb642≠gb634));replace BK634:=yam (ybb BK634.out hb);clear hb hbox hg;have hnb33:=NB642_634.out;have hnc33:=NB634_642.out;obtain ⟨hcz34_0,hcz34_1,hcz34_2,hfz34_0,hfz34_1,hfz34_2⟩:=ybc BK642.out)|(refine goesL_ (some 65) rfl rfl Try.func85 (by kernel_rfl) rfl #[.slice A641_1 ((rd_T67 l0_2 x58_2).f1).length c641_1,.int .i64 a2] rfl ymd ?_;(with_reducible refine (slices_Contains_int_int.calls k2 _ _ ((rd_T67 l0_2 x58_2).f1) a2 true _ ?_ ?_ A28.out).mono ?_);exact Kd.C_below HR641_1.out yhb;exact HC641_1.out;rintro e w' ⟨rfl,⟨nd,rfl⟩⟩;refine ⟨_,rfl,?_⟩)|(go_at_call 104;(with_reducible refine (impl_canHold.calls k2 ((rd_T67 l0_2 x58_2).f0) _ _ ((rd_T67 l0_2 x58_2).f1) ((rd_T67 l0_2 x58_2).f2) _ _ l1 a0_0 true _ ?_ ?_ ?_ ?_ A30.out).mono ?_);exact Kd.C_below HR641_1.out yhb;exact HC641_1.out;exact Kd.C_below HR1.out yhb;exact HC1.out;rintro e w35 ⟨rfl,hb⟩;replace BK634:=yam (blk_below (g:=gb634) (o:= .cells #[.int .i64 a0_0,.slice A0_1 l0_1.length c0_1,.slice (some ad641) l0_2.length c0_2] 30 (0,0)) (by (with_reducible repeat (first|refine ybn ?_ _|refine ybd ?_|refine yba ?_ _));refine blk_far ?_ NB634_642.out _;(with_reducible repeat (first|refine ybn ?_ _|refine ybd ?_|refine yba ?_ _));refine blk_far ?_ NB634_642.out _;(with_reducible repeat (first|refine ybn ?_ _|refine ybd ?_|refine yba ?_ _));refine blk_far ?_ NB634_642.out _;(with_reducible repeat (first|refine ybn ?_ _|refine ybd ?_|refine yba ?_ _));exact BK634.out) hb);replace BK642:=yam (blk_below (g:=gb642) (o:= .cells #[.int .i64 ((rd_T67 l0_2 x58_2).f0),.slice A641_1 ((rd_T67 l0_2 x58_2).f1).length c641_1,.int .i64 ((rd_T67 l0_2 x58_2).f2)] 67 (0,0)) (by (with_reducible repeat (first|refine ybn ?_ _|refine ybd ?_|refine yba ?_ _));refine blk_put (cs:= #[.int .i64 ((rd_T67 l0_2 x58_2).f0),.slice A641_1 ((rd_T67 l0_2 x58_2).f1).length c641_1,.int .i64 0]) ?_ 2 _ rfl;(with_reducible repeat (first|refine ybn ?_ _|refine ybd ?_|refine yba ?_ _));refine blk_put (cs:= #[.int .i64 ((rd_T67 l0_2 x58_2).f0),.slice none 0 0,.int .i64 0]) ?_ 1 _ rfl;(with_reducible repeat (first|refine ybn ?_ _|refine ybd ?_|refine yba ?_ _));refine blk_put (cs:= #[.int .i64 0,.slice none 0 0,.int .i64 0]) ?_ 0 _ rfl;(with_reducible repeat (first|refine ybn ?_ _|refine ybd ?_|refine yba ?_ _));exact BK642.out) hb);replace HB:=yam (below_step yhb hb);(try clear hb)))
    go_roundg k2
    case measure=>have:=HK1.out;have:=HK2.out;omega
    case rel=>exact ⟨(wrap64 (x58_2 + 1)),yeq,H,⟨by have:=HK1.out;have:=HK2.out;omega⟩,⟨ybk BK634.out⟩,⟨yhb⟩⟩
  replace H:=yit H;obtain ⟨c7,H⟩ | ⟨c7,H⟩:=H
  ·exact absurd H (by simp)
  have c7b0:(a0_0 == 0)=false:=beq_eq_false_iff_ne.mpr c7
  have c7b1:(a0_0 != 0)=true:=bne_iff_ne.mpr c7
  obtain ⟨y635,Ny635⟩:∃ y_:List Int,Aside0 (y_=(([wrap64 ((wrap64 ((wrap64 (Int.tdiv a2 a0_0)) * a0_0)) + x16_1),wrap64 ((wrap64 (x16_1 * a0_0)) + (Int.tmod a2 a0_0))]:List Int))):=⟨_,⟨rfl⟩⟩
  replace H:(impl_cellFits.l1 k1 l1 a2 a0_0 a0_0 x16_1 y635 (y635.length:Int) 0 a0_0 l0_1 l0_2)=some r:=yhn Ny635.out H
  replace H:=yam H
  try go_wp2
  replace BK634:=yam (ybd BK634.out)
  replace HB:=yam (yed HB.out)
  refine start_ (n:=17) (S:=fun w'=>True) (ds:=[]) (yvb 17 0) (by kernel_rfl) rfl rfl trivial (fun hHeld=>?_);refine with_tabW impl_cellFits.tab5 impl_cellFits.bits5 (fun HT_ HW_=>?_)
  generalize wr.drew=w8 at BK634 HB hHeld ⊢
  refine yvp 0 19 (yvb 17 1) HT_.out ?_
  refine yvp 1 20 (yvb 17 3) HT_.out ?_
  refine yvp 2 21 (yvb 17 7) HT_.out ?_
  refine yvp 3 22 (yvb 17 15) HT_.out ?_
  refine yvp 4 23 (yvb 17 31) HT_.out ?_
  refine yvp 5 24 (yvb 17 63) HT_.out ?_
  refine yvp 6 25 (yvb 17 127) HT_.out ?_
  refine yvp 7 26 (yvb 17 255) HT_.out ?_
  refine yvp 8 27 (yvb 17 511) HT_.out ?_
  refine yvp 9 28 (yvb 17 1023) HT_.out ?_
  refine yvp 10 29 (yvb 17 2047) HT_.out ?_
  refine yvp 11 30 (yvb 17 4095) HT_.out ?_
  refine yvp 12 31 (yvb 17 8191) HT_.out ?_
  refine yvp 13 32 (yvb 17 16383) HT_.out ?_
  refine yvp 16 35 (yvb 17 81919) HT_.out ?_
  refine one_ (i:=14) (N:=some 33) (yvb 17 98303) rfl rfl (one_of HT_.out (by kernel_rfl)) (by decide) (fun K hK=>?_)
  refine Kd.R_lit_step (Kd.int .i64) _ 3 ?hg (N:=33) ?hd (xs:=([wrap64 ((wrap64 ((wrap64 (Int.tdiv a2 a0_0)) * a0_0)) + x16_1),wrap64 ((wrap64 (x16_1 * a0_0)) + (Int.tmod a2 a0_0))]:List Int)) (inner:=[.int .i64 (wrap64 ((wrap64 ((wrap64 (Int.tdiv a2 a0_0)) * a0_0)) + x16_1)),.int .i64 (wrap64 ((wrap64 (x16_1 * a0_0)) + (Int.tmod a2 a0_0)))]) (ok:=fun _=>True) (okp:=fun _=>True) ?hr ?hp (fun _ hk=>hk) trivial (Below.refl _ _) (Nat.le_refl _) (by simp) ?_;(case hd=>rfl);(case hg=>rfl);(case hr=>first|(go_simp;done)|(go_simp;rfl));(case hp=>exact (Reps.one (show Kd.M (Kd.int .i64) _ _ _ (wrap64 ((wrap64 ((wrap64 (Int.tdiv a2 a0_0)) * a0_0)) + x16_1)) [.int .i64 (wrap64 ((wrap64 ((wrap64 (Int.tdiv a2 a0_0)) * a0_0)) + x16_1))] from rfl) (Reps.one (show Kd.M (Kd.int .i64) _ _ _ (wrap64 ((wrap64 (x16_1 * a0_0)) + (Int.tmod a2 a0_0))) [.int .i64 (wrap64 ((wrap64 (x16_1 * a0_0)) + (Int.tmod a2 a0_0)))] from rfl) (Reps.none _ _))))
  intro v636 w9 ho10 hb hg_ hnew_
  clear hg_ hnew_
  (first|rw [← Ny635.out] at ho10|(simp only [Int.reduceToNat] at ho10;rw [← Ny635.out] at ho10))
  have HO637:=yam (Kd.R_lower ho10 (below_size yhb))
  replace BK634:=yam (ybb BK634.out hb)
  replace HB:=yam (below_step yhb hb)
  clear hb ho10
  obtain ⟨Ao11,co11,eo11⟩:=Kd.R_slice HO637.out
  (first|subst eo11|(injection eo11 with f1_ f2_ f3_;have f4_:=f1_.symm;have f5_:=f3_.symm;clear f1_ f2_ f3_;subst f4_;subst f5_))
  refine hK.out _ _ trivial (fun hHeld=>?_)
  clear hK K
  refine norm_ (a':=?_) ?_ ?_
  rotate_left
  ·show Act.put _ (some 33) _=_
   simp only [Act.put,yps,i64_w,i32_w]
   rfl
  refine yvp 15 34 (yvb 17 131071) HT_.out ?_
  refine done_ (done_of HT_.out (by kernel_rfl)) ?_
  try go_wp2
  go_loopg [35] k1 (fun kq v35 w'=>∃ (x35_2:Int),v35= .int .i64 x35_2∧Aside0 (impl_cellFits.l1 kq l1 a2 a0_0 a0_0 x16_1 y635 (y635.length:Int) x35_2 a0_0 l0_1 l0_2=some r)∧Aside0 (kq≤k1)∧Aside0 (Kd.R (Kd.int .i64) 3 w' w.heap.size (fun _=>True) (.slice Ao11 y635.length co11) y635)∧Aside0 (w'.heap[gb634]?=some (.cells #[.int .i64 a0_0,(.slice A0_1 l0_1.length c0_1),(.slice A0_2 l0_2.length c0_2)] 30 (0,0)))∧Aside0 (Below w.heap.size w w'))
  case atStart=>exact ⟨(0),yeq,H,⟨Nat.le_refl _⟩,⟨yka HO637.out⟩,⟨ybk BK634.out⟩,⟨yhb⟩⟩
  case round =>
   clear H
   try clear c6b0
   try clear c7
   try clear c7b0
   try clear c7b1
   obtain ⟨x35_2,rfl,HA,HK2,HO_33,BK634,HB⟩:=hrel
   rcases gk with _|k2
   ·exact absurd HA.out (by simp [impl_cellFits.l1])
   obtain ⟨H⟩:=HA
   simp only [impl_cellFits.l1] at H
   replace H:=yis H;obtain ⟨c12b0,H⟩ | ⟨c12b0,H⟩:=H
   rotate_left
   ·replace H:=yam H
    go_wp2
    go_roundg k2
    case measure=>have:=HK1.out;have:=HK2.out;omega
    case rel=>exact ⟨(wrap64 (x16_1 + 1)),yeq,H,⟨by have:=HK1.out;have:=HK2.out;omega⟩,⟨ybk BK634.out⟩,⟨yhb⟩⟩
   replace H:=yif H;obtain ⟨c13b0,H⟩:=H
   replace H:=yif H;obtain ⟨c14b0,H⟩:=H
   replace H:=yit H;obtain ⟨c15,H⟩ | ⟨c15,H⟩:=H
   ·have c15b0:((rd y635 x35_2) == a2)=true:=beq_iff_eq.mpr c15
    have c15b1:((rd y635 x35_2) != a2)=false:=bne_eq_false_iff_eq.mpr c15
    clear c15
    replace H:=yam H
    obtain ⟨ad638,e638,hx638_0,p638,q638⟩:=yat (Kd.Yr HO_33.out).2.2 x35_2
    cases e638
    try go_wp2
    replace HO_33:=yam (Kd.Yd HO_33.out)
    replace BK634:=yam (ybd BK634.out)
    replace HB:=yam (yed HB.out)
    refine start_ (n:=14) (S:=fun w'=>True) (ds:=[]) (yvb 14 0) (by kernel_rfl) rfl rfl trivial (fun hHeld=>?_);refine with_tabW impl_cellFits.tab8 impl_cellFits.bits8 (fun HT_ HW_=>?_)
    generalize wr.drew=w16 at HO_33 BK634 HB hHeld ⊢
    refine yvp 0 39 (yvb 14 1) HT_.out ?_
    refine yvp 1 40 (yvb 14 3) HT_.out ?_
    refine yvp 2 41 (yvb 14 7) HT_.out ?_
    refine yvp 3 42 (yvb 14 15) HT_.out ?_
    refine yvu 4 43 (yvb 14 31) HT_.out ?_
    refine yvu 5 44 (yvb 14 63) HT_.out ?_
    refine yvu 6 45 (yvb 14 127) HT_.out ?_
    refine yvu 7 46 (yvb 14 255) HT_.out ?_
    refine yvu 8 47 (yvb 14 511) HT_.out ?_
    refine yvu 9 48 (yvb 14 1023) HT_.out ?_
    refine yvu 10 49 (yvb 14 2047) HT_.out ?_
    refine yvu 11 50 (yvb 14 4095) HT_.out ?_
    refine yvu 12 51 (yvb 14 8191) HT_.out ?_
    refine yvp 13 52 (yvb 14 16383) HT_.out ?_
    refine done_ (done_of HT_.out (by kernel_rfl)) ?_
    try go_wp2
    go_roundg k2
    case measure=>have:=HK1.out;have:=HK2.out;omega
    case rel=>exact ⟨(wrap64 (x35_2 + 1)),yeq,H,⟨by have:=HK1.out;have:=HK2.out;omega⟩,⟨yka HO_33.out⟩,⟨ybk BK634.out⟩,⟨yhb⟩⟩
   have c15b0:((rd y635 x35_2) == a2)=false:=beq_eq_false_iff_ne.mpr c15
   have c15b1:((rd y635 x35_2) != a2)=true:=bne_iff_ne.mpr c15
   replace H:=yif H;obtain ⟨c17b0,H⟩:=H
   replace H:=yif H;obtain ⟨c18b0,H⟩:=H
   replace H:=yif H;obtain ⟨c19b0,H⟩:=H
   replace H:=yif H;obtain ⟨c20b0,H⟩:=H
   replace H:=yit H;obtain ⟨c21,H⟩ | ⟨c21,H⟩:=H
   ·have c21b0:((rd l1 (rd y635 x35_2)) == (rd l1 a2))=true:=beq_iff_eq.mpr c21
    have c21b1:((rd l1 (rd y635 x35_2)) != (rd l1 a2))=false:=bne_eq_false_iff_eq.mpr c21
    clear c21
    obtain rfl:=ysi H
    obtain ⟨ad638,e638,hx638_0,p638,q638⟩:=yat (Kd.Yr HO_33.out).2.2 x35_2
    cases e638
    try go_wp2
    replace HO_33:=yam (Kd.Yd HO_33.out)
    replace BK634:=yam (ybd BK634.out)
    replace HB:=yam (yed HB.out)
    obtain ⟨ad639,e639,hx639_0,p639,q639⟩:=yat HR1.out (rd y635 x35_2)
    have hw639_0:=hx639_0
    cases e639
    replace hx639_0:=ybx HB.out hx639_0
    obtain ⟨ad640,e640,hx640_0,p640,q640⟩:=yat HR1.out a2
    have hw640_0:=hx640_0
    obtain rfl:ad639=ad640:=(by injection e640)
    replace hx640_0:=ybx HB.out hx640_0
    refine start_ (n:=14) (S:=fun w'=>w'.cell? (ad639.add ((rd y635 x35_2)).toNat)=some (.int .i64 (rd l1 (rd y635 x35_2)))∧w'.cell? (ad639.add (a2).toNat)=some (.int .i64 (rd l1 a2))) (ds:=[]) (yvb 14 0) (by kernel_rfl) rfl rfl ⟨((HB.out.cell (World.block_lt_of_cell? w _ hw639_0)).trans hw639_0),((HB.out.cell (World.block_lt_of_cell? w _ hw640_0)).trans hw640_0)⟩ (fun hHeld=>?_);refine with_tabW impl_cellFits.tab8 impl_cellFits.bits8 (fun HT_ HW_=>?_)
    generalize wr.drew=w22 at HO_33 BK634 HB hx639_0 hx640_0 hHeld ⊢
    refine yvp 0 39 (yvb 14 1) HT_.out ?_
    refine yvp 1 40 (yvb 14 3) HT_.out ?_
    refine yvp 2 41 (yvb 14 7) HT_.out ?_
    refine yvp 3 42 (yvb 14 15) HT_.out ?_
    refine yvp 4 43 (yvb 14 31) HT_.out ?_
    refine yvp 5 44 (yvb 14 63) HT_.out ?_
    refine yvp 6 45 (yvb 14 127) HT_.out ?_
    refine yvp 8 47 (yvb 14 383) HT_.out ?_
    refine yvp 9 48 (yvb 14 895) HT_.out ?_
    refine yvp 10 49 (yvb 14 1919) HT_.out ?_
    refine yvt 7 46 (yvb 14 2047) HT_.out HW_.out hHeld ?_
    refine yvt 11 50 (yvb 14 4095) HT_.out HW_.out hHeld ?_
    refine yvp 12 51 (yvb 14 8191) HT_.out ?_
    refine yvp 13 52 (yvb 14 16383) HT_.out ?_
    refine done_ (done_of HT_.out (by kernel_rfl)) ?_
    try go_wp2
    go_ret
    exact ⟨yer,yhb⟩
   have c21b0:((rd l1 (rd y635 x35_2)) == (rd l1 a2))=false:=beq_eq_false_iff_ne.mpr c21
   have c21b1:((rd l1 (rd y635 x35_2)) != (rd l1 a2))=true:=bne_iff_ne.mpr c21
   replace H:=yam H
   obtain ⟨ad638,e638,hx638_0,p638,q638⟩:=yat (Kd.Yr HO_33.out).2.2 x35_2
   cases e638
   try go_wp2
   replace HO_33:=yam (Kd.Yd HO_33.out)
   replace BK634:=yam (ybd BK634.out)
   replace HB:=yam (yed HB.out)
   obtain ⟨ad639,e639,hx639_0,p639,q639⟩:=yat HR1.out (rd y635 x35_2)
   have hw639_0:=hx639_0
   cases e639
   replace hx639_0:=ybx HB.out hx639_0
   obtain ⟨ad640,e640,hx640_0,p640,q640⟩:=yat HR1.out a2
   have hw640_0:=hx640_0
   obtain rfl:ad639=ad640:=(by injection e640)
   replace hx640_0:=ybx HB.out hx640_0
   refine start_ (n:=14) (S:=fun w'=>w'.cell? (ad639.add ((rd y635 x35_2)).toNat)=some (.int .i64 (rd l1 (rd y635 x35_2)))∧w'.cell? (ad639.add (a2).toNat)=some (.int .i64 (rd l1 a2))) (ds:=[]) (yvb 14 0) (by kernel_rfl) rfl rfl ⟨((HB.out.cell (World.block_lt_of_cell? w _ hw639_0)).trans hw639_0),((HB.out.cell (World.block_lt_of_cell? w _ hw640_0)).trans hw640_0)⟩ (fun hHeld=>?_);refine with_tabW impl_cellFits.tab8 impl_cellFits.bits8 (fun HT_ HW_=>?_)
   generalize wr.drew=w23 at HO_33 BK634 HB hx639_0 hx640_0 hHeld ⊢
   refine yvp 0 39 (yvb 14 1) HT_.out ?_
   refine yvp 1 40 (yvb 14 3) HT_.out ?_
   refine yvp 2 41 (yvb 14 7) HT_.out ?_
   refine yvp 3 42 (yvb 14 15) HT_.out ?_
   refine yvp 4 43 (yvb 14 31) HT_.out ?_
   refine yvp 5 44 (yvb 14 63) HT_.out ?_
   refine yvp 6 45 (yvb 14 127) HT_.out ?_
   refine yvp 8 47 (yvb 14 383) HT_.out ?_
   refine yvp 9 48 (yvb 14 895) HT_.out ?_
   refine yvp 10 49 (yvb 14 1919) HT_.out ?_
   refine yvt 7 46 (yvb 14 2047) HT_.out HW_.out hHeld ?_
   refine yvt 11 50 (yvb 14 4095) HT_.out HW_.out hHeld ?_
   refine yvp 12 51 (yvb 14 8191) HT_.out ?_
   refine yvp 13 52 (yvb 14 16383) HT_.out ?_
   refine done_ (done_of HT_.out (by kernel_rfl)) ?_
   try go_wp2
   go_roundg k2
   case measure=>have:=HK1.out;have:=HK2.out;omega
   case rel=>exact ⟨(wrap64 (x35_2 + 1)),yeq,H,⟨by have:=HK1.out;have:=HK2.out;omega⟩,⟨yka HO_33.out⟩,⟨ybk BK634.out⟩,⟨yhb⟩⟩
mutual
def impl_SquareFits.l0:Nat→List Int→Int→Int→Option (Bool)
 | 0,_,_,_=>none
 | k + 1,x0,x1,x15=>if x15 < (wrap64 (2 * x1)) then ((impl_LineCells.f k x1 x15).bind fun t=>(impl_SquareFits.l1 k x0 x1 x15 t [false,false,false,false,false] 0)) else (some true)
def impl_SquareFits.l1:Nat→List Int→Int→Int→List Int→List Bool→Int→Option (Bool)
 | 0,_,_,_,_,_,_=>none
 | k + 1,x0,x1,x15,x21,x6,x23=>if x23 < (x21.length:Int) then (if 0≤x23 then (if 0≤(rd x21 x23) then (if (rd x21 x23) < (x0.length:Int) then (if 0≤(rd x0 (rd x21 x23)) then (if (rd x0 (rd x21 x23)) < (x6.length:Int) then (if (rd x0 (rd x21 x23)) > 0 then (if (rdOf false x6 (rd x0 (rd x21 x23)))=true then (some false) else (impl_SquareFits.l1 k x0 x1 x15 x21 (x6.set (rd x0 (rd x21 x23)).toNat true) (wrap64 (x23 + 1)))) else (impl_SquareFits.l1 k x0 x1 x15 x21 (x6.set (rd x0 (rd x21 x23)).toNat true) (wrap64 (x23 + 1)))) else (none)) else (none)) else (none)) else (none)) else (none)) else (impl_SquareFits.l0 k x0 x1 (wrap64 (x15 + 1)))
end
def impl_SquareFits.f (k:Nat)(l0:List Int)(a1:Int):Option (Bool):=(impl_GridValid.f k l0 a1).bind fun t=>(if t=true then (impl_SquareFits.l0 k l0 a1 0) else (some false))
theorem impl_SquareFits.calls (k:Nat)(A0:Option Addr)(c0:Nat)(l0:List Int)(a1:Int)(r:Bool)(w:World)(hr0:Kd.C (Kd.int .i64) w A0 l0.length l0)(hc0:l0.length≤c0)(h:impl_SquareFits.f k l0 a1=some r) :
  Calls Try.prog 103 #[.slice A0 l0.length c0,.int .i64 a1] w fun e w'=>e= .returned (.bool r)∧Below w.heap.size w w':=by
 have HR0:=yam hr0
 have HC0:=yam hc0
 clear hr0 hc0
 have HB:=yam (Below.refl w.heap.size w)
 unfold impl_SquareFits.f at h
 have H:=h
 clear h
 replace H:=ybi H;obtain ⟨t1,A1,H⟩:=H
 replace H:(if t1=true then (impl_SquareFits.l0 k l0 a1 0) else (some false))=some r:=H
 by_cases c1:t1=true
 ·subst c1
  rw [if_pos rfl] at H
  replace H:=yam H
  go_enter Try.func103,Try.ntmps103
  go_wp2_with (first|(go_at_call 69;(with_reducible refine (impl_GridValid.calls k _ _ l0 a1 true _ HR0.out HC0.out A1.out).mono ?_);rintro e w' ⟨rfl,⟨nd,rfl⟩⟩))
  go_loopg [5,15] k (fun kq v5 v15 w'=>∃ (x15:Int),v15= .int .i64 x15∧Aside0 (impl_SquareFits.l0 kq l0 a1 x15=some r)∧Aside0 (kq≤k)∧Aside0 (Below w.heap.size w w'))
  case atStart=>exact ⟨0,rfl,H,⟨Nat.le_refl _⟩,⟨by repeat (first|(with_reducible first|exact HB.out|apply below_alloc|apply pw_below_drewN|apply below_drew1)|exact HB.out)⟩⟩
  case round =>
   clear H HB
   obtain ⟨x15,rfl,HA,HK1,HB⟩:=hrel
   rcases gk with _|k1
   ·exact absurd HA.out (by simp [impl_SquareFits.l0])
   obtain ⟨H⟩:=HA
   simp only [impl_SquareFits.l0] at H
   by_cases c3:x15 < (wrap64 (2 * a1))
   ·rw [if_pos c3] at H
    have c3b0:decide (x15 < (wrap64 (2 * a1)))=true:=decide_eq_true c3
    clear c3
    replace H:=ybi H;obtain ⟨t4,A4,H⟩:=H
    replace H:(impl_SquareFits.l1 k1 l0 a1 x15 t4 [false,false,false,false,false] 0)=some r:=H
    replace H:=yam H
    have hsz:=HB.out.size
    have HG:=yam hsz
    clear hsz
    obtain ⟨wo,rfl⟩:∃ wo:World,wo=wr:=⟨_,rfl⟩
    have HO6:=yam (arr5_new wo w.heap.size HG.out 93)
    have HB2:=yam (below_alloc HB.out (.cells #[.bool false,.bool false,.bool false,.bool false,.bool false] 93))
    go_wp2_with (first|(refine goesL_ (some 21) rfl rfl Try.func82 (by kernel_rfl) rfl #[.int .i64 a1,.int .i64 x15] rfl yma ?_;(with_reducible refine (impl_LineCells.calls k1 a1 x15 t4 _ A4.out).mono ?_);rintro e w5 ⟨v116,rfl,ho0,hb⟩;refine ⟨_,rfl,?_⟩;obtain ⟨Ao14,co14,eo14⟩:=Kd.R_slice ho0;subst eo14;have HO21:=yam (show Kd.R (Kd.int .i64) 3 w5 w.heap.size (fun k_=>k_≠wo.heap.size) (.slice Ao14 t4.length co14) t4 from Kd.R_lower (Kd.R_mono (Kd.R_bound ho0) (fun k_ hk_=>Nat.ne_of_gt (Nat.lt_of_lt_of_le (below_alloc_size wo _) hk_.2.1))) (below_size HB2.out));have n2_:=yam (Kd.R_below HO6.out hb);clear HO6;have HO6:=n2_;have n1_:=yam (below_step HB2.out hb);clear HB HB2 n2_;have HB:=n1_;clear n1_ hb ho0))
    go_loopg [8,23] k1 (fun kq v8 v23 w'=>∃ (x6:List Bool) (x23:Int),v23= .int .i64 x23∧Aside0 (impl_SquareFits.l1 kq l0 a1 x15 t4 x6 x23=some r)∧Aside0 (kq≤k1)∧Aside0 (Kd.R Kd.bool 93 w' w.heap.size (fun _=>True) (.slice (some ⟨wo.heap.size,0,none⟩) x6.length 5) x6)∧Aside0 (x6.length=5)∧Aside0 (Kd.R (Kd.int .i64) 3 w' w.heap.size (fun k_=>k_≠wo.heap.size) (.slice Ao14 t4.length co14) t4)∧Aside0 (Below w.heap.size w w'))
    case atStart=>exact ⟨_,0,rfl,H,⟨Nat.le_refl _⟩,HO6,⟨rfl⟩,HO21,HB⟩
    case round =>
     clear H HO6 HO21 HB
     obtain ⟨x6,x23,rfl,HA,HK2,HO6,HL6,HO21,HB⟩:=hrel
     rcases gk with _|k2
     ·exact absurd HA.out (by simp [impl_SquareFits.l1])
     obtain ⟨H⟩:=HA
     simp only [impl_SquareFits.l1] at H
     by_cases c6:x23 < (t4.length:Int)
     ·rw [if_pos c6] at H
      have c6b0:decide (x23 < (t4.length:Int))=true:=decide_eq_true c6
      clear c6
      by_cases c7:0≤x23
      ·rw [if_pos c7] at H
       have c7b0:decide (0≤x23)=true:=decide_eq_true c7
       clear c7
       by_cases c8:0≤(rd t4 x23)
       ·rw [if_pos c8] at H
        have c8b0:decide (0≤(rd t4 x23))=true:=decide_eq_true c8
        clear c8
        by_cases c9:(rd t4 x23) < (l0.length:Int)
        ·rw [if_pos c9] at H
         have c9b0:decide ((rd t4 x23) < (l0.length:Int))=true:=decide_eq_true c9
         clear c9
         by_cases c10:0≤(rd l0 (rd t4 x23))
         ·rw [if_pos c10] at H
          have c10b0:decide (0≤(rd l0 (rd t4 x23)))=true:=decide_eq_true c10
          clear c10
          by_cases c11:(rd l0 (rd t4 x23)) < (x6.length:Int)
          ·rw [if_pos c11] at H
           obtain ⟨ad118,e118,hx118_0,p118,q118⟩:=yat (Kd.R_reads' HO21.out).2.2 x23
           cases e118
           obtain ⟨ad119,e119,hx119_0,p119,q119⟩:=yat HR0.out (rd t4 x23)
           cases e119
           replace hx119_0:=ybx HB.out hx119_0
           have p120:0≤(rd l0 (rd t4 x23)):=ydt
           have q120:(rd l0 (rd t4 x23)) < 5:=by have:=HL6.out;omega
           obtain ⟨hc120,hf120⟩:=Kd.R_cell false HO6.out (rd l0 (rd t4 x23)) p120 c11
           clear c11
           have p121:=eq_true p120
           have q121:=eq_true q120
           have q122:decide ((rd l0 (rd t4 x23)) < 5)=true:=decide_eq_true q120
           by_cases c12:(rd l0 (rd t4 x23)) > 0
           ·rw [if_pos c12] at H
            have c12b0:decide (0 < (rd l0 (rd t4 x23)))=true:=decide_eq_true c12
            clear c12
            by_cases c13:rdOf false x6 (rd l0 (rd t4 x23))=true
            ·rw [if_pos c13] at H
             obtain rfl:=ysi H
             go_wp2
             go_ret
             exact ⟨rfl,HB.out⟩
            ·rw [if_neg c13] at H
             have c13b0:rdOf false x6 (rd l0 (rd t4 x23))=false:=eq_false_of_ne_true c13
             clear c13
             replace H:=yam H
             go_wp2
             go_roundg k2
             case measure=>have:=HK1.out;have:=HK2.out;omega
             case rel =>
              have hput:=Kd.R_put HO6.out (rd l0 (rd t4 x23)) true
              refine ⟨_,_,rfl,H,⟨by have:=HK1.out;have:=HK2.out;omega⟩,⟨?_⟩,⟨by rw [List.length_set];exact HL6.out⟩,⟨Kd.R_grown HO21.out hput.2 (fun k_ hk_ e_=>hk_ (Option.some.inj e_))⟩,⟨below_set HB.out HG.out⟩⟩
              rw [List.length_set]
              exact hput.1
           ·rw [if_neg c12] at H
            have c12b0:decide (0 < (rd l0 (rd t4 x23)))=false:=decide_eq_false c12
            clear c12
            replace H:=yam H
            go_wp2
            go_roundg k2
            case measure=>have:=HK1.out;have:=HK2.out;omega
            case rel =>
             have hput:=Kd.R_put HO6.out (rd l0 (rd t4 x23)) true
             refine ⟨_,_,rfl,H,⟨by have:=HK1.out;have:=HK2.out;omega⟩,⟨?_⟩,⟨by rw [List.length_set];exact HL6.out⟩,⟨Kd.R_grown HO21.out hput.2 (fun k_ hk_ e_=>hk_ (Option.some.inj e_))⟩,⟨below_set HB.out HG.out⟩⟩
             rw [List.length_set]
             exact hput.1
          ·rw [if_neg c11] at H
           exact absurd H (by simp)
         ·rw [if_neg c10] at H
          exact absurd H (by simp)
        ·rw [if_neg c9] at H
         exact absurd H (by simp)
       ·rw [if_neg c8] at H
        exact absurd H (by simp)
      ·rw [if_neg c7] at H
       exact absurd H (by simp)
     ·rw [if_neg c6] at H
      have c6b0:decide (x23 < (t4.length:Int))=false:=decide_eq_false c6
      clear c6
      replace H:=yam H
      go_wp2
      go_roundg k2
      case measure=>have:=HK1.out;have:=HK2.out;omega
      case rel=>exact ⟨(wrap64 (x15 + 1)),rfl,H,⟨by have:=HK1.out;have:=HK2.out;omega⟩,HB⟩
   ·rw [if_neg c3] at H
    have c3b0:decide (x15 < (wrap64 (2 * a1)))=false:=decide_eq_false c3
    clear c3
    obtain rfl:=ysi H
    go_wp2
    go_ret
    exact ⟨rfl,HB.out⟩
 ·rw [if_neg c1] at H
  obtain rfl:=ysi H
  obtain rfl:t1=false:=eq_false_of_ne_true c1
  clear c1
  go_enter Try.func103,Try.ntmps103
  go_wp2_with (first|(go_at_call 69;(with_reducible refine (impl_GridValid.calls k _ _ l0 a1 false _ HR0.out HC0.out A1.out).mono ?_);rintro e w' ⟨rfl,⟨nd,rfl⟩⟩))
  go_ret
  exact ⟨rfl,by repeat (first|(with_reducible first|exact HB.out|apply below_alloc|apply pw_below_drewN|apply below_drew1)|exact HB.out)⟩
end Go.Proofs.Ytdemlminhkhonaa.P
