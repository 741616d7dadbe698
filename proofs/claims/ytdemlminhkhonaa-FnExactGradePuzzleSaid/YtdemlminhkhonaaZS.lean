/- The plain side of the law FnExactGradePuzzle: what the functions come to, and that the law answers true. Conditions: as stated in each. -/
import Derived.Laws.BitsLemmas
import Derived.Lib.SmallJoins
import Derived.OpenShut
import Derived.Test.YtdemlminhkhonaaZP1
import Derived.Test.YtdemlminhkhonaaZP2
import Derived.Test.YtdemlminhkhonaaZP3
import Derived.Test.YtdemlminhkhonaaZP4
import Derived.Test.YtdemlminhkhonaaZP5
import Derived.Test.YtdemlminhkhonaaZP6
import Derived.Test.YtdemlminhkhonaaZP7
import Derived.Test.YtdemlminhkhonaaZP8
import Derived.Test.YtdemlminhkhonaaZW
namespace Go.Proofs.Ytdemlminhkhonaa.Pure
set_option linter.unusedSimpArgs false
set_option linter.unusedVariables false
open Go.RowKit Go.Proofs.YtdemlminhkhonaaW.PrintWords Go.Proofs.YtdemlminhkhonaaW.PrintMore Go.Proofs.Ytdemlminhkhonaa.P

theorem cellsOfRule:Try.prog.cellsOf 65=3:=by kernel_rfl
theorem cellsOfInt:Try.prog.cellsOf 3=1:=by kernel_rfl
theorem cellsOfInts:Try.prog.cellsOf 22=1:=by kernel_rfl
def RuleWf (x:S65):Prop:=(Lit.int .i64 x.f0).wf=true∧x.f1.length≤9223372036854775807∧(∀ y∈x.f1,(Lit.int .i64 y).wf=true)∧(Lit.int .i64 x.f2).wf=true
theorem ints_of {H:Type}{enc:TypeId × Value→H}{W:World}{n:Nat}{c:Value}{y:DataW H × List MemPlace}(h:DataW.trod enc Try.prog W 0 (fun _=>true) true n 22 [c]=some y) :
  ∃ (A:Option Addr) (k:Nat) (l:List Int),c= .slice A l.length k∧l.length≤k∧Kd.C (Kd.int .i64) W A l.length l∧l.length≤9223372036854775807∧∀ y∈l,(Lit.int .i64 y).wf=true:=by
 obtain ⟨A,len,k,zs,hc,w⟩:∃ A len k zs,c=Value.slice A len k∧((A=none∧len=0∧k=0∧zs=[])∨∃ x,A=some x∧len≤k∧k≤maxLen∧zs.length=k∧(∀ i,i < zs.length→W.cell? (x.add i)=some (.int .i64 (zs.getD i 0)))∧∀ n∈zs,(Lit.int .i64 n).wf=true):=by
  rcases Go.ChangeShapes.open_ints Try.underlying22 Try.underlying3 (by kernel_rfl) h with ⟨hcs,_⟩ | ⟨x,l,c',zs,hcs,_,hl,hm,hz,_,hcell,hwz⟩
  ·exact ⟨none,0,0,[],by simpa using hcs,.inl ⟨rfl,rfl,rfl,rfl⟩⟩
  ·exact ⟨some x,l,c',zs,by simpa using hcs,.inr ⟨_,rfl,hl,hm,by simpa using hz,hcell,hwz⟩⟩
 obtain ⟨l,rfl,hr,hm,hw,hcc⟩:=ReadsInt.ofRowC w
 exact ⟨A,k,l,hc,hcc,Kd.C_of_reads (d:=(0:Int)) (h1:=fun _=>rfl) hr,hm,hw⟩
theorem rule_of {H:Type}{enc:TypeId × Value→H}{W:World}{n:Nat}{cs:List Value}{y:DataW H × List MemPlace}(h:DataW.trod enc Try.prog W 0 (fun _=>true) true n 65 cs=some y) :
  ∃ (x:S65) (A:Option Addr) (c:Nat),cs=[.int .i64 x.f0,.slice A x.f1.length c,.int .i64 x.f2]∧x.f1.length≤c∧Kd.C (Kd.int .i64) W A x.f1.length x.f1∧RuleWf x:=by
 obtain ⟨y0,y1,y2,m,_,hl,h0,h1,h2⟩:=Go.Deep.trod_struct3 Try.underlying65 h
 rw [cellsOfRule] at hl
 match cs,hl with
 | [c0,c1,c2],_ =>
  simp only [cellsOfInt,cellsOfInts,List.drop_succ_cons,List.drop_zero,List.take_succ_cons,List.take_zero] at h0 h1 h2
  obtain ⟨a,e0,_,w0⟩:=DataW.trod_int Try.underlying3 h0
  obtain ⟨b,e2,_,w2⟩:=DataW.trod_int Try.underlying3 h2
  obtain ⟨A,k,l,e1,hk,hC,hm,hw⟩:=ints_of h1
  obtain rfl:c0= .int .i64 a:=by simpa using e0
  obtain rfl:c2= .int .i64 b:=by simpa using e2
  subst e1
  exact ⟨⟨a,l,b⟩,A,k,rfl,hk,hC,w0,hm,hw,w2⟩
theorem rules_of {H:Type}{enc:TypeId × Value→H}{W:World}{n:Nat}{c:Value}{y:DataW H × List MemPlace}(h:DataW.trod enc Try.prog W 0 (fun _=>true) true n 23 [c]=some y) :
  ∃ (A:Option Addr) (k:Nat) (l:List S65),c= .slice A l.length k∧l.length≤k∧Kd.C k65 W A l.length l∧l.length≤9223372036854775807∧∀ x∈l,RuleWf x:=by
 rcases Go.Deep.open_slice Try.underlying23 h with ⟨hcs,_⟩ | ⟨a,len,cap,m,q,D,Pl,hcs,_,hlc,hcm,hm,_,hi⟩
 ·exact ⟨none,0,[],by simpa using hcs,Nat.le_refl _,⟨rfl,by decide,fun h=>absurd h (by decide)⟩,by decide,fun x hx=>by cases hx⟩
 ·have hm':m=cap:=by simpa using hm
  have hall:∀ i,∃ x:S65,i < len→RuleWf x∧∃ cs:List Value,k65.K W x cs∧cs.length=3∧∀ j u,cs[j]?=some u→W.cell? (a.add (i * 3 + j))=some u:=by
   intro i
   by_cases hil:i < len
   ·obtain ⟨cs',hc,ht⟩:=hi i (by omega)
    rw [cellsOfRule] at hc
    obtain ⟨x,A,k,rfl,hk,hC,hwf⟩:=rule_of ht
    obtain ⟨_,hcl,hat⟩:=World.cells?_some hc
    refine ⟨x,fun _=>⟨hwf,_,k65_mk W x hk hC,rfl,fun j u hu=>?_⟩⟩
    have hj:j < 3:=by
     have:=(List.getElem?_eq_some_iff.1 hu).1
     simpa using this
    rw [← Go.Deep.add_add,hat j hj];exact hu
   ·exact ⟨⟨0,[],0⟩,fun h=>absurd h hil⟩
  obtain ⟨f,hf⟩:=Classical.axiomOfChoice hall
  have hlen:((List.range len).map f).length=len:=by rw [List.length_map,List.length_range]
  have hmax:len≤9223372036854775807:=Nat.le_trans hlc hcm
  refine ⟨some a,cap,(List.range len).map f,?_,by rw [hlen];exact hlc,⟨rfl,by rw [hlen];exact hmax,fun _=>⟨a,rfl,fun j p hj=>?_⟩⟩,by rw [hlen];exact hmax,fun x hx=>?_⟩
  ·rw [hlen];simpa using hcs
  ·obtain ⟨hj1,hj2⟩:=List.getElem?_eq_some_iff.1 hj
   rw [hlen] at hj1
   obtain ⟨_,cs,hK,hl,hat⟩:=hf j hj1
   have hp:p=f j:=by rw [← hj2];simp
   rw [hp]
   exact ⟨cs,hl,hK,hat⟩
  ·obtain ⟨i,hi2,rfl⟩:=List.mem_map.1 hx
   exact (hf i (List.mem_range.1 hi2)).1

end Go.Proofs.Ytdemlminhkhonaa.Pure
namespace Go.Proofs.Ytdemlminhkhonaa.Pure
set_option linter.unusedSimpArgs false
set_option linter.unusedVariables false
open Go.RowKit Go.Proofs.YtdemlminhkhonaaW.PrintWords Go.Proofs.YtdemlminhkhonaaW.PrintMore


theorem w64 {x:Int}(h0: -9223372036854775808≤x)(h1:x≤9223372036854775807):wrap64 x=x:=by
 unfold wrap64;omega
theorem w64n {n:Nat}(h:n < 9000000000000000000):wrap64 ((n:Int) + 1)=((n + 1:Nat):Int):=by
 unfold wrap64;omega
theorem rd_nat (xs:List Int)(n:Nat):rd xs (n:Int)=xs.getD n 0:=by simp [rd]
theorem rd_lt {xs:List Int}{n:Nat}(h:n < xs.length):rd xs (n:Int)=xs[n]:=by simp [rd,h]
theorem Ev.some {α:Type}{g:Nat→Option α}{r:α}(h:∀ k,g k=Option.some r):Ev g r:=⟨0,fun k _=>h k⟩
theorem Ev.uniq {α:Type}{g:Nat→Option α}{r s:α}(h:Ev g r)(k:Ev g s):r=s:=by
 obtain ⟨K,h⟩:=h
 obtain ⟨K',k⟩:=k
 have a:=h (max K K') (by omega)
 have b:=k (max K K') (by omega)
 rw [a] at b
 exact Option.some.inj b
theorem Ev.range {σ α : Type} {L : Nat → σ → Int → Option α} {R : σ → Nat → α} {N : Nat} (P : σ → Nat → Prop)
    (hend : ∀ s, P s N → Ev (fun k => L k s (N : Int)) (R s N))
    (hstep : ∀ s n, n < N → P s n → (∀ s', P s' (n + 1) → Ev (fun k => L k s' ((n + 1 : Nat) : Int)) (R s' (n + 1))) → Ev (fun k => L k s (n : Int)) (R s n)) :
    ∀ s n, n ≤ N → P s n → Ev (fun k => L k s (n : Int)) (R s n) := by
  intro s n hn
  obtain ⟨d, hd⟩ : ∃ d, N = n + d := ⟨N - n, by omega⟩
  induction d generalizing s n with
  | zero => obtain rfl : N = n := by omega
            exact hend s
  | succ d ih => exact fun hp => hstep s n (by omega) hp (fun s' hp' => ih s' (n + 1) (by omega) (by omega) hp')
theorem Ev.range0 {α:Type}{L:Nat→Int→Option α}{R:Nat→α}{N:Nat}
  (hend:Ev (fun k=>L k (N:Int)) (R N))
  (hstep:∀ n,n < N→Ev (fun k=>L k ((n + 1:Nat):Int)) (R (n + 1))→Ev (fun k=>L k (n:Int)) (R n)) :
  ∀ n,n≤N→Ev (fun k=>L k (n:Int)) (R n):=by
 intro n hn
 exact Ev.range (σ:=Unit) (L:=fun k _ i=>L k i) (R:=fun _ n=>R n) (fun _ _=>True) (fun _ _=>hend) (fun _ n h _ ih=>hstep n h (ih () trivial)) () n hn trivial
theorem rd_ge {xs:List Int}{i:Int}(h:xs.length≤i.toNat):rd xs i=0:=by simp [rd,List.getElem?_eq_none h]
theorem take_set_succ {x:List Int}{n:Nat}(h:n < x.length)(v:Int):(x.set n v).take (n + 1)=x.take n ++ [v]:=by
 rw [List.take_succ_eq_append_getElem (by simpa using h)]
 simp [List.take_set_of_le (Nat.le_refl n)]
theorem drop_cons {xs:List Int}{n:Nat}(h:n < xs.length):xs.drop n=xs[n] :: xs.drop (n + 1):=List.drop_eq_getElem_cons h

end Go.Proofs.Ytdemlminhkhonaa.Pure
namespace Go.Proofs.Ytdemlminhkhonaa.Pure
set_option linter.unusedSimpArgs false
set_option linter.unusedVariables false
open Go.RowKit Go.Proofs.YtdemlminhkhonaaW.PrintWords Go.Proofs.YtdemlminhkhonaaW.PrintMore


def sizeOkB (s:Int):Bool:=decide (2≤s∧s≤4)
def gridB (g:List Int)(s:Int):Bool:=sizeOkB s && (decide ((g.length:Int)=s * s) && g.all (fun v=>decide (0≤v∧v≤s)))
def allM (s:Int):Int:=if s=2 then 6 else if s=3 then 14 else 30
def masksB (g:List Int)(s:Int):Bool:=sizeOkB s && (decide ((g.length:Int)=s * s) && g.all (fun v=>decide (0≤v∧v≤allM s∧v % 2=0)))
def marks (k:Int):Nat→List Int
 | 0=>[]
 | n + 1=>k :: marks (k + 1) n
theorem sizeOkB_iff {s:Int}:sizeOkB s=true↔s=2∨s=3∨s=4:=by
 unfold sizeOkB;rw [decide_eq_true_iff];omega
theorem gridB_size {g:List Int}{s:Int}(h:gridB g s=true):sizeOkB s=true:=by unfold gridB at h;simp only [Bool.and_eq_true] at h;exact h.1
theorem gridB_len {g:List Int}{s:Int}(h:gridB g s=true):(g.length:Int)=s * s:=by unfold gridB at h;simp only [Bool.and_eq_true,decide_eq_true_eq] at h;exact h.2.1
theorem gridB_mem {g:List Int}{s:Int}(h:gridB g s=true):∀ v∈g,0≤v∧v≤s:=by
 unfold gridB at h;simp only [Bool.and_eq_true,decide_eq_true_eq,List.all_eq_true] at h;exact h.2.2
theorem gridB_mk {g:List Int}{s:Int}(h:sizeOkB s=true)(hl:(g.length:Int)=s * s)(hm:∀ v∈g,0≤v∧v≤s):gridB g s=true:=by
 unfold gridB;simp only [Bool.and_eq_true,decide_eq_true_eq,List.all_eq_true];exact ⟨h,hl,hm⟩
theorem gridB_le {g:List Int}{s:Int}(h:gridB g s=true):g.length≤16:=by
 have:=gridB_len h
 rcases sizeOkB_iff.1 (gridB_size h) with rfl|rfl|rfl <;> omega
theorem masksB_size {g:List Int}{s:Int}(h:masksB g s=true):sizeOkB s=true:=by unfold masksB at h;simp only [Bool.and_eq_true] at h;exact h.1
theorem masksB_len {g:List Int}{s:Int}(h:masksB g s=true):(g.length:Int)=s * s:=by unfold masksB at h;simp only [Bool.and_eq_true,decide_eq_true_eq] at h;exact h.2.1
theorem masksB_mem {g:List Int}{s:Int}(h:masksB g s=true):∀ v∈g,0≤v∧v≤allM s∧v % 2=0:=by
 unfold masksB at h;simp only [Bool.and_eq_true,decide_eq_true_eq,List.all_eq_true] at h;exact h.2.2
theorem masksB_mk {g:List Int}{s:Int}(h:sizeOkB s=true)(hl:(g.length:Int)=s * s)(hm:∀ v∈g,0≤v∧v≤allM s∧v % 2=0):masksB g s=true:=by
 unfold masksB;simp only [Bool.and_eq_true,decide_eq_true_eq,List.all_eq_true];exact ⟨h,hl,hm⟩
theorem masksB_le {g:List Int}{s:Int}(h:masksB g s=true):g.length≤16:=by
 have:=masksB_len h
 rcases sizeOkB_iff.1 (masksB_size h) with rfl|rfl|rfl <;> omega
def countF (g:List Int):Int:=((g.filter (fun v=>decide (0 < v))).length:Int)
def gridFilled (g:List Int)(s:Int):Int:=if gridB g s=true then countF g else -1
theorem countF_cons (v:Int)(g:List Int):countF (v :: g)=(if 0 < v then 1 else 0) + countF g:=by
 unfold countF;by_cases h:0 < v
 ·simp [h];omega
 ·simp [h]
def lineOkB (s l:Int):Bool:=sizeOkB s && decide (0≤l∧l < 2 * s)
def lineC (s l:Int):List Int:=if lineOkB s l=true then (List.range s.toNat).map (fun i:Nat=>if l < s then l * s + (i:Int) else (i:Int) * s + l - s) else []
theorem lineOkB_cases {s l:Int}(h:lineOkB s l=true):(s=2∧(l=0∨l=1∨l=2∨l=3))∨(s=3∧(l=0∨l=1∨l=2∨l=3∨l=4∨l=5))∨(s=4∧(l=0∨l=1∨l=2∨l=3∨l=4∨l=5∨l=6∨l=7)):=by
 unfold lineOkB at h;simp only [Bool.and_eq_true,decide_eq_true_eq] at h
 obtain ⟨hs,h0,h1⟩:=h
 rcases sizeOkB_iff.1 hs with rfl|rfl|rfl <;> omega
theorem lineC_len (s l:Int):(lineC s l).length≤16:=by
 unfold lineC;split
 ·rename_i h
  rw [List.length_map,List.length_range]
  rcases lineOkB_cases h with ⟨rfl,_⟩ | ⟨rfl,_⟩ | ⟨rfl,_⟩ <;> decide
 ·exact Nat.zero_le _

end Go.Proofs.Ytdemlminhkhonaa.Pure
namespace Go.Proofs.Ytdemlminhkhonaa.Pure
set_option linter.unusedSimpArgs false
set_option linter.unusedVariables false
open Go.RowKit Go.Proofs.YtdemlminhkhonaaW.PrintWords Go.Proofs.YtdemlminhkhonaaW.PrintMore Go.Proofs.Ytdemlminhkhonaa.P


theorem l1In_eq (a b c:Int):spec_l1In.f a b c=some (decide (b≤a∧a≤c)):=by
 unfold spec_l1In.f
 by_cases h:a ≥ b
 ·have h':b≤a:=h
  simp [h']
 ·have h':¬ b≤a:=h
  simp [h']
theorem sizeOk_eq (a:Int):impl_sizeOk.f a=some (sizeOkB a):=by
 unfold impl_sizeOk.f sizeOkB
 by_cases h:a ≥ 2
 ·have h':2≤a:=h
  simp [h']
 ·have h':¬ 2≤a:=h
  simp [h']
theorem allValues_eq {s:Int}(h:sizeOkB s=true):impl_allValues.f s=some (allM s):=by
 rcases sizeOkB_iff.1 h with rfl|rfl|rfl <;> decide +kernel

end Go.Proofs.Ytdemlminhkhonaa.Pure
namespace Go.Proofs.Ytdemlminhkhonaa.Pure
set_option linter.unusedSimpArgs false
set_option linter.unusedVariables false
open Go.RowKit Go.Proofs.YtdemlminhkhonaaW.PrintWords Go.Proofs.YtdemlminhkhonaaW.PrintMore Go.Proofs.Ytdemlminhkhonaa.P


theorem specGridValid_ev (g:List Int)(s:Int)(h:g.length≤35184372088832):Ev (fun k=>spec_GridValid.f k g s) (gridB g s):=by
 unfold spec_GridValid.f
 have:=Ev.range0 (L:=fun k i=>spec_GridValid.l0 k g s i) (R:=fun n=>(g.drop n).all (fun v=>decide (0≤v∧v≤s)) && (sizeOkB s && decide ((g.length:Int)=s * s))) (N:=g.length) ?_ ?_ 0 (Nat.zero_le _)
 ·have e:gridB g s=((g.drop 0).all (fun v=>decide (0≤v∧v≤s)) && (sizeOkB s && decide ((g.length:Int)=s * s))):=by
   unfold gridB;rw [List.drop_zero];cases sizeOkB s <;> cases decide ((g.length:Int)=s * s) <;> simp
  rw [e];simpa using this
 ·refine Ev.step (fun k=>spec_GridValid.l0.eq_2 _ _ _ k) ?_
  simp only [Int.lt_irrefl,if_false,l1In_eq,Option.bind_some,List.drop_length,List.all_nil,Bool.true_and]
  by_cases hs:sizeOkB s=true
  ·have hs':decide (2≤s∧s≤4)=true:=hs
   have hw:wrap64 (s * s)=s * s:=by rcases sizeOkB_iff.1 hs with rfl|rfl|rfl <;> decide +kernel
   simp only [hs',if_true,hs,hw,Bool.true_and]
   have e:((g.length:Int) == s * s)=decide ((g.length:Int)=s * s):=by
    by_cases h:(g.length:Int)=s * s <;> simp [h]
   rw [e];exact Ev.now _
  ·have hs':¬ decide (2≤s∧s≤4)=true:=hs
   simp only [hs',hs,if_false,Bool.false_and,eq_false_of_ne_true hs,Bool.false_eq_true]
   exact Ev.now _
 ·intro n hn ih
  refine Ev.step (fun k=>spec_GridValid.l0.eq_2 _ _ _ k) ?_
  have h1:(n:Int) < (g.length:Int):=by omega
  have h3:(0:Int)≤n:=by omega
  rw [drop_cons hn]
  simp only [h1,h3,if_true,rd_lt hn,l1In_eq,Option.bind_some,List.all_cons]
  by_cases hv:decide (0≤g[n]∧g[n]≤s)=true
  ·simp only [hv,if_true,w64n (by omega:n < 9000000000000000000),Bool.true_and]
   exact ih
  ·simp only [hv,if_false,eq_false_of_ne_true hv,Bool.false_and,Bool.false_eq_true]
   exact Ev.now _
theorem implGridValid_ev (g:List Int)(s:Int)(h:g.length≤35184372088832):Ev (fun k=>impl_GridValid.f k g s) (gridB g s):=by
 unfold impl_GridValid.f
 simp only [sizeOk_eq,Option.bind_some]
 by_cases hs:sizeOkB s=true
 ·have hw:wrap64 (s * s)=s * s:=by rcases sizeOkB_iff.1 hs with rfl|rfl|rfl <;> decide +kernel
  simp only [hs,if_true,hw]
  refine Ev.step (fun k=>impl_GridValid.j0.eq_2 _ _ _ k) ?_
  by_cases hl:(g.length:Int)=s * s
  ·have e:((g.length:Int) != s * s)=false:=by simp [hl]
   simp only [e,Bool.false_eq_true,if_false]
   have:=Ev.range0 (L:=fun k i=>impl_GridValid.l0 k s g (g.length:Int) i) (R:=fun n=>(g.drop n).all (fun v=>decide (0≤v∧v≤s))) (N:=g.length) ?_ ?_ 0 (Nat.zero_le _)
   ·have e:gridB g s=(g.drop 0).all (fun v=>decide (0≤v∧v≤s)):=by
     unfold gridB;rw [List.drop_zero,hs,hl];simp
    rw [e];simpa using this
   ·refine Ev.step (fun k=>impl_GridValid.l0.eq_2 _ _ _ _ k) ?_
    simp only [Int.lt_irrefl,if_false,List.drop_length,List.all_nil]
    exact Ev.now _
   ·intro n hn ih
    refine Ev.step (fun k=>impl_GridValid.l0.eq_2 _ _ _ _ k) ?_
    have h1:(n:Int) < (g.length:Int):=by omega
    have h3:(0:Int)≤n:=by omega
    rw [drop_cons hn]
    simp only [h1,h3,if_true,rd_lt hn,List.all_cons]
    by_cases ha:g[n] < 0
    ·have:decide (0≤g[n]∧g[n]≤s)=false:=decide_eq_false (by omega)
     simp only [ha,if_true,this,Bool.false_and]
     exact Ev.now _
    ·by_cases hb:g[n] > s
     ·have:decide (0≤g[n]∧g[n]≤s)=false:=decide_eq_false (by omega)
      simp only [ha,hb,if_true,if_false,this,Bool.false_and]
      exact Ev.now _
     ·have:decide (0≤g[n]∧g[n]≤s)=true:=decide_eq_true (by omega)
      simp only [ha,hb,if_false,this,Bool.true_and,w64n (by omega:n < 9000000000000000000)]
      exact ih
  ·have e:((g.length:Int) != s * s)=true:=by simp [hl]
   have e2:gridB g s=false:=by unfold gridB;simp [hl]
   simp only [e,if_true,e2]
   exact Ev.now _
 ·have e2:gridB g s=false:=by unfold gridB;simp [hs]
  simp only [hs,if_false,e2,Bool.false_eq_true]
  refine Ev.step (fun k=>impl_GridValid.j0.eq_2 _ _ _ k) ?_
  simp only [if_true]
  exact Ev.now _

end Go.Proofs.Ytdemlminhkhonaa.Pure
namespace Go.Proofs.Ytdemlminhkhonaa.Pure
set_option linter.unusedSimpArgs false
set_option linter.unusedVariables false
open Go.RowKit Go.Proofs.YtdemlminhkhonaaW.PrintWords Go.Proofs.YtdemlminhkhonaaW.PrintMore Go.Proofs.Ytdemlminhkhonaa.P


theorem specGridFilled_ev (g:List Int)(s:Int)(h:g.length≤35184372088832):Ev (fun k=>spec_GridFilled.f k g s) (gridFilled g s):=by
 unfold spec_GridFilled.f
 refine Ev.bind (specGridValid_ev g s h) ?_
 unfold gridFilled
 by_cases hg:gridB g s=true
 ·simp only [hg,if_true]
  have:=Ev.range (L:=fun k (x:Int) i=>spec_GridFilled.l0 k g x i) (R:=fun x n=>x + countF (g.drop n)) (N:=g.length) (fun x n=>0≤x∧x≤n) ?_ ?_ 0 0 (Nat.zero_le _) (by decide)
  ·simpa using this
  ·intro x hx
   refine Ev.step (fun k=>spec_GridFilled.l0.eq_2 _ _ _ k) ?_
   have e:countF []=0:=rfl
   simp only [Int.lt_irrefl,if_false,List.drop_length,e,Int.add_zero]
   exact Ev.now _
  ·intro x n hn hx ih
   refine Ev.step (fun k=>spec_GridFilled.l0.eq_2 _ _ _ k) ?_
   have h1:(n:Int) < (g.length:Int):=by omega
   have h3:(0:Int)≤n:=by omega
   rw [drop_cons hn,countF_cons]
   simp only [h1,h3,if_true,rd_lt hn,w64n (by omega:n < 9000000000000000000)]
   by_cases hv:0 < g[n]
   ·have hv':g[n] > 0:=hv
    simp only [hv,hv',if_true]
    rw [w64 (x:=x + 1) (by omega) (by omega)]
    have:=ih (x + 1) (by omega)
    rwa [Int.add_assoc] at this
   ·have hv':¬ g[n] > 0:=hv
    simp only [hv,hv',if_false]
    have:=ih x (by omega)
    rwa [Int.zero_add]
 ·simp only [hg,if_false,Bool.false_eq_true]
  exact Ev.now _
theorem implGridFilled_ev (g:List Int)(s:Int)(h:g.length≤35184372088832):Ev (fun k=>impl_GridFilled.f k g s) (gridFilled g s):=by
 unfold impl_GridFilled.f
 refine Ev.bind (implGridValid_ev g s h) ?_
 unfold gridFilled
 by_cases hg:gridB g s=true
 ·simp only [hg,if_true]
  have:=Ev.range (L:=fun k (x:Int) i=>impl_GridFilled.l0 k x g (g.length:Int) i) (R:=fun x n=>x + countF (g.drop n)) (N:=g.length) (fun x n=>0≤x∧x≤n) ?_ ?_ 0 0 (Nat.zero_le _) (by decide)
  ·simpa using this
  ·intro x hx
   refine Ev.step (fun k=>impl_GridFilled.l0.eq_2 _ _ _ _ k) ?_
   have e:countF []=0:=rfl
   simp only [Int.lt_irrefl,if_false,List.drop_length,e,Int.add_zero]
   exact Ev.now _
  ·intro x n hn hx ih
   refine Ev.step (fun k=>impl_GridFilled.l0.eq_2 _ _ _ _ k) ?_
   have h1:(n:Int) < (g.length:Int):=by omega
   have h3:(0:Int)≤n:=by omega
   rw [drop_cons hn,countF_cons]
   simp only [h1,h3,if_true,rd_lt hn,w64n (by omega:n < 9000000000000000000)]
   by_cases hv:0 < g[n]
   ·have hv':g[n] > 0:=hv
    simp only [hv,hv',if_true]
    rw [w64 (x:=x + 1) (by omega) (by omega)]
    have:=ih (x + 1) (by omega)
    rwa [Int.add_assoc] at this
   ·have hv':¬ g[n] > 0:=hv
    simp only [hv,hv',if_false]
    have:=ih x (by omega)
    rwa [Int.zero_add]
 ·simp only [hg,if_false,Bool.false_eq_true]
  exact Ev.now _

end Go.Proofs.Ytdemlminhkhonaa.Pure
namespace Go.Proofs.Ytdemlminhkhonaa.Pure
set_option linter.unusedSimpArgs false
set_option linter.unusedVariables false
open Go.RowKit Go.Proofs.YtdemlminhkhonaaW.PrintWords Go.Proofs.YtdemlminhkhonaaW.PrintMore


def has (m v:Int):Bool:=decide ((m / 2 ^ v.toNat) % 2=1)
theorem has_fin:∀ m:Fin 31,∀ v:Fin 5,Int.tmod (shr .i64 (m.val:Int) (v.val:Int)) 2=(if has (m.val:Int) (v.val:Int)=true then 1 else 0)∧Go.bits .and .i64 (shr .i64 (m.val:Int) (v.val:Int)) 1=(if has (m.val:Int) (v.val:Int)=true then 1 else 0):=by decide +kernel
theorem has_tmod {m v:Int}(h:0≤m∧m≤30)(hv:0≤v∧v≤4):Int.tmod (shr .i64 m v) 2=(if has m v=true then 1 else 0):=by
 have:=(has_fin ⟨m.toNat,by omega⟩ ⟨v.toNat,by omega⟩).1
 rwa [show ((m.toNat:Nat):Int)=m by omega,show ((v.toNat:Nat):Int)=v by omega] at this
theorem has_and {m v:Int}(h:0≤m∧m≤30)(hv:0≤v∧v≤4):Go.bits .and .i64 (shr .i64 m v) 1=(if has m v=true then 1 else 0):=by
 have:=(has_fin ⟨m.toNat,by omega⟩ ⟨v.toNat,by omega⟩).2
 rwa [show ((m.toNat:Nat):Int)=m by omega,show ((v.toNat:Nat):Int)=v by omega] at this

end Go.Proofs.Ytdemlminhkhonaa.Pure
namespace Go.Proofs.Ytdemlminhkhonaa.Pure
set_option linter.unusedSimpArgs false
set_option linter.unusedVariables false
open Go.RowKit Go.Proofs.YtdemlminhkhonaaW.PrintWords Go.Proofs.YtdemlminhkhonaaW.PrintMore


def rowCell (n i k:Nat):Nat:=i / n * n + k
def colCell (n i k:Nat):Nat:=k * n + i % n
def freeB (g:List Int)(n i:Nat)(v:Int):Nat→Bool
 | 0=>true
 | m + 1=>freeB g n i v m && (decide (rd g (rowCell n i m:Nat)≠v) && decide (rd g (colCell n i m:Nat)≠v))
theorem mask_ext_fin:∀ a:Fin 32,∀ b:Fin 32,(a.val % 2=0∧b.val % 2=0∧(∀ v:Fin 5,1≤v.val→has (a.val:Int) (v.val:Int)=has (b.val:Int) (v.val:Int)))→a=b:=by decide +kernel
theorem mask_ext {a b:Int}(ha:0≤a∧a≤30∧a % 2=0)(hb:0≤b∧b≤30∧b % 2=0)(h:∀ v:Int,1≤v→v≤4→has a v=has b v):a=b:=by
 have:=mask_ext_fin ⟨a.toNat,by omega⟩ ⟨b.toNat,by omega⟩ ⟨by simp only;omega,by simp only;omega,fun v hv=>by
  simp only [show ((a.toNat:Nat):Int)=a by omega,show ((b.toNat:Nat):Int)=b by omega]
  exact h _ (by omega) (by have:=v.isLt;omega)⟩
 simp only [Fin.mk.injEq] at this
 omega
theorem rowcol_lt {n i k:Nat}(hn:n=2∨n=3∨n=4)(hi:i < n * n)(hk:k < n):rowCell n i k < n * n∧colCell n i k < n * n:=by
 unfold rowCell colCell
 rcases hn with rfl|rfl|rfl <;> omega
theorem size_or {s:Int}(h:sizeOkB s=true):(s.toNat=2∨s.toNat=3∨s.toNat=4)∧s=(s.toNat:Int):=by
 rcases sizeOkB_iff.1 h with rfl|rfl|rfl <;> decide
theorem row_idx {n i k:Nat}(hn:n=2∨n=3∨n=4)(hi:i < n * n)(hk:k < n):wrap64 ((wrap64 ((wrap64 (Int.tdiv (i:Int) (n:Int))) * (n:Int))) + (k:Int))=((rowCell n i k:Nat):Int):=by
 rw [Int.tdiv_eq_ediv_of_nonneg (by omega)]
 unfold rowCell wrap64
 rcases hn with rfl|rfl|rfl <;> omega
theorem col_idx {n i k:Nat}(hn:n=2∨n=3∨n=4)(hi:i < n * n)(hk:k < n):wrap64 ((wrap64 ((k:Int) * (n:Int))) + (Int.tmod (i:Int) (n:Int)))=((colCell n i k:Nat):Int):=by
 rw [Int.tmod_eq_emod_of_nonneg (by omega)]
 unfold colCell wrap64
 rcases hn with rfl|rfl|rfl <;> omega
theorem grid_len {g:List Int}{s:Int}(h:gridB g s=true):g.length=s.toNat * s.toNat:=by
 have h1:=gridB_len h
 have h2:=(size_or (gridB_size h)).2
 rw [h2] at h1
 exact_mod_cast h1

end Go.Proofs.Ytdemlminhkhonaa.Pure
namespace Go.Proofs.Ytdemlminhkhonaa.Pure
set_option linter.unusedSimpArgs false
set_option linter.unusedVariables false
open Go.RowKit Go.Proofs.YtdemlminhkhonaaW.PrintWords Go.Proofs.YtdemlminhkhonaaW.PrintMore


theorem lineC_mem {s l:Int}:∀ c∈lineC s l,0≤c∧c < s * s:=by
 by_cases h:lineOkB s l=true
 ·rcases lineOkB_cases h with ⟨rfl,hc⟩ | ⟨rfl,hc⟩ | ⟨rfl,hc⟩
  ·rcases hc with rfl|rfl|rfl|rfl <;> decide +kernel
  ·rcases hc with rfl|rfl|rfl|rfl|rfl|rfl <;> decide +kernel
  ·rcases hc with rfl|rfl|rfl|rfl|rfl|rfl|rfl|rfl <;> decide +kernel
 ·unfold lineC;rw [if_neg h];intro c hc;cases hc
def clashL (g:List Int):List Int→List Int→Bool
 | [],_=>false
 | c :: cs,seen=>if 0 < rd g c∧rd g c∈seen then true else clashL g cs (rd g c :: seen)
def linesClash (g:List Int)(s:Int)(n:Nat):Nat→Bool
 | 0=>false
 | d + 1=>clashL g (lineC s n) [] || linesClash g s (n + 1) d
def squareFits (g:List Int)(s:Int):Bool:=gridB g s && !linesClash g s 0 (2 * s.toNat)
theorem size_nat {s:Int}(h:sizeOkB s=true):((s.toNat:Nat):Int)=s∧2≤s.toNat∧s.toNat≤4:=by
 rcases sizeOkB_iff.1 h with rfl|rfl|rfl <;> decide
theorem rd_mem {g:List Int}{i:Int}(h0:0≤i)(h1:i < (g.length:Int)):rd g i∈g:=by
 obtain ⟨n,rfl⟩:=Int.eq_ofNat_of_zero_le h0
 rw [rd_lt (by omega:n < g.length)]
 exact List.getElem_mem _

end Go.Proofs.Ytdemlminhkhonaa.Pure
namespace Go.Proofs.Ytdemlminhkhonaa.Pure
set_option linter.unusedSimpArgs false
set_option linter.unusedVariables false
open Go.RowKit Go.Proofs.YtdemlminhkhonaaW.PrintWords Go.Proofs.YtdemlminhkhonaaW.PrintMore


theorem clashL_iff (g:List Int):∀ (cs seen:List Int),clashL g cs seen=false↔(∀ c∈cs,0 < rd g c→rd g c ∉ seen)∧cs.Pairwise (fun c d=>0 < rd g d→rd g d≠rd g c)
 | [],seen=>by simp [clashL]
 | c :: cs,seen=>by
  unfold clashL
  by_cases h:0 < rd g c∧rd g c∈seen
  ·rw [if_pos h]
   constructor
   ·intro h0;cases h0
   ·intro h0;exact absurd h.2 (h0.1 c (List.mem_cons_self ..) h.1)
  ·rw [if_neg h,clashL_iff g cs (rd g c :: seen),List.pairwise_cons]
   constructor
   ·rintro ⟨h1,h2⟩
    refine ⟨fun d hd hp hm=>?_,fun d hd hp he=>(h1 d hd hp) (by rw [he];exact List.mem_cons_self ..),h2⟩
    rcases List.mem_cons.1 hd with rfl|hd
    ·exact h ⟨hp,hm⟩
    ·exact h1 d hd hp (List.mem_cons_of_mem _ hm)
   ·rintro ⟨h1,h2,h3⟩
    refine ⟨fun d hd hp hm=>?_,h3⟩
    rcases List.mem_cons.1 hm with he|hm
    ·exact h2 d hd hp he
    ·exact h1 d (List.mem_cons_of_mem _ hd) hp hm
theorem linesClash_iff (g:List Int)(s:Int):∀ (d n:Nat),linesClash g s n d=false↔∀ j,j < d→clashL g (lineC s ((n + j:Nat):Int)) []=false
 | 0,n=>by simp [linesClash]
 | d + 1,n=>by
  rw [linesClash,Bool.or_eq_false_iff,linesClash_iff g s d (n + 1)]
  constructor
  ·rintro ⟨h1,h2⟩ j hj
   cases j with
   | zero=>exact h1
   | succ j=>have:=h2 j (by omega);rwa [show n + 1 + j=n + (j + 1) by omega] at this
  ·intro h
   exact ⟨h 0 (by omega),fun j hj=>by have:=h (j + 1) (by omega);rwa [show n + (j + 1)=n + 1 + j by omega] at this⟩
def lineCell (n l i:Nat):Nat:=if l < n then l * n + i else i * n + (l - n)
theorem lineC_map {n l:Nat}(hn:n=2∨n=3∨n=4)(hl:l < 2 * n):lineC (n:Int) (l:Int)=(List.range n).map (fun i=>((lineCell n l i:Nat):Int)):=by
 unfold lineC
 have h:lineOkB (n:Int) (l:Int)=true:=by
  unfold lineOkB sizeOkB
  rw [Bool.and_eq_true,decide_eq_true_iff,decide_eq_true_iff]
  omega
 rw [if_pos h,Int.toNat_natCast]
 refine List.map_congr_left (fun i hi=>?_)
 unfold lineCell
 by_cases hln:l < n
 ·rw [if_pos (by omega:(l:Int) < (n:Int)),if_pos hln]
  simp
 ·rw [if_neg (by omega:¬ (l:Int) < (n:Int)),if_neg hln]
  have:((i * n + (l - n):Nat):Int)=(i:Int) * (n:Int) + ((l - n:Nat):Int):=by simp
  rw [this];omega
theorem lineCell_lt {n l i:Nat}(hn:n=2∨n=3∨n=4)(hl:l < 2 * n)(hi:i < n):lineCell n l i < n * n:=by
 unfold lineCell
 rcases hn with rfl|rfl|rfl <;> split <;> omega
def Fits (g:List Int)(n:Nat):Prop:=∀ l,l < 2 * n→∀ i j,i < n→j < n→i≠j→0 < rd g (lineCell n l i:Nat)→rd g (lineCell n l i:Nat)≠rd g (lineCell n l j:Nat)
theorem clashLine_iff (g:List Int){n l:Nat}(hn:n=2∨n=3∨n=4)(hl:l < 2 * n):clashL g (lineC (n:Int) (l:Int)) []=false↔∀ i j,i < n→j < n→i≠j→0 < rd g (lineCell n l i:Nat)→rd g (lineCell n l i:Nat)≠rd g (lineCell n l j:Nat):=by
 rw [clashL_iff,lineC_map hn hl,List.pairwise_map,List.pairwise_iff_getElem]
 constructor
 ·rintro ⟨_,h⟩ i j hi hj hij hp he
  rcases Nat.lt_or_gt_of_ne hij with hlt|hlt
  ·have:=h i j (by simpa using hi) (by simpa using hj) hlt
   simp only [List.getElem_range] at this
   exact this (by rw [← he];exact hp) he.symm
  ·have:=h j i (by simpa using hj) (by simpa using hi) hlt
   simp only [List.getElem_range] at this
   exact this hp he
 ·intro h
  refine ⟨fun c _ _ hm=>(List.not_mem_nil hm),fun i j hi hj hij=>?_⟩
  simp only [List.getElem_range]
  simp only [List.length_range] at hi hj
  exact fun hp he=>h j i hj hi (by omega) hp he
theorem squareFits_iff {g:List Int}{s:Int}(hg:gridB g s=true):squareFits g s=true↔Fits g s.toNat:=by
 obtain ⟨hn,hs⟩:=size_or (gridB_size hg)
 unfold squareFits Fits
 rw [hg,Bool.true_and,Bool.not_eq_true',linesClash_iff]
 constructor
 ·intro h l hl
  have:=h l hl
  rw [Nat.zero_add,hs] at this
  exact (clashLine_iff g hn hl).1 this
 ·intro h l hl
  rw [Nat.zero_add,hs]
  exact (clashLine_iff g hn hl).2 (h l hl)
def Alike (g g':List Int)(n:Nat)(f:Int→Int):Prop:=∀ l,l < 2 * n→∃ (l':Nat) (σ:Nat→Nat),l' < 2 * n∧(∀ i,i < n→σ i < n)∧(∀ i j,i < n→j < n→σ i=σ j→i=j)∧∀ i,i < n→rd g' (lineCell n l i:Nat)=f (rd g (lineCell n l' (σ i):Nat))
theorem Alike.fits {g g':List Int}{n:Nat}{f:Int→Int}(h:Alike g g' n f)(hf:∀ v,0 < f v→0 < v)(hi:∀ u v,f u=f v→u=v)(hg:Fits g n):Fits g' n:=by
 intro l hl i j h1 h2 hij hp he
 obtain ⟨l',σ,hl',hs,hinj,hv⟩:=h l hl
 rw [hv i h1] at hp
 rw [hv i h1,hv j h2] at he
 exact hg l' hl' (σ i) (σ j) (hs i h1) (hs j h2) (fun e=>hij (hinj i j h1 h2 e)) (hf _ hp) (hi _ _ he)

end Go.Proofs.Ytdemlminhkhonaa.Pure
namespace Go.Proofs.Ytdemlminhkhonaa.Pure
set_option linter.unusedSimpArgs false
set_option linter.unusedVariables false
open Go.RowKit Go.Proofs.YtdemlminhkhonaaW.PrintWords Go.Proofs.YtdemlminhkhonaaW.PrintMore


theorem freeB_iff (g:List Int)(n i:Nat)(v:Int):∀ m,freeB g n i v m=true↔∀ k,k < m→rd g (rowCell n i k:Nat)≠v∧rd g (colCell n i k:Nat)≠v
 | 0=>by simp [freeB]
 | m + 1=>by
  rw [freeB,Bool.and_eq_true,freeB_iff g n i v m,Bool.and_eq_true,decide_eq_true_iff,decide_eq_true_iff]
  constructor
  ·rintro ⟨h1,h2⟩ k hk
   by_cases e:k=m
   ·subst e;exact h2
   ·exact h1 k (by omega)
  ·intro h
   exact ⟨fun k hk=>h k (by omega),h m (by omega)⟩
theorem rd_set_eq {g:List Int}{i:Nat}(h:i < g.length)(v:Int):rd (g.set i v) (i:Nat)=v:=by
 rw [rd_lt (by simpa using h)];simp
theorem rd_set_ne {g:List Int}{i j:Nat}(h:i≠j)(v:Int):rd (g.set i v) (j:Nat)=rd g (j:Nat):=by
 rw [rd_nat,rd_nat,List.getD_eq_getElem?_getD,List.getD_eq_getElem?_getD,List.getElem?_set_ne h]
theorem lineCell_at {n l a i:Nat}(hn:n=2∨n=3∨n=4)(hl:l < 2 * n)(ha:a < n)(h:lineCell n l a=i):(l < n∧l=i / n∧a=i % n∧∀ b,lineCell n l b=rowCell n i b)∨(¬ l < n∧l - n=i % n∧a=i / n∧∀ b,lineCell n l b=colCell n i b):=by
 subst h
 by_cases hln:l < n
 ·left
  refine ⟨hln,?_,?_,fun b=>?_⟩
  ·unfold lineCell;rw [if_pos hln];rcases hn with rfl|rfl|rfl <;> omega
  ·unfold lineCell;rw [if_pos hln];rcases hn with rfl|rfl|rfl <;> omega
  ·unfold rowCell lineCell;rw [if_pos hln,if_pos hln];rcases hn with rfl|rfl|rfl <;> omega
 ·right
  refine ⟨hln,?_,?_,fun b=>?_⟩
  ·unfold lineCell;rw [if_neg hln];rcases hn with rfl|rfl|rfl <;> omega
  ·unfold lineCell;rw [if_neg hln];rcases hn with rfl|rfl|rfl <;> omega
  ·unfold colCell lineCell;rw [if_neg hln,if_neg hln];rcases hn with rfl|rfl|rfl <;> omega
theorem lineCell_row {n i:Nat}(hn:n=2∨n=3∨n=4)(hi:i < n * n)(b:Nat):i / n < n∧i % n < n∧lineCell n (i / n) b=rowCell n i b∧lineCell n (n + i % n) b=colCell n i b∧rowCell n i (i % n)=i∧colCell n i (i / n)=i:=by
 have h1:i / n < n:=by rcases hn with rfl|rfl|rfl <;> omega
 refine ⟨h1,?_,?_,?_,?_,?_⟩
 ·rcases hn with rfl|rfl|rfl <;> omega
 ·unfold lineCell rowCell;rw [if_pos h1]
 ·unfold lineCell colCell;rw [if_neg (by omega)];rcases hn with rfl|rfl|rfl <;> omega
 ·unfold rowCell;rcases hn with rfl|rfl|rfl <;> omega
 ·unfold colCell;rcases hn with rfl|rfl|rfl <;> omega
theorem fits_set {g:List Int}{n i:Nat}{v:Int}(hn:n=2∨n=3∨n=4)(hlen:g.length=n * n)(hi:i < n * n)(hz:rd g (i:Nat)=0)(hv:0 < v)(hf:Fits g n):Fits (g.set i v) n↔freeB g n i v n=true:=by
 rw [freeB_iff]
 constructor
 ·intro h k hk
  obtain ⟨h1,h2,h3,h4,h5,h6⟩:=lineCell_row hn hi k
  constructor
  ·intro e
   have hne:i≠rowCell n i k:=by intro e2;rw [← e2,hz] at e;omega
   have hki:i % n≠k:=by intro e2;rw [← e2,h5] at hne;exact hne rfl
   refine h (i / n) (by omega) (i % n) k h2 hk hki ?_ ?_
   ·rw [(lineCell_row hn hi (i % n)).2.2.1,h5,rd_set_eq (by omega)];exact hv
   ·rw [(lineCell_row hn hi (i % n)).2.2.1,h5,rd_set_eq (by omega),h3,rd_set_ne hne,e]
  ·intro e
   have hne:i≠colCell n i k:=by intro e2;rw [← e2,hz] at e;omega
   have hki:i / n≠k:=by intro e2;rw [← e2,h6] at hne;exact hne rfl
   refine h (n + i % n) (by omega) (i / n) k h1 hk hki ?_ ?_
   ·rw [(lineCell_row hn hi (i / n)).2.2.2.1,h6,rd_set_eq (by omega)];exact hv
   ·rw [(lineCell_row hn hi (i / n)).2.2.2.1,h6,rd_set_eq (by omega),h4,rd_set_ne hne,e]
 ·intro h l hl a b ha hb hab hp he
  by_cases ea:lineCell n l a=i
  ·have hv2:∀ c,c < n→rd g (lineCell n l c:Nat)≠v:=by
    rcases lineCell_at hn hl ha ea with ⟨_,_,_,hc⟩ | ⟨_,_,_,hc⟩
    ·intro c hcn;rw [hc];exact (h c hcn).1
    ·intro c hcn;rw [hc];exact (h c hcn).2
   have hne:i≠lineCell n l b:=by
    intro e2
    rcases lineCell_at hn hl ha ea with ⟨q1,_,q2,_⟩ | ⟨q1,_,q2,_⟩ <;> rcases lineCell_at hn hl hb e2.symm with ⟨q3,_,q4,_⟩ | ⟨q3,_,q4,_⟩ <;> omega
   rw [ea,rd_set_eq (by omega),rd_set_ne hne] at he
   exact hv2 b hb he.symm
  ·by_cases eb:lineCell n l b=i
   ·have hv2:∀ c,c < n→rd g (lineCell n l c:Nat)≠v:=by
     rcases lineCell_at hn hl hb eb with ⟨_,_,_,hc⟩ | ⟨_,_,_,hc⟩
     ·intro c hcn;rw [hc];exact (h c hcn).1
     ·intro c hcn;rw [hc];exact (h c hcn).2
    rw [eb,rd_set_eq (by omega),rd_set_ne (fun e=>ea e.symm)] at he
    exact hv2 a ha he
   ·rw [rd_set_ne (fun e=>ea e.symm)] at hp he
    rw [rd_set_ne (fun e=>eb e.symm)] at he
    exact hf l hl a b ha hb hab hp he
theorem grid_set {g:List Int}{s:Int}(hg:gridB g s=true)(i:Nat){v:Int}(h0:0≤v)(h1:v≤s):gridB (g.set i v) s=true:=by
 refine gridB_mk (gridB_size hg) (by rw [List.length_set];exact gridB_len hg) (fun x hx=>?_)
 rcases List.mem_or_eq_of_mem_set hx with hx|rfl
 ·exact gridB_mem hg x hx
 ·exact ⟨h0,h1⟩

end Go.Proofs.Ytdemlminhkhonaa.Pure
namespace Go.Proofs.Ytdemlminhkhonaa.Pure
set_option linter.unusedSimpArgs false
set_option linter.unusedVariables false
open Go.RowKit Go.Proofs.YtdemlminhkhonaaW.PrintWords Go.Proofs.YtdemlminhkhonaaW.PrintMore


def goodCells (t:Int)(cs:List Int):Nat→Bool
 | 0=>true
 | n + 1=>goodCells t cs n && (decide (0≤rd cs (n:Int)∧rd cs (n:Int) < t) && !decide (rd cs (n:Int)∈cs.take n))
theorem goodCells_false {t:Int}{cs:List Int}{n:Nat}(h:goodCells t cs n=false):∀ d,goodCells t cs (n + d)=false
 | 0=>h
 | d + 1=>by rw [show n + (d + 1)=(n + d) + 1 from rfl,goodCells,goodCells_false h d];rfl
theorem goodCells_le {t:Int}{cs:List Int}{n m:Nat}(h:goodCells t cs n=false)(hm:n≤m):goodCells t cs m=false:=by
 obtain ⟨d,rfl⟩:∃ d,m=n + d:=⟨m - n,by omega⟩
 exact goodCells_false h d
def ruleTail (kind len v s:Int):Bool:=decide (len≤4) && (if kind=1 then decide (2≤len∧v=0) else if kind=2∨kind=3 then decide (1≤len∧1≤v∧v≤s * s * s * s) else if kind=4 then decide (len=2∧v=0) else if kind=5 then decide (len=2∧0≤v∧v < s) else false)
def ruleB (kind:Int)(cs:List Int)(v s:Int):Bool:=sizeOkB s && (goodCells (s * s) cs cs.length && ruleTail kind cs.length v s)
theorem mem_take_iff {cs:List Int}{n:Nat}{c:Int}:c∈cs.take n↔∃ j,j < n∧j < cs.length∧rd cs (j:Int)=c:=by
 constructor
 ·intro h
  obtain ⟨j,hj,he⟩:=List.mem_iff_getElem.1 h
  rw [List.length_take] at hj
  refine ⟨j,by omega,by omega,?_⟩
  rw [rd_lt (by omega:j < cs.length),← he,List.getElem_take]
 ·rintro ⟨j,h1,h2,he⟩
  rw [rd_lt h2] at he
  refine List.mem_iff_getElem.2 ⟨j,by rw [List.length_take];omega,?_⟩
  rw [List.getElem_take];exact he

end Go.Proofs.Ytdemlminhkhonaa.Pure
namespace Go.Proofs.Ytdemlminhkhonaa.Pure
set_option linter.unusedSimpArgs false
set_option linter.unusedVariables false
open Go.RowKit Go.Proofs.YtdemlminhkhonaaW.PrintWords Go.Proofs.YtdemlminhkhonaaW.PrintMore Go.Proofs.Ytdemlminhkhonaa.P


theorem specRuleTail_ev (s kind v:Int)(cs:List Int)(hs:sizeOkB s=true):Ev (fun k=>spec_RuleValid.j2 k s (cs.length:Int) (decide ((cs.length:Int) > 4)) kind cs v) (ruleTail kind cs.length v s):=by
 have hsz:=sizeOkB_iff.1 hs
 have hw:wrap64 ((wrap64 ((wrap64 (s * s)) * s)) * s)=s * s * s * s:=by rcases hsz with rfl|rfl|rfl <;> decide +kernel
 have hw1:wrap64 (s - 1)=s - 1:=by rcases hsz with rfl|rfl|rfl <;> decide +kernel
 refine Ev.step (fun k=>spec_RuleValid.j2.eq_2 _ _ _ _ _ _ k) ?_
 unfold ruleTail
 by_cases h4:(cs.length:Int) > 4
 ·have h4':¬ (cs.length:Int)≤4:=by omega
  simp only [h4,h4',decide_true,decide_false,if_true,Bool.false_and]
  exact Ev.now _
 ·have h4':(cs.length:Int)≤4:=by omega
  simp only [h4,h4',decide_true,decide_false,if_false,Bool.true_and,Bool.false_eq_true]
  by_cases k1:kind=1
  ·simp only [k1,if_true]
   by_cases h2:(cs.length:Int) ≥ 2
   ·have h2':2≤(cs.length:Int):=h2
    simp only [h2,h2',if_true,true_and]
    by_cases hv:v=0
    ·subst hv;exact Ev.now _
    ·have e1:(v == 0)=false:=by rw [beq_eq_false_iff_ne];exact hv
     simp only [hv,e1,decide_false];exact Ev.now _
   ·have h2':¬ 2≤(cs.length:Int):=h2
    simp only [h2,h2',if_false,false_and,decide_false]
    exact Ev.now _
  ·simp only [k1,if_false]
   have hj:∀ b,b=(decide (kind=2∨kind=3))→Ev (fun k=>spec_RuleValid.j3 k s (cs.length:Int) kind b kind cs v) (if kind=2∨kind=3 then decide (1≤(cs.length:Int)∧1≤v∧v≤s * s * s * s) else if kind=4 then decide ((cs.length:Int)=2∧v=0) else if kind=5 then decide ((cs.length:Int)=2∧0≤v∧v < s) else false):=by
    rintro b rfl
    refine Ev.step (fun k=>spec_RuleValid.j3.eq_2 _ _ _ _ _ _ _ k) ?_
    by_cases k2:kind=2∨kind=3
    ·simp only [k2,decide_true,if_true]
     by_cases h1:(cs.length:Int) ≥ 1
     ·have h1':1≤(cs.length:Int):=h1
      simp only [h1,h1',if_true,true_and,l1In_eq,Option.bind_some,hw]
      exact Ev.now _
     ·have h1':¬ 1≤(cs.length:Int):=h1
      simp only [h1,h1',if_false,false_and,decide_false]
      exact Ev.now _
    ·simp only [k2,decide_false,if_false,Bool.false_eq_true]
     by_cases k4:kind=4
     ·simp only [k4,if_true]
      by_cases h2:(cs.length:Int)=2
      ·simp only [h2,if_true,true_and]
       by_cases hv:v=0
       ·subst hv;exact Ev.now _
       ·have e1:(v == 0)=false:=by rw [beq_eq_false_iff_ne];exact hv
        simp only [hv,e1,decide_false];exact Ev.now _
      ·simp only [h2,if_false,false_and,decide_false]
       exact Ev.now _
     ·simp only [k4,if_false]
      by_cases k5:kind=5
      ·simp only [k5,if_true]
       by_cases h2:(cs.length:Int)=2
       ·have hlt:(v≤s - 1)=(v < s):=by apply propext;omega
        simp only [h2,if_true,true_and,l1In_eq,Option.bind_some,hw1,hlt]
        exact Ev.now _
       ·simp only [h2,if_false,false_and,decide_false]
        exact Ev.now _
      ·simp only [k5,if_false]
       exact Ev.now _
   by_cases k2:kind=2
   ·have e:(kind == 2)=decide (kind=2∨kind=3):=by simp [k2]
    have:=hj _ e
    simpa only [k2,if_true] using this
   ·have e:(kind == 3)=decide (kind=2∨kind=3):=by
     by_cases k3:kind=3 <;> simp [k2,k3]
    have:=hj _ e
    simp only [k2,if_false]
    simpa only [k2,false_or] using this
theorem specRuleValid_ev (kind:Int)(cs:List Int)(v s:Int)(hl:cs.length≤35184372088832):Ev (fun k=>spec_RuleValid.f k kind cs v s) (ruleB kind cs v s):=by
 unfold spec_RuleValid.f ruleB
 have hRf:∀ i,i < cs.length→(sizeOkB s=true→goodCells (s * s) cs (i + 1)=false)→(sizeOkB s && (goodCells (s * s) cs cs.length && ruleTail kind cs.length v s))=false:=by
  intro i hi h
  by_cases hs:sizeOkB s=true
  ·rw [hs,goodCells_le (h hs) (by omega:i + 1≤cs.length)];rfl
  ·rw [eq_false_of_ne_true hs];rfl
 have:=Ev.range (σ:=Unit) (L:=fun k _ i=>spec_RuleValid.l0 k s i kind cs v) (R:=fun _ _=>sizeOkB s && (goodCells (s * s) cs cs.length && ruleTail kind cs.length v s)) (N:=cs.length) (fun _ i=>sizeOkB s=true→goodCells (s * s) cs i=true) ?_ ?_ () 0 (Nat.zero_le _) (fun _=>rfl)
 ·simpa using this
 ·intro _ hg
  refine Ev.step (fun k=>spec_RuleValid.l0.eq_2 _ _ _ _ _ k) ?_
  simp only [Int.lt_irrefl,if_false,l1In_eq,Option.bind_some]
  by_cases hs:sizeOkB s=true
  ·have hs':=hs
   unfold sizeOkB at hs'
   rw [hg hs,hs]
   simp only [hs',if_true,Bool.true_and]
   exact specRuleTail_ev s kind v cs hs
  ·have hs':=eq_false_of_ne_true hs
   rw [hs']
   unfold sizeOkB at hs'
   simp only [hs',Bool.false_eq_true,if_false,Bool.false_and]
   refine Ev.step (fun k=>spec_RuleValid.j2.eq_2 _ _ _ _ _ _ k) ?_
   simp only [if_true]
   exact Ev.now _
 ·intro _ i hi hg ih
  refine Ev.step (fun k=>spec_RuleValid.l0.eq_2 _ _ _ _ _ k) ?_
  have h1:(i:Int) < (cs.length:Int):=by omega
  have h0:(0:Int)≤(i:Int):=Int.natCast_nonneg i
  simp only [h1,h0,if_true,l1In_eq,Option.bind_some]
  by_cases hc:0≤rd cs (i:Int)∧rd cs (i:Int)≤wrap64 ((wrap64 (s * s)) - 1)
  ·simp only [hc,and_self,decide_true,if_true]
   have:=Ev.range (σ:=Unit) (L:=fun k _ j=>spec_RuleValid.l1 k s (i:Int) j kind cs v) (R:=fun _ _=>sizeOkB s && (goodCells (s * s) cs cs.length && ruleTail kind cs.length v s)) (N:=i) (fun _ j=>∀ d,d < j→rd cs (d:Int)≠rd cs (i:Int)) ?_ ?_ () 0 (Nat.zero_le _) (fun d hd=>absurd hd (Nat.not_lt_zero d))
   ·simpa using this
   ·intro _ hno
    refine Ev.step (fun k=>spec_RuleValid.l1.eq_2 _ _ _ _ _ _ k) ?_
    simp only [Int.lt_irrefl,if_false,w64n (by omega:i < 9000000000000000000)]
    refine ih () (fun hs=>?_)
    have ht:wrap64 ((wrap64 (s * s)) - 1)=s * s - 1:=by rcases sizeOkB_iff.1 hs with rfl|rfl|rfl <;> decide +kernel
    rw [ht] at hc
    have hm:¬ rd cs (i:Int)∈cs.take i:=by
     intro hm
     obtain ⟨j,hj,_,he⟩:=mem_take_iff.1 hm
     exact hno j hj he
    rw [goodCells,hg hs,decide_eq_true (⟨hc.1,by omega⟩:0≤rd cs (i:Int)∧rd cs (i:Int) < s * s),decide_eq_false hm]
    rfl
   ·intro _ j hj hno ihj
    refine Ev.step (fun k=>spec_RuleValid.l1.eq_2 _ _ _ _ _ _ k) ?_
    have h2:(j:Int) < (i:Int):=by omega
    have h3:(0:Int)≤(j:Int):=Int.natCast_nonneg j
    have h4:(j:Int) < (cs.length:Int):=by omega
    simp only [h2,h3,h4,h1,h0,if_true,w64n (by omega:j < 9000000000000000000)]
    by_cases he:rd cs (j:Int)=rd cs (i:Int)
    ·simp only [he,if_true]
     rw [hRf i hi (fun hs=>by
      have hm:rd cs (i:Int)∈cs.take i:=mem_take_iff.2 ⟨j,hj,by omega,he⟩
      rw [goodCells,decide_eq_true hm];simp)]
     exact Ev.now _
    ·simp only [he,if_false]
     refine ihj () (fun d hd=>?_)
     by_cases hdj:d=j
     ·rw [hdj];exact he
     ·exact hno d (by omega)
  ·simp only [hc,decide_false,if_false,Bool.false_eq_true]
   rw [hRf i hi (fun hs=>by
    have ht:wrap64 ((wrap64 (s * s)) - 1)=s * s - 1:=by rcases sizeOkB_iff.1 hs with rfl|rfl|rfl <;> decide +kernel
    rw [ht] at hc
    have hn:¬ (0≤rd cs (i:Int)∧rd cs (i:Int) < s * s):=fun h=>hc ⟨h.1,by omega⟩
    rw [goodCells,decide_eq_false hn];simp)]
   exact Ev.now _

end Go.Proofs.Ytdemlminhkhonaa.Pure
namespace Go.Proofs.Ytdemlminhkhonaa.Pure
set_option linter.unusedSimpArgs false
set_option linter.unusedVariables false
open Go.RowKit Go.Proofs.YtdemlminhkhonaaW.PrintWords Go.Proofs.YtdemlminhkhonaaW.PrintMore Go.Proofs.Ytdemlminhkhonaa.P


theorem index_ev (l:List Int)(x:Int)(h:l.length≤35184372088832):∀ d n,n + d=l.length→∃ r:Int,(0≤r↔x∈l.drop n)∧Ev (fun k=>slices_Index_int_int.l0 k l x (l.length:Int) (n:Int)) r
 | 0,n,hn=>by
  refine ⟨-1,?_,?_⟩
  ·rw [List.drop_eq_nil_of_le (by omega)];simp
  ·refine Ev.step (fun k=>slices_Index_int_int.l0.eq_2 _ _ _ _ k) ?_
   have h1:¬ (n:Int) < (l.length:Int):=by omega
   simp only [h1,if_false]
   exact Ev.now _
 | d + 1,n,hn=>by
  have h1:(n:Int) < (l.length:Int):=by omega
  have h0:(0:Int)≤(n:Int):=Int.natCast_nonneg n
  have hd:l.drop n=l[n] :: l.drop (n + 1):=drop_cons (by omega)
  by_cases hx:x=rd l (n:Int)
  ·refine ⟨(n:Int),⟨fun _=>?_,fun _=>h0⟩,?_⟩
   ·rw [hd,hx,rd_lt (by omega:n < l.length)];exact List.mem_cons_self
   ·refine Ev.step (fun k=>slices_Index_int_int.l0.eq_2 _ _ _ _ k) ?_
    simp only [h1,h0,← hx,if_true]
    exact Ev.now _
  ·obtain ⟨r,hr,he⟩:=index_ev l x h d (n + 1) (by omega)
   refine ⟨r,?_,?_⟩
   ·rw [hr,hd,List.mem_cons]
    constructor
    ·exact .inr
    ·rintro (e|e)
     ·exact absurd (by rw [rd_lt (by omega:n < l.length)];exact e) hx
     ·exact e
   ·refine Ev.step (fun k=>slices_Index_int_int.l0.eq_2 _ _ _ _ k) ?_
    simp only [h1,h0,hx,if_true,if_false,w64n (by omega:n < 9000000000000000000)]
    exact he
theorem contains_ev (l:List Int)(x:Int)(h:l.length≤35184372088832):Ev (fun k=>slices_Contains_int_int.f k l x) (decide (x∈l)):=by
 obtain ⟨r,hr,he⟩:=index_ev l x h l.length 0 (by omega)
 unfold slices_Contains_int_int.f slices_Index_int_int.f
 refine Ev.bind he ?_
 rw [List.drop_zero] at hr
 have e:decide (r ≥ 0)=decide (x∈l):=by
  by_cases hx:x∈l
  ·rw [decide_eq_true hx,decide_eq_true (hr.2 hx)]
  ·rw [decide_eq_false hx,decide_eq_false (fun h=>hx (hr.1 h))]
 simp only [e]
 exact Ev.now _
theorem implRuleTail_ev (s kind v:Int)(cs:List Int)(hs:sizeOkB s=true):Ev (fun k=>if kind=1 then (if (cs.length:Int) ≥ 2 then (if (cs.length:Int)≤4 then (some (v == 0)) else (some false)) else (some false)) else (if kind=2 then (impl_RuleValid.j1 k s (cs.length:Int) kind (kind == 2) kind cs v) else (impl_RuleValid.j1 k s (cs.length:Int) kind (kind == 3) kind cs v))) (ruleTail kind cs.length v s):=by
 have hsz:=sizeOkB_iff.1 hs
 have hw:wrap64 ((wrap64 ((wrap64 (s * s)) * s)) * s)=s * s * s * s:=by rcases hsz with rfl|rfl|rfl <;> decide +kernel
 unfold ruleTail
 generalize (cs.length:Int)=n
 have hvz:∀ w:Int,(w == 0)=decide (w=0):=by
  intro w
  by_cases h:w=0
  ·subst h;rfl
  ·rw [beq_eq_false_iff_ne.2 h,decide_eq_false h]
 by_cases k1:kind=1
 ·simp only [k1,if_true]
  by_cases h2:2≤n
  ·by_cases h4:n≤4
   ·have h2':n ≥ 2:=h2
    simp only [h2,h2',h4,if_true,hvz,true_and,decide_true,Bool.true_and]
    exact Ev.now _
   ·have h2':n ≥ 2:=h2
    simp only [h2',h4,if_true,if_false,decide_false,Bool.false_and]
    exact Ev.now _
  ·have h2':¬ n ≥ 2:=h2
   simp only [h2,h2',if_false,false_and,decide_false,Bool.and_false]
   exact Ev.now _
 ·simp only [k1,if_false]
  have hj:∀ b,b=decide (kind=2∨kind=3)→Ev (fun k=>impl_RuleValid.j1 k s n kind b kind cs v) (decide (n≤4) && (if kind=2∨kind=3 then decide (1≤n∧1≤v∧v≤s * s * s * s) else if kind=4 then decide (n=2∧v=0) else if kind=5 then decide (n=2∧0≤v∧v < s) else false)):=by
   rintro b rfl
   refine Ev.step (fun k=>impl_RuleValid.j1.eq_2 _ _ _ _ _ _ _ k) ?_
   by_cases k2:kind=2∨kind=3
   ·simp only [k2,decide_true,if_true,hw]
    by_cases h1:1≤n
    ·have h1':n ≥ 1:=h1
     by_cases h4:n≤4
     ·by_cases hv:1≤v
      ·have hv':v ≥ 1:=hv
       simp only [h1,h1',h4,hv,hv',if_true,true_and,decide_true,Bool.true_and]
       exact Ev.now _
      ·have hv':¬ v ≥ 1:=hv
       simp only [h1,h1',h4,hv,hv',if_true,if_false,true_and,false_and,decide_true,decide_false,Bool.true_and]
       exact Ev.now _
     ·simp only [h1',h4,if_true,if_false,decide_false,Bool.false_and]
      exact Ev.now _
    ·have h1':¬ n ≥ 1:=h1
     simp only [h1,h1',if_false,false_and,decide_false,Bool.and_false]
     exact Ev.now _
   ·simp only [k2,decide_false,if_false,Bool.false_eq_true]
    by_cases k4:kind=4
    ·simp only [k4,if_true]
     by_cases h2:n=2
     ·simp only [h2,if_true,true_and,hvz]
      exact Ev.now _
     ·simp only [h2,if_false,false_and,decide_false,Bool.and_false]
      exact Ev.now _
    ·simp only [k4,if_false]
     by_cases k5:kind=5
     ·simp only [k5,if_true]
      by_cases h2:n=2
      ·by_cases hv:0≤v
       ·have hv':v ≥ 0:=hv
        simp only [h2,hv,hv',if_true,true_and]
        exact Ev.now _
       ·have hv':¬ v ≥ 0:=hv
        simp only [h2,hv,hv',if_true,if_false,true_and,false_and,decide_false,Bool.and_false]
        exact Ev.now _
      ·simp only [h2,if_false,false_and,decide_false,Bool.and_false]
       exact Ev.now _
     ·simp only [k5,if_false,Bool.and_false]
      exact Ev.now _
  by_cases k2:kind=2
  ·have e:(kind == 2)=decide (kind=2∨kind=3):=by simp [k2]
   have:=hj _ e
   simpa only [k2,if_true] using this
  ·have e:(kind == 3)=decide (kind=2∨kind=3):=by
    by_cases k3:kind=3 <;> simp [k2,k3]
   have:=hj _ e
   simp only [k2,if_false]
   simpa only [k2,false_or] using this
theorem implRuleValid_ev (kind:Int)(cs:List Int)(v s:Int)(hl:cs.length≤35184372088832):Ev (fun k=>impl_RuleValid.f k kind cs v s) (ruleB kind cs v s):=by
 unfold impl_RuleValid.f ruleB
 simp only [sizeOk_eq,Option.bind_some]
 by_cases hs:sizeOkB s=true
 ·have ht:wrap64 (s * s)=s * s:=by rcases sizeOkB_iff.1 hs with rfl|rfl|rfl <;> decide +kernel
  simp only [hs,if_true,Bool.true_and]
  have:=Ev.range (σ:=Unit) (L:=fun k _ i=>impl_RuleValid.l0 k s cs (cs.length:Int) i kind cs v) (R:=fun _ _=>goodCells (s * s) cs cs.length && ruleTail kind cs.length v s) (N:=cs.length) (fun _ i=>goodCells (s * s) cs i=true) ?_ ?_ () 0 (Nat.zero_le _) rfl
  ·simpa using this
  ·intro _ hg
   refine Ev.step (fun k=>impl_RuleValid.l0.eq_2 _ _ _ _ _ _ _ k) ?_
   simp only [Int.lt_irrefl,if_false]
   rw [hg,Bool.true_and]
   exact implRuleTail_ev s kind v cs hs
  ·intro _ i hi hg ih
   refine Ev.step (fun k=>impl_RuleValid.l0.eq_2 _ _ _ _ _ _ _ k) ?_
   have h1:(i:Int) < (cs.length:Int):=by omega
   have h0:(0:Int)≤(i:Int):=Int.natCast_nonneg i
   have h2:(i:Int)≤(cs.length:Int):=by omega
   have hbad:goodCells (s * s) cs (i + 1)=false→Ev (fun _:Nat=>some false) (goodCells (s * s) cs cs.length && ruleTail kind cs.length v s):=by
    intro h
    rw [goodCells_le h (by omega:i + 1≤cs.length)]
    exact Ev.now _
   simp only [h1,h0,h2,if_true,ht,Int.toNat_natCast]
   by_cases hc0:rd cs (i:Int) < 0
   ·simp only [hc0,if_true]
    refine hbad ?_
    have hn:¬ (0≤rd cs (i:Int)∧rd cs (i:Int) < s * s):=fun h=>by omega
    rw [goodCells,decide_eq_false hn];simp
   ·simp only [hc0,if_false]
    by_cases hc1:rd cs (i:Int) ≥ s * s
    ·simp only [hc1,if_true]
     refine hbad ?_
     have hn:¬ (0≤rd cs (i:Int)∧rd cs (i:Int) < s * s):=fun h=>by omega
     rw [goodCells,decide_eq_false hn];simp
    ·simp only [hc1,if_false]
     refine Ev.bind (contains_ev _ _ (by rw [List.length_take];omega)) ?_
     by_cases hm:rd cs (i:Int)∈cs.take i
     ·simp only [hm,decide_true,if_true]
      refine hbad ?_
      rw [goodCells,decide_eq_true hm];simp
     ·simp only [hm,decide_false,if_false,Bool.false_eq_true,w64n (by omega:i < 9000000000000000000)]
      refine ih () ?_
      rw [goodCells,hg,decide_eq_true (⟨by omega,by omega⟩:0≤rd cs (i:Int)∧rd cs (i:Int) < s * s),decide_eq_false hm]
      rfl
 ·simp only [hs,if_false,Bool.false_eq_true,Bool.false_and]
  exact Ev.now _

end Go.Proofs.Ytdemlminhkhonaa.Pure
namespace Go.Proofs.Ytdemlminhkhonaa.Pure
set_option linter.unusedSimpArgs false
set_option linter.unusedVariables false
open Go.RowKit Go.Proofs.YtdemlminhkhonaaW.PrintWords Go.Proofs.YtdemlminhkhonaaW.PrintMore Go.Proofs.Ytdemlminhkhonaa.P


theorem goodCells_prev {t:Int}{cs:List Int}{n:Nat}(h:goodCells t cs (n + 1)=true):goodCells t cs n=true:=by
 unfold goodCells at h;simp only [Bool.and_eq_true] at h;exact h.1
theorem goodCells_at {t:Int}{cs:List Int}:∀ {n:Nat},goodCells t cs n=true→∀ i,i < n→0≤rd cs (i:Int)∧rd cs (i:Int) < t
 | 0,_,i,hi=>absurd hi (Nat.not_lt_zero i)
 | n + 1,h,i,hi=>by
  by_cases hin:i < n
  ·exact goodCells_at (goodCells_prev h) i hin
  ·obtain rfl:i=n:=by omega
   unfold goodCells at h
   simp only [Bool.and_eq_true,decide_eq_true_eq] at h
   exact h.2.1
def sumP (l:List Int):Nat→Int
 | 0=>0
 | n + 1=>sumP l n + rd l (n:Int)
def prodP (l:List Int):Nat→Int
 | 0=>1
 | n + 1=>prodP l n * rd l (n:Int)
def neP (l:List Int)(i:Nat):Nat→Bool
 | 0=>true
 | j + 1=>neP l i j && (rd l (j:Int) != rd l (i:Int))
def nodupP (l:List Int):Nat→Bool
 | 0=>true
 | n + 1=>nodupP l n && neP l n n
theorem sumP_le {l:List Int}(h:∀ x∈l,0≤x∧x≤4):∀ n,n≤l.length→0≤sumP l n∧sumP l n≤4 * (n:Int)
 | 0,_=>by unfold sumP;omega
 | n + 1,hn=>by
  have ih:=sumP_le h n (by omega)
  have hx:=h _ (rd_mem (g:=l) (i:=(n:Int)) (by omega) (by omega))
  unfold sumP;omega
theorem prodP_le {l:List Int}(h:∀ x∈l,0≤x∧x≤4):∀ n,n≤l.length→0≤prodP l n∧prodP l n≤4 ^ n
 | 0,_=>by unfold prodP;decide
 | n + 1,hn=>by
  have ih:=prodP_le h n (by omega)
  have hx:=h _ (rd_mem (g:=l) (i:=(n:Int)) (by omega) (by omega))
  unfold prodP
  refine ⟨Int.mul_nonneg ih.1 hx.1,?_⟩
  rw [Int.pow_succ]
  exact Int.mul_le_mul ih.2 hx.2 hx.1 (Int.le_trans ih.1 ih.2)
theorem prodP_small {l:List Int}(h:∀ x∈l,0≤x∧x≤4){n:Nat}(hn:n≤l.length)(h4:n≤4):0≤prodP l n∧prodP l n≤256:=by
 have:=prodP_le h n hn
 have hc:n=0∨n=1∨n=2∨n=3∨n=4:=by omega
 refine ⟨this.1,Int.le_trans this.2 ?_⟩
 rcases hc with rfl|rfl|rfl|rfl|rfl <;> decide
theorem neP_iff {l:List Int}{i:Nat}:∀ j,j≤l.length→(neP l i j=true↔∀ d,d < j→rd l (d:Int)≠rd l (i:Int))
 | 0,_=>⟨fun _ d hd=>absurd hd (Nat.not_lt_zero d),fun _=>rfl⟩
 | j + 1,hj=>by
  unfold neP
  rw [Bool.and_eq_true,neP_iff j (by omega),bne_iff_ne]
  constructor
  ·rintro ⟨h1,h2⟩ d hd
   by_cases hdj:d=j
   ·rw [hdj];exact h2
   ·exact h1 d (by omega)
  ·exact fun h=>⟨fun d hd=>h d (by omega),h j (by omega)⟩
theorem neP_mem {l:List Int}{i:Nat}(hi:i < l.length):neP l i i= !decide (rd l (i:Int)∈l.take i):=by
 by_cases hm:rd l (i:Int)∈l.take i
 ·rw [decide_eq_true hm]
  obtain ⟨j,hj,_,he⟩:=mem_take_iff.1 hm
  refine eq_false_of_ne_true (fun h=>?_)
  exact (neP_iff i (by omega)).1 h j hj he
 ·rw [decide_eq_false hm]
  refine (neP_iff i (by omega)).2 (fun d hd he=>hm (mem_take_iff.2 ⟨d,hd,by omega,he⟩))
theorem nodupP_le {l:List Int}{n:Nat}(h:nodupP l n=false):∀ d,nodupP l (n + d)=false
 | 0=>h
 | d + 1=>by rw [show n + (d + 1)=(n + d) + 1 from rfl,nodupP,nodupP_le h d];rfl
def holdsB (kind v:Int)(l:List Int):Bool:=if kind=1 then nodupP l l.length else if kind=2 then sumP l l.length == v else if kind=3 then prodP l l.length == v else if kind=4 then decide (rd l 0 < rd l 1) else mx (rd l 0 - rd l 1) (rd l 1 - rd l 0) == v
def ValsOK (kind:Int)(l:List Int):Prop:=l.length≤4∧(∀ x∈l,0≤x∧x≤4)∧1≤kind∧kind≤5∧(4≤kind→l.length=2)
theorem l4Holds_ev {kind v:Int}{cs l:List Int}(h:ValsOK kind l):Ev (fun k=>spec_l4Holds.f k kind cs v l) (holdsB kind v l):=by
 obtain ⟨h4,hx,hk1,hk5,hk2⟩:=h
 unfold spec_l4Holds.f
 have:=Ev.range (L:=fun k (p:Int × Int × Bool) i=>spec_l4Holds.l0 k l p.1 p.2.1 p.2.2 i kind cs v) (R:=fun _ _=>holdsB kind v l) (N:=l.length) (fun p i=>p=(sumP l i,prodP l i,nodupP l i)) ?_ ?_ (0,1,true) 0 (Nat.zero_le _) rfl
 ·simpa using this
 ·rintro p rfl
  refine Ev.step (fun k=>spec_l4Holds.l0.eq_2 _ _ _ _ _ _ _ _ k) ?_
  unfold holdsB
  simp only [Int.lt_irrefl,if_false]
  by_cases k1:kind=1
  ·simp only [k1,if_true];exact Ev.now _
  ·by_cases k2:kind=2
   ·simp only [k1,k2,if_true,if_false];exact Ev.now _
   ·by_cases k3:kind=3
    ·simp only [k1,k2,k3,if_true,if_false];exact Ev.now _
    ·have hl2:l.length=2:=hk2 (by omega)
     have e0:(0:Int) < (l.length:Int):=by omega
     have e1:(1:Int) < (l.length:Int):=by omega
     have hr0:=hx _ (rd_mem (g:=l) (i:=0) (by decide) e0)
     have hr1:=hx _ (rd_mem (g:=l) (i:=1) (by decide) e1)
     have w1:wrap64 (rd l 0 - rd l 1)=rd l 0 - rd l 1:=by unfold wrap64;omega
     have w2:wrap64 (-(rd l 0 - rd l 1))=rd l 1 - rd l 0:=by unfold wrap64;omega
     by_cases k4:kind=4
     ·simp only [k1,k2,k3,k4,e0,e1,if_true,if_false];exact Ev.now _
     ·simp only [k1,k2,k3,k4,e0,e1,if_true,if_false,w1,w2];exact Ev.now _
 ·rintro p i hi rfl ih
  refine Ev.step (fun k=>spec_l4Holds.l0.eq_2 _ _ _ _ _ _ _ _ k) ?_
  have h1:(i:Int) < (l.length:Int):=by omega
  have h0:(0:Int)≤(i:Int):=Int.natCast_nonneg i
  have hs:=sumP_le hx (i + 1) (by omega)
  have hp:=prodP_small hx (n:=i + 1) (by omega) (by omega)
  have ws:wrap64 (sumP l i + rd l (i:Int))=sumP l (i + 1):=by
   rw [show sumP l i + rd l (i:Int)=sumP l (i + 1) from rfl];exact w64 (by omega) (by omega)
  have wp:wrap64 (prodP l i * rd l (i:Int))=prodP l (i + 1):=by
   rw [show prodP l i * rd l (i:Int)=prodP l (i + 1) from rfl];exact w64 (by omega) (by omega)
  simp only [h1,h0,if_true,ws,wp]
  clear hs hp ws wp
  have:=Ev.range (L:=fun k (b:Bool) j=>spec_l4Holds.l1 k l (sumP l (i + 1)) (prodP l (i + 1)) b (i:Int) j kind cs v) (R:=fun _ _=>holdsB kind v l) (N:=i) (fun b j=>b=(nodupP l i && neP l i j)) ?_ ?_ (nodupP l i) 0 (Nat.zero_le _) (by simp [neP])
  ·simpa using this
  ·rintro b rfl
   refine Ev.step (fun k=>spec_l4Holds.l1.eq_2 _ _ _ _ _ _ _ _ _ k) ?_
   simp only [Int.lt_irrefl,if_false,w64n (by omega:i < 9000000000000000000)]
   exact ih (_,_,_) rfl
  ·rintro b j hj hb ihj
   refine Ev.step (fun k=>spec_l4Holds.l1.eq_2 _ _ _ _ _ _ _ _ _ k) ?_
   have h2:(j:Int) < (i:Int):=by omega
   have h3:(j:Int) < (l.length:Int):=by omega
   have h5:(0:Int)≤(j:Int):=Int.natCast_nonneg j
   simp only [h2,h3,h5,h1,h0,if_true,w64n (by omega:j < 9000000000000000000)]
   cases b with
   | true =>
    simp only [if_true]
    refine ihj _ ?_
    rw [neP,← Bool.and_assoc,← hb,Bool.true_and]
   | false =>
    simp only [Bool.false_eq_true,if_false]
    refine ihj _ ?_
    rw [neP,← Bool.and_assoc,← hb,Bool.false_and]
theorem valuesHold_ev {kind v:Int}{cs l:List Int}(h:ValsOK kind l):Ev (fun k=>impl_valuesHold.f k kind cs v l) (holdsB kind v l):=by
 obtain ⟨h4,hx,hk1,hk5,hk2⟩:=h
 unfold impl_valuesHold.f
 have:=Ev.range (L:=fun k (p:Int × Int) i=>impl_valuesHold.l0 k l p.1 p.2 l (l.length:Int) i kind cs v) (R:=fun _ _=>holdsB kind v l) (N:=l.length) (fun p i=>p=(sumP l i,prodP l i)∧(kind=1→nodupP l i=true)) ?_ ?_ (0,1) 0 (Nat.zero_le _) ⟨rfl,fun _=>rfl⟩
 ·simpa using this
 ·rintro p ⟨rfl,hd⟩
  refine Ev.step (fun k=>impl_valuesHold.l0.eq_2 _ _ _ _ _ _ _ _ _ k) ?_
  unfold holdsB
  simp only [Int.lt_irrefl,if_false]
  by_cases k1:kind=1
  ·have k2:¬ kind=2:=by omega
   have k3:¬ kind=3:=by omega
   have k4:¬ kind=4:=by omega
   have k5:¬ kind=5:=by omega
   simp only [k2,k3,k4,k5,if_false]
   rw [if_pos k1,hd k1]
   exact Ev.now _
  ·by_cases k2:kind=2
   ·simp only [k1,k2,if_true,if_false];exact Ev.now _
   ·by_cases k3:kind=3
    ·simp only [k1,k2,k3,if_true,if_false];exact Ev.now _
    ·have hl2:l.length=2:=hk2 (by omega)
     have e0:(0:Int) < (l.length:Int):=by omega
     have e1:(1:Int) < (l.length:Int):=by omega
     have hr0:=hx _ (rd_mem (g:=l) (i:=0) (by decide) e0)
     have hr1:=hx _ (rd_mem (g:=l) (i:=1) (by decide) e1)
     have w1:wrap64 (rd l 0 - rd l 1)=rd l 0 - rd l 1:=by unfold wrap64;omega
     have w2:wrap64 (rd l 1 - rd l 0)=rd l 1 - rd l 0:=by unfold wrap64;omega
     by_cases k4:kind=4
     ·simp only [k1,k2,k3,k4,e0,e1,if_true,if_false];exact Ev.now _
     ·have k5:kind=5:=by omega
      simp only [k1,k2,k3,k4,e0,e1,if_true,if_false,w1,w2]
      simp only [k5,if_true]
      exact Ev.now _
 ·rintro p i hi ⟨rfl,hd⟩ ih
  refine Ev.step (fun k=>impl_valuesHold.l0.eq_2 _ _ _ _ _ _ _ _ _ k) ?_
  have h1:(i:Int) < (l.length:Int):=by omega
  have h2:(i:Int)≤(l.length:Int):=by omega
  have h0:(0:Int)≤(i:Int):=Int.natCast_nonneg i
  have hs:=sumP_le hx (i + 1) (by omega)
  have hp:=prodP_small hx (n:=i + 1) (by omega) (by omega)
  have ws:wrap64 (sumP l i + rd l (i:Int))=sumP l (i + 1):=by
   rw [show sumP l i + rd l (i:Int)=sumP l (i + 1) from rfl];exact w64 (by omega) (by omega)
  have wp:wrap64 (prodP l i * rd l (i:Int))=prodP l (i + 1):=by
   rw [show prodP l i * rd l (i:Int)=prodP l (i + 1) from rfl];exact w64 (by omega) (by omega)
  simp only [h1,h2,h0,if_true,ws,wp,Int.toNat_natCast,w64n (by omega:i < 9000000000000000000)]
  clear hs hp ws wp
  by_cases k1:kind=1
  ·simp only [k1,if_true]
   refine Ev.bind (contains_ev _ _ (by rw [List.length_take];omega)) ?_
   by_cases hm:rd l (i:Int)∈l.take i
   ·simp only [hm,decide_true,if_true]
    have hf:nodupP l (i + 1)=false:=by rw [nodupP,neP_mem hi,decide_eq_true hm];simp
    have:holdsB 1 v l=false:=by
     unfold holdsB
     obtain ⟨d,hd'⟩:∃ d,l.length=(i + 1) + d:=⟨l.length - (i + 1),by omega⟩
     rw [if_pos rfl,hd']
     exact nodupP_le hf d
    rw [this]
    exact Ev.now _
   ·simp only [hm,decide_false,if_false,Bool.false_eq_true]
    have:=ih (_,_) ⟨rfl,fun _=>by rw [nodupP,neP_mem hi,decide_eq_false hm,hd k1];rfl⟩
    rw [k1] at this
    exact this
  ·simp only [k1,if_false]
   exact ih (_,_) ⟨rfl,fun h=>absurd h k1⟩

end Go.Proofs.Ytdemlminhkhonaa.Pure
namespace Go.Proofs.Ytdemlminhkhonaa.Pure
set_option linter.unusedSimpArgs false
set_option linter.unusedVariables false
open Go.RowKit Go.Proofs.YtdemlminhkhonaaW.PrintWords Go.Proofs.YtdemlminhkhonaaW.PrintMore Go.Proofs.Ytdemlminhkhonaa.P


def mvals (m:Int):List Int:=if 0≤m∧m≤30∧m % 2=0 then [1,2,3,4].filter (fun v=>decide ((m / 2 ^ v.toNat) % 2=1)) else []
def onlyV (m:Int):Int:=if m=2 then 1 else if m=4 then 2 else if m=8 then 3 else if m=16 then 4 else 0
theorem even_cases {m:Int}(h:0≤m∧m≤30∧m % 2=0):m=0∨m=2∨m=4∨m=6∨m=8∨m=10∨m=12∨m=14∨m=16∨m=18∨m=20∨m=22∨m=24∨m=26∨m=28∨m=30:=by omega
theorem specMaskValues_ev (m:Int):Ev (fun k=>spec_MaskValues.f k m) (mvals m):=by
 by_cases h:0≤m∧m≤30∧m % 2=0
 ·rcases even_cases h with rfl|rfl|rfl|rfl|rfl|rfl|rfl|rfl|rfl|rfl|rfl|rfl|rfl|rfl|rfl|rfl <;>
   exact Ev.of (spec_MaskValues.mono _) (k:=12) (by decide +kernel)
 ·have e:mvals m=[]:=by unfold mvals;rw [if_neg h]
  rw [e]
  unfold spec_MaskValues.f
  refine Ev.step (fun k=>spec_MaskValues.l0.eq_2 _ _ _ k) ?_
  have h4:(1:Int)≤4:=by decide
  simp only [h4,if_true,l1In_eq,Option.bind_some]
  by_cases hr:0≤m∧m≤30
  ·have ht:¬ Int.tmod m 2=0:=by rw [Int.tmod_eq_emod_of_nonneg hr.1];omega
   have ht2:(Int.tmod m 2 == 0)=false:=by simpa using ht
   simp only [hr,ht2,and_self,decide_true,if_true]
   refine Ev.step (fun k=>spec_MaskValues.j1.eq_2 _ _ _ _ k) ?_
   simp only [Bool.false_eq_true,if_false]
   exact Ev.now _
  ·simp only [hr,decide_false,Bool.false_eq_true,if_false]
   refine Ev.step (fun k=>spec_MaskValues.j1.eq_2 _ _ _ _ k) ?_
   simp only [Bool.false_eq_true,if_false]
   exact Ev.now _
theorem onlyValue_ev {m:Int}(h:0≤m∧m≤30∧m % 2=0):Ev (fun k=>impl_onlyValue.f k m) (onlyV m):=by
 rcases even_cases h with rfl|rfl|rfl|rfl|rfl|rfl|rfl|rfl|rfl|rfl|rfl|rfl|rfl|rfl|rfl|rfl <;>
  exact Ev.of (impl_onlyValue.mono _) (k:=12) (by decide +kernel)

end Go.Proofs.Ytdemlminhkhonaa.Pure
namespace Go.Proofs.Ytdemlminhkhonaa.Pure
set_option linter.unusedSimpArgs false
set_option linter.unusedVariables false
open Go.RowKit Go.Proofs.YtdemlminhkhonaaW.PrintWords Go.Proofs.YtdemlminhkhonaaW.PrintMore


theorem le_of_andNot {v:Int}{M:Nat}(hM:M < 2 ^ 64)(h0:0≤v)(h1:v < 2 ^ 63)(h:Go.bits .andNot .i64 v (M:Int)=0):v≤M:=by
 unfold Go.bits at h
 simp only [IntKind.wrap_i64] at h
 have hlt:=(BitVec.ofInt IntKind.i64.bits v &&& ~~~ BitVec.ofInt IntKind.i64.bits (M:Int)).isLt
 have hbits:IntKind.i64.bits=64:=rfl
 rw [hbits] at h hlt
 have ht:(BitVec.ofInt 64 v &&& ~~~ BitVec.ofInt 64 (M:Int)).toNat=0:=by omega
 have e:BitVec.ofInt 64 v &&& ~~~ BitVec.ofInt 64 (M:Int)=0#64:=BitVec.eq_of_toNat_eq (by simpa using ht)
 have e2:BitVec.ofInt 64 v=BitVec.ofInt 64 v &&& BitVec.ofInt 64 (M:Int):=by
  apply BitVec.eq_of_getLsbD_eq
  intro i hi
  have h:=congrArg (fun x=>BitVec.getLsbD x i) e
  simp only [BitVec.getLsbD_and,BitVec.getLsbD_not,BitVec.getLsbD_zero,hi,decide_true,Bool.true_and] at h ⊢
  cases hx:(BitVec.ofInt 64 v).getLsbD i <;> cases hy:(BitVec.ofInt 64 (M:Int)).getLsbD i <;> simp_all
 have e3:=congrArg BitVec.toNat e2
 rw [BitVec.toNat_and] at e3
 have e4:(BitVec.ofInt 64 (M:Int)).toNat=M:=by
  rw [BitVec.toNat_ofInt];omega
 have e5:(BitVec.ofInt 64 v).toNat=v.toNat:=by
  rw [BitVec.toNat_ofInt];omega
 rw [e4,e5] at e3
 have:=@Nat.and_le_right v.toNat M
 omega
theorem and7_range (s:Int):0≤Go.bits .and .i64 s 7∧Go.bits .and .i64 s 7≤7:=by
 unfold Go.bits
 simp only [IntKind.wrap_i64]
 rw [BitVec.toNat_and]
 have:=@Nat.and_le_right (BitVec.ofInt IntKind.i64.bits s).toNat (BitVec.ofInt IntKind.i64.bits 7).toNat
 have e:(BitVec.ofInt IntKind.i64.bits 7).toNat=7:=by decide
 rw [e] at this ⊢
 omega
theorem andNot_fin:∀ s:Fin 5,sizeOkB s=true→∀ v:Fin 31,(Go.bits .andNot .i64 (v.val:Int) (allM s)=0↔(v.val:Int)≤allM s∧(v.val:Int) % 2=0):=by decide +kernel
theorem andNot_iff {s v:Int}(hs:sizeOkB s=true)(h0:0≤v)(h1:v < 2 ^ 63):Go.bits .andNot .i64 v (allM s)=0↔v≤allM s∧v % 2=0:=by
 have hr:allM s≤30:=by rcases sizeOkB_iff.1 hs with rfl|rfl|rfl <;> decide
 have hc:((allM s).toNat:Int)=allM s:=by rcases sizeOkB_iff.1 hs with rfl|rfl|rfl <;> decide
 by_cases hv:v≤30
 ·have hs':∃ j:Fin 5,(j.val:Int)=s:=by
   rcases sizeOkB_iff.1 hs with rfl|rfl|rfl
   ·exact ⟨2,rfl⟩
   ·exact ⟨3,rfl⟩
   ·exact ⟨4,rfl⟩
  obtain ⟨j,rfl⟩:=hs'
  have:=andNot_fin j hs ⟨v.toNat,by omega⟩
  rwa [show ((v.toNat:Nat):Int)=v by omega] at this
 ·constructor
  ·intro h
   rw [← hc] at h
   have:=le_of_andNot (by omega) h0 h1 h
   omega
  ·intro h;omega

end Go.Proofs.Ytdemlminhkhonaa.Pure
namespace Go.Proofs.Ytdemlminhkhonaa.Pure
set_option linter.unusedSimpArgs false
set_option linter.unusedVariables false
open Go.RowKit Go.Proofs.YtdemlminhkhonaaW.PrintWords Go.Proofs.YtdemlminhkhonaaW.PrintMore Go.Proofs.Ytdemlminhkhonaa.P


theorem specMasksValid_ev (g:List Int)(s:Int)(h:g.length≤35184372088832):Ev (fun k=>spec_MasksValid.f k g s) (masksB g s):=by
 unfold spec_MasksValid.f
 obtain ⟨B,hB⟩:∃ B,wrap64 ((shl .i64 1 (wrap64 ((Go.bits .and .i64 s 7) + 1))) - 2)=B:=⟨_,rfl⟩
 have hBs:sizeOkB s=true→B=allM s:=by
  intro hs;rw [← hB];rcases sizeOkB_iff.1 hs with rfl|rfl|rfl <;> decide +kernel
 have h7:(0:Int)≤wrap64 ((Go.bits .and .i64 s 7) + 1):=by
  have:=and7_range s
  rw [w64 (by omega) (by omega)];omega
 have:=Ev.range0 (L:=fun k i=>spec_MasksValid.l0 k g s i) (R:=fun n=>(g.drop n).all (fun v=>decide (0≤v∧v≤B∧v % 2=0)) && (sizeOkB s && decide ((g.length:Int)=s * s))) (N:=g.length) ?_ ?_ 0 (Nat.zero_le _)
 ·have e:masksB g s=((g.drop 0).all (fun v=>decide (0≤v∧v≤B∧v % 2=0)) && (sizeOkB s && decide ((g.length:Int)=s * s))):=by
   unfold masksB;rw [List.drop_zero]
   cases hs:sizeOkB s
   ·simp
   ·rw [hBs hs];cases decide ((g.length:Int)=s * s) <;> simp
  rw [e];simpa using this
 ·refine Ev.step (fun k=>spec_MasksValid.l0.eq_2 _ _ _ k) ?_
  simp only [Int.lt_irrefl,if_false,l1In_eq,Option.bind_some,List.drop_length,List.all_nil,Bool.true_and]
  by_cases hs:sizeOkB s=true
  ·have hs':decide (2≤s∧s≤4)=true:=hs
   have hw:wrap64 (s * s)=s * s:=by rcases sizeOkB_iff.1 hs with rfl|rfl|rfl <;> decide +kernel
   simp only [hs',if_true,hs,hw,Bool.true_and]
   have e:((g.length:Int) == s * s)=decide ((g.length:Int)=s * s):=by
    by_cases h:(g.length:Int)=s * s <;> simp [h]
   rw [e];exact Ev.now _
  ·have hs':¬ decide (2≤s∧s≤4)=true:=hs
   simp only [hs',if_false,Bool.false_and,eq_false_of_ne_true hs,Bool.false_eq_true]
   exact Ev.now _
 ·intro n hn ih
  refine Ev.step (fun k=>spec_MasksValid.l0.eq_2 _ _ _ k) ?_
  have h1:(n:Int) < (g.length:Int):=by omega
  have h3:(0:Int)≤n:=by omega
  rw [drop_cons hn]
  simp only [h1,h3,h7,if_true,rd_lt hn,l1In_eq,Option.bind_some,List.all_cons,hB]
  by_cases hv:0≤g[n]∧g[n]≤B
  ·have ht:Int.tmod g[n] 2=g[n] % 2:=Int.tmod_eq_emod_of_nonneg hv.1
   by_cases h2:g[n] % 2=0
   ·have e:decide (0≤g[n]∧g[n]≤B∧g[n] % 2=0)=true:=decide_eq_true ⟨hv.1,hv.2,h2⟩
    rw [e]
    simp only [decide_eq_true hv,ht,h2,if_true,w64n (by omega:n < 9000000000000000000),Bool.true_and]
    exact ih
   ·have e:decide (0≤g[n]∧g[n]≤B∧g[n] % 2=0)=false:=decide_eq_false (fun h=>h2 h.2.2)
    rw [e]
    simp only [decide_eq_true hv,ht,h2,if_true,if_false,Bool.false_and]
    exact Ev.now _
  ·have e:decide (0≤g[n]∧g[n]≤B∧g[n] % 2=0)=false:=decide_eq_false (fun h=>hv ⟨h.1,h.2.1⟩)
   simp only [decide_eq_false hv,e,if_false,Bool.false_and,Bool.false_eq_true]
   exact Ev.now _
theorem implMasksValid_ev (g:List Int)(s:Int)(h:g.length≤35184372088832)(hw:∀ x∈g,x≤9223372036854775807):Ev (fun k=>impl_MasksValid.f k g s) (masksB g s):=by
 unfold impl_MasksValid.f
 simp only [sizeOk_eq,Option.bind_some]
 by_cases hs:sizeOkB s=true
 ·have hw2:wrap64 (s * s)=s * s:=by rcases sizeOkB_iff.1 hs with rfl|rfl|rfl <;> decide +kernel
  simp only [hs,if_true,hw2]
  refine Ev.step (fun k=>impl_MasksValid.j0.eq_2 _ _ _ k) ?_
  by_cases hl:(g.length:Int)=s * s
  ·have e:((g.length:Int) != s * s)=false:=by simp [hl]
   simp only [e,Bool.false_eq_true,if_false]
   have:=Ev.range0 (L:=fun k i=>impl_MasksValid.l0 k s g (g.length:Int) i) (R:=fun n=>(g.drop n).all (fun v=>decide (0≤v∧v≤allM s∧v % 2=0))) (N:=g.length) ?_ ?_ 0 (Nat.zero_le _)
   ·have e:masksB g s=(g.drop 0).all (fun v=>decide (0≤v∧v≤allM s∧v % 2=0)):=by
     unfold masksB;rw [List.drop_zero,hs,hl];simp
    rw [e];simpa using this
   ·refine Ev.step (fun k=>impl_MasksValid.l0.eq_2 _ _ _ _ k) ?_
    simp only [Int.lt_irrefl,if_false,List.drop_length,List.all_nil]
    exact Ev.now _
   ·intro n hn ih
    refine Ev.step (fun k=>impl_MasksValid.l0.eq_2 _ _ _ _ k) ?_
    have h1:(n:Int) < (g.length:Int):=by omega
    have h3:(0:Int)≤n:=by omega
    rw [drop_cons hn]
    simp only [h1,h3,if_true,rd_lt hn,List.all_cons]
    by_cases ha:g[n] < 0
    ·have:decide (0≤g[n]∧g[n]≤allM s∧g[n] % 2=0)=false:=decide_eq_false (by omega)
     simp only [ha,if_true,this,Bool.false_and]
     exact Ev.now _
    ·have hb:=hw g[n] (List.getElem_mem hn)
     have hi:=andNot_iff hs (v:=g[n]) (by omega) (by omega)
     simp only [ha,if_false,allValues_eq hs,Option.bind_some]
     by_cases hz:Go.bits .andNot .i64 g[n] (allM s)=0
     ·have:decide (0≤g[n]∧g[n]≤allM s∧g[n] % 2=0)=true:=decide_eq_true ⟨by omega,hi.1 hz⟩
      simp only [hz,if_true,this,Bool.true_and,w64n (by omega:n < 9000000000000000000)]
      exact ih
     ·have:decide (0≤g[n]∧g[n]≤allM s∧g[n] % 2=0)=false:=decide_eq_false (fun h=>hz (hi.2 h.2))
      simp only [hz,if_false,this,Bool.false_and]
      exact Ev.now _
  ·have e:((g.length:Int) != s * s)=true:=by simp [hl]
   have e2:masksB g s=false:=by unfold masksB;simp [hl]
   simp only [e,if_true,e2]
   exact Ev.now _
 ·have e2:masksB g s=false:=by unfold masksB;simp [hs]
  simp only [hs,if_false,e2,Bool.false_eq_true]
  refine Ev.step (fun k=>impl_MasksValid.j0.eq_2 _ _ _ k) ?_
  simp only [if_true]
  exact Ev.now _

end Go.Proofs.Ytdemlminhkhonaa.Pure
namespace Go.Proofs.Ytdemlminhkhonaa.Pure
set_option linter.unusedSimpArgs false
set_option linter.unusedVariables false
open Go.RowKit Go.Proofs.YtdemlminhkhonaaW.PrintWords Go.Proofs.YtdemlminhkhonaaW.PrintMore

theorem size_le4 {s:Int}(h:sizeOkB s=true):2≤s∧s≤4:=by rcases sizeOkB_iff.1 h with rfl|rfl|rfl <;> decide
theorem allM_le {s:Int}(h:sizeOkB s=true):0≤allM s∧allM s≤30:=by rcases sizeOkB_iff.1 h with rfl|rfl|rfl <;> decide
theorem val_le {g:List Int}{s:Int}(h:gridB g s=true){x:Int}(hx:x∈g):0≤x∧x≤4:=by
 have h1:=gridB_mem h x hx
 have h2:=size_le4 (gridB_size h)
 omega

end Go.Proofs.Ytdemlminhkhonaa.Pure
namespace Go.Proofs.Ytdemlminhkhonaa.Pure
set_option linter.unusedSimpArgs false
set_option linter.unusedVariables false
open Go.RowKit Go.Proofs.YtdemlminhkhonaaW.PrintWords Go.Proofs.YtdemlminhkhonaaW.PrintMore

theorem ruleB_parts {kind:Int}{cs:List Int}{v s:Int}(h:ruleB kind cs v s=true):sizeOkB s=true∧goodCells (s * s) cs cs.length=true∧cs.length≤4∧1≤kind∧kind≤5∧(4≤kind→cs.length=2):=by
 unfold ruleB ruleTail at h
 simp only [Bool.and_eq_true,decide_eq_true_eq] at h
 obtain ⟨h1,h2,h3,h4⟩:=h
 refine ⟨h1,h2,by omega,?_⟩
 by_cases k1:kind=1
 ·omega
 ·rw [if_neg k1] at h4
  by_cases k2:kind=2∨kind=3
  ·omega
  ·rw [if_neg k2] at h4
   by_cases k4:kind=4
   ·rw [if_pos k4] at h4
    simp only [decide_eq_true_eq] at h4
    omega
   ·rw [if_neg k4] at h4
    by_cases k5:kind=5
    ·rw [if_pos k5] at h4
     simp only [decide_eq_true_eq] at h4
     omega
    ·rw [if_neg k5] at h4;cases h4
theorem cell_mem {t:Int}{cs:List Int}(h:goodCells t cs cs.length=true):∀ c∈cs,0≤c∧c < t:=by
 intro c hc
 obtain ⟨i,hi,he⟩:=List.mem_iff_getElem.1 hc
 have:=goodCells_at h i hi
 rw [rd_lt hi,he] at this
 exact this

end Go.Proofs.Ytdemlminhkhonaa.Pure
namespace Go.Proofs.Ytdemlminhkhonaa.Pure
set_option linter.unusedSimpArgs false
set_option linter.unusedVariables false
open Go.RowKit Go.Proofs.YtdemlminhkhonaaW.PrintWords Go.Proofs.YtdemlminhkhonaaW.PrintMore


def orP (vals:List Int):Nat→Int→List Int→List Int
 | 0,_,out=>out
 | d + 1,i,out=>orP vals d (i + 1) (out.set i.toNat (Go.bits .or .i64 (rd out i) (shl .i64 1 (rd vals i))))
def waysM (kind v:Int)(own:List Int):Nat→List Int→List Int→List Int
 | 0,pre,out=>if holdsB kind v pre=true then orP pre pre.length 0 out else out
 | d + 1,pre,out=>(mvals (rd own (pre.length:Nat))).foldl (fun o x=>waysM kind v own d (pre ++ [x]) o) out
theorem orP_len (vals:List Int):∀ (d:Nat) (i:Int) (out:List Int),(orP vals d i out).length=out.length
 | 0,_,_=>rfl
 | d + 1,i,out=>by unfold orP;rw [orP_len vals d,List.length_set]
theorem foldl_len {f:List Int→Int→List Int}(h:∀ o x,(f o x).length=o.length):∀ (l:List Int) (o:List Int),(l.foldl f o).length=o.length
 | [],_=>rfl
 | x :: l,o=>by rw [List.foldl_cons,foldl_len h l,h]
theorem waysM_len (kind v:Int)(own:List Int):∀ (d:Nat) (pre out:List Int),(waysM kind v own d pre out).length=out.length
 | 0,pre,out=>by
  unfold waysM;split
  ·exact orP_len _ _ _ _
  ·rfl
 | d + 1,pre,out=>by
  unfold waysM
  exact foldl_len (fun o x=>waysM_len kind v own d _ o) _ _
theorem mvals_range {m x:Int}(h:x∈mvals m):1≤x∧x≤4:=by
 unfold mvals at h
 split at h
 ·have:=(List.mem_filter.1 h).1
  simp at this
  omega
 ·cases h
theorem mvals_len4 (m:Int):(mvals m).length≤4:=by
 unfold mvals;split
 ·exact List.length_filter_le _ _
 ·exact Nat.zero_le _
def ruleMasks (kind:Int)(cs:List Int)(v:Int)(masks:List Int)(s:Int):List Int:=if ruleB kind cs v s=true∧masksB masks s=true then waysM kind v (cs.map (fun c=>rd masks c)) cs.length [] (List.replicate cs.length 0) else []
theorem ruleB_len {kind:Int}{cs:List Int}{v s:Int}(h:ruleB kind cs v s=true):1≤cs.length∧cs.length≤4:=by
 have h4:=(ruleB_parts h).2.2.1
 unfold ruleB ruleTail at h
 simp only [Bool.and_eq_true,decide_eq_true_eq] at h
 refine ⟨?_,h4⟩
 have h2:=h.2.2.2
 split at h2
 ·simp only [decide_eq_true_eq] at h2;omega
 ·split at h2
  ·simp only [decide_eq_true_eq] at h2;omega
  ·split at h2
   ·simp only [decide_eq_true_eq] at h2;omega
   ·split at h2
    ·simp only [decide_eq_true_eq] at h2;omega
    ·cases h2
theorem ruleMasks_lenEq {kind:Int}{cs:List Int}{v:Int}{masks:List Int}{s:Int}(h:ruleB kind cs v s=true∧masksB masks s=true):(ruleMasks kind cs v masks s).length=cs.length:=by
 unfold ruleMasks;rw [if_pos h,waysM_len,List.length_replicate]
def KindOK (kind:Int)(n:Nat):Prop:=n≤4∧1≤kind∧kind≤5∧(4≤kind→n=2)
theorem kindOK_rule {kind:Int}{cs:List Int}{v s:Int}(h:ruleB kind cs v s=true):KindOK kind cs.length:=by
 obtain ⟨_,_,h1,h2,h3,h4⟩:=ruleB_parts h
 exact ⟨h1,h2,h3,h4⟩
theorem KindOK.vals {kind:Int}{n:Nat}(h:KindOK kind n){l:List Int}(hl:l.length=n)(hv:∀ x∈l,0≤x∧x≤4):ValsOK kind l:=by
 obtain ⟨h1,h2,h3,h4⟩:=h
 exact ⟨by omega,hv,h2,h3,fun h=>by rw [hl];exact h4 h⟩
theorem foldl_drop {β:Type}(f:β→Int→β)(l:List Int)(j:Nat)(hj:j < l.length)(o:β):(l.drop j).foldl f o=(l.drop (j + 1)).foldl f (f o l[j]):=by
 rw [List.drop_eq_getElem_cons hj,List.foldl_cons]

end Go.Proofs.Ytdemlminhkhonaa.Pure
namespace Go.Proofs.Ytdemlminhkhonaa.Pure
set_option linter.unusedSimpArgs false
set_option linter.unusedVariables false
open Go.RowKit Go.Proofs.YtdemlminhkhonaaW.PrintWords Go.Proofs.YtdemlminhkhonaaW.PrintMore Go.Proofs.Ytdemlminhkhonaa.P


theorem l4Ways_ev {kind v:Int}{cs masks:List Int}(hk:KindOK kind cs.length)(hc:∀ c∈cs,0≤c∧c < (masks.length:Int)):∀ (d:Nat) (pre out:List Int),pre.length + d=cs.length→out.length=cs.length→(∀ x∈pre,0≤x∧x≤4)→Ev (fun k=>spec_l4Ways.f k kind cs v masks pre out) (waysM kind v (cs.map (fun c=>rd masks c)) d pre out)
 | 0,pre,out,hp,ho,hx=>by
  refine Ev.step (fun k=>spec_l4Ways.f.eq_2 _ _ _ _ _ _ k) ?_
  have e:(pre.length:Int)=(cs.length:Int):=by omega
  simp only [e,if_true]
  refine Ev.bind (l4Holds_ev (hk.vals (by omega) hx)) ?_
  unfold waysM
  by_cases hh:holdsB kind v pre=true
  ·simp only [hh,if_true]
   have hn4:=hk.1
   refine Ev.range (L:=fun k (x:List Int) j=>spec_l4Ways.l0 k pre x (cs.length:Int) j) (R:=fun _ _=>orP pre pre.length 0 out) (N:=cs.length) (fun x j=>x.length=cs.length∧orP pre pre.length 0 out=orP pre (cs.length - j) (j:Int) x) ?_ ?_ out 0 (Nat.zero_le _) ⟨ho,by rw [show cs.length - 0=pre.length by omega];rfl⟩
   ·rintro x ⟨hl,he⟩
    refine Ev.step (fun k=>spec_l4Ways.l0.eq_2 _ _ _ _ k) ?_
    simp only [Int.lt_irrefl,if_false]
    rw [he,Nat.sub_self,orP]
    exact Ev.now _
   ·rintro x j hj ⟨hl,he⟩ ih
    refine Ev.step (fun k=>spec_l4Ways.l0.eq_2 _ _ _ _ k) ?_
    have h1:(j:Int) < (cs.length:Int):=by omega
    have h0:(0:Int)≤(j:Int):=by omega
    have h2:(j:Int) < (x.length:Int):=by omega
    have h3:(j:Int) < (pre.length:Int):=by omega
    have h4:0≤rd pre (j:Int):=(hx _ (rd_mem h0 h3)).1
    simp only [h0,h1,h2,h3,h4,if_true,w64n (by omega:j < 9000000000000000000),Int.toNat_natCast]
    refine ih _ ⟨by rw [List.length_set];exact hl,?_⟩
    rw [he,show cs.length - j=(cs.length - (j + 1)) + 1 by omega,orP,Int.toNat_natCast]
    congr 1
  ·simp only [hh,if_false]
   exact Ev.now _
 | d + 1,pre,out,hp,ho,hx=>by
  refine Ev.step (fun k=>spec_l4Ways.f.eq_2 _ _ _ _ _ _ k) ?_
  have e:¬ (pre.length:Int)=(cs.length:Int):=by omega
  have h0:(0:Int)≤(pre.length:Int):=by omega
  have h1:(pre.length:Int) < (cs.length:Int):=by omega
  obtain ⟨c0,c1⟩:=hc _ (rd_mem h0 h1)
  simp only [e,h0,h1,c0,c1,if_true,if_false]
  refine Ev.bind (specMaskValues_ev _) ?_
  have hn4:=hk.1
  unfold waysM
  have em:rd (cs.map (fun c=>rd masks c)) (pre.length:Nat)=rd masks (rd cs (pre.length:Nat)):=by
   rw [rd_lt (by rw [List.length_map];omega),rd_lt (by omega:pre.length < cs.length),List.getElem_map]
  rw [em]
  generalize hL:mvals (rd masks (rd cs (pre.length:Nat)))=L
  have hL4:L.length≤4:=by rw [← hL];exact mvals_len4 _
  have hLr:∀ x∈L,1≤x∧x≤4:=by intro x hx;rw [← hL] at hx;exact mvals_range hx
  have:=Ev.range (L:=fun k (x:List Int) j=>spec_l4Ways.l1 k masks pre x L j kind cs v) (R:=fun x j=>(L.drop j).foldl (fun o x=>waysM kind v (cs.map (fun c=>rd masks c)) d (pre ++ [x]) o) x) (N:=L.length) (fun x j=>x.length=cs.length) ?_ ?_ out 0 (Nat.zero_le _) ho
  ·simpa using this
  ·intro x hl
   refine Ev.step (fun k=>spec_l4Ways.l1.eq_2 _ _ _ _ _ _ _ _ k) ?_
   simp only [Int.lt_irrefl,if_false,List.drop_length,List.foldl_nil]
   exact Ev.now _
  ·intro x j hj hl ih
   refine Ev.step (fun k=>spec_l4Ways.l1.eq_2 _ _ _ _ _ _ _ _ k) ?_
   have g1:(j:Int) < (L.length:Int):=by omega
   have g0:(0:Int)≤(j:Int):=by omega
   have g2:([]:List Int).length + pre.length < 17592186044416:=by simp;omega
   have g3:pre.length + ([rd L (j:Int)]:List Int).length < 17592186044416:=by simp;omega
   simp only [g1,g0,g2,if_true,Option.bind_some,List.nil_append,g3]
   have hr:rd L (j:Int)=L[j]:=rd_lt hj
   have hm:=hLr _ (List.getElem_mem hj)
   refine Ev.bind (l4Ways_ev hk hc d (pre ++ [rd L (j:Int)]) x (by simp;omega) hl (fun y hy=>?_)) ?_
   ·rcases List.mem_append.1 hy with hy|hy
    ·exact hx y hy
    ·simp only [List.mem_singleton] at hy
     rw [hy,hr];omega
   ·rw [foldl_drop _ _ _ hj,w64n (by omega:j < 9000000000000000000)]
    have:=ih (waysM kind v (cs.map (fun c=>rd masks c)) d (pre ++ [rd L (j:Int)]) x) (by rw [waysM_len];exact hl)
    rw [hr] at this ⊢
    exact this
theorem rule_cells {kind:Int}{cs:List Int}{v s:Int}{g:List Int}(h:ruleB kind cs v s=true)(hl:(g.length:Int)=s * s):∀ c∈cs,0≤c∧c < (g.length:Int):=by
 rw [hl];exact cell_mem (ruleB_parts h).2.1
theorem specRuleMasks_ev (kind:Int)(cs:List Int)(v:Int)(masks:List Int)(s:Int)(hl:cs.length≤35184372088832)(hml:masks.length≤35184372088832):Ev (fun k=>spec_RuleMasks.f k kind cs v masks s) (ruleMasks kind cs v masks s):=by
 unfold spec_RuleMasks.f ruleMasks
 refine Ev.bind (specRuleValid_ev kind cs v s hl) ?_
 by_cases hr:ruleB kind cs v s=true
 ·simp only [hr,if_true,true_and]
  refine Ev.bind (specMasksValid_ev masks s hml) ?_
  by_cases hm:masksB masks s=true
  ·have h4:=ruleB_len hr
   have h0:(0:Int)≤(cs.length:Int):=by omega
   have h1:cs.length≤35184372088832:=hl
   simp only [hm,if_true,h0,Int.toNat_natCast,h1]
   refine Ev.bind (l4Ways_ev (kindOK_rule hr) (rule_cells hr (masksB_len hm)) cs.length [] (List.replicate cs.length 0) (by simp) (by simp) (by simp)) ?_
   exact Ev.now _
  ·simp only [hm,if_false]
   exact Ev.now _
 ·simp only [hr,if_false,false_and]
  exact Ev.now _

end Go.Proofs.Ytdemlminhkhonaa.Pure
namespace Go.Proofs.Ytdemlminhkhonaa.Pure
set_option linter.unusedSimpArgs false
set_option linter.unusedVariables false
open Go.RowKit Go.Proofs.YtdemlminhkhonaaW.PrintWords Go.Proofs.YtdemlminhkhonaaW.PrintMore Go.Proofs.Ytdemlminhkhonaa.P


theorem mvals_marks {m:Int}(h:0≤m∧m≤30∧m % 2=0):mvals m=(marks 1 4).filter (fun x=>has m x):=by
 unfold mvals;rw [if_pos h];rfl
theorem orFrom_eq (vals:List Int):∀ (d:Nat) (i:Int) (out:List Int),impl_ruleMasks.orFrom vals d i out=orP vals d i out
 | 0,_,_=>rfl
 | d + 1,i,out=>by unfold impl_ruleMasks.orFrom orP;exact orFrom_eq vals d _ _
theorem tryV_ev {n i:Nat}{m:Int}(hm:0≤m∧m≤30∧m % 2=0)(hi:i < n)(F:Nat→List Int→List Int→Option (List Int × List Int))(G:List Int→List Int→List Int)(hG:∀ p o,(G p o).length=o.length)
  (hF:∀ vals out,vals.length=n→out.length=n→(∀ x∈vals,0≤x∧x≤4)→∃ vals',vals'.length=n∧vals'.take (i + 1)=vals.take (i + 1)∧(∀ x∈vals',0≤x∧x≤4)∧Ev (fun k=>F k vals out) (vals',G (vals.take (i + 1)) out)) :
  ∀ (q:Nat) (x:Int) (vals out:List Int),1≤x→x + (q:Int)≤5→vals.length=n→out.length=n→(∀ y∈vals,0≤y∧y≤4)→∃ vals',vals'.length=n∧vals'.take i=vals.take i∧(∀ y∈vals',0≤y∧y≤4)∧Ev (fun k=>impl_ruleMasks.tryV (F k) m i q x vals out) (vals',((marks x q).filter (fun y=>has m y)).foldl (fun o y=>G (vals.take i ++ [y]) o) out)
 | 0,x,vals,out,_,_,hv,ho,hr=>⟨vals,hv,rfl,hr,by unfold impl_ruleMasks.tryV marks;exact Ev.now _⟩
 | q + 1,x,vals,out,hx,hx5,hv,ho,hr=>by
  have ha:=has_and ⟨hm.1,hm.2.1⟩ (v:=x) (by omega)
  unfold marks
  by_cases hh:has m x=true
  ·have hset:((vals.set i x).take (i + 1))=vals.take i ++ [x]:=take_set_succ (by omega) x
   obtain ⟨v1,a1,a2,a3,a4⟩:=hF (vals.set i x) out (by rw [List.length_set];exact hv) ho (fun y hy=>by
    rcases List.mem_or_eq_of_mem_set hy with hy|rfl
    ·exact hr y hy
    ·omega)
   rw [hset] at a2 a4
   have t1:v1.take i=vals.take i:=by
    have e:=congrArg (List.take i) a2
    rw [List.take_take,Nat.min_eq_left (by omega),List.take_append_of_le_length (by rw [List.length_take];omega),List.take_take,Nat.min_self] at e
    exact e
   obtain ⟨v2,b1,b2,b3,b4⟩:=tryV_ev hm hi F G hG hF q (x + 1) v1 (G (vals.take i ++ [x]) out) (by omega) (by omega) a1 (by rw [hG];exact ho) a3
   refine ⟨v2,b1,by rw [b2,t1],b3,?_⟩
   unfold impl_ruleMasks.tryV
   have hc:Go.bits .and .i64 (shr .i64 m x) 1=1:=by rw [ha,if_pos hh]
   simp only [hc,if_true]
   rw [List.filter_cons_of_pos hh,List.foldl_cons]
   refine Ev.bind a4 ?_
   rw [t1] at b4
   exact b4
  ·obtain ⟨v2,b1,b2,b3,b4⟩:=tryV_ev hm hi F G hG hF q (x + 1) vals out (by omega) (by omega) hv ho hr
   refine ⟨v2,b1,b2,b3,?_⟩
   unfold impl_ruleMasks.tryV
   have hc:¬ Go.bits .and .i64 (shr .i64 m x) 1=1:=by rw [ha,if_neg hh];decide
   simp only [hc,if_false]
   rw [List.filter_cons_of_neg hh]
   exact b4
theorem try_ev {kind v:Int}{cs own:List Int}(hk:KindOK kind own.length)(hown:∀ m∈own,0≤m∧m≤30∧m % 2=0):∀ (d:Nat) (vals out:List Int),d≤own.length→vals.length=own.length→out.length=own.length→(∀ x∈vals,0≤x∧x≤4)→∃ vals',vals'.length=own.length∧vals'.take (own.length - d)=vals.take (own.length - d)∧(∀ x∈vals',0≤x∧x≤4)∧Ev (fun k=>impl_ruleMasks.try_ k kind cs v own d vals out) (vals',waysM kind v own d (vals.take (own.length - d)) out)
 | 0,vals,out,_,hv,ho,hr=>by
  refine ⟨vals,hv,rfl,hr,?_⟩
  unfold impl_ruleMasks.try_ waysM
  refine Ev.bind (valuesHold_ev (hk.vals hv hr)) ?_
  have ht:vals.take (own.length - 0)=vals:=List.take_of_length_le (by omega)
  rw [ht]
  by_cases hh:holdsB kind v vals=true
  ·have hp:∀ x∈vals,0≤x:=fun x hx=>(hr x hx).1
   simp only [hh,if_true]
   rw [if_pos hp,orFrom_eq,hv]
   exact Ev.now _
  ·simp only [hh,if_false]
   exact Ev.now _
 | d + 1,vals,out,hd,hv,ho,hr=>by
  obtain ⟨i,hi⟩:∃ i,own.length - (d + 1)=i:=⟨_,rfl⟩
  have hin:i < own.length:=by omega
  have e1:(own.length:Int) - ((d + 1:Nat):Int)=(i:Int):=by omega
  have hm:=hown (rd own (i:Int)) (rd_mem (by omega) (by omega))
  obtain ⟨v',a1,a2,a3,a4⟩:=tryV_ev hm hin (fun k=>impl_ruleMasks.try_ k kind cs v own d) (fun p o=>waysM kind v own d p o) (fun p o=>waysM_len _ _ _ _ _ _) (fun vs os h1 h2 h3=>by
   obtain ⟨v1,b1,b2,b3,b4⟩:=try_ev hk hown d vs os (by omega) h1 h2 h3
   rw [show own.length - d=i + 1 by omega] at b2 b4
   exact ⟨v1,b1,b2,b3,b4⟩) 4 1 vals out (by decide) (by decide) hv ho hr
  refine ⟨v',a1,by rw [hi];exact a2,a3,?_⟩
  unfold impl_ruleMasks.try_ waysM
  rw [hi,e1,Int.toNat_natCast]
  have hl:(vals.take i).length=i:=by rw [List.length_take];omega
  rw [hl,mvals_marks hm]
  exact a4
theorem implRuleMasks0_ev {kind v:Int}{cs own:List Int}(hk:KindOK kind own.length)(h1:1≤own.length)(hown:∀ m∈own,0≤m∧m≤30∧m % 2=0):Ev (fun k=>impl_ruleMasks.f k kind cs v own) (waysM kind v own own.length [] (List.replicate own.length 0)):=by
 have h4:=hk.1
 obtain ⟨v',_,_,_,a4⟩:=try_ev (cs:=cs) (v:=v) hk hown own.length (List.replicate own.length 0) (List.replicate own.length 0) (Nat.le_refl _) (by simp) (by simp) (fun x hx=>by
  have:=(List.mem_replicate.1 hx).2
  omega)
 unfold impl_ruleMasks.f
 have hc:0 < own.length∧own.length≤100000:=by omega
 simp only [hc,and_self,if_true]
 refine Ev.bind a4 ?_
 rw [Nat.sub_self,List.take_zero]
 exact Ev.now _
theorem allM_30 {s:Int}(h:sizeOkB s=true):allM s≤30∧2≤allM s:=by rcases sizeOkB_iff.1 h with rfl|rfl|rfl <;> decide
theorem implRuleMasks_ev (kind:Int)(cs:List Int)(v:Int)(masks:List Int)(s:Int)(hl:cs.length≤35184372088832)(hml:masks.length≤35184372088832)(hw:∀ x∈masks,x≤9223372036854775807):Ev (fun k=>impl_RuleMasks.f k kind cs v masks s) (ruleMasks kind cs v masks s):=by
 unfold impl_RuleMasks.f ruleMasks
 have hj:Ev (fun k=>impl_RuleMasks.j0 k masks true kind cs v) []:=by
  refine Ev.step (fun k=>impl_RuleMasks.j0.eq_2 _ _ _ _ _ k) ?_
  simp only [if_true];exact Ev.now _
 refine Ev.bind (implRuleValid_ev kind cs v s hl) ?_
 by_cases hr:ruleB kind cs v s=true
 ·simp only [hr,if_true,true_and]
  refine Ev.bind (implMasksValid_ev masks s hml hw) ?_
  by_cases hm:masksB masks s=true
  ·simp only [hm,if_true,Bool.not_true]
   refine Ev.step (fun k=>impl_RuleMasks.j0.eq_2 _ _ _ _ _ k) ?_
   simp only [Bool.false_eq_true,if_false]
   have h4:=ruleB_len hr
   have hcells:=rule_cells hr (masksB_len hm)
   have h30:=allM_30 (masksB_size hm)
   refine Ev.range (L:=fun k (x:List Int) j=>impl_RuleMasks.l0 k masks x cs (cs.length:Int) j kind cs v) (R:=fun _ _=>waysM kind v (cs.map (fun c=>rd masks c)) cs.length [] (List.replicate cs.length 0)) (N:=cs.length) (fun x j=>x=(cs.take j).map (fun c=>rd masks c)) ?_ ?_ [] 0 (Nat.zero_le _) rfl
   ·rintro x rfl
    refine Ev.step (fun k=>impl_RuleMasks.l0.eq_2 _ _ _ _ _ _ _ _ k) ?_
    simp only [Int.lt_irrefl,if_false,List.take_length]
    have hlen:(cs.map (fun c=>rd masks c)).length=cs.length:=List.length_map _
    have:=implRuleMasks0_ev (kind:=kind) (v:=v) (cs:=cs) (own:=cs.map (fun c=>rd masks c)) (by rw [hlen];exact kindOK_rule hr) (by rw [hlen];exact h4.1) (fun m hmm=>by
     obtain ⟨c,hc,rfl⟩:=List.mem_map.1 hmm
     obtain ⟨c0,c1⟩:=hcells c hc
     have:=masksB_mem hm _ (rd_mem c0 c1)
     omega)
    rw [hlen] at this
    refine Ev.bind this ?_
    exact Ev.now _
   ·rintro x j hj rfl ih
    refine Ev.step (fun k=>impl_RuleMasks.l0.eq_2 _ _ _ _ _ _ _ _ k) ?_
    have g1:(j:Int) < (cs.length:Int):=by omega
    have g0:(0:Int)≤(j:Int):=by omega
    obtain ⟨c0,c1⟩:=hcells _ (rd_mem g0 g1)
    have g2:((cs.take j).map (fun c=>rd masks c)).length < 17592186044416:=by rw [List.length_map,List.length_take];omega
    simp only [g0,g1,c0,c1,g2,if_true,w64n (by omega:j < 9000000000000000000)]
    refine ih _ ?_
    rw [List.take_succ_eq_append_getElem hj,List.map_append,List.map_singleton,rd_lt hj]
  ·simp only [hm,if_false,eq_false_of_ne_true hm,Bool.not_false]
   exact hj
 ·simp only [hr,if_false,false_and]
  exact hj

end Go.Proofs.Ytdemlminhkhonaa.Pure
namespace Go.Proofs.Ytdemlminhkhonaa.Pure
set_option linter.unusedSimpArgs false
set_option linter.unusedVariables false
open Go.RowKit Go.Proofs.YtdemlminhkhonaaW.PrintWords Go.Proofs.YtdemlminhkhonaaW.PrintMore Go.Proofs.Ytdemlminhkhonaa.P


def gridMasks (g:List Int)(s:Int):List Int:=g.map (fun x=>if x=0 then allM s else shl .i64 1 x)
def rulePossible (kind:Int)(cs:List Int)(v:Int)(g:List Int)(s:Int):Bool:=ruleB kind cs v s && (gridB g s && (rd (ruleMasks kind cs v (gridMasks g s) s) 0 != 0))
theorem gridMask_ok {s x:Int}(hs:sizeOkB s=true)(h:0≤x∧x≤s):0≤(if x=0 then allM s else shl .i64 1 x)∧(if x=0 then allM s else shl .i64 1 x)≤allM s∧(if x=0 then allM s else shl .i64 1 x) % 2=0:=by
 rcases sizeOkB_iff.1 hs with rfl|rfl|rfl
 ·have:x=0∨x=1∨x=2:=by omega
  rcases this with rfl|rfl|rfl <;> decide +kernel
 ·have:x=0∨x=1∨x=2∨x=3:=by omega
  rcases this with rfl|rfl|rfl|rfl <;> decide +kernel
 ·have:x=0∨x=1∨x=2∨x=3∨x=4:=by omega
  rcases this with rfl|rfl|rfl|rfl|rfl <;> decide +kernel
theorem gridMasks_ok {g:List Int}{s:Int}(h:gridB g s=true):masksB (gridMasks g s) s=true:=by
 refine masksB_mk (gridB_size h) (by unfold gridMasks;rw [List.length_map];exact gridB_len h) (fun v hv=>?_)
 unfold gridMasks at hv
 obtain ⟨x,hx,rfl⟩:=List.mem_map.1 hv
 exact gridMask_ok (gridB_size h) (gridB_mem h x hx)
theorem rd_gridMasks {g:List Int}{s:Int}{c:Int}(h0:0≤c)(h1:c < (g.length:Int)):rd (gridMasks g s) c=if rd g c=0 then allM s else shl .i64 1 (rd g c):=by
 obtain ⟨n,rfl⟩:=Int.eq_ofNat_of_zero_le h0
 unfold gridMasks
 rw [rd_lt (by rw [List.length_map];omega),rd_lt (by omega:n < g.length),List.getElem_map]
theorem shlAll {s:Int}(h:sizeOkB s=true):0≤wrap64 (s + 1)∧wrap64 ((shl .i64 1 (wrap64 (s + 1))) - 2)=allM s:=by
 rcases sizeOkB_iff.1 h with rfl|rfl|rfl <;> decide +kernel
theorem specRulePossible_ev (kind:Int)(cs:List Int)(v:Int)(g:List Int)(s:Int)(hl:cs.length≤35184372088832)(hgl:g.length≤35184372088832):Ev (fun k=>spec_RulePossible.f k kind cs v g s) (rulePossible kind cs v g s):=by
 unfold spec_RulePossible.f rulePossible
 have hj:Ev (fun k=>spec_RulePossible.j0 k g s true kind cs v) false:=by
  refine Ev.step (fun k=>spec_RulePossible.j0.eq_2 _ _ _ _ _ _ k) ?_
  simp only [if_true];exact Ev.now _
 refine Ev.bind (specRuleValid_ev kind cs v s hl) ?_
 by_cases hr:ruleB kind cs v s=true
 ·simp only [hr,if_true,Bool.true_and]
  refine Ev.bind (specGridValid_ev g s hgl) ?_
  by_cases hg:gridB g s=true
  ·simp only [hg,Bool.not_true,Bool.true_and]
   refine Ev.step (fun k=>spec_RulePossible.j0.eq_2 _ _ _ _ _ _ k) ?_
   simp only [Bool.false_eq_true,if_false]
   have hle:=gridB_le hg
   have hml:(gridMasks g s).length=g.length:=by unfold gridMasks;exact List.length_map _
   refine Ev.range (L:=fun k (x:List Int) j=>spec_RulePossible.l0 k g s x j kind cs v) (R:=fun _ _=>rd (ruleMasks kind cs v (gridMasks g s) s) 0 != 0) (N:=g.length) (fun x j=>x=(gridMasks g s).take j) ?_ ?_ [] 0 (Nat.zero_le _) rfl
   ·rintro x rfl
    refine Ev.step (fun k=>spec_RulePossible.l0.eq_2 _ _ _ _ _ _ _ k) ?_
    rw [← hml,List.take_length]
    simp only [hml,Int.lt_irrefl,if_false]
    refine Ev.bind (specRuleMasks_ev kind cs v _ s hl (by omega)) ?_
    have h1:=ruleMasks_lenEq (masks:=gridMasks g s) ⟨hr,gridMasks_ok hg⟩
    have h2:=ruleB_len hr
    have h3:(0:Int) < ((ruleMasks kind cs v (gridMasks g s) s).length:Int):=by omega
    simp only [h3,if_true]
    exact Ev.now _
   ·rintro x j hj rfl ih
    refine Ev.step (fun k=>spec_RulePossible.l0.eq_2 _ _ _ _ _ _ _ k) ?_
    have g1:(j:Int) < (g.length:Int):=by omega
    have g0:(0:Int)≤(j:Int):=by omega
    have hm:=gridB_mem hg _ (rd_mem g0 g1)
    have hxl:((gridMasks g s).take j).length < 17592186044416:=by rw [List.length_take];omega
    have ht:(gridMasks g s).take (j + 1)=(gridMasks g s).take j ++ [rd (gridMasks g s) (j:Int)]:=by
     rw [List.take_succ_eq_append_getElem (by omega),rd_lt (by omega)]
    obtain ⟨w0,w1⟩:=shlAll (gridB_size hg)
    have h0m:=hm.1
    simp only [g0,g1,h0m,if_true,hxl,w0,w1,w64n (by omega:j < 9000000000000000000)]
    by_cases hz:rd g (j:Int)=0
    ·simp only [hz,if_true]
     refine ih _ ?_
     rw [ht,rd_gridMasks g0 g1,if_pos hz]
    ·simp only [hz,if_false]
     refine ih _ ?_
     rw [ht,rd_gridMasks g0 g1,if_neg hz]
  ·simp only [hg,eq_false_of_ne_true hg,Bool.not_false,Bool.false_and]
   exact hj
 ·simp only [hr,if_false,eq_false_of_ne_true hr,Bool.false_and]
  exact hj
theorem canHold_ev {kind:Int}{cs:List Int}{v:Int}{g:List Int}{s:Int}(hr:ruleB kind cs v s=true)(hg:gridB g s=true):Ev (fun k=>impl_canHold.f k kind cs v g s) (rulePossible kind cs v g s):=by
 unfold impl_canHold.f rulePossible
 rw [hr,hg,Bool.true_and,Bool.true_and]
 have h4:=ruleB_len hr
 have hml:(gridMasks g s).length=g.length:=by unfold gridMasks;exact List.length_map _
 have hmo:=gridMasks_ok hg
 have hcells:=rule_cells hr (gridB_len hg)
 have h30:=allM_30 (gridB_size hg)
 refine Ev.range (L:=fun k (x:List Int) j=>impl_canHold.l0 k g s x cs (cs.length:Int) j kind cs v) (R:=fun _ _=>rd (ruleMasks kind cs v (gridMasks g s) s) 0 != 0) (N:=cs.length) (fun x j=>x=(cs.take j).map (fun c=>rd (gridMasks g s) c)) ?_ ?_ [] 0 (Nat.zero_le _) rfl
 ·rintro x rfl
  refine Ev.step (fun k=>impl_canHold.l0.eq_2 _ _ _ _ _ _ _ _ _ k) ?_
  simp only [Int.lt_irrefl,if_false,List.take_length]
  have hlen:(cs.map (fun c=>rd (gridMasks g s) c)).length=cs.length:=List.length_map _
  have:=implRuleMasks0_ev (kind:=kind) (v:=v) (cs:=cs) (own:=cs.map (fun c=>rd (gridMasks g s) c)) (by rw [hlen];exact kindOK_rule hr) (by rw [hlen];exact h4.1) (fun m hmm=>by
   obtain ⟨c,hc,rfl⟩:=List.mem_map.1 hmm
   obtain ⟨c0,c1⟩:=hcells c hc
   have:=masksB_mem hmo _ (rd_mem c0 (by omega:c < ((gridMasks g s).length:Int)))
   omega)
  rw [hlen] at this
  refine Ev.bind this ?_
  have e:waysM kind v (cs.map (fun c=>rd (gridMasks g s) c)) cs.length [] (List.replicate cs.length 0)=ruleMasks kind cs v (gridMasks g s) s:=by
   unfold ruleMasks;rw [if_pos ⟨hr,hmo⟩]
  rw [e]
  have h1:=ruleMasks_lenEq (masks:=gridMasks g s) ⟨hr,hmo⟩
  have h3:(0:Int) < ((ruleMasks kind cs v (gridMasks g s) s).length:Int):=by omega
  simp only [h3,if_true]
  exact Ev.now _
 ·rintro x j hj rfl ih
  refine Ev.step (fun k=>impl_canHold.l0.eq_2 _ _ _ _ _ _ _ _ _ k) ?_
  have g1:(j:Int) < (cs.length:Int):=by omega
  have g0:(0:Int)≤(j:Int):=by omega
  obtain ⟨c0,c1⟩:=hcells _ (rd_mem g0 g1)
  have hm:=gridB_mem hg _ (rd_mem c0 c1)
  have g2:((cs.take j).map (fun c=>rd (gridMasks g s) c)).length < 17592186044416:=by rw [List.length_map,List.length_take];omega
  have ht:(cs.take (j + 1)).map (fun c=>rd (gridMasks g s) c)=(cs.take j).map (fun c=>rd (gridMasks g s) c) ++ [rd (gridMasks g s) (rd cs (j:Int))]:=by
   rw [List.take_succ_eq_append_getElem hj,List.map_append,List.map_singleton,rd_lt hj]
  have h0m:=hm.1
  simp only [g0,g1,c0,c1,h0m,g2,if_true,w64n (by omega:j < 9000000000000000000),allValues_eq (gridB_size hg),Option.bind_some]
  by_cases hz:rd g (rd cs (j:Int)) > 0
  ·simp only [hz,if_true]
   refine ih _ ?_
   rw [ht,rd_gridMasks c0 c1,if_neg (by omega)]
  ·simp only [hz,if_false]
   refine ih _ ?_
   rw [ht,rd_gridMasks c0 c1,if_pos (by omega)]

end Go.Proofs.Ytdemlminhkhonaa.Pure
namespace Go.Proofs.Ytdemlminhkhonaa.Pure
set_option linter.unusedSimpArgs false
set_option linter.unusedVariables false
open Go.RowKit Go.Proofs.YtdemlminhkhonaaW.PrintWords Go.Proofs.YtdemlminhkhonaaW.PrintMore Go.Proofs.Ytdemlminhkhonaa.P


theorem specLineCells_ev (s l:Int):Ev (fun k=>spec_LineCells.f k s l) (lineC s l):=by
 by_cases h:lineOkB s l=true
 ·rcases lineOkB_cases h with ⟨rfl,hc⟩ | ⟨rfl,hc⟩ | ⟨rfl,hc⟩
  ·rcases hc with rfl|rfl|rfl|rfl <;> exact Ev.of (spec_LineCells.mono _ _) (k:=20) (by decide +kernel)
  ·rcases hc with rfl|rfl|rfl|rfl|rfl|rfl <;> exact Ev.of (spec_LineCells.mono _ _) (k:=20) (by decide +kernel)
  ·rcases hc with rfl|rfl|rfl|rfl|rfl|rfl|rfl|rfl <;> exact Ev.of (spec_LineCells.mono _ _) (k:=20) (by decide +kernel)
 ·have e:lineC s l=[]:=by unfold lineC;rw [if_neg h]
  rw [e]
  unfold spec_LineCells.f
  have hj:Ev (fun k=>spec_LineCells.j1 k s l [] 0 false) ([]:List Int):=by
   refine Ev.step (fun k=>spec_LineCells.j1.eq_2 _ _ _ _ _ k) ?_
   simp only [Bool.false_eq_true,if_false]
   exact Ev.now _
  refine Ev.step (fun k=>spec_LineCells.l0.eq_2 _ _ _ _ k) ?_
  by_cases h0:0 < s
  ·simp only [h0,if_true,l1In_eq,Option.bind_some]
   by_cases hs:2≤s∧s≤4
   ·have hw:wrap64 (wrap64 (2 * s) - 1)=2 * s - 1:=by rw [w64 (x:=2 * s) (by omega) (by omega),w64 (by omega) (by omega)]
    have hn:¬ (0≤l∧l≤2 * s - 1):=by
     intro hl;apply h;unfold lineOkB sizeOkB;simp only [Bool.and_eq_true,decide_eq_true_eq];exact ⟨hs,hl.1,by omega⟩
    simp only [decide_eq_true hs,if_true,hw,decide_eq_false hn]
    exact hj
   ·simp only [decide_eq_false hs,Bool.false_eq_true,if_false]
    exact hj
  ·simp only [h0,if_false]
   exact hj
theorem implLineCells_ev (s l:Int):Ev (fun k=>impl_LineCells.f k s l) (lineC s l):=by
 by_cases h:lineOkB s l=true
 ·rcases lineOkB_cases h with ⟨rfl,hc⟩ | ⟨rfl,hc⟩ | ⟨rfl,hc⟩
  ·rcases hc with rfl|rfl|rfl|rfl <;> exact Ev.of (impl_LineCells.mono _ _) (k:=20) (by decide +kernel)
  ·rcases hc with rfl|rfl|rfl|rfl|rfl|rfl <;> exact Ev.of (impl_LineCells.mono _ _) (k:=20) (by decide +kernel)
  ·rcases hc with rfl|rfl|rfl|rfl|rfl|rfl|rfl|rfl <;> exact Ev.of (impl_LineCells.mono _ _) (k:=20) (by decide +kernel)
 ·have e:lineC s l=[]:=by unfold lineC;rw [if_neg h]
  rw [e]
  unfold impl_LineCells.f
  simp only [sizeOk_eq,Option.bind_some]
  have hj:Ev (fun k=>impl_LineCells.j0 k s l true) ([]:List Int):=by
   refine Ev.step (fun k=>impl_LineCells.j0.eq_2 _ _ _ k) ?_
   simp only [if_true]
   exact Ev.now _
  by_cases hs:sizeOkB s=true
  ·simp only [hs,if_true]
   by_cases h0:l < 0
   ·simp only [h0,if_true];exact hj
   ·have hs2:2≤s∧s≤4:=by simpa [sizeOkB] using hs
    have hw:wrap64 (2 * s)=2 * s:=w64 (by omega) (by omega)
    have hl:l ≥ 2 * s:=by
     apply Decidable.byContradiction
     intro hl;apply h;unfold lineOkB;rw [hs];simp only [Bool.true_and,decide_eq_true_eq];omega
    simp only [h0,if_false,hw,decide_eq_true hl];exact hj
  ·simp only [hs,if_false,Bool.false_eq_true];exact hj

end Go.Proofs.Ytdemlminhkhonaa.Pure
namespace Go.Proofs.Ytdemlminhkhonaa.Pure
set_option linter.unusedSimpArgs false
set_option linter.unusedVariables false
open Go.RowKit Go.Proofs.YtdemlminhkhonaaW.PrintWords Go.Proofs.YtdemlminhkhonaaW.PrintMore Go.Proofs.Ytdemlminhkhonaa.P


def SeenA (x:List Bool)(seen:List Int):Prop:=x.length=5∧∀ u:Int,0≤u→u≤4→(rdOf false x u=true↔u∈seen)
theorem SeenA.start:SeenA [false,false,false,false,false] []:=by
 refine ⟨rfl,fun u h0 h1=>?_⟩
 have:u=0∨u=1∨u=2∨u=3∨u=4:=by omega
 rcases this with rfl|rfl|rfl|rfl|rfl <;> decide
theorem SeenA.step {x:List Bool}{v:Int}{seen:List Int}(h:SeenA x seen)(hv:0≤v∧v≤4):SeenA (x.set v.toNat true) (v :: seen):=by
 obtain ⟨hl,h2⟩:=h
 refine ⟨by rw [List.length_set];exact hl,fun u h0 h1=>?_⟩
 have e:rdOf false (x.set v.toNat true) u=(decide (u=v) || rdOf false x u):=by
  unfold rdOf
  rw [List.getD_eq_getElem?_getD,List.getD_eq_getElem?_getD,List.getElem?_set]
  by_cases hu:v.toNat=u.toNat
  ·have:u=v:=by omega
   rw [if_pos hu,if_pos (by omega),decide_eq_true this];rfl
  ·have:¬ u=v:=by omega
   rw [if_neg hu,decide_eq_false this];rfl
 rw [e,List.mem_cons,Bool.or_eq_true,h2 u h0 h1,decide_eq_true_iff]
theorem implSquareFits_ev (g:List Int)(s:Int)(h:g.length≤35184372088832):Ev (fun k=>impl_SquareFits.f k g s) (squareFits g s):=by
 unfold impl_SquareFits.f squareFits
 refine Ev.bind (implGridValid_ev g s h) ?_
 by_cases hg:gridB g s=true
 ·simp only [hg,if_true,Bool.true_and]
  obtain ⟨hsn,hs2,hs4⟩:=size_nat (gridB_size hg)
  have hw:wrap64 (2 * s)=((2 * s.toNat:Nat):Int):=by unfold wrap64;omega
  have hlen:=gridB_len hg
  refine Ev.range0 (L:=fun k i=>impl_SquareFits.l0 k g s i) (R:=fun n=> !linesClash g s n (2 * s.toNat - n)) (N:=2 * s.toNat) ?_ ?_ 0 (Nat.zero_le _)
  ·refine Ev.step (fun k=>impl_SquareFits.l0.eq_2 _ _ _ k) ?_
   simp only [hw,Int.lt_irrefl,if_false,Nat.sub_self,linesClash]
   exact Ev.now _
  ·intro n hn ih
   refine Ev.step (fun k=>impl_SquareFits.l0.eq_2 _ _ _ k) ?_
   have h1:(n:Int) < ((2 * s.toNat:Nat):Int):=by omega
   simp only [hw,h1,if_true]
   refine Ev.bind (implLineCells_ev s n) ?_
   have e:2 * s.toNat - n=(2 * s.toNat - (n + 1)) + 1:=by omega
   rw [e,linesClash]
   have hb:=lineC_len s n
   have:=Ev.range (L:=fun k (x:List Bool) i=>impl_SquareFits.l1 k g s n (lineC s n) x i) (R:=fun _ _=> !(clashL g (lineC s n) [] || linesClash g s (n + 1) (2 * s.toNat - (n + 1)))) (N:=(lineC s n).length)
    (fun x j=>∃ seen,SeenA x seen∧clashL g (lineC s n) []=clashL g ((lineC s n).drop j) seen) ?_ ?_ [false,false,false,false,false] 0 (Nat.zero_le _) ⟨[],SeenA.start,by simp⟩
   ·simpa using this
   ·rintro x ⟨seen,hx,he⟩
    refine Ev.step (fun k=>impl_SquareFits.l1.eq_2 _ _ _ _ _ _ k) ?_
    have e2:clashL g (lineC s n) []=false:=by rw [he,List.drop_length];rfl
    simp only [Int.lt_irrefl,if_false,e2,Bool.false_or,w64n (by omega:n < 9000000000000000000)]
    exact ih
   ·rintro x j hj ⟨seen,hx,he⟩ ihj
    refine Ev.step (fun k=>impl_SquareFits.l1.eq_2 _ _ _ _ _ _ k) ?_
    have hc:=lineC_mem (lineC s n)[j] (List.getElem_mem hj)
    have h2:(j:Int) < ((lineC s n).length:Int):=by omega
    have h3:(0:Int)≤j:=by omega
    have h5:(lineC s n)[j] < (g.length:Int):=by rw [hlen];exact hc.2
    have hv:=val_le hg (rd_mem hc.1 h5)
    have h6:rd g (lineC s n)[j] < (x.length:Int):=by rw [hx.1];omega
    rw [drop_cons hj,clashL] at he
    simp only [h2,h3,if_true,rd_lt hj,hc.1,h5,h6,hv.1,w64n (by omega:j < 9000000000000000000)]
    have hstep:¬ (0 < rd g (lineC s n)[j]∧rd g (lineC s n)[j]∈seen)→Ev (fun k=>impl_SquareFits.l1 k g s n (lineC s n) (x.set (rd g (lineC s n)[j]).toNat true) ((j + 1:Nat):Int)) (!(clashL g (lineC s n) [] || linesClash g s (n + 1) (2 * s.toNat - (n + 1)))):=by
     intro hn
     rw [if_neg hn] at he
     exact ihj _ ⟨_,hx.step hv,he⟩
    by_cases hp:0 < rd g (lineC s n)[j]
    ·have hp':rd g (lineC s n)[j] > 0:=hp
     simp only [hp',if_true]
     by_cases ht:rdOf false x (rd g (lineC s n)[j])=true
     ·simp only [ht,if_true]
      rw [if_pos ⟨hp,(hx.2 _ hv.1 hv.2).1 ht⟩] at he
      rw [he];exact Ev.now _
     ·simp only [ht,if_false]
      exact hstep (fun h=>ht ((hx.2 _ hv.1 hv.2).2 h.2))
    ·have hp':¬ rd g (lineC s n)[j] > 0:=hp
     simp only [hp',if_false]
     exact hstep (fun h=>hp h.1)
 ·simp only [hg,if_false,eq_false_of_ne_true hg,Bool.false_and,Bool.false_eq_true]
  exact Ev.now _

end Go.Proofs.Ytdemlminhkhonaa.Pure
namespace Go.Proofs.Ytdemlminhkhonaa.Pure
set_option linter.unusedSimpArgs false
set_option linter.unusedVariables false
open Go.RowKit Go.Proofs.YtdemlminhkhonaaW.PrintWords Go.Proofs.YtdemlminhkhonaaW.PrintMore Go.Proofs.Ytdemlminhkhonaa.P


theorem orbit_fin:∀ m:Fin 32,∀ v:Fin 5,(0≤Go.bits .or .i64 (m.val:Int) (shl .i64 1 (v.val:Int))∧Go.bits .or .i64 (m.val:Int) (shl .i64 1 (v.val:Int))≤31)∧∀ u:Fin 5,has (Go.bits .or .i64 (m.val:Int) (shl .i64 1 (v.val:Int))) (u.val:Int)=(decide (u=v) || has (m.val:Int) (u.val:Int)):=by decide +kernel
theorem tmod31_fin:∀ m:Fin 32,∀ v:Fin 5,Int.tmod (shr .i64 (m.val:Int) (v.val:Int)) 2=(if has (m.val:Int) (v.val:Int)=true then 1 else 0):=by decide +kernel
def Seen (m:Int)(seen:List Int):Prop:=0≤m∧m≤31∧∀ u:Int,0≤u→u≤4→(has m u=true↔u∈seen)
theorem Seen.start:Seen 0 []:=⟨by decide,by decide,fun u h0 h1=>by
 have:has 0 u=false:=by unfold has;simp
 simp [this]⟩
theorem Seen.step {m v:Int}{seen:List Int}(h:Seen m seen)(hv:0≤v∧v≤4):Seen (Go.bits .or .i64 m (shl .i64 1 v)) (v :: seen):=by
 obtain ⟨h0,h1,h2⟩:=h
 have hf:=orbit_fin ⟨m.toNat,by omega⟩ ⟨v.toNat,by omega⟩
 simp only [show ((m.toNat:Nat):Int)=m by omega,show ((v.toNat:Nat):Int)=v by omega] at hf
 refine ⟨hf.1.1,hf.1.2,fun u hu0 hu1=>?_⟩
 have hg:=hf.2 ⟨u.toNat,by omega⟩
 simp only [show ((u.toNat:Nat):Int)=u by omega,Fin.mk.injEq] at hg
 rw [hg,List.mem_cons,Bool.or_eq_true,h2 u hu0 hu1,decide_eq_true_iff]
 constructor
 ·rintro (h|h)
  ·exact .inl (by omega)
  ·exact .inr h
 ·rintro (h|h)
  ·exact .inl (by omega)
  ·exact .inr h
theorem Seen.tmod {m v:Int}{seen:List Int}(h:Seen m seen)(hv:0≤v∧v≤4):(Int.tmod (shr .i64 m v) 2=1)↔v∈seen:=by
 obtain ⟨h0,h1,h2⟩:=h
 have hf:=tmod31_fin ⟨m.toNat,by omega⟩ ⟨v.toNat,by omega⟩
 simp only [show ((m.toNat:Nat):Int)=m by omega,show ((v.toNat:Nat):Int)=v by omega] at hf
 rw [hf,← h2 v hv.1 hv.2]
 by_cases hh:has m v=true <;> simp [hh]
theorem l2Clash_ev {g:List Int}{s:Int}(hg:gridB g s=true):Ev (fun k=>spec_l2Clash.f k g s) (linesClash g s 0 (2 * s.toNat)):=by
 unfold spec_l2Clash.f
 obtain ⟨hsn,hs2,hs4⟩:=size_nat (gridB_size hg)
 have hw:wrap64 (2 * s)=((2 * s.toNat:Nat):Int):=by unfold wrap64;omega
 have hlen:=gridB_len hg
 refine Ev.range0 (L:=fun k i=>spec_l2Clash.l0 k g s i) (R:=fun n=>linesClash g s n (2 * s.toNat - n)) (N:=2 * s.toNat) ?_ ?_ 0 (Nat.zero_le _)
 ·refine Ev.step (fun k=>spec_l2Clash.l0.eq_2 _ _ _ k) ?_
  simp only [hw,Int.lt_irrefl,if_false,Nat.sub_self,linesClash]
  exact Ev.now _
 ·intro n hn ih
  refine Ev.step (fun k=>spec_l2Clash.l0.eq_2 _ _ _ k) ?_
  have h1:(n:Int) < ((2 * s.toNat:Nat):Int):=by omega
  simp only [hw,h1,if_true]
  refine Ev.bind (specLineCells_ev s n) ?_
  have e:2 * s.toNat - n=(2 * s.toNat - (n + 1)) + 1:=by omega
  rw [e,linesClash]
  have hb:=lineC_len s n
  have:=Ev.range (L:=fun k (x:Int) i=>spec_l2Clash.l1 k g s n (lineC s n) x i) (R:=fun _ _=>clashL g (lineC s n) [] || linesClash g s (n + 1) (2 * s.toNat - (n + 1))) (N:=(lineC s n).length)
   (fun x j=>∃ seen,Seen x seen∧clashL g (lineC s n) []=clashL g ((lineC s n).drop j) seen) ?_ ?_ 0 0 (Nat.zero_le _) ⟨[],Seen.start,by simp⟩
  ·simpa using this
  ·rintro x ⟨seen,hx,he⟩
   refine Ev.step (fun k=>spec_l2Clash.l1.eq_2 _ _ _ _ _ _ k) ?_
   have e2:clashL g (lineC s n) []=false:=by rw [he,List.drop_length];rfl
   simp only [Int.lt_irrefl,if_false,e2,Bool.false_or,w64n (by omega:n < 9000000000000000000)]
   exact ih
  ·rintro x j hj ⟨seen,hx,he⟩ ihj
   refine Ev.step (fun k=>spec_l2Clash.l1.eq_2 _ _ _ _ _ _ k) ?_
   have hc:=lineC_mem (lineC s n)[j] (List.getElem_mem hj)
   have h2:(j:Int) < ((lineC s n).length:Int):=by omega
   have h3:(0:Int)≤j:=by omega
   have h5:(lineC s n)[j] < (g.length:Int):=by rw [hlen];exact hc.2
   have hv:=val_le hg (rd_mem hc.1 h5)
   rw [drop_cons hj,clashL] at he
   simp only [h2,h3,if_true,rd_lt hj,hc.1,h5,hv.1,w64n (by omega:j < 9000000000000000000)]
   have hstep:¬ (0 < rd g (lineC s n)[j]∧rd g (lineC s n)[j]∈seen)→Ev (fun k=>spec_l2Clash.l1 k g s n (lineC s n) (Go.bits .or .i64 x (shl .i64 1 (rd g (lineC s n)[j]))) ((j + 1:Nat):Int)) (clashL g (lineC s n) [] || linesClash g s (n + 1) (2 * s.toNat - (n + 1))):=by
    intro hn
    rw [if_neg hn] at he
    exact ihj _ ⟨_,hx.step hv,he⟩
   by_cases hp:0 < rd g (lineC s n)[j]
   ·have hp':rd g (lineC s n)[j] > 0:=hp
    simp only [hp',if_true]
    by_cases ht:Int.tmod (shr .i64 x (rd g (lineC s n)[j])) 2=1
    ·simp only [ht,if_true]
     rw [if_pos ⟨hp,(hx.tmod hv).1 ht⟩] at he
     rw [he];exact Ev.now _
    ·simp only [ht,if_false]
     exact hstep (fun h=>ht ((hx.tmod hv).2 h.2))
   ·have hp':¬ rd g (lineC s n)[j] > 0:=hp
    simp only [hp',if_false]
    exact hstep (fun h=>hp h.1)

end Go.Proofs.Ytdemlminhkhonaa.Pure
namespace Go.Proofs.Ytdemlminhkhonaa.Pure
set_option linter.unusedSimpArgs false
set_option linter.unusedVariables false
open Go.RowKit Go.Proofs.YtdemlminhkhonaaW.PrintWords Go.Proofs.YtdemlminhkhonaaW.PrintMore Go.Proofs.Ytdemlminhkhonaa.P


theorem eqIntS_ev (a b:List Int)(h:a.length < 9000000000000000000):Ev (fun k=>laws_eqIntS.f k a b) (decide (a=b)):=by
 unfold laws_eqIntS.f
 by_cases hl:a.length=b.length
 ·simp only [hl,if_true]
  have:=Ev.range0 (L:=fun k i=>laws_eqIntS.l0 k a b i) (R:=fun n=>decide (a.drop n=b.drop n)) (N:=a.length) ?_ ?_ 0 (Nat.zero_le _)
  ·simpa using this
  ·refine Ev.step (fun k=>laws_eqIntS.l0.eq_2 _ _ _ k) ?_
   have e1:a.drop a.length=[]:=List.drop_length
   have e2:b.drop a.length=[]:=by rw [hl];exact List.drop_length
   simp [e1,e2,Ev.now]
  ·intro n hn ih
   refine Ev.step (fun k=>laws_eqIntS.l0.eq_2 _ _ _ k) ?_
   have h1:(n:Int) < (a.length:Int):=by omega
   have h2:(n:Int) < (b.length:Int):=by omega
   have h3:(0:Int)≤n:=by omega
   rw [drop_cons hn,drop_cons (by omega:n < b.length)]
   simp only [h1,h2,h3,if_true,rd_lt hn,rd_lt (by omega:n < b.length)]
   by_cases he:a[n]=b[n]
   ·simp only [he,if_true,w64n (by omega:n < 9000000000000000000),List.cons.injEq,true_and]
    exact ih
   ·simp only [he,if_false,List.cons.injEq,false_and,decide_false]
    exact Ev.now _
 ·have:¬ ((a.length:Int)=(b.length:Int)):=by omega
  have hne:¬ a=b:=fun e=>hl (by rw [e])
  simp only [this,if_false,hne,decide_false]
  exact Ev.now _
theorem toIntS_ev (a:List Int)(h:a.length≤35184372088832):Ev (fun k=>laws_toIntS.f k a) a:=by
 unfold laws_toIntS.f
 have h0:(0:Int)≤(a.length:Int):=by omega
 have h1:((a.length:Int):Int).toNat≤35184372088832:=by simpa using h
 simp only [h0,h1,if_true]
 have:=Ev.range (L:=fun k (x:List Int) i=>laws_toIntS.l0 k a x i) (R:=fun _ _=>a) (N:=a.length) (fun x n=>x.length=a.length∧x.take n=a.take n) ?_ ?_ (List.replicate ((a.length:Int)).toNat 0) 0 (Nat.zero_le _) (by simp)
 ·simpa using this
 ·rintro x ⟨hl,he⟩
  refine Ev.step (fun k=>laws_toIntS.l0.eq_2 _ _ _ k) ?_
  have e:x=a:=by rw [← hl,List.take_length,hl,List.take_length] at he;exact he
  simp only [Int.lt_irrefl,if_false,e]
  exact Ev.now _
 ·rintro x n hn ⟨hl,he⟩ ih
  refine Ev.step (fun k=>laws_toIntS.l0.eq_2 _ _ _ k) ?_
  have h1:(n:Int) < (a.length:Int):=by omega
  have h2:(n:Int) < (x.length:Int):=by omega
  have h3:(0:Int)≤n:=by omega
  simp only [h1,h2,h3,if_true,rd_lt hn,Int.toNat_natCast,w64n (by omega:n < 9000000000000000000)]
  refine ih _ ⟨by simp [hl],?_⟩
  rw [take_set_succ (by omega:n < x.length),he,List.take_succ_eq_append_getElem hn]

end Go.Proofs.Ytdemlminhkhonaa.Pure
namespace Go.Proofs.Ytdemlminhkhonaa.Pure
set_option linter.unusedSimpArgs false
set_option linter.unusedVariables false
open Go.RowKit Go.Proofs.YtdemlminhkhonaaW.PrintWords Go.Proofs.YtdemlminhkhonaaW.PrintMore Go.Proofs.Ytdemlminhkhonaa.P

theorem toRule_ev (a:Int)(l:List Int)(c:Int)(h:l.length≤35184372088832):Ev (fun k=>laws_toRule.f k a l c) (a,l,c):=by
 unfold laws_toRule.f
 refine Ev.bind (toIntS_ev l h) ?_
 exact Ev.now _
theorem eqRule_ev (a:Int)(l:List Int)(c:Int)(h:l.length≤35184372088832):Ev (fun k=>laws_eqRule.f k a l c a l c) true:=by
 unfold laws_eqRule.f
 simp only [if_true]
 refine Ev.bind (eqIntS_ev l l (by omega)) ?_
 simp only [decide_true,if_true]
 exact Ev.now _

end Go.Proofs.Ytdemlminhkhonaa.Pure
namespace Go.Proofs.Ytdemlminhkhonaa.Pure
set_option linter.unusedSimpArgs false
set_option linter.unusedVariables false
open Go.RowKit Go.Proofs.YtdemlminhkhonaaW.PrintWords Go.Proofs.YtdemlminhkhonaaW.PrintMore Go.Proofs.Ytdemlminhkhonaa.P


def FilledG {α:Type}(r x:List α)(n:Nat):Prop:=x.length=r.length∧x.take n=r.take n
theorem FilledG.fin {α:Type}{r x:List α}(h:FilledG r x r.length):x=r:=by
 obtain ⟨h1,h2⟩:=h
 rw [List.take_length,← h1,List.take_length] at h2
 exact h2
theorem FilledG.set {α:Type}{r x:List α}{n:Nat}(h:FilledG r x n)(hn:n < r.length){v:α}(hv:v=r[n]):FilledG r (x.set n v) (n + 1):=by
 refine ⟨by rw [List.length_set];exact h.1,?_⟩
 have hx:n < x.length:=by have:=h.1;omega
 rw [List.take_succ_eq_append_getElem (by simpa using hx),List.take_succ_eq_append_getElem hn,List.take_set_of_le (Nat.le_refl n),h.2,List.getElem_set_self,hv]
theorem szRule_b (a:Int)(l:List Int)(c b:Int)(hb:0≤b∧b≤1048576)(h:l.length≤9223372036854775807):laws_szRule.f a l c b=some (if (l.length:Int)≤b then b - (l.length:Int) else -1):=by
 unfold laws_szRule.f laws_szIntS.f
 have hw:wrap64 (b - (l.length:Int))=b - (l.length:Int):=by unfold wrap64;omega
 rw [hw]
 by_cases hl:(l.length:Int)≤b
 ·have h1:¬ b - (l.length:Int) < 0:=by omega
  simp only [hl,h1,if_true,if_false,Option.bind_some]
 ·have h1:b - (l.length:Int) < 0:=by omega
  have h2:(-1:Int) < 0:=by decide
  simp only [hl,h1,h2,if_true,if_false,Option.bind_some]
theorem rdL (xs:List S65){n:Nat}(h:n < xs.length):rd_T65 xs (n:Int)=xs[n]:=by simp [rd_T65,h]
theorem rdI (xs:List S67){n:Nat}(h:n < xs.length):rd_T67 xs (n:Int)=xs[n]:=by simp [rd_T67,h]
def convR (x:S65):S67:=⟨x.f0,x.f1,x.f2⟩
theorem szRuleS_ev (rs:List S65)(b:Int)(hb:0≤b∧b≤1048576)(hl:rs.length≤9223372036854775807)(hr:∀ x∈rs,x.f1.length≤9223372036854775807) :
  ∃ r,Ev (fun k=>laws_szRuleS.f k rs b) r∧(0≤r→rs.length≤1048576∧∀ x∈rs,x.f1.length≤1048576):=by
 unfold laws_szRuleS.f
 have hw:wrap64 (b - (rs.length:Int))=b - (rs.length:Int):=by unfold wrap64;omega
 rw [hw]
 by_cases hn:b - (rs.length:Int) < 0
 ·refine ⟨-1,?_,fun h=>absurd h (by decide)⟩
  simp only [hn,if_true]
  exact Ev.now _
 ·simp only [hn,if_false]
  have hloop:∀ d n (b:Int),n + d=rs.length→0≤b∧b≤1048576→(∀ x∈rs.take n,x.f1.length≤1048576)→∃ r,Ev (fun k=>laws_szRuleS.l0 k rs b (n:Int)) r∧(0≤r→∀ x∈rs,x.f1.length≤1048576):=by
   intro d
   induction d with
   | zero =>
    intro n b hnd hb' ht
    refine ⟨b,?_,fun _=>?_⟩
    ·refine Ev.step (fun k=>laws_szRuleS.l0.eq_2 _ _ _ k) ?_
     have h1:¬ (n:Int) < (rs.length:Int):=by omega
     simp only [h1,if_false]
     exact Ev.now _
    ·rw [List.take_of_length_le (by omega)] at ht
     exact ht
   | succ d ih =>
    intro n b hnd hb' ht
    have h1:(n:Int) < (rs.length:Int):=by omega
    have h0:(0:Int)≤(n:Int):=Int.natCast_nonneg n
    have hx:=hr rs[n] (List.getElem_mem (by omega))
    by_cases hle:(rs[n].f1.length:Int)≤b
    ·obtain ⟨r,he,hr'⟩:=ih (n + 1) (b - (rs[n].f1.length:Int)) (by omega) (by omega) (by
      intro x hx'
      rw [List.take_succ_eq_append_getElem (by omega:n < rs.length),List.mem_append,List.mem_singleton] at hx'
      rcases hx' with hx' | rfl
      ·exact ht x hx'
      ·omega)
     refine ⟨r,?_,hr'⟩
     refine Ev.step (fun k=>laws_szRuleS.l0.eq_2 _ _ _ k) ?_
     have h2:¬ b - (rs[n].f1.length:Int) < 0:=by omega
     simp only [h1,h0,if_true,rdL rs (by omega:n < rs.length),szRule_b _ _ _ b hb' hx,hle,Option.bind_some,h2,if_false,w64n (by omega:n < 9000000000000000000)]
     exact he
    ·refine ⟨-1,?_,fun h=>absurd h (by decide)⟩
     refine Ev.step (fun k=>laws_szRuleS.l0.eq_2 _ _ _ k) ?_
     have h2:(-1:Int) < 0:=by decide
     simp only [h1,h0,if_true,rdL rs (by omega:n < rs.length),szRule_b _ _ _ b hb' hx,hle,if_false,Option.bind_some,h2]
     exact Ev.now _
  obtain ⟨r,he,hr'⟩:=hloop rs.length 0 (b - (rs.length:Int)) (by omega) (by omega) (by simp)
  exact ⟨r,he,fun h=>⟨by omega,hr' h⟩⟩
theorem szPuzzle_ev (s:Int)(g:List Int)(rs:List S65)(hg:g.length≤9223372036854775807)(hl:rs.length≤9223372036854775807)(hr:∀ x∈rs,x.f1.length≤9223372036854775807) :
  ∃ r,Ev (fun k=>laws_szPuzzle.f k s g rs 1048576) r∧(0≤r→g.length≤1048576∧rs.length≤1048576∧∀ x∈rs,x.f1.length≤1048576):=by
 unfold laws_szPuzzle.f laws_szIntS.f
 have hw:wrap64 (1048576 - (g.length:Int))=1048576 - (g.length:Int):=by unfold wrap64;omega
 rw [hw]
 have h2:(-1:Int) < 0:=by decide
 by_cases hn:1048576 - (g.length:Int) < 0
 ·refine ⟨-1,?_,fun h=>absurd h (by decide)⟩
  simp only [hn,h2,if_true,Option.bind_some]
  exact Ev.now _
 ·obtain ⟨r,he,hr'⟩:=szRuleS_ev rs (1048576 - (g.length:Int)) (by omega) hl hr
  by_cases hr0:r < 0
  ·refine ⟨-1,?_,fun h=>absurd h (by decide)⟩
   simp only [hn,if_false,Option.bind_some]
   refine Ev.bind he ?_
   simp only [hr0,if_true]
   exact Ev.now _
  ·refine ⟨r,?_,fun h=>⟨by omega,hr' h⟩⟩
   simp only [hn,if_false,Option.bind_some]
   refine Ev.bind he ?_
   simp only [hr0,if_false]
   exact Ev.now _
theorem toRuleS_ev (rs:List S65)(hl:rs.length≤1048576)(hr:∀ x∈rs,x.f1.length≤1048576):Ev (fun k=>laws_toRuleS.f k rs) (rs.map convR):=by
 unfold laws_toRuleS.f
 have h0:(0:Int)≤(rs.length:Int):=Int.natCast_nonneg _
 have h1:rs.length≤7036874417766:=by omega
 simp only [h0,h1,if_true,Int.toNat_natCast]
 have hm:(rs.map convR).length=rs.length:=List.length_map _
 have:=Ev.range (L:=fun k (x:List S67) i=>laws_toRuleS.l0 k rs x i) (R:=fun _ _=>rs.map convR) (N:=rs.length) (fun x i=>FilledG (rs.map convR) x i) ?_ ?_ (List.replicate rs.length z67) 0 (Nat.zero_le _) ⟨by simp,by simp⟩
 ·simpa using this
 ·intro x hx
  refine Ev.step (fun k=>laws_toRuleS.l0.eq_2 _ _ _ k) ?_
  simp only [Int.lt_irrefl,if_false]
  have hx':FilledG (rs.map convR) x (rs.map convR).length:=by rw [hm];exact hx
  rw [hx'.fin];exact Ev.now _
 ·intro x i hi hx ih
  refine Ev.step (fun k=>laws_toRuleS.l0.eq_2 _ _ _ k) ?_
  have h2:(i:Int) < (rs.length:Int):=by omega
  have h3:(0:Int)≤(i:Int):=Int.natCast_nonneg i
  have h4:(i:Int) < (x.length:Int):=by have:=hx.1;omega
  simp only [h2,h3,if_true,rdL rs hi]
  have hlen:=hr rs[i] (List.getElem_mem hi)
  refine Ev.bind (toRule_ev _ _ _ (by omega)) ?_
  simp only [h4,if_true,Int.toNat_natCast,w64n (by omega:i < 9000000000000000000)]
  refine ih _ (hx.set (by omega) ?_)
  rw [List.getElem_map];rfl
theorem toPuzzle_ev (s:Int)(g:List Int)(rs:List S65)(hg:g.length≤1048576)(hl:rs.length≤1048576)(hr:∀ x∈rs,x.f1.length≤1048576):Ev (fun k=>laws_toPuzzle.f k s g rs) (s,g,rs.map convR):=by
 unfold laws_toPuzzle.f
 refine Ev.bind (toIntS_ev g (by omega)) ?_
 refine Ev.bind (toRuleS_ev rs hl hr) ?_
 exact Ev.now _
theorem eqRuleS_ev (rs:List S67)(hl:rs.length≤1048576)(hr:∀ x∈rs,x.f1.length≤1048576):Ev (fun k=>laws_eqRuleS.f k rs rs) true:=by
 unfold laws_eqRuleS.f
 simp only [if_true]
 have:=Ev.range0 (L:=fun k i=>laws_eqRuleS.l0 k rs rs i) (R:=fun _=>true) (N:=rs.length) ?_ ?_ 0 (Nat.zero_le _)
 ·simpa using this
 ·refine Ev.step (fun k=>laws_eqRuleS.l0.eq_2 _ _ _ k) ?_
  simp only [Int.lt_irrefl,if_false]
  exact Ev.now _
 ·intro i hi ih
  refine Ev.step (fun k=>laws_eqRuleS.l0.eq_2 _ _ _ k) ?_
  have h2:(i:Int) < (rs.length:Int):=by omega
  have h3:(0:Int)≤(i:Int):=Int.natCast_nonneg i
  simp only [h2,h3,if_true,rdI rs hi]
  have hlen:=hr rs[i] (List.getElem_mem hi)
  refine Ev.bind (eqRule_ev _ _ _ (by omega)) ?_
  simp only [if_true,w64n (by omega:i < 9000000000000000000)]
  exact ih
theorem eqPuzzle_ev (s:Int)(g:List Int)(rs:List S67)(hg:g.length≤1048576)(hl:rs.length≤1048576)(hr:∀ x∈rs,x.f1.length≤1048576):Ev (fun k=>laws_eqPuzzle.f k s g rs s g rs) true:=by
 unfold laws_eqPuzzle.f
 simp only [if_true]
 refine Ev.bind (eqIntS_ev g g (by omega)) ?_
 simp only [decide_true,if_true]
 refine Ev.bind (eqRuleS_ev rs hl hr) ?_
 simp only [if_true]
 exact Ev.now _

end Go.Proofs.Ytdemlminhkhonaa.Pure
namespace Go.Proofs.Ytdemlminhkhonaa.Pure
set_option linter.unusedSimpArgs false
set_option linter.unusedVariables false
open Go.RowKit Go.Proofs.YtdemlminhkhonaaW.PrintWords Go.Proofs.YtdemlminhkhonaaW.PrintMore Go.Proofs.Ytdemlminhkhonaa.P


def rulesB (rs:List S67)(s:Int):Bool:=rs.all (fun x=>ruleB x.f0 x.f1 x.f2 s)
def puzzleB (s:Int)(g:List Int)(rs:List S67):Bool:=gridB g s && (decide ((rs.length:Int)≤20) && rulesB rs s)
theorem rulesB_false {rs:List S67}{s:Int}{i:Nat}(hi:i < rs.length)(h:ruleB rs[i].f0 rs[i].f1 rs[i].f2 s=false):rulesB rs s=false:=by
 unfold rulesB
 rw [List.all_eq_false]
 exact ⟨rs[i],List.getElem_mem hi,by simp [h]⟩
theorem take_all {rs:List S67}{s:Int}{i:Nat}(hi:i < rs.length)(h:rulesB (rs.take i) s=true)(hx:ruleB rs[i].f0 rs[i].f1 rs[i].f2 s=true):rulesB (rs.take (i + 1)) s=true:=by
 unfold rulesB at *
 rw [List.take_succ_eq_append_getElem hi,List.all_append,h]
 simp [hx]
theorem specPuzzleValid_ev (s:Int)(g:List Int)(rs:List S67)(hg:g.length≤1048576)(hl:rs.length≤1048576)(hr:∀ x∈rs,x.f1.length≤1048576):Ev (fun k=>spec_PuzzleValid.f k s g rs) (puzzleB s g rs):=by
 unfold spec_PuzzleValid.f
 have:=Ev.range (σ:=Unit) (L:=fun k _ i=>spec_PuzzleValid.l0 k i s g rs) (R:=fun _ _=>puzzleB s g rs) (N:=rs.length) (fun _ i=>rulesB (rs.take i) s=true) ?_ ?_ () 0 (Nat.zero_le _) rfl
 ·simpa using this
 ·intro _ hall
  refine Ev.step (fun k=>spec_PuzzleValid.l0.eq_2 _ _ _ _ k) ?_
  rw [List.take_length] at hall
  simp only [Int.lt_irrefl,if_false]
  refine Ev.bind (specGridValid_ev g s (by omega)) ?_
  unfold puzzleB
  by_cases hgb:gridB g s=true
  ·simp only [hgb,hall,if_true,Bool.true_and,Bool.and_true]
   exact Ev.now _
  ·simp only [hgb,if_false,Bool.false_eq_true,Bool.false_and]
   exact Ev.now _
 ·intro _ i hi hall ih
  refine Ev.step (fun k=>spec_PuzzleValid.l0.eq_2 _ _ _ _ k) ?_
  have h2:(i:Int) < (rs.length:Int):=by omega
  have h3:(0:Int)≤(i:Int):=Int.natCast_nonneg i
  simp only [h2,h3,if_true,rdI rs hi]
  have hlen:=hr rs[i] (List.getElem_mem hi)
  refine Ev.bind (specRuleValid_ev _ _ _ s (by omega)) ?_
  by_cases hx:ruleB rs[i].f0 rs[i].f1 rs[i].f2 s=true
  ·simp only [hx,if_true,w64n (by omega:i < 9000000000000000000)]
   exact ih () (take_all hi hall hx)
  ·simp only [hx,if_false,Bool.false_eq_true]
   have:puzzleB s g rs=false:=by unfold puzzleB;rw [rulesB_false hi (eq_false_of_ne_true hx)];simp
   rw [this];exact Ev.now _
theorem implPuzzleValid_ev (s:Int)(g:List Int)(rs:List S67)(hg:g.length≤1048576)(hl:rs.length≤1048576)(hr:∀ x∈rs,x.f1.length≤1048576):Ev (fun k=>impl_PuzzleValid.f k s g rs) (puzzleB s g rs):=by
 unfold impl_PuzzleValid.f puzzleB
 refine Ev.bind (implGridValid_ev g s (by omega)) ?_
 have hno:Ev (fun k=>impl_PuzzleValid.j0 k true s g rs) false:=by
  refine Ev.step (fun k=>impl_PuzzleValid.j0.eq_2 _ _ _ _ k) ?_
  simp only [if_true];exact Ev.now _
 by_cases hgb:gridB g s=true
 ·simp only [hgb,if_true,Bool.true_and]
  by_cases h20:(rs.length:Int) > 20
  ·have h20':¬ (rs.length:Int)≤20:=by omega
   simp only [h20,h20',decide_true,decide_false,Bool.false_and]
   exact hno
  ·have h20':(rs.length:Int)≤20:=by omega
   simp only [h20,h20',decide_true,decide_false,Bool.true_and]
   refine Ev.step (fun k=>impl_PuzzleValid.j0.eq_2 _ _ _ _ k) ?_
   simp only [Bool.false_eq_true,if_false]
   have:=Ev.range (σ:=Unit) (L:=fun k _ i=>impl_PuzzleValid.l0 k rs (rs.length:Int) i s g rs) (R:=fun _ _=>rulesB rs s) (N:=rs.length) (fun _ i=>rulesB (rs.take i) s=true) ?_ ?_ () 0 (Nat.zero_le _) rfl
   ·simpa using this
   ·intro _ hall
    refine Ev.step (fun k=>impl_PuzzleValid.l0.eq_2 _ _ _ _ _ _ k) ?_
    rw [List.take_length] at hall
    simp only [Int.lt_irrefl,if_false,hall]
    exact Ev.now _
   ·intro _ i hi hall ih
    refine Ev.step (fun k=>impl_PuzzleValid.l0.eq_2 _ _ _ _ _ _ k) ?_
    have h2:(i:Int) < (rs.length:Int):=by omega
    have h3:(0:Int)≤(i:Int):=Int.natCast_nonneg i
    simp only [h2,h3,if_true,rdI rs hi]
    have hlen:=hr rs[i] (List.getElem_mem hi)
    refine Ev.bind (implRuleValid_ev _ _ _ s (by omega)) ?_
    by_cases hx:ruleB rs[i].f0 rs[i].f1 rs[i].f2 s=true
    ·simp only [hx,if_true,w64n (by omega:i < 9000000000000000000)]
     exact ih () (take_all hi hall hx)
    ·simp only [hx,if_false,Bool.false_eq_true]
     rw [rulesB_false hi (eq_false_of_ne_true hx)];exact Ev.now _
 ·simp only [hgb,if_false,Bool.false_eq_true,Bool.false_and]
  exact hno

end Go.Proofs.Ytdemlminhkhonaa.Pure
namespace Go.Proofs.Ytdemlminhkhonaa.Pure
set_option linter.unusedSimpArgs false
set_option linter.unusedVariables false
open Go.RowKit Go.Proofs.YtdemlminhkhonaaW.PrintWords Go.Proofs.YtdemlminhkhonaaW.PrintMore


theorem squareFits_grid {g:List Int}{s:Int}(h:squareFits g s=true):gridB g s=true:=by
 unfold squareFits at h;rw [Bool.and_eq_true] at h;exact h.1

end Go.Proofs.Ytdemlminhkhonaa.Pure
namespace Go.Proofs.Ytdemlminhkhonaa.Pure
set_option linter.unusedSimpArgs false
set_option linter.unusedVariables false
open Go.RowKit Go.Proofs.YtdemlminhkhonaaW.PrintWords Go.Proofs.YtdemlminhkhonaaW.PrintMore Go.Proofs.Ytdemlminhkhonaa.P


def agreeP (q g:List Int):Nat→Bool
 | 0=>true
 | n + 1=>agreeP q g n && decide (0 < rd q (n:Nat)∧0 < rd g (n:Nat)→rd g (n:Nat)=rd q (n:Nat))
theorem agreeP_false {q g:List Int}{n:Nat}(h:agreeP q g n=false):∀ d,agreeP q g (n + d)=false
 | 0=>h
 | d + 1=>by rw [show n + (d + 1)=(n + d) + 1 from rfl,agreeP,agreeP_false h d];rfl
theorem agreeP_le {q g:List Int}{n m:Nat}(h:agreeP q g n=false)(hm:n≤m):agreeP q g m=false:=by
 have:=agreeP_false h (m - n)
 rwa [show n + (m - n)=m by omega] at this
theorem agreeP_yes {q g:List Int}{n:Nat}(h:agreeP q g n=true)(h1:0 < rd q (n:Nat)→0 < rd g (n:Nat)→rd g (n:Nat)=rd q (n:Nat)):agreeP q g (n + 1)=true:=by
 rw [agreeP,h,Bool.true_and,decide_eq_true_iff];exact fun hh=>h1 hh.1 hh.2
theorem agreeP_no {q g:List Int}{n:Nat}(h1:0 < rd q (n:Nat))(h2:0 < rd g (n:Nat))(h3:¬ rd g (n:Nat)=rd q (n:Nat)):agreeP q g (n + 1)=false:=by
 rw [agreeP,Bool.and_eq_false_iff];right
 rw [decide_eq_false_iff_not];exact fun h=>h3 (h ⟨h1,h2⟩)
def possB (rs:List S67)(g:List Int)(s:Int):Bool:=rs.all (fun x=>rulePossible x.f0 x.f1 x.f2 g s)
theorem possB_false {rs:List S67}{g:List Int}{s:Int}{i:Nat}(hi:i < rs.length)(h:rulePossible rs[i].f0 rs[i].f1 rs[i].f2 g s=false):possB rs g s=false:=by
 unfold possB
 rw [List.all_eq_false]
 exact ⟨rs[i],List.getElem_mem hi,by simp [h]⟩
theorem take_possB {rs:List S67}{g:List Int}{s:Int}{i:Nat}(hi:i < rs.length)(h:possB (rs.take i) g s=true)(hx:rulePossible rs[i].f0 rs[i].f1 rs[i].f2 g s=true):possB (rs.take (i + 1)) g s=true:=by
 unfold possB at *
 rw [List.take_succ_eq_append_getElem hi,List.all_append,h]
 simp [hx]
theorem rules_get {rs:List S67}{s:Int}(h:rulesB rs s=true){i:Nat}(hi:i < rs.length):ruleB rs[i].f0 rs[i].f1 rs[i].f2 s=true:=by
 unfold rulesB at h
 rw [List.all_eq_true] at h
 exact h _ (List.getElem_mem hi)
def puzzleFits (s:Int)(q:List Int)(rs:List S67)(g:List Int):Bool:=puzzleB s q rs && (squareFits g s && (agreeP q g g.length && possB rs g s))
theorem puzzleB_parts {s:Int}{q:List Int}{rs:List S67}(h:puzzleB s q rs=true):gridB q s=true∧rs.length≤20∧rulesB rs s=true:=by
 unfold puzzleB at h
 simp only [Bool.and_eq_true,decide_eq_true_eq] at h
 exact ⟨h.1,by omega,h.2.2⟩
theorem l5Fits_ev {s:Int}{q:List Int}{rs:List S67}{g:List Int}(hp:puzzleB s q rs=true)(hg:gridB g s=true)(hr:∀ x∈rs,x.f1.length≤1048576):Ev (fun k=>spec_l5Fits.f k s q rs g) (agreeP q g g.length && (possB rs g s && !linesClash g s 0 (2 * s.toNat))):=by
 obtain ⟨hq,h20,hrs⟩:=puzzleB_parts hp
 have hgl:=gridB_le hg
 have hql:q.length=g.length:=by rw [grid_len hq,grid_len hg]
 unfold spec_l5Fits.f
 refine Ev.range (σ:=Unit) (L:=fun k _ j=>spec_l5Fits.l0 k g j s q rs) (R:=fun _ _=>agreeP q g g.length && (possB rs g s && !linesClash g s 0 (2 * s.toNat))) (N:=g.length) (fun _ j=>agreeP q g j=true) ?_ ?_ () 0 (Nat.zero_le _) rfl
 ·intro _ ha
  refine Ev.step (fun k=>spec_l5Fits.l0.eq_2 _ _ _ _ _ k) ?_
  simp only [Int.lt_irrefl,if_false,ha,Bool.true_and]
  refine Ev.range (σ:=Unit) (L:=fun k _ j=>spec_l5Fits.l1 k g j s q rs) (R:=fun _ _=>possB rs g s && !linesClash g s 0 (2 * s.toNat)) (N:=rs.length) (fun _ i=>possB (rs.take i) g s=true) ?_ ?_ () 0 (Nat.zero_le _) rfl
  ·intro _ hall
   refine Ev.step (fun k=>spec_l5Fits.l1.eq_2 _ _ _ _ _ k) ?_
   rw [List.take_length] at hall
   simp only [Int.lt_irrefl,if_false,hall,Bool.true_and]
   refine Ev.bind (l2Clash_ev hg) ?_
   exact Ev.now _
  ·intro _ i hi hall ih
   refine Ev.step (fun k=>spec_l5Fits.l1.eq_2 _ _ _ _ _ k) ?_
   have h2:(i:Int) < (rs.length:Int):=by omega
   have h3:(0:Int)≤(i:Int):=Int.natCast_nonneg i
   simp only [h2,h3,if_true,rdI rs hi]
   have hlen:=hr rs[i] (List.getElem_mem hi)
   refine Ev.bind (specRulePossible_ev _ _ _ g s (by omega) (by omega)) ?_
   by_cases hx:rulePossible rs[i].f0 rs[i].f1 rs[i].f2 g s=true
   ·simp only [hx,if_true,w64n (by omega:i < 9000000000000000000)]
    exact ih () (take_possB hi hall hx)
   ·simp only [hx,if_false,Bool.false_eq_true]
    rw [possB_false hi (eq_false_of_ne_true hx)];exact Ev.now _
 ·intro _ j hj ha ih
  refine Ev.step (fun k=>spec_l5Fits.l0.eq_2 _ _ _ _ _ k) ?_
  have h1:(j:Int) < (g.length:Int):=by omega
  have h0:(0:Int)≤(j:Int):=Int.natCast_nonneg j
  have h2:(j:Int) < (q.length:Int):=by omega
  simp only [h0,h1,h2,if_true,w64n (by omega:j < 9000000000000000000)]
  by_cases c1:rd q (j:Int) > 0
  ·by_cases c2:rd g (j:Int) > 0
   ·by_cases c3:rd g (j:Int)=rd q (j:Int)
    ·have c2':rd q (j:Int) > 0:=c1
     simp only [c3,c2',if_true]
     exact ih () (agreeP_yes ha (fun _ _=>c3))
    ·simp only [c1,c2,c3,if_true,if_false]
     rw [agreeP_le (agreeP_no c1 c2 c3) hj,Bool.false_and]
     exact Ev.now _
   ·simp only [c1,c2,if_true,if_false]
    exact ih () (agreeP_yes ha (fun _ hh=>absurd hh c2))
  ·simp only [c1,if_false]
   exact ih () (agreeP_yes ha (fun hh=>absurd hh c1))
theorem specPuzzleFits_ev (s:Int)(q:List Int)(rs:List S67)(g:List Int)(hq:q.length≤1048576)(hl:rs.length≤1048576)(hr:∀ x∈rs,x.f1.length≤1048576)(hgl:g.length≤1048576):Ev (fun k=>spec_PuzzleFits.f k s q rs g) (puzzleFits s q rs g):=by
 unfold spec_PuzzleFits.f puzzleFits
 refine Ev.bind (specPuzzleValid_ev s q rs hq hl hr) ?_
 by_cases hp:puzzleB s q rs=true
 ·simp only [hp,if_true,Bool.true_and]
  refine Ev.bind (specGridValid_ev g s (by omega)) ?_
  by_cases hg:gridB g s=true
  ·simp only [hg,if_true]
   refine Ev.bind (l5Fits_ev hp hg hr) ?_
   have e:(agreeP q g g.length && (possB rs g s && !linesClash g s 0 (2 * s.toNat)))=(squareFits g s && (agreeP q g g.length && possB rs g s)):=by
    unfold squareFits
    rw [hg,Bool.true_and]
    cases agreeP q g g.length <;> cases possB rs g s <;> cases linesClash g s 0 (2 * s.toNat) <;> rfl
   rw [e]
   exact Ev.now _
  ·have e:squareFits g s=false:=by unfold squareFits;rw [eq_false_of_ne_true hg];rfl
   simp only [hg,if_false,e,Bool.false_and]
   exact Ev.now _
 ·simp only [hp,if_false,eq_false_of_ne_true hp,Bool.false_and]
  exact Ev.now _
theorem implPuzzleFits_ev (s:Int)(q:List Int)(rs:List S67)(g:List Int)(hq:q.length≤1048576)(hl:rs.length≤1048576)(hr:∀ x∈rs,x.f1.length≤1048576)(hgl:g.length≤1048576):Ev (fun k=>impl_PuzzleFits.f k s q rs g) (puzzleFits s q rs g):=by
 unfold impl_PuzzleFits.f puzzleFits
 have hno:Ev (fun k=>impl_PuzzleFits.j0 k g true s q rs) false:=by
  refine Ev.step (fun k=>impl_PuzzleFits.j0.eq_2 _ _ _ _ _ k) ?_
  simp only [if_true];exact Ev.now _
 refine Ev.bind (implPuzzleValid_ev s q rs hq hl hr) ?_
 by_cases hp:puzzleB s q rs=true
 ·simp only [hp,if_true,Bool.true_and]
  obtain ⟨hqg,h20,hrs⟩:=puzzleB_parts hp
  refine Ev.bind (implSquareFits_ev g s (by omega)) ?_
  by_cases hf:squareFits g s=true
  ·simp only [hf,Bool.not_true,Bool.true_and]
   have hg:=squareFits_grid hf
   have hql:q.length=g.length:=by rw [grid_len hqg,grid_len hg]
   have hg16:=gridB_le hg
   refine Ev.step (fun k=>impl_PuzzleFits.j0.eq_2 _ _ _ _ _ k) ?_
   simp only [Bool.false_eq_true,if_false]
   refine Ev.range (σ:=Unit) (L:=fun k _ j=>impl_PuzzleFits.l0 k g g (g.length:Int) j s q rs) (R:=fun _ _=>agreeP q g g.length && possB rs g s) (N:=g.length) (fun _ j=>agreeP q g j=true) ?_ ?_ () 0 (Nat.zero_le _) rfl
   ·intro _ ha
    refine Ev.step (fun k=>impl_PuzzleFits.l0.eq_2 _ _ _ _ _ _ _ k) ?_
    simp only [Int.lt_irrefl,if_false,ha,Bool.true_and]
    refine Ev.range (σ:=Unit) (L:=fun k _ j=>impl_PuzzleFits.l1 k g rs (rs.length:Int) j s q rs) (R:=fun _ _=>possB rs g s) (N:=rs.length) (fun _ i=>possB (rs.take i) g s=true) ?_ ?_ () 0 (Nat.zero_le _) rfl
    ·intro _ hall
     refine Ev.step (fun k=>impl_PuzzleFits.l1.eq_2 _ _ _ _ _ _ _ k) ?_
     rw [List.take_length] at hall
     simp only [Int.lt_irrefl,if_false,hall]
     exact Ev.now _
    ·intro _ i hi hall ih
     refine Ev.step (fun k=>impl_PuzzleFits.l1.eq_2 _ _ _ _ _ _ _ k) ?_
     have h2:(i:Int) < (rs.length:Int):=by omega
     have h3:(0:Int)≤(i:Int):=Int.natCast_nonneg i
     simp only [h2,h3,if_true,rdI rs hi]
     refine Ev.bind (canHold_ev (rules_get hrs hi) hg) ?_
     by_cases hx:rulePossible rs[i].f0 rs[i].f1 rs[i].f2 g s=true
     ·simp only [hx,if_true,w64n (by omega:i < 9000000000000000000)]
      exact ih () (take_possB hi hall hx)
     ·simp only [hx,if_false,Bool.false_eq_true]
      rw [possB_false hi (eq_false_of_ne_true hx)];exact Ev.now _
   ·intro _ j hj ha ih
    refine Ev.step (fun k=>impl_PuzzleFits.l0.eq_2 _ _ _ _ _ _ _ k) ?_
    have h1:(j:Int) < (g.length:Int):=by omega
    have h0:(0:Int)≤(j:Int):=Int.natCast_nonneg j
    have h2:(j:Int) < (q.length:Int):=by omega
    simp only [h0,h1,h2,if_true,w64n (by omega:j < 9000000000000000000)]
    by_cases c2:rd g (j:Int) > 0
    ·by_cases c1:rd q (j:Int) > 0
     ·by_cases c3:rd g (j:Int)=rd q (j:Int)
      ·have c2':rd q (j:Int) > 0:=c1
       simp only [c3,c2',if_true]
       exact ih () (agreeP_yes ha (fun _ _=>c3))
      ·simp only [c1,c2,c3,if_true,if_false]
       rw [agreeP_le (agreeP_no c1 c2 c3) hj,Bool.false_and]
       exact Ev.now _
     ·simp only [c1,c2,if_true,if_false]
      exact ih () (agreeP_yes ha (fun hh=>absurd hh c1))
    ·simp only [c2,if_false]
     exact ih () (agreeP_yes ha (fun _ hh=>absurd hh c2))
  ·simp only [hf,eq_false_of_ne_true hf,Bool.not_false,Bool.false_and]
   exact hno
 ·simp only [hp,if_false,eq_false_of_ne_true hp,Bool.false_and]
  exact hno

end Go.Proofs.Ytdemlminhkhonaa.Pure
namespace Go.Proofs.Ytdemlminhkhonaa.Pure
set_option linter.unusedSimpArgs false
set_option linter.unusedVariables false
open Go.RowKit Go.Proofs.YtdemlminhkhonaaW.PrintWords Go.Proofs.YtdemlminhkhonaaW.PrintMore


def seekV (P:List Int→Bool)(f:List Int→List (List Int))(g:List Int)(i:Nat)(v:Int):Nat→List (List Int)
 | 0=>[]
 | m + 1=>(if P (g.set i v)=true then f (g.set i v) else []) ++ seekV P f g i (v + 1) m
def seek (P:List Int→Bool)(n N:Nat):Nat→List Int→List (List Int)
 | 0,g=>[g]
 | d + 1,g=>if 0 < rd g ((N - (d + 1):Nat):Int) then seek P n N d g else seekV P (seek P n N d) g (N - (d + 1)) 1 n
theorem seekV_mem {P:List Int→Bool}{f:List Int→List (List Int)}{g:List Int}{i:Nat}{x:List Int}:∀ (m:Nat) (v:Int),x∈seekV P f g i v m→∃ u,v≤u∧u < v + m∧P (g.set i u)=true∧x∈f (g.set i u)
 | 0,v,h=>by simp [seekV] at h
 | m + 1,v,h=>by
  rw [seekV,List.mem_append] at h
  rcases h with h|h
  ·by_cases hf:P (g.set i v)=true
   ·rw [if_pos hf] at h;exact ⟨v,by omega,by omega,hf,h⟩
   ·rw [if_neg hf] at h;cases h
  ·obtain ⟨u,h1,h2,h3,h4⟩:=seekV_mem m (v + 1) h
   exact ⟨u,by omega,by omega,h3,h4⟩
theorem seek_len {P:List Int→Bool}{n N:Nat}{x:List Int}:∀ (d:Nat) (g:List Int),x∈seek P n N d g→x.length=g.length
 | 0,g,h=>by simp [seek] at h;rw [h]
 | d + 1,g,h=>by
  unfold seek at h
  by_cases hp:0 < rd g ((N - (d + 1):Nat):Int)
  ·rw [if_pos hp] at h;exact seek_len d g h
  ·rw [if_neg hp] at h
   obtain ⟨u,_,_,_,h⟩:=seekV_mem _ _ h
   have:=seek_len d _ h
   rwa [List.length_set] at this
def tell {σ:Type}(T:σ→List Int→Option (Bool × σ)):List (List Int)→σ→Option (Bool × σ)
 | [],st=>some (true,st)
 | g :: gs,st=>(T st g).bind fun t=>if t.1=true then tell T gs t.2 else some (false,t.2)
theorem tell_append {σ:Type}(T:σ→List Int→Option (Bool × σ)):∀ (L1 L2:List (List Int)) (st:σ),tell T (L1 ++ L2) st=(tell T L1 st).bind fun t=>if t.1=true then tell T L2 t.2 else some (false,t.2)
 | [],L2,st=>by simp [tell]
 | g :: gs,L2,st=>by
  rw [List.cons_append,tell,tell]
  cases h:T st g with
  | none=>rfl
  | some t =>
   obtain ⟨b,s⟩:=t
   cases b with
   | false=>rfl
   | true =>
    simp only [Option.bind_some,if_true]
    exact tell_append T gs L2 s

end Go.Proofs.Ytdemlminhkhonaa.Pure
namespace Go.Proofs.Ytdemlminhkhonaa.Pure
set_option linter.unusedSimpArgs false
set_option linter.unusedVariables false
open Go.RowKit Go.Proofs.YtdemlminhkhonaaW.PrintWords Go.Proofs.YtdemlminhkhonaaW.PrintMore Go.Proofs.Ytdemlminhkhonaa.P


theorem fits_eq {s:Int}{q:List Int}{rs:List S67}{g:List Int}(hp:puzzleB s q rs=true)(hg:gridB g s=true):puzzleFits s q rs g=(agreeP q g g.length && (possB rs g s && !linesClash g s 0 (2 * s.toNat))):=by
 unfold puzzleFits squareFits
 rw [hp,hg,Bool.true_and,Bool.true_and]
 cases agreeP q g g.length <;> cases possB rs g s <;> cases linesClash g s 0 (2 * s.toNat) <;> rfl
theorem fits_parts {s:Int}{q:List Int}{rs:List S67}{g:List Int}(h:puzzleFits s q rs g=true):puzzleB s q rs=true∧gridB g s=true∧squareFits g s=true∧agreeP q g g.length=true∧possB rs g s=true:=by
 unfold puzzleFits at h
 simp only [Bool.and_eq_true] at h
 exact ⟨h.1,squareFits_grid h.2.1,h.2.1,h.2.2.1,h.2.2.2⟩
theorem agreeP_of {q g:List Int}:∀ n,(∀ j:Nat,0 < rd q (j:Int)→rd g (j:Int)=rd q (j:Int))→agreeP q g n=true
 | 0,_=>rfl
 | n + 1,h=>agreeP_yes (agreeP_of n h) (fun h1 _=>h n h1)
theorem gridMasks_set {g:List Int}{s:Int}{i:Nat}{v c:Int}(h0:0≤c)(h1:c < (g.length:Int))(hne:c≠(i:Int)):rd (gridMasks (g.set i v) s) c=rd (gridMasks g s) c:=by
 rw [rd_gridMasks h0 (by rw [List.length_set];exact h1),rd_gridMasks h0 h1]
 obtain ⟨n,rfl⟩:=Int.eq_ofNat_of_zero_le h0
 rw [rd_set_ne (by omega)]
theorem rulePossible_set {kind:Int}{cs:List Int}{w:Int}{g:List Int}{s:Int}{i:Nat}{v:Int}(hg:gridB g s=true)(hg2:gridB (g.set i v) s=true)(hi:¬ (i:Int)∈cs):rulePossible kind cs w (g.set i v) s=rulePossible kind cs w g s:=by
 unfold rulePossible
 rw [hg,hg2,Bool.true_and,Bool.true_and]
 by_cases hr:ruleB kind cs w s=true
 ·rw [hr,Bool.true_and,Bool.true_and]
  have hcells:=rule_cells hr (gridB_len hg)
  have e:cs.map (fun c=>rd (gridMasks (g.set i v) s) c)=cs.map (fun c=>rd (gridMasks g s) c):=by
   refine List.map_congr_left (fun c hc=>?_)
   exact gridMasks_set (hcells c hc).1 (hcells c hc).2 (fun e=>hi (e ▸ hc))
  unfold ruleMasks
  rw [e,if_pos ⟨hr,gridMasks_ok hg2⟩,if_pos ⟨hr,gridMasks_ok hg⟩]
 ·rw [eq_false_of_ne_true hr,Bool.false_and,Bool.false_and]
theorem set_ext {q g:List Int}{i:Nat}{v:Int}(h:∀ j:Nat,0 < rd q (j:Int)→rd g (j:Int)=rd q (j:Int))(hz:rd g (i:Int)=0):∀ j:Nat,0 < rd q (j:Int)→rd (g.set i v) (j:Int)=rd q (j:Int):=by
 intro j hj
 have h1:=h j hj
 by_cases e:i=j
 ·subst e;omega
 ·rw [rd_set_ne e];exact h1
def firstSols (s:Int)(q:List Int)(rs:List S67)(M:Nat):List (List Int):=if puzzleFits s q rs q=true then (seek (puzzleFits s q rs) s.toNat (s.toNat * s.toNat) (s.toNat * s.toNat) q).take M else []

end Go.Proofs.Ytdemlminhkhonaa.Pure
namespace Go.Proofs.Ytdemlminhkhonaa.Pure
set_option linter.unusedSimpArgs false
set_option linter.unusedVariables false
open Go.RowKit Go.Proofs.YtdemlminhkhonaaW.PrintWords Go.Proofs.YtdemlminhkhonaaW.PrintMore


def Filled0 (r:List Int)(x:List Int)(n:Nat):Prop:=x.length=r.length∧x.take n=r.take n
theorem Filled0.start (r:List Int):Filled0 r (List.replicate r.length 0) 0:=⟨by simp,by simp⟩
theorem Filled0.fin {r x:List Int}(h:Filled0 r x r.length):x=r:=by
 obtain ⟨h1,h2⟩:=h
 rw [List.take_length,← h1,List.take_length] at h2
 exact h2
theorem Filled0.set {r x:List Int}{n:Nat}(h:Filled0 r x n)(hn:n < r.length){v:Int}(hv:v=r[n]):Filled0 r (x.set n v) (n + 1):=by
 refine ⟨by rw [List.length_set];exact h.1,?_⟩
 rw [take_set_succ (by have:=h.1;omega),h.2,List.take_succ_eq_append_getElem hn,hv]

end Go.Proofs.Ytdemlminhkhonaa.Pure
namespace Go.Proofs.Ytdemlminhkhonaa.Pure
set_option linter.unusedSimpArgs false
set_option linter.unusedVariables false
open Go.RowKit Go.Proofs.YtdemlminhkhonaaW.PrintWords Go.Proofs.YtdemlminhkhonaaW.PrintMore Go.Proofs.Ytdemlminhkhonaa.P


def masksGrid (m:List Int)(s:Int):List Int:=if masksB m s=true then m.map onlyV else []
theorem masksGrid_len (m:List Int)(s:Int):(masksGrid m s).length≤16:=by
 unfold masksGrid;split
 ·rename_i h;rw [List.length_map];exact masksB_le h
 ·exact Nat.zero_le _
theorem mask_even {m:List Int}{s:Int}(h:masksB m s=true){x:Int}(hx:x∈m):0≤x∧x≤30∧x % 2=0:=by
 have h1:=masksB_mem h x hx
 have h2:=allM_le (masksB_size h)
 exact ⟨h1.1,by omega,h1.2.2⟩
theorem only_of_vals {m:Int}(h:0≤m∧m≤30∧m % 2=0):onlyV m=if ((mvals m).length:Int)=1 then rd (mvals m) 0 else 0:=by
 rcases even_cases h with rfl|rfl|rfl|rfl|rfl|rfl|rfl|rfl|rfl|rfl|rfl|rfl|rfl|rfl|rfl|rfl <;> decide +kernel
theorem specMasksGrid_ev (m:List Int)(s:Int)(h:m.length≤35184372088832):Ev (fun k=>spec_MasksGrid.f k m s) (masksGrid m s):=by
 unfold spec_MasksGrid.f masksGrid
 have hj:∀ (x:List Int) (i:Int),Ev (fun k=>spec_MasksGrid.j1 k m s x i false) x:=by
  intro x i
  refine Ev.step (fun k=>spec_MasksGrid.j1.eq_2 _ _ _ _ _ k) ?_
  simp only [Bool.false_eq_true,if_false];exact Ev.now _
 by_cases hm:masksB m s=true
 ·simp only [hm,if_true]
  have:=Ev.range (L:=fun k (x:List Int) i=>spec_MasksGrid.l0 k m s x i) (R:=fun _ _=>m.map onlyV) (N:=m.length) (fun x n=>x=(m.take n).map onlyV) ?_ ?_ [] 0 (Nat.zero_le _) rfl
  ·simpa using this
  ·rintro x rfl
   refine Ev.step (fun k=>spec_MasksGrid.l0.eq_2 _ _ _ _ k) ?_
   simp only [Int.lt_irrefl,if_false,List.take_length]
   exact hj _ _
  ·rintro x n hn rfl ih
   refine Ev.step (fun k=>spec_MasksGrid.l0.eq_2 _ _ _ _ k) ?_
   have h1:(n:Int) < (m.length:Int):=by omega
   have h0:(0:Int)≤n:=by omega
   simp only [h1,if_true]
   refine Ev.bind (specMasksValid_ev m s h) ?_
   rw [hm]
   refine Ev.step (fun k=>spec_MasksGrid.j1.eq_2 _ _ _ _ _ k) ?_
   simp only [if_true,h0,h1,rd_lt hn]
   refine Ev.bind (specMaskValues_ev _) ?_
   have hlen:((m.take n).map onlyV).length < 17592186044416:=by
    rw [List.length_map,List.length_take];have:=masksB_le hm;omega
   have ho:=only_of_vals (mask_even hm (List.getElem_mem hn))
   have hs:∀ v,onlyV m[n]=v→Ev (fun k=>spec_MasksGrid.l0 k m s ((m.take n).map onlyV ++ [v]) ((n + 1:Nat):Int)) (m.map onlyV):=by
    intro v hv
    refine ih _ ?_
    rw [List.take_succ_eq_append_getElem hn,List.map_append,List.map_singleton,hv]
   by_cases hl:((mvals m[n]).length:Int)=1
   ·have hl1:(0:Int) < (1:Int):=by decide
    simp only [hl,if_true,hl1,hlen,w64n (by omega:n < 9000000000000000000)]
    rw [if_pos hl] at ho
    exact hs _ ho
   ·simp only [hl,if_false,hlen,if_true,w64n (by omega:n < 9000000000000000000)]
    rw [if_neg hl] at ho
    exact hs _ ho
 ·simp only [hm,if_false,Bool.false_eq_true]
  refine Ev.step (fun k=>spec_MasksGrid.l0.eq_2 _ _ _ _ k) ?_
  by_cases h1:(0:Int) < (m.length:Int)
  ·simp only [h1,if_true]
   refine Ev.bind (specMasksValid_ev m s h) ?_
   rw [eq_false_of_ne_true hm]
   exact hj _ _
  ·simp only [h1,if_false]
   exact hj _ _
theorem implMasksGrid_ev (m:List Int)(s:Int)(h:m.length≤35184372088832)(hw:∀ x∈m,x≤9223372036854775807):Ev (fun k=>impl_MasksGrid.f k m s) (masksGrid m s):=by
 unfold impl_MasksGrid.f masksGrid
 refine Ev.bind (implMasksValid_ev m s h hw) ?_
 by_cases hm:masksB m s=true
 ·have h0:(0:Int)≤(m.length:Int):=Int.natCast_nonneg _
  have h1:((m.length:Int):Int).toNat≤35184372088832:=by simpa using h
  simp only [hm,if_true,h0,h1]
  have:=Ev.range (L:=fun k (x:List Int) i=>impl_MasksGrid.l0 k x m (m.length:Int) i) (R:=fun _ _=>m.map onlyV) (N:=m.length) (fun x n=>Filled0 (m.map onlyV) x n) ?_ ?_ (List.replicate m.length 0) 0 (Nat.zero_le _) (by have:=Filled0.start (m.map onlyV);rwa [List.length_map] at this)
  ·simpa using this
  ·intro x hx
   refine Ev.step (fun k=>impl_MasksGrid.l0.eq_2 _ _ _ _ k) ?_
   simp only [Int.lt_irrefl,if_false]
   have e:x=m.map onlyV:=by
    have h2:(m.map onlyV).length=m.length:=List.length_map ..
    rw [← h2] at hx;exact hx.fin
   rw [e];exact Ev.now _
  ·intro x n hn hx ih
   refine Ev.step (fun k=>impl_MasksGrid.l0.eq_2 _ _ _ _ k) ?_
   have h3:(n:Int) < (m.length:Int):=by omega
   have h4:(0:Int)≤n:=by omega
   have h5:(n:Int) < (x.length:Int):=by have:=hx.1;rw [List.length_map] at this;omega
   simp only [h3,h4,h5,if_true,rd_lt hn,Int.toNat_natCast,w64n (by omega:n < 9000000000000000000)]
   refine Ev.bind (onlyValue_ev (mask_even hm (List.getElem_mem hn))) ?_
   exact ih _ (hx.set (by rw [List.length_map];exact hn) (by simp))
 ·simp only [hm,if_false,Bool.false_eq_true]
  exact Ev.now _

end Go.Proofs.Ytdemlminhkhonaa.Pure
namespace Go.Proofs.Ytdemlminhkhonaa.Pure
set_option linter.unusedSimpArgs false
set_option linter.unusedVariables false
open Go.RowKit Go.Proofs.YtdemlminhkhonaaW.PrintWords Go.Proofs.YtdemlminhkhonaaW.PrintMore Go.Proofs.Ytdemlminhkhonaa.P


theorem ext_rd {x y:List Int}(hl:x.length=y.length)(h:∀ c:Nat,c < x.length→rd x (c:Int)=rd y (c:Int)):x=y:=by
 refine List.ext_getElem hl (fun n h1 h2=>?_)
 have:=h n h1
 rwa [rd_lt h1,rd_lt h2] at this
theorem rd_set {x:List Int}{c d:Nat}(h:c < x.length)(v:Int):rd (x.set c v) (d:Int)=if d=c then v else rd x (d:Int):=by
 by_cases hd:d=c
 ·subst hd
  rw [rd_lt (by rw [List.length_set];exact h),if_pos rfl,List.getElem_set_self]
 ·rw [if_neg hd]
  by_cases hx:d < x.length
  ·rw [rd_lt (by rw [List.length_set];exact hx),rd_lt hx,List.getElem_set_ne (fun e=>hd e.symm)]
  ·rw [rd_ge (by rw [List.length_set,Int.toNat_natCast];omega),rd_ge (by rw [Int.toNat_natCast];omega)]
def Upd (f:Int→Int)(p:Nat→Prop)(y x:List Int):Prop:=x.length=y.length∧∀ c:Nat,c < y.length→(p c→rd x (c:Int)=f (rd y (c:Int)))∧(¬ p c→rd x (c:Int)=rd y (c:Int))
theorem Upd.start {f:Int→Int}{p:Nat→Prop}{y:List Int}(h:∀ c,c < y.length→¬ p c):Upd f p y y:=⟨rfl,fun c hc=>⟨fun hp=>absurd hp (h c hc),fun _=>rfl⟩⟩
theorem Upd.skip {f:Int→Int}{p q:Nat→Prop}{y x:List Int}(h:Upd f p y x)(e:∀ c,c < y.length→(q c↔p c)):Upd f q y x :=
 ⟨h.1,fun c hc=>⟨fun hq=>(h.2 c hc).1 ((e c hc).1 hq),fun hq=>(h.2 c hc).2 (fun hp=>hq ((e c hc).2 hp))⟩⟩
theorem Upd.set {f:Int→Int}{p q:Nat→Prop}{y x:List Int}{d:Nat}(h:Upd f p y x)(hd:d < y.length)(hp:¬ p d)(e:∀ c,c < y.length→(q c↔(c=d∨p c))){v:Int}(hv:v=f (rd x (d:Int))):Upd f q y (x.set d v):=by
 have hdx:d < x.length:=by have:=h.1;omega
 refine ⟨by rw [List.length_set];exact h.1,fun c hc=>⟨fun hq=>?_,fun hq=>?_⟩⟩
 ·rw [rd_set hdx]
  by_cases hcd:c=d
  ·rw [if_pos hcd,hv,hcd,(h.2 d hd).2 hp]
  ·rw [if_neg hcd]
   exact (h.2 c hc).1 (((e c hc).1 hq).resolve_left hcd)
 ·rw [rd_set hdx]
  have hcd:¬ c=d:=fun hcd=>hq ((e c hc).2 (.inl hcd))
  rw [if_neg hcd]
  exact (h.2 c hc).2 (fun hp=>hq ((e c hc).2 (.inr hp)))
theorem Upd.eq {f:Int→Int}{p q:Nat→Prop}{y x z:List Int}(h:Upd f p y x)(k:Upd f q y z)(e:∀ c,c < y.length→(p c↔q c)):x=z:=by
 refine ext_rd (by rw [h.1,k.1]) (fun c hc=>?_)
 have hc':c < y.length:=by have:=h.1;omega
 by_cases hp:p c
 ·rw [(h.2 c hc').1 hp,(k.2 c hc').1 ((e c hc').1 hp)]
 ·rw [(h.2 c hc').2 hp,(k.2 c hc').2 (fun hq=>hp ((e c hc').2 hq))]
def Sees (n i c:Nat):Prop:=c≠i∧(c / n=i / n∨c % n=i % n)
def takeSeen (n i:Nat)(v:Int)(x:List Int):List Int:=(List.range x.length).map (fun c=>if c≠i∧(c / n=i / n∨c % n=i % n) then Go.bits .andNot .i64 (rd x (c:Int)) v else rd x (c:Int))
theorem takeSeen_len (n i:Nat)(v:Int)(x:List Int):(takeSeen n i v x).length=x.length:=by unfold takeSeen;rw [List.length_map,List.length_range]
theorem takeSeen_upd (n i:Nat)(v:Int)(x:List Int):Upd (fun z=>Go.bits .andNot .i64 z v) (fun c=>Sees n i c) x (takeSeen n i v x):=by
 refine ⟨takeSeen_len n i v x,fun c hc=>?_⟩
 have e:rd (takeSeen n i v x) (c:Int)=if c≠i∧(c / n=i / n∨c % n=i % n) then Go.bits .andNot .i64 (rd x (c:Int)) v else rd x (c:Int):=by
  rw [rd_lt (by rw [takeSeen_len];exact hc)]
  simp [takeSeen]
 exact ⟨fun h=>by unfold Sees at h;rw [e,if_pos h],fun h=>by unfold Sees at h;rw [e,if_neg h]⟩
def singlesUpto (m:List Int)(n:Nat):Nat→List Int
 | 0=>m
 | i + 1=>if onlyV (rd m (i:Int))=0 then singlesUpto m n i else takeSeen n i (rd m (i:Int)) (singlesUpto m n i)
theorem singlesUpto_len (m:List Int)(n:Nat):∀ i,(singlesUpto m n i).length=m.length
 | 0=>rfl
 | i + 1=>by
  unfold singlesUpto
  split
  ·exact singlesUpto_len m n i
  ·rw [takeSeen_len];exact singlesUpto_len m n i
def narrowSingles (m:List Int)(s:Int):List Int:=if masksB m s=true then singlesUpto m s.toNat m.length else []
theorem one_value {m:Int}(h:0≤m∧m≤30∧m % 2=0):((mvals m).length:Int)=1↔¬ onlyV m=0:=by
 rcases even_cases h with rfl|rfl|rfl|rfl|rfl|rfl|rfl|rfl|rfl|rfl|rfl|rfl|rfl|rfl|rfl|rfl <;> decide +kernel
theorem masks_len {g:List Int}{n:Nat}(h:masksB g (n:Int)=true):g.length=n * n:=by
 have h1:=masksB_len h
 exact_mod_cast h1
theorem size_nat_or {n:Nat}(h:sizeOkB (n:Int)=true):n=2∨n=3∨n=4:=by
 rcases sizeOkB_iff.1 h with h|h|h <;> omega
theorem div_idx {n i:Nat}(hi:i < 16):wrap64 (Int.tdiv (i:Int) (n:Int))=((i / n:Nat):Int):=by
 rw [Int.tdiv_eq_ediv_of_nonneg (by omega)]
 have:i / n≤i:=Nat.div_le_self i n
 have e:(i:Int) / (n:Int)=((i / n:Nat):Int):=by norm_cast
 rw [e]
 clear e
 generalize i / n=q at *
 unfold wrap64;omega
theorem mod_idx {n i:Nat}:Int.tmod (i:Int) (n:Int)=((i % n:Nat):Int):=by
 rw [Int.tmod_eq_emod_of_nonneg (by omega)]
 norm_cast
theorem l6Copy_eq {m:List Int}(h:m.length≤16):spec_l6Copy.f m=some m:=by
 unfold spec_l6Copy.f
 have:([]:List Int).length + m.length < 17592186044416:=by simp only [List.length_nil];omega
 simp only [Option.bind_some,this,if_true,List.nil_append]
theorem clone_eq {m:List Int}(h:m.length≤16):slices_Clone_int_int.f m=some m:=by
 unfold slices_Clone_int_int.f
 rw [if_pos (by omega)]

end Go.Proofs.Ytdemlminhkhonaa.Pure
namespace Go.Proofs.Ytdemlminhkhonaa.Pure
set_option linter.unusedSimpArgs false
set_option linter.unusedVariables false
open Go.RowKit Go.Proofs.YtdemlminhkhonaaW.PrintWords Go.Proofs.YtdemlminhkhonaaW.PrintMore Go.Proofs.Ytdemlminhkhonaa.P


def cntLast (m:List Int)(v:Int)(cs:List Int):Nat→Int × Int
 | 0=>(0,0)
 | t + 1=>if has (rd m (rd cs (t:Int))) v=true then ((cntLast m v cs t).1 + 1,rd cs (t:Int)) else cntLast m v cs t
theorem cntLast_spec {m:List Int}{v:Int}{cs:List Int}{N:Nat}(h0:0 < N)(hc:∀ c∈cs,0≤c∧c < (N:Int)):∀ t,t≤cs.length→0≤(cntLast m v cs t).1∧(cntLast m v cs t).1≤t∧0≤(cntLast m v cs t).2∧(cntLast m v cs t).2 < (N:Int)
 | 0,_=>by unfold cntLast;simp only;omega
 | t + 1,ht=>by
  have ih:=cntLast_spec h0 hc (v:=v) (m:=m) t (by omega)
  have hm:=hc _ (rd_mem (g:=cs) (i:=(t:Int)) (by omega) (by omega))
  unfold cntLast
  split
  ·simp only;omega
  ·omega
def hideV (m cs:List Int)(x:List Int):Nat→List Int
 | 0=>x
 | v + 1=>if (cntLast m ((v:Int) + 1) cs cs.length).1=1 then (hideV m cs x v).set (cntLast m ((v:Int) + 1) cs cs.length).2.toNat (Go.bits .and .i64 (rd (hideV m cs x v) (cntLast m ((v:Int) + 1) cs cs.length).2) (shl .i64 1 ((v:Int) + 1))) else hideV m cs x v
theorem hideV_len (m cs x:List Int):∀ v,(hideV m cs x v).length=x.length
 | 0=>rfl
 | v + 1=>by
  unfold hideV
  split
  ·rw [List.length_set];exact hideV_len m cs x v
  ·exact hideV_len m cs x v
def hideL (m:List Int)(s:Int):Nat→List Int
 | 0=>m
 | l + 1=>hideV m (lineC s (l:Int)) (hideL m s l) s.toNat
theorem hideL_len (m:List Int)(s:Int):∀ l,(hideL m s l).length=m.length
 | 0=>rfl
 | l + 1=>by unfold hideL;rw [hideV_len];exact hideL_len m s l
def narrowHidden (m:List Int)(s:Int):List Int:=if masksB m s=true then hideL m s (2 * s.toNat) else []
set_option maxHeartbeats 800000 in
theorem specHiddenN_ev {m:List Int}{n:Nat}(hm:masksB m (n:Int)=true):Ev (fun k=>spec_NarrowHidden.l0 k m (n:Int) m 0) (hideL m (n:Int) (2 * n)):=by
 have hn:=size_nat_or (masksB_size hm)
 have hlen:=masks_len hm
 have hle:=masksB_le hm
 have hpos:0 < m.length:=by rcases hn with rfl|rfl|rfl <;> omega
 have hw:wrap64 (2 * (n:Int))=((2 * n:Nat):Int):=by unfold wrap64;omega
 have:=Ev.range (L:=fun k (x:List Int) l=>spec_NarrowHidden.l0 k m (n:Int) x l) (R:=fun _ _=>hideL m (n:Int) (2 * n)) (N:=2 * n) (fun x l=>x=hideL m (n:Int) l) ?_ ?_ m 0 (Nat.zero_le _) rfl
 ·simpa using this
 ·rintro x rfl
  refine Ev.step (fun k=>spec_NarrowHidden.l0.eq_2 _ _ _ _ k) ?_
  simp only [hw,Int.lt_irrefl,if_false]
  exact Ev.now _
 ·rintro x l hl rfl ih
  refine Ev.step (fun k=>spec_NarrowHidden.l0.eq_2 _ _ _ _ k) ?_
  have h1:(l:Int) < ((2 * n:Nat):Int):=by omega
  simp only [hw,h1,if_true]
  refine Ev.bind (specLineCells_ev _ _) ?_
  have hcs:∀ c∈lineC (n:Int) (l:Int),0≤c∧c < (m.length:Int):=by
   intro c hc
   have:=lineC_mem c hc
   rw [hlen];push_cast;exact this
  have hcl:=lineC_len (n:Int) (l:Int)
  have hyl:=hideL_len m (n:Int) l
  have hstep:hideL m (n:Int) (l + 1)=hideV m (lineC (n:Int) (l:Int)) (hideL m (n:Int) l) n:=by rw [hideL,Int.toNat_natCast]
  generalize hideL m (n:Int) l=y at hyl hstep ⊢
  generalize lineC (n:Int) (l:Int)=cs at *
  have:=Ev.range (L:=fun k (x:List Int) v=>spec_NarrowHidden.l1 k m (n:Int) x (l:Int) cs (v + 1)) (R:=fun _ _=>hideL m (n:Int) (2 * n)) (N:=n) (fun x v=>x=hideV m cs y v) ?_ ?_ y 0 (Nat.zero_le _) rfl
  ·simpa using this
  ·rintro x rfl
   refine Ev.step (fun k=>spec_NarrowHidden.l1.eq_2 _ _ _ _ _ _ k) ?_
   have h2:¬ (n:Int) + 1≤(n:Int):=by omega
   simp only [h2,if_false,w64n (by omega:l < 9000000000000000000)]
   exact ih _ hstep.symm
  ·rintro x v hv rfl ihv
   refine Ev.step (fun k=>spec_NarrowHidden.l1.eq_2 _ _ _ _ _ _ k) ?_
   have h2:(v:Int) + 1≤(n:Int):=by omega
   have hw2:wrap64 ((v:Int) + 1 + 1)=((v + 1:Nat):Int) + 1:=by unfold wrap64;omega
   simp only [h2,if_true]
   have:=Ev.range (L:=fun k (p:Int × Int) t=>spec_NarrowHidden.l2 k m (n:Int) (hideV m cs y v) (l:Int) cs ((v:Int) + 1) p.1 p.2 t) (R:=fun _ _=>hideL m (n:Int) (2 * n)) (N:=cs.length) (fun p t=>p=cntLast m ((v:Int) + 1) cs t) ?_ ?_ (0,0) 0 (Nat.zero_le _) rfl
   ·simpa using this
   ·rintro p rfl
    refine Ev.step (fun k=>spec_NarrowHidden.l2.eq_2 _ _ _ _ _ _ _ _ _ k) ?_
    have hsp:=cntLast_spec (m:=m) (v:=(v:Int) + 1) hpos hcs cs.length (Nat.le_refl _)
    have hv0:(0:Int)≤(v:Int) + 1:=by omega
    have hin:(cntLast m ((v:Int) + 1) cs cs.length).2 < ((hideV m cs y v).length:Int):=by rw [hideV_len,hyl];exact hsp.2.2.2
    simp only [Int.lt_irrefl,if_false,hsp.2.2.1,hin,hv0,if_true,hw2]
    by_cases hc1:(cntLast m ((v:Int) + 1) cs cs.length).1=1
    ·simp only [hc1,if_true]
     refine ihv _ ?_
     rw [hideV,if_pos hc1]
    ·simp only [hc1,if_false]
     refine ihv _ ?_
     rw [hideV,if_neg hc1]
   ·rintro p t ht rfl iht
    refine Ev.step (fun k=>spec_NarrowHidden.l2.eq_2 _ _ _ _ _ _ _ _ _ k) ?_
    have h3:(t:Int) < (cs.length:Int):=by omega
    have h4:(0:Int)≤(t:Int):=by omega
    have hc:=hcs _ (rd_mem h4 h3)
    have hv0:(0:Int)≤(v:Int) + 1:=by omega
    have hmk:=mask_even hm (rd_mem hc.1 hc.2)
    have hsp:=cntLast_spec (m:=m) (v:=(v:Int) + 1) hpos hcs t (by omega)
    have hw3:wrap64 ((cntLast m ((v:Int) + 1) cs t).1 + 1)=(cntLast m ((v:Int) + 1) cs t).1 + 1:=by unfold wrap64;omega
    simp only [h3,h4,hc.1,hc.2,hv0,if_true,has_tmod ⟨hmk.1,hmk.2.1⟩ (by omega:0≤(v:Int) + 1∧(v:Int) + 1≤4),hw3,w64n (by omega:t < 9000000000000000000)]
    by_cases hh:has (rd m (rd cs (t:Int))) ((v:Int) + 1)=true
    ·simp only [hh,if_true]
     refine iht ((cntLast m ((v:Int) + 1) cs t).1 + 1,rd cs (t:Int)) ?_
     rw [cntLast,if_pos hh]
    ·have h01:¬ (0:Int)=1:=by decide
     simp only [hh,if_false,Bool.false_eq_true,h01]
     refine iht (cntLast m ((v:Int) + 1) cs t) ?_
     rw [cntLast,if_neg hh]
theorem specNarrowHidden_ev (m:List Int)(s:Int)(h:m.length≤35184372088832):Ev (fun k=>spec_NarrowHidden.f k m s) (narrowHidden m s):=by
 unfold spec_NarrowHidden.f narrowHidden
 refine Ev.bind (specMasksValid_ev m s h) ?_
 by_cases hm:masksB m s=true
 ·obtain ⟨hsn,_,_⟩:=size_nat (masksB_size hm)
  simp only [hm,if_true,l6Copy_eq (masksB_le hm),Option.bind_some]
  rw [← hsn] at hm
  have:=specHiddenN_ev hm
  rwa [hsn] at this
 ·simp only [hm,if_false,Bool.false_eq_true]
  exact Ev.now _
set_option maxHeartbeats 800000 in
theorem implHiddenN_ev {m:List Int}{n:Nat}(hm:masksB m (n:Int)=true):Ev (fun k=>impl_NarrowHidden.l0 k m (n:Int) m ((2 * n:Nat):Int) 0) (hideL m (n:Int) (2 * n)):=by
 have hn:=size_nat_or (masksB_size hm)
 have hlen:=masks_len hm
 have hle:=masksB_le hm
 have hpos:0 < m.length:=by rcases hn with rfl|rfl|rfl <;> omega
 have:=Ev.range (L:=fun k (x:List Int) l=>impl_NarrowHidden.l0 k m (n:Int) x ((2 * n:Nat):Int) l) (R:=fun _ _=>hideL m (n:Int) (2 * n)) (N:=2 * n) (fun x l=>x=hideL m (n:Int) l) ?_ ?_ m 0 (Nat.zero_le _) rfl
 ·simpa using this
 ·rintro x rfl
  refine Ev.step (fun k=>impl_NarrowHidden.l0.eq_2 _ _ _ _ _ k) ?_
  simp only [Int.lt_irrefl,if_false]
  exact Ev.now _
 ·rintro x l hl rfl ih
  refine Ev.step (fun k=>impl_NarrowHidden.l0.eq_2 _ _ _ _ _ k) ?_
  have h1:(l:Int) < ((2 * n:Nat):Int):=by omega
  simp only [h1,if_true]
  have hcs:∀ c∈lineC (n:Int) (l:Int),0≤c∧c < (m.length:Int):=by
   intro c hc
   have:=lineC_mem c hc
   rw [hlen];push_cast;exact this
  have hcl:=lineC_len (n:Int) (l:Int)
  have hyl:=hideL_len m (n:Int) l
  have hstep:hideL m (n:Int) (l + 1)=hideV m (lineC (n:Int) (l:Int)) (hideL m (n:Int) l) n:=by rw [hideL,Int.toNat_natCast]
  have hLC:=implLineCells_ev (n:Int) (l:Int)
  generalize hideL m (n:Int) l=y at hyl hstep ⊢
  generalize lineC (n:Int) (l:Int)=cs at *
  have:=Ev.range (L:=fun k (x:List Int) v=>impl_NarrowHidden.l1 k m (n:Int) x (l:Int) (v + 1) ((2 * n:Nat):Int) (l:Int)) (R:=fun _ _=>hideL m (n:Int) (2 * n)) (N:=n) (fun x v=>x=hideV m cs y v) ?_ ?_ y 0 (Nat.zero_le _) rfl
  ·simpa using this
  ·rintro x rfl
   refine Ev.step (fun k=>impl_NarrowHidden.l1.eq_2 _ _ _ _ _ _ _ k) ?_
   have h2:¬ (n:Int) + 1≤(n:Int):=by omega
   simp only [h2,if_false,w64n (by omega:l < 9000000000000000000)]
   exact ih _ hstep.symm
  ·rintro x v hv rfl ihv
   refine Ev.step (fun k=>impl_NarrowHidden.l1.eq_2 _ _ _ _ _ _ _ k) ?_
   have h2:(v:Int) + 1≤(n:Int):=by omega
   have hw2:wrap64 ((v:Int) + 1 + 1)=((v + 1:Nat):Int) + 1:=by unfold wrap64;omega
   simp only [h2,if_true]
   refine Ev.bind hLC ?_
   have:=Ev.range (L:=fun k (p:Int × Int) t=>impl_NarrowHidden.l2 k m (n:Int) (hideV m cs y v) (l:Int) ((v:Int) + 1) p.2 p.1 ((2 * n:Nat):Int) (l:Int) cs (cs.length:Int) t) (R:=fun _ _=>hideL m (n:Int) (2 * n)) (N:=cs.length) (fun p t=>p=cntLast m ((v:Int) + 1) cs t) ?_ ?_ (0,0) 0 (Nat.zero_le _) rfl
   ·simpa using this
   ·rintro p rfl
    refine Ev.step (fun k=>impl_NarrowHidden.l2.eq_2 _ _ _ _ _ _ _ _ _ _ _ _ k) ?_
    have hsp:=cntLast_spec (m:=m) (v:=(v:Int) + 1) hpos hcs cs.length (Nat.le_refl _)
    have hv0:(0:Int)≤(v:Int) + 1:=by omega
    have hin:(cntLast m ((v:Int) + 1) cs cs.length).2 < ((hideV m cs y v).length:Int):=by rw [hideV_len,hyl];exact hsp.2.2.2
    simp only [Int.lt_irrefl,if_false,hsp.2.2.1,hin,hv0,if_true,hw2]
    by_cases hc1:(cntLast m ((v:Int) + 1) cs cs.length).1=1
    ·simp only [hc1,if_true]
     refine ihv _ ?_
     rw [hideV,if_pos hc1]
    ·simp only [hc1,if_false]
     refine ihv _ ?_
     rw [hideV,if_neg hc1]
   ·rintro p t ht rfl iht
    refine Ev.step (fun k=>impl_NarrowHidden.l2.eq_2 _ _ _ _ _ _ _ _ _ _ _ _ k) ?_
    have h3:(t:Int) < (cs.length:Int):=by omega
    have h4:(0:Int)≤(t:Int):=by omega
    have hc:=hcs _ (rd_mem h4 h3)
    have hv0:(0:Int)≤(v:Int) + 1:=by omega
    have hmk:=mask_even hm (rd_mem hc.1 hc.2)
    have hsp:=cntLast_spec (m:=m) (v:=(v:Int) + 1) hpos hcs t (by omega)
    have hw3:wrap64 ((cntLast m ((v:Int) + 1) cs t).1 + 1)=(cntLast m ((v:Int) + 1) cs t).1 + 1:=by unfold wrap64;omega
    simp only [h3,h4,hc.1,hc.2,hv0,if_true,has_and ⟨hmk.1,hmk.2.1⟩ (by omega:0≤(v:Int) + 1∧(v:Int) + 1≤4),hw3,w64n (by omega:t < 9000000000000000000)]
    by_cases hh:has (rd m (rd cs (t:Int))) ((v:Int) + 1)=true
    ·simp only [hh,if_true]
     refine iht ((cntLast m ((v:Int) + 1) cs t).1 + 1,rd cs (t:Int)) ?_
     rw [cntLast,if_pos hh]
    ·have h01:¬ (0:Int)=1:=by decide
     simp only [hh,if_false,Bool.false_eq_true,h01]
     refine iht (cntLast m ((v:Int) + 1) cs t) ?_
     rw [cntLast,if_neg hh]
theorem implNarrowHidden_ev (m:List Int)(s:Int)(h:m.length≤35184372088832)(hw:∀ x∈m,x≤9223372036854775807):Ev (fun k=>impl_NarrowHidden.f k m s) (narrowHidden m s):=by
 unfold impl_NarrowHidden.f narrowHidden
 refine Ev.bind (implMasksValid_ev m s h hw) ?_
 by_cases hm:masksB m s=true
 ·obtain ⟨hsn,h2,h4⟩:=size_nat (masksB_size hm)
  have hw2:wrap64 (2 * s)=((2 * s.toNat:Nat):Int):=by unfold wrap64;omega
  simp only [hm,if_true,clone_eq (masksB_le hm),Option.bind_some,hw2]
  rw [← hsn] at hm
  have:=implHiddenN_ev hm
  rwa [hsn] at this
 ·simp only [hm,if_false,Bool.false_eq_true]
  exact Ev.now _

end Go.Proofs.Ytdemlminhkhonaa.Pure
namespace Go.Proofs.Ytdemlminhkhonaa.Pure
set_option linter.unusedSimpArgs false
set_option linter.unusedVariables false
open Go.RowKit Go.Proofs.YtdemlminhkhonaaW.PrintWords Go.Proofs.YtdemlminhkhonaaW.PrintMore Go.Proofs.Ytdemlminhkhonaa.P


def SeesUpto (n i k c:Nat):Prop:=c≠i∧((c / n=i / n∧c % n < k)∨(c % n=i % n∧c / n < k))
theorem seesUpto_fin:∀ n:Fin 5,2≤n.val→∀ i:Fin 16,i.val < n.val * n.val→∀ k:Fin 4,k.val < n.val→∀ c:Fin 16,c.val < n.val * n.val →
  (SeesUpto n.val i.val (k.val + 1) c.val↔(c.val≠i.val∧(c.val=k.val * n.val + i.val % n.val))∨(c.val≠i.val∧c.val=i.val / n.val * n.val + k.val)∨SeesUpto n.val i.val k.val c.val):=by
 unfold SeesUpto;decide +kernel
set_option maxHeartbeats 800000 in
theorem implSinglesN_ev {m:List Int}{n:Nat}(hm:masksB m (n:Int)=true):Ev (fun k=>impl_NarrowSingles.l0 k (n:Int) m m (m.length:Int) 0) (singlesUpto m n m.length):=by
 have hn:=size_nat_or (masksB_size hm)
 have hlen:=masks_len hm
 have hle:=masksB_le hm
 have hn0:¬ (n:Int)=0:=by omega
 have:=Ev.range (L:=fun k (x:List Int) i=>impl_NarrowSingles.l0 k (n:Int) x m (m.length:Int) i) (R:=fun _ _=>singlesUpto m n m.length) (N:=m.length) (fun x i=>x=singlesUpto m n i) ?_ ?_ m 0 (Nat.zero_le _) rfl
 ·simpa using this
 ·rintro x rfl
  refine Ev.step (fun k=>impl_NarrowSingles.l0.eq_2 _ _ _ _ _ k) ?_
  simp only [Int.lt_irrefl,if_false]
  exact Ev.now _
 ·rintro x i hi rfl ih
  refine Ev.step (fun k=>impl_NarrowSingles.l0.eq_2 _ _ _ _ _ k) ?_
  have h1:(i:Int) < (m.length:Int):=by omega
  have h0:(0:Int)≤(i:Int):=by omega
  have hmv:=mask_even hm (rd_mem h0 h1)
  simp only [h1,h0,if_true]
  refine Ev.bind (onlyValue_ev hmv) ?_
  by_cases ho:onlyV (rd m (i:Int))=0
  ·simp only [ho,if_true,w64n (by omega:i < 9000000000000000000)]
   refine ih _ ?_
   rw [singlesUpto,if_pos ho]
  ·simp only [ho,if_false]
   have hyl:=singlesUpto_len m n i
   generalize hy:singlesUpto m n i=y at hyl ⊢
   have:=Ev.range (L:=fun k (x:List Int) j=>impl_NarrowSingles.l1 k (n:Int) x (i:Int) (rd m (i:Int)) m (m.length:Int) (i:Int) (n:Int) j) (R:=fun _ _=>singlesUpto m n m.length) (N:=n)
    (fun x j=>Upd (fun z=>Go.bits .andNot .i64 z (rd m (i:Int))) (fun c=>SeesUpto n i j c) y x) ?_ ?_ y 0 (Nat.zero_le _) (Upd.start (fun c _ h=>by
     rcases h with ⟨_,⟨_,h⟩ | ⟨_,h⟩⟩ <;> exact absurd h (Nat.not_lt_zero _)))
   ·simpa using this
   ·intro x hx
    refine Ev.step (fun k=>impl_NarrowSingles.l1.eq_2 _ _ _ _ _ _ _ _ _ k) ?_
    simp only [Int.lt_irrefl,if_false,w64n (by omega:i < 9000000000000000000)]
    refine ih _ ?_
    rw [singlesUpto,if_neg ho,hy]
    refine hx.eq (takeSeen_upd n i _ _) (fun c hc=>?_)
    rw [hyl,hlen] at hc
    unfold SeesUpto Sees
    rcases hn with rfl|rfl|rfl <;> omega
   ·intro x j hj hx ihj
    refine Ev.step (fun k=>impl_NarrowSingles.l1.eq_2 _ _ _ _ _ _ _ _ _ k) ?_
    have hin:i < n * n:=by omega
    have hi16:i < 16:=by omega
    have h3:(j:Int) < (n:Int):=by omega
    have hrow:=row_idx hn hin hj
    have hcol:=col_idx hn hin hj
    obtain ⟨hr1,hc1⟩:=rowcol_lt hn hin hj
    unfold rowCell at hrow hr1
    unfold colCell at hcol hc1
    simp only [h3,hn0,if_true,if_false,hrow,hcol,Option.bind_some]
    have hfin:∀ c,c < y.length→(SeesUpto n i (j + 1) c↔(c≠i∧(c=j * n + i % n))∨(c≠i∧c=i / n * n + j)∨SeesUpto n i j c):=by
     intro c hc
     exact seesUpto_fin ⟨n,by omega⟩ (by simp only;omega) ⟨i,by omega⟩ hin ⟨j,by omega⟩ hj ⟨c,by omega⟩ (by simp only;omega)
    clear hrow hcol
    generalize hR:i / n * n + j=r at *
    generalize hC:j * n + i % n=c at *
    have hr2:(r:Int) < (x.length:Int):=by have:=hx.1;omega
    have hc2:(c:Int) < (x.length:Int):=by have:=hx.1;omega
    have hr0:(0:Int)≤(r:Int):=by omega
    have hc0:(0:Int)≤(c:Int):=by omega
    refine Ev.step (fun k=>impl_NarrowSingles.l2.eq_2 _ _ _ _ _ _ _ _ _ _ _ _ k) ?_
    have e9:(([(r:Int),(c:Int)]:List Int).length:Int)=2:=rfl
    have e0:(0:Int) < 2:=by decide
    rw [e9]
    have e00:(0:Int)≤0:=by decide
    have e1:rd [(r:Int),(c:Int)] 0=r:=rfl
    have e2:wrap64 (0 + 1)=1:=by decide +kernel
    simp only [e0,e00,e1,e2,if_true,hr0,hr2,Int.toNat_natCast]
    have hmid:∀ x',Upd (fun z=>Go.bits .andNot .i64 z (rd m (i:Int))) (fun d=>(d≠i∧d=r)∨SeesUpto n i j d) y x'→Ev (fun k=>impl_NarrowSingles.l2 k (n:Int) x' (i:Int) (rd m (i:Int)) m (m.length:Int) (i:Int) (n:Int) (j:Int) [(r:Int),(c:Int)] 2 1) (singlesUpto m n m.length):=by
     intro x' hx'
     have hc3:(c:Int) < (x'.length:Int):=by have:=hx'.1;omega
     refine Ev.step (fun k=>impl_NarrowSingles.l2.eq_2 _ _ _ _ _ _ _ _ _ _ _ _ k) ?_
     have e3:(1:Int) < 2:=by decide
     rw [e9]
     have e4:(0:Int)≤1:=by decide
     have e5:rd [(r:Int),(c:Int)] 1=c:=rfl
     have e6:wrap64 (1 + 1)=2:=by decide +kernel
     simp only [e3,e4,e5,e6,if_true,hc0,hc3,Int.toNat_natCast]
     have hlast:∀ x'',Upd (fun z=>Go.bits .andNot .i64 z (rd m (i:Int))) (fun d=>SeesUpto n i (j + 1) d) y x''→Ev (fun k=>impl_NarrowSingles.l2 k (n:Int) x'' (i:Int) (rd m (i:Int)) m (m.length:Int) (i:Int) (n:Int) (j:Int) [(r:Int),(c:Int)] 2 2) (singlesUpto m n m.length):=by
      intro x'' hx''
      refine Ev.step (fun k=>impl_NarrowSingles.l2.eq_2 _ _ _ _ _ _ _ _ _ _ _ _ k) ?_
      have e7:¬ (2:Int) < 2:=by decide
      simp only [e7,if_false,w64n (by omega:j < 9000000000000000000)]
      exact ihj _ hx''
     by_cases hci:(c:Int)=(i:Int)
     ·simp only [if_pos hci]
      refine hlast _ (hx'.skip (fun d hd=>?_))
      rw [hfin d hd]
      have hci':c=i:=by omega
      constructor
      ·rintro (h|h)
       ·exact absurd (h.2.trans hci') h.1
       ·exact h
      ·exact .inr
     ·simp only [if_neg hci]
      have hci':c≠i:=fun h=>hci (congrArg Int.ofNat h)
      refine hlast _ (hx'.set (by omega) ?_ (fun d hd=>?_) rfl)
      ·unfold SeesUpto
       have:¬ ((c≠i∧c=r)∨(c≠i∧(c / n=i / n∧c % n < j∨c % n=i % n∧c / n < j))):=by
        rcases hn with rfl|rfl|rfl <;> omega
       exact this
      ·rw [hfin d hd]
       constructor
       ·rintro (h|h)
        ·exact .inl h.2
        ·exact .inr h
       ·rintro (h|h)
        ·exact .inl ⟨by rw [h];exact hci',h⟩
        ·exact .inr h
    by_cases hri:(r:Int)=(i:Int)
    ·simp only [if_pos hri]
     have hri':r=i:=by omega
     refine hmid _ (hx.skip (fun d hd=>?_))
     constructor
     ·rintro (h|h)
      ·exact absurd (h.2.trans hri') h.1
      ·exact h
     ·exact .inr
    ·simp only [if_neg hri]
     have hri':r≠i:=fun h=>hri (congrArg Int.ofNat h)
     refine hmid _ (hx.set (by omega) ?_ (fun d hd=>?_) rfl)
     ·unfold SeesUpto
      rcases hn with rfl|rfl|rfl <;> omega
     ·constructor
      ·rintro (h|h)
       ·exact .inl h.2
       ·exact .inr h
      ·rintro (h|h)
       ·exact .inl ⟨by rw [h];exact hri',h⟩
       ·exact .inr h
theorem implNarrowSingles_ev (m:List Int)(s:Int)(h:m.length≤35184372088832)(hw:∀ x∈m,x≤9223372036854775807):Ev (fun k=>impl_NarrowSingles.f k m s) (narrowSingles m s):=by
 unfold impl_NarrowSingles.f narrowSingles
 refine Ev.bind (implMasksValid_ev m s h hw) ?_
 by_cases hm:masksB m s=true
 ·obtain ⟨hsn,_,_⟩:=size_nat (masksB_size hm)
  simp only [hm,if_true,clone_eq (masksB_le hm),Option.bind_some]
  rw [← hsn] at hm
  have:=implSinglesN_ev hm
  rwa [hsn] at this
 ·simp only [hm,if_false,Bool.false_eq_true]
  exact Ev.now _

end Go.Proofs.Ytdemlminhkhonaa.Pure
namespace Go.Proofs.Ytdemlminhkhonaa.Pure
set_option linter.unusedSimpArgs false
set_option linter.unusedVariables false
open Go.RowKit Go.Proofs.YtdemlminhkhonaaW.PrintWords Go.Proofs.YtdemlminhkhonaaW.PrintMore Go.Proofs.Ytdemlminhkhonaa.P


set_option maxHeartbeats 800000 in
theorem specSinglesN_ev {m:List Int}{n:Nat}(hm:masksB m (n:Int)=true):Ev (fun k=>spec_NarrowSingles.l0 k m (n:Int) m 0) (singlesUpto m n m.length):=by
 have hn:=size_nat_or (masksB_size hm)
 have hlen:=masks_len hm
 have hle:=masksB_le hm
 have hn0:¬ (n:Int)=0:=by omega
 have:=Ev.range (L:=fun k (x:List Int) i=>spec_NarrowSingles.l0 k m (n:Int) x i) (R:=fun _ _=>singlesUpto m n m.length) (N:=m.length) (fun x i=>x=singlesUpto m n i) ?_ ?_ m 0 (Nat.zero_le _) rfl
 ·simpa using this
 ·rintro x rfl
  refine Ev.step (fun k=>spec_NarrowSingles.l0.eq_2 _ _ _ _ k) ?_
  simp only [Int.lt_irrefl,if_false]
  exact Ev.now _
 ·rintro x i hi rfl ih
  refine Ev.step (fun k=>spec_NarrowSingles.l0.eq_2 _ _ _ _ k) ?_
  have h1:(i:Int) < (m.length:Int):=by omega
  have h0:(0:Int)≤(i:Int):=by omega
  have hmv:=mask_even hm (rd_mem h0 h1)
  simp only [h1,h0,if_true]
  refine Ev.bind (specMaskValues_ev _) ?_
  by_cases ho:onlyV (rd m (i:Int))=0
  ·have hl:¬ ((mvals (rd m (i:Int))).length:Int)=1:=fun h=>(one_value hmv).1 h ho
   simp only [hl,if_false,w64n (by omega:i < 9000000000000000000)]
   refine ih _ ?_
   rw [singlesUpto,if_pos ho]
  ·have hl:((mvals (rd m (i:Int))).length:Int)=1:=(one_value hmv).2 ho
   simp only [hl,if_true]
   have:=Ev.range (L:=fun k (x:List Int) j=>spec_NarrowSingles.l1 k m (n:Int) x (i:Int) j) (R:=fun _ _=>singlesUpto m n m.length) (N:=m.length)
    (fun x j=>Upd (fun z=>Go.bits .andNot .i64 z (rd m (i:Int))) (fun c=>Sees n i c∧c < j) (singlesUpto m n i) x) ?_ ?_ (singlesUpto m n i) 0 (Nat.zero_le _) (Upd.start (fun c _ h=>by omega))
   ·simpa using this
   ·intro x hx
    refine Ev.step (fun k=>spec_NarrowSingles.l1.eq_2 _ _ _ _ _ k) ?_
    simp only [Int.lt_irrefl,if_false,w64n (by omega:i < 9000000000000000000)]
    refine ih _ ?_
    rw [singlesUpto,if_neg ho]
    refine hx.eq (takeSeen_upd n i _ _) (fun c hc=>?_)
    rw [singlesUpto_len] at hc
    exact ⟨fun h=>h.1,fun h=>⟨h,hc⟩⟩
   ·intro x j hj hx ihj
    refine Ev.step (fun k=>spec_NarrowSingles.l1.eq_2 _ _ _ _ _ k) ?_
    have h3:(j:Int) < (m.length:Int):=by omega
    have h4:(0:Int)≤(j:Int):=by omega
    have h5:(j:Int) < (x.length:Int):=by have:=hx.1;rw [singlesUpto_len] at this;omega
    have hjl:j < (singlesUpto m n i).length:=by rw [singlesUpto_len];exact hj
    simp only [h3,h4,h5,h1,h0,hn0,if_true,if_false,div_idx (by omega:j < 16),div_idx (by omega:i < 16),mod_idx,w64n (by omega:j < 9000000000000000000),Int.toNat_natCast]
    have hskip:¬ Sees n i j→Ev (fun k=>spec_NarrowSingles.l1 k m (n:Int) x (i:Int) ((j + 1:Nat):Int)) (singlesUpto m n m.length):=by
     intro hs
     refine ihj _ (hx.skip (fun c _=>⟨fun h=>⟨h.1,?_⟩,fun h=>⟨h.1,by omega⟩⟩))
     by_cases hcj:c=j
     ·exact absurd (hcj ▸ h.1) hs
     ·omega
    have hset:Sees n i j→Ev (fun k=>spec_NarrowSingles.l1 k m (n:Int) (x.set j (Go.bits .andNot .i64 (rd x (j:Int)) (rd m (i:Int)))) (i:Int) ((j + 1:Nat):Int)) (singlesUpto m n m.length):=by
     intro hs
     refine ihj _ (hx.set hjl (fun h=>by omega) (fun c _=>⟨fun h=>?_,fun h=>?_⟩) rfl)
     ·by_cases hcj:c=j
      ·exact .inl hcj
      ·exact .inr ⟨h.1,by omega⟩
     ·rcases h with rfl|h
      ·exact ⟨hs,by omega⟩
      ·exact ⟨h.1,by omega⟩
    by_cases hji:(j:Int)=(i:Int)
    ·simp only [hji,if_true]
     exact hskip (fun h=>h.1 (by omega))
    ·simp only [hji,if_false]
     by_cases hd:((j / n:Nat):Int)=((i / n:Nat):Int)
     ·simp only [hd,if_true]
      exact hset ⟨by omega,.inl (Int.ofNat.inj hd)⟩
     ·simp only [hd,if_false]
      by_cases hd2:((j % n:Nat):Int)=((i % n:Nat):Int)
      ·simp only [hd2,if_true]
       exact hset ⟨by omega,.inr (Int.ofNat.inj hd2)⟩
      ·simp only [hd2,if_false]
       refine hskip (fun h=>?_)
       rcases h.2 with h|h
       ·exact hd (congrArg Int.ofNat h)
       ·exact hd2 (congrArg Int.ofNat h)
theorem specNarrowSingles_ev (m:List Int)(s:Int)(h:m.length≤35184372088832):Ev (fun k=>spec_NarrowSingles.f k m s) (narrowSingles m s):=by
 unfold spec_NarrowSingles.f narrowSingles
 refine Ev.bind (specMasksValid_ev m s h) ?_
 by_cases hm:masksB m s=true
 ·obtain ⟨hsn,_,_⟩:=size_nat (masksB_size hm)
  simp only [hm,if_true,l6Copy_eq (masksB_le hm),Option.bind_some]
  rw [← hsn] at hm
  have:=specSinglesN_ev hm
  rwa [hsn] at this
 ·simp only [hm,if_false,Bool.false_eq_true]
  exact Ev.now _

end Go.Proofs.Ytdemlminhkhonaa.Pure
namespace Go.Proofs.Ytdemlminhkhonaa.Pure
set_option linter.unusedSimpArgs false
set_option linter.unusedVariables false
open Go.RowKit Go.Proofs.YtdemlminhkhonaaW.PrintWords Go.Proofs.YtdemlminhkhonaaW.PrintMore


def SubM (a b:Int):Prop:=(0≤a∧a≤30∧a % 2=0)∧∀ v:Int,1≤v→v≤4→has a v=true→has b v=true
def Sub (x y:List Int):Prop:=x.length=y.length∧∀ c:Nat,c < y.length→SubM (rd x (c:Int)) (rd y (c:Int))
theorem SubM.trans {a b c:Int}(h:SubM a b)(k:SubM b c):SubM a c:=⟨h.1,fun v h1 h4 hh=>k.2 v h1 h4 (h.2 v h1 h4 hh)⟩
theorem Sub.trans {x y z:List Int}(h:Sub x y)(k:Sub y z):Sub x z:=⟨h.1.trans k.1,fun c hc=>(h.2 c (by rw [k.1];exact hc)).trans (k.2 c hc)⟩
theorem subM_key:∀ a:Fin 31,∀ b:Fin 31,(a.val:Int) % 2=0→(b.val:Int) % 2=0→(∀ v:Fin 4,has (a.val:Int) ((v.val:Int) + 1)=true→has (b.val:Int) ((v.val:Int) + 1)=true)→((b.val:Int)≤6→(a.val:Int)≤6)∧((b.val:Int)≤14→(a.val:Int)≤14):=by decide +kernel
theorem SubM.le {a b s:Int}(hs:sizeOkB s=true)(h:SubM a b)(hb:0≤b∧b≤allM s∧b % 2=0):a≤allM s:=by
 have h30:allM s≤30:=by rcases sizeOkB_iff.1 hs with rfl|rfl|rfl <;> decide
 have hk:=subM_key ⟨a.toNat,by have:=h.1;omega⟩ ⟨b.toNat,by omega⟩ (by simp only;have:=h.1;omega) (by simp only;omega) (fun v hv=>by
  have e1:((a.toNat:Nat):Int)=a:=by have:=h.1;omega
  have e2:((b.toNat:Nat):Int)=b:=by omega
  simp only [e1] at hv
  simp only [e2]
  exact h.2 ((v.val:Int) + 1) (by omega) (by omega) hv)
 simp only [show ((a.toNat:Nat):Int)=a by have:=h.1;omega,show ((b.toNat:Nat):Int)=b by omega] at hk
 rcases sizeOkB_iff.1 hs with rfl|rfl|rfl
 ·exact hk.1 hb.2.1
 ·exact hk.2 hb.2.1
 ·exact h.1.2.1
theorem Sub.masks {m r:List Int}{s:Int}(h:Sub r m)(hm:masksB m s=true):masksB r s=true:=by
 have hs:=masksB_size hm
 have hl:=masksB_len hm
 unfold masksB
 rw [hs,Bool.true_and,Bool.and_eq_true,decide_eq_true_eq,List.all_eq_true]
 refine ⟨by rw [h.1];exact hl,fun v hv=>?_⟩
 obtain ⟨c,hc,rfl⟩:=List.getElem_of_mem hv
 have hcm:c < m.length:=by rw [← h.1];exact hc
 have a:=h.2 c hcm
 rw [rd_lt hc,rd_lt hcm] at a
 rw [decide_eq_true_eq]
 exact ⟨a.1.1,a.le hs (masksB_mem hm m[c] (List.getElem_mem hcm)),a.1.2.2⟩
theorem masks_at {m:List Int}{s:Int}(hm:masksB m s=true){c:Nat}(hc:c < m.length):0≤rd m (c:Int)∧rd m (c:Int)≤30∧rd m (c:Int) % 2=0:=by
 rw [rd_lt hc]
 have h:=masksB_mem hm m[c] (List.getElem_mem hc)
 have h30:allM s≤30:=by rcases sizeOkB_iff.1 (masksB_size hm) with rfl|rfl|rfl <;> decide
 omega
theorem Sub.refl {m:List Int}{s:Int}(hm:masksB m s=true):Sub m m:=⟨rfl,fun c hc=>⟨masks_at hm hc,fun _ _ _ h=>h⟩⟩
theorem mem_mvals {m x:Int}(hm:0≤m∧m≤30∧m % 2=0):x∈mvals m↔(1≤x∧x≤4)∧has m x=true:=by
 unfold mvals has
 rw [if_pos hm,List.mem_filter]
 constructor
 ·rintro ⟨h1,h2⟩
  refine ⟨?_,h2⟩
  simp at h1
  omega
 ·rintro ⟨h1,h2⟩
  refine ⟨?_,h2⟩
  have:x=1∨x=2∨x=3∨x=4:=by omega
  rcases this with rfl|rfl|rfl|rfl <;> simp
theorem or_sub_fin:∀ a:Fin 31,∀ v:Fin 5,a.val % 2=0→1≤v.val→(0≤Go.bits .or .i64 (a.val:Int) (shl .i64 1 (v.val:Int))∧Go.bits .or .i64 (a.val:Int) (shl .i64 1 (v.val:Int))≤30∧Go.bits .or .i64 (a.val:Int) (shl .i64 1 (v.val:Int)) % 2=0)∧∀ u:Fin 5,has (Go.bits .or .i64 (a.val:Int) (shl .i64 1 (v.val:Int))) (u.val:Int)=true→has (a.val:Int) (u.val:Int)=true∨u=v:=by decide +kernel
theorem SubM.or {a b v:Int}(h:SubM a b)(hv:1≤v∧v≤4)(hb:has b v=true):SubM (Go.bits .or .i64 a (shl .i64 1 v)) b:=by
 have hf:=or_sub_fin ⟨a.toNat,by have:=h.1;omega⟩ ⟨v.toNat,by omega⟩ (by simp only;have:=h.1;omega) (by simp only;omega)
 simp only [show ((a.toNat:Nat):Int)=a by have:=h.1;omega,show ((v.toNat:Nat):Int)=v by omega] at hf
 refine ⟨hf.1,fun u h1 h4 hu=>?_⟩
 have:=hf.2 ⟨u.toNat,by omega⟩
 simp only [show ((u.toNat:Nat):Int)=u by omega] at this
 rcases this hu with h5|h5
 ·exact h.2 u h1 h4 h5
 ·have e:u=v:=by
   have:=congrArg Fin.val h5
   simp only at this
   omega
  rw [e];exact hb

end Go.Proofs.Ytdemlminhkhonaa.Pure
namespace Go.Proofs.Ytdemlminhkhonaa.Pure
set_option linter.unusedSimpArgs false
set_option linter.unusedVariables false
open Go.RowKit Go.Proofs.YtdemlminhkhonaaW.PrintWords Go.Proofs.YtdemlminhkhonaaW.PrintMore


theorem orP_sub {own vals:List Int}(hown:∀ m∈own,0≤m∧m≤30∧m % 2=0):∀ (d i:Nat) (out:List Int),Sub out own→i + d≤own.length→(∀ j:Nat,i≤j→j < i + d→rd vals (j:Int)∈mvals (rd own (j:Int)))→Sub (orP vals d (i:Int) out) own
 | 0,i,out,h,_,_=>by unfold orP;exact h
 | d + 1,i,out,h,hid,hv=>by
  unfold orP
  rw [show (i:Int) + 1=((i + 1:Nat):Int) by omega,Int.toNat_natCast]
  refine orP_sub hown d (i + 1) _ ⟨by rw [List.length_set];exact h.1,fun c hc=>?_⟩ (by omega) (fun j h1 h2=>hv j (by omega) (by omega))
  have hi:i < out.length:=by have:=h.1;omega
  rw [rd_set hi]
  by_cases e:c=i
  ·rw [if_pos e,e]
   have hio:i < own.length:=by omega
   have hm:=hown (rd own (i:Int)) (rd_mem (by omega) (by omega))
   have:=(mem_mvals hm).1 (hv i (Nat.le_refl _) (by omega))
   exact (h.2 i hio).or this.1 this.2
  ·rw [if_neg e]
   exact h.2 c hc
theorem foldl_inv {β:Type}{f:β→Int→β}{P:β→Prop}:∀ (l:List Int) (o:β),(∀ o x,x∈l→P o→P (f o x))→P o→P (l.foldl f o)
 | [],_,_,h=>h
 | x :: l,o,hf,h=>by rw [List.foldl_cons];exact foldl_inv l _ (fun o y hy hp=>hf o y (List.mem_cons_of_mem _ hy) hp) (hf o x List.mem_cons_self h)
theorem rd_append_lt {a b:List Int}{j:Nat}(h:j < a.length):rd (a ++ b) (j:Int)=rd a (j:Int):=by
 rw [rd_lt (by rw [List.length_append];omega),rd_lt h,List.getElem_append_left]
theorem rd_append_at {a:List Int}{x:Int}:rd (a ++ [x]) (a.length:Int)=x:=by
 rw [rd_lt (by simp)];simp
theorem waysM_sub {kind v:Int}{own:List Int}(hown:∀ m∈own,0≤m∧m≤30∧m % 2=0):∀ (d:Nat) (pre out:List Int),pre.length + d=own.length→(∀ j:Nat,j < pre.length→rd pre (j:Int)∈mvals (rd own (j:Int)))→Sub out own→Sub (waysM kind v own d pre out) own
 | 0,pre,out,hp,hv,h=>by
  unfold waysM
  split
  ·exact orP_sub hown pre.length 0 out h (by omega) (fun j _ hj=>hv j (by omega))
  ·exact h
 | d + 1,pre,out,hp,hv,h=>by
  unfold waysM
  refine foldl_inv _ _ (fun o x hx ho=>waysM_sub hown d (pre ++ [x]) o (by simp;omega) (fun j hj=>?_) ho) h
  by_cases e:j=pre.length
  ·subst e
   rw [rd_append_at];exact hx
  ·have:j < pre.length:=by rw [List.length_append,List.length_singleton] at hj;omega
   rw [rd_append_lt this];exact hv j this
theorem zeros_sub {own:List Int}:Sub (List.replicate own.length 0) own:=by
 refine ⟨by simp,fun c hc=>?_⟩
 have e:rd (List.replicate own.length 0) (c:Int)=0:=by rw [rd_lt (by simpa using hc)];simp
 rw [e]
 refine ⟨by decide,fun v h1 h4 hh=>?_⟩
 have:v=1∨v=2∨v=3∨v=4:=by omega
 rcases this with rfl|rfl|rfl|rfl <;> exact absurd hh (by decide)
theorem ruleMasks_sub {kind:Int}{cs:List Int}{v:Int}{masks:List Int}{s:Int}(hr:ruleB kind cs v s=true)(hm:masksB masks s=true):Sub (ruleMasks kind cs v masks s) (cs.map (fun c=>rd masks c)):=by
 unfold ruleMasks
 rw [if_pos ⟨hr,hm⟩]
 have hlen:(cs.map (fun c=>rd masks c)).length=cs.length:=List.length_map _
 have hcells:=rule_cells hr (masksB_len hm)
 have h30:=allM_30 (masksB_size hm)
 have hz:=zeros_sub (own:=cs.map (fun c=>rd masks c))
 rw [hlen] at hz
 refine waysM_sub (fun m hmm=>?_) cs.length [] _ (by rw [hlen];simp) (fun j hj=>absurd hj (by simp)) hz
 obtain ⟨c,hc,rfl⟩:=List.mem_map.1 hmm
 obtain ⟨c0,c1⟩:=hcells c hc
 have:=masksB_mem hm _ (rd_mem c0 c1)
 omega

end Go.Proofs.Ytdemlminhkhonaa.Pure
namespace Go.Proofs.Ytdemlminhkhonaa.Pure
set_option linter.unusedSimpArgs false
set_option linter.unusedVariables false
open Go.RowKit Go.Proofs.YtdemlminhkhonaaW.PrintWords Go.Proofs.YtdemlminhkhonaaW.PrintMore Go.Proofs.Ytdemlminhkhonaa.P


def setUpto (cs f:List Int)(x:List Int):Nat→List Int
 | 0=>x
 | j + 1=>(setUpto cs f x j).set (rd cs (j:Int)).toNat (rd f (j:Int))
theorem setUpto_sub {cs f x:List Int}(hx:∀ c:Nat,c < x.length→SubM (rd x (c:Int)) (rd x (c:Int)))(hc:∀ c∈cs,0≤c∧c < (x.length:Int))(hf:Sub f (cs.map (fun c=>rd x c))):∀ j,j≤cs.length→Sub (setUpto cs f x j) x
 | 0,_=>⟨rfl,hx⟩
 | j + 1,hj=>by
  have ih:=setUpto_sub hx hc hf j (by omega)
  obtain ⟨c0,c1⟩:=hc _ (rd_mem (g:=cs) (i:=(j:Int)) (by omega) (by omega))
  unfold setUpto
  refine ⟨by rw [List.length_set];exact ih.1,fun c hcl=>?_⟩
  obtain ⟨q,hq⟩:=Int.eq_ofNat_of_zero_le c0
  rw [hq,Int.toNat_natCast,rd_set (by rw [ih.1];omega)]
  by_cases e:c=q
  ·rw [if_pos e]
   have:=hf.2 j (by rw [List.length_map];omega)
   rw [rd_lt (xs:=cs.map (fun c=>rd x c)) (by rw [List.length_map];omega),List.getElem_map,← rd_lt (by omega:j < cs.length),hq,← e] at this
   exact this
  ·rw [if_neg e];exact ih.2 c hcl
def narrowRule (r:S67)(s:Int)(x:List Int):List Int:=setUpto r.f1 (ruleMasks r.f0 r.f1 r.f2 x s) x r.f1.length
theorem narrowRule_sub {r:S67}{s:Int}{x:List Int}(hr:ruleB r.f0 r.f1 r.f2 s=true)(hm:masksB x s=true):Sub (narrowRule r s x) x:=setUpto_sub (fun c hc=>⟨masks_at hm hc,fun _ _ _ h=>h⟩) (rule_cells hr (masksB_len hm)) (ruleMasks_sub hr hm) _ (Nat.le_refl _)
def narrowR (s:Int)(rs:List S67)(x:List Int):List Int:=rs.foldl (fun o r=>narrowRule r s o) x
theorem narrowR_sub {s:Int}:∀ (rs:List S67) {x:List Int},rulesB rs s=true→masksB x s=true→Sub (narrowR s rs x) x
 | [],x,_,hm=>Sub.refl hm
 | r :: rs,x,hr,hm=>by
  unfold rulesB at hr
  rw [List.all_cons,Bool.and_eq_true] at hr
  have h1:=narrowRule_sub hr.1 hm
  exact (narrowR_sub rs (x:=narrowRule r s x) hr.2 (h1.masks hm)).trans h1
def narrowRules (s:Int)(g:List Int)(rs:List S67)(m:List Int):List Int:=if puzzleB s g rs=true∧masksB m s=true then narrowR s rs m else []
def startMasks (s:Int)(g:List Int)(rs:List S67):List Int:=if puzzleB s g rs=true then gridMasks g s else []
theorem puzzleB_p3 {s:Int}{g:List Int}{rs:List S67}(h:puzzleB s g rs=true):gridB g s=true∧rs.length≤20∧rulesB rs s=true:=by
 unfold puzzleB at h
 simp only [Bool.and_eq_true,decide_eq_true_eq] at h
 exact ⟨h.1,by omega,h.2.2⟩
theorem narrowR_drop {s:Int}{rs:List S67}{i:Nat}(h:i < rs.length)(x:List Int):narrowR s (rs.drop i) x=narrowR s (rs.drop (i + 1)) (narrowRule rs[i] s x):=by
 unfold narrowR
 rw [List.drop_eq_getElem_cons h,List.foldl_cons]
theorem rulesB_at {rs:List S67}{s:Int}(h:rulesB rs s=true){i:Nat}(hi:i < rs.length):ruleB rs[i].f0 rs[i].f1 rs[i].f2 s=true:=by
 unfold rulesB at h
 exact List.all_eq_true.1 h _ (List.getElem_mem hi)

end Go.Proofs.Ytdemlminhkhonaa.Pure
namespace Go.Proofs.Ytdemlminhkhonaa.Pure
set_option linter.unusedSimpArgs false
set_option linter.unusedVariables false
open Go.RowKit Go.Proofs.YtdemlminhkhonaaW.PrintWords Go.Proofs.YtdemlminhkhonaaW.PrintMore Go.Proofs.Ytdemlminhkhonaa.P


theorem implNarrowRules_ev (s:Int)(g:List Int)(rs:List S67)(m:List Int)(hg:g.length≤1048576)(hl:rs.length≤1048576)(hr:∀ x∈rs,x.f1.length≤1048576)(hml:m.length≤1048576)(hw:∀ x∈m,x≤9223372036854775807):Ev (fun k=>impl_NarrowRules.f k s g rs m) (narrowRules s g rs m):=by
 unfold impl_NarrowRules.f narrowRules
 have hno:Ev (fun k=>impl_NarrowRules.j0 k m true s g rs) []:=by
  refine Ev.step (fun k=>impl_NarrowRules.j0.eq_2 _ _ _ _ _ k) ?_
  simp only [if_true];exact Ev.now _
 refine Ev.bind (implPuzzleValid_ev s g rs hg hl hr) ?_
 by_cases hp:puzzleB s g rs=true
 ·simp only [hp,if_true,true_and]
  refine Ev.bind (implMasksValid_ev m s (by omega) hw) ?_
  by_cases hm:masksB m s=true
  ·simp only [hm,if_true,Bool.not_true]
   refine Ev.step (fun k=>impl_NarrowRules.j0.eq_2 _ _ _ _ _ k) ?_
   simp only [Bool.false_eq_true,if_false,clone_eq (masksB_le hm),Option.bind_some]
   obtain ⟨_,h20,hrs⟩:=puzzleB_p3 hp
   have:=Ev.range (L:=fun k (x:List Int) i=>impl_NarrowRules.l0 k x rs (rs.length:Int) i s g rs) (R:=fun x i=>narrowR s (rs.drop i) x) (N:=rs.length) (fun x _=>masksB x s=true) ?_ ?_ m 0 (Nat.zero_le _) hm
   ·simpa using this
   ·intro x hx
    refine Ev.step (fun k=>impl_NarrowRules.l0.eq_2 _ _ _ _ _ _ _ k) ?_
    simp only [Int.lt_irrefl,if_false,List.drop_length]
    exact Ev.now _
   ·intro x i hi hx ih
    refine Ev.step (fun k=>impl_NarrowRules.l0.eq_2 _ _ _ _ _ _ _ k) ?_
    have h1:(i:Int) < (rs.length:Int):=by omega
    have h0:(0:Int)≤(i:Int):=by omega
    have hri:=rulesB_at hrs hi
    have h4:=ruleB_len hri
    have hcells:=rule_cells hri (masksB_len hx)
    have hxl:=masksB_le hx
    have hxw:∀ z∈x,z≤9223372036854775807:=fun z hz=>by have:=mask_even hx hz;omega
    simp only [h1,h0,if_true,rdI rs hi]
    refine Ev.bind (implRuleMasks_ev rs[i].f0 rs[i].f1 rs[i].f2 x s (by omega) (by omega) hxw) ?_
    have hfl:=ruleMasks_lenEq ⟨hri,hx⟩
    rw [narrowR_drop hi,hfl]
    have hsub:=setUpto_sub (fun c hc=>⟨masks_at hx hc,fun _ _ _ h=>h⟩) hcells (ruleMasks_sub hri hx)
    have:=Ev.range (L:=fun k (y:List Int) j=>impl_NarrowRules.l1 k y rs (rs.length:Int) (i:Int) (ruleMasks rs[i].f0 rs[i].f1 rs[i].f2 x s) (rs[i].f1.length:Int) j s g rs rs[i].f0 rs[i].f1 rs[i].f2) (R:=fun _ _=>narrowR s (rs.drop (i + 1)) (narrowRule rs[i] s x)) (N:=rs[i].f1.length) (fun y j=>j≤rs[i].f1.length∧y=setUpto rs[i].f1 (ruleMasks rs[i].f0 rs[i].f1 rs[i].f2 x s) x j) ?_ ?_ x 0 (Nat.zero_le _) ⟨Nat.zero_le _,rfl⟩
    ·simpa using this
    ·rintro y ⟨_,rfl⟩
     refine Ev.step (fun k=>impl_NarrowRules.l1.eq_2 _ _ _ _ _ _ _ _ _ _ _ _ _ k) ?_
     simp only [Int.lt_irrefl,if_false,w64n (by omega:i < 9000000000000000000)]
     exact ih _ ((narrowRule_sub hri hx).masks hx)
    ·rintro y j hj ⟨hj2,rfl⟩ ihj
     refine Ev.step (fun k=>impl_NarrowRules.l1.eq_2 _ _ _ _ _ _ _ _ _ _ _ _ _ k) ?_
     have g1:(j:Int) < (rs[i].f1.length:Int):=by omega
     have g0:(0:Int)≤(j:Int):=by omega
     have g2:(j:Int) < ((ruleMasks rs[i].f0 rs[i].f1 rs[i].f2 x s).length:Int):=by omega
     obtain ⟨c0,c1⟩:=hcells _ (rd_mem g0 g1)
     have g3:rd rs[i].f1 (j:Int) < ((setUpto rs[i].f1 (ruleMasks rs[i].f0 rs[i].f1 rs[i].f2 x s) x j).length:Int):=by rw [(hsub j hj2).1];exact c1
     simp only [g1,g0,g2,c0,g3,if_true,w64n (by omega:j < 9000000000000000000)]
     exact ihj _ ⟨by omega,rfl⟩
  ·simp only [hm,if_false,eq_false_of_ne_true hm,Bool.not_false,Bool.false_eq_true]
   exact hno
 ·simp only [hp,if_false,false_and,Bool.false_eq_true]
  exact hno

end Go.Proofs.Ytdemlminhkhonaa.Pure
namespace Go.Proofs.Ytdemlminhkhonaa.Pure
set_option linter.unusedSimpArgs false
set_option linter.unusedVariables false
open Go.RowKit Go.Proofs.YtdemlminhkhonaaW.PrintWords Go.Proofs.YtdemlminhkhonaaW.PrintMore Go.Proofs.Ytdemlminhkhonaa.P


theorem specNarrowRules_ev (s:Int)(g:List Int)(rs:List S67)(m:List Int)(hg:g.length≤1048576)(hl:rs.length≤1048576)(hr:∀ x∈rs,x.f1.length≤1048576)(hml:m.length≤1048576):Ev (fun k=>spec_NarrowRules.f k s g rs m) (narrowRules s g rs m):=by
 unfold spec_NarrowRules.f narrowRules
 have hno:Ev (fun k=>spec_NarrowRules.j0 k m true s g rs) []:=by
  refine Ev.step (fun k=>spec_NarrowRules.j0.eq_2 _ _ _ _ _ k) ?_
  simp only [if_true];exact Ev.now _
 refine Ev.bind (specPuzzleValid_ev s g rs hg hl hr) ?_
 by_cases hp:puzzleB s g rs=true
 ·simp only [hp,if_true,true_and]
  refine Ev.bind (specMasksValid_ev m s (by omega)) ?_
  by_cases hm:masksB m s=true
  ·simp only [hm,if_true,Bool.not_true]
   refine Ev.step (fun k=>spec_NarrowRules.j0.eq_2 _ _ _ _ _ k) ?_
   simp only [Bool.false_eq_true,if_false,l6Copy_eq (masksB_le hm),Option.bind_some]
   obtain ⟨_,h20,hrs⟩:=puzzleB_p3 hp
   have:=Ev.range (L:=fun k (x:List Int) i=>spec_NarrowRules.l0 k x i s g rs) (R:=fun x i=>narrowR s (rs.drop i) x) (N:=rs.length) (fun x _=>masksB x s=true) ?_ ?_ m 0 (Nat.zero_le _) hm
   ·simpa using this
   ·intro x hx
    refine Ev.step (fun k=>spec_NarrowRules.l0.eq_2 _ _ _ _ _ k) ?_
    simp only [Int.lt_irrefl,if_false,List.drop_length]
    exact Ev.now _
   ·intro x i hi hx ih
    refine Ev.step (fun k=>spec_NarrowRules.l0.eq_2 _ _ _ _ _ k) ?_
    have h1:(i:Int) < (rs.length:Int):=by omega
    have h0:(0:Int)≤(i:Int):=by omega
    have hri:=rulesB_at hrs hi
    have h4:=ruleB_len hri
    have hcells:=rule_cells hri (masksB_len hx)
    have hxl:=masksB_le hx
    simp only [h1,h0,if_true,rdI rs hi]
    refine Ev.bind (specRuleMasks_ev rs[i].f0 rs[i].f1 rs[i].f2 x s (by omega) (by omega)) ?_
    have hfl:=ruleMasks_lenEq ⟨hri,hx⟩
    rw [narrowR_drop hi]
    have hsub:=setUpto_sub (fun c hc=>⟨masks_at hx hc,fun _ _ _ h=>h⟩) hcells (ruleMasks_sub hri hx)
    have:=Ev.range (L:=fun k (y:List Int) j=>spec_NarrowRules.l1 k y (i:Int) (ruleMasks rs[i].f0 rs[i].f1 rs[i].f2 x s) j s g rs rs[i].f0 rs[i].f1 rs[i].f2) (R:=fun _ _=>narrowR s (rs.drop (i + 1)) (narrowRule rs[i] s x)) (N:=rs[i].f1.length) (fun y j=>j≤rs[i].f1.length∧y=setUpto rs[i].f1 (ruleMasks rs[i].f0 rs[i].f1 rs[i].f2 x s) x j) ?_ ?_ x 0 (Nat.zero_le _) ⟨Nat.zero_le _,rfl⟩
    ·simpa using this
    ·rintro y ⟨_,rfl⟩
     refine Ev.step (fun k=>spec_NarrowRules.l1.eq_2 _ _ _ _ _ _ _ _ _ _ k) ?_
     simp only [Int.lt_irrefl,if_false,w64n (by omega:i < 9000000000000000000)]
     exact ih _ ((narrowRule_sub hri hx).masks hx)
    ·rintro y j hj ⟨hj2,rfl⟩ ihj
     refine Ev.step (fun k=>spec_NarrowRules.l1.eq_2 _ _ _ _ _ _ _ _ _ _ k) ?_
     have g1:(j:Int) < (rs[i].f1.length:Int):=by omega
     have g0:(0:Int)≤(j:Int):=by omega
     have g2:(j:Int) < ((ruleMasks rs[i].f0 rs[i].f1 rs[i].f2 x s).length:Int):=by omega
     obtain ⟨c0,c1⟩:=hcells _ (rd_mem g0 g1)
     have g3:rd rs[i].f1 (j:Int) < ((setUpto rs[i].f1 (ruleMasks rs[i].f0 rs[i].f1 rs[i].f2 x s) x j).length:Int):=by rw [(hsub j hj2).1];exact c1
     simp only [g1,g0,g2,c0,g3,if_true,w64n (by omega:j < 9000000000000000000)]
     exact ihj _ ⟨by omega,rfl⟩
  ·simp only [hm,if_false,eq_false_of_ne_true hm,Bool.not_false,Bool.false_eq_true]
   exact hno
 ·simp only [hp,if_false,false_and,Bool.false_eq_true]
  exact hno

end Go.Proofs.Ytdemlminhkhonaa.Pure
namespace Go.Proofs.Ytdemlminhkhonaa.Pure
set_option linter.unusedSimpArgs false
set_option linter.unusedVariables false
open Go.RowKit Go.Proofs.YtdemlminhkhonaaW.PrintWords Go.Proofs.YtdemlminhkhonaaW.PrintMore


theorem andNot_has_fin:∀ a:Fin 31,∀ b:Fin 31,a.val % 2=0→(0≤Go.bits .andNot .i64 (a.val:Int) (b.val:Int)∧Go.bits .andNot .i64 (a.val:Int) (b.val:Int)≤30∧Go.bits .andNot .i64 (a.val:Int) (b.val:Int) % 2=0)∧∀ v:Fin 5,has (Go.bits .andNot .i64 (a.val:Int) (b.val:Int)) (v.val:Int)=(has (a.val:Int) (v.val:Int) && !has (b.val:Int) (v.val:Int)):=by decide +kernel
theorem andNot_has {a b:Int}(ha:0≤a∧a≤30∧a % 2=0)(hb:0≤b∧b≤30):(0≤Go.bits .andNot .i64 a b∧Go.bits .andNot .i64 a b≤30∧Go.bits .andNot .i64 a b % 2=0)∧∀ v:Int,0≤v→v≤4→has (Go.bits .andNot .i64 a b) v=(has a v && !has b v):=by
 have h:=andNot_has_fin ⟨a.toNat,by omega⟩ ⟨b.toNat,by omega⟩ (by simp only;omega)
 simp only [show ((a.toNat:Nat):Int)=a by omega,show ((b.toNat:Nat):Int)=b by omega] at h
 refine ⟨h.1,fun v h0 h4=>?_⟩
 have:=h.2 ⟨v.toNat,by omega⟩
 simp only [show ((v.toNat:Nat):Int)=v by omega] at this
 exact this
def Clr (m out:List Int)(D:Nat→Int→Prop):Prop:=out.length=m.length∧∀ c:Nat,c < m.length→(0≤rd out (c:Int)∧rd out (c:Int)≤30∧rd out (c:Int) % 2=0)∧∀ v:Int,1≤v→v≤4→(has (rd out (c:Int)) v=true↔has (rd m (c:Int)) v=true∧¬ D c v)
theorem Clr.congr {m out:List Int}{D D':Nat→Int→Prop}(h:Clr m out D)(he:∀ c v,D c v↔D' c v):Clr m out D':=by
 have:D=D':=funext fun c=>funext fun v=>propext (he c v)
 rwa [← this]
theorem Clr.step {m out:List Int}{D:Nat→Int→Prop}(h:Clr m out D){c0:Nat}(hc:c0 < m.length){x:Int}(hx:0≤x∧x≤30):Clr m (out.set c0 (Go.bits .andNot .i64 (rd out (c0:Int)) x)) (fun c v=>D c v∨(c=c0∧has x v=true)):=by
 obtain ⟨h1,h2⟩:=h
 refine ⟨by rw [List.length_set];exact h1,fun c hcl=>?_⟩
 obtain ⟨a1,a2⟩:=h2 c hcl
 by_cases e:c=c0
 ·subst e
  have han:=andNot_has a1 hx
  have er:rd (out.set c (Go.bits .andNot .i64 (rd out (c:Int)) x)) (c:Int)=Go.bits .andNot .i64 (rd out (c:Int)) x:=by
   rw [rd_lt (by rw [List.length_set];omega)];simp
  rw [er]
  refine ⟨han.1,fun v v1 v4=>?_⟩
  rw [han.2 v (by omega) v4,Bool.and_eq_true,a2 v v1 v4]
  cases hh:has x v <;> simp [hh]
 ·have er:rd (out.set c0 (Go.bits .andNot .i64 (rd out (c0:Int)) x)) (c:Int)=rd out (c:Int):=by
   rw [rd_nat,List.getD_eq_getElem?_getD,List.getElem?_set_ne (fun q=>e q.symm),← List.getD_eq_getElem?_getD,← rd_nat]
  rw [er]
  refine ⟨a1,fun v v1 v4=>?_⟩
  rw [a2 v v1 v4]
  simp [e]
theorem Clr.uniq {m a b:List Int}{D:Nat→Int→Prop}(h:Clr m a D)(k:Clr m b D):a=b:=by
 apply List.ext_getElem (by rw [h.1,k.1])
 intro c h1 h2
 have hc:c < m.length:=by rw [← h.1];exact h1
 obtain ⟨a1,a2⟩:=h.2 c hc
 obtain ⟨b1,b2⟩:=k.2 c hc
 have:=mask_ext a1 b1 (fun v v1 v4=>by
  have:=(a2 v v1 v4).trans (b2 v v1 v4).symm
  cases ha:has (rd a (c:Int)) v <;> cases hb:has (rd b (c:Int)) v <;> simp_all)
 rwa [rd_lt h1,rd_lt h2] at this
theorem Ev.loopE {σ α : Type} {L : Nat → σ → Int → Option α} {N : Nat} (P : σ → Nat → Prop) (Q : α → Prop) (hend : ∀ s, P s N → ∃ r, Q r ∧ Ev (fun k => L k s (N : Int)) r) (hstep : ∀ s n, n < N → P s n → (∀ s', P s' (n + 1) → ∃ r, Q r ∧ Ev (fun k => L k s' ((n + 1 : Nat) : Int)) r) → ∃ r, Q r ∧ Ev (fun k => L k s (n : Int)) r) : ∀ d s n, n + d = N → P s n → ∃ r, Q r ∧ Ev (fun k => L k s (n : Int)) r
  | 0, s, n, h, hp => by obtain rfl : n = N := by omega
                         exact hend s hp
  | d + 1, s, n, h, hp => hstep s n (by omega) hp (fun s' hp' => Ev.loopE P Q hend hstep d s' (n + 1) (by omega) hp')
def pairB (m:List Int)(n l i j:Nat):Prop:=rd m (lineCell n l i:Nat)=rd m (lineCell n l j:Nat)∧((mvals (rd m (lineCell n l j:Nat))).length:Int)=2
def clears (m:List Int)(n l i j k:Nat)(c:Nat)(v:Int):Prop:=pairB m n l i j∧k≠i∧k≠j∧c=lineCell n l k∧has (rd m (lineCell n l j:Nat)) v=true
def clearL (m:List Int)(n l:Nat)(c:Nat)(v:Int):Prop:=∃ l',l' < l∧∃ i j k,i < n∧j < i∧k < n∧clears m n l' i j k c v
def clearI (m:List Int)(n l i:Nat)(c:Nat)(v:Int):Prop:=clearL m n l c v∨∃ i' j k,i' < i∧i' < n∧j < i'∧k < n∧clears m n l i' j k c v
def clearJ (m:List Int)(n l i j:Nat)(c:Nat)(v:Int):Prop:=clearI m n l i c v∨∃ j' k,j' < j∧k < n∧clears m n l i j' k c v
def clearK (m:List Int)(n l i j k:Nat)(c:Nat)(v:Int):Prop:=clearJ m n l i j c v∨∃ k',k' < k∧clears m n l i j k' c v
theorem clearK_zero {m:List Int}{n l i j:Nat}:∀ c v,clearJ m n l i j c v↔clearK m n l i j 0 c v:=by
 intro c v;unfold clearK;constructor
 ·exact .inl
 ·rintro (h | ⟨k,h,_⟩)
  ·exact h
  ·omega
theorem clearK_succ {m:List Int}{n l i j k:Nat}:∀ c v,(clearK m n l i j k c v∨clears m n l i j k c v)↔clearK m n l i j (k + 1) c v:=by
 intro c v;unfold clearK;constructor
 ·rintro ((h | ⟨q,h,h2⟩)|h)
  ·exact .inl h
  ·exact .inr ⟨q,by omega,h2⟩
  ·exact .inr ⟨k,by omega,h⟩
 ·rintro (h | ⟨q,h,h2⟩)
  ·exact .inl (.inl h)
  ·by_cases e:q=k
   ·subst e;exact .inr h2
   ·exact .inl (.inr ⟨q,by omega,h2⟩)
theorem clearJ_succ {m:List Int}{n l i j:Nat}:∀ c v,clearK m n l i j n c v↔clearJ m n l i (j + 1) c v:=by
 intro c v;unfold clearK clearJ;constructor
 ·rintro ((h | ⟨q,k,h,h2⟩) | ⟨k,h,h2⟩)
  ·exact .inl h
  ·exact .inr ⟨q,k,by omega,h2⟩
  ·exact .inr ⟨j,k,by omega,h,h2⟩
 ·rintro (h | ⟨q,k,h,hk,h2⟩)
  ·exact .inl (.inl h)
  ·by_cases e:q=j
   ·subst e;exact .inr ⟨k,hk,h2⟩
   ·exact .inl (.inr ⟨q,k,by omega,hk,h2⟩)
theorem clearJ_skip {m:List Int}{n l i j:Nat}(hp:¬ pairB m n l i j):∀ c v,clearJ m n l i j c v↔clearJ m n l i (j + 1) c v:=by
 intro c v
 rw [← clearJ_succ]
 unfold clearK
 constructor
 ·exact .inl
 ·rintro (h | ⟨k,_,h⟩)
  ·exact h
  ·exact absurd h.1 hp
theorem clearJ_zero {m:List Int}{n l i:Nat}:∀ c v,clearI m n l i c v↔clearJ m n l i 0 c v:=by
 intro c v;unfold clearJ;constructor
 ·exact .inl
 ·rintro (h | ⟨k,_,h,_⟩)
  ·exact h
  ·omega
theorem clearI_succ {m:List Int}{n l i:Nat}(hi:i < n):∀ c v,clearJ m n l i i c v↔clearI m n l (i + 1) c v:=by
 intro c v;unfold clearJ clearI;constructor
 ·rintro ((h | ⟨q,j,k,h1,h2,h3,h4,h5⟩) | ⟨j,k,h,hk,h2⟩)
  ·exact .inl h
  ·exact .inr ⟨q,j,k,by omega,h2,h3,h4,h5⟩
  ·exact .inr ⟨i,j,k,by omega,hi,h,hk,h2⟩
 ·rintro (h | ⟨q,j,k,h1,h2,h3,h4,h5⟩)
  ·exact .inl (.inl h)
  ·by_cases e:q=i
   ·subst e;exact .inr ⟨j,k,h3,h4,h5⟩
   ·exact .inl (.inr ⟨q,j,k,by omega,h2,h3,h4,h5⟩)
theorem clearI_zero {m:List Int}{n l:Nat}:∀ c v,clearL m n l c v↔clearI m n l 0 c v:=by
 intro c v;unfold clearI;constructor
 ·exact .inl
 ·rintro (h | ⟨q,j,k,h,_⟩)
  ·exact h
  ·omega
theorem clearL_succ {m:List Int}{n l:Nat}:∀ c v,clearI m n l n c v↔clearL m n (l + 1) c v:=by
 intro c v;unfold clearI clearL;constructor
 ·rintro (⟨q,h,h2⟩ | ⟨i,j,k,h1,h2,h3,h4,h5⟩)
  ·exact ⟨q,by omega,h2⟩
  ·exact ⟨l,by omega,i,j,k,h2,h3,h4,h5⟩
 ·rintro ⟨q,h,i,j,k,h2,h3,h4,h5⟩
  by_cases e:q=l
  ·subst e;exact .inr ⟨i,j,k,h2,h2,h3,h4,h5⟩
  ·exact .inl ⟨q,by omega,i,j,k,h2,h3,h4,h5⟩
theorem clr_start {m:List Int}{n:Nat}{s:Int}(hm:masksB m s=true):Clr m m (clearL m n 0):=by
 refine ⟨rfl,fun c hc=>?_⟩
 have h:=masksB_mem hm (rd m (c:Int)) (by rw [rd_lt hc];exact List.getElem_mem hc)
 have h30:allM s≤30:=by rcases sizeOkB_iff.1 (masksB_size hm) with rfl|rfl|rfl <;> decide
 refine ⟨⟨h.1,by omega,h.2.2⟩,fun v _ _=>?_⟩
 constructor
 ·intro hh;exact ⟨hh,fun ⟨l,hl,_⟩=>by omega⟩
 ·exact fun hh=>hh.1
theorem rd_lineC {n l i:Nat}(hn:n=2∨n=3∨n=4)(hl:l < 2 * n)(hi:i < n):rd (lineC (n:Int) (l:Int)) (i:Int)=((lineCell n l i:Nat):Int):=by
 rw [lineC_map hn hl,rd_lt (by simpa using hi)]
 simp
theorem lineC_lenN {n l:Nat}(hn:n=2∨n=3∨n=4)(hl:l < 2 * n):(lineC (n:Int) (l:Int)).length=n:=by
 rw [lineC_map hn hl,List.length_map,List.length_range]
theorem lineCell_inj {n l i j:Nat}(hn:n=2∨n=3∨n=4)(h:lineCell n l i=lineCell n l j):i=j:=by
 unfold lineCell at h
 rcases hn with rfl|rfl|rfl <;> split at h <;> omega
theorem Clr.at_ {m x:List Int}{n l i j k:Nat}(h:Clr m x (clearK m n l i j k))(hp:pairB m n l i j)(h1:k≠i)(h2:k≠j)(hc:lineCell n l k < m.length)(hx:0≤rd m (lineCell n l j:Nat)∧rd m (lineCell n l j:Nat)≤30):Clr m (x.set (lineCell n l k) (Go.bits .andNot .i64 (rd x (lineCell n l k:Nat)) (rd m (lineCell n l j:Nat)))) (clearK m n l i j (k + 1)):=by
 refine (h.step hc hx).congr (fun c v=>?_)
 rw [← clearK_succ]
 constructor
 ·rintro (h | ⟨rfl,h⟩)
  ·exact .inl h
  ·exact .inr ⟨hp,h1,h2,rfl,h⟩
 ·rintro (h|h)
  ·exact .inl h
  ·exact .inr ⟨h.2.2.2.1,h.2.2.2.2⟩
theorem Clr.skip {m x:List Int}{n l i j k:Nat}(h:Clr m x (clearK m n l i j k))(hk:k=i∨k=j):Clr m x (clearK m n l i j (k + 1)):=by
 refine h.congr (fun c v=>?_)
 rw [← clearK_succ]
 constructor
 ·exact .inl
 ·rintro (h|h)
  ·exact h
  ·rcases hk with e|e
   ·exact absurd e h.2.1
   ·exact absurd e h.2.2.1
theorem mask_at {m:List Int}{n l i:Nat}(hn:n=2∨n=3∨n=4)(hm:masksB m (n:Int)=true)(hl:l < 2 * n)(hi:i < n):lineCell n l i < m.length∧0≤rd m (lineCell n l i:Nat)∧rd m (lineCell n l i:Nat)≤30∧rd m (lineCell n l i:Nat) % 2=0:=by
 have h1:=lineCell_lt hn hl hi
 have h2:=masksB_len hm
 have h3:((n * n:Nat):Int)=(n:Int) * (n:Int):=by simp
 have hlt:lineCell n l i < m.length:=by omega
 have h:=masksB_mem hm (rd m (lineCell n l i:Nat)) (by rw [rd_lt hlt];exact List.getElem_mem hlt)
 have h30:allM (n:Int)≤30:=by rcases hn with rfl|rfl|rfl <;> decide
 exact ⟨hlt,h.1,by omega,h.2.2⟩

end Go.Proofs.Ytdemlminhkhonaa.Pure
namespace Go.Proofs.Ytdemlminhkhonaa.Pure
set_option linter.unusedSimpArgs false
set_option linter.unusedVariables false
open Go.RowKit Go.Proofs.YtdemlminhkhonaaW.PrintWords Go.Proofs.YtdemlminhkhonaaW.PrintMore Go.Proofs.Ytdemlminhkhonaa.P

theorem onesCount_eq {m:Int}(h:0≤m∧m≤30∧m % 2=0):bits_OnesCount.f (IntKind.u64.wrap m)=some ((mvals m).length:Int):=by
 rcases even_cases h with rfl|rfl|rfl|rfl|rfl|rfl|rfl|rfl|rfl|rfl|rfl|rfl|rfl|rfl|rfl|rfl <;> decide +kernel

end Go.Proofs.Ytdemlminhkhonaa.Pure
namespace Go.Proofs.Ytdemlminhkhonaa.Pure
set_option linter.unusedSimpArgs false
set_option linter.unusedVariables false
open Go.RowKit Go.Proofs.YtdemlminhkhonaaW.PrintWords Go.Proofs.YtdemlminhkhonaaW.PrintMore

theorem rd_drop (xs:List Int)(d t:Nat):rd (xs.drop d) (t:Int)=rd xs ((d + t:Nat):Int):=by
 rw [rd_nat,rd_nat]
 simp [List.getD_eq_getElem?_getD,List.getElem?_drop]

end Go.Proofs.Ytdemlminhkhonaa.Pure
namespace Go.Proofs.Ytdemlminhkhonaa.Pure
set_option linter.unusedSimpArgs false
set_option linter.unusedVariables false
open Go.RowKit Go.Proofs.YtdemlminhkhonaaW.PrintWords Go.Proofs.YtdemlminhkhonaaW.PrintMore Go.Proofs.Ytdemlminhkhonaa.P


def jclearI (m:List Int)(n l i:Nat)(c:Nat)(v:Int):Prop:=clearL m n l c v∨∃ i' d k,i' < i∧i' + 1 + d < n∧k < n∧clears m n l (i' + 1 + d) i' k c v
def jclearJ (m:List Int)(n l i t:Nat)(c:Nat)(v:Int):Prop:=jclearI m n l i c v∨∃ d k,d < t∧i + 1 + d < n∧k < n∧clears m n l (i + 1 + d) i k c v
def jclearK (m:List Int)(n l i t k:Nat)(c:Nat)(v:Int):Prop:=jclearJ m n l i t c v∨∃ k',k' < k∧clears m n l (i + 1 + t) i k' c v
theorem jclearK_zero {m:List Int}{n l i t:Nat}:∀ c v,jclearJ m n l i t c v↔jclearK m n l i t 0 c v:=by
 intro c v;unfold jclearK;constructor
 ·exact .inl
 ·rintro (h | ⟨k,h,_⟩)
  ·exact h
  ·omega
theorem jclearK_succ {m:List Int}{n l i t k:Nat}:∀ c v,(jclearK m n l i t k c v∨clears m n l (i + 1 + t) i k c v)↔jclearK m n l i t (k + 1) c v:=by
 intro c v;unfold jclearK;constructor
 ·rintro ((h | ⟨q,h,h2⟩)|h)
  ·exact .inl h
  ·exact .inr ⟨q,by omega,h2⟩
  ·exact .inr ⟨k,by omega,h⟩
 ·rintro (h | ⟨q,h,h2⟩)
  ·exact .inl (.inl h)
  ·by_cases e:q=k
   ·subst e;exact .inr h2
   ·exact .inl (.inr ⟨q,by omega,h2⟩)
theorem jclearJ_succ {m:List Int}{n l i t:Nat}(ht:i + 1 + t < n):∀ c v,jclearK m n l i t n c v↔jclearJ m n l i (t + 1) c v:=by
 intro c v;unfold jclearK jclearJ;constructor
 ·rintro ((h | ⟨q,k,h,h2⟩) | ⟨k,h,h2⟩)
  ·exact .inl h
  ·exact .inr ⟨q,k,by omega,h2⟩
  ·exact .inr ⟨t,k,by omega,ht,h,h2⟩
 ·rintro (h | ⟨q,k,h,hq,hk,h2⟩)
  ·exact .inl (.inl h)
  ·by_cases e:q=t
   ·subst e;exact .inr ⟨k,hk,h2⟩
   ·exact .inl (.inr ⟨q,k,by omega,hq,hk,h2⟩)
theorem jclearJ_skip {m:List Int}{n l i t:Nat}(ht:i + 1 + t < n)(hp:¬ pairB m n l (i + 1 + t) i):∀ c v,jclearJ m n l i t c v↔jclearJ m n l i (t + 1) c v:=by
 intro c v
 rw [← jclearJ_succ ht]
 unfold jclearK
 constructor
 ·exact .inl
 ·rintro (h | ⟨k,_,h⟩)
  ·exact h
  ·exact absurd h.1 hp
theorem jclearJ_zero {m:List Int}{n l i:Nat}:∀ c v,jclearI m n l i c v↔jclearJ m n l i 0 c v:=by
 intro c v;unfold jclearJ;constructor
 ·exact .inl
 ·rintro (h | ⟨k,_,h,_⟩)
  ·exact h
  ·omega
theorem jclearI_succ {m:List Int}{n l i:Nat}:∀ c v,jclearJ m n l i (n - (i + 1)) c v↔jclearI m n l (i + 1) c v:=by
 intro c v;unfold jclearJ jclearI;constructor
 ·rintro ((h | ⟨q,d,k,h1,h2,h3,h4⟩) | ⟨d,k,_,h,hk,h2⟩)
  ·exact .inl h
  ·exact .inr ⟨q,d,k,by omega,h2,h3,h4⟩
  ·exact .inr ⟨i,d,k,by omega,h,hk,h2⟩
 ·rintro (h | ⟨q,d,k,h1,h2,h3,h4⟩)
  ·exact .inl (.inl h)
  ·by_cases e:q=i
   ·subst e;exact .inr ⟨d,k,by omega,h2,h3,h4⟩
   ·exact .inl (.inr ⟨q,d,k,by omega,h2,h3,h4⟩)
theorem jclearI_zero {m:List Int}{n l:Nat}:∀ c v,clearL m n l c v↔jclearI m n l 0 c v:=by
 intro c v;unfold jclearI;constructor
 ·exact .inl
 ·rintro (h | ⟨q,d,k,h,_⟩)
  ·exact h
  ·omega
theorem jclearL_succ {m:List Int}{n l:Nat}:∀ c v,jclearI m n l n c v↔clearL m n (l + 1) c v:=by
 intro c v
 rw [← clearL_succ,show clearI m n l n c v↔_ from Iff.rfl]
 unfold jclearI clearI;constructor
 ·rintro (h | ⟨i,d,k,h1,h2,h3,h4⟩)
  ·exact .inl h
  ·exact .inr ⟨i + 1 + d,i,k,h2,h2,by omega,h3,h4⟩
 ·rintro (h | ⟨i,j,k,h1,h2,h3,h4,h5⟩)
  ·exact .inl h
  ·exact .inr ⟨j,i - (j + 1),k,by omega,by omega,h4,by rw [show j + 1 + (i - (j + 1))=i by omega];exact h5⟩
theorem Clr.jat {m x:List Int}{n l i t k:Nat}(h:Clr m x (jclearK m n l i t k))(hp:pairB m n l (i + 1 + t) i)(h1:k≠i)(h2:k≠i + 1 + t)(hc:lineCell n l k < m.length)(hx:0≤rd m (lineCell n l i:Nat)∧rd m (lineCell n l i:Nat)≤30):Clr m (x.set (lineCell n l k) (Go.bits .andNot .i64 (rd x (lineCell n l k:Nat)) (rd m (lineCell n l i:Nat)))) (jclearK m n l i t (k + 1)):=by
 refine (h.step hc hx).congr (fun c v=>?_)
 rw [← jclearK_succ]
 constructor
 ·rintro (h | ⟨rfl,h⟩)
  ·exact .inl h
  ·exact .inr ⟨hp,h2,h1,rfl,h⟩
 ·rintro (h|h)
  ·exact .inl h
  ·exact .inr ⟨h.2.2.2.1,h.2.2.2.2⟩
theorem Clr.jskip {m x:List Int}{n l i t k:Nat}(h:Clr m x (jclearK m n l i t k))(hk:k=i∨k=i + 1 + t):Clr m x (jclearK m n l i t (k + 1)):=by
 refine h.congr (fun c v=>?_)
 rw [← jclearK_succ]
 constructor
 ·exact .inl
 ·rintro (h|h)
  ·exact h
  ·rcases hk with e|e
   ·exact absurd e h.2.2.1
   ·exact absurd e h.2.1
theorem implNPl3_ev {m:List Int}{n l i t:Nat}(hn:n=2∨n=3∨n=4)(hm:masksB m (n:Int)=true)(hl:l < 2 * n)(hj:i + 1 + t < n)(hp:pairB m n l (i + 1 + t) i)(Q:List Int→Prop)(T D M:Int)
  (next:∀ x,Clr m x (jclearJ m n l i (t + 1))→∃ r,Q r∧Ev (fun k=>impl_NarrowPairs.l2 k m (n:Int) x (lineC (n:Int) (l:Int)) (lineCell n l i:Nat) T (l:Int) (lineC (n:Int) (l:Int)) D (i:Int) ((lineC (n:Int) (l:Int)).drop (i + 1)) M ((t + 1:Nat):Int)) r)
  (x:List Int) (hx:Clr m x (jclearJ m n l i t)):∃ r,Q r∧Ev (fun k=>impl_NarrowPairs.l3 k m (n:Int) x (lineC (n:Int) (l:Int)) (lineCell n l i:Nat) (lineCell n l (i + 1 + t):Nat) T (l:Int) (lineC (n:Int) (l:Int)) D (i:Int) ((lineC (n:Int) (l:Int)).drop (i + 1)) M (t:Int) (lineC (n:Int) (l:Int)) ((lineC (n:Int) (l:Int)).length:Int) 0) r:=by
 have hi:i < n:=by omega
 have hcl:=lineC_lenN hn hl
 rw [hcl]
 refine Ev.loopE (L:=fun k (x:List Int) q=>impl_NarrowPairs.l3 k m (n:Int) x (lineC (n:Int) (l:Int)) (lineCell n l i:Nat) (lineCell n l (i + 1 + t):Nat) T (l:Int) (lineC (n:Int) (l:Int)) D (i:Int) ((lineC (n:Int) (l:Int)).drop (i + 1)) M (t:Int) (lineC (n:Int) (l:Int)) (n:Int) q) (N:=n) (fun x q=>Clr m x (jclearK m n l i t q)) Q ?_ ?_ n x 0 (by omega) (hx.congr jclearK_zero)
 ·intro x hx
  obtain ⟨r,hr,he⟩:=next x (hx.congr (jclearJ_succ hj))
  refine ⟨r,hr,Ev.step (fun k=>impl_NarrowPairs.l3.eq_2 _ _ _ _ _ _ _ _ _ _ _ _ _ _ _ _ _ k) ?_⟩
  simp only [Int.lt_irrefl,if_false,w64n (by omega:t < 9000000000000000000)]
  exact he
 ·intro x q hq hx ih
  have h1:(q:Int) < (n:Int):=by omega
  have h0:(0:Int)≤(q:Int):=by omega
  have hrc:=rd_lineC hn hl hq
  obtain ⟨c1,_⟩:=mask_at hn hm hl hq
  obtain ⟨i0,i1,i2,_⟩:=mask_at hn hm hl hi
  have hxl:=hx.1
  have g1:(q:Int) < ((lineC (n:Int) (l:Int)).length:Int):=by omega
  by_cases e1:q=i
  ·obtain ⟨r,hr,he⟩:=ih x (hx.jskip (.inl e1))
   refine ⟨r,hr,Ev.step (fun k=>impl_NarrowPairs.l3.eq_2 _ _ _ _ _ _ _ _ _ _ _ _ _ _ _ _ _ k) ?_⟩
   have e1':((lineCell n l q:Nat):Int)=((lineCell n l i:Nat):Int):=by rw [e1]
   simp only [h1,h0,g1,hrc,e1',if_true,w64n (by omega:q < 9000000000000000000)]
   exact he
  ·have e1':¬ ((lineCell n l q:Nat):Int)=((lineCell n l i:Nat):Int):=fun e=>e1 (lineCell_inj hn (Int.ofNat.inj e))
   by_cases e2:q=i + 1 + t
   ·obtain ⟨r,hr,he⟩:=ih x (hx.jskip (.inr e2))
    refine ⟨r,hr,Ev.step (fun k=>impl_NarrowPairs.l3.eq_2 _ _ _ _ _ _ _ _ _ _ _ _ _ _ _ _ _ k) ?_⟩
    have e2':((lineCell n l q:Nat):Int)=((lineCell n l (i + 1 + t):Nat):Int):=by rw [e2]
    rw [e2'] at e1'
    simp only [h1,h0,g1,hrc,e1',e2',if_true,if_false,w64n (by omega:q < 9000000000000000000)]
    exact he
   ·have e2':¬ ((lineCell n l q:Nat):Int)=((lineCell n l (i + 1 + t):Nat):Int):=fun e=>e2 (lineCell_inj hn (Int.ofNat.inj e))
    obtain ⟨r,hr,he⟩:=ih _ (hx.jat hp e1 e2 c1 ⟨i1,i2⟩)
    refine ⟨r,hr,Ev.step (fun k=>impl_NarrowPairs.l3.eq_2 _ _ _ _ _ _ _ _ _ _ _ _ _ _ _ _ _ k) ?_⟩
    have g2:(0:Int)≤((lineCell n l q:Nat):Int):=by omega
    have g3:((lineCell n l q:Nat):Int) < (x.length:Int):=by omega
    have g4:(0:Int)≤((lineCell n l i:Nat):Int):=by omega
    have g5:((lineCell n l i:Nat):Int) < (m.length:Int):=by omega
    simp only [h1,h0,g1,hrc,e1',e2',g2,g3,g4,g5,if_true,if_false,Int.toNat_natCast,w64n (by omega:q < 9000000000000000000)]
    exact he
theorem implNPl2_ev {m:List Int}{n l i:Nat}(hn:n=2∨n=3∨n=4)(hm:masksB m (n:Int)=true)(hl:l < 2 * n)(hi:i < n)(Q:List Int→Prop)(T D:Int)
  (next:∀ x,Clr m x (jclearI m n l (i + 1))→∃ r,Q r∧Ev (fun k=>impl_NarrowPairs.l1 k m (n:Int) x (lineC (n:Int) (l:Int)) T (l:Int) (lineC (n:Int) (l:Int)) D ((i + 1:Nat):Int)) r)
  (x:List Int) (hx:Clr m x (jclearI m n l i)):∃ r,Q r∧Ev (fun k=>impl_NarrowPairs.l2 k m (n:Int) x (lineC (n:Int) (l:Int)) (lineCell n l i:Nat) T (l:Int) (lineC (n:Int) (l:Int)) D (i:Int) ((lineC (n:Int) (l:Int)).drop (i + 1)) (((lineC (n:Int) (l:Int)).drop (i + 1)).length:Int) 0) r:=by
 have hcl:=lineC_lenN hn hl
 have hdl:((lineC (n:Int) (l:Int)).drop (i + 1)).length=n - (i + 1):=by rw [List.length_drop,hcl]
 obtain ⟨i0,i1,i2,i3⟩:=mask_at hn hm hl hi
 have g4:(0:Int)≤((lineCell n l i:Nat):Int):=by omega
 have g5:((lineCell n l i:Nat):Int) < (m.length:Int):=by omega
 rw [hdl]
 refine Ev.loopE (L:=fun k (x:List Int) q=>impl_NarrowPairs.l2 k m (n:Int) x (lineC (n:Int) (l:Int)) (lineCell n l i:Nat) T (l:Int) (lineC (n:Int) (l:Int)) D (i:Int) ((lineC (n:Int) (l:Int)).drop (i + 1)) ((n - (i + 1):Nat):Int) q) (N:=n - (i + 1)) (fun x q=>Clr m x (jclearJ m n l i q)) Q ?_ ?_ (n - (i + 1)) x 0 (by omega) (hx.congr jclearJ_zero)
 ·intro x hx
  obtain ⟨r,hr,he⟩:=next x (hx.congr jclearI_succ)
  refine ⟨r,hr,Ev.step (fun k=>impl_NarrowPairs.l2.eq_2 _ _ _ _ _ _ _ _ _ _ _ _ _ k) ?_⟩
  simp only [Int.lt_irrefl,if_false,w64n (by omega:i < 9000000000000000000)]
  exact he
 ·intro x t ht hx ih
  have htn:i + 1 + t < n:=by omega
  have h1:(t:Int) < ((n - (i + 1):Nat):Int):=by omega
  have h0:(0:Int)≤(t:Int):=by omega
  have h2:(t:Int) < (((lineC (n:Int) (l:Int)).drop (i + 1)).length:Int):=by rw [hdl];exact h1
  have hrd:rd ((lineC (n:Int) (l:Int)).drop (i + 1)) (t:Int)=((lineCell n l (i + 1 + t):Nat):Int):=by rw [rd_drop,rd_lineC hn hl htn]
  obtain ⟨q0,_⟩:=mask_at hn hm hl htn
  have g6:(0:Int)≤((lineCell n l (i + 1 + t):Nat):Int):=by omega
  have g7:((lineCell n l (i + 1 + t):Nat):Int) < (m.length:Int):=by omega
  have hskip:¬ pairB m n l (i + 1 + t) i→∃ r,Q r∧Ev (fun k=>impl_NarrowPairs.j3 k m (n:Int) x (lineC (n:Int) (l:Int)) (lineCell n l i:Nat) (lineCell n l (i + 1 + t):Nat) T (l:Int) (lineC (n:Int) (l:Int)) D (i:Int) ((lineC (n:Int) (l:Int)).drop (i + 1)) ((n - (i + 1):Nat):Int) (t:Int) true) r:=by
   intro hp
   obtain ⟨r,hr,he⟩:=ih x (hx.congr (jclearJ_skip htn hp))
   refine ⟨r,hr,Ev.step (fun k=>impl_NarrowPairs.j3.eq_2 _ _ _ _ _ _ _ _ _ _ _ _ _ _ _ k) ?_⟩
   simp only [if_true,w64n (by omega:t < 9000000000000000000)]
   exact he
  by_cases he:rd m (lineCell n l i:Nat)=rd m (lineCell n l (i + 1 + t):Nat)
  ·by_cases htw:((mvals (rd m (lineCell n l i:Nat))).length:Int)=2
   ·obtain ⟨r,hr,hE⟩:=implNPl3_ev hn hm hl htn ⟨he.symm,htw⟩ Q T D ((n - (i + 1):Nat):Int) ih x hx
    refine ⟨r,hr,Ev.step (fun k=>impl_NarrowPairs.l2.eq_2 _ _ _ _ _ _ _ _ _ _ _ _ _ k) ?_⟩
    simp only [h1,h0,h2,hrd,g4,g5,g6,g7,if_true]
    simp only [if_pos he,onesCount_eq ⟨i1,i2,i3⟩,Option.bind_some]
    have hb:(((mvals (rd m (lineCell n l i:Nat))).length:Int) != 2)=false:=by rw [htw];rfl
    rw [hb]
    refine Ev.step (fun k=>impl_NarrowPairs.j3.eq_2 _ _ _ _ _ _ _ _ _ _ _ _ _ _ _ k) ?_
    simp only [Bool.false_eq_true,if_false]
    exact hE
   ·obtain ⟨r,hr,hE⟩:=hskip (fun hp=>htw hp.2)
    refine ⟨r,hr,Ev.step (fun k=>impl_NarrowPairs.l2.eq_2 _ _ _ _ _ _ _ _ _ _ _ _ _ k) ?_⟩
    simp only [h1,h0,h2,hrd,g4,g5,g6,g7,if_true]
    simp only [if_pos he,onesCount_eq ⟨i1,i2,i3⟩,Option.bind_some]
    have hb:(((mvals (rd m (lineCell n l i:Nat))).length:Int) != 2)=true:=by rw [bne_iff_ne];exact htw
    rw [hb]
    exact hE
  ·obtain ⟨r,hr,hE⟩:=hskip (fun hp=>he hp.1.symm)
   refine ⟨r,hr,Ev.step (fun k=>impl_NarrowPairs.l2.eq_2 _ _ _ _ _ _ _ _ _ _ _ _ _ k) ?_⟩
   simp only [h1,h0,h2,hrd,g4,g5,g6,g7,if_true]
   simp only [if_neg he]
   exact hE
theorem implNP_ev {m:List Int}{n:Nat}(hn:n=2∨n=3∨n=4)(hm:masksB m (n:Int)=true):∃ r,Clr m r (clearL m n (2 * n))∧Ev (fun k=>impl_NarrowPairs.l0 k m (n:Int) m ((2 * n:Nat):Int) 0) r:=by
 refine Ev.loopE (L:=fun k (x:List Int) q=>impl_NarrowPairs.l0 k m (n:Int) x ((2 * n:Nat):Int) q) (N:=2 * n) (fun x q=>Clr m x (clearL m n q)) (fun r=>Clr m r (clearL m n (2 * n))) ?_ ?_ (2 * n) m 0 (by omega) (clr_start hm)
 ·intro x hx
  refine ⟨x,hx,Ev.step (fun k=>impl_NarrowPairs.l0.eq_2 _ _ _ _ _ k) ?_⟩
  simp only [Int.lt_irrefl,if_false]
  exact Ev.now _
 ·intro x l hl hx ih
  have h1:(l:Int) < ((2 * n:Nat):Int):=by omega
  have hw:wrap64 ((l:Int) + 1)=((l + 1:Nat):Int):=w64n (by omega)
  have hcl:=lineC_lenN hn hl
  have:∃ r,Clr m r (clearL m n (2 * n))∧Ev (fun k=>impl_NarrowPairs.l1 k m (n:Int) x (lineC (n:Int) (l:Int)) ((2 * n:Nat):Int) (l:Int) (lineC (n:Int) (l:Int)) ((lineC (n:Int) (l:Int)).length:Int) 0) r:=by
   rw [hcl]
   refine Ev.loopE (L:=fun k (x:List Int) q=>impl_NarrowPairs.l1 k m (n:Int) x (lineC (n:Int) (l:Int)) ((2 * n:Nat):Int) (l:Int) (lineC (n:Int) (l:Int)) (n:Int) q) (N:=n) (fun x q=>Clr m x (jclearI m n l q)) (fun r=>Clr m r (clearL m n (2 * n))) ?_ ?_ n x 0 (by omega) (hx.congr jclearI_zero)
   ·intro x hx
    obtain ⟨r,hr,he⟩:=ih x (hx.congr jclearL_succ)
    refine ⟨r,hr,Ev.step (fun k=>impl_NarrowPairs.l1.eq_2 _ _ _ _ _ _ _ _ _ k) ?_⟩
    simp only [Int.lt_irrefl,if_false,hw]
    exact he
   ·intro x i hi hx ih2
    obtain ⟨r,hr,he⟩:=implNPl2_ev hn hm hl hi _ ((2 * n:Nat):Int) (n:Int) ih2 x hx
    refine ⟨r,hr,Ev.step (fun k=>impl_NarrowPairs.l1.eq_2 _ _ _ _ _ _ _ _ _ k) ?_⟩
    have g1:(i:Int) < (n:Int):=by omega
    have g0:(0:Int)≤(i:Int):=by omega
    have g2:(i:Int) < ((lineC (n:Int) (l:Int)).length:Int):=by omega
    have g3:(0:Int)≤((i + 1:Nat):Int):=by omega
    have g4:((i + 1:Nat):Int)≤((lineC (n:Int) (l:Int)).length:Int):=by omega
    simp only [g1,g0,g2,w64n (by omega:i < 9000000000000000000),g3,g4,rd_lineC hn hl hi,Int.toNat_natCast,Option.bind_some,if_true]
    exact he
  obtain ⟨r,hr,he⟩:=this
  refine ⟨r,hr,Ev.step (fun k=>impl_NarrowPairs.l0.eq_2 _ _ _ _ _ k) ?_⟩
  simp only [h1,if_true]
  refine Ev.bind (implLineCells_ev _ _) ?_
  exact he

end Go.Proofs.Ytdemlminhkhonaa.Pure
namespace Go.Proofs.Ytdemlminhkhonaa.Pure
set_option linter.unusedSimpArgs false
set_option linter.unusedVariables false
open Go.RowKit Go.Proofs.YtdemlminhkhonaaW.PrintWords Go.Proofs.YtdemlminhkhonaaW.PrintMore Go.Proofs.Ytdemlminhkhonaa.P


theorem specNPl3_ev {m:List Int}{n l i j:Nat}(hn:n=2∨n=3∨n=4)(hm:masksB m (n:Int)=true)(hl:l < 2 * n)(hi:i < n)(hj:j < n)(hp:pairB m n l i j)(Q:List Int→Prop)(next:∀ x,Clr m x (clearJ m n l i (j + 1))→∃ r,Q r∧Ev (fun k=>spec_NarrowPairs.l2 k m (n:Int) x (l:Int) (lineC (n:Int) (l:Int)) (i:Int) ((j + 1:Nat):Int)) r)(x:List Int)(hx:Clr m x (clearJ m n l i j)):∃ r,Q r∧Ev (fun k=>spec_NarrowPairs.l3 k m (n:Int) x (l:Int) (lineC (n:Int) (l:Int)) (i:Int) (j:Int) (rd m (lineCell n l j:Nat)) 0) r:=by
 refine Ev.loopE (L:=fun k (x:List Int) q=>spec_NarrowPairs.l3 k m (n:Int) x (l:Int) (lineC (n:Int) (l:Int)) (i:Int) (j:Int) (rd m (lineCell n l j:Nat)) q) (N:=n) (fun x q=>Clr m x (clearK m n l i j q)) Q ?_ ?_ n x 0 (by omega) (hx.congr clearK_zero)
 ·intro x hx
  obtain ⟨r,hr,he⟩:=next x (hx.congr clearJ_succ)
  refine ⟨r,hr,Ev.step (fun k=>spec_NarrowPairs.l3.eq_2 _ _ _ _ _ _ _ _ _ k) ?_⟩
  simp only [Int.lt_irrefl,if_false,w64n (by omega:j < 9000000000000000000)]
  exact he
 ·intro x q hq hx ih
  have h1:(q:Int) < (n:Int):=by omega
  have h0:(0:Int)≤(q:Int):=by omega
  have hcl:=lineC_lenN hn hl
  have hrc:=rd_lineC hn hl hq
  obtain ⟨c1,_⟩:=mask_at hn hm hl hq
  obtain ⟨_,j1,j2,_⟩:=mask_at hn hm hl hj
  have hxl:=hx.1
  by_cases e1:q=i
  ·obtain ⟨r,hr,he⟩:=ih x (hx.skip (.inl e1))
   refine ⟨r,hr,Ev.step (fun k=>spec_NarrowPairs.l3.eq_2 _ _ _ _ _ _ _ _ _ k) ?_⟩
   have e1':(q:Int)=(i:Int):=by omega
   simp only [if_pos h1,if_pos e1',w64n (by omega:q < 9000000000000000000)]
   exact he
  ·have e1':¬ (q:Int)=(i:Int):=by omega
   by_cases e2:q=j
   ·obtain ⟨r,hr,he⟩:=ih x (hx.skip (.inr e2))
    refine ⟨r,hr,Ev.step (fun k=>spec_NarrowPairs.l3.eq_2 _ _ _ _ _ _ _ _ _ k) ?_⟩
    have e2':(q:Int)=(j:Int):=by omega
    simp only [if_pos h1,if_neg e1',if_pos e2',w64n (by omega:q < 9000000000000000000)]
    exact he
   ·have e2':¬ (q:Int)=(j:Int):=by omega
    obtain ⟨r,hr,he⟩:=ih _ (hx.at_ hp e1 e2 c1 ⟨j1,j2⟩)
    refine ⟨r,hr,Ev.step (fun k=>spec_NarrowPairs.l3.eq_2 _ _ _ _ _ _ _ _ _ k) ?_⟩
    have g1:(q:Int) < ((lineC (n:Int) (l:Int)).length:Int):=by omega
    have g2:(0:Int)≤((lineCell n l q:Nat):Int):=by omega
    have g3:((lineCell n l q:Nat):Int) < (x.length:Int):=by omega
    simp only [h1,e1',e2',h0,g1,hrc,g2,g3,if_true,if_false,Int.toNat_natCast,w64n (by omega:q < 9000000000000000000)]
    exact he
theorem specNPl2_ev {m:List Int}{n l i:Nat}(hn:n=2∨n=3∨n=4)(hm:masksB m (n:Int)=true)(hl:l < 2 * n)(hi:i < n)(Q:List Int→Prop)(next:∀ x,Clr m x (clearI m n l (i + 1))→∃ r,Q r∧Ev (fun k=>spec_NarrowPairs.l1 k m (n:Int) x (l:Int) (lineC (n:Int) (l:Int)) ((i + 1:Nat):Int)) r)(x:List Int)(hx:Clr m x (clearI m n l i)):∃ r,Q r∧Ev (fun k=>spec_NarrowPairs.l2 k m (n:Int) x (l:Int) (lineC (n:Int) (l:Int)) (i:Int) 0) r:=by
 refine Ev.loopE (L:=fun k (x:List Int) q=>spec_NarrowPairs.l2 k m (n:Int) x (l:Int) (lineC (n:Int) (l:Int)) (i:Int) q) (N:=i) (fun x q=>Clr m x (clearJ m n l i q)) Q ?_ ?_ i x 0 (by omega) (hx.congr clearJ_zero)
 ·intro x hx
  obtain ⟨r,hr,he⟩:=next x (hx.congr (clearI_succ hi))
  refine ⟨r,hr,Ev.step (fun k=>spec_NarrowPairs.l2.eq_2 _ _ _ _ _ _ _ k) ?_⟩
  simp only [Int.lt_irrefl,if_false,w64n (by omega:i < 9000000000000000000)]
  exact he
 ·intro x q hq hx ih
  have hqn:q < n:=by omega
  have h1:(q:Int) < (i:Int):=by omega
  have h0:(0:Int)≤(q:Int):=by omega
  have h2:(0:Int)≤(i:Int):=by omega
  have hcl:=lineC_lenN hn hl
  have hri:=rd_lineC hn hl hi
  have hrq:=rd_lineC hn hl hqn
  obtain ⟨i1,_⟩:=mask_at hn hm hl hi
  obtain ⟨q1,_⟩:=mask_at hn hm hl hqn
  have g1:(i:Int) < ((lineC (n:Int) (l:Int)).length:Int):=by omega
  have g2:(q:Int) < ((lineC (n:Int) (l:Int)).length:Int):=by omega
  have g3:(0:Int)≤((lineCell n l i:Nat):Int):=by omega
  have g4:((lineCell n l i:Nat):Int) < (m.length:Int):=by omega
  have g5:(0:Int)≤((lineCell n l q:Nat):Int):=by omega
  have g6:((lineCell n l q:Nat):Int) < (m.length:Int):=by omega
  have hskip:¬ pairB m n l i q→∃ r,Q r∧Ev (fun k=>spec_NarrowPairs.j3 k m (n:Int) x (l:Int) (lineC (n:Int) (l:Int)) (i:Int) (q:Int) (rd m (lineCell n l i:Nat)) true) r:=by
   intro hp
   obtain ⟨r,hr,he⟩:=ih x (hx.congr (clearJ_skip hp))
   refine ⟨r,hr,Ev.step (fun k=>spec_NarrowPairs.j3.eq_2 _ _ _ _ _ _ _ _ _ k) ?_⟩
   simp only [if_true,w64n (by omega:q < 9000000000000000000)]
   exact he
  by_cases he:rd m (lineCell n l i:Nat)=rd m (lineCell n l q:Nat)
  ·by_cases ht:((mvals (rd m (lineCell n l q:Nat))).length:Int)=2
   ·obtain ⟨r,hr,hE⟩:=specNPl3_ev hn hm hl hi hqn ⟨he,ht⟩ Q ih x hx
    refine ⟨r,hr,Ev.step (fun k=>spec_NarrowPairs.l2.eq_2 _ _ _ _ _ _ _ k) ?_⟩
    simp only [h1,h2,g1,hri,g3,g4,h0,g2,hrq,g5,g6,he,if_true]
    refine Ev.bind (specMaskValues_ev _) ?_
    have hb:(((mvals (rd m (lineCell n l q:Nat))).length:Int) != 2)=false:=by rw [ht];rfl
    rw [hb]
    refine Ev.step (fun k=>spec_NarrowPairs.j3.eq_2 _ _ _ _ _ _ _ _ _ k) ?_
    simp only [Bool.false_eq_true,if_false]
    exact hE
   ·obtain ⟨r,hr,hE⟩:=hskip (fun hp=>ht hp.2)
    refine ⟨r,hr,Ev.step (fun k=>spec_NarrowPairs.l2.eq_2 _ _ _ _ _ _ _ k) ?_⟩
    rw [he] at hE
    simp only [h1,h2,g1,hri,g3,g4,h0,g2,hrq,g5,g6,he,if_true]
    refine Ev.bind (specMaskValues_ev _) ?_
    have hb:(((mvals (rd m (lineCell n l q:Nat))).length:Int) != 2)=true:=by rw [bne_iff_ne];exact ht
    rw [hb]
    exact hE
  ·obtain ⟨r,hr,hE⟩:=hskip (fun hp=>he hp.1)
   refine ⟨r,hr,Ev.step (fun k=>spec_NarrowPairs.l2.eq_2 _ _ _ _ _ _ _ k) ?_⟩
   simp only [h1,h2,g1,hri,g3,g4,h0,g2,hrq,g5,g6,he,if_true,if_false]
   exact hE
theorem specNP_ev {m:List Int}{n:Nat}(hn:n=2∨n=3∨n=4)(hm:masksB m (n:Int)=true):∃ r,Clr m r (clearL m n (2 * n))∧Ev (fun k=>spec_NarrowPairs.l0 k m (n:Int) m 0) r:=by
 refine Ev.loopE (L:=fun k (x:List Int) q=>spec_NarrowPairs.l0 k m (n:Int) x q) (N:=2 * n) (fun x q=>Clr m x (clearL m n q)) (fun r=>Clr m r (clearL m n (2 * n))) ?_ ?_ (2 * n) m 0 (by omega) (clr_start hm)
 ·intro x hx
  refine ⟨x,hx,Ev.step (fun k=>spec_NarrowPairs.l0.eq_2 _ _ _ _ k) ?_⟩
  have h1:¬ ((2 * n:Nat):Int) < wrap64 (2 * (n:Int)):=by unfold wrap64;omega
  simp only [h1,if_false]
  exact Ev.now _
 ·intro x l hl hx ih
  have h1:(l:Int) < wrap64 (2 * (n:Int)):=by unfold wrap64;omega
  have hw:wrap64 ((l:Int) + 1)=((l + 1:Nat):Int):=w64n (by omega)
  have:∃ r,Clr m r (clearL m n (2 * n))∧Ev (fun k=>spec_NarrowPairs.l1 k m (n:Int) x (l:Int) (lineC (n:Int) (l:Int)) 0) r:=by
   refine Ev.loopE (L:=fun k (x:List Int) q=>spec_NarrowPairs.l1 k m (n:Int) x (l:Int) (lineC (n:Int) (l:Int)) q) (N:=n) (fun x q=>Clr m x (clearI m n l q)) (fun r=>Clr m r (clearL m n (2 * n))) ?_ ?_ n x 0 (by omega) (hx.congr clearI_zero)
   ·intro x hx
    obtain ⟨r,hr,he⟩:=ih x (hx.congr clearL_succ)
    refine ⟨r,hr,Ev.step (fun k=>spec_NarrowPairs.l1.eq_2 _ _ _ _ _ _ k) ?_⟩
    simp only [Int.lt_irrefl,if_false,hw]
    exact he
   ·intro x i hi hx ih2
    obtain ⟨r,hr,he⟩:=specNPl2_ev hn hm hl hi _ ih2 x hx
    refine ⟨r,hr,Ev.step (fun k=>spec_NarrowPairs.l1.eq_2 _ _ _ _ _ _ k) ?_⟩
    have g1:(i:Int) < (n:Int):=by omega
    simp only [g1,if_true]
    exact he
  obtain ⟨r,hr,he⟩:=this
  refine ⟨r,hr,Ev.step (fun k=>spec_NarrowPairs.l0.eq_2 _ _ _ _ k) ?_⟩
  simp only [h1,if_true]
  refine Ev.bind (specLineCells_ev _ _) ?_
  exact he

end Go.Proofs.Ytdemlminhkhonaa.Pure
namespace Go.Proofs.Ytdemlminhkhonaa.Pure
set_option linter.unusedSimpArgs false
set_option linter.unusedVariables false
open Go.RowKit Go.Proofs.YtdemlminhkhonaaW.PrintWords Go.Proofs.YtdemlminhkhonaaW.PrintMore Go.Proofs.Ytdemlminhkhonaa.P


theorem Clr.masks {m r:List Int}{D:Nat→Int→Prop}{s:Int}(h:Clr m r D)(hm:masksB m s=true):masksB r s=true:=by
 have hs:=masksB_size hm
 have hl:=masksB_len hm
 unfold masksB
 rw [hs,Bool.true_and,Bool.and_eq_true,decide_eq_true_eq,List.all_eq_true]
 refine ⟨by rw [h.1];exact hl,fun v hv=>?_⟩
 obtain ⟨c,hc,rfl⟩:=List.getElem_of_mem hv
 have hcm:c < m.length:=by rw [← h.1];exact hc
 obtain ⟨a1,a2⟩:=h.2 c hcm
 rw [rd_lt hc] at a1 a2
 have b:=masksB_mem hm m[c] (List.getElem_mem hcm)
 rw [rd_lt hcm] at a2
 rw [decide_eq_true_eq]
 refine ⟨a1.1,?_,a1.2.2⟩
 have key:∀ a:Fin 31,∀ b:Fin 31,(a.val:Int) % 2=0→(b.val:Int) % 2=0→(∀ v:Fin 4,has (a.val:Int) ((v.val:Int) + 1)=true→has (b.val:Int) ((v.val:Int) + 1)=true)→((b.val:Int)≤6→(a.val:Int)≤6)∧((b.val:Int)≤14→(a.val:Int)≤14):=by decide +kernel
 have h30:allM s≤30:=by rcases sizeOkB_iff.1 hs with rfl|rfl|rfl <;> decide
 have hk:=key ⟨r[c].toNat,by omega⟩ ⟨m[c].toNat,by omega⟩ (by simp only;omega) (by simp only;omega) (fun v hv=>by
  have e1:((r[c].toNat:Nat):Int)=r[c]:=by omega
  have e2:((m[c].toNat:Nat):Int)=m[c]:=by omega
  simp only [e1] at hv
  simp only [e2]
  exact ((a2 ((v.val:Int) + 1) (by omega) (by omega)).1 hv).1)
 simp only [show ((r[c].toNat:Nat):Int)=r[c] by omega,show ((m[c].toNat:Nat):Int)=m[c] by omega] at hk
 rcases sizeOkB_iff.1 hs with rfl|rfl|rfl
 ·exact hk.1 b.2.1
 ·exact hk.2 b.2.1
 ·exact a1.2.1
theorem narrowPairs_ev (m:List Int)(s:Int)(h:m.length≤35184372088832)(hw:∀ x∈m,x≤9223372036854775807):∃ r,Ev (fun k=>spec_NarrowPairs.f k m s) r∧Ev (fun k=>impl_NarrowPairs.f k m s) r∧(masksB m s=true→masksB r s=true∧∃ D,Clr m r D)∧(masksB m s=false→r=[]):=by
 cases hm:masksB m s with
 | false =>
  refine ⟨[],?_,?_,fun h=>absurd h (by decide),fun _=>rfl⟩
  ·unfold spec_NarrowPairs.f
   refine Ev.bind (specMasksValid_ev m s h) ?_
   simp only [hm,Bool.false_eq_true,if_false]
   exact Ev.now _
  ·unfold impl_NarrowPairs.f
   refine Ev.bind (implMasksValid_ev m s h hw) ?_
   simp only [hm,Bool.false_eq_true,if_false]
   exact Ev.now _
 | true =>
  obtain ⟨hsn,h2,h4⟩:=size_nat (masksB_size hm)
  have hn:s.toNat=2∨s.toNat=3∨s.toNat=4:=by omega
  have hmm:=hm
  rw [← hsn] at hmm
  obtain ⟨r,hr,he⟩:=specNP_ev hn hmm
  obtain ⟨r',hr',he'⟩:=implNP_ev hn hmm
  obtain rfl:=hr.uniq hr'
  have hl:=masksB_le hm
  refine ⟨r,?_,?_,fun _=>⟨hr.masks hm,_,hr⟩,fun h=>absurd h (by decide)⟩
  ·unfold spec_NarrowPairs.f
   refine Ev.bind (specMasksValid_ev m s h) ?_
   simp only [hm,if_true,l6Copy_eq hl,Option.bind_some]
   rw [hsn] at he
   exact he
  ·unfold impl_NarrowPairs.f
   refine Ev.bind (implMasksValid_ev m s h hw) ?_
   simp only [hm,if_true,clone_eq hl,Option.bind_some]
   have e2:wrap64 (2 * s)=((2 * s.toNat:Nat):Int):=by unfold wrap64;omega
   rw [e2]
   rw [hsn] at he'
   exact he'

end Go.Proofs.Ytdemlminhkhonaa.Pure
namespace Go.Proofs.Ytdemlminhkhonaa.Pure
set_option linter.unusedSimpArgs false
set_option linter.unusedVariables false
open Go.RowKit Go.Proofs.YtdemlminhkhonaaW.PrintWords Go.Proofs.YtdemlminhkhonaaW.PrintMore

theorem SubM.andNot {a b x:Int}(h:SubM a b)(hx:0≤x∧x≤30):SubM (Go.bits .andNot .i64 a x) b:=by
 have hk:=andNot_has h.1 hx
 refine ⟨hk.1,fun v h1 h4 hh=>h.2 v h1 h4 ?_⟩
 rw [hk.2 v (by omega) h4,Bool.and_eq_true] at hh
 exact hh.1
theorem and_sub_fin:∀ a:Fin 31,∀ v:Fin 5,a.val % 2=0→1≤v.val→(0≤Go.bits .and .i64 (a.val:Int) (shl .i64 1 (v.val:Int))∧Go.bits .and .i64 (a.val:Int) (shl .i64 1 (v.val:Int))≤30∧Go.bits .and .i64 (a.val:Int) (shl .i64 1 (v.val:Int)) % 2=0)∧∀ u:Fin 5,has (Go.bits .and .i64 (a.val:Int) (shl .i64 1 (v.val:Int))) (u.val:Int)=true→has (a.val:Int) (u.val:Int)=true:=by decide +kernel
theorem SubM.and {a b v:Int}(h:SubM a b)(hv:1≤v∧v≤4):SubM (Go.bits .and .i64 a (shl .i64 1 v)) b:=by
 have hf:=and_sub_fin ⟨a.toNat,by have:=h.1;omega⟩ ⟨v.toNat,by omega⟩ (by simp only;have:=h.1;omega) (by simp only;omega)
 simp only [show ((a.toNat:Nat):Int)=a by have:=h.1;omega,show ((v.toNat:Nat):Int)=v by omega] at hf
 refine ⟨hf.1,fun u h1 h4 hu=>h.2 u h1 h4 ?_⟩
 have:=hf.2 ⟨u.toNat,by omega⟩
 simp only [show ((u.toNat:Nat):Int)=u by omega] at this
 exact this hu
theorem Sub.set {x m:List Int}(h:Sub x m){c:Nat}(hc:c < m.length){a:Int}(ha:SubM a (rd m (c:Int))):Sub (x.set c a) m:=by
 refine ⟨by rw [List.length_set];exact h.1,fun d hd=>?_⟩
 rw [rd_set (by have:=h.1;omega)]
 by_cases e:d=c
 ·subst e;rw [if_pos rfl];exact ha
 ·rw [if_neg e];exact h.2 d hd
theorem takeSeen_sub {n i:Nat}{v:Int}{x m:List Int}(h:Sub x m)(hv:0≤v∧v≤30):Sub (takeSeen n i v x) m:=by
 have hu:=takeSeen_upd n i v x
 refine ⟨by rw [takeSeen_len];exact h.1,fun c hc=>?_⟩
 have hk:=hu.2 c (by have:=h.1;omega)
 by_cases hs:Sees n i c
 ·rw [hk.1 hs];exact (h.2 c hc).andNot hv
 ·rw [hk.2 hs];exact h.2 c hc
theorem singles_sub {m:List Int}{s:Int}(hm:masksB m s=true){n:Nat}:∀ i,i≤m.length→Sub (singlesUpto m n i) m
 | 0,_=>Sub.refl hm
 | i + 1,hi=>by
  unfold singlesUpto
  have hx:=masks_at hm (by omega:i < m.length)
  split
  ·exact singles_sub hm i (by omega)
  ·exact takeSeen_sub (singles_sub hm i (by omega)) ⟨hx.1,hx.2.1⟩
theorem hideV_sub {m cs x:List Int}(h0:0 < m.length)(hc:∀ c∈cs,0≤c∧c < (m.length:Int))(h:Sub x m):∀ v,v≤4→Sub (hideV m cs x v) m
 | 0,_=>h
 | v + 1,hv=>by
  have ih:=hideV_sub h0 hc h v (by omega)
  unfold hideV
  split
  ·have hk:=cntLast_spec (m:=m) (v:=(v:Int) + 1) h0 hc cs.length (Nat.le_refl _)
   obtain ⟨n,hn⟩:=Int.eq_ofNat_of_zero_le hk.2.2.1
   rw [hn] at hk ⊢
   rw [Int.toNat_natCast]
   refine ih.set (by omega) ?_
   exact (ih.2 n (by omega)).and (by omega)
  ·exact ih
theorem hideL_sub {m:List Int}{s:Int}(hm:masksB m s=true):∀ l,Sub (hideL m s l) m
 | 0=>Sub.refl hm
 | l + 1=>by
  obtain ⟨hn,hs⟩:=size_or (masksB_size hm)
  have hml:=masksB_len hm
  have hpos:0 < m.length:=by rcases sizeOkB_iff.1 (masksB_size hm) with rfl|rfl|rfl <;> omega
  unfold hideL
  exact hideV_sub hpos (fun c hc=>by have:=lineC_mem c hc;rw [hml];exact this) (hideL_sub hm l) _ (by omega)
theorem Clr.sub {m r:List Int}{D:Nat→Int→Prop}(h:Clr m r D):Sub r m :=
 ⟨h.1,fun c hc=>⟨(h.2 c hc).1,fun v h1 h4 hh=>(((h.2 c hc).2 v h1 h4).1 hh).1⟩⟩
theorem subM_le_fin:∀ a:Fin 31,∀ b:Fin 31,a.val % 2=0→b.val % 2=0→(∀ v:Fin 4,has (a.val:Int) ((v.val:Int) + 1)=true→has (b.val:Int) ((v.val:Int) + 1)=true)→a.val≤b.val:=by decide +kernel
theorem SubM.le' {a b:Int}(h:SubM a b)(hb:0≤b∧b≤30∧b % 2=0):0≤a∧a≤b:=by
 have hk:=subM_le_fin ⟨a.toNat,by have:=h.1;omega⟩ ⟨b.toNat,by omega⟩ (by simp only;have:=h.1;omega) (by simp only;omega) (fun v hv=>by
  have e1:((a.toNat:Nat):Int)=a:=by have:=h.1;omega
  have e2:((b.toNat:Nat):Int)=b:=by omega
  simp only [e1] at hv
  simp only [e2]
  exact h.2 ((v.val:Int) + 1) (by omega) (by omega) hv)
 simp only at hk
 have:=h.1
 omega
def msum:List Int→Nat
 | []=>0
 | x :: xs=>x.toNat + msum xs
theorem msum_le:∀ (x y:List Int),x.length=y.length→(∀ c (h1:c < x.length) (h2:c < y.length),0≤x[c]∧x[c]≤y[c])→msum x≤msum y∧(x≠y→msum x < msum y)
 | [],[],_,_=>⟨Nat.le_refl _,fun h=>absurd rfl h⟩
 | [],_ :: _,h,_=>by simp at h
 | _ :: _,[],h,_=>by simp at h
 | a :: xs,b :: ys,hl,h=>by
  have h0:=h 0 (by simp) (by simp)
  simp only [List.getElem_cons_zero] at h0
  have ih:=msum_le xs ys (by simpa using hl) (fun c h1 h2=>by
   have:=h (c + 1) (by simp only [List.length_cons];omega) (by simp only [List.length_cons];omega)
   rw [List.getElem_cons_succ,List.getElem_cons_succ] at this
   exact this)
  unfold msum
  refine ⟨by omega,fun hne=>?_⟩
  by_cases e:a=b
  ·subst e
   have:=ih.2 (fun e2=>hne (by rw [e2]))
   omega
  ·omega
theorem Sub.msum {x m:List Int}{s:Int}(h:Sub x m)(hm:masksB m s=true):msum x≤msum m∧(x≠m→msum x < msum m):=by
 refine msum_le x m h.1 (fun c h1 h2=>?_)
 have:=(h.2 c h2).le' (masks_at hm h2)
 rw [rd_lt h1,rd_lt h2] at this
 exact this
theorem msum_bound:∀ (x:List Int),(∀ v∈x,v≤30)→msum x≤30 * x.length
 | [],_=>Nat.le_refl _
 | a :: xs,h=>by
  have h1:=h a (List.mem_cons_self)
  have h2:=msum_bound xs (fun v hv=>h v (List.mem_cons_of_mem _ hv))
  unfold Pure.msum
  simp only [List.length_cons]
  omega

end Go.Proofs.Ytdemlminhkhonaa.Pure
namespace Go.Proofs.Ytdemlminhkhonaa.Pure
set_option linter.unusedSimpArgs false
set_option linter.unusedVariables false
open Go.RowKit Go.Proofs.YtdemlminhkhonaaW.PrintWords Go.Proofs.YtdemlminhkhonaaW.PrintMore Go.Proofs.Ytdemlminhkhonaa.P


open Classical in
noncomputable def narrowPairsV (m:List Int) (s:Int):List Int:=if h:m.length≤35184372088832∧∀ x∈m,x≤9223372036854775807 then Classical.choose (narrowPairs_ev m s h.1 h.2) else []
theorem narrowPairsV_spec (m:List Int)(s:Int)(h:m.length≤35184372088832)(hw:∀ x∈m,x≤9223372036854775807):Ev (fun k=>spec_NarrowPairs.f k m s) (narrowPairsV m s)∧Ev (fun k=>impl_NarrowPairs.f k m s) (narrowPairsV m s)∧(masksB m s=true→masksB (narrowPairsV m s) s=true∧∃ D,Clr m (narrowPairsV m s) D)∧(masksB m s=false→narrowPairsV m s=[]):=by
 unfold narrowPairsV
 rw [dif_pos ⟨h,hw⟩]
 exact Classical.choose_spec (narrowPairs_ev m s h hw)
noncomputable def narrowBy (s:Int) (q:List Int) (rs:List S67) (m:List Int) (t:Int):List Int:=if puzzleB s q rs=true∧masksB m s=true then (if t=1 then narrowSingles m s else if t=2 then narrowHidden m s else if t=3 then narrowPairsV m s else if t=4 then narrowRules s q rs m else []) else []
theorem masks_w {m:List Int}{s:Int}(hm:masksB m s=true):(∀ x∈m,x≤9223372036854775807)∧m.length≤16:=by
 refine ⟨fun x hx=>?_,masksB_le hm⟩
 have:=masksB_mem hm x hx
 have h30:allM s≤30:=by rcases sizeOkB_iff.1 (masksB_size hm) with rfl|rfl|rfl <;> decide
 omega
theorem narrowBy_sub {s:Int}{q:List Int}{rs:List S67}{m:List Int}{t:Int}(hp:puzzleB s q rs=true)(hm:masksB m s=true)(h1:1≤t)(h4:t≤4):Sub (narrowBy s q rs m t) m:=by
 unfold narrowBy
 rw [if_pos ⟨hp,hm⟩]
 have ht:t=1∨t=2∨t=3∨t=4:=by omega
 rcases ht with rfl|rfl|rfl|rfl
 ·rw [if_pos rfl];unfold narrowSingles;rw [if_pos hm];exact singles_sub hm _ (Nat.le_refl _)
 ·rw [if_neg (by decide),if_pos rfl];unfold narrowHidden;rw [if_pos hm];exact hideL_sub hm _
 ·rw [if_neg (by decide),if_neg (by decide),if_pos rfl]
  obtain ⟨D,hD⟩:=((narrowPairsV_spec m s (by have:=masksB_le hm;omega) (masks_w hm).1).2.2.1 hm).2
  exact hD.sub
 ·rw [if_neg (by decide),if_neg (by decide),if_neg (by decide),if_pos rfl];unfold narrowRules;rw [if_pos ⟨hp,hm⟩]
  exact narrowR_sub rs (puzzleB_parts hp).2.2 hm
theorem narrowBy_masks {s:Int}{q:List Int}{rs:List S67}{m:List Int}{t:Int}(hp:puzzleB s q rs=true)(hm:masksB m s=true)(h1:1≤t)(h4:t≤4):masksB (narrowBy s q rs m t) s=true:=(narrowBy_sub hp hm h1 h4).masks hm
theorem narrowBy_len (s:Int)(q:List Int)(rs:List S67)(m:List Int)(t:Int):(narrowBy s q rs m t).length≤16:=by
 by_cases h:puzzleB s q rs=true∧masksB m s=true
 ·by_cases ht:1≤t∧t≤4
  ·exact masksB_le (narrowBy_masks h.1 h.2 ht.1 ht.2)
  ·unfold narrowBy
   rw [if_pos h,if_neg (by omega),if_neg (by omega),if_neg (by omega),if_neg (by omega)];exact Nat.zero_le _
 ·unfold narrowBy;rw [if_neg h];exact Nat.zero_le _
theorem specNarrowBy_ev (s:Int)(q:List Int)(rs:List S67)(m:List Int)(t:Int)(hq:q.length≤1048576)(hl:rs.length≤1048576)(hr:∀ x∈rs,x.f1.length≤1048576)(hml:m.length≤1048576)(hw:∀ x∈m,x≤9223372036854775807):Ev (fun k=>spec_NarrowBy.f k s q rs m t) (narrowBy s q rs m t):=by
 unfold spec_NarrowBy.f narrowBy
 have hno:Ev (fun k=>spec_NarrowBy.j0 k m t true s q rs) []:=by
  refine Ev.step (fun k=>spec_NarrowBy.j0.eq_2 _ _ _ _ _ _ k) ?_
  simp only [if_true];exact Ev.now _
 refine Ev.bind (specPuzzleValid_ev s q rs hq hl hr) ?_
 by_cases hp:puzzleB s q rs=true
 ·simp only [hp,if_true,true_and]
  refine Ev.bind (specMasksValid_ev m s (by omega)) ?_
  by_cases hm:masksB m s=true
  ·simp only [hm,Bool.not_true,if_true]
   refine Ev.step (fun k=>spec_NarrowBy.j0.eq_2 _ _ _ _ _ _ k) ?_
   simp only [Bool.false_eq_true,if_false]
   by_cases t1:t=1
   ·simp only [t1,if_true];exact Ev.bind (specNarrowSingles_ev m s (by omega)) (Ev.now _)
   ·by_cases t2:t=2
    ·simp only [t1,t2,if_true,if_false,(by decide:¬ (2:Int)=1)];exact Ev.bind (specNarrowHidden_ev m s (by omega)) (Ev.now _)
    ·by_cases t3:t=3
     ·simp only [t1,t2,t3,if_true,if_false,(by decide:¬ (3:Int)=1),(by decide:¬ (3:Int)=2)];exact Ev.bind (narrowPairsV_spec m s (by omega) hw).1 (Ev.now _)
     ·by_cases t4:t=4
      ·simp only [t1,t2,t3,t4,if_true,if_false,(by decide:¬ (4:Int)=1),(by decide:¬ (4:Int)=2),(by decide:¬ (4:Int)=3)];exact Ev.bind (specNarrowRules_ev s q rs m hq hl hr hml) (Ev.now _)
      ·simp only [t1,t2,t3,t4,if_false];exact Ev.now _
  ·simp only [hm,eq_false_of_ne_true hm,Bool.not_false,if_false]
   exact hno
 ·simp only [hp,if_false,false_and]
  exact hno
theorem implNarrowBy_ev (s:Int)(q:List Int)(rs:List S67)(m:List Int)(t:Int)(hq:q.length≤1048576)(hl:rs.length≤1048576)(hr:∀ x∈rs,x.f1.length≤1048576)(hml:m.length≤1048576)(hw:∀ x∈m,x≤9223372036854775807):Ev (fun k=>impl_NarrowBy.f k s q rs m t) (narrowBy s q rs m t):=by
 unfold impl_NarrowBy.f
 refine Ev.bind (implPuzzleValid_ev s q rs hq hl hr) ?_
 have e:puzzleB s q rs=true→narrowBy s q rs m t=(if t=1 then narrowSingles m s else if t=2 then narrowHidden m s else if t=3 then narrowPairsV m s else if t=4 then narrowRules s q rs m else []):=by
  intro hp
  unfold narrowBy
  by_cases hm:masksB m s=true
  ·rw [if_pos ⟨hp,hm⟩]
  ·rw [if_neg (fun h=>hm h.2)]
   have e1:narrowSingles m s=[]:=by unfold narrowSingles;rw [if_neg hm]
   have e2:narrowHidden m s=[]:=by unfold narrowHidden;rw [if_neg hm]
   have e3:narrowPairsV m s=[]:=(narrowPairsV_spec m s (by omega) hw).2.2.2 (eq_false_of_ne_true hm)
   have e4:narrowRules s q rs m=[]:=by unfold narrowRules;rw [if_neg (fun h=>hm h.2)]
   rw [e1,e2,e3,e4]
   simp
 by_cases hp:puzzleB s q rs=true
 ·rw [e hp]
  simp only [hp,if_true]
  by_cases t1:t=1
  ·simp only [t1,if_true];exact Ev.bind (implNarrowSingles_ev m s (by omega) hw) (Ev.now _)
  ·by_cases t2:t=2
   ·simp only [t1,t2,if_true,if_false,(by decide:¬ (2:Int)=1)];exact Ev.bind (implNarrowHidden_ev m s (by omega) hw) (Ev.now _)
   ·by_cases t3:t=3
    ·simp only [t1,t2,t3,if_true,if_false,(by decide:¬ (3:Int)=1),(by decide:¬ (3:Int)=2)];exact Ev.bind (narrowPairsV_spec m s (by omega) hw).2.1 (Ev.now _)
    ·by_cases t4:t=4
     ·simp only [t1,t2,t3,t4,if_true,if_false,(by decide:¬ (4:Int)=1),(by decide:¬ (4:Int)=2),(by decide:¬ (4:Int)=3)];exact Ev.bind (implNarrowRules_ev s q rs m hq hl hr hml hw) (Ev.now _)
     ·simp only [t1,t2,t3,t4,if_false];exact Ev.now _
 ·have e0:narrowBy s q rs m t=[]:=by unfold narrowBy;rw [if_neg (fun h=>hp h.1)]
  rw [e0]
  simp only [hp,if_false]
  exact Ev.now _

end Go.Proofs.Ytdemlminhkhonaa.Pure
namespace Go.Proofs.Ytdemlminhkhonaa.Pure
set_option linter.unusedSimpArgs false
set_option linter.unusedVariables false
open Go.RowKit Go.Proofs.YtdemlminhkhonaaW.PrintWords Go.Proofs.YtdemlminhkhonaaW.PrintMore Go.Proofs.Ytdemlminhkhonaa.P


def firstT (f:Int→List Int)(m:List Int):Nat→Int→Option (List Int × Int)
 | 0,_=>none
 | d + 1,t=>if f t=m then firstT f m d (t + 1) else some (f t,t)
theorem firstT_some {f:Int→List Int}{m:List Int}{x:List Int × Int}:∀ (d:Nat) (t:Int),firstT f m d t=some x→t≤x.2∧x.2 < t + d∧x.1=f x.2∧x.1≠m
 | 0,t,h=>by simp [firstT] at h
 | d + 1,t,h=>by
  unfold firstT at h
  by_cases e:f t=m
  ·rw [if_pos e] at h
   obtain ⟨h1,h2,h3⟩:=firstT_some d (t + 1) h
   exact ⟨by omega,by omega,h3⟩
  ·rw [if_neg e] at h
   obtain rfl:=Option.some.inj h
   exact ⟨Int.le_refl _,by simp only;omega,rfl,e⟩
def foldSteps {σ α:Type}(fin:List Int→σ→α)(upd:σ→List Int→Int→σ):List Int→σ→List (List Int × Int)→α
 | m,st,[]=>fin m st
 | _,st,x :: xs=>foldSteps fin upd x.1 (upd st x.1 x.2) xs
noncomputable def nextR (s:Int) (q:List Int) (rs:List S67) (most:Int) (m:List Int):Option (List Int × Int):=firstT (narrowBy s q rs m) m most.toNat 1
noncomputable def runN (s:Int) (q:List Int) (rs:List S67) (most:Int):Nat→List Int→List (List Int × Int)
 | 0,_=>[]
 | n + 1,m=>match nextR s q rs most m with
  | none=>[]
  | some x=>x :: runN s q rs most n x.1
noncomputable def stepsOf (s:Int) (q:List Int) (rs:List S67) (most:Int) (m:List Int):List (List Int × Int):=runN s q rs most (msum m) m
theorem next_less {s:Int}{q:List Int}{rs:List S67}{most:Int}{m:List Int}{x:List Int × Int}(hp:puzzleB s q rs=true)(hm:masksB m s=true)(h4:most≤4)(h:nextR s q rs most m=some x):masksB x.1 s=true∧msum x.1 < msum m∧1≤x.2∧x.2≤most∧x.1=narrowBy s q rs m x.2:=by
 obtain ⟨h1,h2,h3,hne⟩:=firstT_some _ _ h
 have hle:x.2≤most:=by omega
 have hsub:Sub x.1 m:=by rw [h3];exact narrowBy_sub hp hm h1 (by omega)
 exact ⟨hsub.masks hm,(hsub.msum hm).2 hne,h1,hle,h3⟩
theorem runN_stable {s:Int}{q:List Int}{rs:List S67}{most:Int}(hp:puzzleB s q rs=true)(h4:most≤4):∀ (k n n':Nat) (m:List Int),masksB m s=true→msum m≤k→k≤n→k≤n'→runN s q rs most n m=runN s q rs most n' m
 | 0,n,n',m,hm,hk,_,_=>by
  have hnil:∀ n,runN s q rs most n m=[]:=by
   intro n
   cases n with
   | zero=>rfl
   | succ n =>
    unfold runN
    cases h:nextR s q rs most m with
    | none=>rfl
    | some x=>have:=(next_less hp hm h4 h).2.1;omega
  rw [hnil,hnil]
 | k + 1,n,n',m,hm,hk,h1,h2=>by
  obtain ⟨a,rfl⟩:∃ a,n=a + 1:=⟨n - 1,by omega⟩
  obtain ⟨b,rfl⟩:∃ b,n'=b + 1:=⟨n' - 1,by omega⟩
  unfold runN
  cases h:nextR s q rs most m with
  | none=>rfl
  | some x =>
   obtain ⟨g1,g2,_⟩:=next_less hp hm h4 h
   simp only
   rw [runN_stable hp h4 k a b x.1 g1 (by omega) (by omega) (by omega)]
theorem steps_none {s:Int}{q:List Int}{rs:List S67}{most:Int}{m:List Int}(h:nextR s q rs most m=none):stepsOf s q rs most m=[]:=by
 unfold stepsOf
 cases msum m with
 | zero=>rfl
 | succ n=>unfold runN;rw [h]
theorem steps_some {s:Int}{q:List Int}{rs:List S67}{most:Int}{m:List Int}{x:List Int × Int}(hp:puzzleB s q rs=true)(hm:masksB m s=true)(h4:most≤4)(h:nextR s q rs most m=some x):stepsOf s q rs most m=x :: stepsOf s q rs most x.1:=by
 obtain ⟨g1,g2,_⟩:=next_less hp hm h4 h
 unfold stepsOf
 obtain ⟨n,hn⟩:∃ n,msum m=n + 1:=⟨msum m - 1,by omega⟩
 rw [hn]
 conv=>lhs;unfold runN
 rw [h]
 simp only
 rw [runN_stable hp h4 (msum x.1) n (msum x.1) x.1 g1 (Nat.le_refl _) (by omega) (Nat.le_refl _)]
theorem roundsLoop {σ α:Type}{s:Int}{q:List Int}{rs:List S67}{most:Int}(hp:puzzleB s q rs=true)(h4:most≤4){L:Nat→List Int→σ→Option α}{upd:σ→List Int→Int→σ}{fin:List Int→σ→α}(Inv:List Int→σ→Prop)
  (hI:∀ m st x,masksB m s=true→Inv m st→nextR s q rs most m=some x→Inv x.1 (upd st x.1 x.2))
  (hnone:∀ m st,masksB m s=true→Inv m st→nextR s q rs most m=none→Ev (fun k=>L k m st) (fin m st))
  (hsome:∀ m st x R,masksB m s=true→Inv m st→nextR s q rs most m=some x→Ev (fun k=>L k x.1 (upd st x.1 x.2)) R→Ev (fun k=>L k m st) R) :
  ∀ (n:Nat) (m:List Int) (st:σ),msum m≤n→masksB m s=true→Inv m st→Ev (fun k=>L k m st) (foldSteps fin upd m st (stepsOf s q rs most m))
 | 0,m,st,hn,hm,hi=>by
  cases h:nextR s q rs most m with
  | none=>rw [steps_none h];exact hnone m st hm hi h
  | some x=>have:=(next_less hp hm h4 h).2.1;omega
 | n + 1,m,st,hn,hm,hi=>by
  cases h:nextR s q rs most m with
  | none=>rw [steps_none h];exact hnone m st hm hi h
  | some x =>
   obtain ⟨g1,g2,_⟩:=next_less hp hm h4 h
   rw [steps_some hp hm h4 h]
   exact hsome m st x _ hm hi h (roundsLoop hp h4 Inv hI hnone hsome n x.1 _ (by omega) g1 (hI m st x hm hi h))
theorem techLoop {σ α:Type}{s:Int}{q:List Int}{rs:List S67}{most:Int}{L:Nat→List Int→σ→Int→Option α}{upd:σ→List Int→Int→σ}{m:List Int}{st:σ}
  (hsame:∀ t R,1≤t→t≤most→narrowBy s q rs m t=m→Ev (fun k=>L k m st (t + 1)) R→Ev (fun k=>L k m st t) R)
  (hdiff:∀ t R,1≤t→t≤most→narrowBy s q rs m t≠m→Ev (fun k=>L k (narrowBy s q rs m t) (upd st (narrowBy s q rs m t) t) 1) R→Ev (fun k=>L k m st t) R) :
  ∀ (d:Nat) (t:Int) (R:α),1≤t→t + d=most + 1→(firstT (narrowBy s q rs m) m d t=none→Ev (fun k=>L k m st (most + 1)) R)→(∀ x,firstT (narrowBy s q rs m) m d t=some x→Ev (fun k=>L k x.1 (upd st x.1 x.2) 1) R)→Ev (fun k=>L k m st t) R
 | 0,t,R,h1,hd,hn,_=>by
  obtain rfl:t=most + 1:=by omega
  exact hn rfl
 | d + 1,t,R,h1,hd,hn,hs=>by
  unfold firstT at hn hs
  by_cases e:narrowBy s q rs m t=m
  ·rw [if_pos e] at hn hs
   exact hsame t R h1 (by omega) e (techLoop hsame hdiff d (t + 1) R (by omega) (by omega) hn hs)
  ·rw [if_neg e] at hn hs
   exact hdiff t R h1 (by omega) e (hs _ rfl)

end Go.Proofs.Ytdemlminhkhonaa.Pure
namespace Go.Proofs.Ytdemlminhkhonaa.Pure
set_option linter.unusedSimpArgs false
set_option linter.unusedVariables false
open Go.RowKit Go.Proofs.YtdemlminhkhonaaW.PrintWords Go.Proofs.YtdemlminhkhonaaW.PrintMore Go.Proofs.Ytdemlminhkhonaa.P


theorem same_ev (a b:List Int)(h:a.length < 9000000000000000000):Ev (fun k=>spec_l8Same.f k a b) (decide (a=b)):=by
 unfold spec_l8Same.f
 by_cases hl:a.length=b.length
 ·simp only [hl,if_true]
  have:=Ev.range0 (L:=fun k i=>spec_l8Same.l0 k a b i) (R:=fun n=>decide (a.drop n=b.drop n)) (N:=a.length) ?_ ?_ 0 (Nat.zero_le _)
  ·simpa using this
  ·refine Ev.step (fun k=>spec_l8Same.l0.eq_2 _ _ _ k) ?_
   have e1:a.drop a.length=[]:=List.drop_length
   have e2:b.drop a.length=[]:=by rw [hl];exact List.drop_length
   simp [e1,e2,Ev.now]
  ·intro n hn ih
   refine Ev.step (fun k=>spec_l8Same.l0.eq_2 _ _ _ k) ?_
   have h1:(n:Int) < (a.length:Int):=by omega
   have h2:(n:Int) < (b.length:Int):=by omega
   have h3:(0:Int)≤n:=by omega
   rw [drop_cons hn,drop_cons (by omega:n < b.length)]
   simp only [h1,h2,h3,if_true,rd_lt hn,rd_lt (by omega:n < b.length)]
   by_cases he:a[n]=b[n]
   ·simp only [he,if_true,w64n (by omega:n < 9000000000000000000),List.cons.injEq,true_and]
    exact ih
   ·simp only [he,if_false,List.cons.injEq,false_and,decide_false]
    exact Ev.now _
 ·have:¬ ((a.length:Int)=(b.length:Int)):=by omega
  have hne:¬ a=b:=fun e=>hl (by rw [e])
  simp only [this,if_false,hne,decide_false]
  exact Ev.now _
theorem equal_ev (a b:List Int)(h:a.length < 9000000000000000000):Ev (fun k=>slices_Equal_int_int.f k a b) (decide (a=b)):=by
 unfold slices_Equal_int_int.f
 by_cases hl:a.length=b.length
 ·simp only [hl,if_true]
  have:=Ev.range0 (L:=fun k i=>slices_Equal_int_int.l0 k a b (b.length:Int) i) (R:=fun n=>decide (a.drop n=b.drop n)) (N:=a.length) ?_ ?_ 0 (Nat.zero_le _)
  ·simpa using this
  ·refine Ev.step (fun k=>slices_Equal_int_int.l0.eq_2 _ _ _ _ k) ?_
   have e1:a.drop a.length=[]:=List.drop_length
   have e2:b.drop a.length=[]:=by rw [hl];exact List.drop_length
   have e3:¬ (a.length:Int) < (b.length:Int):=by omega
   simp [e1,e2,e3,Ev.now]
  ·intro n hn ih
   refine Ev.step (fun k=>slices_Equal_int_int.l0.eq_2 _ _ _ _ k) ?_
   have h1:(n:Int) < (a.length:Int):=by omega
   have h2:(n:Int) < (b.length:Int):=by omega
   have h3:(0:Int)≤n:=by omega
   rw [drop_cons hn,drop_cons (by omega:n < b.length)]
   simp only [h1,h2,h3,if_true,rd_lt hn,rd_lt (by omega:n < b.length)]
   by_cases he:a[n]=b[n]
   ·simp only [he,if_true,w64n (by omega:n < 9000000000000000000),List.cons.injEq,true_and]
    exact ih
   ·simp only [he,if_false,List.cons.injEq,false_and,decide_false]
    exact Ev.now _
 ·have:¬ ((a.length:Int)=(b.length:Int)):=by omega
  have hne:¬ a=b:=fun e=>hl (by rw [e])
  simp only [this,if_false,hne,decide_false]
  exact Ev.now _
noncomputable def allOf (s:Int) (q:List Int) (rs:List S67) (most:Int) (m:List Int):List Int × Int:=foldSteps (fun m (r:Int)=>(m,r)) (fun r _ _=>r + 1) m 0 (stepsOf s q rs most m)
noncomputable def narrowAll (s:Int) (q:List Int) (rs:List S67) (m:List Int) (most:Int):List Int × Int:=if puzzleB s q rs=true∧masksB m s=true∧1≤most∧most≤4 then allOf s q rs most m else ([],-1)
theorem msum_small {m:List Int}{s:Int}(hm:masksB m s=true):msum m≤480:=by
 have h30:allM s≤30:=by rcases sizeOkB_iff.1 (masksB_size hm) with rfl|rfl|rfl <;> decide
 have:=msum_bound m (fun v hv=>by have:=masksB_mem hm v hv;omega)
 have:=masksB_le hm
 omega
theorem all_masks {s:Int}{q:List Int}{rs:List S67}{most:Int}(hp:puzzleB s q rs=true)(h4:most≤4):∀ (n:Nat) (m:List Int) (r:Int),msum m≤n→masksB m s=true→masksB (foldSteps (fun m (r:Int)=>(m,r)) (fun r _ _=>r + 1) m r (stepsOf s q rs most m)).1 s=true
 | 0,m,r,hn,hm=>by
  cases h:nextR s q rs most m with
  | none=>rw [steps_none h];exact hm
  | some x=>have:=(next_less hp hm h4 h).2.1;omega
 | n + 1,m,r,hn,hm=>by
  cases h:nextR s q rs most m with
  | none=>rw [steps_none h];exact hm
  | some x =>
   obtain ⟨g1,g2,_⟩:=next_less hp hm h4 h
   rw [steps_some hp hm h4 h]
   exact all_masks hp h4 n x.1 (r + 1) (by omega) g1
theorem narrowAll_len (s:Int)(q:List Int)(rs:List S67)(m:List Int)(most:Int):(narrowAll s q rs m most).1.length≤16:=by
 unfold narrowAll
 split
 ·rename_i h
  exact masksB_le (all_masks h.1 h.2.2.2 (msum m) m 0 (Nat.le_refl _) h.2.1)
 ·exact Nat.zero_le _
theorem specNarrowAll_ev (s:Int)(q:List Int)(rs:List S67)(m:List Int)(most:Int)(hq:q.length≤1048576)(hl:rs.length≤1048576)(hr:∀ x∈rs,x.f1.length≤1048576)(hml:m.length≤1048576):Ev (fun k=>spec_NarrowAll.f k s q rs m most) (narrowAll s q rs m most):=by
 unfold spec_NarrowAll.f narrowAll spec_l1In.f
 have hno:Ev (fun k=>spec_NarrowAll.j0 k m most true s q rs) ([],-1):=by
  refine Ev.step (fun k=>spec_NarrowAll.j0.eq_2 _ _ _ _ _ _ k) ?_
  simp only [if_true];exact Ev.now _
 refine Ev.bind (specPuzzleValid_ev s q rs hq hl hr) ?_
 by_cases hp:puzzleB s q rs=true
 ·simp only [hp,if_true,true_and]
  refine Ev.bind (specMasksValid_ev m s (by omega)) ?_
  by_cases hm:masksB m s=true
  ·simp only [hm,if_true,true_and]
   by_cases h1:1≤most
   ·have h1':most ≥ 1:=h1
    by_cases h4:most≤4
    ·simp only [h1,h1',h4,if_true,decide_true,Option.bind_some,Bool.not_true,and_self]
     refine Ev.step (fun k=>spec_NarrowAll.j0.eq_2 _ _ _ _ _ _ k) ?_
     have hcp:spec_l6Copy.f m=some m:=by unfold spec_l6Copy.f;simp only [Option.bind_some,List.nil_append];rw [if_pos (by simp;omega)]
     simp only [Bool.false_eq_true,if_false,hcp,Option.bind_some]
     refine roundsLoop hp h4 (L:=fun k m r=>spec_NarrowAll.l0 k most m r 1 s q rs) (upd:=fun r _ _=>r + 1) (fin:=fun m (r:Int)=>(m,r)) (fun m r=>0≤r∧r + msum m≤1000) ?_ ?_ ?_ (msum m) m 0 (Nat.le_refl _) hm ⟨Int.le_refl _,by have:=msum_small hm;omega⟩
     ·rintro m r x hm ⟨hr0,hr1⟩ hx
      have:=(next_less hp hm h4 hx).2.1
      exact ⟨by omega,by omega⟩
     all_goals
      intro m r
     ·rintro hm ⟨hr0,hr1⟩ hx
      have hmw:=masks_w hm
      refine techLoop (s:=s) (q:=q) (rs:=rs) (L:=fun k m r t=>spec_NarrowAll.l0 k most m r t s q rs) (upd:=fun r _ _=>r + 1) (m:=m) (st:=r) (most:=most) ?_ ?_ most.toNat 1 _ (by omega) (by omega) (fun _=>?_) (fun x hx2=>?_)
      ·intro t R t1 t2 he hR
       refine Ev.step (fun k=>spec_NarrowAll.l0.eq_2 _ _ _ _ _ _ _ k) ?_
       simp only [t2,if_true]
       refine Ev.bind (specNarrowBy_ev s q rs m t hq hl hr (by omega) hmw.1) ?_
       refine Ev.bind (same_ev _ _ (by have:=narrowBy_len s q rs m t;omega)) ?_
       simp only [he,decide_true,if_true,w64 (x:=t + 1) (by omega) (by omega)]
       exact hR
      ·intro t R t1 t2 he hR
       refine Ev.step (fun k=>spec_NarrowAll.l0.eq_2 _ _ _ _ _ _ _ k) ?_
       simp only [t2,if_true]
       refine Ev.bind (specNarrowBy_ev s q rs m t hq hl hr (by omega) hmw.1) ?_
       refine Ev.bind (same_ev _ _ (by have:=narrowBy_len s q rs m t;omega)) ?_
       simp only [he,decide_false,if_false,Bool.false_eq_true,w64 (x:=r + 1) (by omega) (by omega)]
       exact hR
      ·refine Ev.step (fun k=>spec_NarrowAll.l0.eq_2 _ _ _ _ _ _ _ k) ?_
       have:¬ most + 1≤most:=by omega
       simp only [this,if_false]
       exact Ev.now _
      ·unfold nextR at hx;rw [hx] at hx2;cases hx2
     ·rintro x R hm ⟨hr0,hr1⟩ hx hR0
      have hmw:=masks_w hm
      refine techLoop (s:=s) (q:=q) (rs:=rs) (L:=fun k m r t=>spec_NarrowAll.l0 k most m r t s q rs) (upd:=fun r _ _=>r + 1) (m:=m) (st:=r) (most:=most) ?_ ?_ most.toNat 1 _ (by omega) (by omega) (fun hx2=>?_) (fun y hx2=>?_)
      ·intro t R t1 t2 he hR
       refine Ev.step (fun k=>spec_NarrowAll.l0.eq_2 _ _ _ _ _ _ _ k) ?_
       simp only [t2,if_true]
       refine Ev.bind (specNarrowBy_ev s q rs m t hq hl hr (by omega) hmw.1) ?_
       refine Ev.bind (same_ev _ _ (by have:=narrowBy_len s q rs m t;omega)) ?_
       simp only [he,decide_true,if_true,w64 (x:=t + 1) (by omega) (by omega)]
       exact hR
      ·intro t R t1 t2 he hR
       refine Ev.step (fun k=>spec_NarrowAll.l0.eq_2 _ _ _ _ _ _ _ k) ?_
       simp only [t2,if_true]
       refine Ev.bind (specNarrowBy_ev s q rs m t hq hl hr (by omega) hmw.1) ?_
       refine Ev.bind (same_ev _ _ (by have:=narrowBy_len s q rs m t;omega)) ?_
       simp only [he,decide_false,if_false,Bool.false_eq_true,w64 (x:=r + 1) (by omega) (by omega)]
       exact hR
      ·unfold nextR at hx;rw [hx] at hx2;cases hx2
      ·unfold nextR at hx;rw [hx] at hx2
       obtain rfl:=Option.some.inj hx2
       exact hR0
    ·simp only [h1',h4,if_true,decide_false,Option.bind_some,Bool.not_false,and_false,if_false]
     exact hno
   ·have h1':¬ most ≥ 1:=h1
    simp only [h1,h1',if_false,Option.bind_some,Bool.not_false,false_and]
    exact hno
  ·simp only [hm,if_false,false_and]
   exact hno
 ·simp only [hp,if_false,false_and]
  exact hno
theorem nextRound_ev {s:Int}{q:List Int}{rs:List S67}{m:List Int}{most:Int}(h0:0≤most)(h4:most≤4)(hq:q.length≤1048576)(hl:rs.length≤1048576)(hr:∀ x∈rs,x.f1.length≤1048576)(hm:masksB m s=true):Ev (fun k=>impl_nextRound.f k s q rs m most) ((nextR s q rs most m).getD ([],0)):=by
 unfold impl_nextRound.f nextR
 have hmw:=masks_w hm
 have main:∀ (d:Nat) (t:Int),1≤t→t + d=most + 1→Ev (fun k=>impl_nextRound.l0 k m most t s q rs) ((firstT (narrowBy s q rs m) m d t).getD ([],0)):=by
  intro d
  induction d with
  | zero =>
   intro t h1 hd
   refine Ev.step (fun k=>impl_nextRound.l0.eq_2 _ _ _ _ _ _ k) ?_
   have:¬ t≤most:=by omega
   simp only [this,if_false]
   exact Ev.now _
  | succ d ih =>
   intro t h1 hd
   refine Ev.step (fun k=>impl_nextRound.l0.eq_2 _ _ _ _ _ _ k) ?_
   have ht:t≤most:=by omega
   simp only [ht,if_true]
   refine Ev.bind (implNarrowBy_ev s q rs m t hq hl hr (by omega) hmw.1) ?_
   refine Ev.bind (equal_ev _ _ (by have:=narrowBy_len s q rs m t;omega)) ?_
   unfold firstT
   by_cases he:narrowBy s q rs m t=m
   ·simp only [he,decide_true,if_true,w64 (x:=t + 1) (by omega) (by omega)]
    exact ih (t + 1) (by omega) (by omega)
   ·simp only [he,decide_false,if_false,Bool.false_eq_true,Option.getD_some]
    exact Ev.now _
 exact main most.toNat 1 (by omega) (by omega)
theorem implNarrowAll_ev (s:Int)(q:List Int)(rs:List S67)(m:List Int)(most:Int)(hq:q.length≤1048576)(hl:rs.length≤1048576)(hr:∀ x∈rs,x.f1.length≤1048576)(hml:m.length≤1048576)(hw:∀ x∈m,x≤9223372036854775807):Ev (fun k=>impl_NarrowAll.f k s q rs m most) (narrowAll s q rs m most):=by
 unfold impl_NarrowAll.f narrowAll
 have hno:Ev (fun k=>impl_NarrowAll.j0 k m most true s q rs) ([],-1):=by
  refine Ev.step (fun k=>impl_NarrowAll.j0.eq_2 _ _ _ _ _ _ k) ?_
  simp only [if_true];exact Ev.now _
 refine Ev.bind (implPuzzleValid_ev s q rs hq hl hr) ?_
 by_cases hp:puzzleB s q rs=true
 ·simp only [hp,if_true,true_and]
  refine Ev.bind (implMasksValid_ev m s (by omega) hw) ?_
  by_cases hm:masksB m s=true
  ·simp only [hm,if_true,true_and]
   by_cases h1:most < 1
   ·have h1':¬ 1≤most:=by omega
    simp only [h1,h1',if_true,false_and,if_false]
    exact hno
   ·have h1':1≤most:=by omega
    by_cases h4:most≤4
    ·have h4':¬ most > 4:=by omega
     simp only [h1,h1',h4,h4',if_true,if_false,decide_false,and_self]
     refine Ev.step (fun k=>impl_NarrowAll.j0.eq_2 _ _ _ _ _ _ k) ?_
     have hcp:slices_Clone_int_int.f m=some m:=by unfold slices_Clone_int_int.f;rw [if_pos (by omega)]
     simp only [Bool.false_eq_true,if_false,hcp,Option.bind_some]
     refine roundsLoop hp h4 (L:=fun k m r=>impl_NarrowAll.l0 k most m r s q rs) (upd:=fun r _ _=>r + 1) (fin:=fun m (r:Int)=>(m,r)) (fun m r=>0≤r∧r + msum m≤1000) ?_ ?_ ?_ (msum m) m 0 (Nat.le_refl _) hm ⟨Int.le_refl _,by have:=msum_small hm;omega⟩
     ·rintro m r x hm ⟨hr0,hr1⟩ hx
      have:=(next_less hp hm h4 hx).2.1
      exact ⟨by omega,by omega⟩
     ·rintro m r hm ⟨hr0,hr1⟩ hx
      refine Ev.step (fun k=>impl_NarrowAll.l0.eq_2 _ _ _ _ _ _ k) ?_
      refine Ev.bind (nextRound_ev (by omega) h4 hq hl hr hm) ?_
      simp only [hx,Option.getD_none,if_true]
      exact Ev.now _
     ·rintro m r x R hm ⟨hr0,hr1⟩ hx hR
      refine Ev.step (fun k=>impl_NarrowAll.l0.eq_2 _ _ _ _ _ _ k) ?_
      refine Ev.bind (nextRound_ev (by omega) h4 hq hl hr hm) ?_
      have hx0:=(next_less hp hm h4 hx).2.2.1
      have hx1:¬ x.2=0:=by omega
      simp only [hx,Option.getD_some,hx1,if_false,w64 (x:=r + 1) (by omega) (by omega)]
      exact hR
    ·have h4':most > 4:=by omega
     simp only [h1,h4,h4',if_false,decide_true,and_false]
     exact hno
  ·simp only [hm,if_false,false_and]
   exact hno
 ·simp only [hp,if_false,false_and]
  exact hno

end Go.Proofs.Ytdemlminhkhonaa.Pure
namespace Go.Proofs.Ytdemlminhkhonaa.Pure
set_option linter.unusedSimpArgs false
set_option linter.unusedVariables false
open Go.RowKit Go.Proofs.YtdemlminhkhonaaW.PrintWords Go.Proofs.YtdemlminhkhonaaW.PrintMore

def trV (f:List Int→Int→List Int × Int)(g:List Int)(n i:Nat)(v:Int):Nat→Int→List Int × Int
 | 0,left=>([],left)
 | m + 1,left=>if freeB g n i v n=true then (if 0 < (f (g.set i v) left).1.length then f (g.set i v) left else trV f g n i (v + 1) m (f (g.set i v) left).2) else trV f g n i (v + 1) m left
def srch (n N:Nat):Nat→List Int→Int→List Int × Int
 | 0,g,left=>if left=0 then (g,left) else ([],left - 1)
 | d + 1,g,left=>trV (srch n N d) g n (N - (d + 1)) 1 n left

end Go.Proofs.Ytdemlminhkhonaa.Pure
namespace Go.Proofs.Ytdemlminhkhonaa.Pure
set_option linter.unusedSimpArgs false
set_option linter.unusedVariables false
open Go.RowKit Go.Proofs.YtdemlminhkhonaaW.PrintWords Go.Proofs.YtdemlminhkhonaaW.PrintMore Go.Proofs.Ytdemlminhkhonaa.P


theorem l5loop_ev {fits:Nat→List Int→Option Bool}{f:Nat→List Int→List (List Int)→Option (List (List Int))}{P:List Int→Bool}{F:List Int→List (List Int)}{g:List Int}{i M:Nat}:∀ (m:Nat) (v:Int) (out:List (List Int)),
  (∀ u,v≤u→u < v + m→Ev (fun k=>fits k (g.set i u)) (P (g.set i u))) →
  (∀ u,v≤u→u < v + m→∀ o:List (List Int),o.length < M→Ev (fun k=>f k (g.set i u) o) (o ++ (F (g.set i u)).take (M - o.length))) →
  out.length≤M→Ev (fun k=>spec_l5Search.loop (fits k) (f k) g i (M:Int) m v out) (out ++ (seekV P F g i v m).take (M - out.length))
 | 0,v,out,_,_,_=>by
  unfold spec_l5Search.loop seekV
  rw [List.take_nil,List.append_nil]
  exact Ev.now _
 | m + 1,v,out,h1,h2,hl=>by
  unfold spec_l5Search.loop seekV
  by_cases hlt:out.length < M
  ·have hlt2:(out.length:Int) < (M:Int):=by omega
   simp only [hlt2,if_true]
   refine Ev.bind (h1 v (Int.le_refl _) (by omega)) ?_
   cases hb:P (g.set i v) with
   | false =>
    simp only [Bool.false_eq_true,if_false,List.nil_append]
    exact l5loop_ev m (v + 1) out (fun u a b=>h1 u (by omega) (by omega)) (fun u a b=>h2 u (by omega) (by omega)) hl
   | true =>
    simp only [if_true]
    refine Ev.bind (h2 v (Int.le_refl _) (by omega) out hlt) ?_
    have e:out ++ (F (g.set i v) ++ seekV P F g i (v + 1) m).take (M - out.length)=(out ++ (F (g.set i v)).take (M - out.length)) ++ (seekV P F g i (v + 1) m).take (M - (out ++ (F (g.set i v)).take (M - out.length)).length):=by
     rw [List.take_append,List.append_assoc,List.length_append,List.length_take]
     congr 3
     omega
    rw [e]
    exact l5loop_ev m (v + 1) _ (fun u a b=>h1 u (by omega) (by omega)) (fun u a b=>h2 u (by omega) (by omega)) (by rw [List.length_append,List.length_take];omega)
  ·have hlt2:¬ (out.length:Int) < (M:Int):=by omega
   simp only [hlt2,if_false]
   rw [show M - out.length=0 by omega,List.take_zero,List.append_nil]
   exact Ev.now _
theorem l5Search_ev {s:Int}{q:List Int}{rs:List S67}(hp:puzzleB s q rs=true)(hr:∀ x∈rs,x.f1.length≤1048576){M:Nat}(hM:M≤1000):∀ (d:Nat) (g:List Int) (out:List (List Int)),d≤s.toNat * s.toNat→gridB g s=true→out.length < M→Ev (fun k=>spec_l5Search.srch k s q rs (M:Int) (s.toNat * s.toNat) d g out) (out ++ (seek (puzzleFits s q rs) s.toNat (s.toNat * s.toNat) d g).take (M - out.length))
 | 0,g,out,_,_,hl=>by
  unfold spec_l5Search.srch seek
  have:out.length≤100000:=by omega
  simp only [this,if_true]
  rw [List.take_of_length_le (by simp;omega)]
  exact Ev.now _
 | d + 1,g,out,hd,hg,hl=>by
  unfold spec_l5Search.srch seek
  have hi:((s.toNat * s.toNat:Nat):Int) - ((d + 1:Nat):Int)=((s.toNat * s.toNat - (d + 1):Nat):Int):=by omega
  simp only [hi,Int.toNat_natCast]
  by_cases h0:0 < rd g ((s.toNat * s.toNat - (d + 1):Nat):Int)
  ·simp only [h0,if_true]
   exact l5Search_ev hp hr hM d g out (by omega) hg hl
  ·simp only [h0,if_false]
   have hs:=(size_or (gridB_size hg)).2
   refine l5loop_ev (P:=puzzleFits s q rs) s.toNat 1 out (fun u a b=>?_) (fun u a b o ho=>?_) (by omega)
   ·have hg2:=grid_set hg (s.toNat * s.toNat - (d + 1)) (v:=u) (by omega) (by omega)
    rw [fits_eq hp hg2]
    exact l5Fits_ev hp hg2 hr
   ·exact l5Search_ev hp hr hM d _ o (by omega) (grid_set hg (s.toNat * s.toNat - (d + 1)) (v:=u) (by omega) (by omega)) ho
theorem l5All_ev (s:Int)(q:List Int)(rs:List S67)(M:Nat)(h0:0 < M)(hM:M≤1000)(hq:q.length≤1048576)(hl:rs.length≤1048576)(hr:∀ x∈rs,x.f1.length≤1048576):Ev (fun k=>spec_l5All.f k s q rs (M:Int)) (firstSols s q rs M):=by
 unfold spec_l5All.f firstSols
 refine Ev.bind (specPuzzleFits_ev s q rs q hq hl hr hq) ?_
 by_cases hf:puzzleFits s q rs q=true
 ·obtain ⟨hp,hg,_⟩:=fits_parts hf
  have h16:=gridB_le hg
  have hs:=size_or (gridB_size hg)
  have hc:q.length≤100000∧s≤1000:=⟨by omega,by omega⟩
  simp only [hf,hc,and_self,if_true]
  have:=l5Search_ev hp hr hM (s.toNat * s.toNat) q [] (Nat.le_refl _) hg h0
  rw [grid_len hg]
  simpa using this
 ·simp only [hf,if_false]
  exact Ev.now _

end Go.Proofs.Ytdemlminhkhonaa.Pure
namespace Go.Proofs.Ytdemlminhkhonaa.Pure
set_option linter.unusedSimpArgs false
set_option linter.unusedVariables false
open Go.RowKit Go.Proofs.YtdemlminhkhonaaW.PrintWords Go.Proofs.YtdemlminhkhonaaW.PrintMore Go.Proofs.Ytdemlminhkhonaa.P


theorem rowcol_at {n i j:Nat}(hn:n=2∨n=3∨n=4)(hi:i < n * n)(hj:j < n):rowCell n i j < n * n∧colCell n i j < n * n:=by
 unfold rowCell colCell
 rcases hn with rfl|rfl|rfl <;> omega
theorem freeB_step {g:List Int}{n i:Nat}{v:Int}{m:Nat}(h:freeB g n i v m=true)(h1:rd g (rowCell n i m:Nat)≠v)(h2:rd g (colCell n i m:Nat)≠v):freeB g n i v (m + 1)=true:=by
 rw [freeB,h,Bool.true_and,decide_eq_true h1,decide_eq_true h2];rfl
theorem freeB_no {g:List Int}{n i:Nat}{v:Int}{m N:Nat}(hm:m < N)(h:rd g (rowCell n i m:Nat)=v∨rd g (colCell n i m:Nat)=v):freeB g n i v N=false:=by
 refine eq_false_of_ne_true (fun e=>?_)
 have:=(freeB_iff g n i v N).1 e m hm
 rcases h with h|h
 ·exact this.1 h
 ·exact this.2 h
set_option maxHeartbeats 1000000 in
theorem cellFits_ev {s:Int}{q:List Int}{rs:List S67}{g:List Int}{i:Nat}{v:Int}(hf:puzzleFits s q rs g=true)(hx:∀ j:Nat,0 < rd q (j:Int)→rd g (j:Int)=rd q (j:Int))(hz:rd g (i:Int)=0)(hi:i < s.toNat * s.toNat)(h1:1≤v)(h2:v≤s)(hr:∀ x∈rs,x.f1.length≤1048576):Ev (fun k=>impl_cellFits.f k s q rs (g.set i v) (i:Int)) (puzzleFits s q rs (g.set i v)):=by
 obtain ⟨hp,hg,hsq,hag,hps⟩:=fits_parts hf
 obtain ⟨hn,hsn⟩:=size_or (gridB_size hg)
 have hlen:=grid_len hg
 obtain ⟨_,h20,hrs⟩:=puzzleB_parts hp
 have hg2:=grid_set hg i (by omega:0≤v) h2
 have hFit:=(squareFits_iff hg).1 hsq
 have hset:=fits_set hn hlen hi hz (by omega:0 < v) hFit
 have hlen2:(g.set i v).length=g.length:=List.length_set
 have hri:rd (g.set i v) (i:Int)=v:=rd_set_eq (by omega) v
 have hno:freeB g s.toNat i v s.toNat=false→puzzleFits s q rs (g.set i v)=false:=by
  intro e
  refine eq_false_of_ne_true (fun e2=>?_)
  have:=hset.1 ((squareFits_iff hg2).1 (fits_parts e2).2.2.1)
  rw [e] at this;cases this
 unfold impl_cellFits.f
 refine Ev.range (σ:=Unit) (L:=fun k _ j=>impl_cellFits.l0 k (g.set i v) (i:Int) s s j s q rs) (R:=fun _ _=>puzzleFits s q rs (g.set i v)) (N:=s.toNat) (fun _ j=>freeB g s.toNat i v j=true) ?_ ?_ () 0 (Nat.zero_le _) rfl
 ·intro _ hfree
  have hsq2:squareFits (g.set i v) s=true:=(squareFits_iff hg2).2 (hset.2 hfree)
  have hag2:agreeP q (g.set i v) (g.set i v).length=true:=agreeP_of _ (set_ext hx hz)
  have e:puzzleFits s q rs (g.set i v)=possB rs (g.set i v) s:=by
   unfold puzzleFits;rw [hp,hsq2,hag2];rfl
  rw [e]
  refine Ev.step (fun k=>impl_cellFits.l0.eq_2 _ _ _ _ _ _ _ _ k) ?_
  have h3:¬ ((s.toNat:Nat):Int) < s:=by omega
  simp only [h3,if_false]
  refine Ev.range (σ:=Unit) (L:=fun k _ j=>impl_cellFits.l2 k (g.set i v) (i:Int) s rs (rs.length:Int) j) (R:=fun _ _=>possB rs (g.set i v) s) (N:=rs.length) (fun _ j=>possB (rs.take j) (g.set i v) s=true) ?_ ?_ () 0 (Nat.zero_le _) rfl
  ·intro _ hall
   refine Ev.step (fun k=>impl_cellFits.l2.eq_2 _ _ _ _ _ _ k) ?_
   rw [List.take_length] at hall
   simp only [Int.lt_irrefl,if_false,hall]
   exact Ev.now _
  ·intro _ j hj hall ih
   refine Ev.step (fun k=>impl_cellFits.l2.eq_2 _ _ _ _ _ _ k) ?_
   have h4:(j:Int) < (rs.length:Int):=by omega
   have h5:(0:Int)≤(j:Int):=Int.natCast_nonneg j
   simp only [h4,h5,if_true,rdI rs hj]
   have hlen4:=hr rs[j] (List.getElem_mem hj)
   refine Ev.bind (contains_ev _ _ (by omega)) ?_
   by_cases hc:(i:Int)∈rs[j].f1
   ·simp only [hc,decide_true,if_true]
    refine Ev.bind (canHold_ev (rules_get hrs hj) hg2) ?_
    by_cases hx2:rulePossible rs[j].f0 rs[j].f1 rs[j].f2 (g.set i v) s=true
    ·simp only [hx2,if_true,w64n (by omega:j < 9000000000000000000)]
     exact ih () (take_possB hj hall hx2)
    ·simp only [hx2,if_false,Bool.false_eq_true]
     rw [possB_false hj (eq_false_of_ne_true hx2)];exact Ev.now _
   ·simp only [hc,decide_false,if_false,Bool.false_eq_true,w64n (by omega:j < 9000000000000000000)]
    refine ih () (take_possB hj hall ?_)
    rw [rulePossible_set hg hg2 hc]
    unfold possB at hps
    exact List.all_eq_true.1 hps _ (List.getElem_mem hj)
 ·intro _ j hj hfree ih
  refine Ev.step (fun k=>impl_cellFits.l0.eq_2 _ _ _ _ _ _ _ _ k) ?_
  have h3:((j:Nat):Int) < s:=by omega
  have h5:¬ s=0:=by omega
  have hrow:=row_idx hn hi hj
  have hcol:=col_idx hn hi hj
  rw [← hsn] at hrow hcol
  obtain ⟨hr1,hc1⟩:=rowcol_at hn hi hj
  simp only [h3,h5,if_true,if_false,hrow,hcol,Option.bind_some]
  have hnext:∀ t,t < 2→True:=fun _ _=>trivial
  have hil:(i:Int) < ((g.set i v).length:Int):=by omega
  have hi0:(0:Int)≤(i:Int):=Int.natCast_nonneg _
  -- one cell of the two
  have hcell:∀ (c:Nat) (A B:Nat→Option Bool),c < s.toNat * s.toNat→(rd g (c:Int)=v→puzzleFits s q rs (g.set i v)=false)→(rd g (c:Int)≠v→Ev A (puzzleFits s q rs (g.set i v)))→Ev (fun k=>if (c:Int)=(i:Int) then A k else (if 0≤(c:Int) then (if (c:Int) < ((g.set i v).length:Int) then (if 0≤(i:Int) then (if (i:Int) < ((g.set i v).length:Int) then (if rd (g.set i v) (c:Int)=rd (g.set i v) (i:Int) then some false else A k) else none) else none) else none) else none)) (puzzleFits s q rs (g.set i v)):=by
   intro c A B hc hbad hgo
   by_cases hci:(c:Int)=(i:Int)
   ·simp only [hci,if_true]
    exact hgo (by rw [hci,hz];omega)
   ·have q1:(0:Int)≤(c:Int):=Int.natCast_nonneg _
    have q2:(c:Int) < ((g.set i v).length:Int):=by omega
    have q3:rd (g.set i v) (c:Int)=rd g (c:Int):=rd_set_ne (by omega) v
    simp only [hci,q1,q2,hil,hi0,if_true,if_false,q3,hri]
    by_cases hv:rd g (c:Int)=v
    ·simp only [hv,if_true]
     rw [hbad hv];exact Ev.now _
    ·simp only [hv,if_false]
     exact hgo hv
  have hl2:(([((rowCell s.toNat i j:Nat):Int),((colCell s.toNat i j:Nat):Int)]:List Int).length:Int)=2:=rfl
  refine Ev.step (fun k=>impl_cellFits.l1.eq_2 _ _ _ _ _ _ _ _ _ _ _ k) ?_
  have e0:rd ([((rowCell s.toNat i j:Nat):Int),((colCell s.toNat i j:Nat):Int)]:List Int) 0=((rowCell s.toNat i j:Nat):Int):=rfl
  have e1:rd ([((rowCell s.toNat i j:Nat):Int),((colCell s.toNat i j:Nat):Int)]:List Int) 1=((colCell s.toNat i j:Nat):Int):=rfl
  have w0:wrap64 ((0:Int) + 1)=1:=by unfold wrap64;omega
  have w1:wrap64 ((1:Int) + 1)=2:=by unfold wrap64;omega
  simp only [hl2,e0,w0,(by decide:(0:Int) < 2),(by decide:(0:Int)≤0),if_true]
  refine hcell _ _ (fun _=>none) hr1 (fun hv=>hno (freeB_no hj (.inl hv))) (fun hv=>?_)
  refine Ev.step (fun k=>impl_cellFits.l1.eq_2 _ _ _ _ _ _ _ _ _ _ _ k) ?_
  simp only [hl2,e1,w1,(by decide:(1:Int) < 2),(by decide:(0:Int)≤1),if_true]
  refine hcell _ _ (fun _=>none) hc1 (fun hv=>hno (freeB_no hj (.inr hv))) (fun hv2=>?_)
  refine Ev.step (fun k=>impl_cellFits.l1.eq_2 _ _ _ _ _ _ _ _ _ _ _ k) ?_
  simp only [hl2,(by decide:¬ (2:Int) < 2),if_false,w64n (by omega:j < 9000000000000000000)]
  exact ih () (freeB_step hfree hv hv2)

end Go.Proofs.Ytdemlminhkhonaa.Pure
namespace Go.Proofs.Ytdemlminhkhonaa.Pure
set_option linter.unusedSimpArgs false
set_option linter.unusedVariables false
open Go.RowKit Go.Proofs.YtdemlminhkhonaaW.PrintWords Go.Proofs.YtdemlminhkhonaaW.PrintMore Go.Proofs.Ytdemlminhkhonaa.P


theorem tryV_tell {σ:Type}{T:σ→List Int→Option (Bool × σ)}{cf:Nat→List Int→Option Bool}{f:Nat→List Int→σ→Option (Bool × List Int × σ)}{P:List Int→Bool}{F:List Int→List (List Int)}{b:List Int}{i:Nat}:∀ (m:Nat) (v:Int) (g:List Int) (st:σ) (r:Bool × σ),(∀ u,g.set i u=b.set i u) →
  (∀ u,v≤u→u < v + m→Ev (fun k=>cf k (b.set i u)) (P (b.set i u))) →
  (∀ u,v≤u→u < v + m→P (b.set i u)=true→∀ (st:σ) (r:Bool × σ),tell T (F (b.set i u)) st=some r→∃ g',Ev (fun k=>f k (b.set i u) st) (r.1,g',r.2)∧(r.1=true→g'=b.set i u)) →
  tell T (seekV P F b i v m) st=some r→∃ g',Ev (fun k=>impl_solutions.tryV (cf k) (f k) i m v g st) (r.1,g',r.2)∧(r.1=true→g'=b.set i 0)
 | 0,v,g,st,r,hg,_,_,h=>by
  unfold seekV tell at h
  obtain rfl:=Option.some.inj h
  refine ⟨g.set i 0,?_,fun _=>hg 0⟩
  unfold impl_solutions.tryV
  exact Ev.now _
 | m + 1,v,g,st,r,hg,h1,h2,h=>by
  unfold seekV at h
  rw [tell_append] at h
  have hss:∀ u,(b.set i v).set i u=b.set i u:=fun u=>List.set_set v
  unfold impl_solutions.tryV
  simp only [hg v]
  have hcf:=h1 v (Int.le_refl _) (by omega)
  cases hb:P (b.set i v) with
  | false =>
   rw [hb] at h hcf
   simp only [Bool.false_eq_true,if_false,tell,Option.bind_some,if_true] at h
   obtain ⟨g',he,hr⟩:=tryV_tell m (v + 1) (b.set i v) st r hss (fun u a c=>h1 u (by omega) (by omega)) (fun u a c=>h2 u (by omega) (by omega)) h
   refine ⟨g',Ev.bind hcf ?_,hr⟩
   simp only [Bool.false_eq_true,if_false]
   exact he
  | true =>
   rw [hb] at h hcf
   simp only [if_true] at h
   obtain ⟨t,ht,h⟩:=Option.bind_eq_some_iff.1 h
   obtain ⟨g1,he1,hr1⟩:=h2 v (Int.le_refl _) (by omega) hb st t ht
   obtain ⟨t1,t2⟩:=t
   cases t1 with
   | false =>
    simp only [Bool.false_eq_true,if_false] at h
    obtain rfl:=Option.some.inj h
    refine ⟨g1,Ev.bind hcf ?_,fun e=>by cases e⟩
    simp only [if_true]
    refine Ev.bind he1 ?_
    simp only [Bool.false_eq_true,if_false]
    exact Ev.now _
   | true =>
    simp only [if_true] at h
    obtain rfl:=hr1 rfl
    obtain ⟨g',he,hr⟩:=tryV_tell m (v + 1) (b.set i v) t2 r hss (fun u a c=>h1 u (by omega) (by omega)) (fun u a c=>h2 u (by omega) (by omega)) h
    refine ⟨g',Ev.bind hcf ?_,hr⟩
    simp only [if_true]
    refine Ev.bind he1 ?_
    simp only [if_true]
    exact he
theorem try_tell {σ:Type}(T:σ→List Int→Option (Bool × σ)){s:Int}{q:List Int}{rs:List S67}(hr:∀ x∈rs,x.f1.length≤1048576):∀ (d:Nat) (g:List Int) (st:σ) (r:Bool × σ),d≤s.toNat * s.toNat→puzzleFits s q rs g=true→(∀ j:Nat,0 < rd q (j:Int)→rd g (j:Int)=rd q (j:Int)) →
  tell T (seek (puzzleFits s q rs) s.toNat (s.toNat * s.toNat) d g) st=some r→∃ g',Ev (fun k=>impl_solutions.try_ T k s q rs (s.toNat * s.toNat) d g st) (r.1,g',r.2)∧(r.1=true→g'=g)
 | 0,g,st,r,_,_,_,h=>by
  unfold seek at h
  simp only [tell] at h
  obtain ⟨t,ht,h⟩:=Option.bind_eq_some_iff.1 h
  have hrt:r=t:=by
   obtain ⟨t1,t2⟩:=t
   cases t1 with
   | false=>simp only [Bool.false_eq_true,if_false] at h;exact (Option.some.inj h).symm
   | true=>simp only [if_true] at h;exact (Option.some.inj h).symm
  subst hrt
  refine ⟨g,?_,fun _=>rfl⟩
  unfold impl_solutions.try_
  simp only [ht,Option.bind_some]
  exact Ev.now _
 | d + 1,g,st,r,hd,hf,hx,h=>by
  unfold seek at h
  obtain ⟨hp,hg,_,_,_⟩:=fits_parts hf
  have hs:=(size_or (gridB_size hg)).2
  have hlen:=grid_len hg
  have hi:((s.toNat * s.toNat:Nat):Int) - ((d + 1:Nat):Int)=((s.toNat * s.toNat - (d + 1):Nat):Int):=by omega
  unfold impl_solutions.try_
  simp only [hi,Int.toNat_natCast]
  by_cases h0:0 < rd g ((s.toNat * s.toNat - (d + 1):Nat):Int)
  ·rw [if_pos h0] at h
   simp only [h0,if_true]
   exact try_tell T hr d g st r (by omega) hf hx h
  ·rw [if_neg h0] at h
   simp only [h0,if_false]
   have hz:rd g ((s.toNat * s.toNat - (d + 1):Nat):Int)=0:=by
    have:=gridB_mem hg _ (rd_mem (g:=g) (by omega:(0:Int)≤((s.toNat * s.toNat - (d + 1):Nat):Int)) (by omega));omega
   obtain ⟨g',he,hr2⟩:=tryV_tell (cf:=fun k g'=>impl_cellFits.f k s q rs g' ((s.toNat * s.toNat - (d + 1):Nat):Int)) (f:=fun k=>impl_solutions.try_ T k s q rs (s.toNat * s.toNat) d) (P:=puzzleFits s q rs) (F:=seek (puzzleFits s q rs) s.toNat (s.toNat * s.toNat) d) (b:=g) (i:=s.toNat * s.toNat - (d + 1)) s.toNat 1 g st r (fun _=>rfl) (fun u a b=>cellFits_ev hf hx hz (by omega) (by omega) (by omega) hr) (fun u a b hP st r hh=>try_tell T hr d _ st r (by omega) hP (set_ext hx hz) hh) h
   refine ⟨g',he,fun e=>?_⟩
   rw [hr2 e]
   refine List.ext_getElem (by rw [List.length_set]) (fun j j1 j2=>?_)
   by_cases e2:s.toNat * s.toNat - (d + 1)=j
   ·subst e2
    rw [List.getElem_set_self]
    rw [rd_lt j2] at hz
    exact hz.symm
   ·rw [List.getElem_set_ne e2]
theorem run_tell {σ:Type}(T:σ→List Int→Option (Bool × σ)){s:Int}{q:List Int}{rs:List S67}(hp:puzzleB s q rs=true)(hq:q.length≤1048576)(hl:rs.length≤1048576)(hr:∀ x∈rs,x.f1.length≤1048576)(st:σ)(r:Bool × σ)(h:tell T (if puzzleFits s q rs q=true then seek (puzzleFits s q rs) s.toNat (s.toNat * s.toNat) (s.toNat * s.toNat) q else []) st=some r):Ev (fun k=>impl_solutions.run T k s q rs q st) r.2:=by
 unfold impl_solutions.run
 obtain ⟨hg,_,_⟩:=puzzleB_parts hp
 have h16:=gridB_le hg
 obtain ⟨hn,hs⟩:=size_or (gridB_size hg)
 have hlen:=grid_len hg
 have hc:0 < q.length∧q.length≤100000∧s≤1000:=⟨by rw [hlen];rcases hn with e|e|e <;> rw [e] <;> decide,by omega,by omega⟩
 simp only [hc,and_self,if_true]
 refine Ev.bind (implPuzzleFits_ev s q rs q hq hl hr hq) ?_
 by_cases hf:puzzleFits s q rs q=true
 ·rw [if_pos hf] at h
  simp only [hf,if_true]
  obtain ⟨g',he,_⟩:=try_tell T hr (s.toNat * s.toNat) q st r (Nat.le_refl _) hf (fun _ _=>rfl) h
  rw [hlen]
  refine Ev.bind he ?_
  exact Ev.now _
 ·rw [if_neg hf] at h
  simp only [tell] at h
  obtain rfl:=Option.some.inj h
  simp only [hf,if_false]
  exact Ev.now _
theorem tell_first {M:Nat}(hM:M≤100000):∀ (L:List (List Int)) (out:List (List Int)),(∀ x∈L,x.length≤100000)→out.length < M→∃ b,tell (impl_firstSolutions.T (M:Int)) L out=some (b,out ++ L.take (M - out.length))
 | [],out,_,_=>⟨true,by simp [tell]⟩
 | g :: gs,out,hL,hl=>by
  have hgl:=hL g (List.mem_cons_self)
  have hT:impl_firstSolutions.T (M:Int) out g=some (decide (((out ++ [g]).length:Int) < (M:Int)),out ++ [g]):=by
   unfold impl_firstSolutions.T;rw [if_pos ⟨hgl,by omega⟩]
  obtain ⟨m,hm⟩:∃ m,M - out.length=m + 1:=⟨M - out.length - 1,by omega⟩
  rw [tell,hT,Option.bind_some,hm,List.take_succ_cons]
  by_cases h2:out.length + 1 < M
  ·have e:decide (((out ++ [g]).length:Int) < (M:Int))=true:=decide_eq_true (by simp;omega)
   obtain ⟨b,hb⟩:=tell_first hM gs (out ++ [g]) (fun x hx=>hL x (List.mem_cons_of_mem _ hx)) (by simp;omega)
   refine ⟨b,?_⟩
   rw [e]
   simp only [if_true]
   rw [hb,show M - (out ++ [g]).length=m by simp;omega,List.append_assoc]
   rfl
  ·have e:decide (((out ++ [g]).length:Int) < (M:Int))=false:=decide_eq_false (by simp;omega)
   refine ⟨false,?_⟩
   rw [e,show m=0 by omega,List.take_zero]
   simp
theorem firstSolutions_ev (s:Int)(q:List Int)(rs:List S67)(M:Nat)(h0:0 < M)(hM:M≤1000)(hp:puzzleB s q rs=true)(hq:q.length≤1048576)(hl:rs.length≤1048576)(hr:∀ x∈rs,x.f1.length≤1048576):Ev (fun k=>impl_firstSolutions.f k s q rs q (M:Int)) (firstSols s q rs M):=by
 unfold impl_firstSolutions.f
 have h16:=gridB_le (puzzleB_parts hp).1
 obtain ⟨b,hb⟩:=tell_first (M:=M) (by omega) (if puzzleFits s q rs q=true then seek (puzzleFits s q rs) s.toNat (s.toNat * s.toNat) (s.toNat * s.toNat) q else []) [] (fun x hx=>by
  split at hx
  ·have:=seek_len _ _ hx;omega
  ·cases hx) h0
 have:=run_tell (impl_firstSolutions.T (M:Int)) hp hq hl hr [] _ hb
 refine (show firstSols s q rs M=_ from ?_) ▸ this
 unfold firstSols
 split
 ·simp
 ·simp

end Go.Proofs.Ytdemlminhkhonaa.Pure
namespace Go.Proofs.Ytdemlminhkhonaa.Pure
set_option linter.unusedSimpArgs false
set_option linter.unusedVariables false
open Go.RowKit Go.Proofs.YtdemlminhkhonaaW.PrintWords Go.Proofs.YtdemlminhkhonaaW.PrintMore Go.Proofs.Ytdemlminhkhonaa.P


def countSols (s:Int)(q:List Int)(rs:List S67)(m:Int):Int:=if puzzleB s q rs=true∧1≤m∧m≤600 then ((firstSols s q rs m.toNat).length:Int) else -1
def oneB (s:Int)(q:List Int)(rs:List S67):Bool:=decide ((firstSols s q rs 2).length=1)
theorem implCountSolutions_ev (s:Int)(q:List Int)(rs:List S67)(m:Int)(hq:q.length≤1048576)(hl:rs.length≤1048576)(hr:∀ x∈rs,x.f1.length≤1048576):Ev (fun k=>impl_CountSolutions.f k s q rs m) (countSols s q rs m):=by
 unfold impl_CountSolutions.f countSols
 refine Ev.bind (implPuzzleValid_ev s q rs hq hl hr) ?_
 by_cases hp:puzzleB s q rs=true
 ·simp only [hp,if_true,true_and]
  by_cases h1:m < 1
  ·have h1':¬ 1≤m:=by omega
   simp only [h1,h1',if_true,false_and,if_false]
   exact Ev.now _
  ·have h1':1≤m:=by omega
   by_cases h2:m > 600
   ·have h2':¬ m≤600:=by omega
    simp only [h1,h2,h2',if_true,and_false,if_false]
    exact Ev.now _
   ·have h2':m≤600:=by omega
    simp only [h1,h1',h2,h2',if_true,and_self,if_false]
    obtain ⟨n,rfl⟩:=Int.eq_ofNat_of_zero_le (by omega:0≤m)
    refine Ev.bind (firstSolutions_ev s q rs n (by omega) (by omega) hp hq hl hr) ?_
    exact Ev.now _
 ·simp only [hp,if_false,false_and]
  exact Ev.now _
theorem onlyOne_ev (s:Int)(q:List Int)(rs:List S67)(hq:q.length≤1048576)(hl:rs.length≤1048576)(hr:∀ x∈rs,x.f1.length≤1048576):Ev (fun k=>impl_onlyOne.f k s q rs) (puzzleB s q rs && oneB s q rs):=by
 unfold impl_onlyOne.f oneB
 refine Ev.bind (implCountSolutions_ev s q rs 2 hq hl hr) ?_
 have e:(countSols s q rs 2 == 1)=(puzzleB s q rs && decide ((firstSols s q rs 2).length=1)):=by
  unfold countSols
  by_cases hp:puzzleB s q rs=true
  ·rw [if_pos ⟨hp,by omega,by omega⟩,hp,Bool.true_and]
   show (((firstSols s q rs 2).length:Int) == 1)=_
   by_cases h:(firstSols s q rs 2).length=1
   ·rw [h];rfl
   ·rw [decide_eq_false h];exact beq_eq_false_iff_ne.2 (by omega)
  ·rw [if_neg (fun h=>hp h.1),eq_false_of_ne_true hp];rfl
 rw [e]
 exact Ev.now _

end Go.Proofs.Ytdemlminhkhonaa.Pure
namespace Go.Proofs.Ytdemlminhkhonaa.Pure
set_option linter.unusedSimpArgs false
set_option linter.unusedVariables false
open Go.RowKit Go.Proofs.YtdemlminhkhonaaW.PrintWords Go.Proofs.YtdemlminhkhonaaW.PrintMore Go.Proofs.Ytdemlminhkhonaa.P


theorem implStartMasks_ev (s:Int)(g:List Int)(rs:List S67)(hg:g.length≤1048576)(hl:rs.length≤1048576)(hr:∀ x∈rs,x.f1.length≤1048576):Ev (fun k=>impl_StartMasks.f k s g rs) (startMasks s g rs):=by
 unfold impl_StartMasks.f startMasks
 refine Ev.bind (implPuzzleValid_ev s g rs hg hl hr) ?_
 by_cases hp:puzzleB s g rs=true
 ·obtain ⟨hgb,_,_⟩:=puzzleB_p3 hp
  have hle:=gridB_le hgb
  have h0:(0:Int)≤(g.length:Int):=by omega
  have h1:g.length≤35184372088832:=by omega
  simp only [hp,if_true,h0,Int.toNat_natCast,h1]
  have hlm:(gridMasks g s).length=g.length:=by unfold gridMasks;rw [List.length_map]
  have:=Ev.range (L:=fun k (x:List Int) i=>impl_StartMasks.l0 k x g (g.length:Int) i s g rs) (R:=fun _ _=>gridMasks g s) (N:=g.length) (fun x i=>FilledG (gridMasks g s) x i) ?_ ?_ (List.replicate g.length 0) 0 (Nat.zero_le _) ⟨by rw [hlm];simp,by simp⟩
  ·simpa using this
  ·intro x hx
   refine Ev.step (fun k=>impl_StartMasks.l0.eq_2 _ _ _ _ _ _ _ k) ?_
   simp only [Int.lt_irrefl,if_false]
   have hx':FilledG (gridMasks g s) x (gridMasks g s).length:=by rw [hlm];exact hx
   rw [hx'.fin];exact Ev.now _
  ·intro x i hi hx ih
   refine Ev.step (fun k=>impl_StartMasks.l0.eq_2 _ _ _ _ _ _ _ k) ?_
   have h2:(i:Int) < (g.length:Int):=by omega
   have h3:(0:Int)≤(i:Int):=by omega
   have h4:(i:Int) < (x.length:Int):=by have:=hx.1;omega
   have hm:=gridB_mem hgb g[i] (List.getElem_mem hi)
   simp only [h2,h3,h4,if_true,rd_lt hi,allValues_eq (gridB_size hgb),Option.bind_some,hm.1,Int.toNat_natCast,w64n (by omega:i < 9000000000000000000)]
   have hgi:(gridMasks g s)[i]'(by rw [hlm];exact hi)=if g[i]=0 then allM s else shl .i64 1 g[i]:=by unfold gridMasks;rw [List.getElem_map]
   by_cases hz:g[i]=0
   ·have hn:¬ g[i] > 0:=by omega
    simp only [hn,if_false]
    exact ih _ (hx.set (by omega) (by rw [hgi,if_pos hz]))
   ·have hn:g[i] > 0:=by omega
    simp only [hn,if_true,List.set_set]
    exact ih _ (hx.set (by omega) (by rw [hgi,if_neg hz]))
 ·simp only [hp,if_false,Bool.false_eq_true]
  exact Ev.now _

end Go.Proofs.Ytdemlminhkhonaa.Pure
namespace Go.Proofs.Ytdemlminhkhonaa.Pure
set_option linter.unusedSimpArgs false
set_option linter.unusedVariables false
open Go.RowKit Go.Proofs.YtdemlminhkhonaaW.PrintWords Go.Proofs.YtdemlminhkhonaaW.PrintMore Go.Proofs.Ytdemlminhkhonaa.P


theorem gridMasks_at {g:List Int}{s:Int}{i:Nat}(hi:i < g.length):(gridMasks g s).take (i + 1)=(gridMasks g s).take i ++ [if g[i]=0 then allM s else shl .i64 1 g[i]]:=by
 rw [List.take_succ_eq_append_getElem (by unfold gridMasks;rw [List.length_map];exact hi)]
 congr 2
 unfold gridMasks;rw [List.getElem_map]
theorem specStartMasks_ev (s:Int)(g:List Int)(rs:List S67)(hg:g.length≤1048576)(hl:rs.length≤1048576)(hr:∀ x∈rs,x.f1.length≤1048576):Ev (fun k=>spec_StartMasks.f k s g rs) (startMasks s g rs):=by
 unfold spec_StartMasks.f startMasks
 by_cases hp:puzzleB s g rs=true
 ·rw [if_pos hp]
  obtain ⟨hgb,_,_⟩:=puzzleB_p3 hp
  have hle:=gridB_le hgb
  have hlm:(gridMasks g s).length=g.length:=by unfold gridMasks;rw [List.length_map]
  have:=Ev.range (L:=fun k (x:List Int) i=>spec_StartMasks.l0 k x i s g rs) (R:=fun _ _=>gridMasks g s) (N:=g.length) (fun x i=>x=(gridMasks g s).take i) ?_ ?_ [] 0 (Nat.zero_le _) rfl
  ·simpa using this
  ·rintro x rfl
   refine Ev.step (fun k=>spec_StartMasks.l0.eq_2 _ _ _ _ _ k) ?_
   simp only [Int.lt_irrefl,if_false]
   refine Ev.step (fun k=>spec_StartMasks.j1.eq_2 _ _ _ _ _ _ k) ?_
   rw [← hlm,List.take_length]
   simp only [Bool.false_eq_true,if_false]
   exact Ev.now _
  ·rintro x i hi rfl ih
   refine Ev.step (fun k=>spec_StartMasks.l0.eq_2 _ _ _ _ _ k) ?_
   have h1:(i:Int) < (g.length:Int):=by omega
   have h0:(0:Int)≤(i:Int):=by omega
   simp only [h1,if_true]
   refine Ev.bind (specPuzzleValid_ev s g rs hg hl hr) ?_
   rw [hp]
   refine Ev.step (fun k=>spec_StartMasks.j1.eq_2 _ _ _ _ _ _ k) ?_
   have hm:=gridB_mem hgb g[i] (List.getElem_mem hi)
   have hs:=shlAll (gridB_size hgb)
   have hlt:((gridMasks g s).take i).length < 17592186044416:=by rw [List.length_take];omega
   simp only [h0,h1,if_true,rd_lt hi,hlt,hs.1,hs.2,hm.1,w64n (by omega:i < 9000000000000000000)]
   have hih:=ih _ (gridMasks_at (s:=s) hi).symm
   by_cases hz:g[i]=0
   ·have hn:¬ g[i] > 0:=by omega
    simp only [hn,if_false]
    rw [if_pos hz] at hih
    exact hih
   ·have hn:g[i] > 0:=by omega
    simp only [hn,if_true]
    rw [if_neg hz] at hih
    exact hih
 ·rw [if_neg hp]
  refine Ev.step (fun k=>spec_StartMasks.l0.eq_2 _ _ _ _ _ k) ?_
  have hno:Ev (fun k=>spec_StartMasks.j1 k [] 0 false s g rs) []:=by
   refine Ev.step (fun k=>spec_StartMasks.j1.eq_2 _ _ _ _ _ _ k) ?_
   simp only [Bool.false_eq_true,if_false];exact Ev.now _
  by_cases h0:(0:Int) < (g.length:Int)
  ·simp only [h0,if_true]
   refine Ev.bind (specPuzzleValid_ev s g rs hg hl hr) ?_
   rw [eq_false_of_ne_true hp]
   exact hno
  ·simp only [h0,if_false]
   exact hno

end Go.Proofs.Ytdemlminhkhonaa.Pure
namespace Go.Proofs.Ytdemlminhkhonaa.Pure
set_option linter.unusedSimpArgs false
set_option linter.unusedVariables false
open Go.RowKit Go.Proofs.YtdemlminhkhonaaW.PrintWords Go.Proofs.YtdemlminhkhonaaW.PrintMore Go.Proofs.Ytdemlminhkhonaa.P

theorem start_masks {s:Int}{q:List Int}{rs:List S67}(hp:puzzleB s q rs=true):masksB (gridMasks q s) s=true:=gridMasks_ok (puzzleB_parts hp).1

end Go.Proofs.Ytdemlminhkhonaa.Pure
namespace Go.Proofs.Ytdemlminhkhonaa.Pure
set_option linter.unusedSimpArgs false
set_option linter.unusedVariables false
open Go.RowKit Go.Proofs.YtdemlminhkhonaaW.PrintWords Go.Proofs.YtdemlminhkhonaaW.PrintMore Go.Proofs.Ytdemlminhkhonaa.P


noncomputable def gradeFrom (s:Int) (q:List Int) (rs:List S67):Nat→Int→Int
 | 0,_=>5
 | d + 1,t=>if gridFilled (masksGrid (narrowAll s q rs (startMasks s q rs) t).1 s) s=((narrowAll s q rs (startMasks s q rs) t).1.length:Int) then t else gradeFrom s q rs d (t + 1)
noncomputable def gradeOf (s:Int) (q:List Int) (rs:List S67):Int:=if puzzleB s q rs=true then (if oneB s q rs=true then gradeFrom s q rs 4 1 else 0) else -1
theorem start_len (s:Int)(q:List Int)(rs:List S67):(startMasks s q rs).length≤16∧∀ x∈startMasks s q rs,x≤9223372036854775807:=by
 unfold startMasks
 split
 ·rename_i h
  have:=masks_w (start_masks h)
  exact ⟨this.2,this.1⟩
 ·exact ⟨Nat.zero_le _,fun x hx=>by cases hx⟩
theorem all_w (s:Int)(q:List Int)(rs:List S67)(m:List Int)(t:Int):∀ x∈(narrowAll s q rs m t).1,x≤9223372036854775807:=by
 unfold narrowAll
 split
 ·rename_i h
  exact (masks_w (all_masks h.1 h.2.2.2 (msum m) m 0 (Nat.le_refl _) h.2.1)).1
 ·intro x hx;cases hx
theorem specGradePuzzle_ev (s:Int)(q:List Int)(rs:List S67)(hq:q.length≤1048576)(hl:rs.length≤1048576)(hr:∀ x∈rs,x.f1.length≤1048576):Ev (fun k=>spec_GradePuzzle.f k s q rs) (gradeOf s q rs):=by
 unfold spec_GradePuzzle.f gradeOf
 refine Ev.bind (specPuzzleValid_ev s q rs hq hl hr) ?_
 by_cases hp:puzzleB s q rs=true
 ·simp only [hp,if_true]
  refine Ev.bind (l5All_ev s q rs 2 (by omega) (by omega) hq hl hr) ?_
  unfold oneB
  by_cases h1:(firstSols s q rs 2).length=1
  ·have h1':(((firstSols s q rs 2).length:Nat):Int)=1:=by omega
   simp only [h1',if_true,decide_eq_true h1]
   have main:∀ (d:Nat) (t:Int),t + d=5→1≤t→Ev (fun k=>spec_GradePuzzle.l0 k t s q rs) (gradeFrom s q rs d t):=by
    intro d
    induction d with
    | zero =>
     intro t ht h1
     refine Ev.step (fun k=>spec_GradePuzzle.l0.eq_2 _ _ _ _ k) ?_
     have:¬ t≤4:=by omega
     simp only [this,if_false]
     exact Ev.now _
    | succ d ih =>
     intro t ht h1
     refine Ev.step (fun k=>spec_GradePuzzle.l0.eq_2 _ _ _ _ k) ?_
     have h4:t≤4:=by omega
     simp only [h4,if_true]
     have hs:=start_len s q rs
     have ha:=narrowAll_len s q rs (startMasks s q rs) t
     have hg:=masksGrid_len (narrowAll s q rs (startMasks s q rs) t).1 s
     refine Ev.bind (specStartMasks_ev s q rs hq hl hr) ?_
     refine Ev.bind (specNarrowAll_ev s q rs _ t hq hl hr (by omega)) ?_
     refine Ev.bind (specMasksGrid_ev _ s (by omega)) ?_
     refine Ev.bind (specGridFilled_ev _ s (by omega)) ?_
     unfold gradeFrom
     by_cases hf:gridFilled (masksGrid (narrowAll s q rs (startMasks s q rs) t).1 s) s=((narrowAll s q rs (startMasks s q rs) t).1.length:Int)
     ·simp only [hf,if_true];exact Ev.now _
     ·simp only [hf,if_false,w64 (x:=t + 1) (by omega) (by omega)]
      exact ih (t + 1) (by omega) (by omega)
   exact main 4 1 (by decide) (by decide)
  ·have h1':¬ (((firstSols s q rs 2).length:Nat):Int)=1:=by omega
   simp only [h1',if_false,decide_eq_false h1,Bool.false_eq_true]
   exact Ev.now _
 ·simp only [hp,if_false]
  exact Ev.now _
theorem implGradePuzzle_ev (s:Int)(q:List Int)(rs:List S67)(hq:q.length≤1048576)(hl:rs.length≤1048576)(hr:∀ x∈rs,x.f1.length≤1048576):Ev (fun k=>impl_GradePuzzle.f k s q rs) (gradeOf s q rs):=by
 unfold impl_GradePuzzle.f gradeOf
 refine Ev.bind (implPuzzleValid_ev s q rs hq hl hr) ?_
 by_cases hp:puzzleB s q rs=true
 ·simp only [hp,if_true]
  refine Ev.bind (onlyOne_ev s q rs hq hl hr) ?_
  rw [hp,Bool.true_and]
  by_cases h1:oneB s q rs=true
  ·simp only [h1,if_true]
   have main:∀ (d:Nat) (t:Int),t + d=5→1≤t→Ev (fun k=>impl_GradePuzzle.l0 k t s q rs) (gradeFrom s q rs d t):=by
    intro d
    induction d with
    | zero =>
     intro t ht h1
     refine Ev.step (fun k=>impl_GradePuzzle.l0.eq_2 _ _ _ _ k) ?_
     have:¬ t≤4:=by omega
     simp only [this,if_false]
     exact Ev.now _
    | succ d ih =>
     intro t ht h1
     refine Ev.step (fun k=>impl_GradePuzzle.l0.eq_2 _ _ _ _ k) ?_
     have h4:t≤4:=by omega
     simp only [h4,if_true]
     have hs:=start_len s q rs
     have ha:=narrowAll_len s q rs (startMasks s q rs) t
     have hg:=masksGrid_len (narrowAll s q rs (startMasks s q rs) t).1 s
     refine Ev.bind (implStartMasks_ev s q rs hq hl hr) ?_
     refine Ev.bind (implNarrowAll_ev s q rs _ t hq hl hr (by omega) hs.2) ?_
     refine Ev.bind (implMasksGrid_ev _ s (by omega) (all_w s q rs _ t)) ?_
     refine Ev.bind (implGridFilled_ev _ s (by omega)) ?_
     unfold gradeFrom
     by_cases hf:gridFilled (masksGrid (narrowAll s q rs (startMasks s q rs) t).1 s) s=((narrowAll s q rs (startMasks s q rs) t).1.length:Int)
     ·simp only [hf,if_true];exact Ev.now _
     ·simp only [hf,if_false,w64 (x:=t + 1) (by omega) (by omega)]
      exact ih (t + 1) (by omega) (by omega)
   exact main 4 1 (by decide) (by decide)
  ·simp only [h1,if_false]
   exact Ev.now _
 ·simp only [hp,if_false]
  exact Ev.now _

end Go.Proofs.Ytdemlminhkhonaa.Pure
namespace Go.Proofs.Ytdemlminhkhonaa.Pure
set_option linter.unusedSimpArgs false
set_option linter.unusedVariables false
open Go.RowKit Go.Proofs.YtdemlminhkhonaaW.PrintWords Go.Proofs.YtdemlminhkhonaaW.PrintMore Go.Proofs.Ytdemlminhkhonaa.P


theorem FnExactGradePuzzle (s:Int)(_:(Lit.int .i64 s).wf=true)(q:List Int)(hq:q.length≤9223372036854775807)(_:∀ x∈q,(Lit.int .i64 x).wf=true)(rs:List S65)(hl:rs.length≤9223372036854775807)(hr:∀ x∈rs,RuleWf x):∃ k,laws_FnExactGradePuzzle.f k s q rs=some true:=by
 apply Ev.rounds
 unfold laws_FnExactGradePuzzle.f
 obtain ⟨r,he,hb⟩:=szPuzzle_ev s q rs hq hl (fun x hx=>(hr x hx).2.1)
 refine Ev.bind he ?_
 by_cases h0:r < 0
 ·simp only [h0,if_true];exact Ev.now _
 ·obtain ⟨hq',hl',hr'⟩:=hb (by omega)
  have hl2:(rs.map convR).length≤1048576:=by rw [List.length_map];exact hl'
  have hr2:∀ x∈rs.map convR,x.f1.length≤1048576:=by
   intro x hx
   obtain ⟨y,hy,rfl⟩:=List.mem_map.1 hx
   exact hr' y hy
  simp only [h0,if_false]
  refine Ev.bind (toPuzzle_ev s q rs hq' hl' hr') ?_
  refine Ev.bind (specGradePuzzle_ev s q (rs.map convR) hq' hl2 hr2) ?_
  refine Ev.bind (toPuzzle_ev s q rs hq' hl' hr') ?_
  refine Ev.bind (implGradePuzzle_ev s q (rs.map convR) hq' hl2 hr2) ?_
  simp only [bne_self_eq_false,Bool.false_eq_true,if_false,if_true]
  refine Ev.bind (toPuzzle_ev s q rs hq' hl' hr') ?_
  refine Ev.bind (eqPuzzle_ev s q (rs.map convR) hq' hl2 hr2) ?_
  simp only [if_true]
  exact Ev.now _

end Go.Proofs.Ytdemlminhkhonaa.Pure
