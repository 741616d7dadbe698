/- The plain side of the law FnExactMakeEven: what the functions come to, and that the law answers true. Conditions: as stated in each. -/
import Derived.Laws.BitsLemmas
import Derived.Lib.SmallJoins
import Derived.OpenShut
import Derived.Test.YtmjbnghhfadapaaZP1
import Derived.Test.YtmjbnghhfadapaaZP2
import Derived.Test.YtmjbnghhfadapaaZP3
import Derived.Test.YtmjbnghhfadapaaZP4
import Derived.Test.YtmjbnghhfadapaaZP5
import Derived.Test.YtmjbnghhfadapaaZP6
import Derived.Test.YtmjbnghhfadapaaZP7
import Derived.Test.YtmjbnghhfadapaaZP8
import Derived.Test.YtmjbnghhfadapaaZW
namespace Go.Proofs.Ytmjbnghhfadapaa.Pure
set_option linter.unusedSimpArgs false
set_option linter.unusedVariables false
open Go.RowKit Go.Proofs.YtmjbnghhfadapaaW.PrintWords Go.Proofs.YtmjbnghhfadapaaW.PrintMore Go.Proofs.Ytmjbnghhfadapaa.P

theorem cellsOfRule:Try.prog.cellsOf 70=3:=by kernel_rfl
theorem cellsOfInt:Try.prog.cellsOf 3=1:=by kernel_rfl
theorem cellsOfInts:Try.prog.cellsOf 22=1:=by kernel_rfl
def RuleWf (x:S70):Prop:=(Lit.int .i64 x.f0).wf=true∧x.f1.length≤9223372036854775807∧(∀ y∈x.f1,(Lit.int .i64 y).wf=true)∧(Lit.int .i64 x.f2).wf=true
theorem ints_of {H:Type}{enc:TypeId × Value→H}{W:World}{n:Nat}{c:Value}{y:DataW H × List MemPlace}(h:DataW.trod enc Try.prog W 0 (fun _=>true) true n 22 [c]=some y) :
  ∃ (A:Option Addr) (k:Nat) (l:List Int),c= .slice A l.length k∧l.length≤k∧Kd.C (Kd.int .i64) W A l.length l∧l.length≤9223372036854775807∧∀ y∈l,(Lit.int .i64 y).wf=true:=by
 obtain ⟨A,len,k,zs,hc,w⟩:∃ A len k zs,c=Value.slice A len k∧((A=none∧len=0∧k=0∧zs=[])∨∃ x,A=some x∧len≤k∧k≤maxLen∧zs.length=k∧(∀ i,i < zs.length→W.cell? (x.add i)=some (.int .i64 (zs.getD i 0)))∧∀ n∈zs,(Lit.int .i64 n).wf=true):=by
  rcases Go.ChangeShapes.open_ints Try.underlying22 Try.underlying3 (by kernel_rfl) h with ⟨hcs,_⟩ | ⟨x,l,c',zs,hcs,_,hl,hm,hz,_,hcell,hwz⟩
  ·exact ⟨none,0,0,[],by simpa using hcs,.inl ⟨rfl,rfl,rfl,rfl⟩⟩
  ·exact ⟨some x,l,c',zs,by simpa using hcs,.inr ⟨_,rfl,hl,hm,by simpa using hz,hcell,hwz⟩⟩
 obtain ⟨l,rfl,hr,hm,hw,hcc⟩:=ReadsInt.ofRowC w
 exact ⟨A,k,l,hc,hcc,Kd.C_of_reads (d:=(0:Int)) (h1:=fun _=>rfl) hr,hm,hw⟩
theorem rule_of {H:Type}{enc:TypeId × Value→H}{W:World}{n:Nat}{cs:List Value}{y:DataW H × List MemPlace}(h:DataW.trod enc Try.prog W 0 (fun _=>true) true n 70 cs=some y) :
  ∃ (x:S70) (A:Option Addr) (c:Nat),cs=[.int .i64 x.f0,.slice A x.f1.length c,.int .i64 x.f2]∧x.f1.length≤c∧Kd.C (Kd.int .i64) W A x.f1.length x.f1∧RuleWf x:=by
 obtain ⟨y0,y1,y2,m,_,hl,h0,h1,h2⟩:=Go.Deep.trod_struct3 Try.underlying70 h
 rw [cellsOfRule] at hl
 match cs,hl with
 | [c0,c1,c2],_ =>
  simp only [cellsOfInt,cellsOfInts,List.drop_succ_cons,List.drop_zero,List.take_succ_cons,List.take_zero] at h0 h1 h2
  obtain ⟨a,e0,_,w0⟩:=DataW.trod_int Try.underlying3 h0
  obtain ⟨b,e2,_,w2⟩:=DataW.trod_int Try.underlying3 h2
  obtain ⟨A,k,l,e1,hk,hC,hm,hw⟩:=ints_of h1
  obtain rfl:c0= .int .i64 a:=by simpa using e0
  obtain rfl:c2= .int .i64 b:=by simpa using e2
  subst e1
  exact ⟨⟨a,l,b⟩,A,k,rfl,hk,hC,w0,hm,hw,w2⟩
theorem rules_of {H:Type}{enc:TypeId × Value→H}{W:World}{n:Nat}{c:Value}{y:DataW H × List MemPlace}(h:DataW.trod enc Try.prog W 0 (fun _=>true) true n 33 [c]=some y) :
  ∃ (A:Option Addr) (k:Nat) (l:List S70),c= .slice A l.length k∧l.length≤k∧Kd.C k70 W A l.length l∧l.length≤9223372036854775807∧∀ x∈l,RuleWf x:=by
 rcases Go.Deep.open_slice Try.underlying33 h with ⟨hcs,_⟩ | ⟨a,len,cap,m,q,D,Pl,hcs,_,hlc,hcm,hm,_,hi⟩
 ·exact ⟨none,0,[],by simpa using hcs,Nat.le_refl _,⟨rfl,by decide,fun h=>absurd h (by decide)⟩,by decide,fun x hx=>by cases hx⟩
 ·have hm':m=cap:=by simpa using hm
  have hall:∀ i,∃ x:S70,i < len→RuleWf x∧∃ cs:List Value,k70.K W x cs∧cs.length=3∧∀ j u,cs[j]?=some u→W.cell? (a.add (i * 3 + j))=some u:=by
   intro i
   by_cases hil:i < len
   ·obtain ⟨cs',hc,ht⟩:=hi i (by omega)
    rw [cellsOfRule] at hc
    obtain ⟨x,A,k,rfl,hk,hC,hwf⟩:=rule_of ht
    obtain ⟨_,hcl,hat⟩:=World.cells?_some hc
    refine ⟨x,fun _=>⟨hwf,_,k70_mk W x hk hC,rfl,fun j u hu=>?_⟩⟩
    have hj:j < 3:=by
     have:=(List.getElem?_eq_some_iff.1 hu).1
     simpa using this
    rw [← Go.Deep.add_add,hat j hj];exact hu
   ·exact ⟨⟨0,[],0⟩,fun h=>absurd h hil⟩
  obtain ⟨f,hf⟩:=Classical.axiomOfChoice hall
  have hlen:((List.range len).map f).length=len:=by rw [List.length_map,List.length_range]
  have hmax:len≤9223372036854775807:=Nat.le_trans hlc hcm
  refine ⟨some a,cap,(List.range len).map f,?_,by rw [hlen];exact hlc,⟨rfl,by rw [hlen];exact hmax,fun _=>⟨a,rfl,fun j p hj=>?_⟩⟩,by rw [hlen];exact hmax,fun x hx=>?_⟩
  ·rw [hlen];simpa using hcs
  ·obtain ⟨hj1,hj2⟩:=List.getElem?_eq_some_iff.1 hj
   rw [hlen] at hj1
   obtain ⟨_,cs,hK,hl,hat⟩:=hf j hj1
   have hp:p=f j:=by rw [← hj2];simp
   rw [hp]
   exact ⟨cs,hl,hK,hat⟩
  ·obtain ⟨i,hi2,rfl⟩:=List.mem_map.1 hx
   exact (hf i (List.mem_range.1 hi2)).1

end Go.Proofs.Ytmjbnghhfadapaa.Pure
namespace Go.Proofs.Ytmjbnghhfadapaa.Pure
set_option linter.unusedSimpArgs false
set_option linter.unusedVariables false
open Go.RowKit Go.Proofs.YtmjbnghhfadapaaW.PrintWords Go.Proofs.YtmjbnghhfadapaaW.PrintMore


theorem w64 {x:Int}(h0: -9223372036854775808≤x)(h1:x≤9223372036854775807):wrap64 x=x:=by
 unfold wrap64;omega
theorem w64n {n:Nat}(h:n < 9000000000000000000):wrap64 ((n:Int) + 1)=((n + 1:Nat):Int):=by
 unfold wrap64;omega
theorem rd_nat (xs:List Int)(n:Nat):rd xs (n:Int)=xs.getD n 0:=by simp [rd]
theorem rd_lt {xs:List Int}{n:Nat}(h:n < xs.length):rd xs (n:Int)=xs[n]:=by simp [rd,h]
theorem Ev.some {α:Type}{g:Nat→Option α}{r:α}(h:∀ k,g k=Option.some r):Ev g r:=⟨0,fun k _=>h k⟩
theorem Ev.range {σ α : Type} {L : Nat → σ → Int → Option α} {R : σ → Nat → α} {N : Nat} (P : σ → Nat → Prop)
    (hend : ∀ s, P s N → Ev (fun k => L k s (N : Int)) (R s N))
    (hstep : ∀ s n, n < N → P s n → (∀ s', P s' (n + 1) → Ev (fun k => L k s' ((n + 1 : Nat) : Int)) (R s' (n + 1))) → Ev (fun k => L k s (n : Int)) (R s n)) :
    ∀ s n, n ≤ N → P s n → Ev (fun k => L k s (n : Int)) (R s n) := by
  intro s n hn
  obtain ⟨d, hd⟩ : ∃ d, N = n + d := ⟨N - n, by omega⟩
  induction d generalizing s n with
  | zero => obtain rfl : N = n := by omega
            exact hend s
  | succ d ih => exact fun hp => hstep s n (by omega) hp (fun s' hp' => ih s' (n + 1) (by omega) (by omega) hp')
theorem Ev.range0 {α:Type}{L:Nat→Int→Option α}{R:Nat→α}{N:Nat}
  (hend:Ev (fun k=>L k (N:Int)) (R N))
  (hstep:∀ n,n < N→Ev (fun k=>L k ((n + 1:Nat):Int)) (R (n + 1))→Ev (fun k=>L k (n:Int)) (R n)) :
  ∀ n,n≤N→Ev (fun k=>L k (n:Int)) (R n):=by
 intro n hn
 exact Ev.range (σ:=Unit) (L:=fun k _ i=>L k i) (R:=fun _ n=>R n) (fun _ _=>True) (fun _ _=>hend) (fun _ n h _ ih=>hstep n h (ih () trivial)) () n hn trivial
theorem take_set_succ {x:List Int}{n:Nat}(h:n < x.length)(v:Int):(x.set n v).take (n + 1)=x.take n ++ [v]:=by
 rw [List.take_succ_eq_append_getElem (by simpa using h)]
 simp [List.take_set_of_le (Nat.le_refl n)]
theorem drop_cons {xs:List Int}{n:Nat}(h:n < xs.length):xs.drop n=xs[n] :: xs.drop (n + 1):=List.drop_eq_getElem_cons h

end Go.Proofs.Ytmjbnghhfadapaa.Pure
namespace Go.Proofs.Ytmjbnghhfadapaa.Pure
set_option linter.unusedSimpArgs false
set_option linter.unusedVariables false
open Go.RowKit Go.Proofs.YtmjbnghhfadapaaW.PrintWords Go.Proofs.YtmjbnghhfadapaaW.PrintMore


def sizeOkB (s:Int):Bool:=decide (2≤s∧s≤4)
def gridB (g:List Int)(s:Int):Bool:=sizeOkB s && (decide ((g.length:Int)=s * s) && g.all (fun v=>decide (0≤v∧v≤s)))
def allM (s:Int):Int:=if s=2 then 6 else if s=3 then 14 else 30
def masksB (g:List Int)(s:Int):Bool:=sizeOkB s && (decide ((g.length:Int)=s * s) && g.all (fun v=>decide (0≤v∧v≤allM s∧v % 2=0)))
def marks (k:Int):Nat→List Int
 | 0=>[]
 | n + 1=>k :: marks (k + 1) n
theorem marks_length (k:Int)(n:Nat):(marks k n).length=n:=by induction n generalizing k with
 | zero=>rfl
 | succ n ih=>simp [marks,ih]
theorem sizeOkB_iff {s:Int}:sizeOkB s=true↔s=2∨s=3∨s=4:=by
 unfold sizeOkB;rw [decide_eq_true_iff];omega
theorem gridB_size {g:List Int}{s:Int}(h:gridB g s=true):sizeOkB s=true:=by unfold gridB at h;simp only [Bool.and_eq_true] at h;exact h.1
theorem gridB_len {g:List Int}{s:Int}(h:gridB g s=true):(g.length:Int)=s * s:=by unfold gridB at h;simp only [Bool.and_eq_true,decide_eq_true_eq] at h;exact h.2.1
theorem gridB_mem {g:List Int}{s:Int}(h:gridB g s=true):∀ v∈g,0≤v∧v≤s:=by
 unfold gridB at h;simp only [Bool.and_eq_true,decide_eq_true_eq,List.all_eq_true] at h;exact h.2.2
theorem gridB_mk {g:List Int}{s:Int}(h:sizeOkB s=true)(hl:(g.length:Int)=s * s)(hm:∀ v∈g,0≤v∧v≤s):gridB g s=true:=by
 unfold gridB;simp only [Bool.and_eq_true,decide_eq_true_eq,List.all_eq_true];exact ⟨h,hl,hm⟩
theorem gridB_le {g:List Int}{s:Int}(h:gridB g s=true):g.length≤16:=by
 have:=gridB_len h
 rcases sizeOkB_iff.1 (gridB_size h) with rfl|rfl|rfl <;> omega
theorem masksB_len {g:List Int}{s:Int}(h:masksB g s=true):(g.length:Int)=s * s:=by unfold masksB at h;simp only [Bool.and_eq_true,decide_eq_true_eq] at h;exact h.2.1
theorem masksB_mem {g:List Int}{s:Int}(h:masksB g s=true):∀ v∈g,0≤v∧v≤allM s∧v % 2=0:=by
 unfold masksB at h;simp only [Bool.and_eq_true,decide_eq_true_eq,List.all_eq_true] at h;exact h.2.2
theorem masksB_mk {g:List Int}{s:Int}(h:sizeOkB s=true)(hl:(g.length:Int)=s * s)(hm:∀ v∈g,0≤v∧v≤allM s∧v % 2=0):masksB g s=true:=by
 unfold masksB;simp only [Bool.and_eq_true,decide_eq_true_eq,List.all_eq_true];exact ⟨h,hl,hm⟩
def lineOkB (s l:Int):Bool:=sizeOkB s && decide (0≤l∧l < 2 * s)
def lineC (s l:Int):List Int:=if lineOkB s l=true then (List.range s.toNat).map (fun i:Nat=>if l < s then l * s + (i:Int) else (i:Int) * s + l - s) else []
theorem lineOkB_cases {s l:Int}(h:lineOkB s l=true):(s=2∧(l=0∨l=1∨l=2∨l=3))∨(s=3∧(l=0∨l=1∨l=2∨l=3∨l=4∨l=5))∨(s=4∧(l=0∨l=1∨l=2∨l=3∨l=4∨l=5∨l=6∨l=7)):=by
 unfold lineOkB at h;simp only [Bool.and_eq_true,decide_eq_true_eq] at h
 obtain ⟨hs,h0,h1⟩:=h
 rcases sizeOkB_iff.1 hs with rfl|rfl|rfl <;> omega
theorem lineC_len (s l:Int):(lineC s l).length≤16:=by
 unfold lineC;split
 ·rename_i h
  rw [List.length_map,List.length_range]
  rcases lineOkB_cases h with ⟨rfl,_⟩ | ⟨rfl,_⟩ | ⟨rfl,_⟩ <;> decide
 ·exact Nat.zero_le _

end Go.Proofs.Ytmjbnghhfadapaa.Pure
namespace Go.Proofs.Ytmjbnghhfadapaa.Pure
set_option linter.unusedSimpArgs false
set_option linter.unusedVariables false
open Go.RowKit Go.Proofs.YtmjbnghhfadapaaW.PrintWords Go.Proofs.YtmjbnghhfadapaaW.PrintMore Go.Proofs.Ytmjbnghhfadapaa.P


theorem eqIntS_ev (a b:List Int)(h:a.length < 9000000000000000000):Ev (fun k=>laws_eqIntS.f k a b) (decide (a=b)):=by
 unfold laws_eqIntS.f
 by_cases hl:a.length=b.length
 ·simp only [hl,if_true]
  have:=Ev.range0 (L:=fun k i=>laws_eqIntS.l0 k a b i) (R:=fun n=>decide (a.drop n=b.drop n)) (N:=a.length) ?_ ?_ 0 (Nat.zero_le _)
  ·simpa using this
  ·refine Ev.step (fun k=>laws_eqIntS.l0.eq_2 _ _ _ k) ?_
   have e1:a.drop a.length=[]:=List.drop_length
   have e2:b.drop a.length=[]:=by rw [hl];exact List.drop_length
   simp [e1,e2,Ev.now]
  ·intro n hn ih
   refine Ev.step (fun k=>laws_eqIntS.l0.eq_2 _ _ _ k) ?_
   have h1:(n:Int) < (a.length:Int):=by omega
   have h2:(n:Int) < (b.length:Int):=by omega
   have h3:(0:Int)≤n:=by omega
   rw [drop_cons hn,drop_cons (by omega:n < b.length)]
   simp only [h1,h2,h3,if_true,rd_lt hn,rd_lt (by omega:n < b.length)]
   by_cases he:a[n]=b[n]
   ·simp only [he,if_true,w64n (by omega:n < 9000000000000000000),List.cons.injEq,true_and]
    exact ih
   ·simp only [he,if_false,List.cons.injEq,false_and,decide_false]
    exact Ev.now _
 ·have:¬ ((a.length:Int)=(b.length:Int)):=by omega
  have hne:¬ a=b:=fun e=>hl (by rw [e])
  simp only [this,if_false,hne,decide_false]
  exact Ev.now _
theorem toIntS_ev (a:List Int)(h:a.length≤35184372088832):Ev (fun k=>laws_toIntS.f k a) a:=by
 unfold laws_toIntS.f
 have h0:(0:Int)≤(a.length:Int):=by omega
 have h1:((a.length:Int):Int).toNat≤35184372088832:=by simpa using h
 simp only [h0,h1,if_true]
 have:=Ev.range (L:=fun k (x:List Int) i=>laws_toIntS.l0 k a x i) (R:=fun _ _=>a) (N:=a.length) (fun x n=>x.length=a.length∧x.take n=a.take n) ?_ ?_ (List.replicate ((a.length:Int)).toNat 0) 0 (Nat.zero_le _) (by simp)
 ·simpa using this
 ·rintro x ⟨hl,he⟩
  refine Ev.step (fun k=>laws_toIntS.l0.eq_2 _ _ _ k) ?_
  have e:x=a:=by rw [← hl,List.take_length,hl,List.take_length] at he;exact he
  simp only [Int.lt_irrefl,if_false,e]
  exact Ev.now _
 ·rintro x n hn ⟨hl,he⟩ ih
  refine Ev.step (fun k=>laws_toIntS.l0.eq_2 _ _ _ k) ?_
  have h1:(n:Int) < (a.length:Int):=by omega
  have h2:(n:Int) < (x.length:Int):=by omega
  have h3:(0:Int)≤n:=by omega
  simp only [h1,h2,h3,if_true,rd_lt hn,Int.toNat_natCast,w64n (by omega:n < 9000000000000000000)]
  refine ih _ ⟨by simp [hl],?_⟩
  rw [take_set_succ (by omega:n < x.length),he,List.take_succ_eq_append_getElem hn]
theorem markIntS_ev (a:List Int)(m:Int)(h:a.length≤17592186044416)(h0:0≤m)(h1:m≤1000000000000000000):Ev (fun k=>laws_markIntS.f k a m) (m + a.length,marks m a.length):=by
 unfold laws_markIntS.f
 have:=Ev.range (L:=fun k (x:List Int) i=>laws_markIntS.l0 k x (m + i) i) (R:=fun x n=>(m + a.length,x.take n ++ marks (m + n) (a.length - n))) (N:=a.length) (fun x n=>x.length=a.length) ?_ ?_ a 0 (Nat.zero_le _) rfl
 ·simpa using this
 ·intro x hx
  refine Ev.step (fun k=>laws_markIntS.l0.eq_2 _ _ _ k) ?_
  have hn:¬ ((a.length:Int) < (x.length:Int)):=by omega
  have e:x.take a.length ++ marks (m + (a.length:Nat)) (a.length - a.length)=x:=by
   rw [← hx,List.take_length,Nat.sub_self];simp [marks]
  simp only [hn,if_false,e]
  exact Ev.now _
 ·intro x n hn hx ih
  refine Ev.step (fun k=>laws_markIntS.l0.eq_2 _ _ _ k) ?_
  have h2:(n:Int) < (x.length:Int):=by omega
  have h3:(0:Int)≤n:=by omega
  have e1:wrap64 (m + n + 1)=m + ((n + 1:Nat):Int):=by rw [w64 (by omega) (by omega)];omega
  simp only [h2,h3,if_true,Int.toNat_natCast,w64n (by omega:n < 9000000000000000000),e1]
  have:=ih (x.set n (m + n)) (by simp [hx])
  have e2:(x.set n (m + n)).take (n + 1) ++ marks (m + ((n + 1:Nat):Int)) (a.length - (n + 1))=x.take n ++ marks (m + n) (a.length - n):=by
   have e3:a.length - n=(a.length - (n + 1)) + 1:=by omega
   rw [e3,marks,take_set_succ (by omega:n < x.length)]
   have e5:m + (n:Int) + 1=m + ((n + 1:Nat):Int):=by omega
   rw [e5];simp
  rw [e2] at this
  exact this
theorem heldIntS_marks (m:Int)(l:Nat)(h:l≤17592186044416)(h0:0≤m)(h1:m≤1000000000000000000):Ev (fun k=>laws_heldIntS.f k (marks m l) m) (m + l):=by
 unfold laws_heldIntS.f
 have hm:∀ n,n < l→rd (marks m l) (n:Int)=m + n:=by
  intro n hn
  have:∀ (l n:Nat) (m:Int),n < l→(marks m l).getD n 0=m + n:=by
   intro l
   induction l with
   | zero=>intro n m h;omega
   | succ l ih =>
    intro n m h
    cases n with
    | zero=>simp [marks]
    | succ n=>simp only [marks,List.getD_cons_succ];rw [ih n (m + 1) (by omega)];omega
  rw [rd_nat];exact this l n m hn
 have:=Ev.range0 (L:=fun k i=>laws_heldIntS.l0 k (marks m l) (m + i) i) (R:=fun _=>m + l) (N:=l) ?_ ?_ 0 (Nat.zero_le _)
 ·simpa using this
 ·refine Ev.step (fun k=>laws_heldIntS.l0.eq_2 _ _ _ k) ?_
  simp [marks_length,Ev.now]
 ·intro n hn ih
  refine Ev.step (fun k=>laws_heldIntS.l0.eq_2 _ _ _ k) ?_
  have h2:(n:Int) < ((marks m l).length:Int):=by rw [marks_length];omega
  have h3:(0:Int)≤n:=by omega
  have e1:wrap64 (m + n + 1)=m + ((n + 1:Nat):Int):=by rw [w64 (by omega) (by omega)];omega
  simp only [h2,h3,if_true,hm n hn,w64n (by omega:n < 9000000000000000000),e1]
  exact ih

end Go.Proofs.Ytmjbnghhfadapaa.Pure
namespace Go.Proofs.Ytmjbnghhfadapaa.Pure
set_option linter.unusedSimpArgs false
set_option linter.unusedVariables false
open Go.RowKit Go.Proofs.YtmjbnghhfadapaaW.PrintWords Go.Proofs.YtmjbnghhfadapaaW.PrintMore Go.Proofs.Ytmjbnghhfadapaa.P

theorem toRule_ev (a:Int)(l:List Int)(c:Int)(h:l.length≤35184372088832):Ev (fun k=>laws_toRule.f k a l c) (a,l,c):=by
 unfold laws_toRule.f
 refine Ev.bind (toIntS_ev l h) ?_
 exact Ev.now _
theorem eqRule_ev (a:Int)(l:List Int)(c:Int)(h:l.length≤35184372088832):Ev (fun k=>laws_eqRule.f k a l c a l c) true:=by
 unfold laws_eqRule.f
 simp only [if_true]
 refine Ev.bind (eqIntS_ev l l (by omega)) ?_
 simp only [decide_true,if_true]
 exact Ev.now _

end Go.Proofs.Ytmjbnghhfadapaa.Pure
namespace Go.Proofs.Ytmjbnghhfadapaa.Pure
set_option linter.unusedSimpArgs false
set_option linter.unusedVariables false
open Go.RowKit Go.Proofs.YtmjbnghhfadapaaW.PrintWords Go.Proofs.YtmjbnghhfadapaaW.PrintMore Go.Proofs.Ytmjbnghhfadapaa.P


def FilledG {α:Type}(r x:List α)(n:Nat):Prop:=x.length=r.length∧x.take n=r.take n
theorem FilledG.fin {α:Type}{r x:List α}(h:FilledG r x r.length):x=r:=by
 obtain ⟨h1,h2⟩:=h
 rw [List.take_length,← h1,List.take_length] at h2
 exact h2
theorem FilledG.set {α:Type}{r x:List α}{n:Nat}(h:FilledG r x n)(hn:n < r.length){v:α}(hv:v=r[n]):FilledG r (x.set n v) (n + 1):=by
 refine ⟨by rw [List.length_set];exact h.1,?_⟩
 have hx:n < x.length:=by have:=h.1;omega
 rw [List.take_succ_eq_append_getElem (by simpa using hx),List.take_succ_eq_append_getElem hn,List.take_set_of_le (Nat.le_refl n),h.2,List.getElem_set_self,hv]
theorem szRule_b (a:Int)(l:List Int)(c b:Int)(hb:0≤b∧b≤1048576)(h:l.length≤9223372036854775807):laws_szRule.f a l c b=some (if (l.length:Int)≤b then b - (l.length:Int) else -1):=by
 unfold laws_szRule.f laws_szIntS.f
 have hw:wrap64 (b - (l.length:Int))=b - (l.length:Int):=by unfold wrap64;omega
 rw [hw]
 by_cases hl:(l.length:Int)≤b
 ·have h1:¬ b - (l.length:Int) < 0:=by omega
  simp only [hl,h1,if_true,if_false,Option.bind_some]
 ·have h1:b - (l.length:Int) < 0:=by omega
  have h2:(-1:Int) < 0:=by decide
  simp only [hl,h1,h2,if_true,if_false,Option.bind_some]
theorem rdL (xs:List S70){n:Nat}(h:n < xs.length):rd_T70 xs (n:Int)=xs[n]:=by simp [rd_T70,h]
theorem rdI (xs:List S73){n:Nat}(h:n < xs.length):rd_T73 xs (n:Int)=xs[n]:=by simp [rd_T73,h]
def convR (x:S70):S73:=⟨x.f0,x.f1,x.f2⟩
theorem szRuleS_ev (rs:List S70)(b:Int)(hb:0≤b∧b≤1048576)(hl:rs.length≤9223372036854775807)(hr:∀ x∈rs,x.f1.length≤9223372036854775807) :
  ∃ r,Ev (fun k=>laws_szRuleS.f k rs b) r∧(0≤r→rs.length≤1048576∧∀ x∈rs,x.f1.length≤1048576):=by
 unfold laws_szRuleS.f
 have hw:wrap64 (b - (rs.length:Int))=b - (rs.length:Int):=by unfold wrap64;omega
 rw [hw]
 by_cases hn:b - (rs.length:Int) < 0
 ·refine ⟨-1,?_,fun h=>absurd h (by decide)⟩
  simp only [hn,if_true]
  exact Ev.now _
 ·simp only [hn,if_false]
  have hloop:∀ d n (b:Int),n + d=rs.length→0≤b∧b≤1048576→(∀ x∈rs.take n,x.f1.length≤1048576)→∃ r,Ev (fun k=>laws_szRuleS.l0 k rs b (n:Int)) r∧(0≤r→∀ x∈rs,x.f1.length≤1048576):=by
   intro d
   induction d with
   | zero =>
    intro n b hnd hb' ht
    refine ⟨b,?_,fun _=>?_⟩
    ·refine Ev.step (fun k=>laws_szRuleS.l0.eq_2 _ _ _ k) ?_
     have h1:¬ (n:Int) < (rs.length:Int):=by omega
     simp only [h1,if_false]
     exact Ev.now _
    ·rw [List.take_of_length_le (by omega)] at ht
     exact ht
   | succ d ih =>
    intro n b hnd hb' ht
    have h1:(n:Int) < (rs.length:Int):=by omega
    have h0:(0:Int)≤(n:Int):=Int.natCast_nonneg n
    have hx:=hr rs[n] (List.getElem_mem (by omega))
    by_cases hle:(rs[n].f1.length:Int)≤b
    ·obtain ⟨r,he,hr'⟩:=ih (n + 1) (b - (rs[n].f1.length:Int)) (by omega) (by omega) (by
      intro x hx'
      rw [List.take_succ_eq_append_getElem (by omega:n < rs.length),List.mem_append,List.mem_singleton] at hx'
      rcases hx' with hx' | rfl
      ·exact ht x hx'
      ·omega)
     refine ⟨r,?_,hr'⟩
     refine Ev.step (fun k=>laws_szRuleS.l0.eq_2 _ _ _ k) ?_
     have h2:¬ b - (rs[n].f1.length:Int) < 0:=by omega
     simp only [h1,h0,if_true,rdL rs (by omega:n < rs.length),szRule_b _ _ _ b hb' hx,hle,Option.bind_some,h2,if_false,w64n (by omega:n < 9000000000000000000)]
     exact he
    ·refine ⟨-1,?_,fun h=>absurd h (by decide)⟩
     refine Ev.step (fun k=>laws_szRuleS.l0.eq_2 _ _ _ k) ?_
     have h2:(-1:Int) < 0:=by decide
     simp only [h1,h0,if_true,rdL rs (by omega:n < rs.length),szRule_b _ _ _ b hb' hx,hle,if_false,Option.bind_some,h2]
     exact Ev.now _
  obtain ⟨r,he,hr'⟩:=hloop rs.length 0 (b - (rs.length:Int)) (by omega) (by omega) (by simp)
  exact ⟨r,he,fun h=>⟨by omega,hr' h⟩⟩
theorem szPuzzle_ev (s:Int)(g:List Int)(rs:List S70)(hg:g.length≤9223372036854775807)(hl:rs.length≤9223372036854775807)(hr:∀ x∈rs,x.f1.length≤9223372036854775807) :
  ∃ r,Ev (fun k=>laws_szPuzzle.f k s g rs 1048576) r∧(0≤r→g.length≤1048576∧rs.length≤1048576∧∀ x∈rs,x.f1.length≤1048576):=by
 unfold laws_szPuzzle.f laws_szIntS.f
 have hw:wrap64 (1048576 - (g.length:Int))=1048576 - (g.length:Int):=by unfold wrap64;omega
 rw [hw]
 have h2:(-1:Int) < 0:=by decide
 by_cases hn:1048576 - (g.length:Int) < 0
 ·refine ⟨-1,?_,fun h=>absurd h (by decide)⟩
  simp only [hn,h2,if_true,Option.bind_some]
  exact Ev.now _
 ·obtain ⟨r,he,hr'⟩:=szRuleS_ev rs (1048576 - (g.length:Int)) (by omega) hl hr
  by_cases hr0:r < 0
  ·refine ⟨-1,?_,fun h=>absurd h (by decide)⟩
   simp only [hn,if_false,Option.bind_some]
   refine Ev.bind he ?_
   simp only [hr0,if_true]
   exact Ev.now _
  ·refine ⟨r,?_,fun h=>⟨by omega,hr' h⟩⟩
   simp only [hn,if_false,Option.bind_some]
   refine Ev.bind he ?_
   simp only [hr0,if_false]
   exact Ev.now _
theorem toRuleS_ev (rs:List S70)(hl:rs.length≤1048576)(hr:∀ x∈rs,x.f1.length≤1048576):Ev (fun k=>laws_toRuleS.f k rs) (rs.map convR):=by
 unfold laws_toRuleS.f
 have h0:(0:Int)≤(rs.length:Int):=Int.natCast_nonneg _
 have h1:rs.length≤7036874417766:=by omega
 simp only [h0,h1,if_true,Int.toNat_natCast]
 have hm:(rs.map convR).length=rs.length:=List.length_map _
 have:=Ev.range (L:=fun k (x:List S73) i=>laws_toRuleS.l0 k rs x i) (R:=fun _ _=>rs.map convR) (N:=rs.length) (fun x i=>FilledG (rs.map convR) x i) ?_ ?_ (List.replicate rs.length z73) 0 (Nat.zero_le _) ⟨by simp,by simp⟩
 ·simpa using this
 ·intro x hx
  refine Ev.step (fun k=>laws_toRuleS.l0.eq_2 _ _ _ k) ?_
  simp only [Int.lt_irrefl,if_false]
  have hx':FilledG (rs.map convR) x (rs.map convR).length:=by rw [hm];exact hx
  rw [hx'.fin];exact Ev.now _
 ·intro x i hi hx ih
  refine Ev.step (fun k=>laws_toRuleS.l0.eq_2 _ _ _ k) ?_
  have h2:(i:Int) < (rs.length:Int):=by omega
  have h3:(0:Int)≤(i:Int):=Int.natCast_nonneg i
  have h4:(i:Int) < (x.length:Int):=by have:=hx.1;omega
  simp only [h2,h3,if_true,rdL rs hi]
  have hlen:=hr rs[i] (List.getElem_mem hi)
  refine Ev.bind (toRule_ev _ _ _ (by omega)) ?_
  simp only [h4,if_true,Int.toNat_natCast,w64n (by omega:i < 9000000000000000000)]
  refine ih _ (hx.set (by omega) ?_)
  rw [List.getElem_map];rfl
theorem toPuzzle_ev (s:Int)(g:List Int)(rs:List S70)(hg:g.length≤1048576)(hl:rs.length≤1048576)(hr:∀ x∈rs,x.f1.length≤1048576):Ev (fun k=>laws_toPuzzle.f k s g rs) (s,g,rs.map convR):=by
 unfold laws_toPuzzle.f
 refine Ev.bind (toIntS_ev g (by omega)) ?_
 refine Ev.bind (toRuleS_ev rs hl hr) ?_
 exact Ev.now _
theorem eqRuleS_ev (rs:List S73)(hl:rs.length≤1048576)(hr:∀ x∈rs,x.f1.length≤1048576):Ev (fun k=>laws_eqRuleS.f k rs rs) true:=by
 unfold laws_eqRuleS.f
 simp only [if_true]
 have:=Ev.range0 (L:=fun k i=>laws_eqRuleS.l0 k rs rs i) (R:=fun _=>true) (N:=rs.length) ?_ ?_ 0 (Nat.zero_le _)
 ·simpa using this
 ·refine Ev.step (fun k=>laws_eqRuleS.l0.eq_2 _ _ _ k) ?_
  simp only [Int.lt_irrefl,if_false]
  exact Ev.now _
 ·intro i hi ih
  refine Ev.step (fun k=>laws_eqRuleS.l0.eq_2 _ _ _ k) ?_
  have h2:(i:Int) < (rs.length:Int):=by omega
  have h3:(0:Int)≤(i:Int):=Int.natCast_nonneg i
  simp only [h2,h3,if_true,rdI rs hi]
  have hlen:=hr rs[i] (List.getElem_mem hi)
  refine Ev.bind (eqRule_ev _ _ _ (by omega)) ?_
  simp only [if_true,w64n (by omega:i < 9000000000000000000)]
  exact ih
theorem eqPuzzle_ev (s:Int)(g:List Int)(rs:List S73)(hg:g.length≤1048576)(hl:rs.length≤1048576)(hr:∀ x∈rs,x.f1.length≤1048576):Ev (fun k=>laws_eqPuzzle.f k s g rs s g rs) true:=by
 unfold laws_eqPuzzle.f
 simp only [if_true]
 refine Ev.bind (eqIntS_ev g g (by omega)) ?_
 simp only [decide_true,if_true]
 refine Ev.bind (eqRuleS_ev rs hl hr) ?_
 simp only [if_true]
 exact Ev.now _

end Go.Proofs.Ytmjbnghhfadapaa.Pure
namespace Go.Proofs.Ytmjbnghhfadapaa.Pure
set_option linter.unusedSimpArgs false
set_option linter.unusedVariables false
open Go.RowKit Go.Proofs.YtmjbnghhfadapaaW.PrintWords Go.Proofs.YtmjbnghhfadapaaW.PrintMore Go.Proofs.Ytmjbnghhfadapaa.P


def markedR:Int→List S73→List S73
 | _,[]=>[]
 | m,x :: xs=>⟨m,marks (m + 1) x.f1.length,m + 1 + (x.f1.length:Int)⟩ :: markedR (m + 1 + (x.f1.length:Int) + 1) xs
def nextM:Int→List S73→Int
 | m,[]=>m
 | m,x :: xs=>nextM (m + 1 + (x.f1.length:Int) + 1) xs
theorem nextM_ge:∀ (xs:List S73) (m:Int),m≤nextM m xs
 | [],m=>Int.le_refl _
 | x :: xs,m=>by
  unfold nextM
  have:=nextM_ge xs (m + 1 + (x.f1.length:Int) + 1)
  omega
theorem markedR_length:∀ (xs:List S73) (m:Int),(markedR m xs).length=xs.length
 | [],_=>rfl
 | x :: xs,m=>by unfold markedR;rw [List.length_cons,List.length_cons,markedR_length xs]
theorem set_mid {α:Type}(pre:List α)(x y:α)(xs:List α):(pre ++ x :: xs).set pre.length y=(pre ++ [y]) ++ xs:=by
 rw [List.set_append_right _ _ (Nat.le_refl _),Nat.sub_self,List.set_cons_zero,List.append_assoc];rfl
theorem get_mid {α:Type}(pre:List α)(x:α)(xs:List α)(h:pre.length < (pre ++ x :: xs).length):(pre ++ x :: xs)[pre.length]=x:=by
 rw [List.getElem_append_right (Nat.le_refl _)];simp
theorem markRuleS_is:∀ (xs pre:List S73) (m:Int),(pre ++ xs).length≤1048576→(∀ x∈xs,x.f1.length≤1048576)→0≤m→m≤2000000 * (pre.length + 1:Nat)→Ev (fun k=>laws_markRuleS.l0 k (pre ++ xs) m (pre.length:Int)) (nextM m xs,pre ++ markedR m xs)
 | [],pre,m,hl,_,hm,hm2=>by
  refine Ev.step (fun k=>laws_markRuleS.l0.eq_2 _ _ _ k) ?_
  have h1:¬ (pre.length:Int) < ((pre ++ []).length:Int):=by rw [List.append_nil];omega
  simp only [h1,if_false]
  exact Ev.now _
 | x :: xs,pre,m,hl,hr,hm,hm2=>by
  have hlen:(pre ++ x :: xs).length=pre.length + 1 + xs.length:=by rw [List.length_append,List.length_cons];omega
  have hlt:pre.length < (pre ++ x :: xs).length:=by omega
  have h1:(pre.length:Int) < ((pre ++ x :: xs).length:Int):=by omega
  have h0:(0:Int)≤(pre.length:Int):=by omega
  have hx:=hr x (List.mem_cons_self ..)
  have e1:wrap64 (m + 1)=m + 1:=by unfold wrap64;omega
  have e2:wrap64 (m + 1 + (x.f1.length:Int) + 1)=m + 1 + (x.f1.length:Int) + 1:=by unfold wrap64;omega
  have ih:=markRuleS_is xs (pre ++ [⟨m,marks (m + 1) x.f1.length,m + 1 + (x.f1.length:Int)⟩]) (m + 1 + (x.f1.length:Int) + 1) (by rw [List.length_append,List.length_append];simp;omega) (fun y hy=>hr y (List.mem_cons_of_mem _ hy)) (by omega) (by rw [List.length_append];push_cast at hm2 ⊢;simp;omega)
  refine Ev.step (fun k=>laws_markRuleS.l0.eq_2 _ _ _ k) ?_
  simp only [h1,h0,if_true,rdI _ hlt,get_mid,e1]
  refine Ev.bind (markIntS_ev x.f1 (m + 1) (by omega) (by omega) (by omega)) ?_
  simp only [e2,w64n (by omega:pre.length < 9000000000000000000),Int.toNat_natCast,set_mid]
  unfold nextM markedR
  rw [List.length_append] at ih
  rw [List.append_assoc] at ih ⊢
  have e3:pre ++ ([⟨m,marks (m + 1) x.f1.length,m + 1 + (x.f1.length:Int)⟩] ++ markedR (m + 1 + (x.f1.length:Int) + 1) xs)=pre ++ ⟨m,marks (m + 1) x.f1.length,m + 1 + (x.f1.length:Int)⟩ :: markedR (m + 1 + (x.f1.length:Int) + 1) xs:=rfl
  rw [List.append_assoc,e3] at ih
  exact ih
theorem heldRuleS_is:∀ (xs pre:List S73) (m:Int),(pre ++ xs).length≤1048576→(∀ x∈xs,x.f1.length≤1048576)→0≤m→m≤2000000 * (pre.length + 1:Nat)→Ev (fun k=>laws_heldRuleS.l0 k (pre ++ markedR m xs) m (pre.length:Int)) (nextM m xs)
 | [],pre,m,hl,_,hm,hm2=>by
  refine Ev.step (fun k=>laws_heldRuleS.l0.eq_2 _ _ _ k) ?_
  have h1:¬ (pre.length:Int) < ((pre ++ markedR m []).length:Int):=by unfold markedR;rw [List.append_nil];omega
  simp only [h1,if_false]
  exact Ev.now _
 | x :: xs,pre,m,hl,hr,hm,hm2=>by
  have hlen0:(pre ++ x :: xs).length=pre.length + 1 + xs.length:=by rw [List.length_append,List.length_cons];omega
  have hx:=hr x (List.mem_cons_self ..)
  unfold markedR nextM
  have hlen:(pre ++ (⟨m,marks (m + 1) x.f1.length,m + 1 + (x.f1.length:Int)⟩:S73) :: markedR (m + 1 + (x.f1.length:Int) + 1) xs).length=pre.length + 1 + xs.length:=by rw [List.length_append,List.length_cons,markedR_length];omega
  have hlt:pre.length < (pre ++ (⟨m,marks (m + 1) x.f1.length,m + 1 + (x.f1.length:Int)⟩:S73) :: markedR (m + 1 + (x.f1.length:Int) + 1) xs).length:=by omega
  have h1:(pre.length:Int) < ((pre ++ (⟨m,marks (m + 1) x.f1.length,m + 1 + (x.f1.length:Int)⟩:S73) :: markedR (m + 1 + (x.f1.length:Int) + 1) xs).length:Int):=by omega
  have h0:(0:Int)≤(pre.length:Int):=by omega
  have e1:wrap64 (m + 1)=m + 1:=by unfold wrap64;omega
  have e2:wrap64 (m + 1 + (x.f1.length:Int) + 1)=m + 1 + (x.f1.length:Int) + 1:=by unfold wrap64;omega
  have hn:¬ (m + 1 + (x.f1.length:Int) < 0):=by omega
  have ih:=heldRuleS_is xs (pre ++ [⟨m,marks (m + 1) x.f1.length,m + 1 + (x.f1.length:Int)⟩]) (m + 1 + (x.f1.length:Int) + 1) (by rw [List.length_append,List.length_append];simp;omega) (fun y hy=>hr y (List.mem_cons_of_mem _ hy)) (by omega) (by rw [List.length_append];push_cast at hm2 ⊢;simp;omega)
  refine Ev.step (fun k=>laws_heldRuleS.l0.eq_2 _ _ _ k) ?_
  simp only [h1,h0,if_true,rdI _ hlt,get_mid,e1]
  refine Ev.bind (heldIntS_marks (m + 1) x.f1.length (by omega) (by omega) (by omega)) ?_
  simp only [hn,if_false,if_true,e2,w64n (by omega:pre.length < 9000000000000000000)]
  rw [List.length_append,List.append_assoc] at ih
  exact ih
theorem markPuzzle_is (s:Int)(g:List Int)(rs:List S73)(hg:g.length≤1048576)(hl:rs.length≤1048576)(hr:∀ x∈rs,x.f1.length≤1048576):Ev (fun k=>laws_markPuzzle.f k s g rs 1) (nextM (1 + (g.length:Int)) rs,marks 1 g.length,markedR (1 + (g.length:Int)) rs):=by
 have h:=markRuleS_is rs [] (1 + (g.length:Int)) (by simpa using hl) hr (by omega) (by simp;omega)
 unfold laws_markPuzzle.f
 refine Ev.bind (markIntS_ev g 1 (by omega) (by decide) (by decide)) ?_
 refine Ev.bind (a:=(nextM (1 + (g.length:Int)) rs,markedR (1 + (g.length:Int)) rs)) ?_ ?_
 ·unfold laws_markRuleS.f;exact h
 ·exact Ev.now _
theorem heldPuzzle_is (s:Int)(g:List Int)(rs:List S73)(hg:g.length≤1048576)(hl:rs.length≤1048576)(hr:∀ x∈rs,x.f1.length≤1048576):Ev (fun k=>laws_heldPuzzle.f k s (marks 1 g.length) (markedR (1 + (g.length:Int)) rs) 1) (nextM (1 + (g.length:Int)) rs):=by
 have h:=heldRuleS_is rs [] (1 + (g.length:Int)) (by simpa using hl) hr (by omega) (by simp;omega)
 unfold laws_heldPuzzle.f
 refine Ev.bind (heldIntS_marks 1 g.length (by omega) (by decide) (by decide)) ?_
 have h1:¬ (1 + (g.length:Int) < 0):=by omega
 simp only [h1,if_false]
 refine Ev.bind (a:=nextM (1 + (g.length:Int)) rs) ?_ ?_
 ·unfold laws_heldRuleS.f;exact h
 ·have h2:¬ (nextM (1 + (g.length:Int)) rs < 0):=by have:=nextM_ge rs (1 + (g.length:Int));omega
  simp only [h2,if_false]
  exact Ev.now _

end Go.Proofs.Ytmjbnghhfadapaa.Pure
namespace Go.Proofs.Ytmjbnghhfadapaa.Pure
set_option linter.unusedSimpArgs false
set_option linter.unusedVariables false
open Go.RowKit Go.Proofs.YtmjbnghhfadapaaW.PrintWords Go.Proofs.YtmjbnghhfadapaaW.PrintMore


theorem lineC_mem {s l:Int}:∀ c∈lineC s l,0≤c∧c < s * s:=by
 by_cases h:lineOkB s l=true
 ·rcases lineOkB_cases h with ⟨rfl,hc⟩ | ⟨rfl,hc⟩ | ⟨rfl,hc⟩
  ·rcases hc with rfl|rfl|rfl|rfl <;> decide +kernel
  ·rcases hc with rfl|rfl|rfl|rfl|rfl|rfl <;> decide +kernel
  ·rcases hc with rfl|rfl|rfl|rfl|rfl|rfl|rfl|rfl <;> decide +kernel
 ·unfold lineC;rw [if_neg h];intro c hc;cases hc
def clashL (g:List Int):List Int→List Int→Bool
 | [],_=>false
 | c :: cs,seen=>if 0 < rd g c∧rd g c∈seen then true else clashL g cs (rd g c :: seen)
def linesClash (g:List Int)(s:Int)(n:Nat):Nat→Bool
 | 0=>false
 | d + 1=>clashL g (lineC s n) [] || linesClash g s (n + 1) d
def squareFits (g:List Int)(s:Int):Bool:=gridB g s && !linesClash g s 0 (2 * s.toNat)
theorem size_nat {s:Int}(h:sizeOkB s=true):((s.toNat:Nat):Int)=s∧2≤s.toNat∧s.toNat≤4:=by
 rcases sizeOkB_iff.1 h with rfl|rfl|rfl <;> decide
theorem rd_mem {g:List Int}{i:Int}(h0:0≤i)(h1:i < (g.length:Int)):rd g i∈g:=by
 obtain ⟨n,rfl⟩:=Int.eq_ofNat_of_zero_le h0
 rw [rd_lt (by omega:n < g.length)]
 exact List.getElem_mem _

end Go.Proofs.Ytmjbnghhfadapaa.Pure
namespace Go.Proofs.Ytmjbnghhfadapaa.Pure
set_option linter.unusedSimpArgs false
set_option linter.unusedVariables false
open Go.RowKit Go.Proofs.YtmjbnghhfadapaaW.PrintWords Go.Proofs.YtmjbnghhfadapaaW.PrintMore


def has (m v:Int):Bool:=decide ((m / 2 ^ v.toNat) % 2=1)
theorem has_fin:∀ m:Fin 31,∀ v:Fin 5,Int.tmod (shr .i64 (m.val:Int) (v.val:Int)) 2=(if has (m.val:Int) (v.val:Int)=true then 1 else 0)∧Go.bits .and .i64 (shr .i64 (m.val:Int) (v.val:Int)) 1=(if has (m.val:Int) (v.val:Int)=true then 1 else 0):=by decide +kernel
theorem has_and {m v:Int}(h:0≤m∧m≤30)(hv:0≤v∧v≤4):Go.bits .and .i64 (shr .i64 m v) 1=(if has m v=true then 1 else 0):=by
 have:=(has_fin ⟨m.toNat,by omega⟩ ⟨v.toNat,by omega⟩).2
 rwa [show ((m.toNat:Nat):Int)=m by omega,show ((v.toNat:Nat):Int)=v by omega] at this

end Go.Proofs.Ytmjbnghhfadapaa.Pure
namespace Go.Proofs.Ytmjbnghhfadapaa.Pure
set_option linter.unusedSimpArgs false
set_option linter.unusedVariables false
open Go.RowKit Go.Proofs.YtmjbnghhfadapaaW.PrintWords Go.Proofs.YtmjbnghhfadapaaW.PrintMore


def rowCell (n i k:Nat):Nat:=i / n * n + k
def colCell (n i k:Nat):Nat:=k * n + i % n
def freeB (g:List Int)(n i:Nat)(v:Int):Nat→Bool
 | 0=>true
 | m + 1=>freeB g n i v m && (decide (rd g (rowCell n i m:Nat)≠v) && decide (rd g (colCell n i m:Nat)≠v))
theorem size_or {s:Int}(h:sizeOkB s=true):(s.toNat=2∨s.toNat=3∨s.toNat=4)∧s=(s.toNat:Int):=by
 rcases sizeOkB_iff.1 h with rfl|rfl|rfl <;> decide
theorem row_idx {n i k:Nat}(hn:n=2∨n=3∨n=4)(hi:i < n * n)(hk:k < n):wrap64 ((wrap64 ((wrap64 (Int.tdiv (i:Int) (n:Int))) * (n:Int))) + (k:Int))=((rowCell n i k:Nat):Int):=by
 rw [Int.tdiv_eq_ediv_of_nonneg (by omega)]
 unfold rowCell wrap64
 rcases hn with rfl|rfl|rfl <;> omega
theorem col_idx {n i k:Nat}(hn:n=2∨n=3∨n=4)(hi:i < n * n)(hk:k < n):wrap64 ((wrap64 ((k:Int) * (n:Int))) + (Int.tmod (i:Int) (n:Int)))=((colCell n i k:Nat):Int):=by
 rw [Int.tmod_eq_emod_of_nonneg (by omega)]
 unfold colCell wrap64
 rcases hn with rfl|rfl|rfl <;> omega
theorem grid_len {g:List Int}{s:Int}(h:gridB g s=true):g.length=s.toNat * s.toNat:=by
 have h1:=gridB_len h
 have h2:=(size_or (gridB_size h)).2
 rw [h2] at h1
 exact_mod_cast h1

end Go.Proofs.Ytmjbnghhfadapaa.Pure
namespace Go.Proofs.Ytmjbnghhfadapaa.Pure
set_option linter.unusedSimpArgs false
set_option linter.unusedVariables false
open Go.RowKit Go.Proofs.YtmjbnghhfadapaaW.PrintWords Go.Proofs.YtmjbnghhfadapaaW.PrintMore Go.Proofs.Ytmjbnghhfadapaa.P


theorem l1In_eq (a b c:Int):spec_l1In.f a b c=some (decide (b≤a∧a≤c)):=by
 unfold spec_l1In.f
 by_cases h:a ≥ b
 ·have h':b≤a:=h
  simp [h']
 ·have h':¬ b≤a:=h
  simp [h']
theorem sizeOk_eq (a:Int):impl_sizeOk.f a=some (sizeOkB a):=by
 unfold impl_sizeOk.f sizeOkB
 by_cases h:a ≥ 2
 ·have h':2≤a:=h
  simp [h']
 ·have h':¬ 2≤a:=h
  simp [h']
theorem allValues_eq {s:Int}(h:sizeOkB s=true):impl_allValues.f s=some (allM s):=by
 rcases sizeOkB_iff.1 h with rfl|rfl|rfl <;> decide +kernel

end Go.Proofs.Ytmjbnghhfadapaa.Pure
namespace Go.Proofs.Ytmjbnghhfadapaa.Pure
set_option linter.unusedSimpArgs false
set_option linter.unusedVariables false
open Go.RowKit Go.Proofs.YtmjbnghhfadapaaW.PrintWords Go.Proofs.YtmjbnghhfadapaaW.PrintMore Go.Proofs.Ytmjbnghhfadapaa.P


theorem specGridValid_ev (g:List Int)(s:Int)(h:g.length≤35184372088832):Ev (fun k=>spec_GridValid.f k g s) (gridB g s):=by
 unfold spec_GridValid.f
 have:=Ev.range0 (L:=fun k i=>spec_GridValid.l0 k g s i) (R:=fun n=>(g.drop n).all (fun v=>decide (0≤v∧v≤s)) && (sizeOkB s && decide ((g.length:Int)=s * s))) (N:=g.length) ?_ ?_ 0 (Nat.zero_le _)
 ·have e:gridB g s=((g.drop 0).all (fun v=>decide (0≤v∧v≤s)) && (sizeOkB s && decide ((g.length:Int)=s * s))):=by
   unfold gridB;rw [List.drop_zero];cases sizeOkB s <;> cases decide ((g.length:Int)=s * s) <;> simp
  rw [e];simpa using this
 ·refine Ev.step (fun k=>spec_GridValid.l0.eq_2 _ _ _ k) ?_
  simp only [Int.lt_irrefl,if_false,l1In_eq,Option.bind_some,List.drop_length,List.all_nil,Bool.true_and]
  by_cases hs:sizeOkB s=true
  ·have hs':decide (2≤s∧s≤4)=true:=hs
   have hw:wrap64 (s * s)=s * s:=by rcases sizeOkB_iff.1 hs with rfl|rfl|rfl <;> decide +kernel
   simp only [hs',if_true,hs,hw,Bool.true_and]
   have e:((g.length:Int) == s * s)=decide ((g.length:Int)=s * s):=by
    by_cases h:(g.length:Int)=s * s <;> simp [h]
   rw [e];exact Ev.now _
  ·have hs':¬ decide (2≤s∧s≤4)=true:=hs
   simp only [hs',hs,if_false,Bool.false_and,eq_false_of_ne_true hs,Bool.false_eq_true]
   exact Ev.now _
 ·intro n hn ih
  refine Ev.step (fun k=>spec_GridValid.l0.eq_2 _ _ _ k) ?_
  have h1:(n:Int) < (g.length:Int):=by omega
  have h3:(0:Int)≤n:=by omega
  rw [drop_cons hn]
  simp only [h1,h3,if_true,rd_lt hn,l1In_eq,Option.bind_some,List.all_cons]
  by_cases hv:decide (0≤g[n]∧g[n]≤s)=true
  ·simp only [hv,if_true,w64n (by omega:n < 9000000000000000000),Bool.true_and]
   exact ih
  ·simp only [hv,if_false,eq_false_of_ne_true hv,Bool.false_and,Bool.false_eq_true]
   exact Ev.now _
theorem implGridValid_ev (g:List Int)(s:Int)(h:g.length≤35184372088832):Ev (fun k=>impl_GridValid.f k g s) (gridB g s):=by
 unfold impl_GridValid.f
 simp only [sizeOk_eq,Option.bind_some]
 by_cases hs:sizeOkB s=true
 ·have hw:wrap64 (s * s)=s * s:=by rcases sizeOkB_iff.1 hs with rfl|rfl|rfl <;> decide +kernel
  simp only [hs,if_true,hw]
  refine Ev.step (fun k=>impl_GridValid.j0.eq_2 _ _ _ k) ?_
  by_cases hl:(g.length:Int)=s * s
  ·have e:((g.length:Int) != s * s)=false:=by simp [hl]
   simp only [e,Bool.false_eq_true,if_false]
   have:=Ev.range0 (L:=fun k i=>impl_GridValid.l0 k s g (g.length:Int) i) (R:=fun n=>(g.drop n).all (fun v=>decide (0≤v∧v≤s))) (N:=g.length) ?_ ?_ 0 (Nat.zero_le _)
   ·have e:gridB g s=(g.drop 0).all (fun v=>decide (0≤v∧v≤s)):=by
     unfold gridB;rw [List.drop_zero,hs,hl];simp
    rw [e];simpa using this
   ·refine Ev.step (fun k=>impl_GridValid.l0.eq_2 _ _ _ _ k) ?_
    simp only [Int.lt_irrefl,if_false,List.drop_length,List.all_nil]
    exact Ev.now _
   ·intro n hn ih
    refine Ev.step (fun k=>impl_GridValid.l0.eq_2 _ _ _ _ k) ?_
    have h1:(n:Int) < (g.length:Int):=by omega
    have h3:(0:Int)≤n:=by omega
    rw [drop_cons hn]
    simp only [h1,h3,if_true,rd_lt hn,List.all_cons]
    by_cases ha:g[n] < 0
    ·have:decide (0≤g[n]∧g[n]≤s)=false:=decide_eq_false (by omega)
     simp only [ha,if_true,this,Bool.false_and]
     exact Ev.now _
    ·by_cases hb:g[n] > s
     ·have:decide (0≤g[n]∧g[n]≤s)=false:=decide_eq_false (by omega)
      simp only [ha,hb,if_true,if_false,this,Bool.false_and]
      exact Ev.now _
     ·have:decide (0≤g[n]∧g[n]≤s)=true:=decide_eq_true (by omega)
      simp only [ha,hb,if_false,this,Bool.true_and,w64n (by omega:n < 9000000000000000000)]
      exact ih
  ·have e:((g.length:Int) != s * s)=true:=by simp [hl]
   have e2:gridB g s=false:=by unfold gridB;simp [hl]
   simp only [e,if_true,e2]
   exact Ev.now _
 ·have e2:gridB g s=false:=by unfold gridB;simp [hs]
  simp only [hs,if_false,e2,Bool.false_eq_true]
  refine Ev.step (fun k=>impl_GridValid.j0.eq_2 _ _ _ k) ?_
  simp only [if_true]
  exact Ev.now _

end Go.Proofs.Ytmjbnghhfadapaa.Pure
namespace Go.Proofs.Ytmjbnghhfadapaa.Pure
set_option linter.unusedSimpArgs false
set_option linter.unusedVariables false
open Go.RowKit Go.Proofs.YtmjbnghhfadapaaW.PrintWords Go.Proofs.YtmjbnghhfadapaaW.PrintMore Go.Proofs.Ytmjbnghhfadapaa.P


theorem specLineCells_ev (s l:Int):Ev (fun k=>spec_LineCells.f k s l) (lineC s l):=by
 by_cases h:lineOkB s l=true
 ·rcases lineOkB_cases h with ⟨rfl,hc⟩ | ⟨rfl,hc⟩ | ⟨rfl,hc⟩
  ·rcases hc with rfl|rfl|rfl|rfl <;> exact Ev.of (spec_LineCells.mono _ _) (k:=20) (by decide +kernel)
  ·rcases hc with rfl|rfl|rfl|rfl|rfl|rfl <;> exact Ev.of (spec_LineCells.mono _ _) (k:=20) (by decide +kernel)
  ·rcases hc with rfl|rfl|rfl|rfl|rfl|rfl|rfl|rfl <;> exact Ev.of (spec_LineCells.mono _ _) (k:=20) (by decide +kernel)
 ·have e:lineC s l=[]:=by unfold lineC;rw [if_neg h]
  rw [e]
  unfold spec_LineCells.f
  have hj:Ev (fun k=>spec_LineCells.j1 k s l [] 0 false) ([]:List Int):=by
   refine Ev.step (fun k=>spec_LineCells.j1.eq_2 _ _ _ _ _ k) ?_
   simp only [Bool.false_eq_true,if_false]
   exact Ev.now _
  refine Ev.step (fun k=>spec_LineCells.l0.eq_2 _ _ _ _ k) ?_
  by_cases h0:0 < s
  ·simp only [h0,if_true,l1In_eq,Option.bind_some]
   by_cases hs:2≤s∧s≤4
   ·have hw:wrap64 (wrap64 (2 * s) - 1)=2 * s - 1:=by rw [w64 (x:=2 * s) (by omega) (by omega),w64 (by omega) (by omega)]
    have hn:¬ (0≤l∧l≤2 * s - 1):=by
     intro hl;apply h;unfold lineOkB sizeOkB;simp only [Bool.and_eq_true,decide_eq_true_eq];exact ⟨hs,hl.1,by omega⟩
    simp only [decide_eq_true hs,if_true,hw,decide_eq_false hn]
    exact hj
   ·simp only [decide_eq_false hs,Bool.false_eq_true,if_false]
    exact hj
  ·simp only [h0,if_false]
   exact hj
theorem implLineCells_ev (s l:Int):Ev (fun k=>impl_LineCells.f k s l) (lineC s l):=by
 by_cases h:lineOkB s l=true
 ·rcases lineOkB_cases h with ⟨rfl,hc⟩ | ⟨rfl,hc⟩ | ⟨rfl,hc⟩
  ·rcases hc with rfl|rfl|rfl|rfl <;> exact Ev.of (impl_LineCells.mono _ _) (k:=20) (by decide +kernel)
  ·rcases hc with rfl|rfl|rfl|rfl|rfl|rfl <;> exact Ev.of (impl_LineCells.mono _ _) (k:=20) (by decide +kernel)
  ·rcases hc with rfl|rfl|rfl|rfl|rfl|rfl|rfl|rfl <;> exact Ev.of (impl_LineCells.mono _ _) (k:=20) (by decide +kernel)
 ·have e:lineC s l=[]:=by unfold lineC;rw [if_neg h]
  rw [e]
  unfold impl_LineCells.f
  simp only [sizeOk_eq,Option.bind_some]
  have hj:Ev (fun k=>impl_LineCells.j0 k s l true) ([]:List Int):=by
   refine Ev.step (fun k=>impl_LineCells.j0.eq_2 _ _ _ k) ?_
   simp only [if_true]
   exact Ev.now _
  by_cases hs:sizeOkB s=true
  ·simp only [hs,if_true]
   by_cases h0:l < 0
   ·simp only [h0,if_true];exact hj
   ·have hs2:2≤s∧s≤4:=by simpa [sizeOkB] using hs
    have hw:wrap64 (2 * s)=2 * s:=w64 (by omega) (by omega)
    have hl:l ≥ 2 * s:=by
     apply Decidable.byContradiction
     intro hl;apply h;unfold lineOkB;rw [hs];simp only [Bool.true_and,decide_eq_true_eq];omega
    simp only [h0,if_false,hw,decide_eq_true hl];exact hj
  ·simp only [hs,if_false,Bool.false_eq_true];exact hj

end Go.Proofs.Ytmjbnghhfadapaa.Pure
namespace Go.Proofs.Ytmjbnghhfadapaa.Pure
set_option linter.unusedSimpArgs false
set_option linter.unusedVariables false
open Go.RowKit Go.Proofs.YtmjbnghhfadapaaW.PrintWords Go.Proofs.YtmjbnghhfadapaaW.PrintMore

theorem size_le4 {s:Int}(h:sizeOkB s=true):2≤s∧s≤4:=by rcases sizeOkB_iff.1 h with rfl|rfl|rfl <;> decide
theorem val_le {g:List Int}{s:Int}(h:gridB g s=true){x:Int}(hx:x∈g):0≤x∧x≤4:=by
 have h1:=gridB_mem h x hx
 have h2:=size_le4 (gridB_size h)
 omega

end Go.Proofs.Ytmjbnghhfadapaa.Pure
namespace Go.Proofs.Ytmjbnghhfadapaa.Pure
set_option linter.unusedSimpArgs false
set_option linter.unusedVariables false
open Go.RowKit Go.Proofs.YtmjbnghhfadapaaW.PrintWords Go.Proofs.YtmjbnghhfadapaaW.PrintMore Go.Proofs.Ytmjbnghhfadapaa.P


def SeenA (x:List Bool)(seen:List Int):Prop:=x.length=5∧∀ u:Int,0≤u→u≤4→(rdOf false x u=true↔u∈seen)
theorem SeenA.start:SeenA [false,false,false,false,false] []:=by
 refine ⟨rfl,fun u h0 h1=>?_⟩
 have:u=0∨u=1∨u=2∨u=3∨u=4:=by omega
 rcases this with rfl|rfl|rfl|rfl|rfl <;> decide
theorem SeenA.step {x:List Bool}{v:Int}{seen:List Int}(h:SeenA x seen)(hv:0≤v∧v≤4):SeenA (x.set v.toNat true) (v :: seen):=by
 obtain ⟨hl,h2⟩:=h
 refine ⟨by rw [List.length_set];exact hl,fun u h0 h1=>?_⟩
 have e:rdOf false (x.set v.toNat true) u=(decide (u=v) || rdOf false x u):=by
  unfold rdOf
  rw [List.getD_eq_getElem?_getD,List.getD_eq_getElem?_getD,List.getElem?_set]
  by_cases hu:v.toNat=u.toNat
  ·have:u=v:=by omega
   rw [if_pos hu,if_pos (by omega),decide_eq_true this];rfl
  ·have:¬ u=v:=by omega
   rw [if_neg hu,decide_eq_false this];rfl
 rw [e,List.mem_cons,Bool.or_eq_true,h2 u h0 h1,decide_eq_true_iff]
theorem implSquareFits_ev (g:List Int)(s:Int)(h:g.length≤35184372088832):Ev (fun k=>impl_SquareFits.f k g s) (squareFits g s):=by
 unfold impl_SquareFits.f squareFits
 refine Ev.bind (implGridValid_ev g s h) ?_
 by_cases hg:gridB g s=true
 ·simp only [hg,if_true,Bool.true_and]
  obtain ⟨hsn,hs2,hs4⟩:=size_nat (gridB_size hg)
  have hw:wrap64 (2 * s)=((2 * s.toNat:Nat):Int):=by unfold wrap64;omega
  have hlen:=gridB_len hg
  refine Ev.range0 (L:=fun k i=>impl_SquareFits.l0 k g s i) (R:=fun n=> !linesClash g s n (2 * s.toNat - n)) (N:=2 * s.toNat) ?_ ?_ 0 (Nat.zero_le _)
  ·refine Ev.step (fun k=>impl_SquareFits.l0.eq_2 _ _ _ k) ?_
   simp only [hw,Int.lt_irrefl,if_false,Nat.sub_self,linesClash]
   exact Ev.now _
  ·intro n hn ih
   refine Ev.step (fun k=>impl_SquareFits.l0.eq_2 _ _ _ k) ?_
   have h1:(n:Int) < ((2 * s.toNat:Nat):Int):=by omega
   simp only [hw,h1,if_true]
   refine Ev.bind (implLineCells_ev s n) ?_
   have e:2 * s.toNat - n=(2 * s.toNat - (n + 1)) + 1:=by omega
   rw [e,linesClash]
   have hb:=lineC_len s n
   have:=Ev.range (L:=fun k (x:List Bool) i=>impl_SquareFits.l1 k g s n (lineC s n) x i) (R:=fun _ _=> !(clashL g (lineC s n) [] || linesClash g s (n + 1) (2 * s.toNat - (n + 1)))) (N:=(lineC s n).length)
    (fun x j=>∃ seen,SeenA x seen∧clashL g (lineC s n) []=clashL g ((lineC s n).drop j) seen) ?_ ?_ [false,false,false,false,false] 0 (Nat.zero_le _) ⟨[],SeenA.start,by simp⟩
   ·simpa using this
   ·rintro x ⟨seen,hx,he⟩
    refine Ev.step (fun k=>impl_SquareFits.l1.eq_2 _ _ _ _ _ _ k) ?_
    have e2:clashL g (lineC s n) []=false:=by rw [he,List.drop_length];rfl
    simp only [Int.lt_irrefl,if_false,e2,Bool.false_or,w64n (by omega:n < 9000000000000000000)]
    exact ih
   ·rintro x j hj ⟨seen,hx,he⟩ ihj
    refine Ev.step (fun k=>impl_SquareFits.l1.eq_2 _ _ _ _ _ _ k) ?_
    have hc:=lineC_mem (lineC s n)[j] (List.getElem_mem hj)
    have h2:(j:Int) < ((lineC s n).length:Int):=by omega
    have h3:(0:Int)≤j:=by omega
    have h5:(lineC s n)[j] < (g.length:Int):=by rw [hlen];exact hc.2
    have hv:=val_le hg (rd_mem hc.1 h5)
    have h6:rd g (lineC s n)[j] < (x.length:Int):=by rw [hx.1];omega
    rw [drop_cons hj,clashL] at he
    simp only [h2,h3,if_true,rd_lt hj,hc.1,h5,h6,hv.1,w64n (by omega:j < 9000000000000000000)]
    have hstep:¬ (0 < rd g (lineC s n)[j]∧rd g (lineC s n)[j]∈seen)→Ev (fun k=>impl_SquareFits.l1 k g s n (lineC s n) (x.set (rd g (lineC s n)[j]).toNat true) ((j + 1:Nat):Int)) (!(clashL g (lineC s n) [] || linesClash g s (n + 1) (2 * s.toNat - (n + 1)))):=by
     intro hn
     rw [if_neg hn] at he
     exact ihj _ ⟨_,hx.step hv,he⟩
    by_cases hp:0 < rd g (lineC s n)[j]
    ·have hp':rd g (lineC s n)[j] > 0:=hp
     simp only [hp',if_true]
     by_cases ht:rdOf false x (rd g (lineC s n)[j])=true
     ·simp only [ht,if_true]
      rw [if_pos ⟨hp,(hx.2 _ hv.1 hv.2).1 ht⟩] at he
      rw [he];exact Ev.now _
     ·simp only [ht,if_false]
      exact hstep (fun h=>ht ((hx.2 _ hv.1 hv.2).2 h.2))
    ·have hp':¬ rd g (lineC s n)[j] > 0:=hp
     simp only [hp',if_false]
     exact hstep (fun h=>hp h.1)
 ·simp only [hg,if_false,eq_false_of_ne_true hg,Bool.false_and,Bool.false_eq_true]
  exact Ev.now _

end Go.Proofs.Ytmjbnghhfadapaa.Pure
namespace Go.Proofs.Ytmjbnghhfadapaa.Pure
set_option linter.unusedSimpArgs false
set_option linter.unusedVariables false
open Go.RowKit Go.Proofs.YtmjbnghhfadapaaW.PrintWords Go.Proofs.YtmjbnghhfadapaaW.PrintMore Go.Proofs.Ytmjbnghhfadapaa.P


theorem orbit_fin:∀ m:Fin 32,∀ v:Fin 5,(0≤Go.bits .or .i64 (m.val:Int) (shl .i64 1 (v.val:Int))∧Go.bits .or .i64 (m.val:Int) (shl .i64 1 (v.val:Int))≤31)∧∀ u:Fin 5,has (Go.bits .or .i64 (m.val:Int) (shl .i64 1 (v.val:Int))) (u.val:Int)=(decide (u=v) || has (m.val:Int) (u.val:Int)):=by decide +kernel
theorem tmod31_fin:∀ m:Fin 32,∀ v:Fin 5,Int.tmod (shr .i64 (m.val:Int) (v.val:Int)) 2=(if has (m.val:Int) (v.val:Int)=true then 1 else 0):=by decide +kernel
def Seen (m:Int)(seen:List Int):Prop:=0≤m∧m≤31∧∀ u:Int,0≤u→u≤4→(has m u=true↔u∈seen)
theorem Seen.start:Seen 0 []:=⟨by decide,by decide,fun u h0 h1=>by
 have:has 0 u=false:=by unfold has;simp
 simp [this]⟩
theorem Seen.step {m v:Int}{seen:List Int}(h:Seen m seen)(hv:0≤v∧v≤4):Seen (Go.bits .or .i64 m (shl .i64 1 v)) (v :: seen):=by
 obtain ⟨h0,h1,h2⟩:=h
 have hf:=orbit_fin ⟨m.toNat,by omega⟩ ⟨v.toNat,by omega⟩
 simp only [show ((m.toNat:Nat):Int)=m by omega,show ((v.toNat:Nat):Int)=v by omega] at hf
 refine ⟨hf.1.1,hf.1.2,fun u hu0 hu1=>?_⟩
 have hg:=hf.2 ⟨u.toNat,by omega⟩
 simp only [show ((u.toNat:Nat):Int)=u by omega,Fin.mk.injEq] at hg
 rw [hg,List.mem_cons,Bool.or_eq_true,h2 u hu0 hu1,decide_eq_true_iff]
 constructor
 ·rintro (h|h)
  ·exact .inl (by omega)
  ·exact .inr h
 ·rintro (h|h)
  ·exact .inl (by omega)
  ·exact .inr h
theorem Seen.tmod {m v:Int}{seen:List Int}(h:Seen m seen)(hv:0≤v∧v≤4):(Int.tmod (shr .i64 m v) 2=1)↔v∈seen:=by
 obtain ⟨h0,h1,h2⟩:=h
 have hf:=tmod31_fin ⟨m.toNat,by omega⟩ ⟨v.toNat,by omega⟩
 simp only [show ((m.toNat:Nat):Int)=m by omega,show ((v.toNat:Nat):Int)=v by omega] at hf
 rw [hf,← h2 v hv.1 hv.2]
 by_cases hh:has m v=true <;> simp [hh]
theorem l2Clash_ev {g:List Int}{s:Int}(hg:gridB g s=true):Ev (fun k=>spec_l2Clash.f k g s) (linesClash g s 0 (2 * s.toNat)):=by
 unfold spec_l2Clash.f
 obtain ⟨hsn,hs2,hs4⟩:=size_nat (gridB_size hg)
 have hw:wrap64 (2 * s)=((2 * s.toNat:Nat):Int):=by unfold wrap64;omega
 have hlen:=gridB_len hg
 refine Ev.range0 (L:=fun k i=>spec_l2Clash.l0 k g s i) (R:=fun n=>linesClash g s n (2 * s.toNat - n)) (N:=2 * s.toNat) ?_ ?_ 0 (Nat.zero_le _)
 ·refine Ev.step (fun k=>spec_l2Clash.l0.eq_2 _ _ _ k) ?_
  simp only [hw,Int.lt_irrefl,if_false,Nat.sub_self,linesClash]
  exact Ev.now _
 ·intro n hn ih
  refine Ev.step (fun k=>spec_l2Clash.l0.eq_2 _ _ _ k) ?_
  have h1:(n:Int) < ((2 * s.toNat:Nat):Int):=by omega
  simp only [hw,h1,if_true]
  refine Ev.bind (specLineCells_ev s n) ?_
  have e:2 * s.toNat - n=(2 * s.toNat - (n + 1)) + 1:=by omega
  rw [e,linesClash]
  have hb:=lineC_len s n
  have:=Ev.range (L:=fun k (x:Int) i=>spec_l2Clash.l1 k g s n (lineC s n) x i) (R:=fun _ _=>clashL g (lineC s n) [] || linesClash g s (n + 1) (2 * s.toNat - (n + 1))) (N:=(lineC s n).length)
   (fun x j=>∃ seen,Seen x seen∧clashL g (lineC s n) []=clashL g ((lineC s n).drop j) seen) ?_ ?_ 0 0 (Nat.zero_le _) ⟨[],Seen.start,by simp⟩
  ·simpa using this
  ·rintro x ⟨seen,hx,he⟩
   refine Ev.step (fun k=>spec_l2Clash.l1.eq_2 _ _ _ _ _ _ k) ?_
   have e2:clashL g (lineC s n) []=false:=by rw [he,List.drop_length];rfl
   simp only [Int.lt_irrefl,if_false,e2,Bool.false_or,w64n (by omega:n < 9000000000000000000)]
   exact ih
  ·rintro x j hj ⟨seen,hx,he⟩ ihj
   refine Ev.step (fun k=>spec_l2Clash.l1.eq_2 _ _ _ _ _ _ k) ?_
   have hc:=lineC_mem (lineC s n)[j] (List.getElem_mem hj)
   have h2:(j:Int) < ((lineC s n).length:Int):=by omega
   have h3:(0:Int)≤j:=by omega
   have h5:(lineC s n)[j] < (g.length:Int):=by rw [hlen];exact hc.2
   have hv:=val_le hg (rd_mem hc.1 h5)
   rw [drop_cons hj,clashL] at he
   simp only [h2,h3,if_true,rd_lt hj,hc.1,h5,hv.1,w64n (by omega:j < 9000000000000000000)]
   have hstep:¬ (0 < rd g (lineC s n)[j]∧rd g (lineC s n)[j]∈seen)→Ev (fun k=>spec_l2Clash.l1 k g s n (lineC s n) (Go.bits .or .i64 x (shl .i64 1 (rd g (lineC s n)[j]))) ((j + 1:Nat):Int)) (clashL g (lineC s n) [] || linesClash g s (n + 1) (2 * s.toNat - (n + 1))):=by
    intro hn
    rw [if_neg hn] at he
    exact ihj _ ⟨_,hx.step hv,he⟩
   by_cases hp:0 < rd g (lineC s n)[j]
   ·have hp':rd g (lineC s n)[j] > 0:=hp
    simp only [hp',if_true]
    by_cases ht:Int.tmod (shr .i64 x (rd g (lineC s n)[j])) 2=1
    ·simp only [ht,if_true]
     rw [if_pos ⟨hp,(hx.tmod hv).1 ht⟩] at he
     rw [he];exact Ev.now _
    ·simp only [ht,if_false]
     exact hstep (fun h=>ht ((hx.tmod hv).2 h.2))
   ·have hp':¬ rd g (lineC s n)[j] > 0:=hp
    simp only [hp',if_false]
    exact hstep (fun h=>hp h.1)

end Go.Proofs.Ytmjbnghhfadapaa.Pure
namespace Go.Proofs.Ytmjbnghhfadapaa.Pure
set_option linter.unusedSimpArgs false
set_option linter.unusedVariables false
open Go.RowKit Go.Proofs.YtmjbnghhfadapaaW.PrintWords Go.Proofs.YtmjbnghhfadapaaW.PrintMore


def goodCells (t:Int)(cs:List Int):Nat→Bool
 | 0=>true
 | n + 1=>goodCells t cs n && (decide (0≤rd cs (n:Int)∧rd cs (n:Int) < t) && !decide (rd cs (n:Int)∈cs.take n))
theorem goodCells_false {t:Int}{cs:List Int}{n:Nat}(h:goodCells t cs n=false):∀ d,goodCells t cs (n + d)=false
 | 0=>h
 | d + 1=>by rw [show n + (d + 1)=(n + d) + 1 from rfl,goodCells,goodCells_false h d];rfl
theorem goodCells_le {t:Int}{cs:List Int}{n m:Nat}(h:goodCells t cs n=false)(hm:n≤m):goodCells t cs m=false:=by
 obtain ⟨d,rfl⟩:∃ d,m=n + d:=⟨m - n,by omega⟩
 exact goodCells_false h d
def ruleTail (kind len v s:Int):Bool:=decide (len≤4) && (if kind=1 then decide (2≤len∧v=0) else if kind=2∨kind=3 then decide (1≤len∧1≤v∧v≤s * s * s * s) else if kind=4 then decide (len=2∧v=0) else if kind=5 then decide (len=2∧0≤v∧v < s) else false)
def ruleB (kind:Int)(cs:List Int)(v s:Int):Bool:=sizeOkB s && (goodCells (s * s) cs cs.length && ruleTail kind cs.length v s)
theorem mem_take_iff {cs:List Int}{n:Nat}{c:Int}:c∈cs.take n↔∃ j,j < n∧j < cs.length∧rd cs (j:Int)=c:=by
 constructor
 ·intro h
  obtain ⟨j,hj,he⟩:=List.mem_iff_getElem.1 h
  rw [List.length_take] at hj
  refine ⟨j,by omega,by omega,?_⟩
  rw [rd_lt (by omega:j < cs.length),← he,List.getElem_take]
 ·rintro ⟨j,h1,h2,he⟩
  rw [rd_lt h2] at he
  refine List.mem_iff_getElem.2 ⟨j,by rw [List.length_take];omega,?_⟩
  rw [List.getElem_take];exact he

end Go.Proofs.Ytmjbnghhfadapaa.Pure
namespace Go.Proofs.Ytmjbnghhfadapaa.Pure
set_option linter.unusedSimpArgs false
set_option linter.unusedVariables false
open Go.RowKit Go.Proofs.YtmjbnghhfadapaaW.PrintWords Go.Proofs.YtmjbnghhfadapaaW.PrintMore Go.Proofs.Ytmjbnghhfadapaa.P


theorem specRuleTail_ev (s kind v:Int)(cs:List Int)(hs:sizeOkB s=true):Ev (fun k=>spec_RuleValid.j2 k s (cs.length:Int) (decide ((cs.length:Int) > 4)) kind cs v) (ruleTail kind cs.length v s):=by
 have hsz:=sizeOkB_iff.1 hs
 have hw:wrap64 ((wrap64 ((wrap64 (s * s)) * s)) * s)=s * s * s * s:=by rcases hsz with rfl|rfl|rfl <;> decide +kernel
 have hw1:wrap64 (s - 1)=s - 1:=by rcases hsz with rfl|rfl|rfl <;> decide +kernel
 refine Ev.step (fun k=>spec_RuleValid.j2.eq_2 _ _ _ _ _ _ k) ?_
 unfold ruleTail
 by_cases h4:(cs.length:Int) > 4
 ·have h4':¬ (cs.length:Int)≤4:=by omega
  simp only [h4,h4',decide_true,decide_false,if_true,Bool.false_and]
  exact Ev.now _
 ·have h4':(cs.length:Int)≤4:=by omega
  simp only [h4,h4',decide_true,decide_false,if_false,Bool.true_and,Bool.false_eq_true]
  by_cases k1:kind=1
  ·simp only [k1,if_true]
   by_cases h2:(cs.length:Int) ≥ 2
   ·have h2':2≤(cs.length:Int):=h2
    simp only [h2,h2',if_true,true_and]
    by_cases hv:v=0
    ·subst hv;exact Ev.now _
    ·have e1:(v == 0)=false:=by rw [beq_eq_false_iff_ne];exact hv
     simp only [hv,e1,decide_false];exact Ev.now _
   ·have h2':¬ 2≤(cs.length:Int):=h2
    simp only [h2,h2',if_false,false_and,decide_false]
    exact Ev.now _
  ·simp only [k1,if_false]
   have hj:∀ b,b=(decide (kind=2∨kind=3))→Ev (fun k=>spec_RuleValid.j3 k s (cs.length:Int) kind b kind cs v) (if kind=2∨kind=3 then decide (1≤(cs.length:Int)∧1≤v∧v≤s * s * s * s) else if kind=4 then decide ((cs.length:Int)=2∧v=0) else if kind=5 then decide ((cs.length:Int)=2∧0≤v∧v < s) else false):=by
    rintro b rfl
    refine Ev.step (fun k=>spec_RuleValid.j3.eq_2 _ _ _ _ _ _ _ k) ?_
    by_cases k2:kind=2∨kind=3
    ·simp only [k2,decide_true,if_true]
     by_cases h1:(cs.length:Int) ≥ 1
     ·have h1':1≤(cs.length:Int):=h1
      simp only [h1,h1',if_true,true_and,l1In_eq,Option.bind_some,hw]
      exact Ev.now _
     ·have h1':¬ 1≤(cs.length:Int):=h1
      simp only [h1,h1',if_false,false_and,decide_false]
      exact Ev.now _
    ·simp only [k2,decide_false,if_false,Bool.false_eq_true]
     by_cases k4:kind=4
     ·simp only [k4,if_true]
      by_cases h2:(cs.length:Int)=2
      ·simp only [h2,if_true,true_and]
       by_cases hv:v=0
       ·subst hv;exact Ev.now _
       ·have e1:(v == 0)=false:=by rw [beq_eq_false_iff_ne];exact hv
        simp only [hv,e1,decide_false];exact Ev.now _
      ·simp only [h2,if_false,false_and,decide_false]
       exact Ev.now _
     ·simp only [k4,if_false]
      by_cases k5:kind=5
      ·simp only [k5,if_true]
       by_cases h2:(cs.length:Int)=2
       ·have hlt:(v≤s - 1)=(v < s):=by apply propext;omega
        simp only [h2,if_true,true_and,l1In_eq,Option.bind_some,hw1,hlt]
        exact Ev.now _
       ·simp only [h2,if_false,false_and,decide_false]
        exact Ev.now _
      ·simp only [k5,if_false]
       exact Ev.now _
   by_cases k2:kind=2
   ·have e:(kind == 2)=decide (kind=2∨kind=3):=by simp [k2]
    have:=hj _ e
    simpa only [k2,if_true] using this
   ·have e:(kind == 3)=decide (kind=2∨kind=3):=by
     by_cases k3:kind=3 <;> simp [k2,k3]
    have:=hj _ e
    simp only [k2,if_false]
    simpa only [k2,false_or] using this
theorem specRuleValid_ev (kind:Int)(cs:List Int)(v s:Int)(hl:cs.length≤35184372088832):Ev (fun k=>spec_RuleValid.f k kind cs v s) (ruleB kind cs v s):=by
 unfold spec_RuleValid.f ruleB
 have hRf:∀ i,i < cs.length→(sizeOkB s=true→goodCells (s * s) cs (i + 1)=false)→(sizeOkB s && (goodCells (s * s) cs cs.length && ruleTail kind cs.length v s))=false:=by
  intro i hi h
  by_cases hs:sizeOkB s=true
  ·rw [hs,goodCells_le (h hs) (by omega:i + 1≤cs.length)];rfl
  ·rw [eq_false_of_ne_true hs];rfl
 have:=Ev.range (σ:=Unit) (L:=fun k _ i=>spec_RuleValid.l0 k s i kind cs v) (R:=fun _ _=>sizeOkB s && (goodCells (s * s) cs cs.length && ruleTail kind cs.length v s)) (N:=cs.length) (fun _ i=>sizeOkB s=true→goodCells (s * s) cs i=true) ?_ ?_ () 0 (Nat.zero_le _) (fun _=>rfl)
 ·simpa using this
 ·intro _ hg
  refine Ev.step (fun k=>spec_RuleValid.l0.eq_2 _ _ _ _ _ k) ?_
  simp only [Int.lt_irrefl,if_false,l1In_eq,Option.bind_some]
  by_cases hs:sizeOkB s=true
  ·have hs':=hs
   unfold sizeOkB at hs'
   rw [hg hs,hs]
   simp only [hs',if_true,Bool.true_and]
   exact specRuleTail_ev s kind v cs hs
  ·have hs':=eq_false_of_ne_true hs
   rw [hs']
   unfold sizeOkB at hs'
   simp only [hs',Bool.false_eq_true,if_false,Bool.false_and]
   refine Ev.step (fun k=>spec_RuleValid.j2.eq_2 _ _ _ _ _ _ k) ?_
   simp only [if_true]
   exact Ev.now _
 ·intro _ i hi hg ih
  refine Ev.step (fun k=>spec_RuleValid.l0.eq_2 _ _ _ _ _ k) ?_
  have h1:(i:Int) < (cs.length:Int):=by omega
  have h0:(0:Int)≤(i:Int):=Int.natCast_nonneg i
  simp only [h1,h0,if_true,l1In_eq,Option.bind_some]
  by_cases hc:0≤rd cs (i:Int)∧rd cs (i:Int)≤wrap64 ((wrap64 (s * s)) - 1)
  ·simp only [hc,and_self,decide_true,if_true]
   have:=Ev.range (σ:=Unit) (L:=fun k _ j=>spec_RuleValid.l1 k s (i:Int) j kind cs v) (R:=fun _ _=>sizeOkB s && (goodCells (s * s) cs cs.length && ruleTail kind cs.length v s)) (N:=i) (fun _ j=>∀ d,d < j→rd cs (d:Int)≠rd cs (i:Int)) ?_ ?_ () 0 (Nat.zero_le _) (fun d hd=>absurd hd (Nat.not_lt_zero d))
   ·simpa using this
   ·intro _ hno
    refine Ev.step (fun k=>spec_RuleValid.l1.eq_2 _ _ _ _ _ _ k) ?_
    simp only [Int.lt_irrefl,if_false,w64n (by omega:i < 9000000000000000000)]
    refine ih () (fun hs=>?_)
    have ht:wrap64 ((wrap64 (s * s)) - 1)=s * s - 1:=by rcases sizeOkB_iff.1 hs with rfl|rfl|rfl <;> decide +kernel
    rw [ht] at hc
    have hm:¬ rd cs (i:Int)∈cs.take i:=by
     intro hm
     obtain ⟨j,hj,_,he⟩:=mem_take_iff.1 hm
     exact hno j hj he
    rw [goodCells,hg hs,decide_eq_true (⟨hc.1,by omega⟩:0≤rd cs (i:Int)∧rd cs (i:Int) < s * s),decide_eq_false hm]
    rfl
   ·intro _ j hj hno ihj
    refine Ev.step (fun k=>spec_RuleValid.l1.eq_2 _ _ _ _ _ _ k) ?_
    have h2:(j:Int) < (i:Int):=by omega
    have h3:(0:Int)≤(j:Int):=Int.natCast_nonneg j
    have h4:(j:Int) < (cs.length:Int):=by omega
    simp only [h2,h3,h4,h1,h0,if_true,w64n (by omega:j < 9000000000000000000)]
    by_cases he:rd cs (j:Int)=rd cs (i:Int)
    ·simp only [he,if_true]
     rw [hRf i hi (fun hs=>by
      have hm:rd cs (i:Int)∈cs.take i:=mem_take_iff.2 ⟨j,hj,by omega,he⟩
      rw [goodCells,decide_eq_true hm];simp)]
     exact Ev.now _
    ·simp only [he,if_false]
     refine ihj () (fun d hd=>?_)
     by_cases hdj:d=j
     ·rw [hdj];exact he
     ·exact hno d (by omega)
  ·simp only [hc,decide_false,if_false,Bool.false_eq_true]
   rw [hRf i hi (fun hs=>by
    have ht:wrap64 ((wrap64 (s * s)) - 1)=s * s - 1:=by rcases sizeOkB_iff.1 hs with rfl|rfl|rfl <;> decide +kernel
    rw [ht] at hc
    have hn:¬ (0≤rd cs (i:Int)∧rd cs (i:Int) < s * s):=fun h=>hc ⟨h.1,by omega⟩
    rw [goodCells,decide_eq_false hn];simp)]
   exact Ev.now _

end Go.Proofs.Ytmjbnghhfadapaa.Pure
namespace Go.Proofs.Ytmjbnghhfadapaa.Pure
set_option linter.unusedSimpArgs false
set_option linter.unusedVariables false
open Go.RowKit Go.Proofs.YtmjbnghhfadapaaW.PrintWords Go.Proofs.YtmjbnghhfadapaaW.PrintMore Go.Proofs.Ytmjbnghhfadapaa.P


theorem index_ev (l:List Int)(x:Int)(h:l.length≤35184372088832):∀ d n,n + d=l.length→∃ r:Int,(0≤r↔x∈l.drop n)∧Ev (fun k=>slices_Index_int_int.l0 k l x (l.length:Int) (n:Int)) r
 | 0,n,hn=>by
  refine ⟨-1,?_,?_⟩
  ·rw [List.drop_eq_nil_of_le (by omega)];simp
  ·refine Ev.step (fun k=>slices_Index_int_int.l0.eq_2 _ _ _ _ k) ?_
   have h1:¬ (n:Int) < (l.length:Int):=by omega
   simp only [h1,if_false]
   exact Ev.now _
 | d + 1,n,hn=>by
  have h1:(n:Int) < (l.length:Int):=by omega
  have h0:(0:Int)≤(n:Int):=Int.natCast_nonneg n
  have hd:l.drop n=l[n] :: l.drop (n + 1):=drop_cons (by omega)
  by_cases hx:x=rd l (n:Int)
  ·refine ⟨(n:Int),⟨fun _=>?_,fun _=>h0⟩,?_⟩
   ·rw [hd,hx,rd_lt (by omega:n < l.length)];exact List.mem_cons_self
   ·refine Ev.step (fun k=>slices_Index_int_int.l0.eq_2 _ _ _ _ k) ?_
    simp only [h1,h0,← hx,if_true]
    exact Ev.now _
  ·obtain ⟨r,hr,he⟩:=index_ev l x h d (n + 1) (by omega)
   refine ⟨r,?_,?_⟩
   ·rw [hr,hd,List.mem_cons]
    constructor
    ·exact .inr
    ·rintro (e|e)
     ·exact absurd (by rw [rd_lt (by omega:n < l.length)];exact e) hx
     ·exact e
   ·refine Ev.step (fun k=>slices_Index_int_int.l0.eq_2 _ _ _ _ k) ?_
    simp only [h1,h0,hx,if_true,if_false,w64n (by omega:n < 9000000000000000000)]
    exact he
theorem contains_ev (l:List Int)(x:Int)(h:l.length≤35184372088832):Ev (fun k=>slices_Contains_int_int.f k l x) (decide (x∈l)):=by
 obtain ⟨r,hr,he⟩:=index_ev l x h l.length 0 (by omega)
 unfold slices_Contains_int_int.f slices_Index_int_int.f
 refine Ev.bind he ?_
 rw [List.drop_zero] at hr
 have e:decide (r ≥ 0)=decide (x∈l):=by
  by_cases hx:x∈l
  ·rw [decide_eq_true hx,decide_eq_true (hr.2 hx)]
  ·rw [decide_eq_false hx,decide_eq_false (fun h=>hx (hr.1 h))]
 simp only [e]
 exact Ev.now _
theorem implRuleTail_ev (s kind v:Int)(cs:List Int)(hs:sizeOkB s=true):Ev (fun k=>if kind=1 then (if (cs.length:Int) ≥ 2 then (if (cs.length:Int)≤4 then (some (v == 0)) else (some false)) else (some false)) else (if kind=2 then (impl_RuleValid.j1 k s (cs.length:Int) kind (kind == 2) kind cs v) else (impl_RuleValid.j1 k s (cs.length:Int) kind (kind == 3) kind cs v))) (ruleTail kind cs.length v s):=by
 have hsz:=sizeOkB_iff.1 hs
 have hw:wrap64 ((wrap64 ((wrap64 (s * s)) * s)) * s)=s * s * s * s:=by rcases hsz with rfl|rfl|rfl <;> decide +kernel
 unfold ruleTail
 generalize (cs.length:Int)=n
 have hvz:∀ w:Int,(w == 0)=decide (w=0):=by
  intro w
  by_cases h:w=0
  ·subst h;rfl
  ·rw [beq_eq_false_iff_ne.2 h,decide_eq_false h]
 by_cases k1:kind=1
 ·simp only [k1,if_true]
  by_cases h2:2≤n
  ·by_cases h4:n≤4
   ·have h2':n ≥ 2:=h2
    simp only [h2,h2',h4,if_true,hvz,true_and,decide_true,Bool.true_and]
    exact Ev.now _
   ·have h2':n ≥ 2:=h2
    simp only [h2',h4,if_true,if_false,decide_false,Bool.false_and]
    exact Ev.now _
  ·have h2':¬ n ≥ 2:=h2
   simp only [h2,h2',if_false,false_and,decide_false,Bool.and_false]
   exact Ev.now _
 ·simp only [k1,if_false]
  have hj:∀ b,b=decide (kind=2∨kind=3)→Ev (fun k=>impl_RuleValid.j1 k s n kind b kind cs v) (decide (n≤4) && (if kind=2∨kind=3 then decide (1≤n∧1≤v∧v≤s * s * s * s) else if kind=4 then decide (n=2∧v=0) else if kind=5 then decide (n=2∧0≤v∧v < s) else false)):=by
   rintro b rfl
   refine Ev.step (fun k=>impl_RuleValid.j1.eq_2 _ _ _ _ _ _ _ k) ?_
   by_cases k2:kind=2∨kind=3
   ·simp only [k2,decide_true,if_true,hw]
    by_cases h1:1≤n
    ·have h1':n ≥ 1:=h1
     by_cases h4:n≤4
     ·by_cases hv:1≤v
      ·have hv':v ≥ 1:=hv
       simp only [h1,h1',h4,hv,hv',if_true,true_and,decide_true,Bool.true_and]
       exact Ev.now _
      ·have hv':¬ v ≥ 1:=hv
       simp only [h1,h1',h4,hv,hv',if_true,if_false,true_and,false_and,decide_true,decide_false,Bool.true_and]
       exact Ev.now _
     ·simp only [h1',h4,if_true,if_false,decide_false,Bool.false_and]
      exact Ev.now _
    ·have h1':¬ n ≥ 1:=h1
     simp only [h1,h1',if_false,false_and,decide_false,Bool.and_false]
     exact Ev.now _
   ·simp only [k2,decide_false,if_false,Bool.false_eq_true]
    by_cases k4:kind=4
    ·simp only [k4,if_true]
     by_cases h2:n=2
     ·simp only [h2,if_true,true_and,hvz]
      exact Ev.now _
     ·simp only [h2,if_false,false_and,decide_false,Bool.and_false]
      exact Ev.now _
    ·simp only [k4,if_false]
     by_cases k5:kind=5
     ·simp only [k5,if_true]
      by_cases h2:n=2
      ·by_cases hv:0≤v
       ·have hv':v ≥ 0:=hv
        simp only [h2,hv,hv',if_true,true_and]
        exact Ev.now _
       ·have hv':¬ v ≥ 0:=hv
        simp only [h2,hv,hv',if_true,if_false,true_and,false_and,decide_false,Bool.and_false]
        exact Ev.now _
      ·simp only [h2,if_false,false_and,decide_false,Bool.and_false]
       exact Ev.now _
     ·simp only [k5,if_false,Bool.and_false]
      exact Ev.now _
  by_cases k2:kind=2
  ·have e:(kind == 2)=decide (kind=2∨kind=3):=by simp [k2]
   have:=hj _ e
   simpa only [k2,if_true] using this
  ·have e:(kind == 3)=decide (kind=2∨kind=3):=by
    by_cases k3:kind=3 <;> simp [k2,k3]
   have:=hj _ e
   simp only [k2,if_false]
   simpa only [k2,false_or] using this
theorem implRuleValid_ev (kind:Int)(cs:List Int)(v s:Int)(hl:cs.length≤35184372088832):Ev (fun k=>impl_RuleValid.f k kind cs v s) (ruleB kind cs v s):=by
 unfold impl_RuleValid.f ruleB
 simp only [sizeOk_eq,Option.bind_some]
 by_cases hs:sizeOkB s=true
 ·have ht:wrap64 (s * s)=s * s:=by rcases sizeOkB_iff.1 hs with rfl|rfl|rfl <;> decide +kernel
  simp only [hs,if_true,Bool.true_and]
  have:=Ev.range (σ:=Unit) (L:=fun k _ i=>impl_RuleValid.l0 k s cs (cs.length:Int) i kind cs v) (R:=fun _ _=>goodCells (s * s) cs cs.length && ruleTail kind cs.length v s) (N:=cs.length) (fun _ i=>goodCells (s * s) cs i=true) ?_ ?_ () 0 (Nat.zero_le _) rfl
  ·simpa using this
  ·intro _ hg
   refine Ev.step (fun k=>impl_RuleValid.l0.eq_2 _ _ _ _ _ _ _ k) ?_
   simp only [Int.lt_irrefl,if_false]
   rw [hg,Bool.true_and]
   exact implRuleTail_ev s kind v cs hs
  ·intro _ i hi hg ih
   refine Ev.step (fun k=>impl_RuleValid.l0.eq_2 _ _ _ _ _ _ _ k) ?_
   have h1:(i:Int) < (cs.length:Int):=by omega
   have h0:(0:Int)≤(i:Int):=Int.natCast_nonneg i
   have h2:(i:Int)≤(cs.length:Int):=by omega
   have hbad:goodCells (s * s) cs (i + 1)=false→Ev (fun _:Nat=>some false) (goodCells (s * s) cs cs.length && ruleTail kind cs.length v s):=by
    intro h
    rw [goodCells_le h (by omega:i + 1≤cs.length)]
    exact Ev.now _
   simp only [h1,h0,h2,if_true,ht,Int.toNat_natCast]
   by_cases hc0:rd cs (i:Int) < 0
   ·simp only [hc0,if_true]
    refine hbad ?_
    have hn:¬ (0≤rd cs (i:Int)∧rd cs (i:Int) < s * s):=fun h=>by omega
    rw [goodCells,decide_eq_false hn];simp
   ·simp only [hc0,if_false]
    by_cases hc1:rd cs (i:Int) ≥ s * s
    ·simp only [hc1,if_true]
     refine hbad ?_
     have hn:¬ (0≤rd cs (i:Int)∧rd cs (i:Int) < s * s):=fun h=>by omega
     rw [goodCells,decide_eq_false hn];simp
    ·simp only [hc1,if_false]
     refine Ev.bind (contains_ev _ _ (by rw [List.length_take];omega)) ?_
     by_cases hm:rd cs (i:Int)∈cs.take i
     ·simp only [hm,decide_true,if_true]
      refine hbad ?_
      rw [goodCells,decide_eq_true hm];simp
     ·simp only [hm,decide_false,if_false,Bool.false_eq_true,w64n (by omega:i < 9000000000000000000)]
      refine ih () ?_
      rw [goodCells,hg,decide_eq_true (⟨by omega,by omega⟩:0≤rd cs (i:Int)∧rd cs (i:Int) < s * s),decide_eq_false hm]
      rfl
 ·simp only [hs,if_false,Bool.false_eq_true,Bool.false_and]
  exact Ev.now _

end Go.Proofs.Ytmjbnghhfadapaa.Pure
namespace Go.Proofs.Ytmjbnghhfadapaa.Pure
set_option linter.unusedSimpArgs false
set_option linter.unusedVariables false
open Go.RowKit Go.Proofs.YtmjbnghhfadapaaW.PrintWords Go.Proofs.YtmjbnghhfadapaaW.PrintMore Go.Proofs.Ytmjbnghhfadapaa.P


theorem goodCells_prev {t:Int}{cs:List Int}{n:Nat}(h:goodCells t cs (n + 1)=true):goodCells t cs n=true:=by
 unfold goodCells at h;simp only [Bool.and_eq_true] at h;exact h.1
theorem goodCells_at {t:Int}{cs:List Int}:∀ {n:Nat},goodCells t cs n=true→∀ i,i < n→0≤rd cs (i:Int)∧rd cs (i:Int) < t
 | 0,_,i,hi=>absurd hi (Nat.not_lt_zero i)
 | n + 1,h,i,hi=>by
  by_cases hin:i < n
  ·exact goodCells_at (goodCells_prev h) i hin
  ·obtain rfl:i=n:=by omega
   unfold goodCells at h
   simp only [Bool.and_eq_true,decide_eq_true_eq] at h
   exact h.2.1
def sumP (l:List Int):Nat→Int
 | 0=>0
 | n + 1=>sumP l n + rd l (n:Int)
def prodP (l:List Int):Nat→Int
 | 0=>1
 | n + 1=>prodP l n * rd l (n:Int)
def neP (l:List Int)(i:Nat):Nat→Bool
 | 0=>true
 | j + 1=>neP l i j && (rd l (j:Int) != rd l (i:Int))
def nodupP (l:List Int):Nat→Bool
 | 0=>true
 | n + 1=>nodupP l n && neP l n n
theorem sumP_le {l:List Int}(h:∀ x∈l,0≤x∧x≤4):∀ n,n≤l.length→0≤sumP l n∧sumP l n≤4 * (n:Int)
 | 0,_=>by unfold sumP;omega
 | n + 1,hn=>by
  have ih:=sumP_le h n (by omega)
  have hx:=h _ (rd_mem (g:=l) (i:=(n:Int)) (by omega) (by omega))
  unfold sumP;omega
theorem prodP_le {l:List Int}(h:∀ x∈l,0≤x∧x≤4):∀ n,n≤l.length→0≤prodP l n∧prodP l n≤4 ^ n
 | 0,_=>by unfold prodP;decide
 | n + 1,hn=>by
  have ih:=prodP_le h n (by omega)
  have hx:=h _ (rd_mem (g:=l) (i:=(n:Int)) (by omega) (by omega))
  unfold prodP
  refine ⟨Int.mul_nonneg ih.1 hx.1,?_⟩
  rw [Int.pow_succ]
  exact Int.mul_le_mul ih.2 hx.2 hx.1 (Int.le_trans ih.1 ih.2)
theorem prodP_small {l:List Int}(h:∀ x∈l,0≤x∧x≤4){n:Nat}(hn:n≤l.length)(h4:n≤4):0≤prodP l n∧prodP l n≤256:=by
 have:=prodP_le h n hn
 have hc:n=0∨n=1∨n=2∨n=3∨n=4:=by omega
 refine ⟨this.1,Int.le_trans this.2 ?_⟩
 rcases hc with rfl|rfl|rfl|rfl|rfl <;> decide
theorem neP_iff {l:List Int}{i:Nat}:∀ j,j≤l.length→(neP l i j=true↔∀ d,d < j→rd l (d:Int)≠rd l (i:Int))
 | 0,_=>⟨fun _ d hd=>absurd hd (Nat.not_lt_zero d),fun _=>rfl⟩
 | j + 1,hj=>by
  unfold neP
  rw [Bool.and_eq_true,neP_iff j (by omega),bne_iff_ne]
  constructor
  ·rintro ⟨h1,h2⟩ d hd
   by_cases hdj:d=j
   ·rw [hdj];exact h2
   ·exact h1 d (by omega)
  ·exact fun h=>⟨fun d hd=>h d (by omega),h j (by omega)⟩
theorem neP_mem {l:List Int}{i:Nat}(hi:i < l.length):neP l i i= !decide (rd l (i:Int)∈l.take i):=by
 by_cases hm:rd l (i:Int)∈l.take i
 ·rw [decide_eq_true hm]
  obtain ⟨j,hj,_,he⟩:=mem_take_iff.1 hm
  refine eq_false_of_ne_true (fun h=>?_)
  exact (neP_iff i (by omega)).1 h j hj he
 ·rw [decide_eq_false hm]
  refine (neP_iff i (by omega)).2 (fun d hd he=>hm (mem_take_iff.2 ⟨d,hd,by omega,he⟩))
theorem nodupP_le {l:List Int}{n:Nat}(h:nodupP l n=false):∀ d,nodupP l (n + d)=false
 | 0=>h
 | d + 1=>by rw [show n + (d + 1)=(n + d) + 1 from rfl,nodupP,nodupP_le h d];rfl
def holdsB (kind v:Int)(l:List Int):Bool:=if kind=1 then nodupP l l.length else if kind=2 then sumP l l.length == v else if kind=3 then prodP l l.length == v else if kind=4 then decide (rd l 0 < rd l 1) else mx (rd l 0 - rd l 1) (rd l 1 - rd l 0) == v
def ValsOK (kind:Int)(l:List Int):Prop:=l.length≤4∧(∀ x∈l,0≤x∧x≤4)∧1≤kind∧kind≤5∧(4≤kind→l.length=2)
theorem l4Holds_ev {kind v:Int}{cs l:List Int}(h:ValsOK kind l):Ev (fun k=>spec_l4Holds.f k kind cs v l) (holdsB kind v l):=by
 obtain ⟨h4,hx,hk1,hk5,hk2⟩:=h
 unfold spec_l4Holds.f
 have:=Ev.range (L:=fun k (p:Int × Int × Bool) i=>spec_l4Holds.l0 k l p.1 p.2.1 p.2.2 i kind cs v) (R:=fun _ _=>holdsB kind v l) (N:=l.length) (fun p i=>p=(sumP l i,prodP l i,nodupP l i)) ?_ ?_ (0,1,true) 0 (Nat.zero_le _) rfl
 ·simpa using this
 ·rintro p rfl
  refine Ev.step (fun k=>spec_l4Holds.l0.eq_2 _ _ _ _ _ _ _ _ k) ?_
  unfold holdsB
  simp only [Int.lt_irrefl,if_false]
  by_cases k1:kind=1
  ·simp only [k1,if_true];exact Ev.now _
  ·by_cases k2:kind=2
   ·simp only [k1,k2,if_true,if_false];exact Ev.now _
   ·by_cases k3:kind=3
    ·simp only [k1,k2,k3,if_true,if_false];exact Ev.now _
    ·have hl2:l.length=2:=hk2 (by omega)
     have e0:(0:Int) < (l.length:Int):=by omega
     have e1:(1:Int) < (l.length:Int):=by omega
     have hr0:=hx _ (rd_mem (g:=l) (i:=0) (by decide) e0)
     have hr1:=hx _ (rd_mem (g:=l) (i:=1) (by decide) e1)
     have w1:wrap64 (rd l 0 - rd l 1)=rd l 0 - rd l 1:=by unfold wrap64;omega
     have w2:wrap64 (-(rd l 0 - rd l 1))=rd l 1 - rd l 0:=by unfold wrap64;omega
     by_cases k4:kind=4
     ·simp only [k1,k2,k3,k4,e0,e1,if_true,if_false];exact Ev.now _
     ·simp only [k1,k2,k3,k4,e0,e1,if_true,if_false,w1,w2];exact Ev.now _
 ·rintro p i hi rfl ih
  refine Ev.step (fun k=>spec_l4Holds.l0.eq_2 _ _ _ _ _ _ _ _ k) ?_
  have h1:(i:Int) < (l.length:Int):=by omega
  have h0:(0:Int)≤(i:Int):=Int.natCast_nonneg i
  have hs:=sumP_le hx (i + 1) (by omega)
  have hp:=prodP_small hx (n:=i + 1) (by omega) (by omega)
  have ws:wrap64 (sumP l i + rd l (i:Int))=sumP l (i + 1):=by
   rw [show sumP l i + rd l (i:Int)=sumP l (i + 1) from rfl];exact w64 (by omega) (by omega)
  have wp:wrap64 (prodP l i * rd l (i:Int))=prodP l (i + 1):=by
   rw [show prodP l i * rd l (i:Int)=prodP l (i + 1) from rfl];exact w64 (by omega) (by omega)
  simp only [h1,h0,if_true,ws,wp]
  clear hs hp ws wp
  have:=Ev.range (L:=fun k (b:Bool) j=>spec_l4Holds.l1 k l (sumP l (i + 1)) (prodP l (i + 1)) b (i:Int) j kind cs v) (R:=fun _ _=>holdsB kind v l) (N:=i) (fun b j=>b=(nodupP l i && neP l i j)) ?_ ?_ (nodupP l i) 0 (Nat.zero_le _) (by simp [neP])
  ·simpa using this
  ·rintro b rfl
   refine Ev.step (fun k=>spec_l4Holds.l1.eq_2 _ _ _ _ _ _ _ _ _ k) ?_
   simp only [Int.lt_irrefl,if_false,w64n (by omega:i < 9000000000000000000)]
   exact ih (_,_,_) rfl
  ·rintro b j hj hb ihj
   refine Ev.step (fun k=>spec_l4Holds.l1.eq_2 _ _ _ _ _ _ _ _ _ k) ?_
   have h2:(j:Int) < (i:Int):=by omega
   have h3:(j:Int) < (l.length:Int):=by omega
   have h5:(0:Int)≤(j:Int):=Int.natCast_nonneg j
   simp only [h2,h3,h5,h1,h0,if_true,w64n (by omega:j < 9000000000000000000)]
   cases b with
   | true =>
    simp only [if_true]
    refine ihj _ ?_
    rw [neP,← Bool.and_assoc,← hb,Bool.true_and]
   | false =>
    simp only [Bool.false_eq_true,if_false]
    refine ihj _ ?_
    rw [neP,← Bool.and_assoc,← hb,Bool.false_and]
theorem valuesHold_ev {kind v:Int}{cs l:List Int}(h:ValsOK kind l):Ev (fun k=>impl_valuesHold.f k kind cs v l) (holdsB kind v l):=by
 obtain ⟨h4,hx,hk1,hk5,hk2⟩:=h
 unfold impl_valuesHold.f
 have:=Ev.range (L:=fun k (p:Int × Int) i=>impl_valuesHold.l0 k l p.1 p.2 l (l.length:Int) i kind cs v) (R:=fun _ _=>holdsB kind v l) (N:=l.length) (fun p i=>p=(sumP l i,prodP l i)∧(kind=1→nodupP l i=true)) ?_ ?_ (0,1) 0 (Nat.zero_le _) ⟨rfl,fun _=>rfl⟩
 ·simpa using this
 ·rintro p ⟨rfl,hd⟩
  refine Ev.step (fun k=>impl_valuesHold.l0.eq_2 _ _ _ _ _ _ _ _ _ k) ?_
  unfold holdsB
  simp only [Int.lt_irrefl,if_false]
  by_cases k1:kind=1
  ·have k2:¬ kind=2:=by omega
   have k3:¬ kind=3:=by omega
   have k4:¬ kind=4:=by omega
   have k5:¬ kind=5:=by omega
   simp only [k2,k3,k4,k5,if_false]
   rw [if_pos k1,hd k1]
   exact Ev.now _
  ·by_cases k2:kind=2
   ·simp only [k1,k2,if_true,if_false];exact Ev.now _
   ·by_cases k3:kind=3
    ·simp only [k1,k2,k3,if_true,if_false];exact Ev.now _
    ·have hl2:l.length=2:=hk2 (by omega)
     have e0:(0:Int) < (l.length:Int):=by omega
     have e1:(1:Int) < (l.length:Int):=by omega
     have hr0:=hx _ (rd_mem (g:=l) (i:=0) (by decide) e0)
     have hr1:=hx _ (rd_mem (g:=l) (i:=1) (by decide) e1)
     have w1:wrap64 (rd l 0 - rd l 1)=rd l 0 - rd l 1:=by unfold wrap64;omega
     have w2:wrap64 (rd l 1 - rd l 0)=rd l 1 - rd l 0:=by unfold wrap64;omega
     by_cases k4:kind=4
     ·simp only [k1,k2,k3,k4,e0,e1,if_true,if_false];exact Ev.now _
     ·have k5:kind=5:=by omega
      simp only [k1,k2,k3,k4,e0,e1,if_true,if_false,w1,w2]
      simp only [k5,if_true]
      exact Ev.now _
 ·rintro p i hi ⟨rfl,hd⟩ ih
  refine Ev.step (fun k=>impl_valuesHold.l0.eq_2 _ _ _ _ _ _ _ _ _ k) ?_
  have h1:(i:Int) < (l.length:Int):=by omega
  have h2:(i:Int)≤(l.length:Int):=by omega
  have h0:(0:Int)≤(i:Int):=Int.natCast_nonneg i
  have hs:=sumP_le hx (i + 1) (by omega)
  have hp:=prodP_small hx (n:=i + 1) (by omega) (by omega)
  have ws:wrap64 (sumP l i + rd l (i:Int))=sumP l (i + 1):=by
   rw [show sumP l i + rd l (i:Int)=sumP l (i + 1) from rfl];exact w64 (by omega) (by omega)
  have wp:wrap64 (prodP l i * rd l (i:Int))=prodP l (i + 1):=by
   rw [show prodP l i * rd l (i:Int)=prodP l (i + 1) from rfl];exact w64 (by omega) (by omega)
  simp only [h1,h2,h0,if_true,ws,wp,Int.toNat_natCast,w64n (by omega:i < 9000000000000000000)]
  clear hs hp ws wp
  by_cases k1:kind=1
  ·simp only [k1,if_true]
   refine Ev.bind (contains_ev _ _ (by rw [List.length_take];omega)) ?_
   by_cases hm:rd l (i:Int)∈l.take i
   ·simp only [hm,decide_true,if_true]
    have hf:nodupP l (i + 1)=false:=by rw [nodupP,neP_mem hi,decide_eq_true hm];simp
    have:holdsB 1 v l=false:=by
     unfold holdsB
     obtain ⟨d,hd'⟩:∃ d,l.length=(i + 1) + d:=⟨l.length - (i + 1),by omega⟩
     rw [if_pos rfl,hd']
     exact nodupP_le hf d
    rw [this]
    exact Ev.now _
   ·simp only [hm,decide_false,if_false,Bool.false_eq_true]
    have:=ih (_,_) ⟨rfl,fun _=>by rw [nodupP,neP_mem hi,decide_eq_false hm,hd k1];rfl⟩
    rw [k1] at this
    exact this
  ·simp only [k1,if_false]
   exact ih (_,_) ⟨rfl,fun h=>absurd h k1⟩

end Go.Proofs.Ytmjbnghhfadapaa.Pure
namespace Go.Proofs.Ytmjbnghhfadapaa.Pure
set_option linter.unusedSimpArgs false
set_option linter.unusedVariables false
open Go.RowKit Go.Proofs.YtmjbnghhfadapaaW.PrintWords Go.Proofs.YtmjbnghhfadapaaW.PrintMore Go.Proofs.Ytmjbnghhfadapaa.P


def mvals (m:Int):List Int:=if 0≤m∧m≤30∧m % 2=0 then [1,2,3,4].filter (fun v=>decide ((m / 2 ^ v.toNat) % 2=1)) else []
theorem even_cases {m:Int}(h:0≤m∧m≤30∧m % 2=0):m=0∨m=2∨m=4∨m=6∨m=8∨m=10∨m=12∨m=14∨m=16∨m=18∨m=20∨m=22∨m=24∨m=26∨m=28∨m=30:=by omega
theorem specMaskValues_ev (m:Int):Ev (fun k=>spec_MaskValues.f k m) (mvals m):=by
 by_cases h:0≤m∧m≤30∧m % 2=0
 ·rcases even_cases h with rfl|rfl|rfl|rfl|rfl|rfl|rfl|rfl|rfl|rfl|rfl|rfl|rfl|rfl|rfl|rfl <;>
   exact Ev.of (spec_MaskValues.mono _) (k:=12) (by decide +kernel)
 ·have e:mvals m=[]:=by unfold mvals;rw [if_neg h]
  rw [e]
  unfold spec_MaskValues.f
  refine Ev.step (fun k=>spec_MaskValues.l0.eq_2 _ _ _ k) ?_
  have h4:(1:Int)≤4:=by decide
  simp only [h4,if_true,l1In_eq,Option.bind_some]
  by_cases hr:0≤m∧m≤30
  ·have ht:¬ Int.tmod m 2=0:=by rw [Int.tmod_eq_emod_of_nonneg hr.1];omega
   have ht2:(Int.tmod m 2 == 0)=false:=by simpa using ht
   simp only [hr,ht2,and_self,decide_true,if_true]
   refine Ev.step (fun k=>spec_MaskValues.j1.eq_2 _ _ _ _ k) ?_
   simp only [Bool.false_eq_true,if_false]
   exact Ev.now _
  ·simp only [hr,decide_false,Bool.false_eq_true,if_false]
   refine Ev.step (fun k=>spec_MaskValues.j1.eq_2 _ _ _ _ k) ?_
   simp only [Bool.false_eq_true,if_false]
   exact Ev.now _

end Go.Proofs.Ytmjbnghhfadapaa.Pure
namespace Go.Proofs.Ytmjbnghhfadapaa.Pure
set_option linter.unusedSimpArgs false
set_option linter.unusedVariables false
open Go.RowKit Go.Proofs.YtmjbnghhfadapaaW.PrintWords Go.Proofs.YtmjbnghhfadapaaW.PrintMore Go.Proofs.Ytmjbnghhfadapaa.P

theorem ruleB_parts {kind:Int}{cs:List Int}{v s:Int}(h:ruleB kind cs v s=true):sizeOkB s=true∧goodCells (s * s) cs cs.length=true∧cs.length≤4∧1≤kind∧kind≤5∧(4≤kind→cs.length=2):=by
 unfold ruleB ruleTail at h
 simp only [Bool.and_eq_true,decide_eq_true_eq] at h
 obtain ⟨h1,h2,h3,h4⟩:=h
 refine ⟨h1,h2,by omega,?_⟩
 by_cases k1:kind=1
 ·omega
 ·rw [if_neg k1] at h4
  by_cases k2:kind=2∨kind=3
  ·omega
  ·rw [if_neg k2] at h4
   by_cases k4:kind=4
   ·rw [if_pos k4] at h4
    simp only [decide_eq_true_eq] at h4
    omega
   ·rw [if_neg k4] at h4
    by_cases k5:kind=5
    ·rw [if_pos k5] at h4
     simp only [decide_eq_true_eq] at h4
     omega
    ·rw [if_neg k5] at h4;cases h4
theorem cell_mem {t:Int}{cs:List Int}(h:goodCells t cs cs.length=true):∀ c∈cs,0≤c∧c < t:=by
 intro c hc
 obtain ⟨i,hi,he⟩:=List.mem_iff_getElem.1 hc
 have:=goodCells_at h i hi
 rw [rd_lt hi,he] at this
 exact this

end Go.Proofs.Ytmjbnghhfadapaa.Pure
namespace Go.Proofs.Ytmjbnghhfadapaa.Pure
set_option linter.unusedSimpArgs false
set_option linter.unusedVariables false
open Go.RowKit Go.Proofs.YtmjbnghhfadapaaW.PrintWords Go.Proofs.YtmjbnghhfadapaaW.PrintMore


def orP (vals:List Int):Nat→Int→List Int→List Int
 | 0,_,out=>out
 | d + 1,i,out=>orP vals d (i + 1) (out.set i.toNat (Go.bits .or .i64 (rd out i) (shl .i64 1 (rd vals i))))
def waysM (kind v:Int)(own:List Int):Nat→List Int→List Int→List Int
 | 0,pre,out=>if holdsB kind v pre=true then orP pre pre.length 0 out else out
 | d + 1,pre,out=>(mvals (rd own (pre.length:Nat))).foldl (fun o x=>waysM kind v own d (pre ++ [x]) o) out
theorem orP_len (vals:List Int):∀ (d:Nat) (i:Int) (out:List Int),(orP vals d i out).length=out.length
 | 0,_,_=>rfl
 | d + 1,i,out=>by unfold orP;rw [orP_len vals d,List.length_set]
theorem foldl_len {f:List Int→Int→List Int}(h:∀ o x,(f o x).length=o.length):∀ (l:List Int) (o:List Int),(l.foldl f o).length=o.length
 | [],_=>rfl
 | x :: l,o=>by rw [List.foldl_cons,foldl_len h l,h]
theorem waysM_len (kind v:Int)(own:List Int):∀ (d:Nat) (pre out:List Int),(waysM kind v own d pre out).length=out.length
 | 0,pre,out=>by
  unfold waysM;split
  ·exact orP_len _ _ _ _
  ·rfl
 | d + 1,pre,out=>by
  unfold waysM
  exact foldl_len (fun o x=>waysM_len kind v own d _ o) _ _
theorem mvals_range {m x:Int}(h:x∈mvals m):1≤x∧x≤4:=by
 unfold mvals at h
 split at h
 ·have:=(List.mem_filter.1 h).1
  simp at this
  omega
 ·cases h
theorem mvals_len4 (m:Int):(mvals m).length≤4:=by
 unfold mvals;split
 ·exact List.length_filter_le _ _
 ·exact Nat.zero_le _
def ruleMasks (kind:Int)(cs:List Int)(v:Int)(masks:List Int)(s:Int):List Int:=if ruleB kind cs v s=true∧masksB masks s=true then waysM kind v (cs.map (fun c=>rd masks c)) cs.length [] (List.replicate cs.length 0) else []
theorem ruleB_len {kind:Int}{cs:List Int}{v s:Int}(h:ruleB kind cs v s=true):1≤cs.length∧cs.length≤4:=by
 have h4:=(ruleB_parts h).2.2.1
 unfold ruleB ruleTail at h
 simp only [Bool.and_eq_true,decide_eq_true_eq] at h
 refine ⟨?_,h4⟩
 have h2:=h.2.2.2
 split at h2
 ·simp only [decide_eq_true_eq] at h2;omega
 ·split at h2
  ·simp only [decide_eq_true_eq] at h2;omega
  ·split at h2
   ·simp only [decide_eq_true_eq] at h2;omega
   ·split at h2
    ·simp only [decide_eq_true_eq] at h2;omega
    ·cases h2
theorem ruleMasks_lenEq {kind:Int}{cs:List Int}{v:Int}{masks:List Int}{s:Int}(h:ruleB kind cs v s=true∧masksB masks s=true):(ruleMasks kind cs v masks s).length=cs.length:=by
 unfold ruleMasks;rw [if_pos h,waysM_len,List.length_replicate]
def KindOK (kind:Int)(n:Nat):Prop:=n≤4∧1≤kind∧kind≤5∧(4≤kind→n=2)
theorem kindOK_rule {kind:Int}{cs:List Int}{v s:Int}(h:ruleB kind cs v s=true):KindOK kind cs.length:=by
 obtain ⟨_,_,h1,h2,h3,h4⟩:=ruleB_parts h
 exact ⟨h1,h2,h3,h4⟩
theorem KindOK.vals {kind:Int}{n:Nat}(h:KindOK kind n){l:List Int}(hl:l.length=n)(hv:∀ x∈l,0≤x∧x≤4):ValsOK kind l:=by
 obtain ⟨h1,h2,h3,h4⟩:=h
 exact ⟨by omega,hv,h2,h3,fun h=>by rw [hl];exact h4 h⟩
theorem foldl_drop {β:Type}(f:β→Int→β)(l:List Int)(j:Nat)(hj:j < l.length)(o:β):(l.drop j).foldl f o=(l.drop (j + 1)).foldl f (f o l[j]):=by
 rw [List.drop_eq_getElem_cons hj,List.foldl_cons]

end Go.Proofs.Ytmjbnghhfadapaa.Pure
namespace Go.Proofs.Ytmjbnghhfadapaa.Pure
set_option linter.unusedSimpArgs false
set_option linter.unusedVariables false
open Go.RowKit Go.Proofs.YtmjbnghhfadapaaW.PrintWords Go.Proofs.YtmjbnghhfadapaaW.PrintMore Go.Proofs.Ytmjbnghhfadapaa.P


theorem mvals_marks {m:Int}(h:0≤m∧m≤30∧m % 2=0):mvals m=(marks 1 4).filter (fun x=>has m x):=by
 unfold mvals;rw [if_pos h];rfl
theorem orFrom_eq (vals:List Int):∀ (d:Nat) (i:Int) (out:List Int),impl_ruleMasks.orFrom vals d i out=orP vals d i out
 | 0,_,_=>rfl
 | d + 1,i,out=>by unfold impl_ruleMasks.orFrom orP;exact orFrom_eq vals d _ _
theorem tryV_ev {n i:Nat}{m:Int}(hm:0≤m∧m≤30∧m % 2=0)(hi:i < n)(F:Nat→List Int→List Int→Option (List Int × List Int))(G:List Int→List Int→List Int)(hG:∀ p o,(G p o).length=o.length)
  (hF:∀ vals out,vals.length=n→out.length=n→(∀ x∈vals,0≤x∧x≤4)→∃ vals',vals'.length=n∧vals'.take (i + 1)=vals.take (i + 1)∧(∀ x∈vals',0≤x∧x≤4)∧Ev (fun k=>F k vals out) (vals',G (vals.take (i + 1)) out)) :
  ∀ (q:Nat) (x:Int) (vals out:List Int),1≤x→x + (q:Int)≤5→vals.length=n→out.length=n→(∀ y∈vals,0≤y∧y≤4)→∃ vals',vals'.length=n∧vals'.take i=vals.take i∧(∀ y∈vals',0≤y∧y≤4)∧Ev (fun k=>impl_ruleMasks.tryV (F k) m i q x vals out) (vals',((marks x q).filter (fun y=>has m y)).foldl (fun o y=>G (vals.take i ++ [y]) o) out)
 | 0,x,vals,out,_,_,hv,ho,hr=>⟨vals,hv,rfl,hr,by unfold impl_ruleMasks.tryV marks;exact Ev.now _⟩
 | q + 1,x,vals,out,hx,hx5,hv,ho,hr=>by
  have ha:=has_and ⟨hm.1,hm.2.1⟩ (v:=x) (by omega)
  unfold marks
  by_cases hh:has m x=true
  ·have hset:((vals.set i x).take (i + 1))=vals.take i ++ [x]:=take_set_succ (by omega) x
   obtain ⟨v1,a1,a2,a3,a4⟩:=hF (vals.set i x) out (by rw [List.length_set];exact hv) ho (fun y hy=>by
    rcases List.mem_or_eq_of_mem_set hy with hy|rfl
    ·exact hr y hy
    ·omega)
   rw [hset] at a2 a4
   have t1:v1.take i=vals.take i:=by
    have e:=congrArg (List.take i) a2
    rw [List.take_take,Nat.min_eq_left (by omega),List.take_append_of_le_length (by rw [List.length_take];omega),List.take_take,Nat.min_self] at e
    exact e
   obtain ⟨v2,b1,b2,b3,b4⟩:=tryV_ev hm hi F G hG hF q (x + 1) v1 (G (vals.take i ++ [x]) out) (by omega) (by omega) a1 (by rw [hG];exact ho) a3
   refine ⟨v2,b1,by rw [b2,t1],b3,?_⟩
   unfold impl_ruleMasks.tryV
   have hc:Go.bits .and .i64 (shr .i64 m x) 1=1:=by rw [ha,if_pos hh]
   simp only [hc,if_true]
   rw [List.filter_cons_of_pos hh,List.foldl_cons]
   refine Ev.bind a4 ?_
   rw [t1] at b4
   exact b4
  ·obtain ⟨v2,b1,b2,b3,b4⟩:=tryV_ev hm hi F G hG hF q (x + 1) vals out (by omega) (by omega) hv ho hr
   refine ⟨v2,b1,b2,b3,?_⟩
   unfold impl_ruleMasks.tryV
   have hc:¬ Go.bits .and .i64 (shr .i64 m x) 1=1:=by rw [ha,if_neg hh];decide
   simp only [hc,if_false]
   rw [List.filter_cons_of_neg hh]
   exact b4
theorem try_ev {kind v:Int}{cs own:List Int}(hk:KindOK kind own.length)(hown:∀ m∈own,0≤m∧m≤30∧m % 2=0):∀ (d:Nat) (vals out:List Int),d≤own.length→vals.length=own.length→out.length=own.length→(∀ x∈vals,0≤x∧x≤4)→∃ vals',vals'.length=own.length∧vals'.take (own.length - d)=vals.take (own.length - d)∧(∀ x∈vals',0≤x∧x≤4)∧Ev (fun k=>impl_ruleMasks.try_ k kind cs v own d vals out) (vals',waysM kind v own d (vals.take (own.length - d)) out)
 | 0,vals,out,_,hv,ho,hr=>by
  refine ⟨vals,hv,rfl,hr,?_⟩
  unfold impl_ruleMasks.try_ waysM
  refine Ev.bind (valuesHold_ev (hk.vals hv hr)) ?_
  have ht:vals.take (own.length - 0)=vals:=List.take_of_length_le (by omega)
  rw [ht]
  by_cases hh:holdsB kind v vals=true
  ·have hp:∀ x∈vals,0≤x:=fun x hx=>(hr x hx).1
   simp only [hh,if_true]
   rw [if_pos hp,orFrom_eq,hv]
   exact Ev.now _
  ·simp only [hh,if_false]
   exact Ev.now _
 | d + 1,vals,out,hd,hv,ho,hr=>by
  obtain ⟨i,hi⟩:∃ i,own.length - (d + 1)=i:=⟨_,rfl⟩
  have hin:i < own.length:=by omega
  have e1:(own.length:Int) - ((d + 1:Nat):Int)=(i:Int):=by omega
  have hm:=hown (rd own (i:Int)) (rd_mem (by omega) (by omega))
  obtain ⟨v',a1,a2,a3,a4⟩:=tryV_ev hm hin (fun k=>impl_ruleMasks.try_ k kind cs v own d) (fun p o=>waysM kind v own d p o) (fun p o=>waysM_len _ _ _ _ _ _) (fun vs os h1 h2 h3=>by
   obtain ⟨v1,b1,b2,b3,b4⟩:=try_ev hk hown d vs os (by omega) h1 h2 h3
   rw [show own.length - d=i + 1 by omega] at b2 b4
   exact ⟨v1,b1,b2,b3,b4⟩) 4 1 vals out (by decide) (by decide) hv ho hr
  refine ⟨v',a1,by rw [hi];exact a2,a3,?_⟩
  unfold impl_ruleMasks.try_ waysM
  rw [hi,e1,Int.toNat_natCast]
  have hl:(vals.take i).length=i:=by rw [List.length_take];omega
  rw [hl,mvals_marks hm]
  exact a4
theorem implRuleMasks0_ev {kind v:Int}{cs own:List Int}(hk:KindOK kind own.length)(h1:1≤own.length)(hown:∀ m∈own,0≤m∧m≤30∧m % 2=0):Ev (fun k=>impl_ruleMasks.f k kind cs v own) (waysM kind v own own.length [] (List.replicate own.length 0)):=by
 have h4:=hk.1
 obtain ⟨v',_,_,_,a4⟩:=try_ev (cs:=cs) (v:=v) hk hown own.length (List.replicate own.length 0) (List.replicate own.length 0) (Nat.le_refl _) (by simp) (by simp) (fun x hx=>by
  have:=(List.mem_replicate.1 hx).2
  omega)
 unfold impl_ruleMasks.f
 have hc:0 < own.length∧own.length≤100000:=by omega
 simp only [hc,and_self,if_true]
 refine Ev.bind a4 ?_
 rw [Nat.sub_self,List.take_zero]
 exact Ev.now _
theorem allM_30 {s:Int}(h:sizeOkB s=true):allM s≤30∧2≤allM s:=by rcases sizeOkB_iff.1 h with rfl|rfl|rfl <;> decide

end Go.Proofs.Ytmjbnghhfadapaa.Pure
namespace Go.Proofs.Ytmjbnghhfadapaa.Pure
set_option linter.unusedSimpArgs false
set_option linter.unusedVariables false
open Go.RowKit Go.Proofs.YtmjbnghhfadapaaW.PrintWords Go.Proofs.YtmjbnghhfadapaaW.PrintMore

theorem and7_range (s:Int):0≤Go.bits .and .i64 s 7∧Go.bits .and .i64 s 7≤7:=by
 unfold Go.bits
 simp only [IntKind.wrap_i64]
 rw [BitVec.toNat_and]
 have:=@Nat.and_le_right (BitVec.ofInt IntKind.i64.bits s).toNat (BitVec.ofInt IntKind.i64.bits 7).toNat
 have e:(BitVec.ofInt IntKind.i64.bits 7).toNat=7:=by decide
 rw [e] at this ⊢
 omega

end Go.Proofs.Ytmjbnghhfadapaa.Pure
namespace Go.Proofs.Ytmjbnghhfadapaa.Pure
set_option linter.unusedSimpArgs false
set_option linter.unusedVariables false
open Go.RowKit Go.Proofs.YtmjbnghhfadapaaW.PrintWords Go.Proofs.YtmjbnghhfadapaaW.PrintMore Go.Proofs.Ytmjbnghhfadapaa.P


theorem specMasksValid_ev (g:List Int)(s:Int)(h:g.length≤35184372088832):Ev (fun k=>spec_MasksValid.f k g s) (masksB g s):=by
 unfold spec_MasksValid.f
 obtain ⟨B,hB⟩:∃ B,wrap64 ((shl .i64 1 (wrap64 ((Go.bits .and .i64 s 7) + 1))) - 2)=B:=⟨_,rfl⟩
 have hBs:sizeOkB s=true→B=allM s:=by
  intro hs;rw [← hB];rcases sizeOkB_iff.1 hs with rfl|rfl|rfl <;> decide +kernel
 have h7:(0:Int)≤wrap64 ((Go.bits .and .i64 s 7) + 1):=by
  have:=and7_range s
  rw [w64 (by omega) (by omega)];omega
 have:=Ev.range0 (L:=fun k i=>spec_MasksValid.l0 k g s i) (R:=fun n=>(g.drop n).all (fun v=>decide (0≤v∧v≤B∧v % 2=0)) && (sizeOkB s && decide ((g.length:Int)=s * s))) (N:=g.length) ?_ ?_ 0 (Nat.zero_le _)
 ·have e:masksB g s=((g.drop 0).all (fun v=>decide (0≤v∧v≤B∧v % 2=0)) && (sizeOkB s && decide ((g.length:Int)=s * s))):=by
   unfold masksB;rw [List.drop_zero]
   cases hs:sizeOkB s
   ·simp
   ·rw [hBs hs];cases decide ((g.length:Int)=s * s) <;> simp
  rw [e];simpa using this
 ·refine Ev.step (fun k=>spec_MasksValid.l0.eq_2 _ _ _ k) ?_
  simp only [Int.lt_irrefl,if_false,l1In_eq,Option.bind_some,List.drop_length,List.all_nil,Bool.true_and]
  by_cases hs:sizeOkB s=true
  ·have hs':decide (2≤s∧s≤4)=true:=hs
   have hw:wrap64 (s * s)=s * s:=by rcases sizeOkB_iff.1 hs with rfl|rfl|rfl <;> decide +kernel
   simp only [hs',if_true,hs,hw,Bool.true_and]
   have e:((g.length:Int) == s * s)=decide ((g.length:Int)=s * s):=by
    by_cases h:(g.length:Int)=s * s <;> simp [h]
   rw [e];exact Ev.now _
  ·have hs':¬ decide (2≤s∧s≤4)=true:=hs
   simp only [hs',if_false,Bool.false_and,eq_false_of_ne_true hs,Bool.false_eq_true]
   exact Ev.now _
 ·intro n hn ih
  refine Ev.step (fun k=>spec_MasksValid.l0.eq_2 _ _ _ k) ?_
  have h1:(n:Int) < (g.length:Int):=by omega
  have h3:(0:Int)≤n:=by omega
  rw [drop_cons hn]
  simp only [h1,h3,h7,if_true,rd_lt hn,l1In_eq,Option.bind_some,List.all_cons,hB]
  by_cases hv:0≤g[n]∧g[n]≤B
  ·have ht:Int.tmod g[n] 2=g[n] % 2:=Int.tmod_eq_emod_of_nonneg hv.1
   by_cases h2:g[n] % 2=0
   ·have e:decide (0≤g[n]∧g[n]≤B∧g[n] % 2=0)=true:=decide_eq_true ⟨hv.1,hv.2,h2⟩
    rw [e]
    simp only [decide_eq_true hv,ht,h2,if_true,w64n (by omega:n < 9000000000000000000),Bool.true_and]
    exact ih
   ·have e:decide (0≤g[n]∧g[n]≤B∧g[n] % 2=0)=false:=decide_eq_false (fun h=>h2 h.2.2)
    rw [e]
    simp only [decide_eq_true hv,ht,h2,if_true,if_false,Bool.false_and]
    exact Ev.now _
  ·have e:decide (0≤g[n]∧g[n]≤B∧g[n] % 2=0)=false:=decide_eq_false (fun h=>hv ⟨h.1,h.2.1⟩)
   simp only [decide_eq_false hv,e,if_false,Bool.false_and,Bool.false_eq_true]
   exact Ev.now _

end Go.Proofs.Ytmjbnghhfadapaa.Pure
namespace Go.Proofs.Ytmjbnghhfadapaa.Pure
set_option linter.unusedSimpArgs false
set_option linter.unusedVariables false
open Go.RowKit Go.Proofs.YtmjbnghhfadapaaW.PrintWords Go.Proofs.YtmjbnghhfadapaaW.PrintMore Go.Proofs.Ytmjbnghhfadapaa.P


theorem l4Ways_ev {kind v:Int}{cs masks:List Int}(hk:KindOK kind cs.length)(hc:∀ c∈cs,0≤c∧c < (masks.length:Int)):∀ (d:Nat) (pre out:List Int),pre.length + d=cs.length→out.length=cs.length→(∀ x∈pre,0≤x∧x≤4)→Ev (fun k=>spec_l4Ways.f k kind cs v masks pre out) (waysM kind v (cs.map (fun c=>rd masks c)) d pre out)
 | 0,pre,out,hp,ho,hx=>by
  refine Ev.step (fun k=>spec_l4Ways.f.eq_2 _ _ _ _ _ _ k) ?_
  have e:(pre.length:Int)=(cs.length:Int):=by omega
  simp only [e,if_true]
  refine Ev.bind (l4Holds_ev (hk.vals (by omega) hx)) ?_
  unfold waysM
  by_cases hh:holdsB kind v pre=true
  ·simp only [hh,if_true]
   have hn4:=hk.1
   refine Ev.range (L:=fun k (x:List Int) j=>spec_l4Ways.l0 k pre x (cs.length:Int) j) (R:=fun _ _=>orP pre pre.length 0 out) (N:=cs.length) (fun x j=>x.length=cs.length∧orP pre pre.length 0 out=orP pre (cs.length - j) (j:Int) x) ?_ ?_ out 0 (Nat.zero_le _) ⟨ho,by rw [show cs.length - 0=pre.length by omega];rfl⟩
   ·rintro x ⟨hl,he⟩
    refine Ev.step (fun k=>spec_l4Ways.l0.eq_2 _ _ _ _ k) ?_
    simp only [Int.lt_irrefl,if_false]
    rw [he,Nat.sub_self,orP]
    exact Ev.now _
   ·rintro x j hj ⟨hl,he⟩ ih
    refine Ev.step (fun k=>spec_l4Ways.l0.eq_2 _ _ _ _ k) ?_
    have h1:(j:Int) < (cs.length:Int):=by omega
    have h0:(0:Int)≤(j:Int):=by omega
    have h2:(j:Int) < (x.length:Int):=by omega
    have h3:(j:Int) < (pre.length:Int):=by omega
    have h4:0≤rd pre (j:Int):=(hx _ (rd_mem h0 h3)).1
    simp only [h0,h1,h2,h3,h4,if_true,w64n (by omega:j < 9000000000000000000),Int.toNat_natCast]
    refine ih _ ⟨by rw [List.length_set];exact hl,?_⟩
    rw [he,show cs.length - j=(cs.length - (j + 1)) + 1 by omega,orP,Int.toNat_natCast]
    congr 1
  ·simp only [hh,if_false]
   exact Ev.now _
 | d + 1,pre,out,hp,ho,hx=>by
  refine Ev.step (fun k=>spec_l4Ways.f.eq_2 _ _ _ _ _ _ k) ?_
  have e:¬ (pre.length:Int)=(cs.length:Int):=by omega
  have h0:(0:Int)≤(pre.length:Int):=by omega
  have h1:(pre.length:Int) < (cs.length:Int):=by omega
  obtain ⟨c0,c1⟩:=hc _ (rd_mem h0 h1)
  simp only [e,h0,h1,c0,c1,if_true,if_false]
  refine Ev.bind (specMaskValues_ev _) ?_
  have hn4:=hk.1
  unfold waysM
  have em:rd (cs.map (fun c=>rd masks c)) (pre.length:Nat)=rd masks (rd cs (pre.length:Nat)):=by
   rw [rd_lt (by rw [List.length_map];omega),rd_lt (by omega:pre.length < cs.length),List.getElem_map]
  rw [em]
  generalize hL:mvals (rd masks (rd cs (pre.length:Nat)))=L
  have hL4:L.length≤4:=by rw [← hL];exact mvals_len4 _
  have hLr:∀ x∈L,1≤x∧x≤4:=by intro x hx;rw [← hL] at hx;exact mvals_range hx
  have:=Ev.range (L:=fun k (x:List Int) j=>spec_l4Ways.l1 k masks pre x L j kind cs v) (R:=fun x j=>(L.drop j).foldl (fun o x=>waysM kind v (cs.map (fun c=>rd masks c)) d (pre ++ [x]) o) x) (N:=L.length) (fun x j=>x.length=cs.length) ?_ ?_ out 0 (Nat.zero_le _) ho
  ·simpa using this
  ·intro x hl
   refine Ev.step (fun k=>spec_l4Ways.l1.eq_2 _ _ _ _ _ _ _ _ k) ?_
   simp only [Int.lt_irrefl,if_false,List.drop_length,List.foldl_nil]
   exact Ev.now _
  ·intro x j hj hl ih
   refine Ev.step (fun k=>spec_l4Ways.l1.eq_2 _ _ _ _ _ _ _ _ k) ?_
   have g1:(j:Int) < (L.length:Int):=by omega
   have g0:(0:Int)≤(j:Int):=by omega
   have g2:([]:List Int).length + pre.length < 17592186044416:=by simp;omega
   have g3:pre.length + ([rd L (j:Int)]:List Int).length < 17592186044416:=by simp;omega
   simp only [g1,g0,g2,if_true,Option.bind_some,List.nil_append,g3]
   have hr:rd L (j:Int)=L[j]:=rd_lt hj
   have hm:=hLr _ (List.getElem_mem hj)
   refine Ev.bind (l4Ways_ev hk hc d (pre ++ [rd L (j:Int)]) x (by simp;omega) hl (fun y hy=>?_)) ?_
   ·rcases List.mem_append.1 hy with hy|hy
    ·exact hx y hy
    ·simp only [List.mem_singleton] at hy
     rw [hy,hr];omega
   ·rw [foldl_drop _ _ _ hj,w64n (by omega:j < 9000000000000000000)]
    have:=ih (waysM kind v (cs.map (fun c=>rd masks c)) d (pre ++ [rd L (j:Int)]) x) (by rw [waysM_len];exact hl)
    rw [hr] at this ⊢
    exact this
theorem rule_cells {kind:Int}{cs:List Int}{v s:Int}{g:List Int}(h:ruleB kind cs v s=true)(hl:(g.length:Int)=s * s):∀ c∈cs,0≤c∧c < (g.length:Int):=by
 rw [hl];exact cell_mem (ruleB_parts h).2.1
theorem specRuleMasks_ev (kind:Int)(cs:List Int)(v:Int)(masks:List Int)(s:Int)(hl:cs.length≤35184372088832)(hml:masks.length≤35184372088832):Ev (fun k=>spec_RuleMasks.f k kind cs v masks s) (ruleMasks kind cs v masks s):=by
 unfold spec_RuleMasks.f ruleMasks
 refine Ev.bind (specRuleValid_ev kind cs v s hl) ?_
 by_cases hr:ruleB kind cs v s=true
 ·simp only [hr,if_true,true_and]
  refine Ev.bind (specMasksValid_ev masks s hml) ?_
  by_cases hm:masksB masks s=true
  ·have h4:=ruleB_len hr
   have h0:(0:Int)≤(cs.length:Int):=by omega
   have h1:cs.length≤35184372088832:=hl
   simp only [hm,if_true,h0,Int.toNat_natCast,h1]
   refine Ev.bind (l4Ways_ev (kindOK_rule hr) (rule_cells hr (masksB_len hm)) cs.length [] (List.replicate cs.length 0) (by simp) (by simp) (by simp)) ?_
   exact Ev.now _
  ·simp only [hm,if_false]
   exact Ev.now _
 ·simp only [hr,if_false,false_and]
  exact Ev.now _

end Go.Proofs.Ytmjbnghhfadapaa.Pure
namespace Go.Proofs.Ytmjbnghhfadapaa.Pure
set_option linter.unusedSimpArgs false
set_option linter.unusedVariables false
open Go.RowKit Go.Proofs.YtmjbnghhfadapaaW.PrintWords Go.Proofs.YtmjbnghhfadapaaW.PrintMore Go.Proofs.Ytmjbnghhfadapaa.P


def gridMasks (g:List Int)(s:Int):List Int:=g.map (fun x=>if x=0 then allM s else shl .i64 1 x)
def rulePossible (kind:Int)(cs:List Int)(v:Int)(g:List Int)(s:Int):Bool:=ruleB kind cs v s && (gridB g s && (rd (ruleMasks kind cs v (gridMasks g s) s) 0 != 0))
theorem gridMask_ok {s x:Int}(hs:sizeOkB s=true)(h:0≤x∧x≤s):0≤(if x=0 then allM s else shl .i64 1 x)∧(if x=0 then allM s else shl .i64 1 x)≤allM s∧(if x=0 then allM s else shl .i64 1 x) % 2=0:=by
 rcases sizeOkB_iff.1 hs with rfl|rfl|rfl
 ·have:x=0∨x=1∨x=2:=by omega
  rcases this with rfl|rfl|rfl <;> decide +kernel
 ·have:x=0∨x=1∨x=2∨x=3:=by omega
  rcases this with rfl|rfl|rfl|rfl <;> decide +kernel
 ·have:x=0∨x=1∨x=2∨x=3∨x=4:=by omega
  rcases this with rfl|rfl|rfl|rfl|rfl <;> decide +kernel
theorem gridMasks_ok {g:List Int}{s:Int}(h:gridB g s=true):masksB (gridMasks g s) s=true:=by
 refine masksB_mk (gridB_size h) (by unfold gridMasks;rw [List.length_map];exact gridB_len h) (fun v hv=>?_)
 unfold gridMasks at hv
 obtain ⟨x,hx,rfl⟩:=List.mem_map.1 hv
 exact gridMask_ok (gridB_size h) (gridB_mem h x hx)
theorem rd_gridMasks {g:List Int}{s:Int}{c:Int}(h0:0≤c)(h1:c < (g.length:Int)):rd (gridMasks g s) c=if rd g c=0 then allM s else shl .i64 1 (rd g c):=by
 obtain ⟨n,rfl⟩:=Int.eq_ofNat_of_zero_le h0
 unfold gridMasks
 rw [rd_lt (by rw [List.length_map];omega),rd_lt (by omega:n < g.length),List.getElem_map]
theorem shlAll {s:Int}(h:sizeOkB s=true):0≤wrap64 (s + 1)∧wrap64 ((shl .i64 1 (wrap64 (s + 1))) - 2)=allM s:=by
 rcases sizeOkB_iff.1 h with rfl|rfl|rfl <;> decide +kernel
theorem specRulePossible_ev (kind:Int)(cs:List Int)(v:Int)(g:List Int)(s:Int)(hl:cs.length≤35184372088832)(hgl:g.length≤35184372088832):Ev (fun k=>spec_RulePossible.f k kind cs v g s) (rulePossible kind cs v g s):=by
 unfold spec_RulePossible.f rulePossible
 have hj:Ev (fun k=>spec_RulePossible.j0 k g s true kind cs v) false:=by
  refine Ev.step (fun k=>spec_RulePossible.j0.eq_2 _ _ _ _ _ _ k) ?_
  simp only [if_true];exact Ev.now _
 refine Ev.bind (specRuleValid_ev kind cs v s hl) ?_
 by_cases hr:ruleB kind cs v s=true
 ·simp only [hr,if_true,Bool.true_and]
  refine Ev.bind (specGridValid_ev g s hgl) ?_
  by_cases hg:gridB g s=true
  ·simp only [hg,Bool.not_true,Bool.true_and]
   refine Ev.step (fun k=>spec_RulePossible.j0.eq_2 _ _ _ _ _ _ k) ?_
   simp only [Bool.false_eq_true,if_false]
   have hle:=gridB_le hg
   have hml:(gridMasks g s).length=g.length:=by unfold gridMasks;exact List.length_map _
   refine Ev.range (L:=fun k (x:List Int) j=>spec_RulePossible.l0 k g s x j kind cs v) (R:=fun _ _=>rd (ruleMasks kind cs v (gridMasks g s) s) 0 != 0) (N:=g.length) (fun x j=>x=(gridMasks g s).take j) ?_ ?_ [] 0 (Nat.zero_le _) rfl
   ·rintro x rfl
    refine Ev.step (fun k=>spec_RulePossible.l0.eq_2 _ _ _ _ _ _ _ k) ?_
    rw [← hml,List.take_length]
    simp only [hml,Int.lt_irrefl,if_false]
    refine Ev.bind (specRuleMasks_ev kind cs v _ s hl (by omega)) ?_
    have h1:=ruleMasks_lenEq (masks:=gridMasks g s) ⟨hr,gridMasks_ok hg⟩
    have h2:=ruleB_len hr
    have h3:(0:Int) < ((ruleMasks kind cs v (gridMasks g s) s).length:Int):=by omega
    simp only [h3,if_true]
    exact Ev.now _
   ·rintro x j hj rfl ih
    refine Ev.step (fun k=>spec_RulePossible.l0.eq_2 _ _ _ _ _ _ _ k) ?_
    have g1:(j:Int) < (g.length:Int):=by omega
    have g0:(0:Int)≤(j:Int):=by omega
    have hm:=gridB_mem hg _ (rd_mem g0 g1)
    have hxl:((gridMasks g s).take j).length < 17592186044416:=by rw [List.length_take];omega
    have ht:(gridMasks g s).take (j + 1)=(gridMasks g s).take j ++ [rd (gridMasks g s) (j:Int)]:=by
     rw [List.take_succ_eq_append_getElem (by omega),rd_lt (by omega)]
    obtain ⟨w0,w1⟩:=shlAll (gridB_size hg)
    have h0m:=hm.1
    simp only [g0,g1,h0m,if_true,hxl,w0,w1,w64n (by omega:j < 9000000000000000000)]
    by_cases hz:rd g (j:Int)=0
    ·simp only [hz,if_true]
     refine ih _ ?_
     rw [ht,rd_gridMasks g0 g1,if_pos hz]
    ·simp only [hz,if_false]
     refine ih _ ?_
     rw [ht,rd_gridMasks g0 g1,if_neg hz]
  ·simp only [hg,eq_false_of_ne_true hg,Bool.not_false,Bool.false_and]
   exact hj
 ·simp only [hr,if_false,eq_false_of_ne_true hr,Bool.false_and]
  exact hj
theorem canHold_ev {kind:Int}{cs:List Int}{v:Int}{g:List Int}{s:Int}(hr:ruleB kind cs v s=true)(hg:gridB g s=true):Ev (fun k=>impl_canHold.f k kind cs v g s) (rulePossible kind cs v g s):=by
 unfold impl_canHold.f rulePossible
 rw [hr,hg,Bool.true_and,Bool.true_and]
 have h4:=ruleB_len hr
 have hml:(gridMasks g s).length=g.length:=by unfold gridMasks;exact List.length_map _
 have hmo:=gridMasks_ok hg
 have hcells:=rule_cells hr (gridB_len hg)
 have h30:=allM_30 (gridB_size hg)
 refine Ev.range (L:=fun k (x:List Int) j=>impl_canHold.l0 k g s x cs (cs.length:Int) j kind cs v) (R:=fun _ _=>rd (ruleMasks kind cs v (gridMasks g s) s) 0 != 0) (N:=cs.length) (fun x j=>x=(cs.take j).map (fun c=>rd (gridMasks g s) c)) ?_ ?_ [] 0 (Nat.zero_le _) rfl
 ·rintro x rfl
  refine Ev.step (fun k=>impl_canHold.l0.eq_2 _ _ _ _ _ _ _ _ _ k) ?_
  simp only [Int.lt_irrefl,if_false,List.take_length]
  have hlen:(cs.map (fun c=>rd (gridMasks g s) c)).length=cs.length:=List.length_map _
  have:=implRuleMasks0_ev (kind:=kind) (v:=v) (cs:=cs) (own:=cs.map (fun c=>rd (gridMasks g s) c)) (by rw [hlen];exact kindOK_rule hr) (by rw [hlen];exact h4.1) (fun m hmm=>by
   obtain ⟨c,hc,rfl⟩:=List.mem_map.1 hmm
   obtain ⟨c0,c1⟩:=hcells c hc
   have:=masksB_mem hmo _ (rd_mem c0 (by omega:c < ((gridMasks g s).length:Int)))
   omega)
  rw [hlen] at this
  refine Ev.bind this ?_
  have e:waysM kind v (cs.map (fun c=>rd (gridMasks g s) c)) cs.length [] (List.replicate cs.length 0)=ruleMasks kind cs v (gridMasks g s) s:=by
   unfold ruleMasks;rw [if_pos ⟨hr,hmo⟩]
  rw [e]
  have h1:=ruleMasks_lenEq (masks:=gridMasks g s) ⟨hr,hmo⟩
  have h3:(0:Int) < ((ruleMasks kind cs v (gridMasks g s) s).length:Int):=by omega
  simp only [h3,if_true]
  exact Ev.now _
 ·rintro x j hj rfl ih
  refine Ev.step (fun k=>impl_canHold.l0.eq_2 _ _ _ _ _ _ _ _ _ k) ?_
  have g1:(j:Int) < (cs.length:Int):=by omega
  have g0:(0:Int)≤(j:Int):=by omega
  obtain ⟨c0,c1⟩:=hcells _ (rd_mem g0 g1)
  have hm:=gridB_mem hg _ (rd_mem c0 c1)
  have g2:((cs.take j).map (fun c=>rd (gridMasks g s) c)).length < 17592186044416:=by rw [List.length_map,List.length_take];omega
  have ht:(cs.take (j + 1)).map (fun c=>rd (gridMasks g s) c)=(cs.take j).map (fun c=>rd (gridMasks g s) c) ++ [rd (gridMasks g s) (rd cs (j:Int))]:=by
   rw [List.take_succ_eq_append_getElem hj,List.map_append,List.map_singleton,rd_lt hj]
  have h0m:=hm.1
  simp only [g0,g1,c0,c1,h0m,g2,if_true,w64n (by omega:j < 9000000000000000000),allValues_eq (gridB_size hg),Option.bind_some]
  by_cases hz:rd g (rd cs (j:Int)) > 0
  ·simp only [hz,if_true]
   refine ih _ ?_
   rw [ht,rd_gridMasks c0 c1,if_neg (by omega)]
  ·simp only [hz,if_false]
   refine ih _ ?_
   rw [ht,rd_gridMasks c0 c1,if_pos (by omega)]

end Go.Proofs.Ytmjbnghhfadapaa.Pure
namespace Go.Proofs.Ytmjbnghhfadapaa.Pure
set_option linter.unusedSimpArgs false
set_option linter.unusedVariables false
open Go.RowKit Go.Proofs.YtmjbnghhfadapaaW.PrintWords Go.Proofs.YtmjbnghhfadapaaW.PrintMore Go.Proofs.Ytmjbnghhfadapaa.P


def rulesB (rs:List S73)(s:Int):Bool:=rs.all (fun x=>ruleB x.f0 x.f1 x.f2 s)
def puzzleB (s:Int)(g:List Int)(rs:List S73):Bool:=gridB g s && (decide ((rs.length:Int)≤20) && rulesB rs s)
theorem rulesB_false {rs:List S73}{s:Int}{i:Nat}(hi:i < rs.length)(h:ruleB rs[i].f0 rs[i].f1 rs[i].f2 s=false):rulesB rs s=false:=by
 unfold rulesB
 rw [List.all_eq_false]
 exact ⟨rs[i],List.getElem_mem hi,by simp [h]⟩
theorem take_all {rs:List S73}{s:Int}{i:Nat}(hi:i < rs.length)(h:rulesB (rs.take i) s=true)(hx:ruleB rs[i].f0 rs[i].f1 rs[i].f2 s=true):rulesB (rs.take (i + 1)) s=true:=by
 unfold rulesB at *
 rw [List.take_succ_eq_append_getElem hi,List.all_append,h]
 simp [hx]
theorem specPuzzleValid_ev (s:Int)(g:List Int)(rs:List S73)(hg:g.length≤1048576)(hl:rs.length≤1048576)(hr:∀ x∈rs,x.f1.length≤1048576):Ev (fun k=>spec_PuzzleValid.f k s g rs) (puzzleB s g rs):=by
 unfold spec_PuzzleValid.f
 have:=Ev.range (σ:=Unit) (L:=fun k _ i=>spec_PuzzleValid.l0 k i s g rs) (R:=fun _ _=>puzzleB s g rs) (N:=rs.length) (fun _ i=>rulesB (rs.take i) s=true) ?_ ?_ () 0 (Nat.zero_le _) rfl
 ·simpa using this
 ·intro _ hall
  refine Ev.step (fun k=>spec_PuzzleValid.l0.eq_2 _ _ _ _ k) ?_
  rw [List.take_length] at hall
  simp only [Int.lt_irrefl,if_false]
  refine Ev.bind (specGridValid_ev g s (by omega)) ?_
  unfold puzzleB
  by_cases hgb:gridB g s=true
  ·simp only [hgb,hall,if_true,Bool.true_and,Bool.and_true]
   exact Ev.now _
  ·simp only [hgb,if_false,Bool.false_eq_true,Bool.false_and]
   exact Ev.now _
 ·intro _ i hi hall ih
  refine Ev.step (fun k=>spec_PuzzleValid.l0.eq_2 _ _ _ _ k) ?_
  have h2:(i:Int) < (rs.length:Int):=by omega
  have h3:(0:Int)≤(i:Int):=Int.natCast_nonneg i
  simp only [h2,h3,if_true,rdI rs hi]
  have hlen:=hr rs[i] (List.getElem_mem hi)
  refine Ev.bind (specRuleValid_ev _ _ _ s (by omega)) ?_
  by_cases hx:ruleB rs[i].f0 rs[i].f1 rs[i].f2 s=true
  ·simp only [hx,if_true,w64n (by omega:i < 9000000000000000000)]
   exact ih () (take_all hi hall hx)
  ·simp only [hx,if_false,Bool.false_eq_true]
   have:puzzleB s g rs=false:=by unfold puzzleB;rw [rulesB_false hi (eq_false_of_ne_true hx)];simp
   rw [this];exact Ev.now _
theorem implPuzzleValid_ev (s:Int)(g:List Int)(rs:List S73)(hg:g.length≤1048576)(hl:rs.length≤1048576)(hr:∀ x∈rs,x.f1.length≤1048576):Ev (fun k=>impl_PuzzleValid.f k s g rs) (puzzleB s g rs):=by
 unfold impl_PuzzleValid.f puzzleB
 refine Ev.bind (implGridValid_ev g s (by omega)) ?_
 have hno:Ev (fun k=>impl_PuzzleValid.j0 k true s g rs) false:=by
  refine Ev.step (fun k=>impl_PuzzleValid.j0.eq_2 _ _ _ _ k) ?_
  simp only [if_true];exact Ev.now _
 by_cases hgb:gridB g s=true
 ·simp only [hgb,if_true,Bool.true_and]
  by_cases h20:(rs.length:Int) > 20
  ·have h20':¬ (rs.length:Int)≤20:=by omega
   simp only [h20,h20',decide_true,decide_false,Bool.false_and]
   exact hno
  ·have h20':(rs.length:Int)≤20:=by omega
   simp only [h20,h20',decide_true,decide_false,Bool.true_and]
   refine Ev.step (fun k=>impl_PuzzleValid.j0.eq_2 _ _ _ _ k) ?_
   simp only [Bool.false_eq_true,if_false]
   have:=Ev.range (σ:=Unit) (L:=fun k _ i=>impl_PuzzleValid.l0 k rs (rs.length:Int) i s g rs) (R:=fun _ _=>rulesB rs s) (N:=rs.length) (fun _ i=>rulesB (rs.take i) s=true) ?_ ?_ () 0 (Nat.zero_le _) rfl
   ·simpa using this
   ·intro _ hall
    refine Ev.step (fun k=>impl_PuzzleValid.l0.eq_2 _ _ _ _ _ _ k) ?_
    rw [List.take_length] at hall
    simp only [Int.lt_irrefl,if_false,hall]
    exact Ev.now _
   ·intro _ i hi hall ih
    refine Ev.step (fun k=>impl_PuzzleValid.l0.eq_2 _ _ _ _ _ _ k) ?_
    have h2:(i:Int) < (rs.length:Int):=by omega
    have h3:(0:Int)≤(i:Int):=Int.natCast_nonneg i
    simp only [h2,h3,if_true,rdI rs hi]
    have hlen:=hr rs[i] (List.getElem_mem hi)
    refine Ev.bind (implRuleValid_ev _ _ _ s (by omega)) ?_
    by_cases hx:ruleB rs[i].f0 rs[i].f1 rs[i].f2 s=true
    ·simp only [hx,if_true,w64n (by omega:i < 9000000000000000000)]
     exact ih () (take_all hi hall hx)
    ·simp only [hx,if_false,Bool.false_eq_true]
     rw [rulesB_false hi (eq_false_of_ne_true hx)];exact Ev.now _
 ·simp only [hgb,if_false,Bool.false_eq_true,Bool.false_and]
  exact hno

end Go.Proofs.Ytmjbnghhfadapaa.Pure
namespace Go.Proofs.Ytmjbnghhfadapaa.Pure
set_option linter.unusedSimpArgs false
set_option linter.unusedVariables false
open Go.RowKit Go.Proofs.YtmjbnghhfadapaaW.PrintWords Go.Proofs.YtmjbnghhfadapaaW.PrintMore Go.Proofs.Ytmjbnghhfadapaa.P


theorem squareFits_grid {g:List Int}{s:Int}(h:squareFits g s=true):gridB g s=true:=by
 unfold squareFits at h;rw [Bool.and_eq_true] at h;exact h.1

end Go.Proofs.Ytmjbnghhfadapaa.Pure
namespace Go.Proofs.Ytmjbnghhfadapaa.Pure
set_option linter.unusedSimpArgs false
set_option linter.unusedVariables false
open Go.RowKit Go.Proofs.YtmjbnghhfadapaaW.PrintWords Go.Proofs.YtmjbnghhfadapaaW.PrintMore Go.Proofs.Ytmjbnghhfadapaa.P


def agreeP (q g:List Int):Nat→Bool
 | 0=>true
 | n + 1=>agreeP q g n && decide (0 < rd q (n:Nat)∧0 < rd g (n:Nat)→rd g (n:Nat)=rd q (n:Nat))
theorem agreeP_false {q g:List Int}{n:Nat}(h:agreeP q g n=false):∀ d,agreeP q g (n + d)=false
 | 0=>h
 | d + 1=>by rw [show n + (d + 1)=(n + d) + 1 from rfl,agreeP,agreeP_false h d];rfl
theorem agreeP_le {q g:List Int}{n m:Nat}(h:agreeP q g n=false)(hm:n≤m):agreeP q g m=false:=by
 have:=agreeP_false h (m - n)
 rwa [show n + (m - n)=m by omega] at this
theorem agreeP_yes {q g:List Int}{n:Nat}(h:agreeP q g n=true)(h1:0 < rd q (n:Nat)→0 < rd g (n:Nat)→rd g (n:Nat)=rd q (n:Nat)):agreeP q g (n + 1)=true:=by
 rw [agreeP,h,Bool.true_and,decide_eq_true_iff];exact fun hh=>h1 hh.1 hh.2
theorem agreeP_no {q g:List Int}{n:Nat}(h1:0 < rd q (n:Nat))(h2:0 < rd g (n:Nat))(h3:¬ rd g (n:Nat)=rd q (n:Nat)):agreeP q g (n + 1)=false:=by
 rw [agreeP,Bool.and_eq_false_iff];right
 rw [decide_eq_false_iff_not];exact fun h=>h3 (h ⟨h1,h2⟩)
def possB (rs:List S73)(g:List Int)(s:Int):Bool:=rs.all (fun x=>rulePossible x.f0 x.f1 x.f2 g s)
theorem possB_false {rs:List S73}{g:List Int}{s:Int}{i:Nat}(hi:i < rs.length)(h:rulePossible rs[i].f0 rs[i].f1 rs[i].f2 g s=false):possB rs g s=false:=by
 unfold possB
 rw [List.all_eq_false]
 exact ⟨rs[i],List.getElem_mem hi,by simp [h]⟩
theorem take_possB {rs:List S73}{g:List Int}{s:Int}{i:Nat}(hi:i < rs.length)(h:possB (rs.take i) g s=true)(hx:rulePossible rs[i].f0 rs[i].f1 rs[i].f2 g s=true):possB (rs.take (i + 1)) g s=true:=by
 unfold possB at *
 rw [List.take_succ_eq_append_getElem hi,List.all_append,h]
 simp [hx]
theorem rules_get {rs:List S73}{s:Int}(h:rulesB rs s=true){i:Nat}(hi:i < rs.length):ruleB rs[i].f0 rs[i].f1 rs[i].f2 s=true:=by
 unfold rulesB at h
 rw [List.all_eq_true] at h
 exact h _ (List.getElem_mem hi)
def puzzleFits (s:Int)(q:List Int)(rs:List S73)(g:List Int):Bool:=puzzleB s q rs && (squareFits g s && (agreeP q g g.length && possB rs g s))
theorem puzzleB_parts {s:Int}{q:List Int}{rs:List S73}(h:puzzleB s q rs=true):gridB q s=true∧rs.length≤20∧rulesB rs s=true:=by
 unfold puzzleB at h
 simp only [Bool.and_eq_true,decide_eq_true_eq] at h
 exact ⟨h.1,by omega,h.2.2⟩
theorem l5Fits_ev {s:Int}{q:List Int}{rs:List S73}{g:List Int}(hp:puzzleB s q rs=true)(hg:gridB g s=true)(hr:∀ x∈rs,x.f1.length≤1048576):Ev (fun k=>spec_l5Fits.f k s q rs g) (agreeP q g g.length && (possB rs g s && !linesClash g s 0 (2 * s.toNat))):=by
 obtain ⟨hq,h20,hrs⟩:=puzzleB_parts hp
 have hgl:=gridB_le hg
 have hql:q.length=g.length:=by rw [grid_len hq,grid_len hg]
 unfold spec_l5Fits.f
 refine Ev.range (σ:=Unit) (L:=fun k _ j=>spec_l5Fits.l0 k g j s q rs) (R:=fun _ _=>agreeP q g g.length && (possB rs g s && !linesClash g s 0 (2 * s.toNat))) (N:=g.length) (fun _ j=>agreeP q g j=true) ?_ ?_ () 0 (Nat.zero_le _) rfl
 ·intro _ ha
  refine Ev.step (fun k=>spec_l5Fits.l0.eq_2 _ _ _ _ _ k) ?_
  simp only [Int.lt_irrefl,if_false,ha,Bool.true_and]
  refine Ev.range (σ:=Unit) (L:=fun k _ j=>spec_l5Fits.l1 k g j s q rs) (R:=fun _ _=>possB rs g s && !linesClash g s 0 (2 * s.toNat)) (N:=rs.length) (fun _ i=>possB (rs.take i) g s=true) ?_ ?_ () 0 (Nat.zero_le _) rfl
  ·intro _ hall
   refine Ev.step (fun k=>spec_l5Fits.l1.eq_2 _ _ _ _ _ k) ?_
   rw [List.take_length] at hall
   simp only [Int.lt_irrefl,if_false,hall,Bool.true_and]
   refine Ev.bind (l2Clash_ev hg) ?_
   exact Ev.now _
  ·intro _ i hi hall ih
   refine Ev.step (fun k=>spec_l5Fits.l1.eq_2 _ _ _ _ _ k) ?_
   have h2:(i:Int) < (rs.length:Int):=by omega
   have h3:(0:Int)≤(i:Int):=Int.natCast_nonneg i
   simp only [h2,h3,if_true,rdI rs hi]
   have hlen:=hr rs[i] (List.getElem_mem hi)
   refine Ev.bind (specRulePossible_ev _ _ _ g s (by omega) (by omega)) ?_
   by_cases hx:rulePossible rs[i].f0 rs[i].f1 rs[i].f2 g s=true
   ·simp only [hx,if_true,w64n (by omega:i < 9000000000000000000)]
    exact ih () (take_possB hi hall hx)
   ·simp only [hx,if_false,Bool.false_eq_true]
    rw [possB_false hi (eq_false_of_ne_true hx)];exact Ev.now _
 ·intro _ j hj ha ih
  refine Ev.step (fun k=>spec_l5Fits.l0.eq_2 _ _ _ _ _ k) ?_
  have h1:(j:Int) < (g.length:Int):=by omega
  have h0:(0:Int)≤(j:Int):=Int.natCast_nonneg j
  have h2:(j:Int) < (q.length:Int):=by omega
  simp only [h0,h1,h2,if_true,w64n (by omega:j < 9000000000000000000)]
  by_cases c1:rd q (j:Int) > 0
  ·by_cases c2:rd g (j:Int) > 0
   ·by_cases c3:rd g (j:Int)=rd q (j:Int)
    ·have c2':rd q (j:Int) > 0:=c1
     simp only [c3,c2',if_true]
     exact ih () (agreeP_yes ha (fun _ _=>c3))
    ·simp only [c1,c2,c3,if_true,if_false]
     rw [agreeP_le (agreeP_no c1 c2 c3) hj,Bool.false_and]
     exact Ev.now _
   ·simp only [c1,c2,if_true,if_false]
    exact ih () (agreeP_yes ha (fun _ hh=>absurd hh c2))
  ·simp only [c1,if_false]
   exact ih () (agreeP_yes ha (fun hh=>absurd hh c1))
theorem specPuzzleFits_ev (s:Int)(q:List Int)(rs:List S73)(g:List Int)(hq:q.length≤1048576)(hl:rs.length≤1048576)(hr:∀ x∈rs,x.f1.length≤1048576)(hgl:g.length≤1048576):Ev (fun k=>spec_PuzzleFits.f k s q rs g) (puzzleFits s q rs g):=by
 unfold spec_PuzzleFits.f puzzleFits
 refine Ev.bind (specPuzzleValid_ev s q rs hq hl hr) ?_
 by_cases hp:puzzleB s q rs=true
 ·simp only [hp,if_true,Bool.true_and]
  refine Ev.bind (specGridValid_ev g s (by omega)) ?_
  by_cases hg:gridB g s=true
  ·simp only [hg,if_true]
   refine Ev.bind (l5Fits_ev hp hg hr) ?_
   have e:(agreeP q g g.length && (possB rs g s && !linesClash g s 0 (2 * s.toNat)))=(squareFits g s && (agreeP q g g.length && possB rs g s)):=by
    unfold squareFits
    rw [hg,Bool.true_and]
    cases agreeP q g g.length <;> cases possB rs g s <;> cases linesClash g s 0 (2 * s.toNat) <;> rfl
   rw [e]
   exact Ev.now _
  ·have e:squareFits g s=false:=by unfold squareFits;rw [eq_false_of_ne_true hg];rfl
   simp only [hg,if_false,e,Bool.false_and]
   exact Ev.now _
 ·simp only [hp,if_false,eq_false_of_ne_true hp,Bool.false_and]
  exact Ev.now _
theorem implPuzzleFits_ev (s:Int)(q:List Int)(rs:List S73)(g:List Int)(hq:q.length≤1048576)(hl:rs.length≤1048576)(hr:∀ x∈rs,x.f1.length≤1048576)(hgl:g.length≤1048576):Ev (fun k=>impl_PuzzleFits.f k s q rs g) (puzzleFits s q rs g):=by
 unfold impl_PuzzleFits.f puzzleFits
 have hno:Ev (fun k=>impl_PuzzleFits.j0 k g true s q rs) false:=by
  refine Ev.step (fun k=>impl_PuzzleFits.j0.eq_2 _ _ _ _ _ k) ?_
  simp only [if_true];exact Ev.now _
 refine Ev.bind (implPuzzleValid_ev s q rs hq hl hr) ?_
 by_cases hp:puzzleB s q rs=true
 ·simp only [hp,if_true,Bool.true_and]
  obtain ⟨hqg,h20,hrs⟩:=puzzleB_parts hp
  refine Ev.bind (implSquareFits_ev g s (by omega)) ?_
  by_cases hf:squareFits g s=true
  ·simp only [hf,Bool.not_true,Bool.true_and]
   have hg:=squareFits_grid hf
   have hql:q.length=g.length:=by rw [grid_len hqg,grid_len hg]
   have hg16:=gridB_le hg
   refine Ev.step (fun k=>impl_PuzzleFits.j0.eq_2 _ _ _ _ _ k) ?_
   simp only [Bool.false_eq_true,if_false]
   refine Ev.range (σ:=Unit) (L:=fun k _ j=>impl_PuzzleFits.l0 k g g (g.length:Int) j s q rs) (R:=fun _ _=>agreeP q g g.length && possB rs g s) (N:=g.length) (fun _ j=>agreeP q g j=true) ?_ ?_ () 0 (Nat.zero_le _) rfl
   ·intro _ ha
    refine Ev.step (fun k=>impl_PuzzleFits.l0.eq_2 _ _ _ _ _ _ _ k) ?_
    simp only [Int.lt_irrefl,if_false,ha,Bool.true_and]
    refine Ev.range (σ:=Unit) (L:=fun k _ j=>impl_PuzzleFits.l1 k g rs (rs.length:Int) j s q rs) (R:=fun _ _=>possB rs g s) (N:=rs.length) (fun _ i=>possB (rs.take i) g s=true) ?_ ?_ () 0 (Nat.zero_le _) rfl
    ·intro _ hall
     refine Ev.step (fun k=>impl_PuzzleFits.l1.eq_2 _ _ _ _ _ _ _ k) ?_
     rw [List.take_length] at hall
     simp only [Int.lt_irrefl,if_false,hall]
     exact Ev.now _
    ·intro _ i hi hall ih
     refine Ev.step (fun k=>impl_PuzzleFits.l1.eq_2 _ _ _ _ _ _ _ k) ?_
     have h2:(i:Int) < (rs.length:Int):=by omega
     have h3:(0:Int)≤(i:Int):=Int.natCast_nonneg i
     simp only [h2,h3,if_true,rdI rs hi]
     refine Ev.bind (canHold_ev (rules_get hrs hi) hg) ?_
     by_cases hx:rulePossible rs[i].f0 rs[i].f1 rs[i].f2 g s=true
     ·simp only [hx,if_true,w64n (by omega:i < 9000000000000000000)]
      exact ih () (take_possB hi hall hx)
     ·simp only [hx,if_false,Bool.false_eq_true]
      rw [possB_false hi (eq_false_of_ne_true hx)];exact Ev.now _
   ·intro _ j hj ha ih
    refine Ev.step (fun k=>impl_PuzzleFits.l0.eq_2 _ _ _ _ _ _ _ k) ?_
    have h1:(j:Int) < (g.length:Int):=by omega
    have h0:(0:Int)≤(j:Int):=Int.natCast_nonneg j
    have h2:(j:Int) < (q.length:Int):=by omega
    simp only [h0,h1,h2,if_true,w64n (by omega:j < 9000000000000000000)]
    by_cases c2:rd g (j:Int) > 0
    ·by_cases c1:rd q (j:Int) > 0
     ·by_cases c3:rd g (j:Int)=rd q (j:Int)
      ·have c2':rd q (j:Int) > 0:=c1
       simp only [c3,c2',if_true]
       exact ih () (agreeP_yes ha (fun _ _=>c3))
      ·simp only [c1,c2,c3,if_true,if_false]
       rw [agreeP_le (agreeP_no c1 c2 c3) hj,Bool.false_and]
       exact Ev.now _
     ·simp only [c1,c2,if_true,if_false]
      exact ih () (agreeP_yes ha (fun hh=>absurd hh c1))
    ·simp only [c2,if_false]
     exact ih () (agreeP_yes ha (fun _ hh=>absurd hh c2))
  ·simp only [hf,eq_false_of_ne_true hf,Bool.not_false,Bool.false_and]
   exact hno
 ·simp only [hp,if_false,eq_false_of_ne_true hp,Bool.false_and]
  exact hno

end Go.Proofs.Ytmjbnghhfadapaa.Pure
namespace Go.Proofs.Ytmjbnghhfadapaa.Pure
set_option linter.unusedSimpArgs false
set_option linter.unusedVariables false
open Go.RowKit Go.Proofs.YtmjbnghhfadapaaW.PrintWords Go.Proofs.YtmjbnghhfadapaaW.PrintMore


theorem clashL_iff (g:List Int):∀ (cs seen:List Int),clashL g cs seen=false↔(∀ c∈cs,0 < rd g c→rd g c ∉ seen)∧cs.Pairwise (fun c d=>0 < rd g d→rd g d≠rd g c)
 | [],seen=>by simp [clashL]
 | c :: cs,seen=>by
  unfold clashL
  by_cases h:0 < rd g c∧rd g c∈seen
  ·rw [if_pos h]
   constructor
   ·intro h0;cases h0
   ·intro h0;exact absurd h.2 (h0.1 c (List.mem_cons_self ..) h.1)
  ·rw [if_neg h,clashL_iff g cs (rd g c :: seen),List.pairwise_cons]
   constructor
   ·rintro ⟨h1,h2⟩
    refine ⟨fun d hd hp hm=>?_,fun d hd hp he=>(h1 d hd hp) (by rw [he];exact List.mem_cons_self ..),h2⟩
    rcases List.mem_cons.1 hd with rfl|hd
    ·exact h ⟨hp,hm⟩
    ·exact h1 d hd hp (List.mem_cons_of_mem _ hm)
   ·rintro ⟨h1,h2,h3⟩
    refine ⟨fun d hd hp hm=>?_,h3⟩
    rcases List.mem_cons.1 hm with he|hm
    ·exact h2 d hd hp he
    ·exact h1 d (List.mem_cons_of_mem _ hd) hp hm
theorem linesClash_iff (g:List Int)(s:Int):∀ (d n:Nat),linesClash g s n d=false↔∀ j,j < d→clashL g (lineC s ((n + j:Nat):Int)) []=false
 | 0,n=>by simp [linesClash]
 | d + 1,n=>by
  rw [linesClash,Bool.or_eq_false_iff,linesClash_iff g s d (n + 1)]
  constructor
  ·rintro ⟨h1,h2⟩ j hj
   cases j with
   | zero=>exact h1
   | succ j=>have:=h2 j (by omega);rwa [show n + 1 + j=n + (j + 1) by omega] at this
  ·intro h
   exact ⟨h 0 (by omega),fun j hj=>by have:=h (j + 1) (by omega);rwa [show n + (j + 1)=n + 1 + j by omega] at this⟩
def lineCell (n l i:Nat):Nat:=if l < n then l * n + i else i * n + (l - n)
theorem lineC_map {n l:Nat}(hn:n=2∨n=3∨n=4)(hl:l < 2 * n):lineC (n:Int) (l:Int)=(List.range n).map (fun i=>((lineCell n l i:Nat):Int)):=by
 unfold lineC
 have h:lineOkB (n:Int) (l:Int)=true:=by
  unfold lineOkB sizeOkB
  rw [Bool.and_eq_true,decide_eq_true_iff,decide_eq_true_iff]
  omega
 rw [if_pos h,Int.toNat_natCast]
 refine List.map_congr_left (fun i hi=>?_)
 unfold lineCell
 by_cases hln:l < n
 ·rw [if_pos (by omega:(l:Int) < (n:Int)),if_pos hln]
  simp
 ·rw [if_neg (by omega:¬ (l:Int) < (n:Int)),if_neg hln]
  have:((i * n + (l - n):Nat):Int)=(i:Int) * (n:Int) + ((l - n:Nat):Int):=by simp
  rw [this];omega
def Fits (g:List Int)(n:Nat):Prop:=∀ l,l < 2 * n→∀ i j,i < n→j < n→i≠j→0 < rd g (lineCell n l i:Nat)→rd g (lineCell n l i:Nat)≠rd g (lineCell n l j:Nat)
theorem clashLine_iff (g:List Int){n l:Nat}(hn:n=2∨n=3∨n=4)(hl:l < 2 * n):clashL g (lineC (n:Int) (l:Int)) []=false↔∀ i j,i < n→j < n→i≠j→0 < rd g (lineCell n l i:Nat)→rd g (lineCell n l i:Nat)≠rd g (lineCell n l j:Nat):=by
 rw [clashL_iff,lineC_map hn hl,List.pairwise_map,List.pairwise_iff_getElem]
 constructor
 ·rintro ⟨_,h⟩ i j hi hj hij hp he
  rcases Nat.lt_or_gt_of_ne hij with hlt|hlt
  ·have:=h i j (by simpa using hi) (by simpa using hj) hlt
   simp only [List.getElem_range] at this
   exact this (by rw [← he];exact hp) he.symm
  ·have:=h j i (by simpa using hj) (by simpa using hi) hlt
   simp only [List.getElem_range] at this
   exact this hp he
 ·intro h
  refine ⟨fun c _ _ hm=>(List.not_mem_nil hm),fun i j hi hj hij=>?_⟩
  simp only [List.getElem_range]
  simp only [List.length_range] at hi hj
  exact fun hp he=>h j i hj hi (by omega) hp he
theorem squareFits_iff {g:List Int}{s:Int}(hg:gridB g s=true):squareFits g s=true↔Fits g s.toNat:=by
 obtain ⟨hn,hs⟩:=size_or (gridB_size hg)
 unfold squareFits Fits
 rw [hg,Bool.true_and,Bool.not_eq_true',linesClash_iff]
 constructor
 ·intro h l hl
  have:=h l hl
  rw [Nat.zero_add,hs] at this
  exact (clashLine_iff g hn hl).1 this
 ·intro h l hl
  rw [Nat.zero_add,hs]
  exact (clashLine_iff g hn hl).2 (h l hl)
def Alike (g g':List Int)(n:Nat)(f:Int→Int):Prop:=∀ l,l < 2 * n→∃ (l':Nat) (σ:Nat→Nat),l' < 2 * n∧(∀ i,i < n→σ i < n)∧(∀ i j,i < n→j < n→σ i=σ j→i=j)∧∀ i,i < n→rd g' (lineCell n l i:Nat)=f (rd g (lineCell n l' (σ i):Nat))
theorem Alike.fits {g g':List Int}{n:Nat}{f:Int→Int}(h:Alike g g' n f)(hf:∀ v,0 < f v→0 < v)(hi:∀ u v,f u=f v→u=v)(hg:Fits g n):Fits g' n:=by
 intro l hl i j h1 h2 hij hp he
 obtain ⟨l',σ,hl',hs,hinj,hv⟩:=h l hl
 rw [hv i h1] at hp
 rw [hv i h1,hv j h2] at he
 exact hg l' hl' (σ i) (σ j) (hs i h1) (hs j h2) (fun e=>hij (hinj i j h1 h2 e)) (hf _ hp) (hi _ _ he)

end Go.Proofs.Ytmjbnghhfadapaa.Pure
namespace Go.Proofs.Ytmjbnghhfadapaa.Pure
set_option linter.unusedSimpArgs false
set_option linter.unusedVariables false
open Go.RowKit Go.Proofs.YtmjbnghhfadapaaW.PrintWords Go.Proofs.YtmjbnghhfadapaaW.PrintMore


theorem freeB_iff (g:List Int)(n i:Nat)(v:Int):∀ m,freeB g n i v m=true↔∀ k,k < m→rd g (rowCell n i k:Nat)≠v∧rd g (colCell n i k:Nat)≠v
 | 0=>by simp [freeB]
 | m + 1=>by
  rw [freeB,Bool.and_eq_true,freeB_iff g n i v m,Bool.and_eq_true,decide_eq_true_iff,decide_eq_true_iff]
  constructor
  ·rintro ⟨h1,h2⟩ k hk
   by_cases e:k=m
   ·subst e;exact h2
   ·exact h1 k (by omega)
  ·intro h
   exact ⟨fun k hk=>h k (by omega),h m (by omega)⟩
theorem rd_set_eq {g:List Int}{i:Nat}(h:i < g.length)(v:Int):rd (g.set i v) (i:Nat)=v:=by
 rw [rd_lt (by simpa using h)];simp
theorem rd_set_ne {g:List Int}{i j:Nat}(h:i≠j)(v:Int):rd (g.set i v) (j:Nat)=rd g (j:Nat):=by
 rw [rd_nat,rd_nat,List.getD_eq_getElem?_getD,List.getD_eq_getElem?_getD,List.getElem?_set_ne h]
theorem lineCell_at {n l a i:Nat}(hn:n=2∨n=3∨n=4)(hl:l < 2 * n)(ha:a < n)(h:lineCell n l a=i):(l < n∧l=i / n∧a=i % n∧∀ b,lineCell n l b=rowCell n i b)∨(¬ l < n∧l - n=i % n∧a=i / n∧∀ b,lineCell n l b=colCell n i b):=by
 subst h
 by_cases hln:l < n
 ·left
  refine ⟨hln,?_,?_,fun b=>?_⟩
  ·unfold lineCell;rw [if_pos hln];rcases hn with rfl|rfl|rfl <;> omega
  ·unfold lineCell;rw [if_pos hln];rcases hn with rfl|rfl|rfl <;> omega
  ·unfold rowCell lineCell;rw [if_pos hln,if_pos hln];rcases hn with rfl|rfl|rfl <;> omega
 ·right
  refine ⟨hln,?_,?_,fun b=>?_⟩
  ·unfold lineCell;rw [if_neg hln];rcases hn with rfl|rfl|rfl <;> omega
  ·unfold lineCell;rw [if_neg hln];rcases hn with rfl|rfl|rfl <;> omega
  ·unfold colCell lineCell;rw [if_neg hln,if_neg hln];rcases hn with rfl|rfl|rfl <;> omega
theorem lineCell_row {n i:Nat}(hn:n=2∨n=3∨n=4)(hi:i < n * n)(b:Nat):i / n < n∧i % n < n∧lineCell n (i / n) b=rowCell n i b∧lineCell n (n + i % n) b=colCell n i b∧rowCell n i (i % n)=i∧colCell n i (i / n)=i:=by
 have h1:i / n < n:=by rcases hn with rfl|rfl|rfl <;> omega
 refine ⟨h1,?_,?_,?_,?_,?_⟩
 ·rcases hn with rfl|rfl|rfl <;> omega
 ·unfold lineCell rowCell;rw [if_pos h1]
 ·unfold lineCell colCell;rw [if_neg (by omega)];rcases hn with rfl|rfl|rfl <;> omega
 ·unfold rowCell;rcases hn with rfl|rfl|rfl <;> omega
 ·unfold colCell;rcases hn with rfl|rfl|rfl <;> omega
theorem fits_set {g:List Int}{n i:Nat}{v:Int}(hn:n=2∨n=3∨n=4)(hlen:g.length=n * n)(hi:i < n * n)(hz:rd g (i:Nat)=0)(hv:0 < v)(hf:Fits g n):Fits (g.set i v) n↔freeB g n i v n=true:=by
 rw [freeB_iff]
 constructor
 ·intro h k hk
  obtain ⟨h1,h2,h3,h4,h5,h6⟩:=lineCell_row hn hi k
  constructor
  ·intro e
   have hne:i≠rowCell n i k:=by intro e2;rw [← e2,hz] at e;omega
   have hki:i % n≠k:=by intro e2;rw [← e2,h5] at hne;exact hne rfl
   refine h (i / n) (by omega) (i % n) k h2 hk hki ?_ ?_
   ·rw [(lineCell_row hn hi (i % n)).2.2.1,h5,rd_set_eq (by omega)];exact hv
   ·rw [(lineCell_row hn hi (i % n)).2.2.1,h5,rd_set_eq (by omega),h3,rd_set_ne hne,e]
  ·intro e
   have hne:i≠colCell n i k:=by intro e2;rw [← e2,hz] at e;omega
   have hki:i / n≠k:=by intro e2;rw [← e2,h6] at hne;exact hne rfl
   refine h (n + i % n) (by omega) (i / n) k h1 hk hki ?_ ?_
   ·rw [(lineCell_row hn hi (i / n)).2.2.2.1,h6,rd_set_eq (by omega)];exact hv
   ·rw [(lineCell_row hn hi (i / n)).2.2.2.1,h6,rd_set_eq (by omega),h4,rd_set_ne hne,e]
 ·intro h l hl a b ha hb hab hp he
  by_cases ea:lineCell n l a=i
  ·have hv2:∀ c,c < n→rd g (lineCell n l c:Nat)≠v:=by
    rcases lineCell_at hn hl ha ea with ⟨_,_,_,hc⟩ | ⟨_,_,_,hc⟩
    ·intro c hcn;rw [hc];exact (h c hcn).1
    ·intro c hcn;rw [hc];exact (h c hcn).2
   have hne:i≠lineCell n l b:=by
    intro e2
    rcases lineCell_at hn hl ha ea with ⟨q1,_,q2,_⟩ | ⟨q1,_,q2,_⟩ <;> rcases lineCell_at hn hl hb e2.symm with ⟨q3,_,q4,_⟩ | ⟨q3,_,q4,_⟩ <;> omega
   rw [ea,rd_set_eq (by omega),rd_set_ne hne] at he
   exact hv2 b hb he.symm
  ·by_cases eb:lineCell n l b=i
   ·have hv2:∀ c,c < n→rd g (lineCell n l c:Nat)≠v:=by
     rcases lineCell_at hn hl hb eb with ⟨_,_,_,hc⟩ | ⟨_,_,_,hc⟩
     ·intro c hcn;rw [hc];exact (h c hcn).1
     ·intro c hcn;rw [hc];exact (h c hcn).2
    rw [eb,rd_set_eq (by omega),rd_set_ne (fun e=>ea e.symm)] at he
    exact hv2 a ha he
   ·rw [rd_set_ne (fun e=>ea e.symm)] at hp he
    rw [rd_set_ne (fun e=>eb e.symm)] at he
    exact hf l hl a b ha hb hab hp he
theorem grid_set {g:List Int}{s:Int}(hg:gridB g s=true)(i:Nat){v:Int}(h0:0≤v)(h1:v≤s):gridB (g.set i v) s=true:=by
 refine gridB_mk (gridB_size hg) (by rw [List.length_set];exact gridB_len hg) (fun x hx=>?_)
 rcases List.mem_or_eq_of_mem_set hx with hx|rfl
 ·exact gridB_mem hg x hx
 ·exact ⟨h0,h1⟩

end Go.Proofs.Ytmjbnghhfadapaa.Pure
namespace Go.Proofs.Ytmjbnghhfadapaa.Pure
set_option linter.unusedSimpArgs false
set_option linter.unusedVariables false
open Go.RowKit Go.Proofs.YtmjbnghhfadapaaW.PrintWords Go.Proofs.YtmjbnghhfadapaaW.PrintMore


def seekV (P:List Int→Bool)(f:List Int→List (List Int))(g:List Int)(i:Nat)(v:Int):Nat→List (List Int)
 | 0=>[]
 | m + 1=>(if P (g.set i v)=true then f (g.set i v) else []) ++ seekV P f g i (v + 1) m
def seek (P:List Int→Bool)(n N:Nat):Nat→List Int→List (List Int)
 | 0,g=>[g]
 | d + 1,g=>if 0 < rd g ((N - (d + 1):Nat):Int) then seek P n N d g else seekV P (seek P n N d) g (N - (d + 1)) 1 n
theorem seekV_mem {P:List Int→Bool}{f:List Int→List (List Int)}{g:List Int}{i:Nat}{x:List Int}:∀ (m:Nat) (v:Int),x∈seekV P f g i v m→∃ u,v≤u∧u < v + m∧P (g.set i u)=true∧x∈f (g.set i u)
 | 0,v,h=>by simp [seekV] at h
 | m + 1,v,h=>by
  rw [seekV,List.mem_append] at h
  rcases h with h|h
  ·by_cases hf:P (g.set i v)=true
   ·rw [if_pos hf] at h;exact ⟨v,by omega,by omega,hf,h⟩
   ·rw [if_neg hf] at h;cases h
  ·obtain ⟨u,h1,h2,h3,h4⟩:=seekV_mem m (v + 1) h
   exact ⟨u,by omega,by omega,h3,h4⟩
theorem seek_len {P:List Int→Bool}{n N:Nat}{x:List Int}:∀ (d:Nat) (g:List Int),x∈seek P n N d g→x.length=g.length
 | 0,g,h=>by simp [seek] at h;rw [h]
 | d + 1,g,h=>by
  unfold seek at h
  by_cases hp:0 < rd g ((N - (d + 1):Nat):Int)
  ·rw [if_pos hp] at h;exact seek_len d g h
  ·rw [if_neg hp] at h
   obtain ⟨u,_,_,_,h⟩:=seekV_mem _ _ h
   have:=seek_len d _ h
   rwa [List.length_set] at this
def tell {σ:Type}(T:σ→List Int→Option (Bool × σ)):List (List Int)→σ→Option (Bool × σ)
 | [],st=>some (true,st)
 | g :: gs,st=>(T st g).bind fun t=>if t.1=true then tell T gs t.2 else some (false,t.2)
theorem tell_append {σ:Type}(T:σ→List Int→Option (Bool × σ)):∀ (L1 L2:List (List Int)) (st:σ),tell T (L1 ++ L2) st=(tell T L1 st).bind fun t=>if t.1=true then tell T L2 t.2 else some (false,t.2)
 | [],L2,st=>by simp [tell]
 | g :: gs,L2,st=>by
  rw [List.cons_append,tell,tell]
  cases h:T st g with
  | none=>rfl
  | some t =>
   obtain ⟨b,s⟩:=t
   cases b with
   | false=>rfl
   | true =>
    simp only [Option.bind_some,if_true]
    exact tell_append T gs L2 s

end Go.Proofs.Ytmjbnghhfadapaa.Pure
namespace Go.Proofs.Ytmjbnghhfadapaa.Pure
set_option linter.unusedSimpArgs false
set_option linter.unusedVariables false
open Go.RowKit Go.Proofs.YtmjbnghhfadapaaW.PrintWords Go.Proofs.YtmjbnghhfadapaaW.PrintMore Go.Proofs.Ytmjbnghhfadapaa.P


theorem fits_eq {s:Int}{q:List Int}{rs:List S73}{g:List Int}(hp:puzzleB s q rs=true)(hg:gridB g s=true):puzzleFits s q rs g=(agreeP q g g.length && (possB rs g s && !linesClash g s 0 (2 * s.toNat))):=by
 unfold puzzleFits squareFits
 rw [hp,hg,Bool.true_and,Bool.true_and]
 cases agreeP q g g.length <;> cases possB rs g s <;> cases linesClash g s 0 (2 * s.toNat) <;> rfl
theorem fits_parts {s:Int}{q:List Int}{rs:List S73}{g:List Int}(h:puzzleFits s q rs g=true):puzzleB s q rs=true∧gridB g s=true∧squareFits g s=true∧agreeP q g g.length=true∧possB rs g s=true:=by
 unfold puzzleFits at h
 simp only [Bool.and_eq_true] at h
 exact ⟨h.1,squareFits_grid h.2.1,h.2.1,h.2.2.1,h.2.2.2⟩
theorem agreeP_of {q g:List Int}:∀ n,(∀ j:Nat,0 < rd q (j:Int)→rd g (j:Int)=rd q (j:Int))→agreeP q g n=true
 | 0,_=>rfl
 | n + 1,h=>agreeP_yes (agreeP_of n h) (fun h1 _=>h n h1)
theorem gridMasks_set {g:List Int}{s:Int}{i:Nat}{v c:Int}(h0:0≤c)(h1:c < (g.length:Int))(hne:c≠(i:Int)):rd (gridMasks (g.set i v) s) c=rd (gridMasks g s) c:=by
 rw [rd_gridMasks h0 (by rw [List.length_set];exact h1),rd_gridMasks h0 h1]
 obtain ⟨n,rfl⟩:=Int.eq_ofNat_of_zero_le h0
 rw [rd_set_ne (by omega)]
theorem rulePossible_set {kind:Int}{cs:List Int}{w:Int}{g:List Int}{s:Int}{i:Nat}{v:Int}(hg:gridB g s=true)(hg2:gridB (g.set i v) s=true)(hi:¬ (i:Int)∈cs):rulePossible kind cs w (g.set i v) s=rulePossible kind cs w g s:=by
 unfold rulePossible
 rw [hg,hg2,Bool.true_and,Bool.true_and]
 by_cases hr:ruleB kind cs w s=true
 ·rw [hr,Bool.true_and,Bool.true_and]
  have hcells:=rule_cells hr (gridB_len hg)
  have e:cs.map (fun c=>rd (gridMasks (g.set i v) s) c)=cs.map (fun c=>rd (gridMasks g s) c):=by
   refine List.map_congr_left (fun c hc=>?_)
   exact gridMasks_set (hcells c hc).1 (hcells c hc).2 (fun e=>hi (e ▸ hc))
  unfold ruleMasks
  rw [e,if_pos ⟨hr,gridMasks_ok hg2⟩,if_pos ⟨hr,gridMasks_ok hg⟩]
 ·rw [eq_false_of_ne_true hr,Bool.false_and,Bool.false_and]
theorem set_ext {q g:List Int}{i:Nat}{v:Int}(h:∀ j:Nat,0 < rd q (j:Int)→rd g (j:Int)=rd q (j:Int))(hz:rd g (i:Int)=0):∀ j:Nat,0 < rd q (j:Int)→rd (g.set i v) (j:Int)=rd q (j:Int):=by
 intro j hj
 have h1:=h j hj
 by_cases e:i=j
 ·subst e;omega
 ·rw [rd_set_ne e];exact h1
def firstSols (s:Int)(q:List Int)(rs:List S73)(M:Nat):List (List Int):=if puzzleFits s q rs q=true then (seek (puzzleFits s q rs) s.toNat (s.toNat * s.toNat) (s.toNat * s.toNat) q).take M else []

end Go.Proofs.Ytmjbnghhfadapaa.Pure
namespace Go.Proofs.Ytmjbnghhfadapaa.Pure
set_option linter.unusedSimpArgs false
set_option linter.unusedVariables false
open Go.RowKit Go.Proofs.YtmjbnghhfadapaaW.PrintWords Go.Proofs.YtmjbnghhfadapaaW.PrintMore Go.Proofs.Ytmjbnghhfadapaa.P


theorem rowcol_at {n i j:Nat}(hn:n=2∨n=3∨n=4)(hi:i < n * n)(hj:j < n):rowCell n i j < n * n∧colCell n i j < n * n:=by
 unfold rowCell colCell
 rcases hn with rfl|rfl|rfl <;> omega
theorem freeB_step {g:List Int}{n i:Nat}{v:Int}{m:Nat}(h:freeB g n i v m=true)(h1:rd g (rowCell n i m:Nat)≠v)(h2:rd g (colCell n i m:Nat)≠v):freeB g n i v (m + 1)=true:=by
 rw [freeB,h,Bool.true_and,decide_eq_true h1,decide_eq_true h2];rfl
theorem freeB_no {g:List Int}{n i:Nat}{v:Int}{m N:Nat}(hm:m < N)(h:rd g (rowCell n i m:Nat)=v∨rd g (colCell n i m:Nat)=v):freeB g n i v N=false:=by
 refine eq_false_of_ne_true (fun e=>?_)
 have:=(freeB_iff g n i v N).1 e m hm
 rcases h with h|h
 ·exact this.1 h
 ·exact this.2 h
set_option maxHeartbeats 1000000 in
theorem cellFits_ev {s:Int}{q:List Int}{rs:List S73}{g:List Int}{i:Nat}{v:Int}(hf:puzzleFits s q rs g=true)(hx:∀ j:Nat,0 < rd q (j:Int)→rd g (j:Int)=rd q (j:Int))(hz:rd g (i:Int)=0)(hi:i < s.toNat * s.toNat)(h1:1≤v)(h2:v≤s)(hr:∀ x∈rs,x.f1.length≤1048576):Ev (fun k=>impl_cellFits.f k s q rs (g.set i v) (i:Int)) (puzzleFits s q rs (g.set i v)):=by
 obtain ⟨hp,hg,hsq,hag,hps⟩:=fits_parts hf
 obtain ⟨hn,hsn⟩:=size_or (gridB_size hg)
 have hlen:=grid_len hg
 obtain ⟨_,h20,hrs⟩:=puzzleB_parts hp
 have hg2:=grid_set hg i (by omega:0≤v) h2
 have hFit:=(squareFits_iff hg).1 hsq
 have hset:=fits_set hn hlen hi hz (by omega:0 < v) hFit
 have hlen2:(g.set i v).length=g.length:=List.length_set
 have hri:rd (g.set i v) (i:Int)=v:=rd_set_eq (by omega) v
 have hno:freeB g s.toNat i v s.toNat=false→puzzleFits s q rs (g.set i v)=false:=by
  intro e
  refine eq_false_of_ne_true (fun e2=>?_)
  have:=hset.1 ((squareFits_iff hg2).1 (fits_parts e2).2.2.1)
  rw [e] at this;cases this
 unfold impl_cellFits.f
 refine Ev.range (σ:=Unit) (L:=fun k _ j=>impl_cellFits.l0 k (g.set i v) (i:Int) s s j s q rs) (R:=fun _ _=>puzzleFits s q rs (g.set i v)) (N:=s.toNat) (fun _ j=>freeB g s.toNat i v j=true) ?_ ?_ () 0 (Nat.zero_le _) rfl
 ·intro _ hfree
  have hsq2:squareFits (g.set i v) s=true:=(squareFits_iff hg2).2 (hset.2 hfree)
  have hag2:agreeP q (g.set i v) (g.set i v).length=true:=agreeP_of _ (set_ext hx hz)
  have e:puzzleFits s q rs (g.set i v)=possB rs (g.set i v) s:=by
   unfold puzzleFits;rw [hp,hsq2,hag2];rfl
  rw [e]
  refine Ev.step (fun k=>impl_cellFits.l0.eq_2 _ _ _ _ _ _ _ _ k) ?_
  have h3:¬ ((s.toNat:Nat):Int) < s:=by omega
  simp only [h3,if_false]
  refine Ev.range (σ:=Unit) (L:=fun k _ j=>impl_cellFits.l2 k (g.set i v) (i:Int) s rs (rs.length:Int) j) (R:=fun _ _=>possB rs (g.set i v) s) (N:=rs.length) (fun _ j=>possB (rs.take j) (g.set i v) s=true) ?_ ?_ () 0 (Nat.zero_le _) rfl
  ·intro _ hall
   refine Ev.step (fun k=>impl_cellFits.l2.eq_2 _ _ _ _ _ _ k) ?_
   rw [List.take_length] at hall
   simp only [Int.lt_irrefl,if_false,hall]
   exact Ev.now _
  ·intro _ j hj hall ih
   refine Ev.step (fun k=>impl_cellFits.l2.eq_2 _ _ _ _ _ _ k) ?_
   have h4:(j:Int) < (rs.length:Int):=by omega
   have h5:(0:Int)≤(j:Int):=Int.natCast_nonneg j
   simp only [h4,h5,if_true,rdI rs hj]
   have hlen4:=hr rs[j] (List.getElem_mem hj)
   refine Ev.bind (contains_ev _ _ (by omega)) ?_
   by_cases hc:(i:Int)∈rs[j].f1
   ·simp only [hc,decide_true,if_true]
    refine Ev.bind (canHold_ev (rules_get hrs hj) hg2) ?_
    by_cases hx2:rulePossible rs[j].f0 rs[j].f1 rs[j].f2 (g.set i v) s=true
    ·simp only [hx2,if_true,w64n (by omega:j < 9000000000000000000)]
     exact ih () (take_possB hj hall hx2)
    ·simp only [hx2,if_false,Bool.false_eq_true]
     rw [possB_false hj (eq_false_of_ne_true hx2)];exact Ev.now _
   ·simp only [hc,decide_false,if_false,Bool.false_eq_true,w64n (by omega:j < 9000000000000000000)]
    refine ih () (take_possB hj hall ?_)
    rw [rulePossible_set hg hg2 hc]
    unfold possB at hps
    exact List.all_eq_true.1 hps _ (List.getElem_mem hj)
 ·intro _ j hj hfree ih
  refine Ev.step (fun k=>impl_cellFits.l0.eq_2 _ _ _ _ _ _ _ _ k) ?_
  have h3:((j:Nat):Int) < s:=by omega
  have h5:¬ s=0:=by omega
  have hrow:=row_idx hn hi hj
  have hcol:=col_idx hn hi hj
  rw [← hsn] at hrow hcol
  obtain ⟨hr1,hc1⟩:=rowcol_at hn hi hj
  simp only [h3,h5,if_true,if_false,hrow,hcol,Option.bind_some]
  have hnext:∀ t,t < 2→True:=fun _ _=>trivial
  have hil:(i:Int) < ((g.set i v).length:Int):=by omega
  have hi0:(0:Int)≤(i:Int):=Int.natCast_nonneg _
  -- one cell of the two
  have hcell:∀ (c:Nat) (A B:Nat→Option Bool),c < s.toNat * s.toNat→(rd g (c:Int)=v→puzzleFits s q rs (g.set i v)=false)→(rd g (c:Int)≠v→Ev A (puzzleFits s q rs (g.set i v)))→Ev (fun k=>if (c:Int)=(i:Int) then A k else (if 0≤(c:Int) then (if (c:Int) < ((g.set i v).length:Int) then (if 0≤(i:Int) then (if (i:Int) < ((g.set i v).length:Int) then (if rd (g.set i v) (c:Int)=rd (g.set i v) (i:Int) then some false else A k) else none) else none) else none) else none)) (puzzleFits s q rs (g.set i v)):=by
   intro c A B hc hbad hgo
   by_cases hci:(c:Int)=(i:Int)
   ·simp only [hci,if_true]
    exact hgo (by rw [hci,hz];omega)
   ·have q1:(0:Int)≤(c:Int):=Int.natCast_nonneg _
    have q2:(c:Int) < ((g.set i v).length:Int):=by omega
    have q3:rd (g.set i v) (c:Int)=rd g (c:Int):=rd_set_ne (by omega) v
    simp only [hci,q1,q2,hil,hi0,if_true,if_false,q3,hri]
    by_cases hv:rd g (c:Int)=v
    ·simp only [hv,if_true]
     rw [hbad hv];exact Ev.now _
    ·simp only [hv,if_false]
     exact hgo hv
  have hl2:(([((rowCell s.toNat i j:Nat):Int),((colCell s.toNat i j:Nat):Int)]:List Int).length:Int)=2:=rfl
  refine Ev.step (fun k=>impl_cellFits.l1.eq_2 _ _ _ _ _ _ _ _ _ _ _ k) ?_
  have e0:rd ([((rowCell s.toNat i j:Nat):Int),((colCell s.toNat i j:Nat):Int)]:List Int) 0=((rowCell s.toNat i j:Nat):Int):=rfl
  have e1:rd ([((rowCell s.toNat i j:Nat):Int),((colCell s.toNat i j:Nat):Int)]:List Int) 1=((colCell s.toNat i j:Nat):Int):=rfl
  have w0:wrap64 ((0:Int) + 1)=1:=by unfold wrap64;omega
  have w1:wrap64 ((1:Int) + 1)=2:=by unfold wrap64;omega
  simp only [hl2,e0,w0,(by decide:(0:Int) < 2),(by decide:(0:Int)≤0),if_true]
  refine hcell _ _ (fun _=>none) hr1 (fun hv=>hno (freeB_no hj (.inl hv))) (fun hv=>?_)
  refine Ev.step (fun k=>impl_cellFits.l1.eq_2 _ _ _ _ _ _ _ _ _ _ _ k) ?_
  simp only [hl2,e1,w1,(by decide:(1:Int) < 2),(by decide:(0:Int)≤1),if_true]
  refine hcell _ _ (fun _=>none) hc1 (fun hv=>hno (freeB_no hj (.inr hv))) (fun hv2=>?_)
  refine Ev.step (fun k=>impl_cellFits.l1.eq_2 _ _ _ _ _ _ _ _ _ _ _ k) ?_
  simp only [hl2,(by decide:¬ (2:Int) < 2),if_false,w64n (by omega:j < 9000000000000000000)]
  exact ih () (freeB_step hfree hv hv2)

end Go.Proofs.Ytmjbnghhfadapaa.Pure
namespace Go.Proofs.Ytmjbnghhfadapaa.Pure
set_option linter.unusedSimpArgs false
set_option linter.unusedVariables false
open Go.RowKit Go.Proofs.YtmjbnghhfadapaaW.PrintWords Go.Proofs.YtmjbnghhfadapaaW.PrintMore Go.Proofs.Ytmjbnghhfadapaa.P


theorem tryV_tell {σ:Type}{T:σ→List Int→Option (Bool × σ)}{cf:Nat→List Int→Option Bool}{f:Nat→List Int→σ→Option (Bool × List Int × σ)}{P:List Int→Bool}{F:List Int→List (List Int)}{b:List Int}{i:Nat}:∀ (m:Nat) (v:Int) (g:List Int) (st:σ) (r:Bool × σ),(∀ u,g.set i u=b.set i u) →
  (∀ u,v≤u→u < v + m→Ev (fun k=>cf k (b.set i u)) (P (b.set i u))) →
  (∀ u,v≤u→u < v + m→P (b.set i u)=true→∀ (st:σ) (r:Bool × σ),tell T (F (b.set i u)) st=some r→∃ g',Ev (fun k=>f k (b.set i u) st) (r.1,g',r.2)∧(r.1=true→g'=b.set i u)) →
  tell T (seekV P F b i v m) st=some r→∃ g',Ev (fun k=>impl_solutions.tryV (cf k) (f k) i m v g st) (r.1,g',r.2)∧(r.1=true→g'=b.set i 0)
 | 0,v,g,st,r,hg,_,_,h=>by
  unfold seekV tell at h
  obtain rfl:=Option.some.inj h
  refine ⟨g.set i 0,?_,fun _=>hg 0⟩
  unfold impl_solutions.tryV
  exact Ev.now _
 | m + 1,v,g,st,r,hg,h1,h2,h=>by
  unfold seekV at h
  rw [tell_append] at h
  have hss:∀ u,(b.set i v).set i u=b.set i u:=fun u=>List.set_set v
  unfold impl_solutions.tryV
  simp only [hg v]
  have hcf:=h1 v (Int.le_refl _) (by omega)
  cases hb:P (b.set i v) with
  | false =>
   rw [hb] at h hcf
   simp only [Bool.false_eq_true,if_false,tell,Option.bind_some,if_true] at h
   obtain ⟨g',he,hr⟩:=tryV_tell m (v + 1) (b.set i v) st r hss (fun u a c=>h1 u (by omega) (by omega)) (fun u a c=>h2 u (by omega) (by omega)) h
   refine ⟨g',Ev.bind hcf ?_,hr⟩
   simp only [Bool.false_eq_true,if_false]
   exact he
  | true =>
   rw [hb] at h hcf
   simp only [if_true] at h
   obtain ⟨t,ht,h⟩:=Option.bind_eq_some_iff.1 h
   obtain ⟨g1,he1,hr1⟩:=h2 v (Int.le_refl _) (by omega) hb st t ht
   obtain ⟨t1,t2⟩:=t
   cases t1 with
   | false =>
    simp only [Bool.false_eq_true,if_false] at h
    obtain rfl:=Option.some.inj h
    refine ⟨g1,Ev.bind hcf ?_,fun e=>by cases e⟩
    simp only [if_true]
    refine Ev.bind he1 ?_
    simp only [Bool.false_eq_true,if_false]
    exact Ev.now _
   | true =>
    simp only [if_true] at h
    obtain rfl:=hr1 rfl
    obtain ⟨g',he,hr⟩:=tryV_tell m (v + 1) (b.set i v) t2 r hss (fun u a c=>h1 u (by omega) (by omega)) (fun u a c=>h2 u (by omega) (by omega)) h
    refine ⟨g',Ev.bind hcf ?_,hr⟩
    simp only [if_true]
    refine Ev.bind he1 ?_
    simp only [if_true]
    exact he
theorem try_tell {σ:Type}(T:σ→List Int→Option (Bool × σ)){s:Int}{q:List Int}{rs:List S73}(hr:∀ x∈rs,x.f1.length≤1048576):∀ (d:Nat) (g:List Int) (st:σ) (r:Bool × σ),d≤s.toNat * s.toNat→puzzleFits s q rs g=true→(∀ j:Nat,0 < rd q (j:Int)→rd g (j:Int)=rd q (j:Int)) →
  tell T (seek (puzzleFits s q rs) s.toNat (s.toNat * s.toNat) d g) st=some r→∃ g',Ev (fun k=>impl_solutions.try_ T k s q rs (s.toNat * s.toNat) d g st) (r.1,g',r.2)∧(r.1=true→g'=g)
 | 0,g,st,r,_,_,_,h=>by
  unfold seek at h
  simp only [tell] at h
  obtain ⟨t,ht,h⟩:=Option.bind_eq_some_iff.1 h
  have hrt:r=t:=by
   obtain ⟨t1,t2⟩:=t
   cases t1 with
   | false=>simp only [Bool.false_eq_true,if_false] at h;exact (Option.some.inj h).symm
   | true=>simp only [if_true] at h;exact (Option.some.inj h).symm
  subst hrt
  refine ⟨g,?_,fun _=>rfl⟩
  unfold impl_solutions.try_
  simp only [ht,Option.bind_some]
  exact Ev.now _
 | d + 1,g,st,r,hd,hf,hx,h=>by
  unfold seek at h
  obtain ⟨hp,hg,_,_,_⟩:=fits_parts hf
  have hs:=(size_or (gridB_size hg)).2
  have hlen:=grid_len hg
  have hi:((s.toNat * s.toNat:Nat):Int) - ((d + 1:Nat):Int)=((s.toNat * s.toNat - (d + 1):Nat):Int):=by omega
  unfold impl_solutions.try_
  simp only [hi,Int.toNat_natCast]
  by_cases h0:0 < rd g ((s.toNat * s.toNat - (d + 1):Nat):Int)
  ·rw [if_pos h0] at h
   simp only [h0,if_true]
   exact try_tell T hr d g st r (by omega) hf hx h
  ·rw [if_neg h0] at h
   simp only [h0,if_false]
   have hz:rd g ((s.toNat * s.toNat - (d + 1):Nat):Int)=0:=by
    have:=gridB_mem hg _ (rd_mem (g:=g) (by omega:(0:Int)≤((s.toNat * s.toNat - (d + 1):Nat):Int)) (by omega));omega
   obtain ⟨g',he,hr2⟩:=tryV_tell (cf:=fun k g'=>impl_cellFits.f k s q rs g' ((s.toNat * s.toNat - (d + 1):Nat):Int)) (f:=fun k=>impl_solutions.try_ T k s q rs (s.toNat * s.toNat) d) (P:=puzzleFits s q rs) (F:=seek (puzzleFits s q rs) s.toNat (s.toNat * s.toNat) d) (b:=g) (i:=s.toNat * s.toNat - (d + 1)) s.toNat 1 g st r (fun _=>rfl) (fun u a b=>cellFits_ev hf hx hz (by omega) (by omega) (by omega) hr) (fun u a b hP st r hh=>try_tell T hr d _ st r (by omega) hP (set_ext hx hz) hh) h
   refine ⟨g',he,fun e=>?_⟩
   rw [hr2 e]
   refine List.ext_getElem (by rw [List.length_set]) (fun j j1 j2=>?_)
   by_cases e2:s.toNat * s.toNat - (d + 1)=j
   ·subst e2
    rw [List.getElem_set_self]
    rw [rd_lt j2] at hz
    exact hz.symm
   ·rw [List.getElem_set_ne e2]
theorem run_tell {σ:Type}(T:σ→List Int→Option (Bool × σ)){s:Int}{q:List Int}{rs:List S73}(hp:puzzleB s q rs=true)(hq:q.length≤1048576)(hl:rs.length≤1048576)(hr:∀ x∈rs,x.f1.length≤1048576)(st:σ)(r:Bool × σ)(h:tell T (if puzzleFits s q rs q=true then seek (puzzleFits s q rs) s.toNat (s.toNat * s.toNat) (s.toNat * s.toNat) q else []) st=some r):Ev (fun k=>impl_solutions.run T k s q rs q st) r.2:=by
 unfold impl_solutions.run
 obtain ⟨hg,_,_⟩:=puzzleB_parts hp
 have h16:=gridB_le hg
 obtain ⟨hn,hs⟩:=size_or (gridB_size hg)
 have hlen:=grid_len hg
 have hc:0 < q.length∧q.length≤100000∧s≤1000:=⟨by rw [hlen];rcases hn with e|e|e <;> rw [e] <;> decide,by omega,by omega⟩
 simp only [hc,and_self,if_true]
 refine Ev.bind (implPuzzleFits_ev s q rs q hq hl hr hq) ?_
 by_cases hf:puzzleFits s q rs q=true
 ·rw [if_pos hf] at h
  simp only [hf,if_true]
  obtain ⟨g',he,_⟩:=try_tell T hr (s.toNat * s.toNat) q st r (Nat.le_refl _) hf (fun _ _=>rfl) h
  rw [hlen]
  refine Ev.bind he ?_
  exact Ev.now _
 ·rw [if_neg hf] at h
  simp only [tell] at h
  obtain rfl:=Option.some.inj h
  simp only [hf,if_false]
  exact Ev.now _
theorem tell_first {M:Nat}(hM:M≤100000):∀ (L:List (List Int)) (out:List (List Int)),(∀ x∈L,x.length≤100000)→out.length < M→∃ b,tell (impl_firstSolutions.T (M:Int)) L out=some (b,out ++ L.take (M - out.length))
 | [],out,_,_=>⟨true,by simp [tell]⟩
 | g :: gs,out,hL,hl=>by
  have hgl:=hL g (List.mem_cons_self)
  have hT:impl_firstSolutions.T (M:Int) out g=some (decide (((out ++ [g]).length:Int) < (M:Int)),out ++ [g]):=by
   unfold impl_firstSolutions.T;rw [if_pos ⟨hgl,by omega⟩]
  obtain ⟨m,hm⟩:∃ m,M - out.length=m + 1:=⟨M - out.length - 1,by omega⟩
  rw [tell,hT,Option.bind_some,hm,List.take_succ_cons]
  by_cases h2:out.length + 1 < M
  ·have e:decide (((out ++ [g]).length:Int) < (M:Int))=true:=decide_eq_true (by simp;omega)
   obtain ⟨b,hb⟩:=tell_first hM gs (out ++ [g]) (fun x hx=>hL x (List.mem_cons_of_mem _ hx)) (by simp;omega)
   refine ⟨b,?_⟩
   rw [e]
   simp only [if_true]
   rw [hb,show M - (out ++ [g]).length=m by simp;omega,List.append_assoc]
   rfl
  ·have e:decide (((out ++ [g]).length:Int) < (M:Int))=false:=decide_eq_false (by simp;omega)
   refine ⟨false,?_⟩
   rw [e,show m=0 by omega,List.take_zero]
   simp
theorem firstSolutions_ev (s:Int)(q:List Int)(rs:List S73)(M:Nat)(h0:0 < M)(hM:M≤1000)(hp:puzzleB s q rs=true)(hq:q.length≤1048576)(hl:rs.length≤1048576)(hr:∀ x∈rs,x.f1.length≤1048576):Ev (fun k=>impl_firstSolutions.f k s q rs q (M:Int)) (firstSols s q rs M):=by
 unfold impl_firstSolutions.f
 have h16:=gridB_le (puzzleB_parts hp).1
 obtain ⟨b,hb⟩:=tell_first (M:=M) (by omega) (if puzzleFits s q rs q=true then seek (puzzleFits s q rs) s.toNat (s.toNat * s.toNat) (s.toNat * s.toNat) q else []) [] (fun x hx=>by
  split at hx
  ·have:=seek_len _ _ hx;omega
  ·cases hx) h0
 have:=run_tell (impl_firstSolutions.T (M:Int)) hp hq hl hr [] _ hb
 refine (show firstSols s q rs M=_ from ?_) ▸ this
 unfold firstSols
 split
 ·simp
 ·simp

end Go.Proofs.Ytmjbnghhfadapaa.Pure
namespace Go.Proofs.Ytmjbnghhfadapaa.Pure
set_option linter.unusedSimpArgs false
set_option linter.unusedVariables false
open Go.RowKit Go.Proofs.YtmjbnghhfadapaaW.PrintWords Go.Proofs.YtmjbnghhfadapaaW.PrintMore

def trV (f:List Int→Int→List Int × Int)(g:List Int)(n i:Nat)(v:Int):Nat→Int→List Int × Int
 | 0,left=>([],left)
 | m + 1,left=>if freeB g n i v n=true then (if 0 < (f (g.set i v) left).1.length then f (g.set i v) left else trV f g n i (v + 1) m (f (g.set i v) left).2) else trV f g n i (v + 1) m left
def srch (n N:Nat):Nat→List Int→Int→List Int × Int
 | 0,g,left=>if left=0 then (g,left) else ([],left - 1)
 | d + 1,g,left=>trV (srch n N d) g n (N - (d + 1)) 1 n left

end Go.Proofs.Ytmjbnghhfadapaa.Pure
namespace Go.Proofs.Ytmjbnghhfadapaa.Pure
set_option linter.unusedSimpArgs false
set_option linter.unusedVariables false
open Go.RowKit Go.Proofs.YtmjbnghhfadapaaW.PrintWords Go.Proofs.YtmjbnghhfadapaaW.PrintMore Go.Proofs.Ytmjbnghhfadapaa.P


theorem l5loop_ev {fits:Nat→List Int→Option Bool}{f:Nat→List Int→List (List Int)→Option (List (List Int))}{P:List Int→Bool}{F:List Int→List (List Int)}{g:List Int}{i M:Nat}:∀ (m:Nat) (v:Int) (out:List (List Int)),
  (∀ u,v≤u→u < v + m→Ev (fun k=>fits k (g.set i u)) (P (g.set i u))) →
  (∀ u,v≤u→u < v + m→∀ o:List (List Int),o.length < M→Ev (fun k=>f k (g.set i u) o) (o ++ (F (g.set i u)).take (M - o.length))) →
  out.length≤M→Ev (fun k=>spec_l5Search.loop (fits k) (f k) g i (M:Int) m v out) (out ++ (seekV P F g i v m).take (M - out.length))
 | 0,v,out,_,_,_=>by
  unfold spec_l5Search.loop seekV
  rw [List.take_nil,List.append_nil]
  exact Ev.now _
 | m + 1,v,out,h1,h2,hl=>by
  unfold spec_l5Search.loop seekV
  by_cases hlt:out.length < M
  ·have hlt2:(out.length:Int) < (M:Int):=by omega
   simp only [hlt2,if_true]
   refine Ev.bind (h1 v (Int.le_refl _) (by omega)) ?_
   cases hb:P (g.set i v) with
   | false =>
    simp only [Bool.false_eq_true,if_false,List.nil_append]
    exact l5loop_ev m (v + 1) out (fun u a b=>h1 u (by omega) (by omega)) (fun u a b=>h2 u (by omega) (by omega)) hl
   | true =>
    simp only [if_true]
    refine Ev.bind (h2 v (Int.le_refl _) (by omega) out hlt) ?_
    have e:out ++ (F (g.set i v) ++ seekV P F g i (v + 1) m).take (M - out.length)=(out ++ (F (g.set i v)).take (M - out.length)) ++ (seekV P F g i (v + 1) m).take (M - (out ++ (F (g.set i v)).take (M - out.length)).length):=by
     rw [List.take_append,List.append_assoc,List.length_append,List.length_take]
     congr 3
     omega
    rw [e]
    exact l5loop_ev m (v + 1) _ (fun u a b=>h1 u (by omega) (by omega)) (fun u a b=>h2 u (by omega) (by omega)) (by rw [List.length_append,List.length_take];omega)
  ·have hlt2:¬ (out.length:Int) < (M:Int):=by omega
   simp only [hlt2,if_false]
   rw [show M - out.length=0 by omega,List.take_zero,List.append_nil]
   exact Ev.now _
theorem l5Search_ev {s:Int}{q:List Int}{rs:List S73}(hp:puzzleB s q rs=true)(hr:∀ x∈rs,x.f1.length≤1048576){M:Nat}(hM:M≤1000):∀ (d:Nat) (g:List Int) (out:List (List Int)),d≤s.toNat * s.toNat→gridB g s=true→out.length < M→Ev (fun k=>spec_l5Search.srch k s q rs (M:Int) (s.toNat * s.toNat) d g out) (out ++ (seek (puzzleFits s q rs) s.toNat (s.toNat * s.toNat) d g).take (M - out.length))
 | 0,g,out,_,_,hl=>by
  unfold spec_l5Search.srch seek
  have:out.length≤100000:=by omega
  simp only [this,if_true]
  rw [List.take_of_length_le (by simp;omega)]
  exact Ev.now _
 | d + 1,g,out,hd,hg,hl=>by
  unfold spec_l5Search.srch seek
  have hi:((s.toNat * s.toNat:Nat):Int) - ((d + 1:Nat):Int)=((s.toNat * s.toNat - (d + 1):Nat):Int):=by omega
  simp only [hi,Int.toNat_natCast]
  by_cases h0:0 < rd g ((s.toNat * s.toNat - (d + 1):Nat):Int)
  ·simp only [h0,if_true]
   exact l5Search_ev hp hr hM d g out (by omega) hg hl
  ·simp only [h0,if_false]
   have hs:=(size_or (gridB_size hg)).2
   refine l5loop_ev (P:=puzzleFits s q rs) s.toNat 1 out (fun u a b=>?_) (fun u a b o ho=>?_) (by omega)
   ·have hg2:=grid_set hg (s.toNat * s.toNat - (d + 1)) (v:=u) (by omega) (by omega)
    rw [fits_eq hp hg2]
    exact l5Fits_ev hp hg2 hr
   ·exact l5Search_ev hp hr hM d _ o (by omega) (grid_set hg (s.toNat * s.toNat - (d + 1)) (v:=u) (by omega) (by omega)) ho
theorem l5All_ev (s:Int)(q:List Int)(rs:List S73)(M:Nat)(h0:0 < M)(hM:M≤1000)(hq:q.length≤1048576)(hl:rs.length≤1048576)(hr:∀ x∈rs,x.f1.length≤1048576):Ev (fun k=>spec_l5All.f k s q rs (M:Int)) (firstSols s q rs M):=by
 unfold spec_l5All.f firstSols
 refine Ev.bind (specPuzzleFits_ev s q rs q hq hl hr hq) ?_
 by_cases hf:puzzleFits s q rs q=true
 ·obtain ⟨hp,hg,_⟩:=fits_parts hf
  have h16:=gridB_le hg
  have hs:=size_or (gridB_size hg)
  have hc:q.length≤100000∧s≤1000:=⟨by omega,by omega⟩
  simp only [hf,hc,and_self,if_true]
  have:=l5Search_ev hp hr hM (s.toNat * s.toNat) q [] (Nat.le_refl _) hg h0
  rw [grid_len hg]
  simpa using this
 ·simp only [hf,if_false]
  exact Ev.now _

end Go.Proofs.Ytmjbnghhfadapaa.Pure
namespace Go.Proofs.Ytmjbnghhfadapaa.Pure
set_option linter.unusedSimpArgs false
set_option linter.unusedVariables false
open Go.RowKit Go.Proofs.YtmjbnghhfadapaaW.PrintWords Go.Proofs.YtmjbnghhfadapaaW.PrintMore Go.Proofs.Ytmjbnghhfadapaa.P


def countSols (s:Int)(q:List Int)(rs:List S73)(m:Int):Int:=if puzzleB s q rs=true∧1≤m∧m≤600 then ((firstSols s q rs m.toNat).length:Int) else -1
def oneB (s:Int)(q:List Int)(rs:List S73):Bool:=decide ((firstSols s q rs 2).length=1)
theorem puzzle_set {s:Int}{q:List Int}{rs:List S73}(h:puzzleB s q rs=true)(i:Nat){v:Int}(h0:0≤v)(h1:v≤s):puzzleB s (q.set i v) rs=true:=by
 unfold puzzleB at h ⊢
 rw [Bool.and_eq_true] at h
 rw [grid_set h.1 i h0 h1,h.2];rfl
theorem implCountSolutions_ev (s:Int)(q:List Int)(rs:List S73)(m:Int)(hq:q.length≤1048576)(hl:rs.length≤1048576)(hr:∀ x∈rs,x.f1.length≤1048576):Ev (fun k=>impl_CountSolutions.f k s q rs m) (countSols s q rs m):=by
 unfold impl_CountSolutions.f countSols
 refine Ev.bind (implPuzzleValid_ev s q rs hq hl hr) ?_
 by_cases hp:puzzleB s q rs=true
 ·simp only [hp,if_true,true_and]
  by_cases h1:m < 1
  ·have h1':¬ 1≤m:=by omega
   simp only [h1,h1',if_true,false_and,if_false]
   exact Ev.now _
  ·have h1':1≤m:=by omega
   by_cases h2:m > 600
   ·have h2':¬ m≤600:=by omega
    simp only [h1,h2,h2',if_true,and_false,if_false]
    exact Ev.now _
   ·have h2':m≤600:=by omega
    simp only [h1,h1',h2,h2',if_true,and_self,if_false]
    obtain ⟨n,rfl⟩:=Int.eq_ofNat_of_zero_le (by omega:0≤m)
    refine Ev.bind (firstSolutions_ev s q rs n (by omega) (by omega) hp hq hl hr) ?_
    exact Ev.now _
 ·simp only [hp,if_false,false_and]
  exact Ev.now _
theorem l10One_ev (s:Int)(q:List Int)(rs:List S73)(hq:q.length≤1048576)(hl:rs.length≤1048576)(hr:∀ x∈rs,x.f1.length≤1048576):Ev (fun k=>spec_l10One.f k s q rs) (oneB s q rs):=by
 unfold spec_l10One.f oneB
 refine Ev.bind (l5All_ev s q rs 2 (by omega) (by omega) hq hl hr) ?_
 have e:(((firstSols s q rs 2).length:Int) == 1)=decide ((firstSols s q rs 2).length=1):=by
  by_cases h:(firstSols s q rs 2).length=1
  ·rw [h];rfl
  ·rw [decide_eq_false h];exact beq_eq_false_iff_ne.2 (by omega)
 rw [e]
 exact Ev.now _
theorem onlyOne_ev (s:Int)(q:List Int)(rs:List S73)(hq:q.length≤1048576)(hl:rs.length≤1048576)(hr:∀ x∈rs,x.f1.length≤1048576):Ev (fun k=>impl_onlyOne.f k s q rs) (puzzleB s q rs && oneB s q rs):=by
 unfold impl_onlyOne.f oneB
 refine Ev.bind (implCountSolutions_ev s q rs 2 hq hl hr) ?_
 have e:(countSols s q rs 2 == 1)=(puzzleB s q rs && decide ((firstSols s q rs 2).length=1)):=by
  unfold countSols
  by_cases hp:puzzleB s q rs=true
  ·rw [if_pos ⟨hp,by omega,by omega⟩,hp,Bool.true_and]
   show (((firstSols s q rs 2).length:Int) == 1)=_
   by_cases h:(firstSols s q rs 2).length=1
   ·rw [h];rfl
   ·rw [decide_eq_false h];exact beq_eq_false_iff_ne.2 (by omega)
  ·rw [if_neg (fun h=>hp h.1),eq_false_of_ne_true hp];rfl
 rw [e]
 exact Ev.now _
theorem l10Without_ev (s:Int)(q:List Int)(rs:List S73)(a:Int)(hq:q.length≤1048576)(h0:0≤a)(h1:a < (q.length:Int)):Ev (fun _=>spec_l10Without.f s q rs a) (s,q.set a.toNat 0,rs):=by
 unfold spec_l10Without.f
 have h2:([]:List Int).length + q.length < 17592186044416:=by simp;omega
 simp only [Option.bind_some,h2,if_true,List.nil_append,h0,h1]
 exact Ev.now _
theorem copyPuzzle_ev (s:Int)(q:List Int)(rs:List S73)(hq:q.length≤1048576)(hl:rs.length≤1048576)(hr:∀ x∈rs,x.f1.length≤1048576):Ev (fun k=>impl_copyPuzzle.f k s q rs) (s,q,rs):=by
 unfold impl_copyPuzzle.f
 have hc:∀ l:List Int,l.length≤1048576→slices_Clone_int_int.f l=some l:=by
  intro l h;unfold slices_Clone_int_int.f;rw [if_pos (by omega)]
 simp only [hc q hq,Option.bind_some]
 refine Ev.range (L:=fun k (x:List S73) j=>impl_copyPuzzle.l0 k rs (rs.length:Int) j s q x) (R:=fun _ _=>(s,q,rs)) (N:=rs.length) (fun x j=>x=rs.take j) ?_ ?_ [] 0 (Nat.zero_le _) rfl
 ·rintro x rfl
  refine Ev.step (fun k=>impl_copyPuzzle.l0.eq_2 _ _ _ _ _ _ k) ?_
  simp only [Int.lt_irrefl,if_false,List.take_length]
  exact Ev.now _
 ·rintro x j hj rfl ih
  refine Ev.step (fun k=>impl_copyPuzzle.l0.eq_2 _ _ _ _ _ _ k) ?_
  have h1:(j:Int) < (rs.length:Int):=by omega
  have h2:(0:Int)≤(j:Int):=Int.natCast_nonneg j
  have h3:(rs.take j).length < 3518437208883:=by rw [List.length_take];omega
  simp only [h1,h2,h3,if_true,rdI rs hj,hc _ (hr _ (List.getElem_mem hj)),Option.bind_some,w64n (by omega:j < 9000000000000000000)]
  refine ih _ ?_
  rw [List.take_succ_eq_append_getElem hj]
theorem without_ev (s:Int)(q:List Int)(rs:List S73)(cs:List Int)(hq:q.length≤1048576)(hl:rs.length≤1048576)(hr:∀ x∈rs,x.f1.length≤1048576)(hcl:cs.length≤1000)(hc:∀ c∈cs,0≤c∧c < (q.length:Int)):Ev (fun k=>impl_without.f k s q rs cs) (s,cs.foldl (fun g c=>g.set c.toNat 0) q,rs):=by
 unfold impl_without.f
 refine Ev.bind (copyPuzzle_ev s q rs hq hl hr) ?_
 refine Ev.range (L:=fun k (x:List Int) j=>impl_without.l0 k cs (cs.length:Int) j s x rs) (R:=fun _ _=>(s,cs.foldl (fun g c=>g.set c.toNat 0) q,rs)) (N:=cs.length) (fun x j=>x=(cs.take j).foldl (fun g c=>g.set c.toNat 0) q∧x.length=q.length) ?_ ?_ q 0 (Nat.zero_le _) ⟨rfl,rfl⟩
 ·rintro x ⟨rfl,_⟩
  refine Ev.step (fun k=>impl_without.l0.eq_2 _ _ _ _ _ _ k) ?_
  simp only [Int.lt_irrefl,if_false,List.take_length]
  exact Ev.now _
 ·rintro x j hj ⟨hx,hxl⟩ ih
  refine Ev.step (fun k=>impl_without.l0.eq_2 _ _ _ _ _ _ k) ?_
  have h1:(j:Int) < (cs.length:Int):=by omega
  have h2:(0:Int)≤(j:Int):=Int.natCast_nonneg j
  have h3:=hc cs[j] (List.getElem_mem hj)
  have h4:rd cs (j:Int)=cs[j]:=rd_lt hj
  simp only [h1,h2,h4,hxl,h3.1,h3.2,if_true,w64n (by omega:j < 9000000000000000000)]
  refine ih _ ⟨?_,by rw [List.length_set];exact hxl⟩
  rw [List.take_succ_eq_append_getElem hj,List.foldl_append,hx]
  rfl

end Go.Proofs.Ytmjbnghhfadapaa.Pure
namespace Go.Proofs.Ytmjbnghhfadapaa.Pure
set_option linter.unusedSimpArgs false
set_option linter.unusedVariables false
open Go.RowKit Go.Proofs.YtmjbnghhfadapaaW.PrintWords Go.Proofs.YtmjbnghhfadapaaW.PrintMore Go.Proofs.Ytmjbnghhfadapaa.P


def evenFrom (s:Int)(rs:List S73):Nat→Nat→List Int→List Int
 | 0,_,x=>x
 | d + 1,k,x=>evenFrom s rs d (k + 1) (if 0 < rd x (k:Int) + rd x ((x.length - 1 - k:Nat):Int)∧oneB s ((x.set k 0).set (x.length - 1 - k) 0) rs=true then (x.set k 0).set (x.length - 1 - k) 0 else x)
def makeEven (s:Int)(q:List Int)(rs:List S73):Int × List Int × List S73 × Bool:=if puzzleB s q rs=true∧oneB s q rs=true then (s,evenFrom s rs ((q.length + 1) / 2) 0 q,rs,true) else (0,[],[],false)
theorem implMakeEven_ev (s:Int)(q:List Int)(rs:List S73)(hq:q.length≤1048576)(hl:rs.length≤1048576)(hr:∀ x∈rs,x.f1.length≤1048576):Ev (fun k=>impl_MakeEven.f k s q rs) (makeEven s q rs):=by
 unfold impl_MakeEven.f makeEven
 refine Ev.bind (onlyOne_ev s q rs hq hl hr) ?_
 by_cases hp:puzzleB s q rs=true
 ·by_cases h1:oneB s q rs=true
  ·simp only [hp,h1,Bool.and_self,if_true,and_self]
   refine Ev.bind (copyPuzzle_ev s q rs hq hl hr) ?_
   have h16:=gridB_le (puzzleB_parts hp).1
   have main:∀ (d k:Nat) (x:List Int),k + d=(q.length + 1) / 2→x.length=q.length→puzzleB s x rs=true→Ev (fun n=>impl_MakeEven.l0 n (q.length:Int) (k:Int) s x rs) (s,evenFrom s rs d k x,rs,true):=by
    intro d
    induction d with
    | zero =>
     intro k x hk hxl hpx
     refine Ev.step (fun n=>impl_MakeEven.l0.eq_2 _ _ _ _ _ n) ?_
     have w1:wrap64 (wrap64 ((q.length:Int) - 1) - (k:Int))=(q.length:Int) - 1 - k:=by rw [w64 (x:=(q.length:Int) - 1) (by omega) (by omega),w64 (by omega) (by omega)]
     have c:¬ (k:Int)≤(q.length:Int) - 1 - k:=by omega
     simp only [w1,c,if_false]
     exact Ev.now _
    | succ d ih =>
     intro k x hk hxl hpx
     refine Ev.step (fun n=>impl_MakeEven.l0.eq_2 _ _ _ _ _ n) ?_
     have w1:wrap64 (wrap64 ((q.length:Int) - 1) - (k:Int))=((x.length - 1 - k:Nat):Int):=by rw [w64 (x:=(q.length:Int) - 1) (by omega) (by omega),w64 (by omega) (by omega)];omega
     have c:(k:Int)≤((x.length - 1 - k:Nat):Int):=by omega
     have c0:(0:Int)≤(k:Int):=Int.natCast_nonneg _
     have c1:(k:Int) < (x.length:Int):=by omega
     have c2:(0:Int)≤((x.length - 1 - k:Nat):Int):=Int.natCast_nonneg _
     have c3:((x.length - 1 - k:Nat):Int) < (x.length:Int):=by omega
     have hg:=(puzzleB_parts hpx).1
     have m1:=gridB_mem hg _ (rd_mem c0 c1)
     have m2:=gridB_mem hg _ (rd_mem c2 c3)
     have hs0:0≤s:=by have:=sizeOkB_iff.1 (gridB_size hg);omega
     simp only [w1,c,c0,c1,c2,c3,if_true]
     have hskip:∀ y,y=false→rd x (k:Int)=0∧rd x ((x.length - 1 - k:Nat):Int)=0→Ev (fun n=>impl_MakeEven.l0 n (q.length:Int) (wrap64 ((k:Int) + 1)) s x rs) (s,evenFrom s rs (d + 1) k x,rs,true):=by
      intro _ _ hz
      unfold evenFrom
      rw [if_neg (by rw [hz.1,hz.2];exact fun h=>absurd h.1 (by decide)),w64n (by omega:k < 9000000000000000000)]
      exact ih (k + 1) x (by omega) hxl hpx
     have hgo:¬ (rd x (k:Int)=0∧rd x ((x.length - 1 - k:Nat):Int)=0)→Ev (fun n=>(impl_without.f n s x rs [(k:Int),((x.length - 1 - k:Nat):Int)]).bind fun bt=>(impl_onlyOne.f n bt.1 bt.2.1 bt.2.2).bind fun t=>if t=true then impl_MakeEven.l0 n (q.length:Int) (wrap64 ((k:Int) + 1)) bt.1 bt.2.1 bt.2.2 else impl_MakeEven.l0 n (q.length:Int) (wrap64 ((k:Int) + 1)) s x rs) (s,evenFrom s rs (d + 1) k x,rs,true):=by
      intro hz
      refine Ev.bind (without_ev s x rs _ (by omega) hl hr (by simp) (fun e he=>by
       simp only [List.mem_cons,List.not_mem_nil,or_false] at he
       rcases he with rfl|rfl
       ·exact ⟨c0,c1⟩
       ·exact ⟨c2,c3⟩)) ?_
      simp only [List.foldl_cons,List.foldl_nil,Int.toNat_natCast]
      have hpy:=puzzle_set (puzzle_set hpx k (Int.le_refl 0) hs0) (x.length - 1 - k) (Int.le_refl 0) hs0
      refine Ev.bind (onlyOne_ev s _ rs (by rw [List.length_set,List.length_set];omega) hl hr) ?_
      rw [hpy,Bool.true_and]
      unfold evenFrom
      have hpos:0 < rd x (k:Int) + rd x ((x.length - 1 - k:Nat):Int):=by omega
      by_cases ho:oneB s ((x.set k 0).set (x.length - 1 - k) 0) rs=true
      ·simp only [ho,hpos,and_self,if_true,w64n (by omega:k < 9000000000000000000)]
       exact ih (k + 1) _ (by omega) (by rw [List.length_set,List.length_set];exact hxl) hpy
      ·simp only [ho,and_false,if_false,w64n (by omega:k < 9000000000000000000),Bool.false_eq_true]
       exact ih (k + 1) x (by omega) hxl hpx
     by_cases hz1:rd x (k:Int)=0
     ·by_cases hz2:rd x ((x.length - 1 - k:Nat):Int)=0
      ·simp only [hz1,hz2,if_true,beq_self_eq_true]
       refine Ev.step (fun n=>impl_MakeEven.j1.eq_2 _ _ _ _ _ _ n) ?_
       simp only [if_true]
       exact hskip false rfl ⟨hz1,hz2⟩
      ·have hb:(rd x ((x.length - 1 - k:Nat):Int) == 0)=false:=beq_eq_false_iff_ne.2 hz2
       simp only [hz1,hb,if_true]
       refine Ev.step (fun n=>impl_MakeEven.j1.eq_2 _ _ _ _ _ _ n) ?_
       simp only [Bool.false_eq_true,if_false,w1]
       exact hgo (fun h=>hz2 h.2)
     ·simp only [hz1,if_false]
      refine Ev.step (fun n=>impl_MakeEven.j1.eq_2 _ _ _ _ _ _ n) ?_
      simp only [Bool.false_eq_true,if_false,w1]
      exact hgo (fun h=>hz1 h.1)
   exact main ((q.length + 1) / 2) 0 q (by omega) rfl hp
  ·simp only [hp,h1,Bool.and_false,Bool.false_eq_true,if_false,and_false,eq_false_of_ne_true h1]
   exact Ev.now _
 ·simp only [hp,Bool.false_and,Bool.false_eq_true,if_false,false_and,eq_false_of_ne_true hp]
  exact Ev.now _

end Go.Proofs.Ytmjbnghhfadapaa.Pure
namespace Go.Proofs.Ytmjbnghhfadapaa.Pure
set_option linter.unusedSimpArgs false
set_option linter.unusedVariables false
open Go.RowKit Go.Proofs.YtmjbnghhfadapaaW.PrintWords Go.Proofs.YtmjbnghhfadapaaW.PrintMore Go.Proofs.Ytmjbnghhfadapaa.P


theorem ownRules_ev (rs:List S73)(hl:rs.length≤1048576)(hr:∀ x∈rs,x.f1.length≤1048576):Ev (fun k=>spec_l1OwnRuleList.f k rs) rs:=by
 unfold spec_l1OwnRuleList.f
 refine Ev.range (L:=fun k (x:List S73) j=>spec_l1OwnRuleList.l0 k rs x j) (R:=fun _ _=>rs) (N:=rs.length) (fun x j=>x=rs.take j) ?_ ?_ [] 0 (Nat.zero_le _) rfl
 ·rintro x rfl
  refine Ev.step (fun k=>spec_l1OwnRuleList.l0.eq_2 _ _ _ k) ?_
  simp only [Int.lt_irrefl,if_false,List.take_length]
  exact Ev.now _
 ·rintro x j hj rfl ih
  refine Ev.step (fun k=>spec_l1OwnRuleList.l0.eq_2 _ _ _ k) ?_
  have h1:(j:Int) < (rs.length:Int):=by omega
  have h2:(0:Int)≤(j:Int):=Int.natCast_nonneg j
  have h3:(rs.take j).length < 3518437208883:=by rw [List.length_take];omega
  have h4:=hr _ (List.getElem_mem hj)
  have h5:([]:List Int).length + rs[j].f1.length < 17592186044416:=by simp;omega
  unfold spec_l1OwnRule.f
  simp only [h1,h2,h3,h5,if_true,rdI rs hj,Option.bind_some,List.nil_append,w64n (by omega:j < 9000000000000000000)]
  refine ih _ ?_
  rw [List.take_succ_eq_append_getElem hj]
theorem ownPuzzle_ev (s:Int)(q:List Int)(rs:List S73)(hq:q.length≤1048576)(hl:rs.length≤1048576)(hr:∀ x∈rs,x.f1.length≤1048576):Ev (fun k=>spec_l1OwnPuzzle.f k s q rs) (s,q,rs):=by
 unfold spec_l1OwnPuzzle.f
 have h5:([]:List Int).length + q.length < 17592186044416:=by simp;omega
 simp only [h5,if_true,Option.bind_some,List.nil_append]
 refine Ev.bind (ownRules_ev rs hl hr) ?_
 exact Ev.now _

end Go.Proofs.Ytmjbnghhfadapaa.Pure
namespace Go.Proofs.Ytmjbnghhfadapaa.Pure
set_option linter.unusedSimpArgs false
set_option linter.unusedVariables false
open Go.RowKit Go.Proofs.YtmjbnghhfadapaaW.PrintWords Go.Proofs.YtmjbnghhfadapaaW.PrintMore Go.Proofs.Ytmjbnghhfadapaa.P


theorem specMakeEven_ev (s:Int)(q:List Int)(rs:List S73)(hq:q.length≤1048576)(hl:rs.length≤1048576)(hr:∀ x∈rs,x.f1.length≤1048576):Ev (fun k=>spec_MakeEven.f k s q rs) (makeEven s q rs):=by
 unfold spec_MakeEven.f makeEven
 refine Ev.bind (ownPuzzle_ev s q rs hq hl hr) ?_
 refine Ev.bind (specPuzzleValid_ev s q rs hq hl hr) ?_
 by_cases hp:puzzleB s q rs=true
 ·simp only [hp,if_true]
  refine Ev.bind (l10One_ev s q rs hq hl hr) ?_
  refine Ev.step (fun n=>spec_MakeEven.j0.eq_2 _ _ _ _ n) ?_
  by_cases h1:oneB s q rs=true
  ·have a1:([]:List Int).length + q.length < 17592186044416:=by simp;omega
   have a2:([]:List S73).length + rs.length < 3518437208883:=by simp;omega
   have w0:wrap64 ((q.length:Int) - 1)=(q.length:Int) - 1:=w64 (by omega) (by omega)
   simp only [h1,Bool.not_true,and_self,if_true,Bool.false_eq_true,if_false,Option.bind_some,a1,a2,List.nil_append,w0]
   have main:∀ (d k:Nat) (x:List Int),k + d=(q.length + 1) / 2→x.length=q.length→puzzleB s x rs=true→Ev (fun n=>spec_MakeEven.l0 n ((q.length:Int) - 1) (k:Int) s x rs) (s,evenFrom s rs d k x,rs,true):=by
    intro d
    induction d with
    | zero =>
     intro k x hk hxl hpx
     refine Ev.step (fun n=>spec_MakeEven.l0.eq_2 _ _ _ _ _ n) ?_
     have w1:wrap64 ((q.length:Int) - 1 - (k:Int))=(q.length:Int) - 1 - k:=w64 (by omega) (by omega)
     have c:¬ (k:Int)≤(q.length:Int) - 1 - k:=by omega
     simp only [w1,c,if_false]
     exact Ev.now _
    | succ d ih =>
     intro k x hk hxl hpx
     refine Ev.step (fun n=>spec_MakeEven.l0.eq_2 _ _ _ _ _ n) ?_
     have w1:wrap64 ((q.length:Int) - 1 - (k:Int))=((x.length - 1 - k:Nat):Int):=by rw [w64 (by omega) (by omega)];omega
     have c:(k:Int)≤((x.length - 1 - k:Nat):Int):=by omega
     have c0:(0:Int)≤(k:Int):=Int.natCast_nonneg _
     have c1:(k:Int) < (x.length:Int):=by omega
     have c2:(0:Int)≤((x.length - 1 - k:Nat):Int):=Int.natCast_nonneg _
     have c3:((x.length - 1 - k:Nat):Int) < (x.length:Int):=by omega
     have hg:=(puzzleB_parts hpx).1
     have m1:=gridB_mem hg _ (rd_mem c0 c1)
     have m2:=gridB_mem hg _ (rd_mem c2 c3)
     have hs4:=sizeOkB_iff.1 (gridB_size hg)
     have hs0:0≤s:=by omega
     have ws:wrap64 (rd x (k:Int) + rd x ((x.length - 1 - k:Nat):Int))=rd x (k:Int) + rd x ((x.length - 1 - k:Nat):Int):=w64 (by omega) (by omega)
     have hpy:=puzzle_set (puzzle_set hpx k (Int.le_refl 0) hs0) (x.length - 1 - k) (Int.le_refl 0) hs0
     simp only [w1,c,if_true]
     refine Ev.bind (l10Without_ev s x rs (k:Int) (by omega) c0 c1) ?_
     refine Ev.bind (l10Without_ev s (x.set k 0) rs ((x.length - 1 - k:Nat):Int) (by rw [List.length_set];omega) c2 (by rw [List.length_set];exact c3)) ?_
     simp only [c0,c1,c2,c3,if_true,ws,Int.toNat_natCast,w64n (by omega:k < 9000000000000000000)]
     unfold evenFrom
     by_cases hpos:rd x (k:Int) + rd x ((x.length - 1 - k:Nat):Int) > 0
     ·have hpos':0 < rd x (k:Int) + rd x ((x.length - 1 - k:Nat):Int):=hpos
      simp only [hpos,if_true]
      refine Ev.bind (l10One_ev s _ rs (by rw [List.length_set,List.length_set];omega) hl hr) ?_
      by_cases ho:oneB s ((x.set k 0).set (x.length - 1 - k) 0) rs=true
      ·simp only [ho,hpos',and_self,if_true]
       exact ih (k + 1) _ (by omega) (by rw [List.length_set,List.length_set];exact hxl) hpy
      ·simp only [ho,and_false,if_false]
       exact ih (k + 1) x (by omega) hxl hpx
     ·have hpos':¬ 0 < rd x (k:Int) + rd x ((x.length - 1 - k:Nat):Int):=hpos
      simp only [hpos,hpos',false_and,if_false]
      exact ih (k + 1) x (by omega) hxl hpx
   exact main ((q.length + 1) / 2) 0 q (by omega) rfl hp
  ·simp only [eq_false_of_ne_true h1,Bool.not_false,if_true,Bool.false_eq_true,and_false,if_false]
   exact Ev.now _
 ·simp only [eq_false_of_ne_true hp,Bool.false_eq_true,if_false,false_and]
  refine Ev.step (fun n=>spec_MakeEven.j0.eq_2 _ _ _ _ n) ?_
  simp only [if_true]
  exact Ev.now _
theorem evenFrom_len (s:Int)(rs:List S73):∀ (d k:Nat) (x:List Int),(evenFrom s rs d k x).length=x.length
 | 0,_,_=>rfl
 | d + 1,k,x=>by
  unfold evenFrom
  rw [evenFrom_len s rs d]
  split
  ·rw [List.length_set,List.length_set]
  ·rfl
theorem makeEven_ok (s:Int)(q:List Int)(rs:List S73)(hq:q.length≤1048576)(hl:rs.length≤1048576)(hr:∀ x∈rs,x.f1.length≤1048576):(makeEven s q rs).2.1.length≤1048576∧(makeEven s q rs).2.2.1.length≤1048576∧∀ x∈(makeEven s q rs).2.2.1,x.f1.length≤1048576:=by
 unfold makeEven
 split
 ·exact ⟨by rw [evenFrom_len];exact hq,hl,hr⟩
 ·exact ⟨Nat.zero_le _,Nat.zero_le _,fun x hx=>by cases hx⟩

end Go.Proofs.Ytmjbnghhfadapaa.Pure
namespace Go.Proofs.Ytmjbnghhfadapaa.Pure
set_option linter.unusedSimpArgs false
set_option linter.unusedVariables false
open Go.RowKit Go.Proofs.YtmjbnghhfadapaaW.PrintWords Go.Proofs.YtmjbnghhfadapaaW.PrintMore Go.Proofs.Ytmjbnghhfadapaa.P


theorem markRuleS_ev:∀ (d n:Nat) (rs:List S73) (m:Int),n + d=rs.length→rs.length≤1048576→(∀ x∈rs,x.f1.length≤1048576)→0≤m→m≤2000000 * (n + 1:Nat)→∃ r,Ev (fun k=>laws_markRuleS.l0 k rs m (n:Int)) r∧0≤r.1∧r.1≤2000000 * (rs.length + 1:Nat)
 | 0,n,rs,m,hn,_,_,hm,hm2=>by
  refine ⟨(m,rs),Ev.step (fun k=>laws_markRuleS.l0.eq_2 _ _ _ k) ?_,hm,by rw [← hn];exact hm2⟩
  have h1:¬ (n:Int) < (rs.length:Int):=by omega
  simp only [h1,if_false]
  exact Ev.now _
 | d + 1,n,rs,m,hn,hl,hr,hm,hm2=>by
  have hlt:n < rs.length:=by omega
  have h1:(n:Int) < (rs.length:Int):=by omega
  have h0:(0:Int)≤(n:Int):=by omega
  have hx:=hr rs[n] (List.getElem_mem hlt)
  have e1:wrap64 (m + 1)=m + 1:=by unfold wrap64;omega
  have e2:wrap64 (m + 1 + (rs[n].f1.length:Int) + 1)=m + 1 + (rs[n].f1.length:Int) + 1:=by unfold wrap64;omega
  obtain ⟨r,he,hr0⟩:=markRuleS_ev d (n + 1) (rs.set n ⟨m,marks (m + 1) rs[n].f1.length,m + 1 + (rs[n].f1.length:Int)⟩) (m + 1 + (rs[n].f1.length:Int) + 1) (by rw [List.length_set];omega) (by rw [List.length_set];exact hl) (fun x hx'=>by
   rcases List.mem_or_eq_of_mem_set hx' with hx' | rfl
   ·exact hr x hx'
   ·rw [marks_length];exact hx) (by omega) (by push_cast at hm2 ⊢;omega)
  rw [List.length_set] at hr0
  refine ⟨r,Ev.step (fun k=>laws_markRuleS.l0.eq_2 _ _ _ k) ?_,hr0⟩
  simp only [h1,h0,if_true,rdI rs hlt,e1]
  refine Ev.bind (markIntS_ev rs[n].f1 (m + 1) (by omega) (by omega) (by omega)) ?_
  simp only [e2,w64n (by omega:n < 9000000000000000000),Int.toNat_natCast]
  exact he
theorem markPuzzle_ev (s:Int)(g:List Int)(rs:List S73)(hg:g.length≤1048576)(hl:rs.length≤1048576)(hr:∀ x∈rs,x.f1.length≤1048576):∃ r,Ev (fun k=>laws_markPuzzle.f k s g rs 1) r∧¬ r.1 < 0∧r.1≤1000000000000000000:=by
 obtain ⟨r,he,hr0⟩:=markRuleS_ev rs.length 0 rs (1 + (g.length:Int)) (by omega) hl hr (by omega) (by push_cast;omega)
 refine ⟨(r.1,marks 1 g.length,r.2),?_,by simp only;omega,by simp only;push_cast at hr0;omega⟩
 unfold laws_markPuzzle.f
 refine Ev.bind (markIntS_ev g 1 (by omega) (by decide) (by decide)) ?_
 refine Ev.bind (a:=r) ?_ ?_
 ·unfold laws_markRuleS.f;exact he
 ·exact Ev.now _

end Go.Proofs.Ytmjbnghhfadapaa.Pure
namespace Go.Proofs.Ytmjbnghhfadapaa.Pure
set_option linter.unusedSimpArgs false
set_option linter.unusedVariables false
open Go.RowKit Go.Proofs.YtmjbnghhfadapaaW.PrintWords Go.Proofs.YtmjbnghhfadapaaW.PrintMore Go.Proofs.Ytmjbnghhfadapaa.P


theorem FnExactMakeEven (s:Int)(_:(Lit.int .i64 s).wf=true)(g:List Int)(hg:g.length≤9223372036854775807)(_:∀ x∈g,(Lit.int .i64 x).wf=true)(rs:List S70)(hl:rs.length≤9223372036854775807)(hr:∀ x∈rs,RuleWf x):∃ k,laws_FnExactMakeEven.f k s g rs=some true:=by
 apply Ev.rounds
 unfold laws_FnExactMakeEven.f
 obtain ⟨r,he,hb⟩:=szPuzzle_ev s g rs hg hl (fun x hx=>(hr x hx).2.1)
 refine Ev.bind he ?_
 by_cases h0:r < 0
 ·simp only [h0,if_true];exact Ev.now _
 ·obtain ⟨hg',hl',hr'⟩:=hb (by omega)
  have hl2:(rs.map convR).length≤1048576:=by rw [List.length_map];exact hl'
  have hr2:∀ x∈rs.map convR,x.f1.length≤1048576:=by
   intro x hx
   obtain ⟨y,hy,rfl⟩:=List.mem_map.1 hx
   exact hr' y hy
  simp only [h0,if_false]
  have hto:=toPuzzle_ev s g rs hg' hl' hr'
  obtain ⟨m1,m2,m3⟩:=makeEven_ok s g (rs.map convR) hg' hl2 hr2
  have hsp:=specMakeEven_ev s g (rs.map convR) hg' hl2 hr2
  have him:=implMakeEven_ev s g (rs.map convR) hg' hl2 hr2
  generalize makeEven s g (rs.map convR)=E at m1 m2 m3 hsp him
  obtain ⟨e0,e1,e2,e3⟩:=E
  have heq:=eqPuzzle_ev e0 e1 e2 m1 m2 m3
  have hmk:=markPuzzle_is e0 e1 e2 m1 m2 m3
  have hhd:=heldPuzzle_is e0 e1 e2 m1 m2 m3
  have hnn:¬ (nextM (1 + (e1.length:Int)) e2 < 0):=by have:=nextM_ge e2 (1 + (e1.length:Int));omega
  refine Ev.bind hto ?_
  refine Ev.bind hsp ?_
  refine Ev.bind hto ?_
  refine Ev.bind him ?_
  refine Ev.bind heq ?_
  simp only [if_true,bne_self_eq_false,Bool.false_eq_true,if_false]
  refine Ev.bind hto ?_
  refine Ev.bind (eqPuzzle_ev s g _ hg' hl2 hr2) ?_
  simp only [if_true]
  obtain ⟨q,hq,hq0,_⟩:=markPuzzle_ev s g _ hg' hl2 hr2
  refine Ev.bind hq ?_
  simp only [hq0,if_false]
  refine Ev.bind heq ?_
  simp only [if_true,bne_self_eq_false,Bool.false_eq_true,if_false]
  refine Ev.bind hmk ?_
  refine Ev.bind hhd ?_
  simp only [hnn,if_false,bne_self_eq_false,Bool.false_eq_true]
  refine Ev.bind hto ?_
  refine Ev.bind him ?_
  refine Ev.bind heq ?_
  simp only [if_true,bne_self_eq_false,Bool.false_eq_true,if_false]
  refine Ev.bind hhd ?_
  simp only [hnn,if_false,bne_self_eq_false,Bool.false_eq_true]
  exact Ev.now _

end Go.Proofs.Ytmjbnghhfadapaa.Pure
