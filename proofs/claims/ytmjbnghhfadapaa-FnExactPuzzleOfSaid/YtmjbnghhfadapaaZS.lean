/- The plain side of the law FnExactPuzzleOf: what the functions come to, and that the law answers true. Conditions: as stated in each. -/
import Derived.Laws.BitsLemmas
import Derived.Lib.SmallJoins
import Derived.OpenShut
import Derived.Test.YtmjbnghhfadapaaZP1
import Derived.Test.YtmjbnghhfadapaaZP2
import Derived.Test.YtmjbnghhfadapaaZP3
import Derived.Test.YtmjbnghhfadapaaZP4
import Derived.Test.YtmjbnghhfadapaaZP5
import Derived.Test.YtmjbnghhfadapaaZW
namespace Go.Proofs.Ytmjbnghhfadapaa.Pure
set_option linter.unusedSimpArgs false
set_option linter.unusedVariables false
open Go.RowKit Go.Proofs.YtmjbnghhfadapaaW.PrintWords Go.Proofs.YtmjbnghhfadapaaW.PrintMore Go.Proofs.Ytmjbnghhfadapaa.P

theorem cellsOfRule:Try.prog.cellsOf 70=3:=by kernel_rfl
theorem cellsOfInt:Try.prog.cellsOf 3=1:=by kernel_rfl
theorem cellsOfInts:Try.prog.cellsOf 22=1:=by kernel_rfl
def RuleWf (x:S70):Prop:=(Lit.int .i64 x.f0).wf=true∧x.f1.length≤9223372036854775807∧(∀ y∈x.f1,(Lit.int .i64 y).wf=true)∧(Lit.int .i64 x.f2).wf=true
theorem ints_of {H:Type}{enc:TypeId × Value→H}{W:World}{n:Nat}{c:Value}{y:DataW H × List MemPlace}(h:DataW.trod enc Try.prog W 0 (fun _=>true) true n 22 [c]=some y) :
  ∃ (A:Option Addr) (k:Nat) (l:List Int),c= .slice A l.length k∧l.length≤k∧Kd.C (Kd.int .i64) W A l.length l∧l.length≤9223372036854775807∧∀ y∈l,(Lit.int .i64 y).wf=true:=by
 obtain ⟨A,len,k,zs,hc,w⟩:∃ A len k zs,c=Value.slice A len k∧((A=none∧len=0∧k=0∧zs=[])∨∃ x,A=some x∧len≤k∧k≤maxLen∧zs.length=k∧(∀ i,i < zs.length→W.cell? (x.add i)=some (.int .i64 (zs.getD i 0)))∧∀ n∈zs,(Lit.int .i64 n).wf=true):=by
  rcases Go.ChangeShapes.open_ints Try.underlying22 Try.underlying3 (by kernel_rfl) h with ⟨hcs,_⟩ | ⟨x,l,c',zs,hcs,_,hl,hm,hz,_,hcell,hwz⟩
  ·exact ⟨none,0,0,[],by simpa using hcs,.inl ⟨rfl,rfl,rfl,rfl⟩⟩
  ·exact ⟨some x,l,c',zs,by simpa using hcs,.inr ⟨_,rfl,hl,hm,by simpa using hz,hcell,hwz⟩⟩
 obtain ⟨l,rfl,hr,hm,hw,hcc⟩:=ReadsInt.ofRowC w
 exact ⟨A,k,l,hc,hcc,Kd.C_of_reads (d:=(0:Int)) (h1:=fun _=>rfl) hr,hm,hw⟩
theorem rule_of {H:Type}{enc:TypeId × Value→H}{W:World}{n:Nat}{cs:List Value}{y:DataW H × List MemPlace}(h:DataW.trod enc Try.prog W 0 (fun _=>true) true n 70 cs=some y) :
  ∃ (x:S70) (A:Option Addr) (c:Nat),cs=[.int .i64 x.f0,.slice A x.f1.length c,.int .i64 x.f2]∧x.f1.length≤c∧Kd.C (Kd.int .i64) W A x.f1.length x.f1∧RuleWf x:=by
 obtain ⟨y0,y1,y2,m,_,hl,h0,h1,h2⟩:=Go.Deep.trod_struct3 Try.underlying70 h
 rw [cellsOfRule] at hl
 match cs,hl with
 | [c0,c1,c2],_ =>
  simp only [cellsOfInt,cellsOfInts,List.drop_succ_cons,List.drop_zero,List.take_succ_cons,List.take_zero] at h0 h1 h2
  obtain ⟨a,e0,_,w0⟩:=DataW.trod_int Try.underlying3 h0
  obtain ⟨b,e2,_,w2⟩:=DataW.trod_int Try.underlying3 h2
  obtain ⟨A,k,l,e1,hk,hC,hm,hw⟩:=ints_of h1
  obtain rfl:c0= .int .i64 a:=by simpa using e0
  obtain rfl:c2= .int .i64 b:=by simpa using e2
  subst e1
  exact ⟨⟨a,l,b⟩,A,k,rfl,hk,hC,w0,hm,hw,w2⟩
theorem rules_of {H:Type}{enc:TypeId × Value→H}{W:World}{n:Nat}{c:Value}{y:DataW H × List MemPlace}(h:DataW.trod enc Try.prog W 0 (fun _=>true) true n 33 [c]=some y) :
  ∃ (A:Option Addr) (k:Nat) (l:List S70),c= .slice A l.length k∧l.length≤k∧Kd.C k70 W A l.length l∧l.length≤9223372036854775807∧∀ x∈l,RuleWf x:=by
 rcases Go.Deep.open_slice Try.underlying33 h with ⟨hcs,_⟩ | ⟨a,len,cap,m,q,D,Pl,hcs,_,hlc,hcm,hm,_,hi⟩
 ·exact ⟨none,0,[],by simpa using hcs,Nat.le_refl _,⟨rfl,by decide,fun h=>absurd h (by decide)⟩,by decide,fun x hx=>by cases hx⟩
 ·have hm':m=cap:=by simpa using hm
  have hall:∀ i,∃ x:S70,i < len→RuleWf x∧∃ cs:List Value,k70.K W x cs∧cs.length=3∧∀ j u,cs[j]?=some u→W.cell? (a.add (i * 3 + j))=some u:=by
   intro i
   by_cases hil:i < len
   ·obtain ⟨cs',hc,ht⟩:=hi i (by omega)
    rw [cellsOfRule] at hc
    obtain ⟨x,A,k,rfl,hk,hC,hwf⟩:=rule_of ht
    obtain ⟨_,hcl,hat⟩:=World.cells?_some hc
    refine ⟨x,fun _=>⟨hwf,_,k70_mk W x hk hC,rfl,fun j u hu=>?_⟩⟩
    have hj:j < 3:=by
     have:=(List.getElem?_eq_some_iff.1 hu).1
     simpa using this
    rw [← Go.Deep.add_add,hat j hj];exact hu
   ·exact ⟨⟨0,[],0⟩,fun h=>absurd h hil⟩
  obtain ⟨f,hf⟩:=Classical.axiomOfChoice hall
  have hlen:((List.range len).map f).length=len:=by rw [List.length_map,List.length_range]
  have hmax:len≤9223372036854775807:=Nat.le_trans hlc hcm
  refine ⟨some a,cap,(List.range len).map f,?_,by rw [hlen];exact hlc,⟨rfl,by rw [hlen];exact hmax,fun _=>⟨a,rfl,fun j p hj=>?_⟩⟩,by rw [hlen];exact hmax,fun x hx=>?_⟩
  ·rw [hlen];simpa using hcs
  ·obtain ⟨hj1,hj2⟩:=List.getElem?_eq_some_iff.1 hj
   rw [hlen] at hj1
   obtain ⟨_,cs,hK,hl,hat⟩:=hf j hj1
   have hp:p=f j:=by rw [← hj2];simp
   rw [hp]
   exact ⟨cs,hl,hK,hat⟩
  ·obtain ⟨i,hi2,rfl⟩:=List.mem_map.1 hx
   exact (hf i (List.mem_range.1 hi2)).1

end Go.Proofs.Ytmjbnghhfadapaa.Pure
namespace Go.Proofs.Ytmjbnghhfadapaa.Pure
set_option linter.unusedSimpArgs false
set_option linter.unusedVariables false
open Go.RowKit Go.Proofs.YtmjbnghhfadapaaW.PrintWords Go.Proofs.YtmjbnghhfadapaaW.PrintMore


theorem w64 {x:Int}(h0: -9223372036854775808≤x)(h1:x≤9223372036854775807):wrap64 x=x:=by
 unfold wrap64;omega
theorem w64n {n:Nat}(h:n < 9000000000000000000):wrap64 ((n:Int) + 1)=((n + 1:Nat):Int):=by
 unfold wrap64;omega
theorem rd_nat (xs:List Int)(n:Nat):rd xs (n:Int)=xs.getD n 0:=by simp [rd]
theorem rd_lt {xs:List Int}{n:Nat}(h:n < xs.length):rd xs (n:Int)=xs[n]:=by simp [rd,h]
theorem Ev.some {α:Type}{g:Nat→Option α}{r:α}(h:∀ k,g k=Option.some r):Ev g r:=⟨0,fun k _=>h k⟩
theorem Ev.range {σ α : Type} {L : Nat → σ → Int → Option α} {R : σ → Nat → α} {N : Nat} (P : σ → Nat → Prop)
    (hend : ∀ s, P s N → Ev (fun k => L k s (N : Int)) (R s N))
    (hstep : ∀ s n, n < N → P s n → (∀ s', P s' (n + 1) → Ev (fun k => L k s' ((n + 1 : Nat) : Int)) (R s' (n + 1))) → Ev (fun k => L k s (n : Int)) (R s n)) :
    ∀ s n, n ≤ N → P s n → Ev (fun k => L k s (n : Int)) (R s n) := by
  intro s n hn
  obtain ⟨d, hd⟩ : ∃ d, N = n + d := ⟨N - n, by omega⟩
  induction d generalizing s n with
  | zero => obtain rfl : N = n := by omega
            exact hend s
  | succ d ih => exact fun hp => hstep s n (by omega) hp (fun s' hp' => ih s' (n + 1) (by omega) (by omega) hp')
theorem Ev.range0 {α:Type}{L:Nat→Int→Option α}{R:Nat→α}{N:Nat}
  (hend:Ev (fun k=>L k (N:Int)) (R N))
  (hstep:∀ n,n < N→Ev (fun k=>L k ((n + 1:Nat):Int)) (R (n + 1))→Ev (fun k=>L k (n:Int)) (R n)) :
  ∀ n,n≤N→Ev (fun k=>L k (n:Int)) (R n):=by
 intro n hn
 exact Ev.range (σ:=Unit) (L:=fun k _ i=>L k i) (R:=fun _ n=>R n) (fun _ _=>True) (fun _ _=>hend) (fun _ n h _ ih=>hstep n h (ih () trivial)) () n hn trivial
theorem take_set_succ {x:List Int}{n:Nat}(h:n < x.length)(v:Int):(x.set n v).take (n + 1)=x.take n ++ [v]:=by
 rw [List.take_succ_eq_append_getElem (by simpa using h)]
 simp [List.take_set_of_le (Nat.le_refl n)]
theorem drop_cons {xs:List Int}{n:Nat}(h:n < xs.length):xs.drop n=xs[n] :: xs.drop (n + 1):=List.drop_eq_getElem_cons h

end Go.Proofs.Ytmjbnghhfadapaa.Pure
namespace Go.Proofs.Ytmjbnghhfadapaa.Pure
set_option linter.unusedSimpArgs false
set_option linter.unusedVariables false
open Go.RowKit Go.Proofs.YtmjbnghhfadapaaW.PrintWords Go.Proofs.YtmjbnghhfadapaaW.PrintMore


def sizeOkB (s:Int):Bool:=decide (2≤s∧s≤4)
def gridB (g:List Int)(s:Int):Bool:=sizeOkB s && (decide ((g.length:Int)=s * s) && g.all (fun v=>decide (0≤v∧v≤s)))
def allM (s:Int):Int:=if s=2 then 6 else if s=3 then 14 else 30
def masksB (g:List Int)(s:Int):Bool:=sizeOkB s && (decide ((g.length:Int)=s * s) && g.all (fun v=>decide (0≤v∧v≤allM s∧v % 2=0)))
def marks (k:Int):Nat→List Int
 | 0=>[]
 | n + 1=>k :: marks (k + 1) n
theorem marks_length (k:Int)(n:Nat):(marks k n).length=n:=by induction n generalizing k with
 | zero=>rfl
 | succ n ih=>simp [marks,ih]
theorem sizeOkB_iff {s:Int}:sizeOkB s=true↔s=2∨s=3∨s=4:=by
 unfold sizeOkB;rw [decide_eq_true_iff];omega
theorem len_succ {α:Type}{xs:List α}{n:Nat}(h:xs.length=n + 1):∃ a t,xs=a :: t∧t.length=n:=by
 cases xs with
 | nil=>simp at h
 | cons a t=>exact ⟨a,t,rfl,by simpa using h⟩
theorem gridB_size {g:List Int}{s:Int}(h:gridB g s=true):sizeOkB s=true:=by unfold gridB at h;simp only [Bool.and_eq_true] at h;exact h.1
theorem gridB_len {g:List Int}{s:Int}(h:gridB g s=true):(g.length:Int)=s * s:=by unfold gridB at h;simp only [Bool.and_eq_true,decide_eq_true_eq] at h;exact h.2.1
theorem gridB_mem {g:List Int}{s:Int}(h:gridB g s=true):∀ v∈g,0≤v∧v≤s:=by
 unfold gridB at h;simp only [Bool.and_eq_true,decide_eq_true_eq,List.all_eq_true] at h;exact h.2.2
theorem gridB_le {g:List Int}{s:Int}(h:gridB g s=true):g.length≤16:=by
 have:=gridB_len h
 rcases sizeOkB_iff.1 (gridB_size h) with rfl|rfl|rfl <;> omega
theorem masksB_len {g:List Int}{s:Int}(h:masksB g s=true):(g.length:Int)=s * s:=by unfold masksB at h;simp only [Bool.and_eq_true,decide_eq_true_eq] at h;exact h.2.1
theorem masksB_mk {g:List Int}{s:Int}(h:sizeOkB s=true)(hl:(g.length:Int)=s * s)(hm:∀ v∈g,0≤v∧v≤allM s∧v % 2=0):masksB g s=true:=by
 unfold masksB;simp only [Bool.and_eq_true,decide_eq_true_eq,List.all_eq_true];exact ⟨h,hl,hm⟩
def countF (g:List Int):Int:=((g.filter (fun v=>decide (0 < v))).length:Int)
def gridFilled (g:List Int)(s:Int):Int:=if gridB g s=true then countF g else -1
theorem countF_cons (v:Int)(g:List Int):countF (v :: g)=(if 0 < v then 1 else 0) + countF g:=by
 unfold countF;by_cases h:0 < v
 ·simp [h];omega
 ·simp [h]
def lineOkB (s l:Int):Bool:=sizeOkB s && decide (0≤l∧l < 2 * s)
def lineC (s l:Int):List Int:=if lineOkB s l=true then (List.range s.toNat).map (fun i:Nat=>if l < s then l * s + (i:Int) else (i:Int) * s + l - s) else []
theorem lineOkB_cases {s l:Int}(h:lineOkB s l=true):(s=2∧(l=0∨l=1∨l=2∨l=3))∨(s=3∧(l=0∨l=1∨l=2∨l=3∨l=4∨l=5))∨(s=4∧(l=0∨l=1∨l=2∨l=3∨l=4∨l=5∨l=6∨l=7)):=by
 unfold lineOkB at h;simp only [Bool.and_eq_true,decide_eq_true_eq] at h
 obtain ⟨hs,h0,h1⟩:=h
 rcases sizeOkB_iff.1 hs with rfl|rfl|rfl <;> omega
theorem lineC_len (s l:Int):(lineC s l).length≤16:=by
 unfold lineC;split
 ·rename_i h
  rw [List.length_map,List.length_range]
  rcases lineOkB_cases h with ⟨rfl,_⟩ | ⟨rfl,_⟩ | ⟨rfl,_⟩ <;> decide
 ·exact Nat.zero_le _

end Go.Proofs.Ytmjbnghhfadapaa.Pure
namespace Go.Proofs.Ytmjbnghhfadapaa.Pure
set_option linter.unusedSimpArgs false
set_option linter.unusedVariables false
open Go.RowKit Go.Proofs.YtmjbnghhfadapaaW.PrintWords Go.Proofs.YtmjbnghhfadapaaW.PrintMore Go.Proofs.Ytmjbnghhfadapaa.P


theorem eqIntS_ev (a b:List Int)(h:a.length < 9000000000000000000):Ev (fun k=>laws_eqIntS.f k a b) (decide (a=b)):=by
 unfold laws_eqIntS.f
 by_cases hl:a.length=b.length
 ·simp only [hl,if_true]
  have:=Ev.range0 (L:=fun k i=>laws_eqIntS.l0 k a b i) (R:=fun n=>decide (a.drop n=b.drop n)) (N:=a.length) ?_ ?_ 0 (Nat.zero_le _)
  ·simpa using this
  ·refine Ev.step (fun k=>laws_eqIntS.l0.eq_2 _ _ _ k) ?_
   have e1:a.drop a.length=[]:=List.drop_length
   have e2:b.drop a.length=[]:=by rw [hl];exact List.drop_length
   simp [e1,e2,Ev.now]
  ·intro n hn ih
   refine Ev.step (fun k=>laws_eqIntS.l0.eq_2 _ _ _ k) ?_
   have h1:(n:Int) < (a.length:Int):=by omega
   have h2:(n:Int) < (b.length:Int):=by omega
   have h3:(0:Int)≤n:=by omega
   rw [drop_cons hn,drop_cons (by omega:n < b.length)]
   simp only [h1,h2,h3,if_true,rd_lt hn,rd_lt (by omega:n < b.length)]
   by_cases he:a[n]=b[n]
   ·simp only [he,if_true,w64n (by omega:n < 9000000000000000000),List.cons.injEq,true_and]
    exact ih
   ·simp only [he,if_false,List.cons.injEq,false_and,decide_false]
    exact Ev.now _
 ·have:¬ ((a.length:Int)=(b.length:Int)):=by omega
  have hne:¬ a=b:=fun e=>hl (by rw [e])
  simp only [this,if_false,hne,decide_false]
  exact Ev.now _
theorem toIntS_ev (a:List Int)(h:a.length≤35184372088832):Ev (fun k=>laws_toIntS.f k a) a:=by
 unfold laws_toIntS.f
 have h0:(0:Int)≤(a.length:Int):=by omega
 have h1:((a.length:Int):Int).toNat≤35184372088832:=by simpa using h
 simp only [h0,h1,if_true]
 have:=Ev.range (L:=fun k (x:List Int) i=>laws_toIntS.l0 k a x i) (R:=fun _ _=>a) (N:=a.length) (fun x n=>x.length=a.length∧x.take n=a.take n) ?_ ?_ (List.replicate ((a.length:Int)).toNat 0) 0 (Nat.zero_le _) (by simp)
 ·simpa using this
 ·rintro x ⟨hl,he⟩
  refine Ev.step (fun k=>laws_toIntS.l0.eq_2 _ _ _ k) ?_
  have e:x=a:=by rw [← hl,List.take_length,hl,List.take_length] at he;exact he
  simp only [Int.lt_irrefl,if_false,e]
  exact Ev.now _
 ·rintro x n hn ⟨hl,he⟩ ih
  refine Ev.step (fun k=>laws_toIntS.l0.eq_2 _ _ _ k) ?_
  have h1:(n:Int) < (a.length:Int):=by omega
  have h2:(n:Int) < (x.length:Int):=by omega
  have h3:(0:Int)≤n:=by omega
  simp only [h1,h2,h3,if_true,rd_lt hn,Int.toNat_natCast,w64n (by omega:n < 9000000000000000000)]
  refine ih _ ⟨by simp [hl],?_⟩
  rw [take_set_succ (by omega:n < x.length),he,List.take_succ_eq_append_getElem hn]
theorem markIntS_ev (a:List Int)(m:Int)(h:a.length≤17592186044416)(h0:0≤m)(h1:m≤1000000000000000000):Ev (fun k=>laws_markIntS.f k a m) (m + a.length,marks m a.length):=by
 unfold laws_markIntS.f
 have:=Ev.range (L:=fun k (x:List Int) i=>laws_markIntS.l0 k x (m + i) i) (R:=fun x n=>(m + a.length,x.take n ++ marks (m + n) (a.length - n))) (N:=a.length) (fun x n=>x.length=a.length) ?_ ?_ a 0 (Nat.zero_le _) rfl
 ·simpa using this
 ·intro x hx
  refine Ev.step (fun k=>laws_markIntS.l0.eq_2 _ _ _ k) ?_
  have hn:¬ ((a.length:Int) < (x.length:Int)):=by omega
  have e:x.take a.length ++ marks (m + (a.length:Nat)) (a.length - a.length)=x:=by
   rw [← hx,List.take_length,Nat.sub_self];simp [marks]
  simp only [hn,if_false,e]
  exact Ev.now _
 ·intro x n hn hx ih
  refine Ev.step (fun k=>laws_markIntS.l0.eq_2 _ _ _ k) ?_
  have h2:(n:Int) < (x.length:Int):=by omega
  have h3:(0:Int)≤n:=by omega
  have e1:wrap64 (m + n + 1)=m + ((n + 1:Nat):Int):=by rw [w64 (by omega) (by omega)];omega
  simp only [h2,h3,if_true,Int.toNat_natCast,w64n (by omega:n < 9000000000000000000),e1]
  have:=ih (x.set n (m + n)) (by simp [hx])
  have e2:(x.set n (m + n)).take (n + 1) ++ marks (m + ((n + 1:Nat):Int)) (a.length - (n + 1))=x.take n ++ marks (m + n) (a.length - n):=by
   have e3:a.length - n=(a.length - (n + 1)) + 1:=by omega
   rw [e3,marks,take_set_succ (by omega:n < x.length)]
   have e5:m + (n:Int) + 1=m + ((n + 1:Nat):Int):=by omega
   rw [e5];simp
  rw [e2] at this
  exact this
theorem heldIntS_marks (m:Int)(l:Nat)(h:l≤17592186044416)(h0:0≤m)(h1:m≤1000000000000000000):Ev (fun k=>laws_heldIntS.f k (marks m l) m) (m + l):=by
 unfold laws_heldIntS.f
 have hm:∀ n,n < l→rd (marks m l) (n:Int)=m + n:=by
  intro n hn
  have:∀ (l n:Nat) (m:Int),n < l→(marks m l).getD n 0=m + n:=by
   intro l
   induction l with
   | zero=>intro n m h;omega
   | succ l ih =>
    intro n m h
    cases n with
    | zero=>simp [marks]
    | succ n=>simp only [marks,List.getD_cons_succ];rw [ih n (m + 1) (by omega)];omega
  rw [rd_nat];exact this l n m hn
 have:=Ev.range0 (L:=fun k i=>laws_heldIntS.l0 k (marks m l) (m + i) i) (R:=fun _=>m + l) (N:=l) ?_ ?_ 0 (Nat.zero_le _)
 ·simpa using this
 ·refine Ev.step (fun k=>laws_heldIntS.l0.eq_2 _ _ _ k) ?_
  simp [marks_length,Ev.now]
 ·intro n hn ih
  refine Ev.step (fun k=>laws_heldIntS.l0.eq_2 _ _ _ k) ?_
  have h2:(n:Int) < ((marks m l).length:Int):=by rw [marks_length];omega
  have h3:(0:Int)≤n:=by omega
  have e1:wrap64 (m + n + 1)=m + ((n + 1:Nat):Int):=by rw [w64 (by omega) (by omega)];omega
  simp only [h2,h3,if_true,hm n hn,w64n (by omega:n < 9000000000000000000),e1]
  exact ih

end Go.Proofs.Ytmjbnghhfadapaa.Pure
namespace Go.Proofs.Ytmjbnghhfadapaa.Pure
set_option linter.unusedSimpArgs false
set_option linter.unusedVariables false
open Go.RowKit Go.Proofs.YtmjbnghhfadapaaW.PrintWords Go.Proofs.YtmjbnghhfadapaaW.PrintMore Go.Proofs.Ytmjbnghhfadapaa.P

theorem toRule_ev (a:Int)(l:List Int)(c:Int)(h:l.length≤35184372088832):Ev (fun k=>laws_toRule.f k a l c) (a,l,c):=by
 unfold laws_toRule.f
 refine Ev.bind (toIntS_ev l h) ?_
 exact Ev.now _
theorem eqRule_ev (a:Int)(l:List Int)(c:Int)(h:l.length≤35184372088832):Ev (fun k=>laws_eqRule.f k a l c a l c) true:=by
 unfold laws_eqRule.f
 simp only [if_true]
 refine Ev.bind (eqIntS_ev l l (by omega)) ?_
 simp only [decide_true,if_true]
 exact Ev.now _

end Go.Proofs.Ytmjbnghhfadapaa.Pure
namespace Go.Proofs.Ytmjbnghhfadapaa.Pure
set_option linter.unusedSimpArgs false
set_option linter.unusedVariables false
open Go.RowKit Go.Proofs.YtmjbnghhfadapaaW.PrintWords Go.Proofs.YtmjbnghhfadapaaW.PrintMore Go.Proofs.Ytmjbnghhfadapaa.P


def FilledG {α:Type}(r x:List α)(n:Nat):Prop:=x.length=r.length∧x.take n=r.take n
theorem FilledG.fin {α:Type}{r x:List α}(h:FilledG r x r.length):x=r:=by
 obtain ⟨h1,h2⟩:=h
 rw [List.take_length,← h1,List.take_length] at h2
 exact h2
theorem FilledG.set {α:Type}{r x:List α}{n:Nat}(h:FilledG r x n)(hn:n < r.length){v:α}(hv:v=r[n]):FilledG r (x.set n v) (n + 1):=by
 refine ⟨by rw [List.length_set];exact h.1,?_⟩
 have hx:n < x.length:=by have:=h.1;omega
 rw [List.take_succ_eq_append_getElem (by simpa using hx),List.take_succ_eq_append_getElem hn,List.take_set_of_le (Nat.le_refl n),h.2,List.getElem_set_self,hv]
theorem szRule_b (a:Int)(l:List Int)(c b:Int)(hb:0≤b∧b≤1048576)(h:l.length≤9223372036854775807):laws_szRule.f a l c b=some (if (l.length:Int)≤b then b - (l.length:Int) else -1):=by
 unfold laws_szRule.f laws_szIntS.f
 have hw:wrap64 (b - (l.length:Int))=b - (l.length:Int):=by unfold wrap64;omega
 rw [hw]
 by_cases hl:(l.length:Int)≤b
 ·have h1:¬ b - (l.length:Int) < 0:=by omega
  simp only [hl,h1,if_true,if_false,Option.bind_some]
 ·have h1:b - (l.length:Int) < 0:=by omega
  have h2:(-1:Int) < 0:=by decide
  simp only [hl,h1,h2,if_true,if_false,Option.bind_some]
theorem rdL (xs:List S70){n:Nat}(h:n < xs.length):rd_T70 xs (n:Int)=xs[n]:=by simp [rd_T70,h]
theorem rdI (xs:List S73){n:Nat}(h:n < xs.length):rd_T73 xs (n:Int)=xs[n]:=by simp [rd_T73,h]
def convR (x:S70):S73:=⟨x.f0,x.f1,x.f2⟩
theorem szRuleS_ev (rs:List S70)(b:Int)(hb:0≤b∧b≤1048576)(hl:rs.length≤9223372036854775807)(hr:∀ x∈rs,x.f1.length≤9223372036854775807) :
  ∃ r,Ev (fun k=>laws_szRuleS.f k rs b) r∧(0≤r→rs.length≤1048576∧∀ x∈rs,x.f1.length≤1048576):=by
 unfold laws_szRuleS.f
 have hw:wrap64 (b - (rs.length:Int))=b - (rs.length:Int):=by unfold wrap64;omega
 rw [hw]
 by_cases hn:b - (rs.length:Int) < 0
 ·refine ⟨-1,?_,fun h=>absurd h (by decide)⟩
  simp only [hn,if_true]
  exact Ev.now _
 ·simp only [hn,if_false]
  have hloop:∀ d n (b:Int),n + d=rs.length→0≤b∧b≤1048576→(∀ x∈rs.take n,x.f1.length≤1048576)→∃ r,Ev (fun k=>laws_szRuleS.l0 k rs b (n:Int)) r∧(0≤r→∀ x∈rs,x.f1.length≤1048576):=by
   intro d
   induction d with
   | zero =>
    intro n b hnd hb' ht
    refine ⟨b,?_,fun _=>?_⟩
    ·refine Ev.step (fun k=>laws_szRuleS.l0.eq_2 _ _ _ k) ?_
     have h1:¬ (n:Int) < (rs.length:Int):=by omega
     simp only [h1,if_false]
     exact Ev.now _
    ·rw [List.take_of_length_le (by omega)] at ht
     exact ht
   | succ d ih =>
    intro n b hnd hb' ht
    have h1:(n:Int) < (rs.length:Int):=by omega
    have h0:(0:Int)≤(n:Int):=Int.natCast_nonneg n
    have hx:=hr rs[n] (List.getElem_mem (by omega))
    by_cases hle:(rs[n].f1.length:Int)≤b
    ·obtain ⟨r,he,hr'⟩:=ih (n + 1) (b - (rs[n].f1.length:Int)) (by omega) (by omega) (by
      intro x hx'
      rw [List.take_succ_eq_append_getElem (by omega:n < rs.length),List.mem_append,List.mem_singleton] at hx'
      rcases hx' with hx' | rfl
      ·exact ht x hx'
      ·omega)
     refine ⟨r,?_,hr'⟩
     refine Ev.step (fun k=>laws_szRuleS.l0.eq_2 _ _ _ k) ?_
     have h2:¬ b - (rs[n].f1.length:Int) < 0:=by omega
     simp only [h1,h0,if_true,rdL rs (by omega:n < rs.length),szRule_b _ _ _ b hb' hx,hle,Option.bind_some,h2,if_false,w64n (by omega:n < 9000000000000000000)]
     exact he
    ·refine ⟨-1,?_,fun h=>absurd h (by decide)⟩
     refine Ev.step (fun k=>laws_szRuleS.l0.eq_2 _ _ _ k) ?_
     have h2:(-1:Int) < 0:=by decide
     simp only [h1,h0,if_true,rdL rs (by omega:n < rs.length),szRule_b _ _ _ b hb' hx,hle,if_false,Option.bind_some,h2]
     exact Ev.now _
  obtain ⟨r,he,hr'⟩:=hloop rs.length 0 (b - (rs.length:Int)) (by omega) (by omega) (by simp)
  exact ⟨r,he,fun h=>⟨by omega,hr' h⟩⟩
theorem toRuleS_ev (rs:List S70)(hl:rs.length≤1048576)(hr:∀ x∈rs,x.f1.length≤1048576):Ev (fun k=>laws_toRuleS.f k rs) (rs.map convR):=by
 unfold laws_toRuleS.f
 have h0:(0:Int)≤(rs.length:Int):=Int.natCast_nonneg _
 have h1:rs.length≤7036874417766:=by omega
 simp only [h0,h1,if_true,Int.toNat_natCast]
 have hm:(rs.map convR).length=rs.length:=List.length_map _
 have:=Ev.range (L:=fun k (x:List S73) i=>laws_toRuleS.l0 k rs x i) (R:=fun _ _=>rs.map convR) (N:=rs.length) (fun x i=>FilledG (rs.map convR) x i) ?_ ?_ (List.replicate rs.length z73) 0 (Nat.zero_le _) ⟨by simp,by simp⟩
 ·simpa using this
 ·intro x hx
  refine Ev.step (fun k=>laws_toRuleS.l0.eq_2 _ _ _ k) ?_
  simp only [Int.lt_irrefl,if_false]
  have hx':FilledG (rs.map convR) x (rs.map convR).length:=by rw [hm];exact hx
  rw [hx'.fin];exact Ev.now _
 ·intro x i hi hx ih
  refine Ev.step (fun k=>laws_toRuleS.l0.eq_2 _ _ _ k) ?_
  have h2:(i:Int) < (rs.length:Int):=by omega
  have h3:(0:Int)≤(i:Int):=Int.natCast_nonneg i
  have h4:(i:Int) < (x.length:Int):=by have:=hx.1;omega
  simp only [h2,h3,if_true,rdL rs hi]
  have hlen:=hr rs[i] (List.getElem_mem hi)
  refine Ev.bind (toRule_ev _ _ _ (by omega)) ?_
  simp only [h4,if_true,Int.toNat_natCast,w64n (by omega:i < 9000000000000000000)]
  refine ih _ (hx.set (by omega) ?_)
  rw [List.getElem_map];rfl
theorem eqRuleS_ev (rs:List S73)(hl:rs.length≤1048576)(hr:∀ x∈rs,x.f1.length≤1048576):Ev (fun k=>laws_eqRuleS.f k rs rs) true:=by
 unfold laws_eqRuleS.f
 simp only [if_true]
 have:=Ev.range0 (L:=fun k i=>laws_eqRuleS.l0 k rs rs i) (R:=fun _=>true) (N:=rs.length) ?_ ?_ 0 (Nat.zero_le _)
 ·simpa using this
 ·refine Ev.step (fun k=>laws_eqRuleS.l0.eq_2 _ _ _ k) ?_
  simp only [Int.lt_irrefl,if_false]
  exact Ev.now _
 ·intro i hi ih
  refine Ev.step (fun k=>laws_eqRuleS.l0.eq_2 _ _ _ k) ?_
  have h2:(i:Int) < (rs.length:Int):=by omega
  have h3:(0:Int)≤(i:Int):=Int.natCast_nonneg i
  simp only [h2,h3,if_true,rdI rs hi]
  have hlen:=hr rs[i] (List.getElem_mem hi)
  refine Ev.bind (eqRule_ev _ _ _ (by omega)) ?_
  simp only [if_true,w64n (by omega:i < 9000000000000000000)]
  exact ih
theorem eqPuzzle_ev (s:Int)(g:List Int)(rs:List S73)(hg:g.length≤1048576)(hl:rs.length≤1048576)(hr:∀ x∈rs,x.f1.length≤1048576):Ev (fun k=>laws_eqPuzzle.f k s g rs s g rs) true:=by
 unfold laws_eqPuzzle.f
 simp only [if_true]
 refine Ev.bind (eqIntS_ev g g (by omega)) ?_
 simp only [decide_true,if_true]
 refine Ev.bind (eqRuleS_ev rs hl hr) ?_
 simp only [if_true]
 exact Ev.now _

end Go.Proofs.Ytmjbnghhfadapaa.Pure
namespace Go.Proofs.Ytmjbnghhfadapaa.Pure
set_option linter.unusedSimpArgs false
set_option linter.unusedVariables false
open Go.RowKit Go.Proofs.YtmjbnghhfadapaaW.PrintWords Go.Proofs.YtmjbnghhfadapaaW.PrintMore Go.Proofs.Ytmjbnghhfadapaa.P


def markedR:Int→List S73→List S73
 | _,[]=>[]
 | m,x :: xs=>⟨m,marks (m + 1) x.f1.length,m + 1 + (x.f1.length:Int)⟩ :: markedR (m + 1 + (x.f1.length:Int) + 1) xs
def nextM:Int→List S73→Int
 | m,[]=>m
 | m,x :: xs=>nextM (m + 1 + (x.f1.length:Int) + 1) xs
theorem nextM_ge:∀ (xs:List S73) (m:Int),m≤nextM m xs
 | [],m=>Int.le_refl _
 | x :: xs,m=>by
  unfold nextM
  have:=nextM_ge xs (m + 1 + (x.f1.length:Int) + 1)
  omega
theorem markedR_length:∀ (xs:List S73) (m:Int),(markedR m xs).length=xs.length
 | [],_=>rfl
 | x :: xs,m=>by unfold markedR;rw [List.length_cons,List.length_cons,markedR_length xs]
theorem set_mid {α:Type}(pre:List α)(x y:α)(xs:List α):(pre ++ x :: xs).set pre.length y=(pre ++ [y]) ++ xs:=by
 rw [List.set_append_right _ _ (Nat.le_refl _),Nat.sub_self,List.set_cons_zero,List.append_assoc];rfl
theorem get_mid {α:Type}(pre:List α)(x:α)(xs:List α)(h:pre.length < (pre ++ x :: xs).length):(pre ++ x :: xs)[pre.length]=x:=by
 rw [List.getElem_append_right (Nat.le_refl _)];simp
theorem markRuleS_is:∀ (xs pre:List S73) (m:Int),(pre ++ xs).length≤1048576→(∀ x∈xs,x.f1.length≤1048576)→0≤m→m≤2000000 * (pre.length + 1:Nat)→Ev (fun k=>laws_markRuleS.l0 k (pre ++ xs) m (pre.length:Int)) (nextM m xs,pre ++ markedR m xs)
 | [],pre,m,hl,_,hm,hm2=>by
  refine Ev.step (fun k=>laws_markRuleS.l0.eq_2 _ _ _ k) ?_
  have h1:¬ (pre.length:Int) < ((pre ++ []).length:Int):=by rw [List.append_nil];omega
  simp only [h1,if_false]
  exact Ev.now _
 | x :: xs,pre,m,hl,hr,hm,hm2=>by
  have hlen:(pre ++ x :: xs).length=pre.length + 1 + xs.length:=by rw [List.length_append,List.length_cons];omega
  have hlt:pre.length < (pre ++ x :: xs).length:=by omega
  have h1:(pre.length:Int) < ((pre ++ x :: xs).length:Int):=by omega
  have h0:(0:Int)≤(pre.length:Int):=by omega
  have hx:=hr x (List.mem_cons_self ..)
  have e1:wrap64 (m + 1)=m + 1:=by unfold wrap64;omega
  have e2:wrap64 (m + 1 + (x.f1.length:Int) + 1)=m + 1 + (x.f1.length:Int) + 1:=by unfold wrap64;omega
  have ih:=markRuleS_is xs (pre ++ [⟨m,marks (m + 1) x.f1.length,m + 1 + (x.f1.length:Int)⟩]) (m + 1 + (x.f1.length:Int) + 1) (by rw [List.length_append,List.length_append];simp;omega) (fun y hy=>hr y (List.mem_cons_of_mem _ hy)) (by omega) (by rw [List.length_append];push_cast at hm2 ⊢;simp;omega)
  refine Ev.step (fun k=>laws_markRuleS.l0.eq_2 _ _ _ k) ?_
  simp only [h1,h0,if_true,rdI _ hlt,get_mid,e1]
  refine Ev.bind (markIntS_ev x.f1 (m + 1) (by omega) (by omega) (by omega)) ?_
  simp only [e2,w64n (by omega:pre.length < 9000000000000000000),Int.toNat_natCast,set_mid]
  unfold nextM markedR
  rw [List.length_append] at ih
  rw [List.append_assoc] at ih ⊢
  have e3:pre ++ ([⟨m,marks (m + 1) x.f1.length,m + 1 + (x.f1.length:Int)⟩] ++ markedR (m + 1 + (x.f1.length:Int) + 1) xs)=pre ++ ⟨m,marks (m + 1) x.f1.length,m + 1 + (x.f1.length:Int)⟩ :: markedR (m + 1 + (x.f1.length:Int) + 1) xs:=rfl
  rw [List.append_assoc,e3] at ih
  exact ih
theorem heldRuleS_is:∀ (xs pre:List S73) (m:Int),(pre ++ xs).length≤1048576→(∀ x∈xs,x.f1.length≤1048576)→0≤m→m≤2000000 * (pre.length + 1:Nat)→Ev (fun k=>laws_heldRuleS.l0 k (pre ++ markedR m xs) m (pre.length:Int)) (nextM m xs)
 | [],pre,m,hl,_,hm,hm2=>by
  refine Ev.step (fun k=>laws_heldRuleS.l0.eq_2 _ _ _ k) ?_
  have h1:¬ (pre.length:Int) < ((pre ++ markedR m []).length:Int):=by unfold markedR;rw [List.append_nil];omega
  simp only [h1,if_false]
  exact Ev.now _
 | x :: xs,pre,m,hl,hr,hm,hm2=>by
  have hlen0:(pre ++ x :: xs).length=pre.length + 1 + xs.length:=by rw [List.length_append,List.length_cons];omega
  have hx:=hr x (List.mem_cons_self ..)
  unfold markedR nextM
  have hlen:(pre ++ (⟨m,marks (m + 1) x.f1.length,m + 1 + (x.f1.length:Int)⟩:S73) :: markedR (m + 1 + (x.f1.length:Int) + 1) xs).length=pre.length + 1 + xs.length:=by rw [List.length_append,List.length_cons,markedR_length];omega
  have hlt:pre.length < (pre ++ (⟨m,marks (m + 1) x.f1.length,m + 1 + (x.f1.length:Int)⟩:S73) :: markedR (m + 1 + (x.f1.length:Int) + 1) xs).length:=by omega
  have h1:(pre.length:Int) < ((pre ++ (⟨m,marks (m + 1) x.f1.length,m + 1 + (x.f1.length:Int)⟩:S73) :: markedR (m + 1 + (x.f1.length:Int) + 1) xs).length:Int):=by omega
  have h0:(0:Int)≤(pre.length:Int):=by omega
  have e1:wrap64 (m + 1)=m + 1:=by unfold wrap64;omega
  have e2:wrap64 (m + 1 + (x.f1.length:Int) + 1)=m + 1 + (x.f1.length:Int) + 1:=by unfold wrap64;omega
  have hn:¬ (m + 1 + (x.f1.length:Int) < 0):=by omega
  have ih:=heldRuleS_is xs (pre ++ [⟨m,marks (m + 1) x.f1.length,m + 1 + (x.f1.length:Int)⟩]) (m + 1 + (x.f1.length:Int) + 1) (by rw [List.length_append,List.length_append];simp;omega) (fun y hy=>hr y (List.mem_cons_of_mem _ hy)) (by omega) (by rw [List.length_append];push_cast at hm2 ⊢;simp;omega)
  refine Ev.step (fun k=>laws_heldRuleS.l0.eq_2 _ _ _ k) ?_
  simp only [h1,h0,if_true,rdI _ hlt,get_mid,e1]
  refine Ev.bind (heldIntS_marks (m + 1) x.f1.length (by omega) (by omega) (by omega)) ?_
  simp only [hn,if_false,if_true,e2,w64n (by omega:pre.length < 9000000000000000000)]
  rw [List.length_append,List.append_assoc] at ih
  exact ih
theorem markPuzzle_is (s:Int)(g:List Int)(rs:List S73)(hg:g.length≤1048576)(hl:rs.length≤1048576)(hr:∀ x∈rs,x.f1.length≤1048576):Ev (fun k=>laws_markPuzzle.f k s g rs 1) (nextM (1 + (g.length:Int)) rs,marks 1 g.length,markedR (1 + (g.length:Int)) rs):=by
 have h:=markRuleS_is rs [] (1 + (g.length:Int)) (by simpa using hl) hr (by omega) (by simp;omega)
 unfold laws_markPuzzle.f
 refine Ev.bind (markIntS_ev g 1 (by omega) (by decide) (by decide)) ?_
 refine Ev.bind (a:=(nextM (1 + (g.length:Int)) rs,markedR (1 + (g.length:Int)) rs)) ?_ ?_
 ·unfold laws_markRuleS.f;exact h
 ·exact Ev.now _
theorem heldPuzzle_is (s:Int)(g:List Int)(rs:List S73)(hg:g.length≤1048576)(hl:rs.length≤1048576)(hr:∀ x∈rs,x.f1.length≤1048576):Ev (fun k=>laws_heldPuzzle.f k s (marks 1 g.length) (markedR (1 + (g.length:Int)) rs) 1) (nextM (1 + (g.length:Int)) rs):=by
 have h:=heldRuleS_is rs [] (1 + (g.length:Int)) (by simpa using hl) hr (by omega) (by simp;omega)
 unfold laws_heldPuzzle.f
 refine Ev.bind (heldIntS_marks 1 g.length (by omega) (by decide) (by decide)) ?_
 have h1:¬ (1 + (g.length:Int) < 0):=by omega
 simp only [h1,if_false]
 refine Ev.bind (a:=nextM (1 + (g.length:Int)) rs) ?_ ?_
 ·unfold laws_heldRuleS.f;exact h
 ·have h2:¬ (nextM (1 + (g.length:Int)) rs < 0):=by have:=nextM_ge rs (1 + (g.length:Int));omega
  simp only [h2,if_false]
  exact Ev.now _

end Go.Proofs.Ytmjbnghhfadapaa.Pure
namespace Go.Proofs.Ytmjbnghhfadapaa.Pure
set_option linter.unusedSimpArgs false
set_option linter.unusedVariables false
open Go.RowKit Go.Proofs.YtmjbnghhfadapaaW.PrintWords Go.Proofs.YtmjbnghhfadapaaW.PrintMore


theorem lineC_mem {s l:Int}:∀ c∈lineC s l,0≤c∧c < s * s:=by
 by_cases h:lineOkB s l=true
 ·rcases lineOkB_cases h with ⟨rfl,hc⟩ | ⟨rfl,hc⟩ | ⟨rfl,hc⟩
  ·rcases hc with rfl|rfl|rfl|rfl <;> decide +kernel
  ·rcases hc with rfl|rfl|rfl|rfl|rfl|rfl <;> decide +kernel
  ·rcases hc with rfl|rfl|rfl|rfl|rfl|rfl|rfl|rfl <;> decide +kernel
 ·unfold lineC;rw [if_neg h];intro c hc;cases hc
def clashL (g:List Int):List Int→List Int→Bool
 | [],_=>false
 | c :: cs,seen=>if 0 < rd g c∧rd g c∈seen then true else clashL g cs (rd g c :: seen)
def linesClash (g:List Int)(s:Int)(n:Nat):Nat→Bool
 | 0=>false
 | d + 1=>clashL g (lineC s n) [] || linesClash g s (n + 1) d
def squareFits (g:List Int)(s:Int):Bool:=gridB g s && !linesClash g s 0 (2 * s.toNat)
def squareSolved (g:List Int)(s:Int):Bool:=squareFits g s && decide (gridFilled g s=s * s)
theorem size_nat {s:Int}(h:sizeOkB s=true):((s.toNat:Nat):Int)=s∧2≤s.toNat∧s.toNat≤4:=by
 rcases sizeOkB_iff.1 h with rfl|rfl|rfl <;> decide
theorem rd_mem {g:List Int}{i:Int}(h0:0≤i)(h1:i < (g.length:Int)):rd g i∈g:=by
 obtain ⟨n,rfl⟩:=Int.eq_ofNat_of_zero_le h0
 rw [rd_lt (by omega:n < g.length)]
 exact List.getElem_mem _

end Go.Proofs.Ytmjbnghhfadapaa.Pure
namespace Go.Proofs.Ytmjbnghhfadapaa.Pure
set_option linter.unusedSimpArgs false
set_option linter.unusedVariables false
open Go.RowKit Go.Proofs.YtmjbnghhfadapaaW.PrintWords Go.Proofs.YtmjbnghhfadapaaW.PrintMore Go.Proofs.Ytmjbnghhfadapaa.P


theorem ownRules_ev (rs:List S73)(hl:rs.length≤1048576)(hr:∀ x∈rs,x.f1.length≤1048576):Ev (fun k=>spec_l1OwnRuleList.f k rs) rs:=by
 unfold spec_l1OwnRuleList.f
 refine Ev.range (L:=fun k (x:List S73) j=>spec_l1OwnRuleList.l0 k rs x j) (R:=fun _ _=>rs) (N:=rs.length) (fun x j=>x=rs.take j) ?_ ?_ [] 0 (Nat.zero_le _) rfl
 ·rintro x rfl
  refine Ev.step (fun k=>spec_l1OwnRuleList.l0.eq_2 _ _ _ k) ?_
  simp only [Int.lt_irrefl,if_false,List.take_length]
  exact Ev.now _
 ·rintro x j hj rfl ih
  refine Ev.step (fun k=>spec_l1OwnRuleList.l0.eq_2 _ _ _ k) ?_
  have h1:(j:Int) < (rs.length:Int):=by omega
  have h2:(0:Int)≤(j:Int):=Int.natCast_nonneg j
  have h3:(rs.take j).length < 3518437208883:=by rw [List.length_take];omega
  have h4:=hr _ (List.getElem_mem hj)
  have h5:([]:List Int).length + rs[j].f1.length < 17592186044416:=by simp;omega
  unfold spec_l1OwnRule.f
  simp only [h1,h2,h3,h5,if_true,rdI rs hj,Option.bind_some,List.nil_append,w64n (by omega:j < 9000000000000000000)]
  refine ih _ ?_
  rw [List.take_succ_eq_append_getElem hj]

end Go.Proofs.Ytmjbnghhfadapaa.Pure
namespace Go.Proofs.Ytmjbnghhfadapaa.Pure
set_option linter.unusedSimpArgs false
set_option linter.unusedVariables false
open Go.RowKit Go.Proofs.YtmjbnghhfadapaaW.PrintWords Go.Proofs.YtmjbnghhfadapaaW.PrintMore


def goodCells (t:Int)(cs:List Int):Nat→Bool
 | 0=>true
 | n + 1=>goodCells t cs n && (decide (0≤rd cs (n:Int)∧rd cs (n:Int) < t) && !decide (rd cs (n:Int)∈cs.take n))
theorem goodCells_false {t:Int}{cs:List Int}{n:Nat}(h:goodCells t cs n=false):∀ d,goodCells t cs (n + d)=false
 | 0=>h
 | d + 1=>by rw [show n + (d + 1)=(n + d) + 1 from rfl,goodCells,goodCells_false h d];rfl
theorem goodCells_le {t:Int}{cs:List Int}{n m:Nat}(h:goodCells t cs n=false)(hm:n≤m):goodCells t cs m=false:=by
 obtain ⟨d,rfl⟩:∃ d,m=n + d:=⟨m - n,by omega⟩
 exact goodCells_false h d
def ruleTail (kind len v s:Int):Bool:=decide (len≤4) && (if kind=1 then decide (2≤len∧v=0) else if kind=2∨kind=3 then decide (1≤len∧1≤v∧v≤s * s * s * s) else if kind=4 then decide (len=2∧v=0) else if kind=5 then decide (len=2∧0≤v∧v < s) else false)
def ruleB (kind:Int)(cs:List Int)(v s:Int):Bool:=sizeOkB s && (goodCells (s * s) cs cs.length && ruleTail kind cs.length v s)
theorem mem_take_iff {cs:List Int}{n:Nat}{c:Int}:c∈cs.take n↔∃ j,j < n∧j < cs.length∧rd cs (j:Int)=c:=by
 constructor
 ·intro h
  obtain ⟨j,hj,he⟩:=List.mem_iff_getElem.1 h
  rw [List.length_take] at hj
  refine ⟨j,by omega,by omega,?_⟩
  rw [rd_lt (by omega:j < cs.length),← he,List.getElem_take]
 ·rintro ⟨j,h1,h2,he⟩
  rw [rd_lt h2] at he
  refine List.mem_iff_getElem.2 ⟨j,by rw [List.length_take];omega,?_⟩
  rw [List.getElem_take];exact he

end Go.Proofs.Ytmjbnghhfadapaa.Pure
namespace Go.Proofs.Ytmjbnghhfadapaa.Pure
set_option linter.unusedSimpArgs false
set_option linter.unusedVariables false
open Go.RowKit Go.Proofs.YtmjbnghhfadapaaW.PrintWords Go.Proofs.YtmjbnghhfadapaaW.PrintMore Go.Proofs.Ytmjbnghhfadapaa.P


theorem l1In_eq (a b c:Int):spec_l1In.f a b c=some (decide (b≤a∧a≤c)):=by
 unfold spec_l1In.f
 by_cases h:a ≥ b
 ·have h':b≤a:=h
  simp [h']
 ·have h':¬ b≤a:=h
  simp [h']
theorem sizeOk_eq (a:Int):impl_sizeOk.f a=some (sizeOkB a):=by
 unfold impl_sizeOk.f sizeOkB
 by_cases h:a ≥ 2
 ·have h':2≤a:=h
  simp [h']
 ·have h':¬ 2≤a:=h
  simp [h']

end Go.Proofs.Ytmjbnghhfadapaa.Pure
namespace Go.Proofs.Ytmjbnghhfadapaa.Pure
set_option linter.unusedSimpArgs false
set_option linter.unusedVariables false
open Go.RowKit Go.Proofs.YtmjbnghhfadapaaW.PrintWords Go.Proofs.YtmjbnghhfadapaaW.PrintMore Go.Proofs.Ytmjbnghhfadapaa.P


theorem index_ev (l:List Int)(x:Int)(h:l.length≤35184372088832):∀ d n,n + d=l.length→∃ r:Int,(0≤r↔x∈l.drop n)∧Ev (fun k=>slices_Index_int_int.l0 k l x (l.length:Int) (n:Int)) r
 | 0,n,hn=>by
  refine ⟨-1,?_,?_⟩
  ·rw [List.drop_eq_nil_of_le (by omega)];simp
  ·refine Ev.step (fun k=>slices_Index_int_int.l0.eq_2 _ _ _ _ k) ?_
   have h1:¬ (n:Int) < (l.length:Int):=by omega
   simp only [h1,if_false]
   exact Ev.now _
 | d + 1,n,hn=>by
  have h1:(n:Int) < (l.length:Int):=by omega
  have h0:(0:Int)≤(n:Int):=Int.natCast_nonneg n
  have hd:l.drop n=l[n] :: l.drop (n + 1):=drop_cons (by omega)
  by_cases hx:x=rd l (n:Int)
  ·refine ⟨(n:Int),⟨fun _=>?_,fun _=>h0⟩,?_⟩
   ·rw [hd,hx,rd_lt (by omega:n < l.length)];exact List.mem_cons_self
   ·refine Ev.step (fun k=>slices_Index_int_int.l0.eq_2 _ _ _ _ k) ?_
    simp only [h1,h0,← hx,if_true]
    exact Ev.now _
  ·obtain ⟨r,hr,he⟩:=index_ev l x h d (n + 1) (by omega)
   refine ⟨r,?_,?_⟩
   ·rw [hr,hd,List.mem_cons]
    constructor
    ·exact .inr
    ·rintro (e|e)
     ·exact absurd (by rw [rd_lt (by omega:n < l.length)];exact e) hx
     ·exact e
   ·refine Ev.step (fun k=>slices_Index_int_int.l0.eq_2 _ _ _ _ k) ?_
    simp only [h1,h0,hx,if_true,if_false,w64n (by omega:n < 9000000000000000000)]
    exact he
theorem contains_ev (l:List Int)(x:Int)(h:l.length≤35184372088832):Ev (fun k=>slices_Contains_int_int.f k l x) (decide (x∈l)):=by
 obtain ⟨r,hr,he⟩:=index_ev l x h l.length 0 (by omega)
 unfold slices_Contains_int_int.f slices_Index_int_int.f
 refine Ev.bind he ?_
 rw [List.drop_zero] at hr
 have e:decide (r ≥ 0)=decide (x∈l):=by
  by_cases hx:x∈l
  ·rw [decide_eq_true hx,decide_eq_true (hr.2 hx)]
  ·rw [decide_eq_false hx,decide_eq_false (fun h=>hx (hr.1 h))]
 simp only [e]
 exact Ev.now _
theorem implRuleTail_ev (s kind v:Int)(cs:List Int)(hs:sizeOkB s=true):Ev (fun k=>if kind=1 then (if (cs.length:Int) ≥ 2 then (if (cs.length:Int)≤4 then (some (v == 0)) else (some false)) else (some false)) else (if kind=2 then (impl_RuleValid.j1 k s (cs.length:Int) kind (kind == 2) kind cs v) else (impl_RuleValid.j1 k s (cs.length:Int) kind (kind == 3) kind cs v))) (ruleTail kind cs.length v s):=by
 have hsz:=sizeOkB_iff.1 hs
 have hw:wrap64 ((wrap64 ((wrap64 (s * s)) * s)) * s)=s * s * s * s:=by rcases hsz with rfl|rfl|rfl <;> decide +kernel
 unfold ruleTail
 generalize (cs.length:Int)=n
 have hvz:∀ w:Int,(w == 0)=decide (w=0):=by
  intro w
  by_cases h:w=0
  ·subst h;rfl
  ·rw [beq_eq_false_iff_ne.2 h,decide_eq_false h]
 by_cases k1:kind=1
 ·simp only [k1,if_true]
  by_cases h2:2≤n
  ·by_cases h4:n≤4
   ·have h2':n ≥ 2:=h2
    simp only [h2,h2',h4,if_true,hvz,true_and,decide_true,Bool.true_and]
    exact Ev.now _
   ·have h2':n ≥ 2:=h2
    simp only [h2',h4,if_true,if_false,decide_false,Bool.false_and]
    exact Ev.now _
  ·have h2':¬ n ≥ 2:=h2
   simp only [h2,h2',if_false,false_and,decide_false,Bool.and_false]
   exact Ev.now _
 ·simp only [k1,if_false]
  have hj:∀ b,b=decide (kind=2∨kind=3)→Ev (fun k=>impl_RuleValid.j1 k s n kind b kind cs v) (decide (n≤4) && (if kind=2∨kind=3 then decide (1≤n∧1≤v∧v≤s * s * s * s) else if kind=4 then decide (n=2∧v=0) else if kind=5 then decide (n=2∧0≤v∧v < s) else false)):=by
   rintro b rfl
   refine Ev.step (fun k=>impl_RuleValid.j1.eq_2 _ _ _ _ _ _ _ k) ?_
   by_cases k2:kind=2∨kind=3
   ·simp only [k2,decide_true,if_true,hw]
    by_cases h1:1≤n
    ·have h1':n ≥ 1:=h1
     by_cases h4:n≤4
     ·by_cases hv:1≤v
      ·have hv':v ≥ 1:=hv
       simp only [h1,h1',h4,hv,hv',if_true,true_and,decide_true,Bool.true_and]
       exact Ev.now _
      ·have hv':¬ v ≥ 1:=hv
       simp only [h1,h1',h4,hv,hv',if_true,if_false,true_and,false_and,decide_true,decide_false,Bool.true_and]
       exact Ev.now _
     ·simp only [h1',h4,if_true,if_false,decide_false,Bool.false_and]
      exact Ev.now _
    ·have h1':¬ n ≥ 1:=h1
     simp only [h1,h1',if_false,false_and,decide_false,Bool.and_false]
     exact Ev.now _
   ·simp only [k2,decide_false,if_false,Bool.false_eq_true]
    by_cases k4:kind=4
    ·simp only [k4,if_true]
     by_cases h2:n=2
     ·simp only [h2,if_true,true_and,hvz]
      exact Ev.now _
     ·simp only [h2,if_false,false_and,decide_false,Bool.and_false]
      exact Ev.now _
    ·simp only [k4,if_false]
     by_cases k5:kind=5
     ·simp only [k5,if_true]
      by_cases h2:n=2
      ·by_cases hv:0≤v
       ·have hv':v ≥ 0:=hv
        simp only [h2,hv,hv',if_true,true_and]
        exact Ev.now _
       ·have hv':¬ v ≥ 0:=hv
        simp only [h2,hv,hv',if_true,if_false,true_and,false_and,decide_false,Bool.and_false]
        exact Ev.now _
      ·simp only [h2,if_false,false_and,decide_false,Bool.and_false]
       exact Ev.now _
     ·simp only [k5,if_false,Bool.and_false]
      exact Ev.now _
  by_cases k2:kind=2
  ·have e:(kind == 2)=decide (kind=2∨kind=3):=by simp [k2]
   have:=hj _ e
   simpa only [k2,if_true] using this
  ·have e:(kind == 3)=decide (kind=2∨kind=3):=by
    by_cases k3:kind=3 <;> simp [k2,k3]
   have:=hj _ e
   simp only [k2,if_false]
   simpa only [k2,false_or] using this
theorem implRuleValid_ev (kind:Int)(cs:List Int)(v s:Int)(hl:cs.length≤35184372088832):Ev (fun k=>impl_RuleValid.f k kind cs v s) (ruleB kind cs v s):=by
 unfold impl_RuleValid.f ruleB
 simp only [sizeOk_eq,Option.bind_some]
 by_cases hs:sizeOkB s=true
 ·have ht:wrap64 (s * s)=s * s:=by rcases sizeOkB_iff.1 hs with rfl|rfl|rfl <;> decide +kernel
  simp only [hs,if_true,Bool.true_and]
  have:=Ev.range (σ:=Unit) (L:=fun k _ i=>impl_RuleValid.l0 k s cs (cs.length:Int) i kind cs v) (R:=fun _ _=>goodCells (s * s) cs cs.length && ruleTail kind cs.length v s) (N:=cs.length) (fun _ i=>goodCells (s * s) cs i=true) ?_ ?_ () 0 (Nat.zero_le _) rfl
  ·simpa using this
  ·intro _ hg
   refine Ev.step (fun k=>impl_RuleValid.l0.eq_2 _ _ _ _ _ _ _ k) ?_
   simp only [Int.lt_irrefl,if_false]
   rw [hg,Bool.true_and]
   exact implRuleTail_ev s kind v cs hs
  ·intro _ i hi hg ih
   refine Ev.step (fun k=>impl_RuleValid.l0.eq_2 _ _ _ _ _ _ _ k) ?_
   have h1:(i:Int) < (cs.length:Int):=by omega
   have h0:(0:Int)≤(i:Int):=Int.natCast_nonneg i
   have h2:(i:Int)≤(cs.length:Int):=by omega
   have hbad:goodCells (s * s) cs (i + 1)=false→Ev (fun _:Nat=>some false) (goodCells (s * s) cs cs.length && ruleTail kind cs.length v s):=by
    intro h
    rw [goodCells_le h (by omega:i + 1≤cs.length)]
    exact Ev.now _
   simp only [h1,h0,h2,if_true,ht,Int.toNat_natCast]
   by_cases hc0:rd cs (i:Int) < 0
   ·simp only [hc0,if_true]
    refine hbad ?_
    have hn:¬ (0≤rd cs (i:Int)∧rd cs (i:Int) < s * s):=fun h=>by omega
    rw [goodCells,decide_eq_false hn];simp
   ·simp only [hc0,if_false]
    by_cases hc1:rd cs (i:Int) ≥ s * s
    ·simp only [hc1,if_true]
     refine hbad ?_
     have hn:¬ (0≤rd cs (i:Int)∧rd cs (i:Int) < s * s):=fun h=>by omega
     rw [goodCells,decide_eq_false hn];simp
    ·simp only [hc1,if_false]
     refine Ev.bind (contains_ev _ _ (by rw [List.length_take];omega)) ?_
     by_cases hm:rd cs (i:Int)∈cs.take i
     ·simp only [hm,decide_true,if_true]
      refine hbad ?_
      rw [goodCells,decide_eq_true hm];simp
     ·simp only [hm,decide_false,if_false,Bool.false_eq_true,w64n (by omega:i < 9000000000000000000)]
      refine ih () ?_
      rw [goodCells,hg,decide_eq_true (⟨by omega,by omega⟩:0≤rd cs (i:Int)∧rd cs (i:Int) < s * s),decide_eq_false hm]
      rfl
 ·simp only [hs,if_false,Bool.false_eq_true,Bool.false_and]
  exact Ev.now _

end Go.Proofs.Ytmjbnghhfadapaa.Pure
namespace Go.Proofs.Ytmjbnghhfadapaa.Pure
set_option linter.unusedSimpArgs false
set_option linter.unusedVariables false
open Go.RowKit Go.Proofs.YtmjbnghhfadapaaW.PrintWords Go.Proofs.YtmjbnghhfadapaaW.PrintMore Go.Proofs.Ytmjbnghhfadapaa.P


theorem goodCells_prev {t:Int}{cs:List Int}{n:Nat}(h:goodCells t cs (n + 1)=true):goodCells t cs n=true:=by
 unfold goodCells at h;simp only [Bool.and_eq_true] at h;exact h.1
theorem goodCells_at {t:Int}{cs:List Int}:∀ {n:Nat},goodCells t cs n=true→∀ i,i < n→0≤rd cs (i:Int)∧rd cs (i:Int) < t
 | 0,_,i,hi=>absurd hi (Nat.not_lt_zero i)
 | n + 1,h,i,hi=>by
  by_cases hin:i < n
  ·exact goodCells_at (goodCells_prev h) i hin
  ·obtain rfl:i=n:=by omega
   unfold goodCells at h
   simp only [Bool.and_eq_true,decide_eq_true_eq] at h
   exact h.2.1
def sumP (l:List Int):Nat→Int
 | 0=>0
 | n + 1=>sumP l n + rd l (n:Int)
def prodP (l:List Int):Nat→Int
 | 0=>1
 | n + 1=>prodP l n * rd l (n:Int)
def neP (l:List Int)(i:Nat):Nat→Bool
 | 0=>true
 | j + 1=>neP l i j && (rd l (j:Int) != rd l (i:Int))
def nodupP (l:List Int):Nat→Bool
 | 0=>true
 | n + 1=>nodupP l n && neP l n n
theorem sumP_le {l:List Int}(h:∀ x∈l,0≤x∧x≤4):∀ n,n≤l.length→0≤sumP l n∧sumP l n≤4 * (n:Int)
 | 0,_=>by unfold sumP;omega
 | n + 1,hn=>by
  have ih:=sumP_le h n (by omega)
  have hx:=h _ (rd_mem (g:=l) (i:=(n:Int)) (by omega) (by omega))
  unfold sumP;omega
theorem prodP_le {l:List Int}(h:∀ x∈l,0≤x∧x≤4):∀ n,n≤l.length→0≤prodP l n∧prodP l n≤4 ^ n
 | 0,_=>by unfold prodP;decide
 | n + 1,hn=>by
  have ih:=prodP_le h n (by omega)
  have hx:=h _ (rd_mem (g:=l) (i:=(n:Int)) (by omega) (by omega))
  unfold prodP
  refine ⟨Int.mul_nonneg ih.1 hx.1,?_⟩
  rw [Int.pow_succ]
  exact Int.mul_le_mul ih.2 hx.2 hx.1 (Int.le_trans ih.1 ih.2)
theorem prodP_small {l:List Int}(h:∀ x∈l,0≤x∧x≤4){n:Nat}(hn:n≤l.length)(h4:n≤4):0≤prodP l n∧prodP l n≤256:=by
 have:=prodP_le h n hn
 have hc:n=0∨n=1∨n=2∨n=3∨n=4:=by omega
 refine ⟨this.1,Int.le_trans this.2 ?_⟩
 rcases hc with rfl|rfl|rfl|rfl|rfl <;> decide
theorem neP_iff {l:List Int}{i:Nat}:∀ j,j≤l.length→(neP l i j=true↔∀ d,d < j→rd l (d:Int)≠rd l (i:Int))
 | 0,_=>⟨fun _ d hd=>absurd hd (Nat.not_lt_zero d),fun _=>rfl⟩
 | j + 1,hj=>by
  unfold neP
  rw [Bool.and_eq_true,neP_iff j (by omega),bne_iff_ne]
  constructor
  ·rintro ⟨h1,h2⟩ d hd
   by_cases hdj:d=j
   ·rw [hdj];exact h2
   ·exact h1 d (by omega)
  ·exact fun h=>⟨fun d hd=>h d (by omega),h j (by omega)⟩
theorem neP_mem {l:List Int}{i:Nat}(hi:i < l.length):neP l i i= !decide (rd l (i:Int)∈l.take i):=by
 by_cases hm:rd l (i:Int)∈l.take i
 ·rw [decide_eq_true hm]
  obtain ⟨j,hj,_,he⟩:=mem_take_iff.1 hm
  refine eq_false_of_ne_true (fun h=>?_)
  exact (neP_iff i (by omega)).1 h j hj he
 ·rw [decide_eq_false hm]
  refine (neP_iff i (by omega)).2 (fun d hd he=>hm (mem_take_iff.2 ⟨d,hd,by omega,he⟩))
theorem nodupP_le {l:List Int}{n:Nat}(h:nodupP l n=false):∀ d,nodupP l (n + d)=false
 | 0=>h
 | d + 1=>by rw [show n + (d + 1)=(n + d) + 1 from rfl,nodupP,nodupP_le h d];rfl
def holdsB (kind v:Int)(l:List Int):Bool:=if kind=1 then nodupP l l.length else if kind=2 then sumP l l.length == v else if kind=3 then prodP l l.length == v else if kind=4 then decide (rd l 0 < rd l 1) else mx (rd l 0 - rd l 1) (rd l 1 - rd l 0) == v
def ValsOK (kind:Int)(l:List Int):Prop:=l.length≤4∧(∀ x∈l,0≤x∧x≤4)∧1≤kind∧kind≤5∧(4≤kind→l.length=2)
theorem l4Holds_ev {kind v:Int}{cs l:List Int}(h:ValsOK kind l):Ev (fun k=>spec_l4Holds.f k kind cs v l) (holdsB kind v l):=by
 obtain ⟨h4,hx,hk1,hk5,hk2⟩:=h
 unfold spec_l4Holds.f
 have:=Ev.range (L:=fun k (p:Int × Int × Bool) i=>spec_l4Holds.l0 k l p.1 p.2.1 p.2.2 i kind cs v) (R:=fun _ _=>holdsB kind v l) (N:=l.length) (fun p i=>p=(sumP l i,prodP l i,nodupP l i)) ?_ ?_ (0,1,true) 0 (Nat.zero_le _) rfl
 ·simpa using this
 ·rintro p rfl
  refine Ev.step (fun k=>spec_l4Holds.l0.eq_2 _ _ _ _ _ _ _ _ k) ?_
  unfold holdsB
  simp only [Int.lt_irrefl,if_false]
  by_cases k1:kind=1
  ·simp only [k1,if_true];exact Ev.now _
  ·by_cases k2:kind=2
   ·simp only [k1,k2,if_true,if_false];exact Ev.now _
   ·by_cases k3:kind=3
    ·simp only [k1,k2,k3,if_true,if_false];exact Ev.now _
    ·have hl2:l.length=2:=hk2 (by omega)
     have e0:(0:Int) < (l.length:Int):=by omega
     have e1:(1:Int) < (l.length:Int):=by omega
     have hr0:=hx _ (rd_mem (g:=l) (i:=0) (by decide) e0)
     have hr1:=hx _ (rd_mem (g:=l) (i:=1) (by decide) e1)
     have w1:wrap64 (rd l 0 - rd l 1)=rd l 0 - rd l 1:=by unfold wrap64;omega
     have w2:wrap64 (-(rd l 0 - rd l 1))=rd l 1 - rd l 0:=by unfold wrap64;omega
     by_cases k4:kind=4
     ·simp only [k1,k2,k3,k4,e0,e1,if_true,if_false];exact Ev.now _
     ·simp only [k1,k2,k3,k4,e0,e1,if_true,if_false,w1,w2];exact Ev.now _
 ·rintro p i hi rfl ih
  refine Ev.step (fun k=>spec_l4Holds.l0.eq_2 _ _ _ _ _ _ _ _ k) ?_
  have h1:(i:Int) < (l.length:Int):=by omega
  have h0:(0:Int)≤(i:Int):=Int.natCast_nonneg i
  have hs:=sumP_le hx (i + 1) (by omega)
  have hp:=prodP_small hx (n:=i + 1) (by omega) (by omega)
  have ws:wrap64 (sumP l i + rd l (i:Int))=sumP l (i + 1):=by
   rw [show sumP l i + rd l (i:Int)=sumP l (i + 1) from rfl];exact w64 (by omega) (by omega)
  have wp:wrap64 (prodP l i * rd l (i:Int))=prodP l (i + 1):=by
   rw [show prodP l i * rd l (i:Int)=prodP l (i + 1) from rfl];exact w64 (by omega) (by omega)
  simp only [h1,h0,if_true,ws,wp]
  clear hs hp ws wp
  have:=Ev.range (L:=fun k (b:Bool) j=>spec_l4Holds.l1 k l (sumP l (i + 1)) (prodP l (i + 1)) b (i:Int) j kind cs v) (R:=fun _ _=>holdsB kind v l) (N:=i) (fun b j=>b=(nodupP l i && neP l i j)) ?_ ?_ (nodupP l i) 0 (Nat.zero_le _) (by simp [neP])
  ·simpa using this
  ·rintro b rfl
   refine Ev.step (fun k=>spec_l4Holds.l1.eq_2 _ _ _ _ _ _ _ _ _ k) ?_
   simp only [Int.lt_irrefl,if_false,w64n (by omega:i < 9000000000000000000)]
   exact ih (_,_,_) rfl
  ·rintro b j hj hb ihj
   refine Ev.step (fun k=>spec_l4Holds.l1.eq_2 _ _ _ _ _ _ _ _ _ k) ?_
   have h2:(j:Int) < (i:Int):=by omega
   have h3:(j:Int) < (l.length:Int):=by omega
   have h5:(0:Int)≤(j:Int):=Int.natCast_nonneg j
   simp only [h2,h3,h5,h1,h0,if_true,w64n (by omega:j < 9000000000000000000)]
   cases b with
   | true =>
    simp only [if_true]
    refine ihj _ ?_
    rw [neP,← Bool.and_assoc,← hb,Bool.true_and]
   | false =>
    simp only [Bool.false_eq_true,if_false]
    refine ihj _ ?_
    rw [neP,← Bool.and_assoc,← hb,Bool.false_and]
theorem valuesHold_ev {kind v:Int}{cs l:List Int}(h:ValsOK kind l):Ev (fun k=>impl_valuesHold.f k kind cs v l) (holdsB kind v l):=by
 obtain ⟨h4,hx,hk1,hk5,hk2⟩:=h
 unfold impl_valuesHold.f
 have:=Ev.range (L:=fun k (p:Int × Int) i=>impl_valuesHold.l0 k l p.1 p.2 l (l.length:Int) i kind cs v) (R:=fun _ _=>holdsB kind v l) (N:=l.length) (fun p i=>p=(sumP l i,prodP l i)∧(kind=1→nodupP l i=true)) ?_ ?_ (0,1) 0 (Nat.zero_le _) ⟨rfl,fun _=>rfl⟩
 ·simpa using this
 ·rintro p ⟨rfl,hd⟩
  refine Ev.step (fun k=>impl_valuesHold.l0.eq_2 _ _ _ _ _ _ _ _ _ k) ?_
  unfold holdsB
  simp only [Int.lt_irrefl,if_false]
  by_cases k1:kind=1
  ·have k2:¬ kind=2:=by omega
   have k3:¬ kind=3:=by omega
   have k4:¬ kind=4:=by omega
   have k5:¬ kind=5:=by omega
   simp only [k2,k3,k4,k5,if_false]
   rw [if_pos k1,hd k1]
   exact Ev.now _
  ·by_cases k2:kind=2
   ·simp only [k1,k2,if_true,if_false];exact Ev.now _
   ·by_cases k3:kind=3
    ·simp only [k1,k2,k3,if_true,if_false];exact Ev.now _
    ·have hl2:l.length=2:=hk2 (by omega)
     have e0:(0:Int) < (l.length:Int):=by omega
     have e1:(1:Int) < (l.length:Int):=by omega
     have hr0:=hx _ (rd_mem (g:=l) (i:=0) (by decide) e0)
     have hr1:=hx _ (rd_mem (g:=l) (i:=1) (by decide) e1)
     have w1:wrap64 (rd l 0 - rd l 1)=rd l 0 - rd l 1:=by unfold wrap64;omega
     have w2:wrap64 (rd l 1 - rd l 0)=rd l 1 - rd l 0:=by unfold wrap64;omega
     by_cases k4:kind=4
     ·simp only [k1,k2,k3,k4,e0,e1,if_true,if_false];exact Ev.now _
     ·have k5:kind=5:=by omega
      simp only [k1,k2,k3,k4,e0,e1,if_true,if_false,w1,w2]
      simp only [k5,if_true]
      exact Ev.now _
 ·rintro p i hi ⟨rfl,hd⟩ ih
  refine Ev.step (fun k=>impl_valuesHold.l0.eq_2 _ _ _ _ _ _ _ _ _ k) ?_
  have h1:(i:Int) < (l.length:Int):=by omega
  have h2:(i:Int)≤(l.length:Int):=by omega
  have h0:(0:Int)≤(i:Int):=Int.natCast_nonneg i
  have hs:=sumP_le hx (i + 1) (by omega)
  have hp:=prodP_small hx (n:=i + 1) (by omega) (by omega)
  have ws:wrap64 (sumP l i + rd l (i:Int))=sumP l (i + 1):=by
   rw [show sumP l i + rd l (i:Int)=sumP l (i + 1) from rfl];exact w64 (by omega) (by omega)
  have wp:wrap64 (prodP l i * rd l (i:Int))=prodP l (i + 1):=by
   rw [show prodP l i * rd l (i:Int)=prodP l (i + 1) from rfl];exact w64 (by omega) (by omega)
  simp only [h1,h2,h0,if_true,ws,wp,Int.toNat_natCast,w64n (by omega:i < 9000000000000000000)]
  clear hs hp ws wp
  by_cases k1:kind=1
  ·simp only [k1,if_true]
   refine Ev.bind (contains_ev _ _ (by rw [List.length_take];omega)) ?_
   by_cases hm:rd l (i:Int)∈l.take i
   ·simp only [hm,decide_true,if_true]
    have hf:nodupP l (i + 1)=false:=by rw [nodupP,neP_mem hi,decide_eq_true hm];simp
    have:holdsB 1 v l=false:=by
     unfold holdsB
     obtain ⟨d,hd'⟩:∃ d,l.length=(i + 1) + d:=⟨l.length - (i + 1),by omega⟩
     rw [if_pos rfl,hd']
     exact nodupP_le hf d
    rw [this]
    exact Ev.now _
   ·simp only [hm,decide_false,if_false,Bool.false_eq_true]
    have:=ih (_,_) ⟨rfl,fun _=>by rw [nodupP,neP_mem hi,decide_eq_false hm,hd k1];rfl⟩
    rw [k1] at this
    exact this
  ·simp only [k1,if_false]
   exact ih (_,_) ⟨rfl,fun h=>absurd h k1⟩

end Go.Proofs.Ytmjbnghhfadapaa.Pure
namespace Go.Proofs.Ytmjbnghhfadapaa.Pure
set_option linter.unusedSimpArgs false
set_option linter.unusedVariables false
open Go.RowKit Go.Proofs.YtmjbnghhfadapaaW.PrintWords Go.Proofs.YtmjbnghhfadapaaW.PrintMore Go.Proofs.Ytmjbnghhfadapaa.P


def mvals (m:Int):List Int:=if 0≤m∧m≤30∧m % 2=0 then [1,2,3,4].filter (fun v=>decide ((m / 2 ^ v.toNat) % 2=1)) else []
theorem even_cases {m:Int}(h:0≤m∧m≤30∧m % 2=0):m=0∨m=2∨m=4∨m=6∨m=8∨m=10∨m=12∨m=14∨m=16∨m=18∨m=20∨m=22∨m=24∨m=26∨m=28∨m=30:=by omega
theorem specMaskValues_ev (m:Int):Ev (fun k=>spec_MaskValues.f k m) (mvals m):=by
 by_cases h:0≤m∧m≤30∧m % 2=0
 ·rcases even_cases h with rfl|rfl|rfl|rfl|rfl|rfl|rfl|rfl|rfl|rfl|rfl|rfl|rfl|rfl|rfl|rfl <;>
   exact Ev.of (spec_MaskValues.mono _) (k:=12) (by decide +kernel)
 ·have e:mvals m=[]:=by unfold mvals;rw [if_neg h]
  rw [e]
  unfold spec_MaskValues.f
  refine Ev.step (fun k=>spec_MaskValues.l0.eq_2 _ _ _ k) ?_
  have h4:(1:Int)≤4:=by decide
  simp only [h4,if_true,l1In_eq,Option.bind_some]
  by_cases hr:0≤m∧m≤30
  ·have ht:¬ Int.tmod m 2=0:=by rw [Int.tmod_eq_emod_of_nonneg hr.1];omega
   have ht2:(Int.tmod m 2 == 0)=false:=by simpa using ht
   simp only [hr,ht2,and_self,decide_true,if_true]
   refine Ev.step (fun k=>spec_MaskValues.j1.eq_2 _ _ _ _ k) ?_
   simp only [Bool.false_eq_true,if_false]
   exact Ev.now _
  ·simp only [hr,decide_false,Bool.false_eq_true,if_false]
   refine Ev.step (fun k=>spec_MaskValues.j1.eq_2 _ _ _ _ k) ?_
   simp only [Bool.false_eq_true,if_false]
   exact Ev.now _

end Go.Proofs.Ytmjbnghhfadapaa.Pure
namespace Go.Proofs.Ytmjbnghhfadapaa.Pure
set_option linter.unusedSimpArgs false
set_option linter.unusedVariables false
open Go.RowKit Go.Proofs.YtmjbnghhfadapaaW.PrintWords Go.Proofs.YtmjbnghhfadapaaW.PrintMore Go.Proofs.Ytmjbnghhfadapaa.P


theorem specGridValid_ev (g:List Int)(s:Int)(h:g.length≤35184372088832):Ev (fun k=>spec_GridValid.f k g s) (gridB g s):=by
 unfold spec_GridValid.f
 have:=Ev.range0 (L:=fun k i=>spec_GridValid.l0 k g s i) (R:=fun n=>(g.drop n).all (fun v=>decide (0≤v∧v≤s)) && (sizeOkB s && decide ((g.length:Int)=s * s))) (N:=g.length) ?_ ?_ 0 (Nat.zero_le _)
 ·have e:gridB g s=((g.drop 0).all (fun v=>decide (0≤v∧v≤s)) && (sizeOkB s && decide ((g.length:Int)=s * s))):=by
   unfold gridB;rw [List.drop_zero];cases sizeOkB s <;> cases decide ((g.length:Int)=s * s) <;> simp
  rw [e];simpa using this
 ·refine Ev.step (fun k=>spec_GridValid.l0.eq_2 _ _ _ k) ?_
  simp only [Int.lt_irrefl,if_false,l1In_eq,Option.bind_some,List.drop_length,List.all_nil,Bool.true_and]
  by_cases hs:sizeOkB s=true
  ·have hs':decide (2≤s∧s≤4)=true:=hs
   have hw:wrap64 (s * s)=s * s:=by rcases sizeOkB_iff.1 hs with rfl|rfl|rfl <;> decide +kernel
   simp only [hs',if_true,hs,hw,Bool.true_and]
   have e:((g.length:Int) == s * s)=decide ((g.length:Int)=s * s):=by
    by_cases h:(g.length:Int)=s * s <;> simp [h]
   rw [e];exact Ev.now _
  ·have hs':¬ decide (2≤s∧s≤4)=true:=hs
   simp only [hs',hs,if_false,Bool.false_and,eq_false_of_ne_true hs,Bool.false_eq_true]
   exact Ev.now _
 ·intro n hn ih
  refine Ev.step (fun k=>spec_GridValid.l0.eq_2 _ _ _ k) ?_
  have h1:(n:Int) < (g.length:Int):=by omega
  have h3:(0:Int)≤n:=by omega
  rw [drop_cons hn]
  simp only [h1,h3,if_true,rd_lt hn,l1In_eq,Option.bind_some,List.all_cons]
  by_cases hv:decide (0≤g[n]∧g[n]≤s)=true
  ·simp only [hv,if_true,w64n (by omega:n < 9000000000000000000),Bool.true_and]
   exact ih
  ·simp only [hv,if_false,eq_false_of_ne_true hv,Bool.false_and,Bool.false_eq_true]
   exact Ev.now _
theorem implGridValid_ev (g:List Int)(s:Int)(h:g.length≤35184372088832):Ev (fun k=>impl_GridValid.f k g s) (gridB g s):=by
 unfold impl_GridValid.f
 simp only [sizeOk_eq,Option.bind_some]
 by_cases hs:sizeOkB s=true
 ·have hw:wrap64 (s * s)=s * s:=by rcases sizeOkB_iff.1 hs with rfl|rfl|rfl <;> decide +kernel
  simp only [hs,if_true,hw]
  refine Ev.step (fun k=>impl_GridValid.j0.eq_2 _ _ _ k) ?_
  by_cases hl:(g.length:Int)=s * s
  ·have e:((g.length:Int) != s * s)=false:=by simp [hl]
   simp only [e,Bool.false_eq_true,if_false]
   have:=Ev.range0 (L:=fun k i=>impl_GridValid.l0 k s g (g.length:Int) i) (R:=fun n=>(g.drop n).all (fun v=>decide (0≤v∧v≤s))) (N:=g.length) ?_ ?_ 0 (Nat.zero_le _)
   ·have e:gridB g s=(g.drop 0).all (fun v=>decide (0≤v∧v≤s)):=by
     unfold gridB;rw [List.drop_zero,hs,hl];simp
    rw [e];simpa using this
   ·refine Ev.step (fun k=>impl_GridValid.l0.eq_2 _ _ _ _ k) ?_
    simp only [Int.lt_irrefl,if_false,List.drop_length,List.all_nil]
    exact Ev.now _
   ·intro n hn ih
    refine Ev.step (fun k=>impl_GridValid.l0.eq_2 _ _ _ _ k) ?_
    have h1:(n:Int) < (g.length:Int):=by omega
    have h3:(0:Int)≤n:=by omega
    rw [drop_cons hn]
    simp only [h1,h3,if_true,rd_lt hn,List.all_cons]
    by_cases ha:g[n] < 0
    ·have:decide (0≤g[n]∧g[n]≤s)=false:=decide_eq_false (by omega)
     simp only [ha,if_true,this,Bool.false_and]
     exact Ev.now _
    ·by_cases hb:g[n] > s
     ·have:decide (0≤g[n]∧g[n]≤s)=false:=decide_eq_false (by omega)
      simp only [ha,hb,if_true,if_false,this,Bool.false_and]
      exact Ev.now _
     ·have:decide (0≤g[n]∧g[n]≤s)=true:=decide_eq_true (by omega)
      simp only [ha,hb,if_false,this,Bool.true_and,w64n (by omega:n < 9000000000000000000)]
      exact ih
  ·have e:((g.length:Int) != s * s)=true:=by simp [hl]
   have e2:gridB g s=false:=by unfold gridB;simp [hl]
   simp only [e,if_true,e2]
   exact Ev.now _
 ·have e2:gridB g s=false:=by unfold gridB;simp [hs]
  simp only [hs,if_false,e2,Bool.false_eq_true]
  refine Ev.step (fun k=>impl_GridValid.j0.eq_2 _ _ _ k) ?_
  simp only [if_true]
  exact Ev.now _

end Go.Proofs.Ytmjbnghhfadapaa.Pure
namespace Go.Proofs.Ytmjbnghhfadapaa.Pure
set_option linter.unusedSimpArgs false
set_option linter.unusedVariables false
open Go.RowKit Go.Proofs.YtmjbnghhfadapaaW.PrintWords Go.Proofs.YtmjbnghhfadapaaW.PrintMore Go.Proofs.Ytmjbnghhfadapaa.P


theorem specRuleTail_ev (s kind v:Int)(cs:List Int)(hs:sizeOkB s=true):Ev (fun k=>spec_RuleValid.j2 k s (cs.length:Int) (decide ((cs.length:Int) > 4)) kind cs v) (ruleTail kind cs.length v s):=by
 have hsz:=sizeOkB_iff.1 hs
 have hw:wrap64 ((wrap64 ((wrap64 (s * s)) * s)) * s)=s * s * s * s:=by rcases hsz with rfl|rfl|rfl <;> decide +kernel
 have hw1:wrap64 (s - 1)=s - 1:=by rcases hsz with rfl|rfl|rfl <;> decide +kernel
 refine Ev.step (fun k=>spec_RuleValid.j2.eq_2 _ _ _ _ _ _ k) ?_
 unfold ruleTail
 by_cases h4:(cs.length:Int) > 4
 ·have h4':¬ (cs.length:Int)≤4:=by omega
  simp only [h4,h4',decide_true,decide_false,if_true,Bool.false_and]
  exact Ev.now _
 ·have h4':(cs.length:Int)≤4:=by omega
  simp only [h4,h4',decide_true,decide_false,if_false,Bool.true_and,Bool.false_eq_true]
  by_cases k1:kind=1
  ·simp only [k1,if_true]
   by_cases h2:(cs.length:Int) ≥ 2
   ·have h2':2≤(cs.length:Int):=h2
    simp only [h2,h2',if_true,true_and]
    by_cases hv:v=0
    ·subst hv;exact Ev.now _
    ·have e1:(v == 0)=false:=by rw [beq_eq_false_iff_ne];exact hv
     simp only [hv,e1,decide_false];exact Ev.now _
   ·have h2':¬ 2≤(cs.length:Int):=h2
    simp only [h2,h2',if_false,false_and,decide_false]
    exact Ev.now _
  ·simp only [k1,if_false]
   have hj:∀ b,b=(decide (kind=2∨kind=3))→Ev (fun k=>spec_RuleValid.j3 k s (cs.length:Int) kind b kind cs v) (if kind=2∨kind=3 then decide (1≤(cs.length:Int)∧1≤v∧v≤s * s * s * s) else if kind=4 then decide ((cs.length:Int)=2∧v=0) else if kind=5 then decide ((cs.length:Int)=2∧0≤v∧v < s) else false):=by
    rintro b rfl
    refine Ev.step (fun k=>spec_RuleValid.j3.eq_2 _ _ _ _ _ _ _ k) ?_
    by_cases k2:kind=2∨kind=3
    ·simp only [k2,decide_true,if_true]
     by_cases h1:(cs.length:Int) ≥ 1
     ·have h1':1≤(cs.length:Int):=h1
      simp only [h1,h1',if_true,true_and,l1In_eq,Option.bind_some,hw]
      exact Ev.now _
     ·have h1':¬ 1≤(cs.length:Int):=h1
      simp only [h1,h1',if_false,false_and,decide_false]
      exact Ev.now _
    ·simp only [k2,decide_false,if_false,Bool.false_eq_true]
     by_cases k4:kind=4
     ·simp only [k4,if_true]
      by_cases h2:(cs.length:Int)=2
      ·simp only [h2,if_true,true_and]
       by_cases hv:v=0
       ·subst hv;exact Ev.now _
       ·have e1:(v == 0)=false:=by rw [beq_eq_false_iff_ne];exact hv
        simp only [hv,e1,decide_false];exact Ev.now _
      ·simp only [h2,if_false,false_and,decide_false]
       exact Ev.now _
     ·simp only [k4,if_false]
      by_cases k5:kind=5
      ·simp only [k5,if_true]
       by_cases h2:(cs.length:Int)=2
       ·have hlt:(v≤s - 1)=(v < s):=by apply propext;omega
        simp only [h2,if_true,true_and,l1In_eq,Option.bind_some,hw1,hlt]
        exact Ev.now _
       ·simp only [h2,if_false,false_and,decide_false]
        exact Ev.now _
      ·simp only [k5,if_false]
       exact Ev.now _
   by_cases k2:kind=2
   ·have e:(kind == 2)=decide (kind=2∨kind=3):=by simp [k2]
    have:=hj _ e
    simpa only [k2,if_true] using this
   ·have e:(kind == 3)=decide (kind=2∨kind=3):=by
     by_cases k3:kind=3 <;> simp [k2,k3]
    have:=hj _ e
    simp only [k2,if_false]
    simpa only [k2,false_or] using this
theorem specRuleValid_ev (kind:Int)(cs:List Int)(v s:Int)(hl:cs.length≤35184372088832):Ev (fun k=>spec_RuleValid.f k kind cs v s) (ruleB kind cs v s):=by
 unfold spec_RuleValid.f ruleB
 have hRf:∀ i,i < cs.length→(sizeOkB s=true→goodCells (s * s) cs (i + 1)=false)→(sizeOkB s && (goodCells (s * s) cs cs.length && ruleTail kind cs.length v s))=false:=by
  intro i hi h
  by_cases hs:sizeOkB s=true
  ·rw [hs,goodCells_le (h hs) (by omega:i + 1≤cs.length)];rfl
  ·rw [eq_false_of_ne_true hs];rfl
 have:=Ev.range (σ:=Unit) (L:=fun k _ i=>spec_RuleValid.l0 k s i kind cs v) (R:=fun _ _=>sizeOkB s && (goodCells (s * s) cs cs.length && ruleTail kind cs.length v s)) (N:=cs.length) (fun _ i=>sizeOkB s=true→goodCells (s * s) cs i=true) ?_ ?_ () 0 (Nat.zero_le _) (fun _=>rfl)
 ·simpa using this
 ·intro _ hg
  refine Ev.step (fun k=>spec_RuleValid.l0.eq_2 _ _ _ _ _ k) ?_
  simp only [Int.lt_irrefl,if_false,l1In_eq,Option.bind_some]
  by_cases hs:sizeOkB s=true
  ·have hs':=hs
   unfold sizeOkB at hs'
   rw [hg hs,hs]
   simp only [hs',if_true,Bool.true_and]
   exact specRuleTail_ev s kind v cs hs
  ·have hs':=eq_false_of_ne_true hs
   rw [hs']
   unfold sizeOkB at hs'
   simp only [hs',Bool.false_eq_true,if_false,Bool.false_and]
   refine Ev.step (fun k=>spec_RuleValid.j2.eq_2 _ _ _ _ _ _ k) ?_
   simp only [if_true]
   exact Ev.now _
 ·intro _ i hi hg ih
  refine Ev.step (fun k=>spec_RuleValid.l0.eq_2 _ _ _ _ _ k) ?_
  have h1:(i:Int) < (cs.length:Int):=by omega
  have h0:(0:Int)≤(i:Int):=Int.natCast_nonneg i
  simp only [h1,h0,if_true,l1In_eq,Option.bind_some]
  by_cases hc:0≤rd cs (i:Int)∧rd cs (i:Int)≤wrap64 ((wrap64 (s * s)) - 1)
  ·simp only [hc,and_self,decide_true,if_true]
   have:=Ev.range (σ:=Unit) (L:=fun k _ j=>spec_RuleValid.l1 k s (i:Int) j kind cs v) (R:=fun _ _=>sizeOkB s && (goodCells (s * s) cs cs.length && ruleTail kind cs.length v s)) (N:=i) (fun _ j=>∀ d,d < j→rd cs (d:Int)≠rd cs (i:Int)) ?_ ?_ () 0 (Nat.zero_le _) (fun d hd=>absurd hd (Nat.not_lt_zero d))
   ·simpa using this
   ·intro _ hno
    refine Ev.step (fun k=>spec_RuleValid.l1.eq_2 _ _ _ _ _ _ k) ?_
    simp only [Int.lt_irrefl,if_false,w64n (by omega:i < 9000000000000000000)]
    refine ih () (fun hs=>?_)
    have ht:wrap64 ((wrap64 (s * s)) - 1)=s * s - 1:=by rcases sizeOkB_iff.1 hs with rfl|rfl|rfl <;> decide +kernel
    rw [ht] at hc
    have hm:¬ rd cs (i:Int)∈cs.take i:=by
     intro hm
     obtain ⟨j,hj,_,he⟩:=mem_take_iff.1 hm
     exact hno j hj he
    rw [goodCells,hg hs,decide_eq_true (⟨hc.1,by omega⟩:0≤rd cs (i:Int)∧rd cs (i:Int) < s * s),decide_eq_false hm]
    rfl
   ·intro _ j hj hno ihj
    refine Ev.step (fun k=>spec_RuleValid.l1.eq_2 _ _ _ _ _ _ k) ?_
    have h2:(j:Int) < (i:Int):=by omega
    have h3:(0:Int)≤(j:Int):=Int.natCast_nonneg j
    have h4:(j:Int) < (cs.length:Int):=by omega
    simp only [h2,h3,h4,h1,h0,if_true,w64n (by omega:j < 9000000000000000000)]
    by_cases he:rd cs (j:Int)=rd cs (i:Int)
    ·simp only [he,if_true]
     rw [hRf i hi (fun hs=>by
      have hm:rd cs (i:Int)∈cs.take i:=mem_take_iff.2 ⟨j,hj,by omega,he⟩
      rw [goodCells,decide_eq_true hm];simp)]
     exact Ev.now _
    ·simp only [he,if_false]
     refine ihj () (fun d hd=>?_)
     by_cases hdj:d=j
     ·rw [hdj];exact he
     ·exact hno d (by omega)
  ·simp only [hc,decide_false,if_false,Bool.false_eq_true]
   rw [hRf i hi (fun hs=>by
    have ht:wrap64 ((wrap64 (s * s)) - 1)=s * s - 1:=by rcases sizeOkB_iff.1 hs with rfl|rfl|rfl <;> decide +kernel
    rw [ht] at hc
    have hn:¬ (0≤rd cs (i:Int)∧rd cs (i:Int) < s * s):=fun h=>hc ⟨h.1,by omega⟩
    rw [goodCells,decide_eq_false hn];simp)]
   exact Ev.now _

end Go.Proofs.Ytmjbnghhfadapaa.Pure
namespace Go.Proofs.Ytmjbnghhfadapaa.Pure
set_option linter.unusedSimpArgs false
set_option linter.unusedVariables false
open Go.RowKit Go.Proofs.YtmjbnghhfadapaaW.PrintWords Go.Proofs.YtmjbnghhfadapaaW.PrintMore


def has (m v:Int):Bool:=decide ((m / 2 ^ v.toNat) % 2=1)

end Go.Proofs.Ytmjbnghhfadapaa.Pure
namespace Go.Proofs.Ytmjbnghhfadapaa.Pure
set_option linter.unusedSimpArgs false
set_option linter.unusedVariables false
open Go.RowKit Go.Proofs.YtmjbnghhfadapaaW.PrintWords Go.Proofs.YtmjbnghhfadapaaW.PrintMore

theorem size_le4 {s:Int}(h:sizeOkB s=true):2≤s∧s≤4:=by rcases sizeOkB_iff.1 h with rfl|rfl|rfl <;> decide
theorem val_le {g:List Int}{s:Int}(h:gridB g s=true){x:Int}(hx:x∈g):0≤x∧x≤4:=by
 have h1:=gridB_mem h x hx
 have h2:=size_le4 (gridB_size h)
 omega

end Go.Proofs.Ytmjbnghhfadapaa.Pure
namespace Go.Proofs.Ytmjbnghhfadapaa.Pure
set_option linter.unusedSimpArgs false
set_option linter.unusedVariables false
open Go.RowKit Go.Proofs.YtmjbnghhfadapaaW.PrintWords Go.Proofs.YtmjbnghhfadapaaW.PrintMore Go.Proofs.Ytmjbnghhfadapaa.P


def ruleHolds (kind:Int)(cs:List Int)(v:Int)(g:List Int)(s:Int):Bool:=ruleB kind cs v s && (gridB g s && ((cs.map (fun c=>rd g c)).all (fun x=>decide (x≠0)) && holdsB kind v (cs.map (fun c=>rd g c))))
theorem ruleB_parts {kind:Int}{cs:List Int}{v s:Int}(h:ruleB kind cs v s=true):sizeOkB s=true∧goodCells (s * s) cs cs.length=true∧cs.length≤4∧1≤kind∧kind≤5∧(4≤kind→cs.length=2):=by
 unfold ruleB ruleTail at h
 simp only [Bool.and_eq_true,decide_eq_true_eq] at h
 obtain ⟨h1,h2,h3,h4⟩:=h
 refine ⟨h1,h2,by omega,?_⟩
 by_cases k1:kind=1
 ·omega
 ·rw [if_neg k1] at h4
  by_cases k2:kind=2∨kind=3
  ·omega
  ·rw [if_neg k2] at h4
   by_cases k4:kind=4
   ·rw [if_pos k4] at h4
    simp only [decide_eq_true_eq] at h4
    omega
   ·rw [if_neg k4] at h4
    by_cases k5:kind=5
    ·rw [if_pos k5] at h4
     simp only [decide_eq_true_eq] at h4
     omega
    ·rw [if_neg k5] at h4;cases h4
theorem cell_mem {t:Int}{cs:List Int}(h:goodCells t cs cs.length=true):∀ c∈cs,0≤c∧c < t:=by
 intro c hc
 obtain ⟨i,hi,he⟩:=List.mem_iff_getElem.1 hc
 have:=goodCells_at h i hi
 rw [rd_lt hi,he] at this
 exact this
theorem valsOK {kind:Int}{cs:List Int}{v s:Int}{g:List Int}(h:ruleB kind cs v s=true)(hg:gridB g s=true):ValsOK kind (cs.map (fun c=>rd g c)):=by
 obtain ⟨hs,hc,h4,hk1,hk5,hk2⟩:=ruleB_parts h
 refine ⟨by rw [List.length_map];exact h4,fun x hx=>?_,hk1,hk5,fun h=>by rw [List.length_map];exact hk2 h⟩
 obtain ⟨c,hcm,rfl⟩:=List.mem_map.1 hx
 have hb:=cell_mem hc c hcm
 have hl:=gridB_len hg
 exact val_le hg (rd_mem hb.1 (by omega))
theorem vals_zero {cs g:List Int}{i:Nat}(hi:i < cs.length)(h:rd g (rd cs (i:Int))=0):(cs.map (fun c=>rd g c)).all (fun x=>decide (x≠0))=false:=by
 rw [List.all_eq_false]
 refine ⟨rd g (rd cs (i:Int)),List.mem_map.2 ⟨rd cs (i:Int),rd_mem (by omega) (by omega),rfl⟩,?_⟩
 simp [h]
theorem implRuleHolds_ev (kind:Int)(cs:List Int)(v:Int)(g:List Int)(s:Int)(hl:cs.length≤35184372088832)(hgl:g.length≤35184372088832):Ev (fun k=>impl_RuleHolds.f k kind cs v g s) (ruleHolds kind cs v g s):=by
 unfold impl_RuleHolds.f ruleHolds
 refine Ev.bind (implRuleValid_ev kind cs v s hl) ?_
 have hj:Ev (fun k=>impl_RuleHolds.j0 k g true kind cs v) false:=by
  refine Ev.step (fun k=>impl_RuleHolds.j0.eq_2 _ _ _ _ _ k) ?_
  simp only [if_true];exact Ev.now _
 by_cases hr:ruleB kind cs v s=true
 ·simp only [hr,if_true,Bool.true_and]
  refine Ev.bind (implGridValid_ev g s hgl) ?_
  by_cases hg:gridB g s=true
  ·simp only [hg,Bool.not_true,Bool.true_and]
   refine Ev.step (fun k=>impl_RuleHolds.j0.eq_2 _ _ _ _ _ k) ?_
   simp only [Bool.false_eq_true,if_false]
   have hcm:=cell_mem (ruleB_parts hr).2.1
   have h4:=(ruleB_parts hr).2.2.1
   have hgl2:=gridB_len hg
   have:=Ev.range (L:=fun k (x:List Int) i=>impl_RuleHolds.l0 k g x cs (cs.length:Int) i kind cs v) (R:=fun _ _=>(cs.map (fun c=>rd g c)).all (fun x=>decide (x≠0)) && holdsB kind v (cs.map (fun c=>rd g c))) (N:=cs.length) (fun x i=>x=(cs.take i).map (fun c=>rd g c)∧x.all (fun x=>decide (x≠0))=true) ?_ ?_ [] 0 (Nat.zero_le _) ⟨rfl,rfl⟩
   ·simpa using this
   ·rintro x ⟨rfl,hz⟩
    refine Ev.step (fun k=>impl_RuleHolds.l0.eq_2 _ _ _ _ _ _ _ _ k) ?_
    rw [List.take_length] at hz ⊢
    simp only [Int.lt_irrefl,if_false]
    rw [hz,Bool.true_and]
    exact Ev.bind (valuesHold_ev (valsOK hr hg)) (Ev.now _)
   ·rintro x i hi ⟨rfl,hz⟩ ih
    refine Ev.step (fun k=>impl_RuleHolds.l0.eq_2 _ _ _ _ _ _ _ _ k) ?_
    have h1:(i:Int) < (cs.length:Int):=by omega
    have h0:(0:Int)≤(i:Int):=Int.natCast_nonneg i
    have hc:=hcm _ (rd_mem h0 h1)
    have hc1:rd cs (i:Int) < (g.length:Int):=by omega
    have hlen:((cs.take i).map (fun c=>rd g c)).length < 17592186044416:=by rw [List.length_map,List.length_take];omega
    simp only [h1,h0,hc.1,hc1,hlen,if_true,w64n (by omega:i < 9000000000000000000)]
    by_cases hz0:rd g (rd cs (i:Int))=0
    ·simp only [hz0,if_true]
     rw [vals_zero hi hz0]
     exact Ev.now _
    ·simp only [hz0,if_false]
     refine ih _ ⟨?_,?_⟩
     ·rw [List.take_succ_eq_append_getElem hi,List.map_append,List.map_singleton,rd_lt hi]
     ·rw [List.all_append,hz];simp [hz0]
  ·simp only [hg,Bool.not_false,Bool.false_and]
   exact hj
 ·simp only [hr,if_false,Bool.false_eq_true,Bool.false_and]
  exact hj

end Go.Proofs.Ytmjbnghhfadapaa.Pure
namespace Go.Proofs.Ytmjbnghhfadapaa.Pure
set_option linter.unusedSimpArgs false
set_option linter.unusedVariables false
open Go.RowKit Go.Proofs.YtmjbnghhfadapaaW.PrintWords Go.Proofs.YtmjbnghhfadapaaW.PrintMore


def orP (vals:List Int):Nat→Int→List Int→List Int
 | 0,_,out=>out
 | d + 1,i,out=>orP vals d (i + 1) (out.set i.toNat (Go.bits .or .i64 (rd out i) (shl .i64 1 (rd vals i))))
def waysM (kind v:Int)(own:List Int):Nat→List Int→List Int→List Int
 | 0,pre,out=>if holdsB kind v pre=true then orP pre pre.length 0 out else out
 | d + 1,pre,out=>(mvals (rd own (pre.length:Nat))).foldl (fun o x=>waysM kind v own d (pre ++ [x]) o) out
theorem orP_len (vals:List Int):∀ (d:Nat) (i:Int) (out:List Int),(orP vals d i out).length=out.length
 | 0,_,_=>rfl
 | d + 1,i,out=>by unfold orP;rw [orP_len vals d,List.length_set]
theorem foldl_len {f:List Int→Int→List Int}(h:∀ o x,(f o x).length=o.length):∀ (l:List Int) (o:List Int),(l.foldl f o).length=o.length
 | [],_=>rfl
 | x :: l,o=>by rw [List.foldl_cons,foldl_len h l,h]
theorem waysM_len (kind v:Int)(own:List Int):∀ (d:Nat) (pre out:List Int),(waysM kind v own d pre out).length=out.length
 | 0,pre,out=>by
  unfold waysM;split
  ·exact orP_len _ _ _ _
  ·rfl
 | d + 1,pre,out=>by
  unfold waysM
  exact foldl_len (fun o x=>waysM_len kind v own d _ o) _ _
theorem mvals_range {m x:Int}(h:x∈mvals m):1≤x∧x≤4:=by
 unfold mvals at h
 split at h
 ·have:=(List.mem_filter.1 h).1
  simp at this
  omega
 ·cases h
theorem mvals_len4 (m:Int):(mvals m).length≤4:=by
 unfold mvals;split
 ·exact List.length_filter_le _ _
 ·exact Nat.zero_le _
def ruleMasks (kind:Int)(cs:List Int)(v:Int)(masks:List Int)(s:Int):List Int:=if ruleB kind cs v s=true∧masksB masks s=true then waysM kind v (cs.map (fun c=>rd masks c)) cs.length [] (List.replicate cs.length 0) else []
theorem ruleB_len {kind:Int}{cs:List Int}{v s:Int}(h:ruleB kind cs v s=true):1≤cs.length∧cs.length≤4:=by
 have h4:=(ruleB_parts h).2.2.1
 unfold ruleB ruleTail at h
 simp only [Bool.and_eq_true,decide_eq_true_eq] at h
 refine ⟨?_,h4⟩
 have h2:=h.2.2.2
 split at h2
 ·simp only [decide_eq_true_eq] at h2;omega
 ·split at h2
  ·simp only [decide_eq_true_eq] at h2;omega
  ·split at h2
   ·simp only [decide_eq_true_eq] at h2;omega
   ·split at h2
    ·simp only [decide_eq_true_eq] at h2;omega
    ·cases h2
theorem ruleMasks_lenEq {kind:Int}{cs:List Int}{v:Int}{masks:List Int}{s:Int}(h:ruleB kind cs v s=true∧masksB masks s=true):(ruleMasks kind cs v masks s).length=cs.length:=by
 unfold ruleMasks;rw [if_pos h,waysM_len,List.length_replicate]
def KindOK (kind:Int)(n:Nat):Prop:=n≤4∧1≤kind∧kind≤5∧(4≤kind→n=2)
theorem kindOK_rule {kind:Int}{cs:List Int}{v s:Int}(h:ruleB kind cs v s=true):KindOK kind cs.length:=by
 obtain ⟨_,_,h1,h2,h3,h4⟩:=ruleB_parts h
 exact ⟨h1,h2,h3,h4⟩
theorem KindOK.vals {kind:Int}{n:Nat}(h:KindOK kind n){l:List Int}(hl:l.length=n)(hv:∀ x∈l,0≤x∧x≤4):ValsOK kind l:=by
 obtain ⟨h1,h2,h3,h4⟩:=h
 exact ⟨by omega,hv,h2,h3,fun h=>by rw [hl];exact h4 h⟩
theorem foldl_drop {β:Type}(f:β→Int→β)(l:List Int)(j:Nat)(hj:j < l.length)(o:β):(l.drop j).foldl f o=(l.drop (j + 1)).foldl f (f o l[j]):=by
 rw [List.drop_eq_getElem_cons hj,List.foldl_cons]

end Go.Proofs.Ytmjbnghhfadapaa.Pure
namespace Go.Proofs.Ytmjbnghhfadapaa.Pure
set_option linter.unusedSimpArgs false
set_option linter.unusedVariables false
open Go.RowKit Go.Proofs.YtmjbnghhfadapaaW.PrintWords Go.Proofs.YtmjbnghhfadapaaW.PrintMore

theorem and7_range (s:Int):0≤Go.bits .and .i64 s 7∧Go.bits .and .i64 s 7≤7:=by
 unfold Go.bits
 simp only [IntKind.wrap_i64]
 rw [BitVec.toNat_and]
 have:=@Nat.and_le_right (BitVec.ofInt IntKind.i64.bits s).toNat (BitVec.ofInt IntKind.i64.bits 7).toNat
 have e:(BitVec.ofInt IntKind.i64.bits 7).toNat=7:=by decide
 rw [e] at this ⊢
 omega

end Go.Proofs.Ytmjbnghhfadapaa.Pure
namespace Go.Proofs.Ytmjbnghhfadapaa.Pure
set_option linter.unusedSimpArgs false
set_option linter.unusedVariables false
open Go.RowKit Go.Proofs.YtmjbnghhfadapaaW.PrintWords Go.Proofs.YtmjbnghhfadapaaW.PrintMore Go.Proofs.Ytmjbnghhfadapaa.P


theorem specMasksValid_ev (g:List Int)(s:Int)(h:g.length≤35184372088832):Ev (fun k=>spec_MasksValid.f k g s) (masksB g s):=by
 unfold spec_MasksValid.f
 obtain ⟨B,hB⟩:∃ B,wrap64 ((shl .i64 1 (wrap64 ((Go.bits .and .i64 s 7) + 1))) - 2)=B:=⟨_,rfl⟩
 have hBs:sizeOkB s=true→B=allM s:=by
  intro hs;rw [← hB];rcases sizeOkB_iff.1 hs with rfl|rfl|rfl <;> decide +kernel
 have h7:(0:Int)≤wrap64 ((Go.bits .and .i64 s 7) + 1):=by
  have:=and7_range s
  rw [w64 (by omega) (by omega)];omega
 have:=Ev.range0 (L:=fun k i=>spec_MasksValid.l0 k g s i) (R:=fun n=>(g.drop n).all (fun v=>decide (0≤v∧v≤B∧v % 2=0)) && (sizeOkB s && decide ((g.length:Int)=s * s))) (N:=g.length) ?_ ?_ 0 (Nat.zero_le _)
 ·have e:masksB g s=((g.drop 0).all (fun v=>decide (0≤v∧v≤B∧v % 2=0)) && (sizeOkB s && decide ((g.length:Int)=s * s))):=by
   unfold masksB;rw [List.drop_zero]
   cases hs:sizeOkB s
   ·simp
   ·rw [hBs hs];cases decide ((g.length:Int)=s * s) <;> simp
  rw [e];simpa using this
 ·refine Ev.step (fun k=>spec_MasksValid.l0.eq_2 _ _ _ k) ?_
  simp only [Int.lt_irrefl,if_false,l1In_eq,Option.bind_some,List.drop_length,List.all_nil,Bool.true_and]
  by_cases hs:sizeOkB s=true
  ·have hs':decide (2≤s∧s≤4)=true:=hs
   have hw:wrap64 (s * s)=s * s:=by rcases sizeOkB_iff.1 hs with rfl|rfl|rfl <;> decide +kernel
   simp only [hs',if_true,hs,hw,Bool.true_and]
   have e:((g.length:Int) == s * s)=decide ((g.length:Int)=s * s):=by
    by_cases h:(g.length:Int)=s * s <;> simp [h]
   rw [e];exact Ev.now _
  ·have hs':¬ decide (2≤s∧s≤4)=true:=hs
   simp only [hs',if_false,Bool.false_and,eq_false_of_ne_true hs,Bool.false_eq_true]
   exact Ev.now _
 ·intro n hn ih
  refine Ev.step (fun k=>spec_MasksValid.l0.eq_2 _ _ _ k) ?_
  have h1:(n:Int) < (g.length:Int):=by omega
  have h3:(0:Int)≤n:=by omega
  rw [drop_cons hn]
  simp only [h1,h3,h7,if_true,rd_lt hn,l1In_eq,Option.bind_some,List.all_cons,hB]
  by_cases hv:0≤g[n]∧g[n]≤B
  ·have ht:Int.tmod g[n] 2=g[n] % 2:=Int.tmod_eq_emod_of_nonneg hv.1
   by_cases h2:g[n] % 2=0
   ·have e:decide (0≤g[n]∧g[n]≤B∧g[n] % 2=0)=true:=decide_eq_true ⟨hv.1,hv.2,h2⟩
    rw [e]
    simp only [decide_eq_true hv,ht,h2,if_true,w64n (by omega:n < 9000000000000000000),Bool.true_and]
    exact ih
   ·have e:decide (0≤g[n]∧g[n]≤B∧g[n] % 2=0)=false:=decide_eq_false (fun h=>h2 h.2.2)
    rw [e]
    simp only [decide_eq_true hv,ht,h2,if_true,if_false,Bool.false_and]
    exact Ev.now _
  ·have e:decide (0≤g[n]∧g[n]≤B∧g[n] % 2=0)=false:=decide_eq_false (fun h=>hv ⟨h.1,h.2.1⟩)
   simp only [decide_eq_false hv,e,if_false,Bool.false_and,Bool.false_eq_true]
   exact Ev.now _

end Go.Proofs.Ytmjbnghhfadapaa.Pure
namespace Go.Proofs.Ytmjbnghhfadapaa.Pure
set_option linter.unusedSimpArgs false
set_option linter.unusedVariables false
open Go.RowKit Go.Proofs.YtmjbnghhfadapaaW.PrintWords Go.Proofs.YtmjbnghhfadapaaW.PrintMore Go.Proofs.Ytmjbnghhfadapaa.P


theorem l4Ways_ev {kind v:Int}{cs masks:List Int}(hk:KindOK kind cs.length)(hc:∀ c∈cs,0≤c∧c < (masks.length:Int)):∀ (d:Nat) (pre out:List Int),pre.length + d=cs.length→out.length=cs.length→(∀ x∈pre,0≤x∧x≤4)→Ev (fun k=>spec_l4Ways.f k kind cs v masks pre out) (waysM kind v (cs.map (fun c=>rd masks c)) d pre out)
 | 0,pre,out,hp,ho,hx=>by
  refine Ev.step (fun k=>spec_l4Ways.f.eq_2 _ _ _ _ _ _ k) ?_
  have e:(pre.length:Int)=(cs.length:Int):=by omega
  simp only [e,if_true]
  refine Ev.bind (l4Holds_ev (hk.vals (by omega) hx)) ?_
  unfold waysM
  by_cases hh:holdsB kind v pre=true
  ·simp only [hh,if_true]
   have hn4:=hk.1
   refine Ev.range (L:=fun k (x:List Int) j=>spec_l4Ways.l0 k pre x (cs.length:Int) j) (R:=fun _ _=>orP pre pre.length 0 out) (N:=cs.length) (fun x j=>x.length=cs.length∧orP pre pre.length 0 out=orP pre (cs.length - j) (j:Int) x) ?_ ?_ out 0 (Nat.zero_le _) ⟨ho,by rw [show cs.length - 0=pre.length by omega];rfl⟩
   ·rintro x ⟨hl,he⟩
    refine Ev.step (fun k=>spec_l4Ways.l0.eq_2 _ _ _ _ k) ?_
    simp only [Int.lt_irrefl,if_false]
    rw [he,Nat.sub_self,orP]
    exact Ev.now _
   ·rintro x j hj ⟨hl,he⟩ ih
    refine Ev.step (fun k=>spec_l4Ways.l0.eq_2 _ _ _ _ k) ?_
    have h1:(j:Int) < (cs.length:Int):=by omega
    have h0:(0:Int)≤(j:Int):=by omega
    have h2:(j:Int) < (x.length:Int):=by omega
    have h3:(j:Int) < (pre.length:Int):=by omega
    have h4:0≤rd pre (j:Int):=(hx _ (rd_mem h0 h3)).1
    simp only [h0,h1,h2,h3,h4,if_true,w64n (by omega:j < 9000000000000000000),Int.toNat_natCast]
    refine ih _ ⟨by rw [List.length_set];exact hl,?_⟩
    rw [he,show cs.length - j=(cs.length - (j + 1)) + 1 by omega,orP,Int.toNat_natCast]
    congr 1
  ·simp only [hh,if_false]
   exact Ev.now _
 | d + 1,pre,out,hp,ho,hx=>by
  refine Ev.step (fun k=>spec_l4Ways.f.eq_2 _ _ _ _ _ _ k) ?_
  have e:¬ (pre.length:Int)=(cs.length:Int):=by omega
  have h0:(0:Int)≤(pre.length:Int):=by omega
  have h1:(pre.length:Int) < (cs.length:Int):=by omega
  obtain ⟨c0,c1⟩:=hc _ (rd_mem h0 h1)
  simp only [e,h0,h1,c0,c1,if_true,if_false]
  refine Ev.bind (specMaskValues_ev _) ?_
  have hn4:=hk.1
  unfold waysM
  have em:rd (cs.map (fun c=>rd masks c)) (pre.length:Nat)=rd masks (rd cs (pre.length:Nat)):=by
   rw [rd_lt (by rw [List.length_map];omega),rd_lt (by omega:pre.length < cs.length),List.getElem_map]
  rw [em]
  generalize hL:mvals (rd masks (rd cs (pre.length:Nat)))=L
  have hL4:L.length≤4:=by rw [← hL];exact mvals_len4 _
  have hLr:∀ x∈L,1≤x∧x≤4:=by intro x hx;rw [← hL] at hx;exact mvals_range hx
  have:=Ev.range (L:=fun k (x:List Int) j=>spec_l4Ways.l1 k masks pre x L j kind cs v) (R:=fun x j=>(L.drop j).foldl (fun o x=>waysM kind v (cs.map (fun c=>rd masks c)) d (pre ++ [x]) o) x) (N:=L.length) (fun x j=>x.length=cs.length) ?_ ?_ out 0 (Nat.zero_le _) ho
  ·simpa using this
  ·intro x hl
   refine Ev.step (fun k=>spec_l4Ways.l1.eq_2 _ _ _ _ _ _ _ _ k) ?_
   simp only [Int.lt_irrefl,if_false,List.drop_length,List.foldl_nil]
   exact Ev.now _
  ·intro x j hj hl ih
   refine Ev.step (fun k=>spec_l4Ways.l1.eq_2 _ _ _ _ _ _ _ _ k) ?_
   have g1:(j:Int) < (L.length:Int):=by omega
   have g0:(0:Int)≤(j:Int):=by omega
   have g2:([]:List Int).length + pre.length < 17592186044416:=by simp;omega
   have g3:pre.length + ([rd L (j:Int)]:List Int).length < 17592186044416:=by simp;omega
   simp only [g1,g0,g2,if_true,Option.bind_some,List.nil_append,g3]
   have hr:rd L (j:Int)=L[j]:=rd_lt hj
   have hm:=hLr _ (List.getElem_mem hj)
   refine Ev.bind (l4Ways_ev hk hc d (pre ++ [rd L (j:Int)]) x (by simp;omega) hl (fun y hy=>?_)) ?_
   ·rcases List.mem_append.1 hy with hy|hy
    ·exact hx y hy
    ·simp only [List.mem_singleton] at hy
     rw [hy,hr];omega
   ·rw [foldl_drop _ _ _ hj,w64n (by omega:j < 9000000000000000000)]
    have:=ih (waysM kind v (cs.map (fun c=>rd masks c)) d (pre ++ [rd L (j:Int)]) x) (by rw [waysM_len];exact hl)
    rw [hr] at this ⊢
    exact this
theorem rule_cells {kind:Int}{cs:List Int}{v s:Int}{g:List Int}(h:ruleB kind cs v s=true)(hl:(g.length:Int)=s * s):∀ c∈cs,0≤c∧c < (g.length:Int):=by
 rw [hl];exact cell_mem (ruleB_parts h).2.1
theorem specRuleMasks_ev (kind:Int)(cs:List Int)(v:Int)(masks:List Int)(s:Int)(hl:cs.length≤35184372088832)(hml:masks.length≤35184372088832):Ev (fun k=>spec_RuleMasks.f k kind cs v masks s) (ruleMasks kind cs v masks s):=by
 unfold spec_RuleMasks.f ruleMasks
 refine Ev.bind (specRuleValid_ev kind cs v s hl) ?_
 by_cases hr:ruleB kind cs v s=true
 ·simp only [hr,if_true,true_and]
  refine Ev.bind (specMasksValid_ev masks s hml) ?_
  by_cases hm:masksB masks s=true
  ·have h4:=ruleB_len hr
   have h0:(0:Int)≤(cs.length:Int):=by omega
   have h1:cs.length≤35184372088832:=hl
   simp only [hm,if_true,h0,Int.toNat_natCast,h1]
   refine Ev.bind (l4Ways_ev (kindOK_rule hr) (rule_cells hr (masksB_len hm)) cs.length [] (List.replicate cs.length 0) (by simp) (by simp) (by simp)) ?_
   exact Ev.now _
  ·simp only [hm,if_false]
   exact Ev.now _
 ·simp only [hr,if_false,false_and]
  exact Ev.now _

end Go.Proofs.Ytmjbnghhfadapaa.Pure
namespace Go.Proofs.Ytmjbnghhfadapaa.Pure
set_option linter.unusedSimpArgs false
set_option linter.unusedVariables false
open Go.RowKit Go.Proofs.YtmjbnghhfadapaaW.PrintWords Go.Proofs.YtmjbnghhfadapaaW.PrintMore Go.Proofs.Ytmjbnghhfadapaa.P


def gridMasks (g:List Int)(s:Int):List Int:=g.map (fun x=>if x=0 then allM s else shl .i64 1 x)
def rulePossible (kind:Int)(cs:List Int)(v:Int)(g:List Int)(s:Int):Bool:=ruleB kind cs v s && (gridB g s && (rd (ruleMasks kind cs v (gridMasks g s) s) 0 != 0))
theorem gridMask_ok {s x:Int}(hs:sizeOkB s=true)(h:0≤x∧x≤s):0≤(if x=0 then allM s else shl .i64 1 x)∧(if x=0 then allM s else shl .i64 1 x)≤allM s∧(if x=0 then allM s else shl .i64 1 x) % 2=0:=by
 rcases sizeOkB_iff.1 hs with rfl|rfl|rfl
 ·have:x=0∨x=1∨x=2:=by omega
  rcases this with rfl|rfl|rfl <;> decide +kernel
 ·have:x=0∨x=1∨x=2∨x=3:=by omega
  rcases this with rfl|rfl|rfl|rfl <;> decide +kernel
 ·have:x=0∨x=1∨x=2∨x=3∨x=4:=by omega
  rcases this with rfl|rfl|rfl|rfl|rfl <;> decide +kernel
theorem gridMasks_ok {g:List Int}{s:Int}(h:gridB g s=true):masksB (gridMasks g s) s=true:=by
 refine masksB_mk (gridB_size h) (by unfold gridMasks;rw [List.length_map];exact gridB_len h) (fun v hv=>?_)
 unfold gridMasks at hv
 obtain ⟨x,hx,rfl⟩:=List.mem_map.1 hv
 exact gridMask_ok (gridB_size h) (gridB_mem h x hx)
theorem rd_gridMasks {g:List Int}{s:Int}{c:Int}(h0:0≤c)(h1:c < (g.length:Int)):rd (gridMasks g s) c=if rd g c=0 then allM s else shl .i64 1 (rd g c):=by
 obtain ⟨n,rfl⟩:=Int.eq_ofNat_of_zero_le h0
 unfold gridMasks
 rw [rd_lt (by rw [List.length_map];omega),rd_lt (by omega:n < g.length),List.getElem_map]
theorem shlAll {s:Int}(h:sizeOkB s=true):0≤wrap64 (s + 1)∧wrap64 ((shl .i64 1 (wrap64 (s + 1))) - 2)=allM s:=by
 rcases sizeOkB_iff.1 h with rfl|rfl|rfl <;> decide +kernel
theorem specRulePossible_ev (kind:Int)(cs:List Int)(v:Int)(g:List Int)(s:Int)(hl:cs.length≤35184372088832)(hgl:g.length≤35184372088832):Ev (fun k=>spec_RulePossible.f k kind cs v g s) (rulePossible kind cs v g s):=by
 unfold spec_RulePossible.f rulePossible
 have hj:Ev (fun k=>spec_RulePossible.j0 k g s true kind cs v) false:=by
  refine Ev.step (fun k=>spec_RulePossible.j0.eq_2 _ _ _ _ _ _ k) ?_
  simp only [if_true];exact Ev.now _
 refine Ev.bind (specRuleValid_ev kind cs v s hl) ?_
 by_cases hr:ruleB kind cs v s=true
 ·simp only [hr,if_true,Bool.true_and]
  refine Ev.bind (specGridValid_ev g s hgl) ?_
  by_cases hg:gridB g s=true
  ·simp only [hg,Bool.not_true,Bool.true_and]
   refine Ev.step (fun k=>spec_RulePossible.j0.eq_2 _ _ _ _ _ _ k) ?_
   simp only [Bool.false_eq_true,if_false]
   have hle:=gridB_le hg
   have hml:(gridMasks g s).length=g.length:=by unfold gridMasks;exact List.length_map _
   refine Ev.range (L:=fun k (x:List Int) j=>spec_RulePossible.l0 k g s x j kind cs v) (R:=fun _ _=>rd (ruleMasks kind cs v (gridMasks g s) s) 0 != 0) (N:=g.length) (fun x j=>x=(gridMasks g s).take j) ?_ ?_ [] 0 (Nat.zero_le _) rfl
   ·rintro x rfl
    refine Ev.step (fun k=>spec_RulePossible.l0.eq_2 _ _ _ _ _ _ _ k) ?_
    rw [← hml,List.take_length]
    simp only [hml,Int.lt_irrefl,if_false]
    refine Ev.bind (specRuleMasks_ev kind cs v _ s hl (by omega)) ?_
    have h1:=ruleMasks_lenEq (masks:=gridMasks g s) ⟨hr,gridMasks_ok hg⟩
    have h2:=ruleB_len hr
    have h3:(0:Int) < ((ruleMasks kind cs v (gridMasks g s) s).length:Int):=by omega
    simp only [h3,if_true]
    exact Ev.now _
   ·rintro x j hj rfl ih
    refine Ev.step (fun k=>spec_RulePossible.l0.eq_2 _ _ _ _ _ _ _ k) ?_
    have g1:(j:Int) < (g.length:Int):=by omega
    have g0:(0:Int)≤(j:Int):=by omega
    have hm:=gridB_mem hg _ (rd_mem g0 g1)
    have hxl:((gridMasks g s).take j).length < 17592186044416:=by rw [List.length_take];omega
    have ht:(gridMasks g s).take (j + 1)=(gridMasks g s).take j ++ [rd (gridMasks g s) (j:Int)]:=by
     rw [List.take_succ_eq_append_getElem (by omega),rd_lt (by omega)]
    obtain ⟨w0,w1⟩:=shlAll (gridB_size hg)
    have h0m:=hm.1
    simp only [g0,g1,h0m,if_true,hxl,w0,w1,w64n (by omega:j < 9000000000000000000)]
    by_cases hz:rd g (j:Int)=0
    ·simp only [hz,if_true]
     refine ih _ ?_
     rw [ht,rd_gridMasks g0 g1,if_pos hz]
    ·simp only [hz,if_false]
     refine ih _ ?_
     rw [ht,rd_gridMasks g0 g1,if_neg hz]
  ·simp only [hg,eq_false_of_ne_true hg,Bool.not_false,Bool.false_and]
   exact hj
 ·simp only [hr,if_false,eq_false_of_ne_true hr,Bool.false_and]
  exact hj

end Go.Proofs.Ytmjbnghhfadapaa.Pure
namespace Go.Proofs.Ytmjbnghhfadapaa.Pure
set_option linter.unusedSimpArgs false
set_option linter.unusedVariables false
open Go.RowKit Go.Proofs.YtmjbnghhfadapaaW.PrintWords Go.Proofs.YtmjbnghhfadapaaW.PrintMore


def wayB (kind v:Int)(own:List Int):Nat→List Int→Bool
 | 0,pre=>holdsB kind v pre
 | d + 1,pre=>(mvals (rd own (pre.length:Nat))).any (fun x=>wayB kind v own d (pre ++ [x]))
theorem orP_skip (vals:List Int):∀ (d:Nat) (i:Nat) (out:List Int),1≤i→rd (orP vals d (i:Int) out) 0=rd out 0
 | 0,_,_,_=>rfl
 | d + 1,i,out,hi=>by
  unfold orP
  have:((i:Int) + 1)=((i + 1:Nat):Int):=by omega
  rw [this,orP_skip vals d (i + 1) _ (by omega),Int.toNat_natCast]
  show rd (out.set i _) ((0:Nat):Int)=rd out ((0:Nat):Int)
  rw [rd_nat,List.getD_eq_getElem?_getD,List.getElem?_set_ne (by omega),← List.getD_eq_getElem?_getD]
  exact (rd_nat out 0).symm
def InM (out:List Int):Prop:=1≤out.length∧0≤rd out 0∧rd out 0≤30∧rd out 0 % 2=0
theorem or_even_fin:∀ a:Fin 16,∀ v:Fin 5,1≤v.val→0≤Go.bits .or .i64 (2 * a.val:Int) (shl .i64 1 (v.val:Int))∧Go.bits .or .i64 (2 * a.val:Int) (shl .i64 1 (v.val:Int))≤30∧Go.bits .or .i64 (2 * a.val:Int) (shl .i64 1 (v.val:Int)) % 2=0∧Go.bits .or .i64 (2 * a.val:Int) (shl .i64 1 (v.val:Int))≠0:=by decide +kernel
theorem or_even {a v:Int}(h0:0≤a)(h1:a≤30)(h2:a % 2=0)(v0:1≤v)(v1:v≤4):0≤Go.bits .or .i64 a (shl .i64 1 v)∧Go.bits .or .i64 a (shl .i64 1 v)≤30∧Go.bits .or .i64 a (shl .i64 1 v) % 2=0∧Go.bits .or .i64 a (shl .i64 1 v)≠0:=by
 have h:=or_even_fin ⟨(a / 2).toNat,by omega⟩ ⟨v.toNat,by omega⟩ (by show 1≤v.toNat;omega)
 simp only [show (2 * (((a / 2).toNat:Nat):Int))=a by omega,show ((v.toNat:Nat):Int)=v by omega] at h
 exact h
theorem waysM_nz (kind v:Int)(own:List Int):∀ (d:Nat) (pre out:List Int),1≤pre.length + d→(∀ x∈pre,1≤x∧x≤4)→InM out→InM (waysM kind v own d pre out)∧(rd (waysM kind v own d pre out) 0≠0↔rd out 0≠0∨wayB kind v own d pre=true)
 | 0,pre,out,hp,hx,ho=>by
  unfold waysM wayB
  by_cases hh:holdsB kind v pre=true
  ·rw [if_pos hh]
   obtain ⟨x,t,rfl,ht⟩:=len_succ (n:=pre.length - 1) (by omega:pre.length=pre.length - 1 + 1)
   obtain ⟨o1,o2,o3,o4⟩:=ho
   have hb:=hx x (List.mem_cons_self ..)
   have e:rd (orP (x :: t) (x :: t).length 0 out) 0=Go.bits .or .i64 (rd out 0) (shl .i64 1 x):=by
    show rd (orP (x :: t) (t.length + 1) ((0:Nat):Int) out) 0=_
    unfold orP
    have:(((0:Nat):Int) + 1)=((1:Nat):Int):=by omega
    rw [this,orP_skip _ _ _ _ (Nat.le_refl _),Int.toNat_natCast]
    show rd (out.set 0 _) ((0:Nat):Int)=_
    rw [rd_lt (by rw [List.length_set];omega),List.getElem_set_self]
    rfl
   obtain ⟨b1,b2,b3,b4⟩:=or_even o2 o3 o4 hb.1 hb.2
   refine ⟨⟨by rw [orP_len];exact o1,by rw [e];exact b1,by rw [e];exact b2,by rw [e];exact b3⟩,?_⟩
   rw [e]
   exact ⟨fun _=> .inr hh,fun _=>b4⟩
  ·rw [if_neg hh]
   exact ⟨ho,⟨.inl,fun h=>h.elim id (fun h=>absurd h hh)⟩⟩
 | d + 1,pre,out,hp,hx,ho=>by
  unfold waysM wayB
  have key:∀ (L:List Int) (out:List Int),(∀ x∈L,1≤x∧x≤4)→InM out→InM (L.foldl (fun o x=>waysM kind v own d (pre ++ [x]) o) out)∧(rd (L.foldl (fun o x=>waysM kind v own d (pre ++ [x]) o) out) 0≠0↔rd out 0≠0∨L.any (fun x=>wayB kind v own d (pre ++ [x]))=true):=by
   intro L
   induction L with
   | nil=>intro out _ ho;exact ⟨ho,by simp⟩
   | cons y L ih =>
    intro out hL ho
    have hy:=hL y (List.mem_cons_self ..)
    obtain ⟨a1,a2⟩:=waysM_nz kind v own d (pre ++ [y]) out (by simp;omega) (fun x h=>by
     rcases List.mem_append.1 h with h|h
     ·exact hx x h
     ·obtain rfl:=List.mem_singleton.1 h
      exact hy) ho
    obtain ⟨b1,b2⟩:=ih _ (fun x h=>hL x (List.mem_cons_of_mem _ h)) a1
    rw [List.foldl_cons,List.any_cons]
    refine ⟨b1,?_⟩
    rw [b2,a2,Bool.or_eq_true,or_assoc]
  exact key _ _ (fun x h=>mvals_range h) ho
theorem rulePossible_way (kind:Int)(cs:List Int)(v:Int)(g:List Int)(s:Int):rulePossible kind cs v g s=(ruleB kind cs v s && (gridB g s && wayB kind v (cs.map (fun c=>rd (gridMasks g s) c)) cs.length [])):=by
 unfold rulePossible
 by_cases hr:ruleB kind cs v s=true
 ·by_cases hg:gridB g s=true
  ·rw [hr,hg]
   simp only [Bool.true_and]
   have hl:=ruleB_len hr
   have e:ruleMasks kind cs v (gridMasks g s) s=waysM kind v (cs.map (fun c=>rd (gridMasks g s) c)) cs.length [] (List.replicate cs.length 0):=by
    unfold ruleMasks;rw [if_pos ⟨hr,gridMasks_ok hg⟩]
   have e0:rd (List.replicate cs.length 0) 0=0:=by
    show rd (List.replicate cs.length 0) ((0:Nat):Int)=0
    rw [rd_lt (by rw [List.length_replicate];omega),List.getElem_replicate]
   have h:=(waysM_nz kind v (cs.map (fun c=>rd (gridMasks g s) c)) cs.length [] (List.replicate cs.length 0) (by simp;omega) (fun x h=>by cases h) ⟨by rw [List.length_replicate];omega,by rw [e0];decide,by rw [e0];decide,by rw [e0];decide⟩).2
   rw [e,Bool.eq_iff_iff,bne_iff_ne,h,e0]
   simp
  ·rw [eq_false_of_ne_true hg];simp
 ·rw [eq_false_of_ne_true hr];simp
theorem wayB_vals {kind v:Int}{own vals:List Int}(h:∀ i:Nat,i < vals.length→rd vals (i:Int)∈mvals (rd own (i:Int)))(hh:holdsB kind v vals=true):∀ (d n:Nat),n + d=vals.length→wayB kind v own d (vals.take n)=true
 | 0,n,hn=>by
  unfold wayB
  rw [List.take_of_length_le (by omega)]
  exact hh
 | d + 1,n,hn=>by
  unfold wayB
  have hlt:n < vals.length:=by omega
  rw [List.any_eq_true]
  refine ⟨rd vals (n:Int),?_,?_⟩
  ·have:=h n hlt
   rwa [show ((vals.take n).length:Nat)=n by rw [List.length_take];omega]
  ·have:=wayB_vals h hh d (n + 1) (by omega)
   rwa [List.take_succ_eq_append_getElem hlt,← rd_lt hlt] at this
theorem wayB_only {kind v:Int}{own vals:List Int}(h:∀ i:Nat,i < vals.length→∀ x∈mvals (rd own (i:Int)),x=rd vals (i:Int)):∀ (d n:Nat),n + d=vals.length→wayB kind v own d (vals.take n)=true→holdsB kind v vals=true
 | 0,n,hn,hw=>by
  unfold wayB at hw
  rwa [List.take_of_length_le (by omega)] at hw
 | d + 1,n,hn,hw=>by
  unfold wayB at hw
  have hlt:n < vals.length:=by omega
  rw [List.any_eq_true] at hw
  obtain ⟨x,hx,hw⟩:=hw
  rw [show ((vals.take n).length:Nat)=n by rw [List.length_take];omega] at hx
  have e:=h n hlt x hx
  refine wayB_only h d (n + 1) (by omega) ?_
  rw [List.take_succ_eq_append_getElem hlt,← rd_lt hlt,← e]
  exact hw
theorem mvals_shl_fin:∀ v:Fin 5,1≤v.val→mvals (shl .i64 1 (v.val:Int))=[(v.val:Int)]:=by decide +kernel
theorem mvals_shl {v:Int}(h0:1≤v)(h1:v≤4):mvals (shl .i64 1 v)=[v]:=by
 have:=mvals_shl_fin ⟨v.toNat,by omega⟩ (by show 1≤v.toNat;omega)
 simp only [show ((v.toNat:Nat):Int)=v by omega] at this
 exact this
theorem rd_mapI (f:Int→Int){l:List Int}{i:Nat}(h:i < l.length):rd (l.map f) (i:Int)=f (rd l (i:Int)):=by
 rw [rd_lt (by rw [List.length_map];exact h),rd_lt h,List.getElem_map]
theorem possible_own {kind:Int}{cs:List Int}{v:Int}{g:List Int}{s:Int}(hr:ruleB kind cs v s=true)(hg:gridB g s=true)(hz:∀ c∈cs,rd g c≠0)(i:Nat)(hi:i < (cs.map (fun c=>rd g c)).length):mvals (rd (cs.map (fun c=>rd (gridMasks g s) c)) (i:Int))=[rd (cs.map (fun c=>rd g c)) (i:Int)]:=by
 rw [List.length_map] at hi
 have hcm:=rd_mem (g:=cs) (i:=(i:Int)) (by omega) (by omega)
 have hc:=rule_cells hr (gridB_len hg) _ hcm
 have hb:=gridB_mem hg _ (rd_mem hc.1 hc.2)
 have hs:=sizeOkB_iff.1 (gridB_size hg)
 have h0:=hz _ hcm
 rw [rd_mapI _ hi,rd_mapI _ hi,rd_gridMasks hc.1 hc.2,if_neg h0,mvals_shl (by omega) (by omega)]
theorem rulePossible_of_holds {kind:Int}{cs:List Int}{v:Int}{g:List Int}{s:Int}(h:ruleHolds kind cs v g s=true):rulePossible kind cs v g s=true:=by
 unfold ruleHolds at h
 simp only [Bool.and_eq_true] at h
 obtain ⟨hr,hg,ha,hh⟩:=h
 rw [rulePossible_way,hr,hg]
 simp only [Bool.true_and]
 have hz:∀ c∈cs,rd g c≠0:=by
  intro c hc
  have:=List.all_eq_true.1 ha (rd g c) (List.mem_map.2 ⟨c,hc,rfl⟩)
  exact of_decide_eq_true this
 have:=wayB_vals (own:=cs.map (fun c=>rd (gridMasks g s) c)) (fun i hi=>by rw [possible_own hr hg hz i hi];exact List.mem_singleton.2 rfl) hh cs.length 0 (by rw [List.length_map];omega)
 rwa [List.take_zero] at this
theorem ruleHolds_of_possible {kind:Int}{cs:List Int}{v:Int}{g:List Int}{s:Int}(hz:∀ c∈cs,rd g c≠0)(h:rulePossible kind cs v g s=true):ruleHolds kind cs v g s=true:=by
 rw [rulePossible_way] at h
 simp only [Bool.and_eq_true] at h
 obtain ⟨hr,hg,hw⟩:=h
 unfold ruleHolds
 rw [hr,hg]
 simp only [Bool.true_and,Bool.and_eq_true]
 refine ⟨List.all_eq_true.2 (fun x hx=>?_),?_⟩
 ·obtain ⟨c,hc,rfl⟩:=List.mem_map.1 hx
  exact decide_eq_true (hz c hc)
 ·refine wayB_only (own:=cs.map (fun c=>rd (gridMasks g s) c)) (fun i hi x hx=>?_) cs.length 0 (by rw [List.length_map];omega) (by rw [List.take_zero];exact hw)
  rw [possible_own hr hg hz i hi,List.mem_singleton] at hx
  exact hx
theorem full_nz {g:List Int}{s:Int}(hg:gridB g s=true)(h:¬ gridFilled g s < (g.length:Int)):∀ c:Int,0≤c→c < (g.length:Int)→rd g c≠0:=by
 intro c h0 h1
 have e:gridFilled g s=countF g:=by unfold gridFilled;rw [if_pos hg]
 rw [e] at h
 unfold countF at h
 have hl:=List.length_filter_le (fun v:Int=>decide (0 < v)) g
 have:g.filter (fun v:Int=>decide (0 < v))=g:=List.filter_eq_self.2 (List.length_filter_eq_length_iff.1 (by omega))
 have hm:rd g c∈g.filter (fun v:Int=>decide (0 < v)):=by rw [this];exact rd_mem h0 h1
 have h2:=of_decide_eq_true (List.mem_filter.1 hm).2
 omega

end Go.Proofs.Ytmjbnghhfadapaa.Pure
namespace Go.Proofs.Ytmjbnghhfadapaa.Pure
set_option linter.unusedSimpArgs false
set_option linter.unusedVariables false
open Go.RowKit Go.Proofs.YtmjbnghhfadapaaW.PrintWords Go.Proofs.YtmjbnghhfadapaaW.PrintMore

theorem size_or {s:Int}(h:sizeOkB s=true):(s.toNat=2∨s.toNat=3∨s.toNat=4)∧s=(s.toNat:Int):=by
 rcases sizeOkB_iff.1 h with rfl|rfl|rfl <;> decide
theorem grid_len {g:List Int}{s:Int}(h:gridB g s=true):g.length=s.toNat * s.toNat:=by
 have h1:=gridB_len h
 have h2:=(size_or (gridB_size h)).2
 rw [h2] at h1
 exact_mod_cast h1

end Go.Proofs.Ytmjbnghhfadapaa.Pure
namespace Go.Proofs.Ytmjbnghhfadapaa.Pure
set_option linter.unusedSimpArgs false
set_option linter.unusedVariables false
open Go.RowKit Go.Proofs.YtmjbnghhfadapaaW.PrintWords Go.Proofs.YtmjbnghhfadapaaW.PrintMore Go.Proofs.Ytmjbnghhfadapaa.P


theorem specLineCells_ev (s l:Int):Ev (fun k=>spec_LineCells.f k s l) (lineC s l):=by
 by_cases h:lineOkB s l=true
 ·rcases lineOkB_cases h with ⟨rfl,hc⟩ | ⟨rfl,hc⟩ | ⟨rfl,hc⟩
  ·rcases hc with rfl|rfl|rfl|rfl <;> exact Ev.of (spec_LineCells.mono _ _) (k:=20) (by decide +kernel)
  ·rcases hc with rfl|rfl|rfl|rfl|rfl|rfl <;> exact Ev.of (spec_LineCells.mono _ _) (k:=20) (by decide +kernel)
  ·rcases hc with rfl|rfl|rfl|rfl|rfl|rfl|rfl|rfl <;> exact Ev.of (spec_LineCells.mono _ _) (k:=20) (by decide +kernel)
 ·have e:lineC s l=[]:=by unfold lineC;rw [if_neg h]
  rw [e]
  unfold spec_LineCells.f
  have hj:Ev (fun k=>spec_LineCells.j1 k s l [] 0 false) ([]:List Int):=by
   refine Ev.step (fun k=>spec_LineCells.j1.eq_2 _ _ _ _ _ k) ?_
   simp only [Bool.false_eq_true,if_false]
   exact Ev.now _
  refine Ev.step (fun k=>spec_LineCells.l0.eq_2 _ _ _ _ k) ?_
  by_cases h0:0 < s
  ·simp only [h0,if_true,l1In_eq,Option.bind_some]
   by_cases hs:2≤s∧s≤4
   ·have hw:wrap64 (wrap64 (2 * s) - 1)=2 * s - 1:=by rw [w64 (x:=2 * s) (by omega) (by omega),w64 (by omega) (by omega)]
    have hn:¬ (0≤l∧l≤2 * s - 1):=by
     intro hl;apply h;unfold lineOkB sizeOkB;simp only [Bool.and_eq_true,decide_eq_true_eq];exact ⟨hs,hl.1,by omega⟩
    simp only [decide_eq_true hs,if_true,hw,decide_eq_false hn]
    exact hj
   ·simp only [decide_eq_false hs,Bool.false_eq_true,if_false]
    exact hj
  ·simp only [h0,if_false]
   exact hj
theorem implLineCells_ev (s l:Int):Ev (fun k=>impl_LineCells.f k s l) (lineC s l):=by
 by_cases h:lineOkB s l=true
 ·rcases lineOkB_cases h with ⟨rfl,hc⟩ | ⟨rfl,hc⟩ | ⟨rfl,hc⟩
  ·rcases hc with rfl|rfl|rfl|rfl <;> exact Ev.of (impl_LineCells.mono _ _) (k:=20) (by decide +kernel)
  ·rcases hc with rfl|rfl|rfl|rfl|rfl|rfl <;> exact Ev.of (impl_LineCells.mono _ _) (k:=20) (by decide +kernel)
  ·rcases hc with rfl|rfl|rfl|rfl|rfl|rfl|rfl|rfl <;> exact Ev.of (impl_LineCells.mono _ _) (k:=20) (by decide +kernel)
 ·have e:lineC s l=[]:=by unfold lineC;rw [if_neg h]
  rw [e]
  unfold impl_LineCells.f
  simp only [sizeOk_eq,Option.bind_some]
  have hj:Ev (fun k=>impl_LineCells.j0 k s l true) ([]:List Int):=by
   refine Ev.step (fun k=>impl_LineCells.j0.eq_2 _ _ _ k) ?_
   simp only [if_true]
   exact Ev.now _
  by_cases hs:sizeOkB s=true
  ·simp only [hs,if_true]
   by_cases h0:l < 0
   ·simp only [h0,if_true];exact hj
   ·have hs2:2≤s∧s≤4:=by simpa [sizeOkB] using hs
    have hw:wrap64 (2 * s)=2 * s:=w64 (by omega) (by omega)
    have hl:l ≥ 2 * s:=by
     apply Decidable.byContradiction
     intro hl;apply h;unfold lineOkB;rw [hs];simp only [Bool.true_and,decide_eq_true_eq];omega
    simp only [h0,if_false,hw,decide_eq_true hl];exact hj
  ·simp only [hs,if_false,Bool.false_eq_true];exact hj

end Go.Proofs.Ytmjbnghhfadapaa.Pure
namespace Go.Proofs.Ytmjbnghhfadapaa.Pure
set_option linter.unusedSimpArgs false
set_option linter.unusedVariables false
open Go.RowKit Go.Proofs.YtmjbnghhfadapaaW.PrintWords Go.Proofs.YtmjbnghhfadapaaW.PrintMore Go.Proofs.Ytmjbnghhfadapaa.P


def SeenA (x:List Bool)(seen:List Int):Prop:=x.length=5∧∀ u:Int,0≤u→u≤4→(rdOf false x u=true↔u∈seen)
theorem SeenA.start:SeenA [false,false,false,false,false] []:=by
 refine ⟨rfl,fun u h0 h1=>?_⟩
 have:u=0∨u=1∨u=2∨u=3∨u=4:=by omega
 rcases this with rfl|rfl|rfl|rfl|rfl <;> decide
theorem SeenA.step {x:List Bool}{v:Int}{seen:List Int}(h:SeenA x seen)(hv:0≤v∧v≤4):SeenA (x.set v.toNat true) (v :: seen):=by
 obtain ⟨hl,h2⟩:=h
 refine ⟨by rw [List.length_set];exact hl,fun u h0 h1=>?_⟩
 have e:rdOf false (x.set v.toNat true) u=(decide (u=v) || rdOf false x u):=by
  unfold rdOf
  rw [List.getD_eq_getElem?_getD,List.getD_eq_getElem?_getD,List.getElem?_set]
  by_cases hu:v.toNat=u.toNat
  ·have:u=v:=by omega
   rw [if_pos hu,if_pos (by omega),decide_eq_true this];rfl
  ·have:¬ u=v:=by omega
   rw [if_neg hu,decide_eq_false this];rfl
 rw [e,List.mem_cons,Bool.or_eq_true,h2 u h0 h1,decide_eq_true_iff]
theorem implSquareFits_ev (g:List Int)(s:Int)(h:g.length≤35184372088832):Ev (fun k=>impl_SquareFits.f k g s) (squareFits g s):=by
 unfold impl_SquareFits.f squareFits
 refine Ev.bind (implGridValid_ev g s h) ?_
 by_cases hg:gridB g s=true
 ·simp only [hg,if_true,Bool.true_and]
  obtain ⟨hsn,hs2,hs4⟩:=size_nat (gridB_size hg)
  have hw:wrap64 (2 * s)=((2 * s.toNat:Nat):Int):=by unfold wrap64;omega
  have hlen:=gridB_len hg
  refine Ev.range0 (L:=fun k i=>impl_SquareFits.l0 k g s i) (R:=fun n=> !linesClash g s n (2 * s.toNat - n)) (N:=2 * s.toNat) ?_ ?_ 0 (Nat.zero_le _)
  ·refine Ev.step (fun k=>impl_SquareFits.l0.eq_2 _ _ _ k) ?_
   simp only [hw,Int.lt_irrefl,if_false,Nat.sub_self,linesClash]
   exact Ev.now _
  ·intro n hn ih
   refine Ev.step (fun k=>impl_SquareFits.l0.eq_2 _ _ _ k) ?_
   have h1:(n:Int) < ((2 * s.toNat:Nat):Int):=by omega
   simp only [hw,h1,if_true]
   refine Ev.bind (implLineCells_ev s n) ?_
   have e:2 * s.toNat - n=(2 * s.toNat - (n + 1)) + 1:=by omega
   rw [e,linesClash]
   have hb:=lineC_len s n
   have:=Ev.range (L:=fun k (x:List Bool) i=>impl_SquareFits.l1 k g s n (lineC s n) x i) (R:=fun _ _=> !(clashL g (lineC s n) [] || linesClash g s (n + 1) (2 * s.toNat - (n + 1)))) (N:=(lineC s n).length)
    (fun x j=>∃ seen,SeenA x seen∧clashL g (lineC s n) []=clashL g ((lineC s n).drop j) seen) ?_ ?_ [false,false,false,false,false] 0 (Nat.zero_le _) ⟨[],SeenA.start,by simp⟩
   ·simpa using this
   ·rintro x ⟨seen,hx,he⟩
    refine Ev.step (fun k=>impl_SquareFits.l1.eq_2 _ _ _ _ _ _ k) ?_
    have e2:clashL g (lineC s n) []=false:=by rw [he,List.drop_length];rfl
    simp only [Int.lt_irrefl,if_false,e2,Bool.false_or,w64n (by omega:n < 9000000000000000000)]
    exact ih
   ·rintro x j hj ⟨seen,hx,he⟩ ihj
    refine Ev.step (fun k=>impl_SquareFits.l1.eq_2 _ _ _ _ _ _ k) ?_
    have hc:=lineC_mem (lineC s n)[j] (List.getElem_mem hj)
    have h2:(j:Int) < ((lineC s n).length:Int):=by omega
    have h3:(0:Int)≤j:=by omega
    have h5:(lineC s n)[j] < (g.length:Int):=by rw [hlen];exact hc.2
    have hv:=val_le hg (rd_mem hc.1 h5)
    have h6:rd g (lineC s n)[j] < (x.length:Int):=by rw [hx.1];omega
    rw [drop_cons hj,clashL] at he
    simp only [h2,h3,if_true,rd_lt hj,hc.1,h5,h6,hv.1,w64n (by omega:j < 9000000000000000000)]
    have hstep:¬ (0 < rd g (lineC s n)[j]∧rd g (lineC s n)[j]∈seen)→Ev (fun k=>impl_SquareFits.l1 k g s n (lineC s n) (x.set (rd g (lineC s n)[j]).toNat true) ((j + 1:Nat):Int)) (!(clashL g (lineC s n) [] || linesClash g s (n + 1) (2 * s.toNat - (n + 1)))):=by
     intro hn
     rw [if_neg hn] at he
     exact ihj _ ⟨_,hx.step hv,he⟩
    by_cases hp:0 < rd g (lineC s n)[j]
    ·have hp':rd g (lineC s n)[j] > 0:=hp
     simp only [hp',if_true]
     by_cases ht:rdOf false x (rd g (lineC s n)[j])=true
     ·simp only [ht,if_true]
      rw [if_pos ⟨hp,(hx.2 _ hv.1 hv.2).1 ht⟩] at he
      rw [he];exact Ev.now _
     ·simp only [ht,if_false]
      exact hstep (fun h=>ht ((hx.2 _ hv.1 hv.2).2 h.2))
    ·have hp':¬ rd g (lineC s n)[j] > 0:=hp
     simp only [hp',if_false]
     exact hstep (fun h=>hp h.1)
 ·simp only [hg,if_false,eq_false_of_ne_true hg,Bool.false_and,Bool.false_eq_true]
  exact Ev.now _

end Go.Proofs.Ytmjbnghhfadapaa.Pure
namespace Go.Proofs.Ytmjbnghhfadapaa.Pure
set_option linter.unusedSimpArgs false
set_option linter.unusedVariables false
open Go.RowKit Go.Proofs.YtmjbnghhfadapaaW.PrintWords Go.Proofs.YtmjbnghhfadapaaW.PrintMore Go.Proofs.Ytmjbnghhfadapaa.P


theorem orbit_fin:∀ m:Fin 32,∀ v:Fin 5,(0≤Go.bits .or .i64 (m.val:Int) (shl .i64 1 (v.val:Int))∧Go.bits .or .i64 (m.val:Int) (shl .i64 1 (v.val:Int))≤31)∧∀ u:Fin 5,has (Go.bits .or .i64 (m.val:Int) (shl .i64 1 (v.val:Int))) (u.val:Int)=(decide (u=v) || has (m.val:Int) (u.val:Int)):=by decide +kernel
theorem tmod31_fin:∀ m:Fin 32,∀ v:Fin 5,Int.tmod (shr .i64 (m.val:Int) (v.val:Int)) 2=(if has (m.val:Int) (v.val:Int)=true then 1 else 0):=by decide +kernel
def Seen (m:Int)(seen:List Int):Prop:=0≤m∧m≤31∧∀ u:Int,0≤u→u≤4→(has m u=true↔u∈seen)
theorem Seen.start:Seen 0 []:=⟨by decide,by decide,fun u h0 h1=>by
 have:has 0 u=false:=by unfold has;simp
 simp [this]⟩
theorem Seen.step {m v:Int}{seen:List Int}(h:Seen m seen)(hv:0≤v∧v≤4):Seen (Go.bits .or .i64 m (shl .i64 1 v)) (v :: seen):=by
 obtain ⟨h0,h1,h2⟩:=h
 have hf:=orbit_fin ⟨m.toNat,by omega⟩ ⟨v.toNat,by omega⟩
 simp only [show ((m.toNat:Nat):Int)=m by omega,show ((v.toNat:Nat):Int)=v by omega] at hf
 refine ⟨hf.1.1,hf.1.2,fun u hu0 hu1=>?_⟩
 have hg:=hf.2 ⟨u.toNat,by omega⟩
 simp only [show ((u.toNat:Nat):Int)=u by omega,Fin.mk.injEq] at hg
 rw [hg,List.mem_cons,Bool.or_eq_true,h2 u hu0 hu1,decide_eq_true_iff]
 constructor
 ·rintro (h|h)
  ·exact .inl (by omega)
  ·exact .inr h
 ·rintro (h|h)
  ·exact .inl (by omega)
  ·exact .inr h
theorem Seen.tmod {m v:Int}{seen:List Int}(h:Seen m seen)(hv:0≤v∧v≤4):(Int.tmod (shr .i64 m v) 2=1)↔v∈seen:=by
 obtain ⟨h0,h1,h2⟩:=h
 have hf:=tmod31_fin ⟨m.toNat,by omega⟩ ⟨v.toNat,by omega⟩
 simp only [show ((m.toNat:Nat):Int)=m by omega,show ((v.toNat:Nat):Int)=v by omega] at hf
 rw [hf,← h2 v hv.1 hv.2]
 by_cases hh:has m v=true <;> simp [hh]
theorem l2Clash_ev {g:List Int}{s:Int}(hg:gridB g s=true):Ev (fun k=>spec_l2Clash.f k g s) (linesClash g s 0 (2 * s.toNat)):=by
 unfold spec_l2Clash.f
 obtain ⟨hsn,hs2,hs4⟩:=size_nat (gridB_size hg)
 have hw:wrap64 (2 * s)=((2 * s.toNat:Nat):Int):=by unfold wrap64;omega
 have hlen:=gridB_len hg
 refine Ev.range0 (L:=fun k i=>spec_l2Clash.l0 k g s i) (R:=fun n=>linesClash g s n (2 * s.toNat - n)) (N:=2 * s.toNat) ?_ ?_ 0 (Nat.zero_le _)
 ·refine Ev.step (fun k=>spec_l2Clash.l0.eq_2 _ _ _ k) ?_
  simp only [hw,Int.lt_irrefl,if_false,Nat.sub_self,linesClash]
  exact Ev.now _
 ·intro n hn ih
  refine Ev.step (fun k=>spec_l2Clash.l0.eq_2 _ _ _ k) ?_
  have h1:(n:Int) < ((2 * s.toNat:Nat):Int):=by omega
  simp only [hw,h1,if_true]
  refine Ev.bind (specLineCells_ev s n) ?_
  have e:2 * s.toNat - n=(2 * s.toNat - (n + 1)) + 1:=by omega
  rw [e,linesClash]
  have hb:=lineC_len s n
  have:=Ev.range (L:=fun k (x:Int) i=>spec_l2Clash.l1 k g s n (lineC s n) x i) (R:=fun _ _=>clashL g (lineC s n) [] || linesClash g s (n + 1) (2 * s.toNat - (n + 1))) (N:=(lineC s n).length)
   (fun x j=>∃ seen,Seen x seen∧clashL g (lineC s n) []=clashL g ((lineC s n).drop j) seen) ?_ ?_ 0 0 (Nat.zero_le _) ⟨[],Seen.start,by simp⟩
  ·simpa using this
  ·rintro x ⟨seen,hx,he⟩
   refine Ev.step (fun k=>spec_l2Clash.l1.eq_2 _ _ _ _ _ _ k) ?_
   have e2:clashL g (lineC s n) []=false:=by rw [he,List.drop_length];rfl
   simp only [Int.lt_irrefl,if_false,e2,Bool.false_or,w64n (by omega:n < 9000000000000000000)]
   exact ih
  ·rintro x j hj ⟨seen,hx,he⟩ ihj
   refine Ev.step (fun k=>spec_l2Clash.l1.eq_2 _ _ _ _ _ _ k) ?_
   have hc:=lineC_mem (lineC s n)[j] (List.getElem_mem hj)
   have h2:(j:Int) < ((lineC s n).length:Int):=by omega
   have h3:(0:Int)≤j:=by omega
   have h5:(lineC s n)[j] < (g.length:Int):=by rw [hlen];exact hc.2
   have hv:=val_le hg (rd_mem hc.1 h5)
   rw [drop_cons hj,clashL] at he
   simp only [h2,h3,if_true,rd_lt hj,hc.1,h5,hv.1,w64n (by omega:j < 9000000000000000000)]
   have hstep:¬ (0 < rd g (lineC s n)[j]∧rd g (lineC s n)[j]∈seen)→Ev (fun k=>spec_l2Clash.l1 k g s n (lineC s n) (Go.bits .or .i64 x (shl .i64 1 (rd g (lineC s n)[j]))) ((j + 1:Nat):Int)) (clashL g (lineC s n) [] || linesClash g s (n + 1) (2 * s.toNat - (n + 1))):=by
    intro hn
    rw [if_neg hn] at he
    exact ihj _ ⟨_,hx.step hv,he⟩
   by_cases hp:0 < rd g (lineC s n)[j]
   ·have hp':rd g (lineC s n)[j] > 0:=hp
    simp only [hp',if_true]
    by_cases ht:Int.tmod (shr .i64 x (rd g (lineC s n)[j])) 2=1
    ·simp only [ht,if_true]
     rw [if_pos ⟨hp,(hx.tmod hv).1 ht⟩] at he
     rw [he];exact Ev.now _
    ·simp only [ht,if_false]
     exact hstep (fun h=>ht ((hx.tmod hv).2 h.2))
   ·have hp':¬ rd g (lineC s n)[j] > 0:=hp
    simp only [hp',if_false]
    exact hstep (fun h=>hp h.1)

end Go.Proofs.Ytmjbnghhfadapaa.Pure
namespace Go.Proofs.Ytmjbnghhfadapaa.Pure
set_option linter.unusedSimpArgs false
set_option linter.unusedVariables false
open Go.RowKit Go.Proofs.YtmjbnghhfadapaaW.PrintWords Go.Proofs.YtmjbnghhfadapaaW.PrintMore Go.Proofs.Ytmjbnghhfadapaa.P


theorem specGridFilled_ev (g:List Int)(s:Int)(h:g.length≤35184372088832):Ev (fun k=>spec_GridFilled.f k g s) (gridFilled g s):=by
 unfold spec_GridFilled.f
 refine Ev.bind (specGridValid_ev g s h) ?_
 unfold gridFilled
 by_cases hg:gridB g s=true
 ·simp only [hg,if_true]
  have:=Ev.range (L:=fun k (x:Int) i=>spec_GridFilled.l0 k g x i) (R:=fun x n=>x + countF (g.drop n)) (N:=g.length) (fun x n=>0≤x∧x≤n) ?_ ?_ 0 0 (Nat.zero_le _) (by decide)
  ·simpa using this
  ·intro x hx
   refine Ev.step (fun k=>spec_GridFilled.l0.eq_2 _ _ _ k) ?_
   have e:countF []=0:=rfl
   simp only [Int.lt_irrefl,if_false,List.drop_length,e,Int.add_zero]
   exact Ev.now _
  ·intro x n hn hx ih
   refine Ev.step (fun k=>spec_GridFilled.l0.eq_2 _ _ _ k) ?_
   have h1:(n:Int) < (g.length:Int):=by omega
   have h3:(0:Int)≤n:=by omega
   rw [drop_cons hn,countF_cons]
   simp only [h1,h3,if_true,rd_lt hn,w64n (by omega:n < 9000000000000000000)]
   by_cases hv:0 < g[n]
   ·have hv':g[n] > 0:=hv
    simp only [hv,hv',if_true]
    rw [w64 (x:=x + 1) (by omega) (by omega)]
    have:=ih (x + 1) (by omega)
    rwa [Int.add_assoc] at this
   ·have hv':¬ g[n] > 0:=hv
    simp only [hv,hv',if_false]
    have:=ih x (by omega)
    rwa [Int.zero_add]
 ·simp only [hg,if_false,Bool.false_eq_true]
  exact Ev.now _
theorem implGridFilled_ev (g:List Int)(s:Int)(h:g.length≤35184372088832):Ev (fun k=>impl_GridFilled.f k g s) (gridFilled g s):=by
 unfold impl_GridFilled.f
 refine Ev.bind (implGridValid_ev g s h) ?_
 unfold gridFilled
 by_cases hg:gridB g s=true
 ·simp only [hg,if_true]
  have:=Ev.range (L:=fun k (x:Int) i=>impl_GridFilled.l0 k x g (g.length:Int) i) (R:=fun x n=>x + countF (g.drop n)) (N:=g.length) (fun x n=>0≤x∧x≤n) ?_ ?_ 0 0 (Nat.zero_le _) (by decide)
  ·simpa using this
  ·intro x hx
   refine Ev.step (fun k=>impl_GridFilled.l0.eq_2 _ _ _ _ k) ?_
   have e:countF []=0:=rfl
   simp only [Int.lt_irrefl,if_false,List.drop_length,e,Int.add_zero]
   exact Ev.now _
  ·intro x n hn hx ih
   refine Ev.step (fun k=>impl_GridFilled.l0.eq_2 _ _ _ _ k) ?_
   have h1:(n:Int) < (g.length:Int):=by omega
   have h3:(0:Int)≤n:=by omega
   rw [drop_cons hn,countF_cons]
   simp only [h1,h3,if_true,rd_lt hn,w64n (by omega:n < 9000000000000000000)]
   by_cases hv:0 < g[n]
   ·have hv':g[n] > 0:=hv
    simp only [hv,hv',if_true]
    rw [w64 (x:=x + 1) (by omega) (by omega)]
    have:=ih (x + 1) (by omega)
    rwa [Int.add_assoc] at this
   ·have hv':¬ g[n] > 0:=hv
    simp only [hv,hv',if_false]
    have:=ih x (by omega)
    rwa [Int.zero_add]
 ·simp only [hg,if_false,Bool.false_eq_true]
  exact Ev.now _

end Go.Proofs.Ytmjbnghhfadapaa.Pure
namespace Go.Proofs.Ytmjbnghhfadapaa.Pure
set_option linter.unusedSimpArgs false
set_option linter.unusedVariables false
open Go.RowKit Go.Proofs.YtmjbnghhfadapaaW.PrintWords Go.Proofs.YtmjbnghhfadapaaW.PrintMore Go.Proofs.Ytmjbnghhfadapaa.P


def rulesB (rs:List S73)(s:Int):Bool:=rs.all (fun x=>ruleB x.f0 x.f1 x.f2 s)
def puzzleB (s:Int)(g:List Int)(rs:List S73):Bool:=gridB g s && (decide ((rs.length:Int)≤20) && rulesB rs s)
theorem rulesB_false {rs:List S73}{s:Int}{i:Nat}(hi:i < rs.length)(h:ruleB rs[i].f0 rs[i].f1 rs[i].f2 s=false):rulesB rs s=false:=by
 unfold rulesB
 rw [List.all_eq_false]
 exact ⟨rs[i],List.getElem_mem hi,by simp [h]⟩
theorem take_all {rs:List S73}{s:Int}{i:Nat}(hi:i < rs.length)(h:rulesB (rs.take i) s=true)(hx:ruleB rs[i].f0 rs[i].f1 rs[i].f2 s=true):rulesB (rs.take (i + 1)) s=true:=by
 unfold rulesB at *
 rw [List.take_succ_eq_append_getElem hi,List.all_append,h]
 simp [hx]
theorem specPuzzleValid_ev (s:Int)(g:List Int)(rs:List S73)(hg:g.length≤1048576)(hl:rs.length≤1048576)(hr:∀ x∈rs,x.f1.length≤1048576):Ev (fun k=>spec_PuzzleValid.f k s g rs) (puzzleB s g rs):=by
 unfold spec_PuzzleValid.f
 have:=Ev.range (σ:=Unit) (L:=fun k _ i=>spec_PuzzleValid.l0 k i s g rs) (R:=fun _ _=>puzzleB s g rs) (N:=rs.length) (fun _ i=>rulesB (rs.take i) s=true) ?_ ?_ () 0 (Nat.zero_le _) rfl
 ·simpa using this
 ·intro _ hall
  refine Ev.step (fun k=>spec_PuzzleValid.l0.eq_2 _ _ _ _ k) ?_
  rw [List.take_length] at hall
  simp only [Int.lt_irrefl,if_false]
  refine Ev.bind (specGridValid_ev g s (by omega)) ?_
  unfold puzzleB
  by_cases hgb:gridB g s=true
  ·simp only [hgb,hall,if_true,Bool.true_and,Bool.and_true]
   exact Ev.now _
  ·simp only [hgb,if_false,Bool.false_eq_true,Bool.false_and]
   exact Ev.now _
 ·intro _ i hi hall ih
  refine Ev.step (fun k=>spec_PuzzleValid.l0.eq_2 _ _ _ _ k) ?_
  have h2:(i:Int) < (rs.length:Int):=by omega
  have h3:(0:Int)≤(i:Int):=Int.natCast_nonneg i
  simp only [h2,h3,if_true,rdI rs hi]
  have hlen:=hr rs[i] (List.getElem_mem hi)
  refine Ev.bind (specRuleValid_ev _ _ _ s (by omega)) ?_
  by_cases hx:ruleB rs[i].f0 rs[i].f1 rs[i].f2 s=true
  ·simp only [hx,if_true,w64n (by omega:i < 9000000000000000000)]
   exact ih () (take_all hi hall hx)
  ·simp only [hx,if_false,Bool.false_eq_true]
   have:puzzleB s g rs=false:=by unfold puzzleB;rw [rulesB_false hi (eq_false_of_ne_true hx)];simp
   rw [this];exact Ev.now _

end Go.Proofs.Ytmjbnghhfadapaa.Pure
namespace Go.Proofs.Ytmjbnghhfadapaa.Pure
set_option linter.unusedSimpArgs false
set_option linter.unusedVariables false
open Go.RowKit Go.Proofs.YtmjbnghhfadapaaW.PrintWords Go.Proofs.YtmjbnghhfadapaaW.PrintMore Go.Proofs.Ytmjbnghhfadapaa.P


theorem squareFits_grid {g:List Int}{s:Int}(h:squareFits g s=true):gridB g s=true:=by
 unfold squareFits at h;rw [Bool.and_eq_true] at h;exact h.1
theorem wrap_sq {s:Int}(h:sizeOkB s=true):wrap64 (s * s)=s * s:=by rcases sizeOkB_iff.1 h with rfl|rfl|rfl <;> decide +kernel
theorem implSquareSolved_ev (g:List Int)(s:Int)(h:g.length≤35184372088832):Ev (fun k=>impl_SquareSolved.f k g s) (squareSolved g s):=by
 unfold impl_SquareSolved.f squareSolved
 refine Ev.bind (implSquareFits_ev g s h) ?_
 by_cases hf:squareFits g s=true
 ·simp only [hf,if_true,Bool.true_and]
  refine Ev.bind (implGridFilled_ev g s h) ?_
  rw [wrap_sq (gridB_size (squareFits_grid hf))]
  have e:(gridFilled g s == s * s)=decide (gridFilled g s=s * s):=by
   by_cases h:gridFilled g s=s * s <;> simp [h]
  rw [e];exact Ev.now _
 ·simp only [hf,if_false,eq_false_of_ne_true hf,Bool.false_and,Bool.false_eq_true]
  exact Ev.now _

end Go.Proofs.Ytmjbnghhfadapaa.Pure
namespace Go.Proofs.Ytmjbnghhfadapaa.Pure
set_option linter.unusedSimpArgs false
set_option linter.unusedVariables false
open Go.RowKit Go.Proofs.YtmjbnghhfadapaaW.PrintWords Go.Proofs.YtmjbnghhfadapaaW.PrintMore Go.Proofs.Ytmjbnghhfadapaa.P


def agreeP (q g:List Int):Nat→Bool
 | 0=>true
 | n + 1=>agreeP q g n && decide (0 < rd q (n:Nat)∧0 < rd g (n:Nat)→rd g (n:Nat)=rd q (n:Nat))
theorem agreeP_false {q g:List Int}{n:Nat}(h:agreeP q g n=false):∀ d,agreeP q g (n + d)=false
 | 0=>h
 | d + 1=>by rw [show n + (d + 1)=(n + d) + 1 from rfl,agreeP,agreeP_false h d];rfl
theorem agreeP_le {q g:List Int}{n m:Nat}(h:agreeP q g n=false)(hm:n≤m):agreeP q g m=false:=by
 have:=agreeP_false h (m - n)
 rwa [show n + (m - n)=m by omega] at this
theorem agreeP_yes {q g:List Int}{n:Nat}(h:agreeP q g n=true)(h1:0 < rd q (n:Nat)→0 < rd g (n:Nat)→rd g (n:Nat)=rd q (n:Nat)):agreeP q g (n + 1)=true:=by
 rw [agreeP,h,Bool.true_and,decide_eq_true_iff];exact fun hh=>h1 hh.1 hh.2
theorem agreeP_no {q g:List Int}{n:Nat}(h1:0 < rd q (n:Nat))(h2:0 < rd g (n:Nat))(h3:¬ rd g (n:Nat)=rd q (n:Nat)):agreeP q g (n + 1)=false:=by
 rw [agreeP,Bool.and_eq_false_iff];right
 rw [decide_eq_false_iff_not];exact fun h=>h3 (h ⟨h1,h2⟩)
def possB (rs:List S73)(g:List Int)(s:Int):Bool:=rs.all (fun x=>rulePossible x.f0 x.f1 x.f2 g s)
theorem possB_false {rs:List S73}{g:List Int}{s:Int}{i:Nat}(hi:i < rs.length)(h:rulePossible rs[i].f0 rs[i].f1 rs[i].f2 g s=false):possB rs g s=false:=by
 unfold possB
 rw [List.all_eq_false]
 exact ⟨rs[i],List.getElem_mem hi,by simp [h]⟩
theorem take_possB {rs:List S73}{g:List Int}{s:Int}{i:Nat}(hi:i < rs.length)(h:possB (rs.take i) g s=true)(hx:rulePossible rs[i].f0 rs[i].f1 rs[i].f2 g s=true):possB (rs.take (i + 1)) g s=true:=by
 unfold possB at *
 rw [List.take_succ_eq_append_getElem hi,List.all_append,h]
 simp [hx]
def puzzleFits (s:Int)(q:List Int)(rs:List S73)(g:List Int):Bool:=puzzleB s q rs && (squareFits g s && (agreeP q g g.length && possB rs g s))
def puzzleSolved (s:Int)(q:List Int)(rs:List S73)(g:List Int):Bool:=puzzleFits s q rs g && decide (gridFilled g s=(g.length:Int))
theorem puzzleB_parts {s:Int}{q:List Int}{rs:List S73}(h:puzzleB s q rs=true):gridB q s=true∧rs.length≤20∧rulesB rs s=true:=by
 unfold puzzleB at h
 simp only [Bool.and_eq_true,decide_eq_true_eq] at h
 exact ⟨h.1,by omega,h.2.2⟩
theorem l5Fits_ev {s:Int}{q:List Int}{rs:List S73}{g:List Int}(hp:puzzleB s q rs=true)(hg:gridB g s=true)(hr:∀ x∈rs,x.f1.length≤1048576):Ev (fun k=>spec_l5Fits.f k s q rs g) (agreeP q g g.length && (possB rs g s && !linesClash g s 0 (2 * s.toNat))):=by
 obtain ⟨hq,h20,hrs⟩:=puzzleB_parts hp
 have hgl:=gridB_le hg
 have hql:q.length=g.length:=by rw [grid_len hq,grid_len hg]
 unfold spec_l5Fits.f
 refine Ev.range (σ:=Unit) (L:=fun k _ j=>spec_l5Fits.l0 k g j s q rs) (R:=fun _ _=>agreeP q g g.length && (possB rs g s && !linesClash g s 0 (2 * s.toNat))) (N:=g.length) (fun _ j=>agreeP q g j=true) ?_ ?_ () 0 (Nat.zero_le _) rfl
 ·intro _ ha
  refine Ev.step (fun k=>spec_l5Fits.l0.eq_2 _ _ _ _ _ k) ?_
  simp only [Int.lt_irrefl,if_false,ha,Bool.true_and]
  refine Ev.range (σ:=Unit) (L:=fun k _ j=>spec_l5Fits.l1 k g j s q rs) (R:=fun _ _=>possB rs g s && !linesClash g s 0 (2 * s.toNat)) (N:=rs.length) (fun _ i=>possB (rs.take i) g s=true) ?_ ?_ () 0 (Nat.zero_le _) rfl
  ·intro _ hall
   refine Ev.step (fun k=>spec_l5Fits.l1.eq_2 _ _ _ _ _ k) ?_
   rw [List.take_length] at hall
   simp only [Int.lt_irrefl,if_false,hall,Bool.true_and]
   refine Ev.bind (l2Clash_ev hg) ?_
   exact Ev.now _
  ·intro _ i hi hall ih
   refine Ev.step (fun k=>spec_l5Fits.l1.eq_2 _ _ _ _ _ k) ?_
   have h2:(i:Int) < (rs.length:Int):=by omega
   have h3:(0:Int)≤(i:Int):=Int.natCast_nonneg i
   simp only [h2,h3,if_true,rdI rs hi]
   have hlen:=hr rs[i] (List.getElem_mem hi)
   refine Ev.bind (specRulePossible_ev _ _ _ g s (by omega) (by omega)) ?_
   by_cases hx:rulePossible rs[i].f0 rs[i].f1 rs[i].f2 g s=true
   ·simp only [hx,if_true,w64n (by omega:i < 9000000000000000000)]
    exact ih () (take_possB hi hall hx)
   ·simp only [hx,if_false,Bool.false_eq_true]
    rw [possB_false hi (eq_false_of_ne_true hx)];exact Ev.now _
 ·intro _ j hj ha ih
  refine Ev.step (fun k=>spec_l5Fits.l0.eq_2 _ _ _ _ _ k) ?_
  have h1:(j:Int) < (g.length:Int):=by omega
  have h0:(0:Int)≤(j:Int):=Int.natCast_nonneg j
  have h2:(j:Int) < (q.length:Int):=by omega
  simp only [h0,h1,h2,if_true,w64n (by omega:j < 9000000000000000000)]
  by_cases c1:rd q (j:Int) > 0
  ·by_cases c2:rd g (j:Int) > 0
   ·by_cases c3:rd g (j:Int)=rd q (j:Int)
    ·have c2':rd q (j:Int) > 0:=c1
     simp only [c3,c2',if_true]
     exact ih () (agreeP_yes ha (fun _ _=>c3))
    ·simp only [c1,c2,c3,if_true,if_false]
     rw [agreeP_le (agreeP_no c1 c2 c3) hj,Bool.false_and]
     exact Ev.now _
   ·simp only [c1,c2,if_true,if_false]
    exact ih () (agreeP_yes ha (fun _ hh=>absurd hh c2))
  ·simp only [c1,if_false]
   exact ih () (agreeP_yes ha (fun hh=>absurd hh c1))
theorem specPuzzleFits_ev (s:Int)(q:List Int)(rs:List S73)(g:List Int)(hq:q.length≤1048576)(hl:rs.length≤1048576)(hr:∀ x∈rs,x.f1.length≤1048576)(hgl:g.length≤1048576):Ev (fun k=>spec_PuzzleFits.f k s q rs g) (puzzleFits s q rs g):=by
 unfold spec_PuzzleFits.f puzzleFits
 refine Ev.bind (specPuzzleValid_ev s q rs hq hl hr) ?_
 by_cases hp:puzzleB s q rs=true
 ·simp only [hp,if_true,Bool.true_and]
  refine Ev.bind (specGridValid_ev g s (by omega)) ?_
  by_cases hg:gridB g s=true
  ·simp only [hg,if_true]
   refine Ev.bind (l5Fits_ev hp hg hr) ?_
   have e:(agreeP q g g.length && (possB rs g s && !linesClash g s 0 (2 * s.toNat)))=(squareFits g s && (agreeP q g g.length && possB rs g s)):=by
    unfold squareFits
    rw [hg,Bool.true_and]
    cases agreeP q g g.length <;> cases possB rs g s <;> cases linesClash g s 0 (2 * s.toNat) <;> rfl
   rw [e]
   exact Ev.now _
  ·have e:squareFits g s=false:=by unfold squareFits;rw [eq_false_of_ne_true hg];rfl
   simp only [hg,if_false,e,Bool.false_and]
   exact Ev.now _
 ·simp only [hp,if_false,eq_false_of_ne_true hp,Bool.false_and]
  exact Ev.now _
theorem specPuzzleSolved_ev (s:Int)(q:List Int)(rs:List S73)(g:List Int)(hq:q.length≤1048576)(hl:rs.length≤1048576)(hr:∀ x∈rs,x.f1.length≤1048576)(hgl:g.length≤1048576):Ev (fun k=>spec_PuzzleSolved.f k s q rs g) (puzzleSolved s q rs g):=by
 unfold spec_PuzzleSolved.f puzzleSolved
 refine Ev.bind (specPuzzleFits_ev s q rs g hq hl hr hgl) ?_
 by_cases hf:puzzleFits s q rs g=true
 ·simp only [hf,if_true,Bool.true_and]
  refine Ev.bind (specGridFilled_ev g s (by omega)) ?_
  exact Ev.now _
 ·simp only [hf,if_false,eq_false_of_ne_true hf,Bool.false_and]
  exact Ev.now _

end Go.Proofs.Ytmjbnghhfadapaa.Pure
namespace Go.Proofs.Ytmjbnghhfadapaa.Pure
set_option linter.unusedSimpArgs false
set_option linter.unusedVariables false
open Go.RowKit Go.Proofs.YtmjbnghhfadapaaW.PrintWords Go.Proofs.YtmjbnghhfadapaaW.PrintMore Go.Proofs.Ytmjbnghhfadapaa.P

theorem copyPuzzle_ev (s:Int)(q:List Int)(rs:List S73)(hq:q.length≤1048576)(hl:rs.length≤1048576)(hr:∀ x∈rs,x.f1.length≤1048576):Ev (fun k=>impl_copyPuzzle.f k s q rs) (s,q,rs):=by
 unfold impl_copyPuzzle.f
 have hc:∀ l:List Int,l.length≤1048576→slices_Clone_int_int.f l=some l:=by
  intro l h;unfold slices_Clone_int_int.f;rw [if_pos (by omega)]
 simp only [hc q hq,Option.bind_some]
 refine Ev.range (L:=fun k (x:List S73) j=>impl_copyPuzzle.l0 k rs (rs.length:Int) j s q x) (R:=fun _ _=>(s,q,rs)) (N:=rs.length) (fun x j=>x=rs.take j) ?_ ?_ [] 0 (Nat.zero_le _) rfl
 ·rintro x rfl
  refine Ev.step (fun k=>impl_copyPuzzle.l0.eq_2 _ _ _ _ _ _ k) ?_
  simp only [Int.lt_irrefl,if_false,List.take_length]
  exact Ev.now _
 ·rintro x j hj rfl ih
  refine Ev.step (fun k=>impl_copyPuzzle.l0.eq_2 _ _ _ _ _ _ k) ?_
  have h1:(j:Int) < (rs.length:Int):=by omega
  have h2:(0:Int)≤(j:Int):=Int.natCast_nonneg j
  have h3:(rs.take j).length < 3518437208883:=by rw [List.length_take];omega
  simp only [h1,h2,h3,if_true,rdI rs hj,hc _ (hr _ (List.getElem_mem hj)),Option.bind_some,w64n (by omega:j < 9000000000000000000)]
  refine ih _ ?_
  rw [List.take_succ_eq_append_getElem hj]

end Go.Proofs.Ytmjbnghhfadapaa.Pure
namespace Go.Proofs.Ytmjbnghhfadapaa.Pure
set_option linter.unusedSimpArgs false
set_option linter.unusedVariables false
open Go.RowKit Go.Proofs.YtmjbnghhfadapaaW.PrintWords Go.Proofs.YtmjbnghhfadapaaW.PrintMore Go.Proofs.Ytmjbnghhfadapaa.P


def holdsAll (rs:List S73)(g:List Int)(s:Int):Bool:=rs.all (fun x=>ruleHolds x.f0 x.f1 x.f2 g s)
def puzOfB (g:List Int)(s:Int)(rs:List S73):Bool:=squareSolved g s && (decide (rs.length≤20) && holdsAll rs g s)
def puzzleOf (g:List Int)(s:Int)(rs:List S73):Int × List Int × List S73 × Bool:=if puzOfB g s rs=true then (s,g,rs,true) else (0,[],[],false)
theorem agreeP_self (g:List Int):∀ n,agreeP g g n=true
 | 0=>rfl
 | n + 1=>agreeP_yes (agreeP_self g n) (fun _ _=>rfl)
theorem solved_is (g:List Int)(s:Int)(rs:List S73):puzzleSolved s g rs g=puzOfB g s rs:=by
 rw [Bool.eq_iff_iff]
 unfold puzzleSolved puzzleFits puzOfB squareSolved holdsAll possB
 simp only [Bool.and_eq_true,decide_eq_true_eq,List.all_eq_true]
 constructor
 ·rintro ⟨⟨hp,hf,_,hpo⟩,hfl⟩
  obtain ⟨hg,h20,hrs⟩:=puzzleB_parts hp
  refine ⟨⟨hf,by rw [hfl,gridB_len hg]⟩,h20,fun x hx=>?_⟩
  have hr:=List.all_eq_true.1 (show rs.all (fun x=>ruleB x.f0 x.f1 x.f2 s)=true from hrs) x hx
  refine ruleHolds_of_possible (fun c hc=>?_) (hpo x hx)
  obtain ⟨c0,c1⟩:=rule_cells hr (gridB_len hg) c hc
  exact full_nz hg (by omega) c c0 c1
 ·rintro ⟨⟨hf,hfl⟩,h20,hh⟩
  have hg:gridB g s=true:=by unfold squareFits at hf;simp only [Bool.and_eq_true] at hf;exact hf.1
  refine ⟨⟨?_,hf,agreeP_self g _,fun x hx=>rulePossible_of_holds (hh x hx)⟩,by rw [hfl,gridB_len hg]⟩
  unfold puzzleB rulesB
  simp only [Bool.and_eq_true,decide_eq_true_eq,List.all_eq_true]
  refine ⟨hg,by omega,fun x hx=>?_⟩
  have:=hh x hx
  unfold ruleHolds at this
  simp only [Bool.and_eq_true] at this
  exact this.1
theorem puzzleOf_ok (g:List Int)(s:Int)(rs:List S73)(hg:g.length≤1048576)(hl:rs.length≤1048576)(hr:∀ x∈rs,x.f1.length≤1048576):(puzzleOf g s rs).2.1.length≤1048576∧(puzzleOf g s rs).2.2.1.length≤1048576∧∀ x∈(puzzleOf g s rs).2.2.1,x.f1.length≤1048576:=by
 unfold puzzleOf
 split
 ·exact ⟨hg,hl,hr⟩
 ·exact ⟨Nat.zero_le _,Nat.zero_le _,fun x hx=>by cases hx⟩
theorem implPuzzleOf_ev (g:List Int)(s:Int)(rs:List S73)(hg:g.length≤1048576)(hl:rs.length≤1048576)(hr:∀ x∈rs,x.f1.length≤1048576):Ev (fun k=>impl_PuzzleOf.f k g s rs) (puzzleOf g s rs):=by
 unfold impl_PuzzleOf.f puzzleOf puzOfB
 refine Ev.bind (implSquareSolved_ev g s (by omega)) ?_
 by_cases hs:squareSolved g s=true
 ·simp only [hs,if_true,Bool.true_and]
  refine Ev.step (fun k=>impl_PuzzleOf.j0.eq_2 _ _ _ _ k) ?_
  by_cases h20:(rs.length:Int) > 20
  ·have h20':¬ rs.length≤20:=by omega
   simp only [decide_eq_true h20,if_true,h20',decide_false,Bool.false_and,Bool.false_eq_true,if_false]
   exact Ev.now _
  ·have h20':rs.length≤20:=by omega
   simp only [decide_eq_false h20,Bool.false_eq_true,if_false,h20',decide_true,Bool.true_and]
   have:=Ev.range0 (L:=fun k j=>impl_PuzzleOf.l0 k g s rs rs (rs.length:Int) j) (R:=fun n=>if holdsAll (rs.drop n) g s=true then (s,g,rs,true) else ((0:Int),([]:List Int),([]:List S73),false)) (N:=rs.length) ?_ ?_ 0 (Nat.zero_le _)
   ·rw [List.drop_zero] at this
    exact this
   ·refine Ev.step (fun k=>impl_PuzzleOf.l0.eq_2 _ _ _ _ _ _ k) ?_
    simp only [Int.lt_irrefl,if_false,List.drop_length,holdsAll,List.all_nil,if_true]
    refine Ev.bind (copyPuzzle_ev s g rs hg hl hr) ?_
    exact Ev.now _
   ·intro j hj ih
    refine Ev.step (fun k=>impl_PuzzleOf.l0.eq_2 _ _ _ _ _ _ k) ?_
    have h1:(j:Int) < (rs.length:Int):=by omega
    have h0:(0:Int)≤(j:Int):=Int.natCast_nonneg j
    have hx:=hr _ (List.getElem_mem hj)
    simp only [h1,h0,if_true,rdI rs hj,w64n (by omega:j < 9000000000000000000)]
    refine Ev.bind (implRuleHolds_ev rs[j].f0 rs[j].f1 rs[j].f2 g s (by omega) (by omega)) ?_
    have hd:holdsAll (rs.drop j) g s=(ruleHolds rs[j].f0 rs[j].f1 rs[j].f2 g s && holdsAll (rs.drop (j + 1)) g s):=by
     unfold holdsAll
     rw [List.drop_eq_getElem_cons hj,List.all_cons]
    rw [hd]
    by_cases hh:ruleHolds rs[j].f0 rs[j].f1 rs[j].f2 g s=true
    ·simp only [hh,if_true,Bool.true_and]
     exact ih
    ·simp only [eq_false_of_ne_true hh,Bool.false_eq_true,if_false,Bool.false_and]
     exact Ev.now _
 ·simp only [eq_false_of_ne_true hs,Bool.false_eq_true,if_false,Bool.false_and]
  refine Ev.step (fun k=>impl_PuzzleOf.j0.eq_2 _ _ _ _ k) ?_
  simp only [if_true]
  exact Ev.now _
theorem specPuzzleOf_ev (g:List Int)(s:Int)(rs:List S73)(hg:g.length≤1048576)(hl:rs.length≤1048576)(hr:∀ x∈rs,x.f1.length≤1048576):Ev (fun k=>spec_PuzzleOf.f k g s rs) (puzzleOf g s rs):=by
 unfold spec_PuzzleOf.f puzzleOf
 refine Ev.bind (ownRules_ev rs hl hr) ?_
 have a1:([]:List Int).length + g.length < 17592186044416:=by simp;omega
 have a2:([]:List S73).length + rs.length < 3518437208883:=by simp;omega
 simp only [Option.bind_some,a1,a2,if_true,List.nil_append]
 refine Ev.bind (specPuzzleSolved_ev s g rs g hg hl hr hg) ?_
 rw [solved_is]
 by_cases h:puzOfB g s rs=true
 ·simp only [h,if_true];exact Ev.now _
 ·simp only [eq_false_of_ne_true h,Bool.false_eq_true,if_false];exact Ev.now _

end Go.Proofs.Ytmjbnghhfadapaa.Pure
namespace Go.Proofs.Ytmjbnghhfadapaa.Pure
set_option linter.unusedSimpArgs false
set_option linter.unusedVariables false
open Go.RowKit Go.Proofs.YtmjbnghhfadapaaW.PrintWords Go.Proofs.YtmjbnghhfadapaaW.PrintMore Go.Proofs.Ytmjbnghhfadapaa.P


theorem FnExactPuzzleOf (g:List Int)(_:g.length≤maxLen)(_:∀ x∈g,(Lit.int .i64 x).wf=true)(s:Int)(_:(Lit.int .i64 s).wf=true)(rs:List S70)(hl:rs.length≤9223372036854775807)(hr:∀ x∈rs,RuleWf x):∃ k,laws_FnExactPuzzleOf.f k g s rs=some true:=by
 apply Ev.rounds
 unfold laws_FnExactPuzzleOf.f
 by_cases hg:(g.length:Int) > 1048576
 ·simp only [hg,if_true];exact Ev.now _
 have hg':g.length≤1048576:=by omega
 simp only [hg,if_false]
 obtain ⟨r,he,hb⟩:=szRuleS_ev rs 1048576 (by decide) hl (fun x hx=>(hr x hx).2.1)
 refine Ev.bind he ?_
 by_cases h0:r < 0
 ·simp only [h0,if_true];exact Ev.now _
 ·obtain ⟨hl',hr'⟩:=hb (by omega)
  have hl2:(rs.map convR).length≤1048576:=by rw [List.length_map];exact hl'
  have hr2:∀ x∈rs.map convR,x.f1.length≤1048576:=by
   intro x hx
   obtain ⟨y,hy,rfl⟩:=List.mem_map.1 hx
   exact hr' y hy
  simp only [h0,if_false]
  have hti:=toIntS_ev g (by omega)
  have htr:=toRuleS_ev rs hl' hr'
  obtain ⟨m1,m2,m3⟩:=puzzleOf_ok g s (rs.map convR) hg' hl2 hr2
  have hsp:=specPuzzleOf_ev g s (rs.map convR) hg' hl2 hr2
  have him:=implPuzzleOf_ev g s (rs.map convR) hg' hl2 hr2
  generalize puzzleOf g s (rs.map convR)=E at m1 m2 m3 hsp him
  obtain ⟨e0,e1,e2,e3⟩:=E
  have heq:=eqPuzzle_ev e0 e1 e2 m1 m2 m3
  have hmk:=markPuzzle_is e0 e1 e2 m1 m2 m3
  have hhd:=heldPuzzle_is e0 e1 e2 m1 m2 m3
  have hnn:¬ (nextM (1 + (e1.length:Int)) e2 < 0):=by have:=nextM_ge e2 (1 + (e1.length:Int));omega
  have hmr:=markRuleS_is (rs.map convR) [] (1 + (g.length:Int)) (by rw [List.nil_append];exact hl2) hr2 (by omega) (by simp;omega)
  have hnn2:¬ (nextM (1 + (g.length:Int)) (rs.map convR) < 0):=by have:=nextM_ge (rs.map convR) (1 + (g.length:Int));omega
  refine Ev.bind hti ?_
  refine Ev.bind htr ?_
  refine Ev.bind hsp ?_
  refine Ev.bind hti ?_
  refine Ev.bind htr ?_
  refine Ev.bind him ?_
  refine Ev.bind heq ?_
  simp only [if_true,bne_self_eq_false,Bool.false_eq_true,if_false]
  refine Ev.bind hti ?_
  refine Ev.bind (eqIntS_ev g g (by omega)) ?_
  simp only [decide_true,if_true]
  refine Ev.bind htr ?_
  refine Ev.bind (eqRuleS_ev _ hl2 hr2) ?_
  simp only [if_true]
  refine Ev.bind (markIntS_ev g 1 (by omega) (by decide) (by decide)) ?_
  refine Ev.bind (a:=(nextM (1 + (g.length:Int)) (rs.map convR),[] ++ markedR (1 + (g.length:Int)) (rs.map convR))) (by unfold laws_markRuleS.f;exact hmr) ?_
  simp only [hnn2,if_false]
  refine Ev.bind heq ?_
  simp only [if_true,bne_self_eq_false,Bool.false_eq_true,if_false]
  refine Ev.bind hmk ?_
  refine Ev.bind hhd ?_
  simp only [hnn,if_false,bne_self_eq_false,Bool.false_eq_true]
  refine Ev.bind hti ?_
  refine Ev.bind htr ?_
  refine Ev.bind him ?_
  refine Ev.bind heq ?_
  simp only [if_true,bne_self_eq_false,Bool.false_eq_true,if_false]
  refine Ev.bind hhd ?_
  simp only [hnn,if_false,bne_self_eq_false,Bool.false_eq_true]
  exact Ev.now _

end Go.Proofs.Ytmjbnghhfadapaa.Pure
