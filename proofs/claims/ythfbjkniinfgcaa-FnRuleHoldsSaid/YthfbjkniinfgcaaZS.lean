/- The plain side of the law FnRuleHolds: what the functions come to, and that the law answers true. Conditions: as stated in each. -/
import Derived.Laws.BitsLemmas
import Derived.OpenShut
import Derived.Test.YthfbjkniinfgcaaZP1
import Derived.Test.YthfbjkniinfgcaaZP2
import Derived.Test.YthfbjkniinfgcaaZP3
import Derived.Test.YthfbjkniinfgcaaZP4
import Derived.Test.YthfbjkniinfgcaaZP5
import Derived.Test.YthfbjkniinfgcaaZW
namespace Go.Proofs.Ythfbjkniinfgcaa.Pure
set_option linter.unusedSimpArgs false
set_option linter.unusedVariables false
open Go.RowKit Go.Proofs.YthfbjkniinfgcaaW.PrintWords Go.Proofs.YthfbjkniinfgcaaW.PrintMore Go.Proofs.Ythfbjkniinfgcaa.P


theorem alive_ev:Ev (fun k=>laws_alive.f k) true:=Ev.of laws_alive.mono (k:=20) (by decide +kernel)

end Go.Proofs.Ythfbjkniinfgcaa.Pure
namespace Go.Proofs.Ythfbjkniinfgcaa.Pure
set_option linter.unusedSimpArgs false
set_option linter.unusedVariables false
open Go.RowKit Go.Proofs.YthfbjkniinfgcaaW.PrintWords Go.Proofs.YthfbjkniinfgcaaW.PrintMore


theorem w64 {x:Int}(h0: -9223372036854775808≤x)(h1:x≤9223372036854775807):wrap64 x=x:=by
 unfold wrap64;omega
theorem w64n {n:Nat}(h:n < 9000000000000000000):wrap64 ((n:Int) + 1)=((n + 1:Nat):Int):=by
 unfold wrap64;omega
theorem rd_nat (xs:List Int)(n:Nat):rd xs (n:Int)=xs.getD n 0:=by simp [rd]
theorem rd_lt {xs:List Int}{n:Nat}(h:n < xs.length):rd xs (n:Int)=xs[n]:=by simp [rd,h]
theorem Ev.some {α:Type}{g:Nat→Option α}{r:α}(h:∀ k,g k=Option.some r):Ev g r:=⟨0,fun k _=>h k⟩
theorem Ev.range {σ α : Type} {L : Nat → σ → Int → Option α} {R : σ → Nat → α} {N : Nat} (P : σ → Nat → Prop)
    (hend : ∀ s, P s N → Ev (fun k => L k s (N : Int)) (R s N))
    (hstep : ∀ s n, n < N → P s n → (∀ s', P s' (n + 1) → Ev (fun k => L k s' ((n + 1 : Nat) : Int)) (R s' (n + 1))) → Ev (fun k => L k s (n : Int)) (R s n)) :
    ∀ s n, n ≤ N → P s n → Ev (fun k => L k s (n : Int)) (R s n) := by
  intro s n hn
  obtain ⟨d, hd⟩ : ∃ d, N = n + d := ⟨N - n, by omega⟩
  induction d generalizing s n with
  | zero => obtain rfl : N = n := by omega
            exact hend s
  | succ d ih => exact fun hp => hstep s n (by omega) hp (fun s' hp' => ih s' (n + 1) (by omega) (by omega) hp')
theorem Ev.range0 {α:Type}{L:Nat→Int→Option α}{R:Nat→α}{N:Nat}
  (hend:Ev (fun k=>L k (N:Int)) (R N))
  (hstep:∀ n,n < N→Ev (fun k=>L k ((n + 1:Nat):Int)) (R (n + 1))→Ev (fun k=>L k (n:Int)) (R n)) :
  ∀ n,n≤N→Ev (fun k=>L k (n:Int)) (R n):=by
 intro n hn
 exact Ev.range (σ:=Unit) (L:=fun k _ i=>L k i) (R:=fun _ n=>R n) (fun _ _=>True) (fun _ _=>hend) (fun _ n h _ ih=>hstep n h (ih () trivial)) () n hn trivial
theorem take_set_succ {x:List Int}{n:Nat}(h:n < x.length)(v:Int):(x.set n v).take (n + 1)=x.take n ++ [v]:=by
 rw [List.take_succ_eq_append_getElem (by simpa using h)]
 simp [List.take_set_of_le (Nat.le_refl n)]
theorem drop_cons {xs:List Int}{n:Nat}(h:n < xs.length):xs.drop n=xs[n] :: xs.drop (n + 1):=List.drop_eq_getElem_cons h

end Go.Proofs.Ythfbjkniinfgcaa.Pure
namespace Go.Proofs.Ythfbjkniinfgcaa.Pure
set_option linter.unusedSimpArgs false
set_option linter.unusedVariables false
open Go.RowKit Go.Proofs.YthfbjkniinfgcaaW.PrintWords Go.Proofs.YthfbjkniinfgcaaW.PrintMore Go.Proofs.Ythfbjkniinfgcaa.P


theorem xor_range {x y:Int}(hx:0≤x)(hx1:x < 4611686018427387904)(hy:0≤y)(hy1:y < 4611686018427387904):0≤Go.bits .xor .i64 x y∧Go.bits .xor .i64 x y < 4611686018427387904:=by
 unfold Go.bits
 simp only [IntKind.wrap_i64]
 rw [BitVec.toNat_xor]
 have hb:IntKind.i64.bits=64:=rfl
 rw [hb]
 have e1:(BitVec.ofInt 64 x).toNat=x.toNat:=by rw [BitVec.toNat_ofInt];omega
 have e2:(BitVec.ofInt 64 y).toNat=y.toNat:=by rw [BitVec.toNat_ofInt];omega
 rw [e1,e2]
 have:=@Nat.xor_lt_two_pow x.toNat y.toNat 62 (by omega) (by omega)
 omega
def Bytes (b:List Int):Prop:=b.length≤2000∧∀ x∈b,0≤x∧x≤255
theorem Bytes.rd {b:List Int}(h:Bytes b)(i:Int):0≤rd b i∧rd b i≤255:=by
 unfold Go.Proofs.YthfbjkniinfgcaaW.PrintWords.rd
 by_cases hi:i.toNat < b.length
 ·have e:b.getD i.toNat 0=b[i.toNat]:=by simp [hi]
  rw [e];exact h.2 _ (List.getElem_mem hi)
 ·have e:b.getD i.toNat 0=0:=by simp [List.getElem?_eq_none (by omega:b.length≤i.toNat)]
  rw [e];decide
theorem pick_ev {b:List Int}(hb:Bytes b){p n:Int}(hp:0≤p)(hp1:p≤1000000)(hn:1≤n):∃ r,0≤r∧r < n∧Ev (fun k=>spec_l20Rd_pick.f k b p n) (r,p + 1):=by
 unfold spec_l20Rd_pick.f
 have hw:wrap64 (p + 1)=p + 1:=w64 (by omega) (by omega)
 have hw1:wrap64 (p + 1 - 1)=p:=by rw [w64 (by omega) (by omega)];omega
 have h1:¬ n < 1:=by omega
 have hn0:¬ n=0:=by omega
 simp only [h1,if_false,hw]
 by_cases hl:b.length=0
 ·refine ⟨0,by omega,by omega,?_⟩
  have e:((b.length:Int) == 0)=true:=by simp [hl]
  simp only [e]
  refine Ev.step (fun k=>spec_l20Rd_pick.j0.eq_2 _ _ _ _ k) ?_
  simp only [if_true]
  exact Ev.now _
 ·have e:((b.length:Int) == 0)=false:=by rw [beq_eq_false_iff_ne];omega
  simp only [e]
  by_cases hk:p < (b.length:Int)
  ·refine ⟨Int.tmod (rd b p) n,?_,?_,?_⟩
   ·exact Int.tmod_nonneg _ (hb.rd p).1
   ·exact Int.tmod_lt_of_pos _ (by omega)
   ·refine Ev.step (fun k=>spec_l20Rd_pick.j0.eq_2 _ _ _ _ k) ?_
    have hr:=hb.rd p
    simp only [Bool.false_eq_true,if_false,hw1,hk,if_true,hp,hn0,w64 (x:=rd b p) (by omega) (by omega)]
    exact Ev.now _
  ·have hL:¬ (b.length:Int)=0:=by omega
   have hLp:(0:Int) < (b.length:Int):=by omega
   have hLm:(b.length:Int)≤2000:=by have:=hb.1;omega
   obtain ⟨L,hLe⟩:∃ L,L=(b.length:Int):=⟨_,rfl⟩
   have hi0:0≤Int.tmod p L:=Int.tmod_nonneg _ hp
   have hi1:Int.tmod p L < L:=Int.tmod_lt_of_pos _ (by omega)
   have hw7:wrap64 ((wrap64 (p * 7)) + 3)=p * 7 + 3:=by rw [w64 (x:=p * 7) (by omega) (by omega),w64 (by omega) (by omega)]
   have hj0:0≤Int.tmod (p * 7 + 3) L:=Int.tmod_nonneg _ (by omega)
   have hj1:Int.tmod (p * 7 + 3) L < L:=Int.tmod_lt_of_pos _ (by omega)
   have hq0:0≤Int.tdiv p L:=Int.tdiv_nonneg hp (by omega)
   have hq1:Int.tdiv p L≤p:=by
    rw [Int.tdiv_eq_ediv_of_nonneg hp];exact Int.ediv_le_self _ hp
   have ha:=hb.rd (Int.tmod p L)
   have hc:=hb.rd (Int.tmod (p * 7 + 3) L)
   obtain ⟨A,hA⟩:∃ A,A=rd b (Int.tmod p L):=⟨_,rfl⟩
   obtain ⟨C,hC⟩:∃ C,C=rd b (Int.tmod (p * 7 + 3) L):=⟨_,rfl⟩
   obtain ⟨Q,hQ⟩:∃ Q,Q=Int.tdiv p L:=⟨_,rfl⟩
   rw [← hA] at ha
   rw [← hC] at hc
   rw [← hQ] at hq0 hq1
   have hX:wrap64 ((wrap64 ((wrap64 ((wrap64 ((wrap64 A) * 131)) + (wrap64 ((wrap64 C) * 1117)))) + (wrap64 (p * 29)))) + (wrap64 ((wrap64 Q) * 53)))=A * 131 + C * 1117 + p * 29 + Q * 53:=by
    rw [w64 (x:=A) (by omega) (by omega),w64 (x:=C) (by omega) (by omega),w64 (x:=Q) (by omega) (by omega),w64 (x:=A * 131) (by omega) (by omega),w64 (x:=C * 1117) (by omega) (by omega),w64 (x:=p * 29) (by omega) (by omega),w64 (x:=Q * 53) (by omega) (by omega)]
    rw [w64 (x:=A * 131 + C * 1117) (by omega) (by omega),w64 (x:=A * 131 + C * 1117 + p * 29) (by omega) (by omega),w64 (by omega) (by omega)]
   obtain ⟨X,hXe⟩:∃ X,X=A * 131 + C * 1117 + p * 29 + Q * 53:=⟨_,rfl⟩
   have hX0:0≤X:=by omega
   have hX1:X < 1000000000000:=by omega
   have hD0:0≤Int.tdiv X 64:=Int.tdiv_nonneg hX0 (by omega)
   have hD1:Int.tdiv X 64≤X:=by rw [Int.tdiv_eq_ediv_of_nonneg hX0];exact Int.ediv_le_self _ hX0
   have hxr:=xor_range hX0 (by omega) hD0 (by omega)
   rw [← hLe] at hk hL
   refine ⟨Int.tmod (Go.bits .xor .i64 X (Int.tdiv X 64)) n,Int.tmod_nonneg _ hxr.1,Int.tmod_lt_of_pos _ (by omega),?_⟩
   refine Ev.step (fun k=>spec_l20Rd_pick.j0.eq_2 _ _ _ _ k) ?_
   simp only [Bool.false_eq_true,if_false,hw1,hk,hL,← hLe,hi0,hi1,if_true,hw7,hj0,hj1,hn0,← hA,← hC,← hQ,hX,← hXe,w64 (x:=Int.tdiv X 64) (by omega) (by omega)]
   exact Ev.now _
theorem open_eq (l:List Int)(hl:∀ x∈l,(Lit.int .u8 x).wf=true):∃ b,Bytes b∧spec_l20Open.f l=some (b,0):=by
 have hw:∀ x∈l,0≤x∧x≤255:=fun x hx=>bounds_u8 (hl x hx)
 unfold spec_l20Open.f
 by_cases h:(l.length:Int) > 2000
 ·have h2:2000≤(l.length:Int):=by omega
  refine ⟨l.take 2000,⟨by rw [List.length_take];omega,fun x hx=>hw x (List.mem_of_mem_take hx)⟩,?_⟩
  simp only [h,h2,if_true]
 ·refine ⟨l,⟨by omega,hw⟩,?_⟩
  simp only [h,if_false]

end Go.Proofs.Ythfbjkniinfgcaa.Pure
namespace Go.Proofs.Ythfbjkniinfgcaa.Pure
set_option linter.unusedSimpArgs false
set_option linter.unusedVariables false
open Go.RowKit Go.Proofs.YthfbjkniinfgcaaW.PrintWords Go.Proofs.YthfbjkniinfgcaaW.PrintMore


def has (m v:Int):Bool:=decide ((m / 2 ^ v.toNat) % 2=1)
theorem has_fin:∀ m:Fin 31,∀ v:Fin 5,Int.tmod (shr .i64 (m.val:Int) (v.val:Int)) 2=(if has (m.val:Int) (v.val:Int)=true then 1 else 0)∧Go.bits .and .i64 (shr .i64 (m.val:Int) (v.val:Int)) 1=(if has (m.val:Int) (v.val:Int)=true then 1 else 0):=by decide +kernel
theorem has_and {m v:Int}(h:0≤m∧m≤30)(hv:0≤v∧v≤4):Go.bits .and .i64 (shr .i64 m v) 1=(if has m v=true then 1 else 0):=by
 have:=(has_fin ⟨m.toNat,by omega⟩ ⟨v.toNat,by omega⟩).2
 rwa [show ((m.toNat:Nat):Int)=m by omega,show ((v.toNat:Nat):Int)=v by omega] at this

end Go.Proofs.Ythfbjkniinfgcaa.Pure
namespace Go.Proofs.Ythfbjkniinfgcaa.Pure
set_option linter.unusedSimpArgs false
set_option linter.unusedVariables false
open Go.RowKit Go.Proofs.YthfbjkniinfgcaaW.PrintWords Go.Proofs.YthfbjkniinfgcaaW.PrintMore


def sizeOkB (s:Int):Bool:=decide (2≤s∧s≤4)
def gridB (g:List Int)(s:Int):Bool:=sizeOkB s && (decide ((g.length:Int)=s * s) && g.all (fun v=>decide (0≤v∧v≤s)))
def allM (s:Int):Int:=if s=2 then 6 else if s=3 then 14 else 30
def masksB (g:List Int)(s:Int):Bool:=sizeOkB s && (decide ((g.length:Int)=s * s) && g.all (fun v=>decide (0≤v∧v≤allM s∧v % 2=0)))
def marks (k:Int):Nat→List Int
 | 0=>[]
 | n + 1=>k :: marks (k + 1) n
theorem sizeOkB_iff {s:Int}:sizeOkB s=true↔s=2∨s=3∨s=4:=by
 unfold sizeOkB;rw [decide_eq_true_iff];omega
theorem len_succ {α:Type}{xs:List α}{n:Nat}(h:xs.length=n + 1):∃ a t,xs=a :: t∧t.length=n:=by
 cases xs with
 | nil=>simp at h
 | cons a t=>exact ⟨a,t,rfl,by simpa using h⟩
theorem gridB_size {g:List Int}{s:Int}(h:gridB g s=true):sizeOkB s=true:=by unfold gridB at h;simp only [Bool.and_eq_true] at h;exact h.1
theorem gridB_len {g:List Int}{s:Int}(h:gridB g s=true):(g.length:Int)=s * s:=by unfold gridB at h;simp only [Bool.and_eq_true,decide_eq_true_eq] at h;exact h.2.1
theorem gridB_mem {g:List Int}{s:Int}(h:gridB g s=true):∀ v∈g,0≤v∧v≤s:=by
 unfold gridB at h;simp only [Bool.and_eq_true,decide_eq_true_eq,List.all_eq_true] at h;exact h.2.2
theorem gridB_mk {g:List Int}{s:Int}(h:sizeOkB s=true)(hl:(g.length:Int)=s * s)(hm:∀ v∈g,0≤v∧v≤s):gridB g s=true:=by
 unfold gridB;simp only [Bool.and_eq_true,decide_eq_true_eq,List.all_eq_true];exact ⟨h,hl,hm⟩
theorem gridB_le {g:List Int}{s:Int}(h:gridB g s=true):g.length≤16:=by
 have:=gridB_len h
 rcases sizeOkB_iff.1 (gridB_size h) with rfl|rfl|rfl <;> omega
theorem masksB_mem {g:List Int}{s:Int}(h:masksB g s=true):∀ v∈g,0≤v∧v≤allM s∧v % 2=0:=by
 unfold masksB at h;simp only [Bool.and_eq_true,decide_eq_true_eq,List.all_eq_true] at h;exact h.2.2
theorem masksB_mk {g:List Int}{s:Int}(h:sizeOkB s=true)(hl:(g.length:Int)=s * s)(hm:∀ v∈g,0≤v∧v≤allM s∧v % 2=0):masksB g s=true:=by
 unfold masksB;simp only [Bool.and_eq_true,decide_eq_true_eq,List.all_eq_true];exact ⟨h,hl,hm⟩
def countF (g:List Int):Int:=((g.filter (fun v=>decide (0 < v))).length:Int)
def gridFilled (g:List Int)(s:Int):Int:=if gridB g s=true then countF g else -1
theorem countF_cons (v:Int)(g:List Int):countF (v :: g)=(if 0 < v then 1 else 0) + countF g:=by
 unfold countF;by_cases h:0 < v
 ·simp [h];omega
 ·simp [h]
def lineOkB (s l:Int):Bool:=sizeOkB s && decide (0≤l∧l < 2 * s)
def lineC (s l:Int):List Int:=if lineOkB s l=true then (List.range s.toNat).map (fun i:Nat=>if l < s then l * s + (i:Int) else (i:Int) * s + l - s) else []
theorem lineOkB_cases {s l:Int}(h:lineOkB s l=true):(s=2∧(l=0∨l=1∨l=2∨l=3))∨(s=3∧(l=0∨l=1∨l=2∨l=3∨l=4∨l=5))∨(s=4∧(l=0∨l=1∨l=2∨l=3∨l=4∨l=5∨l=6∨l=7)):=by
 unfold lineOkB at h;simp only [Bool.and_eq_true,decide_eq_true_eq] at h
 obtain ⟨hs,h0,h1⟩:=h
 rcases sizeOkB_iff.1 hs with rfl|rfl|rfl <;> omega
theorem lineC_len (s l:Int):(lineC s l).length≤16:=by
 unfold lineC;split
 ·rename_i h
  rw [List.length_map,List.length_range]
  rcases lineOkB_cases h with ⟨rfl,_⟩ | ⟨rfl,_⟩ | ⟨rfl,_⟩ <;> decide
 ·exact Nat.zero_le _

end Go.Proofs.Ythfbjkniinfgcaa.Pure
namespace Go.Proofs.Ythfbjkniinfgcaa.Pure
set_option linter.unusedSimpArgs false
set_option linter.unusedVariables false
open Go.RowKit Go.Proofs.YthfbjkniinfgcaaW.PrintWords Go.Proofs.YthfbjkniinfgcaaW.PrintMore


def rowCell (n i k:Nat):Nat:=i / n * n + k
def colCell (n i k:Nat):Nat:=k * n + i % n
def freeB (g:List Int)(n i:Nat)(v:Int):Nat→Bool
 | 0=>true
 | m + 1=>freeB g n i v m && (decide (rd g (rowCell n i m:Nat)≠v) && decide (rd g (colCell n i m:Nat)≠v))
theorem size_or {s:Int}(h:sizeOkB s=true):(s.toNat=2∨s.toNat=3∨s.toNat=4)∧s=(s.toNat:Int):=by
 rcases sizeOkB_iff.1 h with rfl|rfl|rfl <;> decide
theorem grid_len {g:List Int}{s:Int}(h:gridB g s=true):g.length=s.toNat * s.toNat:=by
 have h1:=gridB_len h
 have h2:=(size_or (gridB_size h)).2
 rw [h2] at h1
 exact_mod_cast h1

end Go.Proofs.Ythfbjkniinfgcaa.Pure
namespace Go.Proofs.Ythfbjkniinfgcaa.Pure
set_option linter.unusedSimpArgs false
set_option linter.unusedVariables false
open Go.RowKit Go.Proofs.YthfbjkniinfgcaaW.PrintWords Go.Proofs.YthfbjkniinfgcaaW.PrintMore


theorem lineC_mem {s l:Int}:∀ c∈lineC s l,0≤c∧c < s * s:=by
 by_cases h:lineOkB s l=true
 ·rcases lineOkB_cases h with ⟨rfl,hc⟩ | ⟨rfl,hc⟩ | ⟨rfl,hc⟩
  ·rcases hc with rfl|rfl|rfl|rfl <;> decide +kernel
  ·rcases hc with rfl|rfl|rfl|rfl|rfl|rfl <;> decide +kernel
  ·rcases hc with rfl|rfl|rfl|rfl|rfl|rfl|rfl|rfl <;> decide +kernel
 ·unfold lineC;rw [if_neg h];intro c hc;cases hc
def clashL (g:List Int):List Int→List Int→Bool
 | [],_=>false
 | c :: cs,seen=>if 0 < rd g c∧rd g c∈seen then true else clashL g cs (rd g c :: seen)
def linesClash (g:List Int)(s:Int)(n:Nat):Nat→Bool
 | 0=>false
 | d + 1=>clashL g (lineC s n) [] || linesClash g s (n + 1) d
def squareFits (g:List Int)(s:Int):Bool:=gridB g s && !linesClash g s 0 (2 * s.toNat)
theorem size_nat {s:Int}(h:sizeOkB s=true):((s.toNat:Nat):Int)=s∧2≤s.toNat∧s.toNat≤4:=by
 rcases sizeOkB_iff.1 h with rfl|rfl|rfl <;> decide
theorem rd_mem {g:List Int}{i:Int}(h0:0≤i)(h1:i < (g.length:Int)):rd g i∈g:=by
 obtain ⟨n,rfl⟩:=Int.eq_ofNat_of_zero_le h0
 rw [rd_lt (by omega:n < g.length)]
 exact List.getElem_mem _

end Go.Proofs.Ythfbjkniinfgcaa.Pure
namespace Go.Proofs.Ythfbjkniinfgcaa.Pure
set_option linter.unusedSimpArgs false
set_option linter.unusedVariables false
open Go.RowKit Go.Proofs.YthfbjkniinfgcaaW.PrintWords Go.Proofs.YthfbjkniinfgcaaW.PrintMore


theorem clashL_iff (g:List Int):∀ (cs seen:List Int),clashL g cs seen=false↔(∀ c∈cs,0 < rd g c→rd g c ∉ seen)∧cs.Pairwise (fun c d=>0 < rd g d→rd g d≠rd g c)
 | [],seen=>by simp [clashL]
 | c :: cs,seen=>by
  unfold clashL
  by_cases h:0 < rd g c∧rd g c∈seen
  ·rw [if_pos h]
   constructor
   ·intro h0;cases h0
   ·intro h0;exact absurd h.2 (h0.1 c (List.mem_cons_self ..) h.1)
  ·rw [if_neg h,clashL_iff g cs (rd g c :: seen),List.pairwise_cons]
   constructor
   ·rintro ⟨h1,h2⟩
    refine ⟨fun d hd hp hm=>?_,fun d hd hp he=>(h1 d hd hp) (by rw [he];exact List.mem_cons_self ..),h2⟩
    rcases List.mem_cons.1 hd with rfl|hd
    ·exact h ⟨hp,hm⟩
    ·exact h1 d hd hp (List.mem_cons_of_mem _ hm)
   ·rintro ⟨h1,h2,h3⟩
    refine ⟨fun d hd hp hm=>?_,h3⟩
    rcases List.mem_cons.1 hm with he|hm
    ·exact h2 d hd hp he
    ·exact h1 d (List.mem_cons_of_mem _ hd) hp hm
theorem linesClash_iff (g:List Int)(s:Int):∀ (d n:Nat),linesClash g s n d=false↔∀ j,j < d→clashL g (lineC s ((n + j:Nat):Int)) []=false
 | 0,n=>by simp [linesClash]
 | d + 1,n=>by
  rw [linesClash,Bool.or_eq_false_iff,linesClash_iff g s d (n + 1)]
  constructor
  ·rintro ⟨h1,h2⟩ j hj
   cases j with
   | zero=>exact h1
   | succ j=>have:=h2 j (by omega);rwa [show n + 1 + j=n + (j + 1) by omega] at this
  ·intro h
   exact ⟨h 0 (by omega),fun j hj=>by have:=h (j + 1) (by omega);rwa [show n + (j + 1)=n + 1 + j by omega] at this⟩
def lineCell (n l i:Nat):Nat:=if l < n then l * n + i else i * n + (l - n)
theorem lineC_map {n l:Nat}(hn:n=2∨n=3∨n=4)(hl:l < 2 * n):lineC (n:Int) (l:Int)=(List.range n).map (fun i=>((lineCell n l i:Nat):Int)):=by
 unfold lineC
 have h:lineOkB (n:Int) (l:Int)=true:=by
  unfold lineOkB sizeOkB
  rw [Bool.and_eq_true,decide_eq_true_iff,decide_eq_true_iff]
  omega
 rw [if_pos h,Int.toNat_natCast]
 refine List.map_congr_left (fun i hi=>?_)
 unfold lineCell
 by_cases hln:l < n
 ·rw [if_pos (by omega:(l:Int) < (n:Int)),if_pos hln]
  simp
 ·rw [if_neg (by omega:¬ (l:Int) < (n:Int)),if_neg hln]
  have:((i * n + (l - n):Nat):Int)=(i:Int) * (n:Int) + ((l - n:Nat):Int):=by simp
  rw [this];omega
def Fits (g:List Int)(n:Nat):Prop:=∀ l,l < 2 * n→∀ i j,i < n→j < n→i≠j→0 < rd g (lineCell n l i:Nat)→rd g (lineCell n l i:Nat)≠rd g (lineCell n l j:Nat)
theorem clashLine_iff (g:List Int){n l:Nat}(hn:n=2∨n=3∨n=4)(hl:l < 2 * n):clashL g (lineC (n:Int) (l:Int)) []=false↔∀ i j,i < n→j < n→i≠j→0 < rd g (lineCell n l i:Nat)→rd g (lineCell n l i:Nat)≠rd g (lineCell n l j:Nat):=by
 rw [clashL_iff,lineC_map hn hl,List.pairwise_map,List.pairwise_iff_getElem]
 constructor
 ·rintro ⟨_,h⟩ i j hi hj hij hp he
  rcases Nat.lt_or_gt_of_ne hij with hlt|hlt
  ·have:=h i j (by simpa using hi) (by simpa using hj) hlt
   simp only [List.getElem_range] at this
   exact this (by rw [← he];exact hp) he.symm
  ·have:=h j i (by simpa using hj) (by simpa using hi) hlt
   simp only [List.getElem_range] at this
   exact this hp he
 ·intro h
  refine ⟨fun c _ _ hm=>(List.not_mem_nil hm),fun i j hi hj hij=>?_⟩
  simp only [List.getElem_range]
  simp only [List.length_range] at hi hj
  exact fun hp he=>h j i hj hi (by omega) hp he
theorem squareFits_iff {g:List Int}{s:Int}(hg:gridB g s=true):squareFits g s=true↔Fits g s.toNat:=by
 obtain ⟨hn,hs⟩:=size_or (gridB_size hg)
 unfold squareFits Fits
 rw [hg,Bool.true_and,Bool.not_eq_true',linesClash_iff]
 constructor
 ·intro h l hl
  have:=h l hl
  rw [Nat.zero_add,hs] at this
  exact (clashLine_iff g hn hl).1 this
 ·intro h l hl
  rw [Nat.zero_add,hs]
  exact (clashLine_iff g hn hl).2 (h l hl)

end Go.Proofs.Ythfbjkniinfgcaa.Pure
namespace Go.Proofs.Ythfbjkniinfgcaa.Pure
set_option linter.unusedSimpArgs false
set_option linter.unusedVariables false
open Go.RowKit Go.Proofs.YthfbjkniinfgcaaW.PrintWords Go.Proofs.YthfbjkniinfgcaaW.PrintMore


theorem freeB_iff (g:List Int)(n i:Nat)(v:Int):∀ m,freeB g n i v m=true↔∀ k,k < m→rd g (rowCell n i k:Nat)≠v∧rd g (colCell n i k:Nat)≠v
 | 0=>by simp [freeB]
 | m + 1=>by
  rw [freeB,Bool.and_eq_true,freeB_iff g n i v m,Bool.and_eq_true,decide_eq_true_iff,decide_eq_true_iff]
  constructor
  ·rintro ⟨h1,h2⟩ k hk
   by_cases e:k=m
   ·subst e;exact h2
   ·exact h1 k (by omega)
  ·intro h
   exact ⟨fun k hk=>h k (by omega),h m (by omega)⟩
theorem rd_set_eq {g:List Int}{i:Nat}(h:i < g.length)(v:Int):rd (g.set i v) (i:Nat)=v:=by
 rw [rd_lt (by simpa using h)];simp
theorem rd_set_ne {g:List Int}{i j:Nat}(h:i≠j)(v:Int):rd (g.set i v) (j:Nat)=rd g (j:Nat):=by
 rw [rd_nat,rd_nat,List.getD_eq_getElem?_getD,List.getD_eq_getElem?_getD,List.getElem?_set_ne h]
theorem lineCell_at {n l a i:Nat}(hn:n=2∨n=3∨n=4)(hl:l < 2 * n)(ha:a < n)(h:lineCell n l a=i):(l < n∧l=i / n∧a=i % n∧∀ b,lineCell n l b=rowCell n i b)∨(¬ l < n∧l - n=i % n∧a=i / n∧∀ b,lineCell n l b=colCell n i b):=by
 subst h
 by_cases hln:l < n
 ·left
  refine ⟨hln,?_,?_,fun b=>?_⟩
  ·unfold lineCell;rw [if_pos hln];rcases hn with rfl|rfl|rfl <;> omega
  ·unfold lineCell;rw [if_pos hln];rcases hn with rfl|rfl|rfl <;> omega
  ·unfold rowCell lineCell;rw [if_pos hln,if_pos hln];rcases hn with rfl|rfl|rfl <;> omega
 ·right
  refine ⟨hln,?_,?_,fun b=>?_⟩
  ·unfold lineCell;rw [if_neg hln];rcases hn with rfl|rfl|rfl <;> omega
  ·unfold lineCell;rw [if_neg hln];rcases hn with rfl|rfl|rfl <;> omega
  ·unfold colCell lineCell;rw [if_neg hln,if_neg hln];rcases hn with rfl|rfl|rfl <;> omega
theorem lineCell_row {n i:Nat}(hn:n=2∨n=3∨n=4)(hi:i < n * n)(b:Nat):i / n < n∧i % n < n∧lineCell n (i / n) b=rowCell n i b∧lineCell n (n + i % n) b=colCell n i b∧rowCell n i (i % n)=i∧colCell n i (i / n)=i:=by
 have h1:i / n < n:=by rcases hn with rfl|rfl|rfl <;> omega
 refine ⟨h1,?_,?_,?_,?_,?_⟩
 ·rcases hn with rfl|rfl|rfl <;> omega
 ·unfold lineCell rowCell;rw [if_pos h1]
 ·unfold lineCell colCell;rw [if_neg (by omega)];rcases hn with rfl|rfl|rfl <;> omega
 ·unfold rowCell;rcases hn with rfl|rfl|rfl <;> omega
 ·unfold colCell;rcases hn with rfl|rfl|rfl <;> omega
theorem fits_set {g:List Int}{n i:Nat}{v:Int}(hn:n=2∨n=3∨n=4)(hlen:g.length=n * n)(hi:i < n * n)(hz:rd g (i:Nat)=0)(hv:0 < v)(hf:Fits g n):Fits (g.set i v) n↔freeB g n i v n=true:=by
 rw [freeB_iff]
 constructor
 ·intro h k hk
  obtain ⟨h1,h2,h3,h4,h5,h6⟩:=lineCell_row hn hi k
  constructor
  ·intro e
   have hne:i≠rowCell n i k:=by intro e2;rw [← e2,hz] at e;omega
   have hki:i % n≠k:=by intro e2;rw [← e2,h5] at hne;exact hne rfl
   refine h (i / n) (by omega) (i % n) k h2 hk hki ?_ ?_
   ·rw [(lineCell_row hn hi (i % n)).2.2.1,h5,rd_set_eq (by omega)];exact hv
   ·rw [(lineCell_row hn hi (i % n)).2.2.1,h5,rd_set_eq (by omega),h3,rd_set_ne hne,e]
  ·intro e
   have hne:i≠colCell n i k:=by intro e2;rw [← e2,hz] at e;omega
   have hki:i / n≠k:=by intro e2;rw [← e2,h6] at hne;exact hne rfl
   refine h (n + i % n) (by omega) (i / n) k h1 hk hki ?_ ?_
   ·rw [(lineCell_row hn hi (i / n)).2.2.2.1,h6,rd_set_eq (by omega)];exact hv
   ·rw [(lineCell_row hn hi (i / n)).2.2.2.1,h6,rd_set_eq (by omega),h4,rd_set_ne hne,e]
 ·intro h l hl a b ha hb hab hp he
  by_cases ea:lineCell n l a=i
  ·have hv2:∀ c,c < n→rd g (lineCell n l c:Nat)≠v:=by
    rcases lineCell_at hn hl ha ea with ⟨_,_,_,hc⟩ | ⟨_,_,_,hc⟩
    ·intro c hcn;rw [hc];exact (h c hcn).1
    ·intro c hcn;rw [hc];exact (h c hcn).2
   have hne:i≠lineCell n l b:=by
    intro e2
    rcases lineCell_at hn hl ha ea with ⟨q1,_,q2,_⟩ | ⟨q1,_,q2,_⟩ <;> rcases lineCell_at hn hl hb e2.symm with ⟨q3,_,q4,_⟩ | ⟨q3,_,q4,_⟩ <;> omega
   rw [ea,rd_set_eq (by omega),rd_set_ne hne] at he
   exact hv2 b hb he.symm
  ·by_cases eb:lineCell n l b=i
   ·have hv2:∀ c,c < n→rd g (lineCell n l c:Nat)≠v:=by
     rcases lineCell_at hn hl hb eb with ⟨_,_,_,hc⟩ | ⟨_,_,_,hc⟩
     ·intro c hcn;rw [hc];exact (h c hcn).1
     ·intro c hcn;rw [hc];exact (h c hcn).2
    rw [eb,rd_set_eq (by omega),rd_set_ne (fun e=>ea e.symm)] at he
    exact hv2 a ha he
   ·rw [rd_set_ne (fun e=>ea e.symm)] at hp he
    rw [rd_set_ne (fun e=>eb e.symm)] at he
    exact hf l hl a b ha hb hab hp he
theorem grid_set {g:List Int}{s:Int}(hg:gridB g s=true)(i:Nat){v:Int}(h0:0≤v)(h1:v≤s):gridB (g.set i v) s=true:=by
 refine gridB_mk (gridB_size hg) (by rw [List.length_set];exact gridB_len hg) (fun x hx=>?_)
 rcases List.mem_or_eq_of_mem_set hx with hx|rfl
 ·exact gridB_mem hg x hx
 ·exact ⟨h0,h1⟩

end Go.Proofs.Ythfbjkniinfgcaa.Pure
namespace Go.Proofs.Ythfbjkniinfgcaa.Pure
set_option linter.unusedSimpArgs false
set_option linter.unusedVariables false
open Go.RowKit Go.Proofs.YthfbjkniinfgcaaW.PrintWords Go.Proofs.YthfbjkniinfgcaaW.PrintMore


def solV (f:List Int→List (List Int))(g:List Int)(n i:Nat)(v:Int):Nat→List (List Int)
 | 0=>[]
 | m + 1=>(if freeB g n i v n=true then f (g.set i v) else []) ++ solV f g n i (v + 1) m
def sols (n N:Nat):Nat→List Int→List (List Int)
 | 0,g=>[g]
 | d + 1,g=>solV (sols n N d) g n (N - (d + 1)) 1 n
def trV (f:List Int→Int→List Int × Int)(g:List Int)(n i:Nat)(v:Int):Nat→Int→List Int × Int
 | 0,left=>([],left)
 | m + 1,left=>if freeB g n i v n=true then (if 0 < (f (g.set i v) left).1.length then f (g.set i v) left else trV f g n i (v + 1) m (f (g.set i v) left).2) else trV f g n i (v + 1) m left
def srch (n N:Nat):Nat→List Int→Int→List Int × Int
 | 0,g,left=>if left=0 then (g,left) else ([],left - 1)
 | d + 1,g,left=>trV (srch n N d) g n (N - (d + 1)) 1 n left
def numbered (L:List (List Int))(left:Int):List Int × Int:=if left < (L.length:Int) then (L.getD left.toNat [],0) else ([],left - L.length)
theorem numbered_append {L1 L2:List (List Int)}{left:Int}(h:∀ x∈L1,0 < x.length)(h0:0≤left):numbered (L1 ++ L2) left=if 0 < (numbered L1 left).1.length then numbered L1 left else numbered L2 (numbered L1 left).2:=by
 obtain ⟨m,rfl⟩:=Int.eq_ofNat_of_zero_le h0
 by_cases hm:m < L1.length
 ·have e1:numbered L1 (m:Int)=(L1[m],0):=by unfold numbered;rw [if_pos (by omega),Int.toNat_natCast,List.getD_eq_getElem?_getD,List.getElem?_eq_getElem hm,Option.getD_some]
  rw [e1,if_pos (h _ (List.getElem_mem hm))]
  unfold numbered
  rw [if_pos (by rw [List.length_append];omega),Int.toNat_natCast,List.getD_eq_getElem?_getD,List.getElem?_append_left hm,List.getElem?_eq_getElem hm,Option.getD_some]
 ·have e1:numbered L1 (m:Int)=([],(m:Int) - L1.length):=by unfold numbered;rw [if_neg (by omega)]
  rw [e1,if_neg (by simp)]
  unfold numbered
  by_cases h2:(m:Int) < ((L1 ++ L2).length:Int)
  ·have h3:=h2
   rw [List.length_append] at h3
   rw [if_pos h2,if_pos (by dsimp only;omega),Int.toNat_natCast,List.getD_eq_getElem?_getD,List.getD_eq_getElem?_getD,List.getElem?_append_right (by omega),show ((m:Int) - L1.length).toNat=m - L1.length by omega]
  ·have h3:=h2
   rw [List.length_append] at h3
   rw [if_neg h2,if_neg (by dsimp only;omega),List.length_append,Prod.mk.injEq]
   exact ⟨rfl,by dsimp only;omega⟩
theorem solV_mem {f:List Int→List (List Int)}{g:List Int}{n i:Nat}{x:List Int}:∀ (m:Nat) (v:Int),x∈solV f g n i v m→∃ u,v≤u∧u < v + m∧freeB g n i u n=true∧x∈f (g.set i u)
 | 0,v,h=>by simp [solV] at h
 | m + 1,v,h=>by
  rw [solV,List.mem_append] at h
  rcases h with h|h
  ·by_cases hf:freeB g n i v n=true
   ·rw [if_pos hf] at h;exact ⟨v,by omega,by omega,hf,h⟩
   ·rw [if_neg hf] at h;cases h
  ·obtain ⟨u,h1,h2,h3,h4⟩:=solV_mem m (v + 1) h
   exact ⟨u,by omega,by omega,h3,h4⟩
theorem sols_len {n N:Nat}{x:List Int}:∀ (d:Nat) (g:List Int),x∈sols n N d g→x.length=g.length
 | 0,g,h=>by simp [sols] at h;rw [h]
 | d + 1,g,h=>by
  obtain ⟨u,_,_,_,h⟩:=solV_mem _ _ h
  have:=sols_len d _ h
  rwa [List.length_set] at this
theorem trV_eq {f:List Int→Int→List Int × Int}{F:List Int→List (List Int)}{g:List Int}{n i:Nat}(hF:∀ y,∀ x∈F y,x.length=y.length)(hg:0 < g.length)(hf:∀ v left,0≤left→f (g.set i v) left=numbered (F (g.set i v)) left):∀ (m:Nat) (v left:Int),0≤left→trV f g n i v m left=numbered (solV F g n i v m) left
 | 0,v,left,h=>by unfold trV solV numbered;rw [if_neg (by simp;omega)];simp
 | m + 1,v,left,h=>by
  unfold trV solV
  have hnn:∀ L:List (List Int),0≤(numbered L left).2:=by intro L;unfold numbered;split <;> dsimp only <;> omega
  by_cases hb:freeB g n i v n=true
  ·rw [if_pos hb,if_pos hb,hf v left h,numbered_append (fun x hx=>by rw [hF _ x hx,List.length_set];exact hg) h,trV_eq hF hg hf m (v + 1) _ (hnn _)]
  ·rw [if_neg hb,if_neg hb,List.nil_append]
   exact trV_eq hF hg hf m (v + 1) left h
theorem srch_eq (n N:Nat):∀ (d:Nat) (g:List Int) (left:Int),0 < g.length→0≤left→srch n N d g left=numbered (sols n N d g) left
 | 0,g,left,hg,h=>by
  unfold srch sols numbered
  by_cases h0:left=0
  ·subst h0;simp
  ·rw [if_neg h0,if_neg (by simp;omega)];simp
 | d + 1,g,left,hg,h=>by
  unfold srch sols
  exact trV_eq (fun y x hx=>sols_len d y hx) hg (fun v l hl=>srch_eq n N d _ l (by rw [List.length_set];exact hg) hl) _ _ _ h
theorem srch_left {n N d:Nat}{g:List Int}{left:Int}(hg:0 < g.length)(h:0≤left):0≤(srch n N d g left).2∧(srch n N d g left).2≤left:=by
 rw [srch_eq n N d g left hg h];unfold numbered;split <;> dsimp only <;> omega
theorem sols_ok {s:Int}(hs:sizeOkB s=true){x:List Int}:∀ (d:Nat) (g:List Int),d≤s.toNat * s.toNat→gridB g s=true→Fits g s.toNat→(∀ i:Nat,s.toNat * s.toNat - d≤i→rd g (i:Int)=0)→(∀ i:Nat,i < s.toNat * s.toNat - d→0 < rd g (i:Int))→x∈sols s.toNat (s.toNat * s.toNat) d g→gridB x s=true∧Fits x s.toNat∧∀ i:Nat,i < s.toNat * s.toNat→0 < rd x (i:Int)
 | 0,g,_,hg,hf,_,hp,h=>by
  simp only [sols,List.mem_singleton] at h
  subst h
  exact ⟨hg,hf,fun i hi=>hp i (by omega)⟩
 | d + 1,g,hd,hg,hf,hz,hp,h=>by
  obtain ⟨u,h1,h2,h3,h4⟩:=solV_mem _ _ h
  obtain ⟨hn,hsn⟩:=size_or hs
  have hlen:=grid_len hg
  refine sols_ok hs d _ (by omega) (grid_set hg _ (by omega) (by omega)) ((fits_set hn hlen (by omega) (hz _ (Nat.le_refl _)) (by omega) hf).2 h3) (fun i hi=>?_) (fun i hi=>?_) h4
  ·rw [rd_set_ne (by omega)];exact hz i (by omega)
  ·by_cases e:i=s.toNat * s.toNat - (d + 1)
   ·rw [← e,rd_set_eq (by omega)];omega
   ·rw [rd_set_ne (fun e2=>e e2.symm)];exact hp i (by omega)
def cntV (f:List Int→Nat)(g:List Int)(n i:Nat)(v:Int):Nat→Nat
 | 0=>0
 | m + 1=>(if freeB g n i v n=true then f (g.set i v) else 0) + cntV f g n i (v + 1) m
def cnt (n N:Nat):Nat→List Int→Nat
 | 0,_=>1
 | d + 1,g=>cntV (cnt n N d) g n (N - (d + 1)) 1 n
theorem cntV_eq {f:List Int→Nat}{F:List Int→List (List Int)}(h:∀ y,(F y).length=f y)(g:List Int)(n i:Nat):∀ (m:Nat) (v:Int),(solV F g n i v m).length=cntV f g n i v m
 | 0,v=>rfl
 | m + 1,v=>by
  unfold solV cntV
  rw [List.length_append,cntV_eq h g n i m (v + 1)]
  split
  ·rw [h]
  ·rfl
theorem cnt_eq (n N:Nat):∀ (d:Nat) (g:List Int),(sols n N d g).length=cnt n N d g
 | 0,g=>rfl
 | d + 1,g=>by unfold sols cnt;exact cntV_eq (cnt_eq n N d) g n _ _ _

end Go.Proofs.Ythfbjkniinfgcaa.Pure
namespace Go.Proofs.Ythfbjkniinfgcaa.Pure
set_option linter.unusedSimpArgs false
set_option linter.unusedVariables false
open Go.RowKit Go.Proofs.YthfbjkniinfgcaaW.PrintWords Go.Proofs.YthfbjkniinfgcaaW.PrintMore


theorem cnt2:cnt 2 4 4 [0,0,0,0]=2:=by decide +kernel
theorem cnt3:cnt 3 9 9 [0,0,0,0,0,0,0,0,0]=12:=by decide +kernel
set_option maxRecDepth 100000 in
theorem cnt4_1:cnt 4 16 15 [1,0,0,0,0,0,0,0,0,0,0,0,0,0,0,0]=144:=by decide +kernel
set_option maxRecDepth 100000 in
theorem cnt4_2:cnt 4 16 15 [2,0,0,0,0,0,0,0,0,0,0,0,0,0,0,0]=144:=by decide +kernel
set_option maxRecDepth 100000 in
theorem cnt4_3:cnt 4 16 15 [3,0,0,0,0,0,0,0,0,0,0,0,0,0,0,0]=144:=by decide +kernel
set_option maxRecDepth 100000 in
theorem cnt4_4:cnt 4 16 15 [4,0,0,0,0,0,0,0,0,0,0,0,0,0,0,0]=144:=by decide +kernel
theorem free4:∀ v:Fin 4,freeB [0,0,0,0,0,0,0,0,0,0,0,0,0,0,0,0] 4 0 ((v.val:Int) + 1) 4=true:=by decide +kernel
theorem cntV4 (f:List Int→Nat):cntV f [0,0,0,0,0,0,0,0,0,0,0,0,0,0,0,0] 4 0 1 4=f [1,0,0,0,0,0,0,0,0,0,0,0,0,0,0,0] + (f [2,0,0,0,0,0,0,0,0,0,0,0,0,0,0,0] + (f [3,0,0,0,0,0,0,0,0,0,0,0,0,0,0,0] + (f [4,0,0,0,0,0,0,0,0,0,0,0,0,0,0,0] + 0))):=by
 unfold cntV;rw [if_pos (show freeB [0,0,0,0,0,0,0,0,0,0,0,0,0,0,0,0] 4 0 1 4=true from free4 0)]
 unfold cntV;rw [if_pos (show freeB [0,0,0,0,0,0,0,0,0,0,0,0,0,0,0,0] 4 0 (1 + 1) 4=true from free4 1)]
 unfold cntV;rw [if_pos (show freeB [0,0,0,0,0,0,0,0,0,0,0,0,0,0,0,0] 4 0 (1 + 1 + 1) 4=true from free4 2)]
 unfold cntV;rw [if_pos (show freeB [0,0,0,0,0,0,0,0,0,0,0,0,0,0,0,0] 4 0 (1 + 1 + 1 + 1) 4=true from free4 3)]
 rfl
theorem cnt4:cnt 4 16 16 [0,0,0,0,0,0,0,0,0,0,0,0,0,0,0,0]=576:=by
 rw [cnt,cntV4,cnt4_1,cnt4_2,cnt4_3,cnt4_4]
def zeros (s:Int):List Int:=List.replicate (s.toNat * s.toNat) 0
def allSquares (s:Int):List (List Int):=sols s.toNat (s.toNat * s.toNat) (s.toNat * s.toNat) (zeros s)
def squaresMany (s:Int):Int:=if s=2 then 2 else if s=3 then 12 else 576
theorem allSquares_len {s:Int}(h:sizeOkB s=true):((allSquares s).length:Int)=squaresMany s:=by
 unfold allSquares
 rw [cnt_eq]
 rcases sizeOkB_iff.1 h with rfl|rfl|rfl
 ·exact congrArg Int.ofNat cnt2
 ·exact congrArg Int.ofNat cnt3
 ·exact congrArg Int.ofNat cnt4
theorem rd_zeros (s:Int)(i:Nat):rd (zeros s) (i:Int)=0:=by
 rw [rd_nat];unfold zeros
 rw [List.getD_eq_getElem?_getD,List.getElem?_replicate]
 split <;> rfl
theorem zeros_grid {s:Int}(h:sizeOkB s=true):gridB (zeros s) s=true:=by rcases sizeOkB_iff.1 h with rfl|rfl|rfl <;> decide +kernel
theorem zeros_fits (s:Int):Fits (zeros s) s.toNat:=by
 intro l _ i j _ _ _ hp;rw [rd_zeros] at hp;omega
theorem allSquares_ok {s:Int}(hs:sizeOkB s=true){x:List Int}(h:x∈allSquares s):gridB x s=true∧Fits x s.toNat∧∀ i:Nat,i < s.toNat * s.toNat→0 < rd x (i:Int) :=
 sols_ok hs _ _ (Nat.le_refl _) (zeros_grid hs) (zeros_fits s) (fun i _=>rd_zeros s i) (fun i hi=>by omega) h
def squareNumber (s m:Int):List Int:=if sizeOkB s=true∧0≤m then (allSquares s).getD m.toNat [] else []
theorem squareNumber_mem {s m:Int}(hs:sizeOkB s=true)(h0:0≤m)(h1:m < squaresMany s):squareNumber s m∈allSquares s:=by
 unfold squareNumber
 rw [if_pos ⟨hs,h0⟩]
 have hl:=allSquares_len hs
 rw [List.getD_eq_getElem?_getD,List.getElem?_eq_getElem (by omega),Option.getD_some]
 exact List.getElem_mem _
theorem squareNumber_nil {s m:Int}(hs:sizeOkB s=true)(h1:squaresMany s≤m):squareNumber s m=[]:=by
 unfold squareNumber
 have hl:=allSquares_len hs
 split
 ·rw [List.getD_eq_getElem?_getD,List.getElem?_eq_none (by omega)];rfl
 ·rfl
theorem squareNumber_len (s m:Int):(squareNumber s m).length≤16:=by
 by_cases h:sizeOkB s=true∧0≤m∧m < squaresMany s
 ·exact gridB_le (allSquares_ok h.1 (squareNumber_mem h.1 h.2.1 h.2.2)).1
 ·unfold squareNumber
  split
  ·rename_i h2
   have:=squareNumber_nil h2.1 (m:=m) (Int.not_lt.1 (fun hlt=>h ⟨h2.1,h2.2,hlt⟩))
   unfold squareNumber at this
   rw [if_pos h2] at this
   rw [this];exact Nat.zero_le _
  ·exact Nat.zero_le _

end Go.Proofs.Ythfbjkniinfgcaa.Pure
namespace Go.Proofs.Ythfbjkniinfgcaa.Pure
set_option linter.unusedSimpArgs false
set_option linter.unusedVariables false
open Go.RowKit Go.Proofs.YthfbjkniinfgcaaW.PrintWords Go.Proofs.YthfbjkniinfgcaaW.PrintMore Go.Proofs.Ythfbjkniinfgcaa.P


theorem odd_ev {b:List Int}(hb:Bytes b){p n:Int}(hp:0≤p)(hp1:p≤1000000)(hn:1≤n)(hn1:n≤1000000):∃ r,Ev (fun k=>spec_l20Rd_odd.f k b p n) (r,p + 1):=by
 obtain ⟨r,_,_,h⟩:=pick_ev hb hp hp1 hn
 refine ⟨r == wrap64 (n - 1),?_⟩
 unfold spec_l20Rd_odd.f
 have h1:n > 0:=by omega
 simp only [h1,if_true]
 refine Ev.bind h ?_
 exact Ev.now _

end Go.Proofs.Ythfbjkniinfgcaa.Pure
namespace Go.Proofs.Ythfbjkniinfgcaa.Pure
set_option linter.unusedSimpArgs false
set_option linter.unusedVariables false
open Go.RowKit Go.Proofs.YthfbjkniinfgcaaW.PrintWords Go.Proofs.YthfbjkniinfgcaaW.PrintMore Go.Proofs.Ythfbjkniinfgcaa.P


theorem l1In_eq (a b c:Int):spec_l1In.f a b c=some (decide (b≤a∧a≤c)):=by
 unfold spec_l1In.f
 by_cases h:a ≥ b
 ·have h':b≤a:=h
  simp [h']
 ·have h':¬ b≤a:=h
  simp [h']
theorem sizeOk_eq (a:Int):impl_sizeOk.f a=some (sizeOkB a):=by
 unfold impl_sizeOk.f sizeOkB
 by_cases h:a ≥ 2
 ·have h':2≤a:=h
  simp [h']
 ·have h':¬ 2≤a:=h
  simp [h']
theorem allValues_eq {s:Int}(h:sizeOkB s=true):impl_allValues.f s=some (allM s):=by
 rcases sizeOkB_iff.1 h with rfl|rfl|rfl <;> decide +kernel

end Go.Proofs.Ythfbjkniinfgcaa.Pure
namespace Go.Proofs.Ythfbjkniinfgcaa.Pure
set_option linter.unusedSimpArgs false
set_option linter.unusedVariables false
open Go.RowKit Go.Proofs.YthfbjkniinfgcaaW.PrintWords Go.Proofs.YthfbjkniinfgcaaW.PrintMore Go.Proofs.Ythfbjkniinfgcaa.P


theorem specLineCells_ev (s l:Int):Ev (fun k=>spec_LineCells.f k s l) (lineC s l):=by
 by_cases h:lineOkB s l=true
 ·rcases lineOkB_cases h with ⟨rfl,hc⟩ | ⟨rfl,hc⟩ | ⟨rfl,hc⟩
  ·rcases hc with rfl|rfl|rfl|rfl <;> exact Ev.of (spec_LineCells.mono _ _) (k:=20) (by decide +kernel)
  ·rcases hc with rfl|rfl|rfl|rfl|rfl|rfl <;> exact Ev.of (spec_LineCells.mono _ _) (k:=20) (by decide +kernel)
  ·rcases hc with rfl|rfl|rfl|rfl|rfl|rfl|rfl|rfl <;> exact Ev.of (spec_LineCells.mono _ _) (k:=20) (by decide +kernel)
 ·have e:lineC s l=[]:=by unfold lineC;rw [if_neg h]
  rw [e]
  unfold spec_LineCells.f
  have hj:Ev (fun k=>spec_LineCells.j1 k s l [] 0 false) ([]:List Int):=by
   refine Ev.step (fun k=>spec_LineCells.j1.eq_2 _ _ _ _ _ k) ?_
   simp only [Bool.false_eq_true,if_false]
   exact Ev.now _
  refine Ev.step (fun k=>spec_LineCells.l0.eq_2 _ _ _ _ k) ?_
  by_cases h0:0 < s
  ·simp only [h0,if_true,l1In_eq,Option.bind_some]
   by_cases hs:2≤s∧s≤4
   ·have hw:wrap64 (wrap64 (2 * s) - 1)=2 * s - 1:=by rw [w64 (x:=2 * s) (by omega) (by omega),w64 (by omega) (by omega)]
    have hn:¬ (0≤l∧l≤2 * s - 1):=by
     intro hl;apply h;unfold lineOkB sizeOkB;simp only [Bool.and_eq_true,decide_eq_true_eq];exact ⟨hs,hl.1,by omega⟩
    simp only [decide_eq_true hs,if_true,hw,decide_eq_false hn]
    exact hj
   ·simp only [decide_eq_false hs,Bool.false_eq_true,if_false]
    exact hj
  ·simp only [h0,if_false]
   exact hj

end Go.Proofs.Ythfbjkniinfgcaa.Pure
namespace Go.Proofs.Ythfbjkniinfgcaa.Pure
set_option linter.unusedSimpArgs false
set_option linter.unusedVariables false
open Go.RowKit Go.Proofs.YthfbjkniinfgcaaW.PrintWords Go.Proofs.YthfbjkniinfgcaaW.PrintMore

theorem size_le4 {s:Int}(h:sizeOkB s=true):2≤s∧s≤4:=by rcases sizeOkB_iff.1 h with rfl|rfl|rfl <;> decide
theorem val_le {g:List Int}{s:Int}(h:gridB g s=true){x:Int}(hx:x∈g):0≤x∧x≤4:=by
 have h1:=gridB_mem h x hx
 have h2:=size_le4 (gridB_size h)
 omega

end Go.Proofs.Ythfbjkniinfgcaa.Pure
namespace Go.Proofs.Ythfbjkniinfgcaa.Pure
set_option linter.unusedSimpArgs false
set_option linter.unusedVariables false
open Go.RowKit Go.Proofs.YthfbjkniinfgcaaW.PrintWords Go.Proofs.YthfbjkniinfgcaaW.PrintMore Go.Proofs.Ythfbjkniinfgcaa.P


theorem orbit_fin:∀ m:Fin 32,∀ v:Fin 5,(0≤Go.bits .or .i64 (m.val:Int) (shl .i64 1 (v.val:Int))∧Go.bits .or .i64 (m.val:Int) (shl .i64 1 (v.val:Int))≤31)∧∀ u:Fin 5,has (Go.bits .or .i64 (m.val:Int) (shl .i64 1 (v.val:Int))) (u.val:Int)=(decide (u=v) || has (m.val:Int) (u.val:Int)):=by decide +kernel
theorem tmod31_fin:∀ m:Fin 32,∀ v:Fin 5,Int.tmod (shr .i64 (m.val:Int) (v.val:Int)) 2=(if has (m.val:Int) (v.val:Int)=true then 1 else 0):=by decide +kernel
def Seen (m:Int)(seen:List Int):Prop:=0≤m∧m≤31∧∀ u:Int,0≤u→u≤4→(has m u=true↔u∈seen)
theorem Seen.start:Seen 0 []:=⟨by decide,by decide,fun u h0 h1=>by
 have:has 0 u=false:=by unfold has;simp
 simp [this]⟩
theorem Seen.step {m v:Int}{seen:List Int}(h:Seen m seen)(hv:0≤v∧v≤4):Seen (Go.bits .or .i64 m (shl .i64 1 v)) (v :: seen):=by
 obtain ⟨h0,h1,h2⟩:=h
 have hf:=orbit_fin ⟨m.toNat,by omega⟩ ⟨v.toNat,by omega⟩
 simp only [show ((m.toNat:Nat):Int)=m by omega,show ((v.toNat:Nat):Int)=v by omega] at hf
 refine ⟨hf.1.1,hf.1.2,fun u hu0 hu1=>?_⟩
 have hg:=hf.2 ⟨u.toNat,by omega⟩
 simp only [show ((u.toNat:Nat):Int)=u by omega,Fin.mk.injEq] at hg
 rw [hg,List.mem_cons,Bool.or_eq_true,h2 u hu0 hu1,decide_eq_true_iff]
 constructor
 ·rintro (h|h)
  ·exact .inl (by omega)
  ·exact .inr h
 ·rintro (h|h)
  ·exact .inl (by omega)
  ·exact .inr h
theorem Seen.tmod {m v:Int}{seen:List Int}(h:Seen m seen)(hv:0≤v∧v≤4):(Int.tmod (shr .i64 m v) 2=1)↔v∈seen:=by
 obtain ⟨h0,h1,h2⟩:=h
 have hf:=tmod31_fin ⟨m.toNat,by omega⟩ ⟨v.toNat,by omega⟩
 simp only [show ((m.toNat:Nat):Int)=m by omega,show ((v.toNat:Nat):Int)=v by omega] at hf
 rw [hf,← h2 v hv.1 hv.2]
 by_cases hh:has m v=true <;> simp [hh]
theorem l2Clash_ev {g:List Int}{s:Int}(hg:gridB g s=true):Ev (fun k=>spec_l2Clash.f k g s) (linesClash g s 0 (2 * s.toNat)):=by
 unfold spec_l2Clash.f
 obtain ⟨hsn,hs2,hs4⟩:=size_nat (gridB_size hg)
 have hw:wrap64 (2 * s)=((2 * s.toNat:Nat):Int):=by unfold wrap64;omega
 have hlen:=gridB_len hg
 refine Ev.range0 (L:=fun k i=>spec_l2Clash.l0 k g s i) (R:=fun n=>linesClash g s n (2 * s.toNat - n)) (N:=2 * s.toNat) ?_ ?_ 0 (Nat.zero_le _)
 ·refine Ev.step (fun k=>spec_l2Clash.l0.eq_2 _ _ _ k) ?_
  simp only [hw,Int.lt_irrefl,if_false,Nat.sub_self,linesClash]
  exact Ev.now _
 ·intro n hn ih
  refine Ev.step (fun k=>spec_l2Clash.l0.eq_2 _ _ _ k) ?_
  have h1:(n:Int) < ((2 * s.toNat:Nat):Int):=by omega
  simp only [hw,h1,if_true]
  refine Ev.bind (specLineCells_ev s n) ?_
  have e:2 * s.toNat - n=(2 * s.toNat - (n + 1)) + 1:=by omega
  rw [e,linesClash]
  have hb:=lineC_len s n
  have:=Ev.range (L:=fun k (x:Int) i=>spec_l2Clash.l1 k g s n (lineC s n) x i) (R:=fun _ _=>clashL g (lineC s n) [] || linesClash g s (n + 1) (2 * s.toNat - (n + 1))) (N:=(lineC s n).length)
   (fun x j=>∃ seen,Seen x seen∧clashL g (lineC s n) []=clashL g ((lineC s n).drop j) seen) ?_ ?_ 0 0 (Nat.zero_le _) ⟨[],Seen.start,by simp⟩
  ·simpa using this
  ·rintro x ⟨seen,hx,he⟩
   refine Ev.step (fun k=>spec_l2Clash.l1.eq_2 _ _ _ _ _ _ k) ?_
   have e2:clashL g (lineC s n) []=false:=by rw [he,List.drop_length];rfl
   simp only [Int.lt_irrefl,if_false,e2,Bool.false_or,w64n (by omega:n < 9000000000000000000)]
   exact ih
  ·rintro x j hj ⟨seen,hx,he⟩ ihj
   refine Ev.step (fun k=>spec_l2Clash.l1.eq_2 _ _ _ _ _ _ k) ?_
   have hc:=lineC_mem (lineC s n)[j] (List.getElem_mem hj)
   have h2:(j:Int) < ((lineC s n).length:Int):=by omega
   have h3:(0:Int)≤j:=by omega
   have h5:(lineC s n)[j] < (g.length:Int):=by rw [hlen];exact hc.2
   have hv:=val_le hg (rd_mem hc.1 h5)
   rw [drop_cons hj,clashL] at he
   simp only [h2,h3,if_true,rd_lt hj,hc.1,h5,hv.1,w64n (by omega:j < 9000000000000000000)]
   have hstep:¬ (0 < rd g (lineC s n)[j]∧rd g (lineC s n)[j]∈seen)→Ev (fun k=>spec_l2Clash.l1 k g s n (lineC s n) (Go.bits .or .i64 x (shl .i64 1 (rd g (lineC s n)[j]))) ((j + 1:Nat):Int)) (clashL g (lineC s n) [] || linesClash g s (n + 1) (2 * s.toNat - (n + 1))):=by
    intro hn
    rw [if_neg hn] at he
    exact ihj _ ⟨_,hx.step hv,he⟩
   by_cases hp:0 < rd g (lineC s n)[j]
   ·have hp':rd g (lineC s n)[j] > 0:=hp
    simp only [hp',if_true]
    by_cases ht:Int.tmod (shr .i64 x (rd g (lineC s n)[j])) 2=1
    ·simp only [ht,if_true]
     rw [if_pos ⟨hp,(hx.tmod hv).1 ht⟩] at he
     rw [he];exact Ev.now _
    ·simp only [ht,if_false]
     exact hstep (fun h=>ht ((hx.tmod hv).2 h.2))
   ·have hp':¬ rd g (lineC s n)[j] > 0:=hp
    simp only [hp',if_false]
    exact hstep (fun h=>hp h.1)

end Go.Proofs.Ythfbjkniinfgcaa.Pure
namespace Go.Proofs.Ythfbjkniinfgcaa.Pure
set_option linter.unusedSimpArgs false
set_option linter.unusedVariables false
open Go.RowKit Go.Proofs.YthfbjkniinfgcaaW.PrintWords Go.Proofs.YthfbjkniinfgcaaW.PrintMore Go.Proofs.Ythfbjkniinfgcaa.P


theorem clash_free {g:List Int}{s:Int}{i:Nat}{v:Int}(hg:gridB g s=true)(hi:i < s.toNat * s.toNat)(hz:rd g (i:Nat)=0)(hv:0 < v)(hvs:v≤s)(hf:Fits g s.toNat):linesClash (g.set i v) s 0 (2 * s.toNat)= !freeB g s.toNat i v s.toNat:=by
 have hg2:=grid_set hg i (by omega:0≤v) hvs
 obtain ⟨hn,hs⟩:=size_or (gridB_size hg)
 have h1:=squareFits_iff hg2
 have h2:=fits_set hn (grid_len hg) hi hz hv hf
 unfold squareFits at h1
 rw [hg2,Bool.true_and,h2] at h1
 clear h2
 generalize linesClash (g.set i v) s 0 (2 * s.toNat)=A at h1 ⊢
 generalize freeB g s.toNat i v s.toNat=B at h1 ⊢
 revert h1
 cases A <;> cases B <;> decide
theorem l2Search_ev {s:Int}(hs:sizeOkB s=true):∀ (d:Nat) (g:List Int) (left:Int),d≤s.toNat * s.toNat→gridB g s=true→Fits g s.toNat→(∀ i:Nat,s.toNat * s.toNat - d≤i→rd g (i:Int)=0)→0≤left→left≤9223372036854775807→Ev (fun k=>spec_l2Search.f k g s ((s.toNat * s.toNat - d:Nat):Int) left) (srch s.toNat (s.toNat * s.toNat) d g left)
 | 0,g,left,_,hg,_,_,h0,h1=>by
  refine Ev.step (fun k=>spec_l2Search.f.eq_2 _ _ _ _ k) ?_
  have hlen:=grid_len hg
  have e:((s.toNat * s.toNat - 0:Nat):Int)=(g.length:Int):=by omega
  simp only [e,if_true]
  unfold srch
  by_cases hz:left=0
  ·simp only [hz,if_true];exact Ev.now _
  ·simp only [hz,if_false]
   rw [w64 (x:=left - 1) (by omega) (by omega)]
   exact Ev.now _
 | d + 1,g,left,hd,hg,hf,hz,h0,h1=>by
  refine Ev.step (fun k=>spec_l2Search.f.eq_2 _ _ _ _ k) ?_
  have hlen:=grid_len hg
  obtain ⟨hn,hsn⟩:=size_or hs
  have e:¬ ((s.toNat * s.toNat - (d + 1):Nat):Int)=(g.length:Int):=by omega
  have hpos:0 < g.length:=by omega
  simp only [e,if_false]
  unfold srch
  obtain ⟨n,hnn⟩:∃ n,s.toNat=n:=⟨_,rfl⟩
  obtain ⟨i,hi⟩:∃ i,s.toNat * s.toNat - (d + 1)=i:=⟨_,rfl⟩
  have hi16:i < 16∧i < g.length∧i + (d + 1)=s.toNat * s.toNat:=by
   have:=gridB_le hg;omega
  rw [hi]
  have:=Ev.range (L:=fun k (x:Int) j=>spec_l2Search.l0 k g s (i:Int) (j + 1) x) (R:=fun x j=>trV (srch s.toNat (s.toNat * s.toNat) d) g s.toNat i ((j:Int) + 1) (s.toNat - j) x) (N:=s.toNat) (fun x j=>0≤x∧x≤9223372036854775807) ?_ ?_ left 0 (Nat.zero_le _) ⟨h0,h1⟩
  ·simpa using this
  ·rintro x ⟨hx0,hx1⟩
   refine Ev.step (fun k=>spec_l2Search.l0.eq_2 _ _ _ _ _ k) ?_
   have h1:¬ ((s.toNat:Nat):Int) + 1≤s:=by omega
   simp only [h1,if_false,Nat.sub_self,trV]
   exact Ev.now _
  ·rintro x j hj ⟨hx0,hx1⟩ ih
   refine Ev.step (fun k=>spec_l2Search.l0.eq_2 _ _ _ _ _ k) ?_
   have h1:(j:Int) + 1≤s:=by omega
   have h2:(0:Int)≤(i:Int):=by omega
   have h3:(i:Int) < (g.length:Int):=by omega
   have h16:=gridB_le hg
   have h4:([]:List Int).length + g.length < 17592186044416:=by simp;omega
   have hilt:i < s.toNat * s.toNat:=by omega
   have hj1:0 < (j:Int) + 1:=by omega
   simp only [h1,if_true,Option.bind_some,h4,List.nil_append,h2,h3,Int.toNat_natCast]
   have hgs:=grid_set hg i (by omega:0≤(j:Int) + 1) h1
   refine Ev.bind (l2Clash_ev hgs) ?_
   have hzi:rd g (i:Int)=0:=hz i (by omega)
   rw [clash_free hg hilt hzi hj1 h1 hf]
   have hstep:s.toNat - j=(s.toNat - (j + 1)) + 1:=by omega
   rw [hstep,trV]
   have hw:wrap64 ((j:Int) + 1 + 1)=((j + 1:Nat):Int) + 1:=by unfold wrap64;omega
   have hcast:(((j + 1:Nat):Int))=(j:Int) + 1:=by omega
   cases hb:freeB g s.toNat i ((j:Int) + 1) s.toNat with
   | false =>
    simp only [Bool.not_false,if_true,Bool.false_eq_true,if_false,hw]
    exact ih x ⟨hx0,hx1⟩
   | true =>
    simp only [Bool.not_true,if_true,Bool.false_eq_true,if_false]
    have hfs:Fits (g.set i ((j:Int) + 1)) s.toNat:=(fits_set hn hlen hilt hzi hj1 hf).2 hb
    have hrec:=l2Search_ev hs d (g.set i ((j:Int) + 1)) x (Nat.le_of_succ_le hd) hgs hfs (fun i' hi'=>by rw [rd_set_ne (by clear hw hcast ih;omega)];exact hz i' (by clear hw hcast ih;omega)) hx0 hx1
    have hwi:wrap64 ((i:Int) + 1)=((s.toNat * s.toNat - d:Nat):Int):=by
     clear hw hcast ih
     rw [w64n (by omega)];omega
    rw [hwi]
    refine Ev.bind hrec ?_
    have hl:=srch_left (n:=s.toNat) (N:=s.toNat * s.toNat) (d:=d) (g:=g.set i ((j:Int) + 1)) (left:=x) (by rw [List.length_set];exact hpos) hx0
    by_cases hp:0 < (srch s.toNat (s.toNat * s.toNat) d (g.set i ((j:Int) + 1)) x).1.length
    ·have hp2:((srch s.toNat (s.toNat * s.toNat) d (g.set i ((j:Int) + 1)) x).1.length:Int) > 0:=by omega
     simp only [hp,hp2,if_true]
     exact Ev.now _
    ·have hp2:¬ ((srch s.toNat (s.toNat * s.toNat) d (g.set i ((j:Int) + 1)) x).1.length:Int) > 0:=by omega
     simp only [hp,hp2,if_false,hw]
     exact ih _ ⟨hl.1,by omega⟩
theorem specSquareNumber_ev (s m:Int)(h:m≤9223372036854775807):Ev (fun k=>spec_SquareNumber.f k s m) (squareNumber s m):=by
 unfold spec_SquareNumber.f squareNumber
 by_cases hc:2≤s∧s≤4∧0≤m
 ·have hs:sizeOkB s=true:=by unfold sizeOkB;rw [decide_eq_true_iff];exact ⟨hc.1,hc.2.1⟩
  rw [if_pos ⟨hs,hc.2.2⟩]
  simp only [hc,and_self,if_true]
  obtain ⟨hn,hsn⟩:=size_or hs
  have e:List.replicate (wrap64 (s * s)).toNat (0:Int)=zeros s:=by
   unfold zeros
   have:(wrap64 (s * s)).toNat=s.toNat * s.toNat:=by rcases sizeOkB_iff.1 hs with rfl|rfl|rfl <;> decide +kernel
   rw [this]
  rw [e]
  have hz0:(0:Int)=((s.toNat * s.toNat - s.toNat * s.toNat:Nat):Int):=by omega
  have:=l2Search_ev hs (s.toNat * s.toNat) (zeros s) m (Nat.le_refl _) (zeros_grid hs) (zeros_fits s) (fun i _=>rd_zeros s i) hc.2.2 h
  rw [← hz0] at this
  refine Ev.bind this ?_
  rw [srch_eq _ _ _ _ _ (by unfold zeros;rw [List.length_replicate];rcases hn with h|h|h <;> rw [h] <;> decide) hc.2.2]
  have hl:=allSquares_len hs
  show Ev (fun _=>if (numbered (allSquares s) m).1.length < 17592186044416 then some (numbered (allSquares s) m).1 else none) ((allSquares s).getD m.toNat [])
  have e2:(numbered (allSquares s) m).1=(allSquares s).getD m.toNat []:=by
   unfold numbered
   split
   ·rfl
   ·rw [List.getD_eq_getElem?_getD,List.getElem?_eq_none (by omega)];rfl
  rw [e2]
  have h16:=squareNumber_len s m
  unfold squareNumber at h16
  rw [if_pos ⟨hs,hc.2.2⟩] at h16
  rw [if_pos (by omega)]
  exact Ev.now _
 ·have hs:¬ (sizeOkB s=true∧0≤m):=by
   unfold sizeOkB;rw [decide_eq_true_iff];omega
  rw [if_neg hs]
  simp only [hc,if_false]
  exact Ev.now _

end Go.Proofs.Ythfbjkniinfgcaa.Pure
namespace Go.Proofs.Ythfbjkniinfgcaa.Pure
set_option linter.unusedSimpArgs false
set_option linter.unusedVariables false
open Go.RowKit Go.Proofs.YthfbjkniinfgcaaW.PrintWords Go.Proofs.YthfbjkniinfgcaaW.PrintMore Go.Proofs.Ythfbjkniinfgcaa.P


theorem size0_ev {b:List Int}(hb:Bytes b){p:Int}(hp:0≤p)(hp1:p≤900000):∃ s,sizeOkB s=true∧Ev (fun k=>spec_l20Size.f k b p 0) (s,p + 1):=by
 obtain ⟨i,h0,h1,hi⟩:=pick_ev hb (p:=p) (n:=5) hp (by omega) (by decide)
 refine ⟨rd [2,3,3,4,4] i,?_,?_⟩
 ·have:i=0∨i=1∨i=2∨i=3∨i=4:=by omega
  rcases this with rfl|rfl|rfl|rfl|rfl <;> decide
 ·unfold spec_l20Size.f spec_l20Rd_odd.f
  have e:¬ (0:Int) > 0:=by decide
  simp only [e,if_false,Option.bind_some,Bool.false_eq_true]
  refine Ev.bind hi ?_
  have h2:i < (([2,3,3,4,4]:List Int).length:Int):=by simp;omega
  simp only [h0,h2,if_true]
  exact Ev.now _
theorem many_rd {s:Int}(h:sizeOkB s=true):0≤wrap64 (s - 2)∧wrap64 (s - 2) < (([2,12,576]:List Int).length:Int)∧rd [2,12,576] (wrap64 (s - 2))=squaresMany s∧0 < squaresMany s:=by
 rcases sizeOkB_iff.1 h with rfl|rfl|rfl <;> decide +kernel
theorem solved_ev {b:List Int}(hb:Bytes b){p s:Int}(hs:sizeOkB s=true)(hp:0≤p)(hp1:p≤900000):∃ g,g∈allSquares s∧Ev (fun k=>spec_l20Solved.f k b p s) (g,p + 1 + 1):=by
 obtain ⟨r1,h10,h11,hp1⟩:=pick_ev hb (p:=p) (n:=256) hp (by omega) (by decide)
 obtain ⟨r2,h20,h21,hp2⟩:=pick_ev hb (p:=p + 1) (n:=3) (by omega) (by omega) (by decide)
 obtain ⟨m0,m1,m2,m3⟩:=many_rd hs
 have hw:wrap64 ((wrap64 (r1 * 3)) + r2)=r1 * 3 + r2:=by rw [w64 (x:=r1 * 3) (by omega) (by omega),w64 (by omega) (by omega)]
 have ht0:0≤Int.tmod (r1 * 3 + r2) (squaresMany s):=Int.tmod_nonneg _ (by omega)
 have ht1:Int.tmod (r1 * 3 + r2) (squaresMany s) < squaresMany s:=Int.tmod_lt_of_pos _ m3
 have hmany:squaresMany s≤576:=by rcases sizeOkB_iff.1 hs with rfl|rfl|rfl <;> decide
 refine ⟨squareNumber s (Int.tmod (r1 * 3 + r2) (squaresMany s)),squareNumber_mem hs ht0 ht1,?_⟩
 unfold spec_l20Solved.f
 simp only [Option.bind_some,m0,m1,m2,if_true]
 refine Ev.bind hp1 ?_
 refine Ev.bind hp2 ?_
 have hn:¬ squaresMany s=0:=by omega
 simp only [hn,if_false,hw]
 refine Ev.bind (specSquareNumber_ev _ _ (by omega)) ?_
 exact Ev.now _
def Drawn (g:List Int):Prop:=g.length≤16∧∀ v∈g,-1≤v∧v≤5
theorem Drawn.set {g:List Int}(h:Drawn g)(i:Nat){v:Int}(h0: -1≤v)(h1:v≤5):Drawn (g.set i v):=by
 refine ⟨by rw [List.length_set];exact h.1,fun x hx=>?_⟩
 rcases List.mem_or_eq_of_mem_set hx with hx|rfl
 ·exact h.2 x hx
 ·exact ⟨h0,h1⟩
theorem Drawn.of_grid {g:List Int}{s:Int}(h:gridB g s=true):Drawn g:=by
 refine ⟨gridB_le h,fun v hv=>?_⟩
 have h1:=gridB_mem h v hv
 rcases sizeOkB_iff.1 (gridB_size h) with rfl|rfl|rfl <;> omega
theorem Drawn.le {g:List Int}(h:Drawn g):g.length≤35184372088832:=by have:=h.1;omega

end Go.Proofs.Ythfbjkniinfgcaa.Pure
namespace Go.Proofs.Ythfbjkniinfgcaa.Pure
set_option linter.unusedSimpArgs false
set_option linter.unusedVariables false
open Go.RowKit Go.Proofs.YthfbjkniinfgcaaW.PrintWords Go.Proofs.YthfbjkniinfgcaaW.PrintMore Go.Proofs.Ythfbjkniinfgcaa.P


def RuleDraw (M:Int)(r:Int × List Int × Int × Int):Prop:=r.2.1.length≤9∧0≤r.2.2.2∧r.2.2.2≤M
theorem RuleDraw.mk {M kind v p:Int}{cs:List Int}(h:cs.length≤9)(h0:0≤p)(h1:p≤M):RuleDraw M (kind,cs,v,p):=⟨h,h0,h1⟩
theorem rulej5_ev {b:List Int}(hb:Bytes b){n s p M kind v:Int}{cs:List Int}(hn:1≤n)(hn1:n≤1000000)(hc:1≤cs.length)(hc4:cs.length≤4)(hp:0≤p)(hp1:p + 3≤M)(hM:M≤900000):∃ r,RuleDraw M r∧Ev (fun k=>spec_l20Rule.j5 k s n b p kind cs v) r:=by
 obtain ⟨o,ho⟩:=odd_ev hb (p:=p) (n:=n) hp (by omega) hn hn1
 cases o with
 | false =>
  refine ⟨(kind,cs,v,p + 1),.mk (by omega) (by omega) (by omega),?_⟩
  refine Ev.step (fun k=>spec_l20Rule.j5.eq_2 _ _ _ _ _ _ _ k) ?_
  refine Ev.bind ho ?_
  simp only [Bool.false_eq_true,if_false]
  exact Ev.now _
 | true =>
  obtain ⟨i,i0,i1,hi⟩:=pick_ev hb (p:=p + 1) (n:=4) (by omega) (by omega) (by decide)
  obtain ⟨q,q0,q1,hq⟩:=pick_ev hb (p:=p + 1 + 1) (n:=2) (by omega) (by omega) (by decide)
  by_cases e0:i=0
  ·refine ⟨(rd [0,6] q,cs,v,p + 1 + 1 + 1),.mk (by omega) (by omega) (by omega),?_⟩
   refine Ev.step (fun k=>spec_l20Rule.j5.eq_2 _ _ _ _ _ _ _ k) ?_
   refine Ev.bind ho ?_
   simp only [if_true]
   refine Ev.bind hi ?_
   simp only [e0,if_true,Option.bind_some]
   refine Ev.bind hq ?_
   have h2:q < (([0,6]:List Int).length:Int):=by simp;omega
   simp only [q0,h2,if_true]
   exact Ev.now _
  ·by_cases e1:i=1
   ·refine ⟨(kind,([] ++ cs) ++ [rd cs 0],v,p + 1 + 1),.mk (by simp;omega) (by omega) (by omega),?_⟩
    refine Ev.step (fun k=>spec_l20Rule.j5.eq_2 _ _ _ _ _ _ _ k) ?_
    refine Ev.bind ho ?_
    simp only [if_true]
    refine Ev.bind hi ?_
    have h1:([]:List Int).length + cs.length < 17592186044416:=by simp;omega
    have h2:0 < (cs.length:Int):=by omega
    have h3:(([]:List Int) ++ cs).length + ([rd cs 0]:List Int).length < 17592186044416:=by simp;omega
    have e10:¬ (1:Int)=0:=by decide
    simp only [e1,e10,if_true,if_false,Option.bind_some,h1,h2,h3]
    exact Ev.now _
   ·by_cases e2:i=2
    ·refine ⟨(kind,[wrap64 (s * s),0],v,p + 1 + 1),.mk (by simp) (by omega) (by omega),?_⟩
     refine Ev.step (fun k=>spec_l20Rule.j5.eq_2 _ _ _ _ _ _ _ k) ?_
     refine Ev.bind ho ?_
     simp only [if_true]
     refine Ev.bind hi ?_
     have e20:¬ (2:Int)=0:=by decide
     have e21:¬ (2:Int)=1:=by decide
     simp only [e2,e20,e21,if_true,if_false]
     exact Ev.now _
    ·refine ⟨(kind,cs,rd [-1,257] q,p + 1 + 1 + 1),.mk (by omega) (by omega) (by omega),?_⟩
     refine Ev.step (fun k=>spec_l20Rule.j5.eq_2 _ _ _ _ _ _ _ k) ?_
     refine Ev.bind ho ?_
     simp only [if_true]
     refine Ev.bind hi ?_
     simp only [e0,e1,e2,if_false,Option.bind_some]
     refine Ev.bind hq ?_
     have h2:q < (([-1,257]:List Int).length:Int):=by simp;omega
     simp only [q0,h2,if_true]
     exact Ev.now _
theorem rulel2_ev {b:List Int}(hb:Bytes b){n s p M:Int}{g cs:List Int}(hn:1≤n)(hn1:n≤1000000)(hc:1≤cs.length)(hc4:cs.length≤4)(hcs:∀ c∈cs,0≤c∧c < (g.length:Int))(hp:0≤p)(hp1:p + 4≤M)(hM:M≤900000):∀ (d i:Nat) (x15 x16:Int),i + d=cs.length→∃ r,RuleDraw M r∧Ev (fun k=>spec_l20Rule.l2 k g s n cs x15 x16 (i:Int) b p) r
 | 0,i,x15,x16,hi=>by
  obtain ⟨x,x0,x1,hx⟩:=pick_ev hb (p:=p) (n:=5) hp (by omega) (by decide)
  have hlt:¬ (i:Int) < (cs.length:Int):=by omega
  have hj:∀ (kind v:Int) (cs':List Int),1≤cs'.length→cs'.length≤4→∃ r,RuleDraw M r∧Ev (fun k=>spec_l20Rule.j5 k s n b (p + 1) kind cs' v) r:=fun kind v cs' h1 h4=>rulej5_ev hb hn hn1 h1 h4 (by omega) (by omega) hM
  by_cases e0:x=0
  ·obtain ⟨r,hr,he⟩:=hj 3 x16 cs hc hc4
   refine ⟨r,hr,?_⟩
   refine Ev.step (fun k=>spec_l20Rule.l2.eq_2 _ _ _ _ _ _ _ _ _ k) ?_
   simp only [hlt,if_false]
   refine Ev.bind hx ?_
   simp only [e0,if_true]
   exact he
  by_cases hl:(cs.length:Int) > 1
  ·have h0:0 < (cs.length:Int):=by omega
   have h1:1 < (cs.length:Int):=by omega
   have h2:2≤(cs.length:Int):=by omega
   have ht:(cs.take (2:Int).toNat).length=2:=by rw [List.length_take];show min 2 _=2;omega
   obtain ⟨a0,a1⟩:=hcs _ (rd_mem (g:=cs) (i:=0) (by decide) h0)
   obtain ⟨b0,b1⟩:=hcs _ (rd_mem (g:=cs) (i:=1) (by decide) h1)
   by_cases e1:x=1
   ·have e10:¬ (1:Int)=0:=by decide
    by_cases hgt:rd g (rd cs 0) > rd g (rd cs 1)
    ·obtain ⟨r,hr,he⟩:=hj 4 0 [rd cs 1,rd cs 0] (by simp) (by simp)
     refine ⟨r,hr,?_⟩
     refine Ev.step (fun k=>spec_l20Rule.l2.eq_2 _ _ _ _ _ _ _ _ _ k) ?_
     simp only [hlt,if_false]
     refine Ev.bind hx ?_
     simp only [e1,e10,hl,h0,h1,a0,a1,b0,b1,hgt,if_true,if_false]
     exact he
    ·obtain ⟨r,hr,he⟩:=hj 4 0 [rd cs 0,rd cs 1] (by simp) (by simp)
     refine ⟨r,hr,?_⟩
     refine Ev.step (fun k=>spec_l20Rule.l2.eq_2 _ _ _ _ _ _ _ _ _ k) ?_
     simp only [hlt,if_false]
     refine Ev.bind hx ?_
     simp only [e1,e10,hl,h0,h1,a0,a1,b0,b1,hgt,if_true,if_false]
     exact he
   ·by_cases e2:x=2
    ·have e20:¬ (2:Int)=0:=by decide
     have e21:¬ (2:Int)=1:=by decide
     obtain ⟨r,hr,he⟩:=hj 5 (mn (wrap64 (s - 1)) (mx (wrap64 ((rd g (rd cs 0)) - (rd g (rd cs 1)))) (wrap64 (-(wrap64 ((rd g (rd cs 0)) - (rd g (rd cs 1)))))))) (cs.take (2:Int).toNat) (by omega) (by omega)
     refine ⟨r,hr,?_⟩
     refine Ev.step (fun k=>spec_l20Rule.l2.eq_2 _ _ _ _ _ _ _ _ _ k) ?_
     simp only [hlt,if_false]
     refine Ev.bind hx ?_
     simp only [e2,e20,e21,hl,h0,h1,h2,a0,a1,b0,b1,if_true,if_false]
     exact he
    ·by_cases e3:x=3
     ·have e30:¬ (3:Int)=0:=by decide
      have e31:¬ (3:Int)=1:=by decide
      have e32:¬ (3:Int)=2:=by decide
      obtain ⟨r,hr,he⟩:=hj 1 0 (cs.take (2:Int).toNat) (by omega) (by omega)
      refine ⟨r,hr,?_⟩
      refine Ev.step (fun k=>spec_l20Rule.l2.eq_2 _ _ _ _ _ _ _ _ _ k) ?_
      simp only [hlt,if_false]
      refine Ev.bind hx ?_
      simp only [e3,e30,e31,e32,hl,h2,if_true,if_false]
      exact he
     ·obtain ⟨r,hr,he⟩:=hj 2 (mx 1 x15) cs hc hc4
      refine ⟨r,hr,?_⟩
      refine Ev.step (fun k=>spec_l20Rule.l2.eq_2 _ _ _ _ _ _ _ _ _ k) ?_
      simp only [hlt,if_false]
      refine Ev.bind hx ?_
      simp only [e0,e1,e2,e3,if_false]
      exact he
  ·obtain ⟨r,hr,he⟩:=hj 2 (mx 1 x15) cs hc hc4
   refine ⟨r,hr,?_⟩
   refine Ev.step (fun k=>spec_l20Rule.l2.eq_2 _ _ _ _ _ _ _ _ _ k) ?_
   simp only [hlt,if_false]
   refine Ev.bind hx ?_
   simp only [e0,hl,if_false,ite_self]
   exact he
 | d + 1,i,x15,x16,hi=>by
  have hlt:(i:Int) < (cs.length:Int):=by omega
  have hi0:(0:Int)≤(i:Int):=by omega
  obtain ⟨a0,a1⟩:=hcs _ (rd_mem hi0 hlt)
  obtain ⟨r,hr,he⟩:=rulel2_ev hb hn hn1 hc hc4 hcs hp hp1 hM d (i + 1) (wrap64 (x15 + (rd g (rd cs (i:Int))))) (wrap64 (x16 * (mx 1 (rd g (rd cs (i:Int)))))) (by omega)
  refine ⟨r,hr,?_⟩
  refine Ev.step (fun k=>spec_l20Rule.l2.eq_2 _ _ _ _ _ _ _ _ _ k) ?_
  simp only [hlt,hi0,a0,a1,if_true,w64n (by omega:i < 9000000000000000000)]
  exact he
theorem rulel1_ev {b:List Int}{n s p M many t c:Int}{g cs:List Int}(hl:cs.length≤1000)(hcont:∀ cs':List Int,(cs'=cs∨(cs'=cs ++ [c]∧0≤c∧c < s * s))→∃ r,RuleDraw M r∧Ev (fun k=>spec_l20Rule.l0 k g s n cs' many (wrap64 (t + 1)) b p) r):∀ (d i:Nat) (fresh:Bool),i + d=cs.length→(fresh=true→0≤c∧c < s * s)→∃ r,RuleDraw M r∧Ev (fun k=>spec_l20Rule.l1 k g s n cs many t c fresh (i:Int) b p) r
 | 0,i,fresh,hi,hf=>by
  have hlt:¬ (i:Int) < (cs.length:Int):=by omega
  cases fresh with
  | false =>
   obtain ⟨r,hr,he⟩:=hcont cs (.inl rfl)
   refine ⟨r,hr,?_⟩
   refine Ev.step (fun k=>spec_l20Rule.l1.eq_2 _ _ _ _ _ _ _ _ _ _ _ k) ?_
   simp only [hlt,Bool.false_eq_true,if_false]
   exact he
  | true =>
   obtain ⟨r,hr,he⟩:=hcont (cs ++ [c]) (.inr ⟨rfl,hf rfl⟩)
   refine ⟨r,hr,?_⟩
   refine Ev.step (fun k=>spec_l20Rule.l1.eq_2 _ _ _ _ _ _ _ _ _ _ _ k) ?_
   have h2:cs.length + ([c]:List Int).length < 17592186044416:=by simp;omega
   simp only [hlt,if_false,if_true,Option.bind_some,h2]
   exact he
 | d + 1,i,fresh,hi,hf=>by
  have hlt:(i:Int) < (cs.length:Int):=by omega
  have hi0:(0:Int)≤(i:Int):=by omega
  cases fresh with
  | false =>
   obtain ⟨r,hr,he⟩:=rulel1_ev hl hcont d (i + 1) false (by omega) (fun h=>by cases h)
   refine ⟨r,hr,?_⟩
   refine Ev.step (fun k=>spec_l20Rule.l1.eq_2 _ _ _ _ _ _ _ _ _ _ _ k) ?_
   simp only [hlt,if_true,Bool.false_eq_true,if_false,w64n (by omega:i < 9000000000000000000)]
   exact he
  | true =>
   obtain ⟨r,hr,he⟩:=rulel1_ev hl hcont d (i + 1) (rd cs (i:Int) != c) (by omega) (fun _=>hf rfl)
   refine ⟨r,hr,?_⟩
   refine Ev.step (fun k=>spec_l20Rule.l1.eq_2 _ _ _ _ _ _ _ _ _ _ _ k) ?_
   simp only [hlt,hi0,if_true,w64n (by omega:i < 9000000000000000000)]
   exact he
theorem rulel0_ev {b:List Int}(hb:Bytes b){n s M many:Int}{g:List Int}(hn:1≤n)(hn1:n≤1000000)(hs:sizeOkB s=true)(hg:(g.length:Int)=s * s)(hm2:2≤many)(hm4:many≤4)(hM:M≤900000):∀ (d:Nat) (t:Int) (cs:List Int) (p:Int),t + (d:Int)=many * 4→0≤t→1≤cs.length→cs.length≤4→(∀ c∈cs,0≤c∧c < s * s)→0≤p→p + 2 * (d:Int) + 4≤M→∃ r,RuleDraw M r∧Ev (fun k=>spec_l20Rule.l0 k g s n cs many t b p) r
 | 0,t,cs,p,hd,ht,hc,hc4,hcs,hp,hp1=>by
  obtain ⟨r,hr,he⟩:=rulel2_ev hb (s:=s) (M:=M) hn hn1 hc hc4 (fun c h=>by rw [hg];exact hcs c h) hp (by omega) hM cs.length 0 0 1 (by omega)
  refine ⟨r,hr,?_⟩
  have hw:wrap64 (many * 4)=many * 4:=w64 (by omega) (by omega)
  have hlt:¬ t < many * 4:=by omega
  refine Ev.step (fun k=>spec_l20Rule.l0.eq_2 _ _ _ _ _ _ _ _ k) ?_
  simp only [hw,hlt,if_false]
  refine Ev.step (fun k=>spec_l20Rule.j1.eq_2 _ _ _ _ _ _ _ _ _ k) ?_
  simp only [Bool.false_eq_true,if_false]
  exact he
 | d + 1,t,cs,p,hd,ht,hc,hc4,hcs,hp,hp1=>by
  have hw:wrap64 (many * 4)=many * 4:=w64 (by omega) (by omega)
  have hlt:t < many * 4:=by omega
  by_cases hm:(cs.length:Int) < many
  ·have hs2:2≤s∧s≤4:=by unfold sizeOkB at hs;simpa using hs
   have hss:wrap64 (s * s)=s * s∧wrap64 (-s)= -s:=by rcases sizeOkB_iff.1 hs with rfl|rfl|rfl <;> decide +kernel
   obtain ⟨i,i0,i1,hi⟩:=pick_ev hb (p:=p) (n:=(cs.length:Int)) hp (by omega) (by omega)
   obtain ⟨q,q0,q1,hq⟩:=pick_ev hb (p:=p + 1) (n:=4) (by omega) (by omega) (by decide)
   have h2:q < (([1,-1,s,wrap64 (-s)]:List Int).length:Int):=by simp;omega
   have hwt:wrap64 (t + 1)=t + 1:=w64 (by omega) (by omega)
   generalize hC:wrap64 (rd cs i + rd [1,-1,s,wrap64 (-s)] q)=c
   have hcont:∀ cs':List Int,(cs'=cs∨(cs'=cs ++ [c]∧0≤c∧c < s * s))→∃ r,RuleDraw M r∧Ev (fun k=>spec_l20Rule.l0 k g s n cs' many (wrap64 (t + 1)) b (p + 1 + 1)) r:=by
    intro cs' h
    rw [hwt]
    rcases h with rfl | ⟨rfl,c0,c1⟩
    ·exact rulel0_ev hb hn hn1 hs hg hm2 hm4 hM d (t + 1) _ (p + 1 + 1) (by omega) (by omega) hc hc4 hcs (by omega) (by omega)
    ·refine rulel0_ev hb hn hn1 hs hg hm2 hm4 hM d (t + 1) _ (p + 1 + 1) (by omega) (by omega) (by simp) (by simp;omega) ?_ (by omega) (by omega)
     intro x hx
     rcases List.mem_append.1 hx with hx|hx
     ·exact hcs x hx
     ·obtain rfl:=List.mem_singleton.1 hx
      exact ⟨c0,c1⟩
   have hj2:∀ f:Bool,(f=true→0≤c∧c < s * s)→∃ r,RuleDraw M r∧Ev (fun k=>spec_l20Rule.j2 k g s n cs many t c f b (p + 1 + 1)) r:=by
    intro f hf
    obtain ⟨r,hr,he⟩:=rulel1_ev (by omega) hcont cs.length 0 f (by omega) hf
    exact ⟨r,hr,Ev.step (fun k=>spec_l20Rule.j2.eq_2 _ _ _ _ _ _ _ _ _ _ k) he⟩
   by_cases hc0:c ≥ 0
   ·obtain ⟨r,hr,he⟩:=hj2 (decide (c < s * s)) (fun h=>⟨hc0,of_decide_eq_true h⟩)
    refine ⟨r,hr,?_⟩
    refine Ev.step (fun k=>spec_l20Rule.l0.eq_2 _ _ _ _ _ _ _ _ k) ?_
    simp only [hw,hlt,if_true,decide_eq_true hm]
    refine Ev.step (fun k=>spec_l20Rule.j1.eq_2 _ _ _ _ _ _ _ _ _ k) ?_
    simp only [if_true]
    refine Ev.bind hi ?_
    simp only [i0,i1,if_true,Option.bind_some]
    refine Ev.bind hq ?_
    simp only [q0,h2,if_true,hC,hc0,hss.1]
    exact he
   ·obtain ⟨r,hr,he⟩:=hj2 false (fun h=>by cases h)
    refine ⟨r,hr,?_⟩
    refine Ev.step (fun k=>spec_l20Rule.l0.eq_2 _ _ _ _ _ _ _ _ k) ?_
    simp only [hw,hlt,if_true,decide_eq_true hm]
    refine Ev.step (fun k=>spec_l20Rule.j1.eq_2 _ _ _ _ _ _ _ _ _ k) ?_
    simp only [if_true]
    refine Ev.bind hi ?_
    simp only [i0,i1,if_true,Option.bind_some]
    refine Ev.bind hq ?_
    simp only [q0,h2,if_true,hC,hc0,if_false]
    exact he
  ·obtain ⟨r,hr,he⟩:=rulel2_ev hb (s:=s) (M:=M) hn hn1 hc hc4 (fun c h=>by rw [hg];exact hcs c h) hp (by omega) hM cs.length 0 0 1 (by omega)
   refine ⟨r,hr,?_⟩
   refine Ev.step (fun k=>spec_l20Rule.l0.eq_2 _ _ _ _ _ _ _ _ k) ?_
   simp only [hw,hlt,if_true,decide_eq_false hm]
   refine Ev.step (fun k=>spec_l20Rule.j1.eq_2 _ _ _ _ _ _ _ _ _ k) ?_
   simp only [Bool.false_eq_true,if_false]
   exact he
theorem rule_ev {b:List Int}(hb:Bytes b){n s p:Int}{g:List Int}(hn:1≤n)(hn1:n≤1000000)(hs:sizeOkB s=true)(hg:(g.length:Int)=s * s)(hp:0≤p)(hp1:p≤800000):∃ kind cs v p',cs.length≤9∧0≤p'∧p'≤p + 100∧Ev (fun k=>spec_l20Rule.f k b p g s n) (kind,cs,v,p'):=by
 have hss:wrap64 (s * s)=s * s∧1≤s * s:=by rcases sizeOkB_iff.1 hs with rfl|rfl|rfl <;> decide +kernel
 obtain ⟨x,x0,x1,hx⟩:=pick_ev hb (p:=p) (n:=s * s) hp (by omega) hss.2
 obtain ⟨y,y0,y1,hy⟩:=pick_ev hb (p:=p + 1) (n:=3) (by omega) (by omega) (by decide)
 have hw:wrap64 (2 + y)=2 + y:=w64 (by omega) (by omega)
 obtain ⟨⟨kind,cs,v,p'⟩,⟨h1,h2,h3⟩,he⟩:=rulel0_ev hb (M:=p + 100) (many:=2 + y) (g:=g) hn hn1 hs hg (by omega) (by omega) (by omega) ((2 + y) * 4).toNat 0 [x] (p + 1 + 1) (by omega) (by omega) (by simp) (by simp) (fun c hc=>by obtain rfl:=List.mem_singleton.1 hc;exact ⟨x0,x1⟩) (by omega) (by omega)
 refine ⟨kind,cs,v,p',h1,h2,h3,?_⟩
 unfold spec_l20Rule.f
 rw [hss.1]
 refine Ev.bind hx ?_
 refine Ev.bind hy ?_
 simp only [hw]
 exact he

end Go.Proofs.Ythfbjkniinfgcaa.Pure
namespace Go.Proofs.Ythfbjkniinfgcaa.Pure
set_option linter.unusedSimpArgs false
set_option linter.unusedVariables false
open Go.RowKit Go.Proofs.YthfbjkniinfgcaaW.PrintWords Go.Proofs.YthfbjkniinfgcaaW.PrintMore Go.Proofs.Ythfbjkniinfgcaa.P

theorem casej2_end {b:List Int}(hb:Bytes b){s p x kind v:Int}{g cs:List Int}{full:Bool}(hs:sizeOkB s=true)(hg:Drawn g)(hg0:0 < g.length)(hp:0≤p)(hp1:p≤800000):∃ g' p',Drawn g'∧Ev (fun k=>spec_l20Case.j2 k full s g x false b p kind cs v) (kind,cs,v,g',s,p'):=by
 obtain ⟨o,ho⟩:=odd_ev hb (p:=p) (n:=12) hp (by omega) (by decide) (by decide)
 cases o with
 | false =>
  refine ⟨g,p + 1,hg,?_⟩
  refine Ev.step (fun k=>spec_l20Case.j2.eq_2 _ _ _ _ _ _ _ _ _ _ k) ?_
  simp only [Bool.false_eq_true,if_false]
  refine Ev.bind ho ?_
  simp only [Bool.false_eq_true,if_false]
  exact Ev.now _
 | true =>
  obtain ⟨q,q0,q1,hq⟩:=pick_ev hb (p:=p + 1) (n:=3) (by omega) (by omega) (by decide)
  have hw:wrap64 (s + 1)=s + 1:=by rcases sizeOkB_iff.1 hs with rfl|rfl|rfl <;> decide +kernel
  have hv: -1≤rd [0,-1,s + 1] q∧rd [0,-1,s + 1] q≤5:=by
   have:q=0∨q=1∨q=2:=by omega
   rcases sizeOkB_iff.1 hs with rfl|rfl|rfl <;> rcases this with rfl|rfl|rfl <;> decide
  refine ⟨g.set (0:Int).toNat (rd [0,-1,s + 1] q),p + 1 + 1,hg.set _ hv.1 hv.2,?_⟩
  refine Ev.step (fun k=>spec_l20Case.j2.eq_2 _ _ _ _ _ _ _ _ _ _ k) ?_
  simp only [Bool.false_eq_true,if_false]
  refine Ev.bind ho ?_
  simp only [if_true,Option.bind_some,hw]
  refine Ev.bind hq ?_
  have h2:q < (([0,-1,s + 1]:List Int).length:Int):=by simp;omega
  have h3:0 < (g.length:Int):=by omega
  simp only [q0,h2,h3,if_true]
  exact Ev.now _
theorem casel0_ev {b:List Int}(hb:Bytes b){s kind v:Int}{cs:List Int}{full:Bool}(hs:sizeOkB s=true):∀ (d j:Nat) (g:List Int) (p:Int),Drawn g→0 < g.length→j + d=g.length→0≤p→p + (d:Int)≤700000→∃ g' p',Drawn g'∧Ev (fun k=>spec_l20Case.l0 k full s g (j:Int) b p kind cs v) (kind,cs,v,g',s,p')
 | 0,j,g,p,hg,hg0,hj,hp,hp1=>by
  obtain ⟨g',p',a1,a2⟩:=casej2_end hb (x:=(j:Int)) (kind:=kind) (cs:=cs) (v:=v) (full:=full) hs hg hg0 hp (by omega)
  refine ⟨g',p',a1,?_⟩
  refine Ev.step (fun k=>spec_l20Case.l0.eq_2 _ _ _ _ _ _ _ _ _ k) ?_
  have h1:¬ (j:Int) < (g.length:Int):=by omega
  simp only [h1,if_false]
  exact a2
 | d + 1,j,g,p,hg,hg0,hj,hp,hp1=>by
  have h1:(j:Int) < (g.length:Int):=by omega
  have h0:(0:Int)≤(j:Int):=by omega
  have hgl:=hg.1
  have hw:wrap64 ((j:Int) + 1)=((j + 1:Nat):Int):=w64n (by omega)
  cases full with
  | true =>
   obtain ⟨g',p',a1,a2⟩:=casej2_end hb (x:=(j:Int)) (kind:=kind) (cs:=cs) (v:=v) (full:=true) hs hg hg0 hp (by omega)
   refine ⟨g',p',a1,?_⟩
   refine Ev.step (fun k=>spec_l20Case.l0.eq_2 _ _ _ _ _ _ _ _ _ k) ?_
   simp only [h1,if_true,Bool.not_true]
   exact a2
  | false =>
   obtain ⟨x,x0,x1,hx⟩:=pick_ev hb (p:=p) (n:=3) hp (by omega) (by decide)
   by_cases hc:x=0
   ·obtain ⟨g',p',a1,a2⟩:=casel0_ev hb (kind:=kind) (cs:=cs) (v:=v) (full:=false) hs d (j + 1) (g.set j 0) (p + 1) (hg.set _ (by decide) (by decide)) (by rw [List.length_set];exact hg0) (by rw [List.length_set];omega) (by omega) (by omega)
    refine ⟨g',p',a1,?_⟩
    refine Ev.step (fun k=>spec_l20Case.l0.eq_2 _ _ _ _ _ _ _ _ _ k) ?_
    simp only [h1,if_true,Bool.not_false]
    refine Ev.step (fun k=>spec_l20Case.j2.eq_2 _ _ _ _ _ _ _ _ _ _ k) ?_
    simp only [if_true]
    refine Ev.bind hx ?_
    simp only [hc,h0,h1,if_true,hw,Int.toNat_natCast]
    exact a2
   ·obtain ⟨g',p',a1,a2⟩:=casel0_ev hb (kind:=kind) (cs:=cs) (v:=v) (full:=false) hs d (j + 1) g (p + 1) hg hg0 (by omega) (by omega) (by omega)
    refine ⟨g',p',a1,?_⟩
    refine Ev.step (fun k=>spec_l20Case.l0.eq_2 _ _ _ _ _ _ _ _ _ k) ?_
    simp only [h1,if_true,Bool.not_false]
    refine Ev.step (fun k=>spec_l20Case.j2.eq_2 _ _ _ _ _ _ _ _ _ _ k) ?_
    simp only [if_true]
    refine Ev.bind hx ?_
    simp only [hc,if_false,hw]
    exact a2
theorem case_ev {b:List Int}(hb:Bytes b)(full:Bool){p:Int}(hp:0≤p)(hp1:p≤1000):∃ kind cs v g s p',cs.length≤9∧Drawn g∧Ev (fun k=>spec_l20Case.f k b p full) (kind,cs,v,g,s,p'):=by
 obtain ⟨s,hs,h1⟩:=size0_ev hb (p:=p) hp (by omega)
 obtain ⟨g,hgm,h2⟩:=solved_ev hb (p:=p + 1) hs (by omega) (by omega)
 have hg:=(allSquares_ok hs hgm).1
 have hpos:∀ {x:List Int},gridB x s=true→0 < x.length:=by
  intro x hx
  have:=gridB_len hx
  rcases sizeOkB_iff.1 hs with rfl|rfl|rfl <;> omega
 obtain ⟨kind,cs,v,p',hc,hp0,hp1',h3⟩:=rule_ev hb (n:=12) (p:=p + 1 + 1 + 1) (by decide) (by decide) hs (gridB_len hg) (by omega) (by omega)
 obtain ⟨x,x0,x1,h4⟩:=pick_ev hb (p:=p') (n:=2) hp0 (by omega) (by decide)
 by_cases e:x=0
 ·obtain ⟨g2,hgm2,h5⟩:=solved_ev hb (p:=p' + 1) hs (by omega) (by omega)
  have hg2:=(allSquares_ok hs hgm2).1
  have hle:=gridB_le hg2
  obtain ⟨g',p'',a1,a2⟩:=casel0_ev hb (kind:=kind) (cs:=cs) (v:=v) (full:=full) hs g2.length 0 g2 (p' + 1 + 1 + 1) (Drawn.of_grid hg2) (hpos hg2) (by omega) (by omega) (by omega)
  refine ⟨kind,cs,v,g',s,p'',hc,a1,?_⟩
  unfold spec_l20Case.f
  refine Ev.bind h1 ?_
  refine Ev.bind h2 ?_
  refine Ev.bind h3 ?_
  refine Ev.bind h4 ?_
  simp only [e,if_true]
  refine Ev.bind h5 ?_
  refine Ev.step (fun k=>spec_l20Case.j0.eq_2 _ _ _ _ _ _ _ _ k) ?_
  exact a2
 ·have hle:=gridB_le hg
  obtain ⟨g',p'',a1,a2⟩:=casel0_ev hb (kind:=kind) (cs:=cs) (v:=v) (full:=full) hs g.length 0 g (p' + 1) (Drawn.of_grid hg) (hpos hg) (by omega) (by omega) (by omega)
  refine ⟨kind,cs,v,g',s,p'',hc,a1,?_⟩
  unfold spec_l20Case.f
  refine Ev.bind h1 ?_
  refine Ev.bind h2 ?_
  refine Ev.bind h3 ?_
  refine Ev.bind h4 ?_
  simp only [e,if_false]
  refine Ev.step (fun k=>spec_l20Case.j0.eq_2 _ _ _ _ _ _ _ _ k) ?_
  exact a2
theorem drawRuleHolds_ev {b:List Int}(hb:Bytes b){l:List Int}(ho:spec_l20Open.f l=some (b,0)):∃ kind cs v g s,cs.length≤9∧Drawn g∧Ev (fun k=>spec_DrawRuleHolds.f k l) (kind,cs,v,g,s):=by
 obtain ⟨x,x0,x1,h1⟩:=pick_ev hb (p:=0) (n:=3) (by decide) (by decide) (by decide)
 obtain ⟨kind,cs,v,g,s,p',hc,hg,h2⟩:=case_ev hb (decide (x > 0)) (p:=0 + 1) (by decide) (by decide)
 refine ⟨kind,cs,v,g,s,hc,hg,?_⟩
 unfold spec_DrawRuleHolds.f
 simp only [ho,Option.bind_some]
 refine Ev.bind h1 ?_
 refine Ev.bind h2 ?_
 exact Ev.now _

end Go.Proofs.Ythfbjkniinfgcaa.Pure
namespace Go.Proofs.Ythfbjkniinfgcaa.Pure
set_option linter.unusedSimpArgs false
set_option linter.unusedVariables false
open Go.RowKit Go.Proofs.YthfbjkniinfgcaaW.PrintWords Go.Proofs.YthfbjkniinfgcaaW.PrintMore Go.Proofs.Ythfbjkniinfgcaa.P


theorem specGridValid_ev (g:List Int)(s:Int)(h:g.length≤35184372088832):Ev (fun k=>spec_GridValid.f k g s) (gridB g s):=by
 unfold spec_GridValid.f
 have:=Ev.range0 (L:=fun k i=>spec_GridValid.l0 k g s i) (R:=fun n=>(g.drop n).all (fun v=>decide (0≤v∧v≤s)) && (sizeOkB s && decide ((g.length:Int)=s * s))) (N:=g.length) ?_ ?_ 0 (Nat.zero_le _)
 ·have e:gridB g s=((g.drop 0).all (fun v=>decide (0≤v∧v≤s)) && (sizeOkB s && decide ((g.length:Int)=s * s))):=by
   unfold gridB;rw [List.drop_zero];cases sizeOkB s <;> cases decide ((g.length:Int)=s * s) <;> simp
  rw [e];simpa using this
 ·refine Ev.step (fun k=>spec_GridValid.l0.eq_2 _ _ _ k) ?_
  simp only [Int.lt_irrefl,if_false,l1In_eq,Option.bind_some,List.drop_length,List.all_nil,Bool.true_and]
  by_cases hs:sizeOkB s=true
  ·have hs':decide (2≤s∧s≤4)=true:=hs
   have hw:wrap64 (s * s)=s * s:=by rcases sizeOkB_iff.1 hs with rfl|rfl|rfl <;> decide +kernel
   simp only [hs',if_true,hs,hw,Bool.true_and]
   have e:((g.length:Int) == s * s)=decide ((g.length:Int)=s * s):=by
    by_cases h:(g.length:Int)=s * s <;> simp [h]
   rw [e];exact Ev.now _
  ·have hs':¬ decide (2≤s∧s≤4)=true:=hs
   simp only [hs',hs,if_false,Bool.false_and,eq_false_of_ne_true hs,Bool.false_eq_true]
   exact Ev.now _
 ·intro n hn ih
  refine Ev.step (fun k=>spec_GridValid.l0.eq_2 _ _ _ k) ?_
  have h1:(n:Int) < (g.length:Int):=by omega
  have h3:(0:Int)≤n:=by omega
  rw [drop_cons hn]
  simp only [h1,h3,if_true,rd_lt hn,l1In_eq,Option.bind_some,List.all_cons]
  by_cases hv:decide (0≤g[n]∧g[n]≤s)=true
  ·simp only [hv,if_true,w64n (by omega:n < 9000000000000000000),Bool.true_and]
   exact ih
  ·simp only [hv,if_false,eq_false_of_ne_true hv,Bool.false_and,Bool.false_eq_true]
   exact Ev.now _
theorem implGridValid_ev (g:List Int)(s:Int)(h:g.length≤35184372088832):Ev (fun k=>impl_GridValid.f k g s) (gridB g s):=by
 unfold impl_GridValid.f
 simp only [sizeOk_eq,Option.bind_some]
 by_cases hs:sizeOkB s=true
 ·have hw:wrap64 (s * s)=s * s:=by rcases sizeOkB_iff.1 hs with rfl|rfl|rfl <;> decide +kernel
  simp only [hs,if_true,hw]
  refine Ev.step (fun k=>impl_GridValid.j0.eq_2 _ _ _ k) ?_
  by_cases hl:(g.length:Int)=s * s
  ·have e:((g.length:Int) != s * s)=false:=by simp [hl]
   simp only [e,Bool.false_eq_true,if_false]
   have:=Ev.range0 (L:=fun k i=>impl_GridValid.l0 k s g (g.length:Int) i) (R:=fun n=>(g.drop n).all (fun v=>decide (0≤v∧v≤s))) (N:=g.length) ?_ ?_ 0 (Nat.zero_le _)
   ·have e:gridB g s=(g.drop 0).all (fun v=>decide (0≤v∧v≤s)):=by
     unfold gridB;rw [List.drop_zero,hs,hl];simp
    rw [e];simpa using this
   ·refine Ev.step (fun k=>impl_GridValid.l0.eq_2 _ _ _ _ k) ?_
    simp only [Int.lt_irrefl,if_false,List.drop_length,List.all_nil]
    exact Ev.now _
   ·intro n hn ih
    refine Ev.step (fun k=>impl_GridValid.l0.eq_2 _ _ _ _ k) ?_
    have h1:(n:Int) < (g.length:Int):=by omega
    have h3:(0:Int)≤n:=by omega
    rw [drop_cons hn]
    simp only [h1,h3,if_true,rd_lt hn,List.all_cons]
    by_cases ha:g[n] < 0
    ·have:decide (0≤g[n]∧g[n]≤s)=false:=decide_eq_false (by omega)
     simp only [ha,if_true,this,Bool.false_and]
     exact Ev.now _
    ·by_cases hb:g[n] > s
     ·have:decide (0≤g[n]∧g[n]≤s)=false:=decide_eq_false (by omega)
      simp only [ha,hb,if_true,if_false,this,Bool.false_and]
      exact Ev.now _
     ·have:decide (0≤g[n]∧g[n]≤s)=true:=decide_eq_true (by omega)
      simp only [ha,hb,if_false,this,Bool.true_and,w64n (by omega:n < 9000000000000000000)]
      exact ih
  ·have e:((g.length:Int) != s * s)=true:=by simp [hl]
   have e2:gridB g s=false:=by unfold gridB;simp [hl]
   simp only [e,if_true,e2]
   exact Ev.now _
 ·have e2:gridB g s=false:=by unfold gridB;simp [hs]
  simp only [hs,if_false,e2,Bool.false_eq_true]
  refine Ev.step (fun k=>impl_GridValid.j0.eq_2 _ _ _ k) ?_
  simp only [if_true]
  exact Ev.now _

end Go.Proofs.Ythfbjkniinfgcaa.Pure
namespace Go.Proofs.Ythfbjkniinfgcaa.Pure
set_option linter.unusedSimpArgs false
set_option linter.unusedVariables false
open Go.RowKit Go.Proofs.YthfbjkniinfgcaaW.PrintWords Go.Proofs.YthfbjkniinfgcaaW.PrintMore Go.Proofs.Ythfbjkniinfgcaa.P

theorem implGridFilled_ev (g:List Int)(s:Int)(h:g.length≤35184372088832):Ev (fun k=>impl_GridFilled.f k g s) (gridFilled g s):=by
 unfold impl_GridFilled.f
 refine Ev.bind (implGridValid_ev g s h) ?_
 unfold gridFilled
 by_cases hg:gridB g s=true
 ·simp only [hg,if_true]
  have:=Ev.range (L:=fun k (x:Int) i=>impl_GridFilled.l0 k x g (g.length:Int) i) (R:=fun x n=>x + countF (g.drop n)) (N:=g.length) (fun x n=>0≤x∧x≤n) ?_ ?_ 0 0 (Nat.zero_le _) (by decide)
  ·simpa using this
  ·intro x hx
   refine Ev.step (fun k=>impl_GridFilled.l0.eq_2 _ _ _ _ k) ?_
   have e:countF []=0:=rfl
   simp only [Int.lt_irrefl,if_false,List.drop_length,e,Int.add_zero]
   exact Ev.now _
  ·intro x n hn hx ih
   refine Ev.step (fun k=>impl_GridFilled.l0.eq_2 _ _ _ _ k) ?_
   have h1:(n:Int) < (g.length:Int):=by omega
   have h3:(0:Int)≤n:=by omega
   rw [drop_cons hn,countF_cons]
   simp only [h1,h3,if_true,rd_lt hn,w64n (by omega:n < 9000000000000000000)]
   by_cases hv:0 < g[n]
   ·have hv':g[n] > 0:=hv
    simp only [hv,hv',if_true]
    rw [w64 (x:=x + 1) (by omega) (by omega)]
    have:=ih (x + 1) (by omega)
    rwa [Int.add_assoc] at this
   ·have hv':¬ g[n] > 0:=hv
    simp only [hv,hv',if_false]
    have:=ih x (by omega)
    rwa [Int.zero_add]
 ·simp only [hg,if_false,Bool.false_eq_true]
  exact Ev.now _

end Go.Proofs.Ythfbjkniinfgcaa.Pure
namespace Go.Proofs.Ythfbjkniinfgcaa.Pure
set_option linter.unusedSimpArgs false
set_option linter.unusedVariables false
open Go.RowKit Go.Proofs.YthfbjkniinfgcaaW.PrintWords Go.Proofs.YthfbjkniinfgcaaW.PrintMore


def goodCells (t:Int)(cs:List Int):Nat→Bool
 | 0=>true
 | n + 1=>goodCells t cs n && (decide (0≤rd cs (n:Int)∧rd cs (n:Int) < t) && !decide (rd cs (n:Int)∈cs.take n))
theorem goodCells_false {t:Int}{cs:List Int}{n:Nat}(h:goodCells t cs n=false):∀ d,goodCells t cs (n + d)=false
 | 0=>h
 | d + 1=>by rw [show n + (d + 1)=(n + d) + 1 from rfl,goodCells,goodCells_false h d];rfl
theorem goodCells_le {t:Int}{cs:List Int}{n m:Nat}(h:goodCells t cs n=false)(hm:n≤m):goodCells t cs m=false:=by
 obtain ⟨d,rfl⟩:∃ d,m=n + d:=⟨m - n,by omega⟩
 exact goodCells_false h d
def ruleTail (kind len v s:Int):Bool:=decide (len≤4) && (if kind=1 then decide (2≤len∧v=0) else if kind=2∨kind=3 then decide (1≤len∧1≤v∧v≤s * s * s * s) else if kind=4 then decide (len=2∧v=0) else if kind=5 then decide (len=2∧0≤v∧v < s) else false)
def ruleB (kind:Int)(cs:List Int)(v s:Int):Bool:=sizeOkB s && (goodCells (s * s) cs cs.length && ruleTail kind cs.length v s)
theorem mem_take_iff {cs:List Int}{n:Nat}{c:Int}:c∈cs.take n↔∃ j,j < n∧j < cs.length∧rd cs (j:Int)=c:=by
 constructor
 ·intro h
  obtain ⟨j,hj,he⟩:=List.mem_iff_getElem.1 h
  rw [List.length_take] at hj
  refine ⟨j,by omega,by omega,?_⟩
  rw [rd_lt (by omega:j < cs.length),← he,List.getElem_take]
 ·rintro ⟨j,h1,h2,he⟩
  rw [rd_lt h2] at he
  refine List.mem_iff_getElem.2 ⟨j,by rw [List.length_take];omega,?_⟩
  rw [List.getElem_take];exact he

end Go.Proofs.Ythfbjkniinfgcaa.Pure
namespace Go.Proofs.Ythfbjkniinfgcaa.Pure
set_option linter.unusedSimpArgs false
set_option linter.unusedVariables false
open Go.RowKit Go.Proofs.YthfbjkniinfgcaaW.PrintWords Go.Proofs.YthfbjkniinfgcaaW.PrintMore Go.Proofs.Ythfbjkniinfgcaa.P


theorem index_ev (l:List Int)(x:Int)(h:l.length≤35184372088832):∀ d n,n + d=l.length→∃ r:Int,(0≤r↔x∈l.drop n)∧Ev (fun k=>slices_Index_int_int.l0 k l x (l.length:Int) (n:Int)) r
 | 0,n,hn=>by
  refine ⟨-1,?_,?_⟩
  ·rw [List.drop_eq_nil_of_le (by omega)];simp
  ·refine Ev.step (fun k=>slices_Index_int_int.l0.eq_2 _ _ _ _ k) ?_
   have h1:¬ (n:Int) < (l.length:Int):=by omega
   simp only [h1,if_false]
   exact Ev.now _
 | d + 1,n,hn=>by
  have h1:(n:Int) < (l.length:Int):=by omega
  have h0:(0:Int)≤(n:Int):=Int.natCast_nonneg n
  have hd:l.drop n=l[n] :: l.drop (n + 1):=drop_cons (by omega)
  by_cases hx:x=rd l (n:Int)
  ·refine ⟨(n:Int),⟨fun _=>?_,fun _=>h0⟩,?_⟩
   ·rw [hd,hx,rd_lt (by omega:n < l.length)];exact List.mem_cons_self
   ·refine Ev.step (fun k=>slices_Index_int_int.l0.eq_2 _ _ _ _ k) ?_
    simp only [h1,h0,← hx,if_true]
    exact Ev.now _
  ·obtain ⟨r,hr,he⟩:=index_ev l x h d (n + 1) (by omega)
   refine ⟨r,?_,?_⟩
   ·rw [hr,hd,List.mem_cons]
    constructor
    ·exact .inr
    ·rintro (e|e)
     ·exact absurd (by rw [rd_lt (by omega:n < l.length)];exact e) hx
     ·exact e
   ·refine Ev.step (fun k=>slices_Index_int_int.l0.eq_2 _ _ _ _ k) ?_
    simp only [h1,h0,hx,if_true,if_false,w64n (by omega:n < 9000000000000000000)]
    exact he
theorem contains_ev (l:List Int)(x:Int)(h:l.length≤35184372088832):Ev (fun k=>slices_Contains_int_int.f k l x) (decide (x∈l)):=by
 obtain ⟨r,hr,he⟩:=index_ev l x h l.length 0 (by omega)
 unfold slices_Contains_int_int.f slices_Index_int_int.f
 refine Ev.bind he ?_
 rw [List.drop_zero] at hr
 have e:decide (r ≥ 0)=decide (x∈l):=by
  by_cases hx:x∈l
  ·rw [decide_eq_true hx,decide_eq_true (hr.2 hx)]
  ·rw [decide_eq_false hx,decide_eq_false (fun h=>hx (hr.1 h))]
 simp only [e]
 exact Ev.now _
theorem implRuleTail_ev (s kind v:Int)(cs:List Int)(hs:sizeOkB s=true):Ev (fun k=>if kind=1 then (if (cs.length:Int) ≥ 2 then (if (cs.length:Int)≤4 then (some (v == 0)) else (some false)) else (some false)) else (if kind=2 then (impl_RuleValid.j1 k s (cs.length:Int) kind (kind == 2) kind cs v) else (impl_RuleValid.j1 k s (cs.length:Int) kind (kind == 3) kind cs v))) (ruleTail kind cs.length v s):=by
 have hsz:=sizeOkB_iff.1 hs
 have hw:wrap64 ((wrap64 ((wrap64 (s * s)) * s)) * s)=s * s * s * s:=by rcases hsz with rfl|rfl|rfl <;> decide +kernel
 unfold ruleTail
 generalize (cs.length:Int)=n
 have hvz:∀ w:Int,(w == 0)=decide (w=0):=by
  intro w
  by_cases h:w=0
  ·subst h;rfl
  ·rw [beq_eq_false_iff_ne.2 h,decide_eq_false h]
 by_cases k1:kind=1
 ·simp only [k1,if_true]
  by_cases h2:2≤n
  ·by_cases h4:n≤4
   ·have h2':n ≥ 2:=h2
    simp only [h2,h2',h4,if_true,hvz,true_and,decide_true,Bool.true_and]
    exact Ev.now _
   ·have h2':n ≥ 2:=h2
    simp only [h2',h4,if_true,if_false,decide_false,Bool.false_and]
    exact Ev.now _
  ·have h2':¬ n ≥ 2:=h2
   simp only [h2,h2',if_false,false_and,decide_false,Bool.and_false]
   exact Ev.now _
 ·simp only [k1,if_false]
  have hj:∀ b,b=decide (kind=2∨kind=3)→Ev (fun k=>impl_RuleValid.j1 k s n kind b kind cs v) (decide (n≤4) && (if kind=2∨kind=3 then decide (1≤n∧1≤v∧v≤s * s * s * s) else if kind=4 then decide (n=2∧v=0) else if kind=5 then decide (n=2∧0≤v∧v < s) else false)):=by
   rintro b rfl
   refine Ev.step (fun k=>impl_RuleValid.j1.eq_2 _ _ _ _ _ _ _ k) ?_
   by_cases k2:kind=2∨kind=3
   ·simp only [k2,decide_true,if_true,hw]
    by_cases h1:1≤n
    ·have h1':n ≥ 1:=h1
     by_cases h4:n≤4
     ·by_cases hv:1≤v
      ·have hv':v ≥ 1:=hv
       simp only [h1,h1',h4,hv,hv',if_true,true_and,decide_true,Bool.true_and]
       exact Ev.now _
      ·have hv':¬ v ≥ 1:=hv
       simp only [h1,h1',h4,hv,hv',if_true,if_false,true_and,false_and,decide_true,decide_false,Bool.true_and]
       exact Ev.now _
     ·simp only [h1',h4,if_true,if_false,decide_false,Bool.false_and]
      exact Ev.now _
    ·have h1':¬ n ≥ 1:=h1
     simp only [h1,h1',if_false,false_and,decide_false,Bool.and_false]
     exact Ev.now _
   ·simp only [k2,decide_false,if_false,Bool.false_eq_true]
    by_cases k4:kind=4
    ·simp only [k4,if_true]
     by_cases h2:n=2
     ·simp only [h2,if_true,true_and,hvz]
      exact Ev.now _
     ·simp only [h2,if_false,false_and,decide_false,Bool.and_false]
      exact Ev.now _
    ·simp only [k4,if_false]
     by_cases k5:kind=5
     ·simp only [k5,if_true]
      by_cases h2:n=2
      ·by_cases hv:0≤v
       ·have hv':v ≥ 0:=hv
        simp only [h2,hv,hv',if_true,true_and]
        exact Ev.now _
       ·have hv':¬ v ≥ 0:=hv
        simp only [h2,hv,hv',if_true,if_false,true_and,false_and,decide_false,Bool.and_false]
        exact Ev.now _
      ·simp only [h2,if_false,false_and,decide_false,Bool.and_false]
       exact Ev.now _
     ·simp only [k5,if_false,Bool.and_false]
      exact Ev.now _
  by_cases k2:kind=2
  ·have e:(kind == 2)=decide (kind=2∨kind=3):=by simp [k2]
   have:=hj _ e
   simpa only [k2,if_true] using this
  ·have e:(kind == 3)=decide (kind=2∨kind=3):=by
    by_cases k3:kind=3 <;> simp [k2,k3]
   have:=hj _ e
   simp only [k2,if_false]
   simpa only [k2,false_or] using this
theorem implRuleValid_ev (kind:Int)(cs:List Int)(v s:Int)(hl:cs.length≤35184372088832):Ev (fun k=>impl_RuleValid.f k kind cs v s) (ruleB kind cs v s):=by
 unfold impl_RuleValid.f ruleB
 simp only [sizeOk_eq,Option.bind_some]
 by_cases hs:sizeOkB s=true
 ·have ht:wrap64 (s * s)=s * s:=by rcases sizeOkB_iff.1 hs with rfl|rfl|rfl <;> decide +kernel
  simp only [hs,if_true,Bool.true_and]
  have:=Ev.range (σ:=Unit) (L:=fun k _ i=>impl_RuleValid.l0 k s cs (cs.length:Int) i kind cs v) (R:=fun _ _=>goodCells (s * s) cs cs.length && ruleTail kind cs.length v s) (N:=cs.length) (fun _ i=>goodCells (s * s) cs i=true) ?_ ?_ () 0 (Nat.zero_le _) rfl
  ·simpa using this
  ·intro _ hg
   refine Ev.step (fun k=>impl_RuleValid.l0.eq_2 _ _ _ _ _ _ _ k) ?_
   simp only [Int.lt_irrefl,if_false]
   rw [hg,Bool.true_and]
   exact implRuleTail_ev s kind v cs hs
  ·intro _ i hi hg ih
   refine Ev.step (fun k=>impl_RuleValid.l0.eq_2 _ _ _ _ _ _ _ k) ?_
   have h1:(i:Int) < (cs.length:Int):=by omega
   have h0:(0:Int)≤(i:Int):=Int.natCast_nonneg i
   have h2:(i:Int)≤(cs.length:Int):=by omega
   have hbad:goodCells (s * s) cs (i + 1)=false→Ev (fun _:Nat=>some false) (goodCells (s * s) cs cs.length && ruleTail kind cs.length v s):=by
    intro h
    rw [goodCells_le h (by omega:i + 1≤cs.length)]
    exact Ev.now _
   simp only [h1,h0,h2,if_true,ht,Int.toNat_natCast]
   by_cases hc0:rd cs (i:Int) < 0
   ·simp only [hc0,if_true]
    refine hbad ?_
    have hn:¬ (0≤rd cs (i:Int)∧rd cs (i:Int) < s * s):=fun h=>by omega
    rw [goodCells,decide_eq_false hn];simp
   ·simp only [hc0,if_false]
    by_cases hc1:rd cs (i:Int) ≥ s * s
    ·simp only [hc1,if_true]
     refine hbad ?_
     have hn:¬ (0≤rd cs (i:Int)∧rd cs (i:Int) < s * s):=fun h=>by omega
     rw [goodCells,decide_eq_false hn];simp
    ·simp only [hc1,if_false]
     refine Ev.bind (contains_ev _ _ (by rw [List.length_take];omega)) ?_
     by_cases hm:rd cs (i:Int)∈cs.take i
     ·simp only [hm,decide_true,if_true]
      refine hbad ?_
      rw [goodCells,decide_eq_true hm];simp
     ·simp only [hm,decide_false,if_false,Bool.false_eq_true,w64n (by omega:i < 9000000000000000000)]
      refine ih () ?_
      rw [goodCells,hg,decide_eq_true (⟨by omega,by omega⟩:0≤rd cs (i:Int)∧rd cs (i:Int) < s * s),decide_eq_false hm]
      rfl
 ·simp only [hs,if_false,Bool.false_eq_true,Bool.false_and]
  exact Ev.now _

end Go.Proofs.Ythfbjkniinfgcaa.Pure
namespace Go.Proofs.Ythfbjkniinfgcaa.Pure
set_option linter.unusedSimpArgs false
set_option linter.unusedVariables false
open Go.RowKit Go.Proofs.YthfbjkniinfgcaaW.PrintWords Go.Proofs.YthfbjkniinfgcaaW.PrintMore Go.Proofs.Ythfbjkniinfgcaa.P


theorem specRuleTail_ev (s kind v:Int)(cs:List Int)(hs:sizeOkB s=true):Ev (fun k=>spec_RuleValid.j2 k s (cs.length:Int) (decide ((cs.length:Int) > 4)) kind cs v) (ruleTail kind cs.length v s):=by
 have hsz:=sizeOkB_iff.1 hs
 have hw:wrap64 ((wrap64 ((wrap64 (s * s)) * s)) * s)=s * s * s * s:=by rcases hsz with rfl|rfl|rfl <;> decide +kernel
 have hw1:wrap64 (s - 1)=s - 1:=by rcases hsz with rfl|rfl|rfl <;> decide +kernel
 refine Ev.step (fun k=>spec_RuleValid.j2.eq_2 _ _ _ _ _ _ k) ?_
 unfold ruleTail
 by_cases h4:(cs.length:Int) > 4
 ·have h4':¬ (cs.length:Int)≤4:=by omega
  simp only [h4,h4',decide_true,decide_false,if_true,Bool.false_and]
  exact Ev.now _
 ·have h4':(cs.length:Int)≤4:=by omega
  simp only [h4,h4',decide_true,decide_false,if_false,Bool.true_and,Bool.false_eq_true]
  by_cases k1:kind=1
  ·simp only [k1,if_true]
   by_cases h2:(cs.length:Int) ≥ 2
   ·have h2':2≤(cs.length:Int):=h2
    simp only [h2,h2',if_true,true_and]
    by_cases hv:v=0
    ·subst hv;exact Ev.now _
    ·have e1:(v == 0)=false:=by rw [beq_eq_false_iff_ne];exact hv
     simp only [hv,e1,decide_false];exact Ev.now _
   ·have h2':¬ 2≤(cs.length:Int):=h2
    simp only [h2,h2',if_false,false_and,decide_false]
    exact Ev.now _
  ·simp only [k1,if_false]
   have hj:∀ b,b=(decide (kind=2∨kind=3))→Ev (fun k=>spec_RuleValid.j3 k s (cs.length:Int) kind b kind cs v) (if kind=2∨kind=3 then decide (1≤(cs.length:Int)∧1≤v∧v≤s * s * s * s) else if kind=4 then decide ((cs.length:Int)=2∧v=0) else if kind=5 then decide ((cs.length:Int)=2∧0≤v∧v < s) else false):=by
    rintro b rfl
    refine Ev.step (fun k=>spec_RuleValid.j3.eq_2 _ _ _ _ _ _ _ k) ?_
    by_cases k2:kind=2∨kind=3
    ·simp only [k2,decide_true,if_true]
     by_cases h1:(cs.length:Int) ≥ 1
     ·have h1':1≤(cs.length:Int):=h1
      simp only [h1,h1',if_true,true_and,l1In_eq,Option.bind_some,hw]
      exact Ev.now _
     ·have h1':¬ 1≤(cs.length:Int):=h1
      simp only [h1,h1',if_false,false_and,decide_false]
      exact Ev.now _
    ·simp only [k2,decide_false,if_false,Bool.false_eq_true]
     by_cases k4:kind=4
     ·simp only [k4,if_true]
      by_cases h2:(cs.length:Int)=2
      ·simp only [h2,if_true,true_and]
       by_cases hv:v=0
       ·subst hv;exact Ev.now _
       ·have e1:(v == 0)=false:=by rw [beq_eq_false_iff_ne];exact hv
        simp only [hv,e1,decide_false];exact Ev.now _
      ·simp only [h2,if_false,false_and,decide_false]
       exact Ev.now _
     ·simp only [k4,if_false]
      by_cases k5:kind=5
      ·simp only [k5,if_true]
       by_cases h2:(cs.length:Int)=2
       ·have hlt:(v≤s - 1)=(v < s):=by apply propext;omega
        simp only [h2,if_true,true_and,l1In_eq,Option.bind_some,hw1,hlt]
        exact Ev.now _
       ·simp only [h2,if_false,false_and,decide_false]
        exact Ev.now _
      ·simp only [k5,if_false]
       exact Ev.now _
   by_cases k2:kind=2
   ·have e:(kind == 2)=decide (kind=2∨kind=3):=by simp [k2]
    have:=hj _ e
    simpa only [k2,if_true] using this
   ·have e:(kind == 3)=decide (kind=2∨kind=3):=by
     by_cases k3:kind=3 <;> simp [k2,k3]
    have:=hj _ e
    simp only [k2,if_false]
    simpa only [k2,false_or] using this
theorem specRuleValid_ev (kind:Int)(cs:List Int)(v s:Int)(hl:cs.length≤35184372088832):Ev (fun k=>spec_RuleValid.f k kind cs v s) (ruleB kind cs v s):=by
 unfold spec_RuleValid.f ruleB
 have hRf:∀ i,i < cs.length→(sizeOkB s=true→goodCells (s * s) cs (i + 1)=false)→(sizeOkB s && (goodCells (s * s) cs cs.length && ruleTail kind cs.length v s))=false:=by
  intro i hi h
  by_cases hs:sizeOkB s=true
  ·rw [hs,goodCells_le (h hs) (by omega:i + 1≤cs.length)];rfl
  ·rw [eq_false_of_ne_true hs];rfl
 have:=Ev.range (σ:=Unit) (L:=fun k _ i=>spec_RuleValid.l0 k s i kind cs v) (R:=fun _ _=>sizeOkB s && (goodCells (s * s) cs cs.length && ruleTail kind cs.length v s)) (N:=cs.length) (fun _ i=>sizeOkB s=true→goodCells (s * s) cs i=true) ?_ ?_ () 0 (Nat.zero_le _) (fun _=>rfl)
 ·simpa using this
 ·intro _ hg
  refine Ev.step (fun k=>spec_RuleValid.l0.eq_2 _ _ _ _ _ k) ?_
  simp only [Int.lt_irrefl,if_false,l1In_eq,Option.bind_some]
  by_cases hs:sizeOkB s=true
  ·have hs':=hs
   unfold sizeOkB at hs'
   rw [hg hs,hs]
   simp only [hs',if_true,Bool.true_and]
   exact specRuleTail_ev s kind v cs hs
  ·have hs':=eq_false_of_ne_true hs
   rw [hs']
   unfold sizeOkB at hs'
   simp only [hs',Bool.false_eq_true,if_false,Bool.false_and]
   refine Ev.step (fun k=>spec_RuleValid.j2.eq_2 _ _ _ _ _ _ k) ?_
   simp only [if_true]
   exact Ev.now _
 ·intro _ i hi hg ih
  refine Ev.step (fun k=>spec_RuleValid.l0.eq_2 _ _ _ _ _ k) ?_
  have h1:(i:Int) < (cs.length:Int):=by omega
  have h0:(0:Int)≤(i:Int):=Int.natCast_nonneg i
  simp only [h1,h0,if_true,l1In_eq,Option.bind_some]
  by_cases hc:0≤rd cs (i:Int)∧rd cs (i:Int)≤wrap64 ((wrap64 (s * s)) - 1)
  ·simp only [hc,and_self,decide_true,if_true]
   have:=Ev.range (σ:=Unit) (L:=fun k _ j=>spec_RuleValid.l1 k s (i:Int) j kind cs v) (R:=fun _ _=>sizeOkB s && (goodCells (s * s) cs cs.length && ruleTail kind cs.length v s)) (N:=i) (fun _ j=>∀ d,d < j→rd cs (d:Int)≠rd cs (i:Int)) ?_ ?_ () 0 (Nat.zero_le _) (fun d hd=>absurd hd (Nat.not_lt_zero d))
   ·simpa using this
   ·intro _ hno
    refine Ev.step (fun k=>spec_RuleValid.l1.eq_2 _ _ _ _ _ _ k) ?_
    simp only [Int.lt_irrefl,if_false,w64n (by omega:i < 9000000000000000000)]
    refine ih () (fun hs=>?_)
    have ht:wrap64 ((wrap64 (s * s)) - 1)=s * s - 1:=by rcases sizeOkB_iff.1 hs with rfl|rfl|rfl <;> decide +kernel
    rw [ht] at hc
    have hm:¬ rd cs (i:Int)∈cs.take i:=by
     intro hm
     obtain ⟨j,hj,_,he⟩:=mem_take_iff.1 hm
     exact hno j hj he
    rw [goodCells,hg hs,decide_eq_true (⟨hc.1,by omega⟩:0≤rd cs (i:Int)∧rd cs (i:Int) < s * s),decide_eq_false hm]
    rfl
   ·intro _ j hj hno ihj
    refine Ev.step (fun k=>spec_RuleValid.l1.eq_2 _ _ _ _ _ _ k) ?_
    have h2:(j:Int) < (i:Int):=by omega
    have h3:(0:Int)≤(j:Int):=Int.natCast_nonneg j
    have h4:(j:Int) < (cs.length:Int):=by omega
    simp only [h2,h3,h4,h1,h0,if_true,w64n (by omega:j < 9000000000000000000)]
    by_cases he:rd cs (j:Int)=rd cs (i:Int)
    ·simp only [he,if_true]
     rw [hRf i hi (fun hs=>by
      have hm:rd cs (i:Int)∈cs.take i:=mem_take_iff.2 ⟨j,hj,by omega,he⟩
      rw [goodCells,decide_eq_true hm];simp)]
     exact Ev.now _
    ·simp only [he,if_false]
     refine ihj () (fun d hd=>?_)
     by_cases hdj:d=j
     ·rw [hdj];exact he
     ·exact hno d (by omega)
  ·simp only [hc,decide_false,if_false,Bool.false_eq_true]
   rw [hRf i hi (fun hs=>by
    have ht:wrap64 ((wrap64 (s * s)) - 1)=s * s - 1:=by rcases sizeOkB_iff.1 hs with rfl|rfl|rfl <;> decide +kernel
    rw [ht] at hc
    have hn:¬ (0≤rd cs (i:Int)∧rd cs (i:Int) < s * s):=fun h=>hc ⟨h.1,by omega⟩
    rw [goodCells,decide_eq_false hn];simp)]
   exact Ev.now _

end Go.Proofs.Ythfbjkniinfgcaa.Pure
namespace Go.Proofs.Ythfbjkniinfgcaa.Pure
set_option linter.unusedSimpArgs false
set_option linter.unusedVariables false
open Go.RowKit Go.Proofs.YthfbjkniinfgcaaW.PrintWords Go.Proofs.YthfbjkniinfgcaaW.PrintMore Go.Proofs.Ythfbjkniinfgcaa.P


theorem goodCells_prev {t:Int}{cs:List Int}{n:Nat}(h:goodCells t cs (n + 1)=true):goodCells t cs n=true:=by
 unfold goodCells at h;simp only [Bool.and_eq_true] at h;exact h.1
theorem goodCells_at {t:Int}{cs:List Int}:∀ {n:Nat},goodCells t cs n=true→∀ i,i < n→0≤rd cs (i:Int)∧rd cs (i:Int) < t
 | 0,_,i,hi=>absurd hi (Nat.not_lt_zero i)
 | n + 1,h,i,hi=>by
  by_cases hin:i < n
  ·exact goodCells_at (goodCells_prev h) i hin
  ·obtain rfl:i=n:=by omega
   unfold goodCells at h
   simp only [Bool.and_eq_true,decide_eq_true_eq] at h
   exact h.2.1
def sumP (l:List Int):Nat→Int
 | 0=>0
 | n + 1=>sumP l n + rd l (n:Int)
def prodP (l:List Int):Nat→Int
 | 0=>1
 | n + 1=>prodP l n * rd l (n:Int)
def neP (l:List Int)(i:Nat):Nat→Bool
 | 0=>true
 | j + 1=>neP l i j && (rd l (j:Int) != rd l (i:Int))
def nodupP (l:List Int):Nat→Bool
 | 0=>true
 | n + 1=>nodupP l n && neP l n n
theorem sumP_le {l:List Int}(h:∀ x∈l,0≤x∧x≤4):∀ n,n≤l.length→0≤sumP l n∧sumP l n≤4 * (n:Int)
 | 0,_=>by unfold sumP;omega
 | n + 1,hn=>by
  have ih:=sumP_le h n (by omega)
  have hx:=h _ (rd_mem (g:=l) (i:=(n:Int)) (by omega) (by omega))
  unfold sumP;omega
theorem prodP_le {l:List Int}(h:∀ x∈l,0≤x∧x≤4):∀ n,n≤l.length→0≤prodP l n∧prodP l n≤4 ^ n
 | 0,_=>by unfold prodP;decide
 | n + 1,hn=>by
  have ih:=prodP_le h n (by omega)
  have hx:=h _ (rd_mem (g:=l) (i:=(n:Int)) (by omega) (by omega))
  unfold prodP
  refine ⟨Int.mul_nonneg ih.1 hx.1,?_⟩
  rw [Int.pow_succ]
  exact Int.mul_le_mul ih.2 hx.2 hx.1 (Int.le_trans ih.1 ih.2)
theorem prodP_small {l:List Int}(h:∀ x∈l,0≤x∧x≤4){n:Nat}(hn:n≤l.length)(h4:n≤4):0≤prodP l n∧prodP l n≤256:=by
 have:=prodP_le h n hn
 have hc:n=0∨n=1∨n=2∨n=3∨n=4:=by omega
 refine ⟨this.1,Int.le_trans this.2 ?_⟩
 rcases hc with rfl|rfl|rfl|rfl|rfl <;> decide
theorem neP_iff {l:List Int}{i:Nat}:∀ j,j≤l.length→(neP l i j=true↔∀ d,d < j→rd l (d:Int)≠rd l (i:Int))
 | 0,_=>⟨fun _ d hd=>absurd hd (Nat.not_lt_zero d),fun _=>rfl⟩
 | j + 1,hj=>by
  unfold neP
  rw [Bool.and_eq_true,neP_iff j (by omega),bne_iff_ne]
  constructor
  ·rintro ⟨h1,h2⟩ d hd
   by_cases hdj:d=j
   ·rw [hdj];exact h2
   ·exact h1 d (by omega)
  ·exact fun h=>⟨fun d hd=>h d (by omega),h j (by omega)⟩
theorem neP_mem {l:List Int}{i:Nat}(hi:i < l.length):neP l i i= !decide (rd l (i:Int)∈l.take i):=by
 by_cases hm:rd l (i:Int)∈l.take i
 ·rw [decide_eq_true hm]
  obtain ⟨j,hj,_,he⟩:=mem_take_iff.1 hm
  refine eq_false_of_ne_true (fun h=>?_)
  exact (neP_iff i (by omega)).1 h j hj he
 ·rw [decide_eq_false hm]
  refine (neP_iff i (by omega)).2 (fun d hd he=>hm (mem_take_iff.2 ⟨d,hd,by omega,he⟩))
theorem nodupP_le {l:List Int}{n:Nat}(h:nodupP l n=false):∀ d,nodupP l (n + d)=false
 | 0=>h
 | d + 1=>by rw [show n + (d + 1)=(n + d) + 1 from rfl,nodupP,nodupP_le h d];rfl
def holdsB (kind v:Int)(l:List Int):Bool:=if kind=1 then nodupP l l.length else if kind=2 then sumP l l.length == v else if kind=3 then prodP l l.length == v else if kind=4 then decide (rd l 0 < rd l 1) else mx (rd l 0 - rd l 1) (rd l 1 - rd l 0) == v
def ValsOK (kind:Int)(l:List Int):Prop:=l.length≤4∧(∀ x∈l,0≤x∧x≤4)∧1≤kind∧kind≤5∧(4≤kind→l.length=2)
theorem l4Holds_ev {kind v:Int}{cs l:List Int}(h:ValsOK kind l):Ev (fun k=>spec_l4Holds.f k kind cs v l) (holdsB kind v l):=by
 obtain ⟨h4,hx,hk1,hk5,hk2⟩:=h
 unfold spec_l4Holds.f
 have:=Ev.range (L:=fun k (p:Int × Int × Bool) i=>spec_l4Holds.l0 k l p.1 p.2.1 p.2.2 i kind cs v) (R:=fun _ _=>holdsB kind v l) (N:=l.length) (fun p i=>p=(sumP l i,prodP l i,nodupP l i)) ?_ ?_ (0,1,true) 0 (Nat.zero_le _) rfl
 ·simpa using this
 ·rintro p rfl
  refine Ev.step (fun k=>spec_l4Holds.l0.eq_2 _ _ _ _ _ _ _ _ k) ?_
  unfold holdsB
  simp only [Int.lt_irrefl,if_false]
  by_cases k1:kind=1
  ·simp only [k1,if_true];exact Ev.now _
  ·by_cases k2:kind=2
   ·simp only [k1,k2,if_true,if_false];exact Ev.now _
   ·by_cases k3:kind=3
    ·simp only [k1,k2,k3,if_true,if_false];exact Ev.now _
    ·have hl2:l.length=2:=hk2 (by omega)
     have e0:(0:Int) < (l.length:Int):=by omega
     have e1:(1:Int) < (l.length:Int):=by omega
     have hr0:=hx _ (rd_mem (g:=l) (i:=0) (by decide) e0)
     have hr1:=hx _ (rd_mem (g:=l) (i:=1) (by decide) e1)
     have w1:wrap64 (rd l 0 - rd l 1)=rd l 0 - rd l 1:=by unfold wrap64;omega
     have w2:wrap64 (-(rd l 0 - rd l 1))=rd l 1 - rd l 0:=by unfold wrap64;omega
     by_cases k4:kind=4
     ·simp only [k1,k2,k3,k4,e0,e1,if_true,if_false];exact Ev.now _
     ·simp only [k1,k2,k3,k4,e0,e1,if_true,if_false,w1,w2];exact Ev.now _
 ·rintro p i hi rfl ih
  refine Ev.step (fun k=>spec_l4Holds.l0.eq_2 _ _ _ _ _ _ _ _ k) ?_
  have h1:(i:Int) < (l.length:Int):=by omega
  have h0:(0:Int)≤(i:Int):=Int.natCast_nonneg i
  have hs:=sumP_le hx (i + 1) (by omega)
  have hp:=prodP_small hx (n:=i + 1) (by omega) (by omega)
  have ws:wrap64 (sumP l i + rd l (i:Int))=sumP l (i + 1):=by
   rw [show sumP l i + rd l (i:Int)=sumP l (i + 1) from rfl];exact w64 (by omega) (by omega)
  have wp:wrap64 (prodP l i * rd l (i:Int))=prodP l (i + 1):=by
   rw [show prodP l i * rd l (i:Int)=prodP l (i + 1) from rfl];exact w64 (by omega) (by omega)
  simp only [h1,h0,if_true,ws,wp]
  clear hs hp ws wp
  have:=Ev.range (L:=fun k (b:Bool) j=>spec_l4Holds.l1 k l (sumP l (i + 1)) (prodP l (i + 1)) b (i:Int) j kind cs v) (R:=fun _ _=>holdsB kind v l) (N:=i) (fun b j=>b=(nodupP l i && neP l i j)) ?_ ?_ (nodupP l i) 0 (Nat.zero_le _) (by simp [neP])
  ·simpa using this
  ·rintro b rfl
   refine Ev.step (fun k=>spec_l4Holds.l1.eq_2 _ _ _ _ _ _ _ _ _ k) ?_
   simp only [Int.lt_irrefl,if_false,w64n (by omega:i < 9000000000000000000)]
   exact ih (_,_,_) rfl
  ·rintro b j hj hb ihj
   refine Ev.step (fun k=>spec_l4Holds.l1.eq_2 _ _ _ _ _ _ _ _ _ k) ?_
   have h2:(j:Int) < (i:Int):=by omega
   have h3:(j:Int) < (l.length:Int):=by omega
   have h5:(0:Int)≤(j:Int):=Int.natCast_nonneg j
   simp only [h2,h3,h5,h1,h0,if_true,w64n (by omega:j < 9000000000000000000)]
   cases b with
   | true =>
    simp only [if_true]
    refine ihj _ ?_
    rw [neP,← Bool.and_assoc,← hb,Bool.true_and]
   | false =>
    simp only [Bool.false_eq_true,if_false]
    refine ihj _ ?_
    rw [neP,← Bool.and_assoc,← hb,Bool.false_and]
theorem valuesHold_ev {kind v:Int}{cs l:List Int}(h:ValsOK kind l):Ev (fun k=>impl_valuesHold.f k kind cs v l) (holdsB kind v l):=by
 obtain ⟨h4,hx,hk1,hk5,hk2⟩:=h
 unfold impl_valuesHold.f
 have:=Ev.range (L:=fun k (p:Int × Int) i=>impl_valuesHold.l0 k l p.1 p.2 l (l.length:Int) i kind cs v) (R:=fun _ _=>holdsB kind v l) (N:=l.length) (fun p i=>p=(sumP l i,prodP l i)∧(kind=1→nodupP l i=true)) ?_ ?_ (0,1) 0 (Nat.zero_le _) ⟨rfl,fun _=>rfl⟩
 ·simpa using this
 ·rintro p ⟨rfl,hd⟩
  refine Ev.step (fun k=>impl_valuesHold.l0.eq_2 _ _ _ _ _ _ _ _ _ k) ?_
  unfold holdsB
  simp only [Int.lt_irrefl,if_false]
  by_cases k1:kind=1
  ·have k2:¬ kind=2:=by omega
   have k3:¬ kind=3:=by omega
   have k4:¬ kind=4:=by omega
   have k5:¬ kind=5:=by omega
   simp only [k2,k3,k4,k5,if_false]
   rw [if_pos k1,hd k1]
   exact Ev.now _
  ·by_cases k2:kind=2
   ·simp only [k1,k2,if_true,if_false];exact Ev.now _
   ·by_cases k3:kind=3
    ·simp only [k1,k2,k3,if_true,if_false];exact Ev.now _
    ·have hl2:l.length=2:=hk2 (by omega)
     have e0:(0:Int) < (l.length:Int):=by omega
     have e1:(1:Int) < (l.length:Int):=by omega
     have hr0:=hx _ (rd_mem (g:=l) (i:=0) (by decide) e0)
     have hr1:=hx _ (rd_mem (g:=l) (i:=1) (by decide) e1)
     have w1:wrap64 (rd l 0 - rd l 1)=rd l 0 - rd l 1:=by unfold wrap64;omega
     have w2:wrap64 (rd l 1 - rd l 0)=rd l 1 - rd l 0:=by unfold wrap64;omega
     by_cases k4:kind=4
     ·simp only [k1,k2,k3,k4,e0,e1,if_true,if_false];exact Ev.now _
     ·have k5:kind=5:=by omega
      simp only [k1,k2,k3,k4,e0,e1,if_true,if_false,w1,w2]
      simp only [k5,if_true]
      exact Ev.now _
 ·rintro p i hi ⟨rfl,hd⟩ ih
  refine Ev.step (fun k=>impl_valuesHold.l0.eq_2 _ _ _ _ _ _ _ _ _ k) ?_
  have h1:(i:Int) < (l.length:Int):=by omega
  have h2:(i:Int)≤(l.length:Int):=by omega
  have h0:(0:Int)≤(i:Int):=Int.natCast_nonneg i
  have hs:=sumP_le hx (i + 1) (by omega)
  have hp:=prodP_small hx (n:=i + 1) (by omega) (by omega)
  have ws:wrap64 (sumP l i + rd l (i:Int))=sumP l (i + 1):=by
   rw [show sumP l i + rd l (i:Int)=sumP l (i + 1) from rfl];exact w64 (by omega) (by omega)
  have wp:wrap64 (prodP l i * rd l (i:Int))=prodP l (i + 1):=by
   rw [show prodP l i * rd l (i:Int)=prodP l (i + 1) from rfl];exact w64 (by omega) (by omega)
  simp only [h1,h2,h0,if_true,ws,wp,Int.toNat_natCast,w64n (by omega:i < 9000000000000000000)]
  clear hs hp ws wp
  by_cases k1:kind=1
  ·simp only [k1,if_true]
   refine Ev.bind (contains_ev _ _ (by rw [List.length_take];omega)) ?_
   by_cases hm:rd l (i:Int)∈l.take i
   ·simp only [hm,decide_true,if_true]
    have hf:nodupP l (i + 1)=false:=by rw [nodupP,neP_mem hi,decide_eq_true hm];simp
    have:holdsB 1 v l=false:=by
     unfold holdsB
     obtain ⟨d,hd'⟩:∃ d,l.length=(i + 1) + d:=⟨l.length - (i + 1),by omega⟩
     rw [if_pos rfl,hd']
     exact nodupP_le hf d
    rw [this]
    exact Ev.now _
   ·simp only [hm,decide_false,if_false,Bool.false_eq_true]
    have:=ih (_,_) ⟨rfl,fun _=>by rw [nodupP,neP_mem hi,decide_eq_false hm,hd k1];rfl⟩
    rw [k1] at this
    exact this
  ·simp only [k1,if_false]
   exact ih (_,_) ⟨rfl,fun h=>absurd h k1⟩

end Go.Proofs.Ythfbjkniinfgcaa.Pure
namespace Go.Proofs.Ythfbjkniinfgcaa.Pure
set_option linter.unusedSimpArgs false
set_option linter.unusedVariables false
open Go.RowKit Go.Proofs.YthfbjkniinfgcaaW.PrintWords Go.Proofs.YthfbjkniinfgcaaW.PrintMore Go.Proofs.Ythfbjkniinfgcaa.P


def mvals (m:Int):List Int:=if 0≤m∧m≤30∧m % 2=0 then [1,2,3,4].filter (fun v=>decide ((m / 2 ^ v.toNat) % 2=1)) else []

end Go.Proofs.Ythfbjkniinfgcaa.Pure
namespace Go.Proofs.Ythfbjkniinfgcaa.Pure
set_option linter.unusedSimpArgs false
set_option linter.unusedVariables false
open Go.RowKit Go.Proofs.YthfbjkniinfgcaaW.PrintWords Go.Proofs.YthfbjkniinfgcaaW.PrintMore Go.Proofs.Ythfbjkniinfgcaa.P


def ruleHolds (kind:Int)(cs:List Int)(v:Int)(g:List Int)(s:Int):Bool:=ruleB kind cs v s && (gridB g s && ((cs.map (fun c=>rd g c)).all (fun x=>decide (x≠0)) && holdsB kind v (cs.map (fun c=>rd g c))))
theorem ruleB_parts {kind:Int}{cs:List Int}{v s:Int}(h:ruleB kind cs v s=true):sizeOkB s=true∧goodCells (s * s) cs cs.length=true∧cs.length≤4∧1≤kind∧kind≤5∧(4≤kind→cs.length=2):=by
 unfold ruleB ruleTail at h
 simp only [Bool.and_eq_true,decide_eq_true_eq] at h
 obtain ⟨h1,h2,h3,h4⟩:=h
 refine ⟨h1,h2,by omega,?_⟩
 by_cases k1:kind=1
 ·omega
 ·rw [if_neg k1] at h4
  by_cases k2:kind=2∨kind=3
  ·omega
  ·rw [if_neg k2] at h4
   by_cases k4:kind=4
   ·rw [if_pos k4] at h4
    simp only [decide_eq_true_eq] at h4
    omega
   ·rw [if_neg k4] at h4
    by_cases k5:kind=5
    ·rw [if_pos k5] at h4
     simp only [decide_eq_true_eq] at h4
     omega
    ·rw [if_neg k5] at h4;cases h4
theorem cell_mem {t:Int}{cs:List Int}(h:goodCells t cs cs.length=true):∀ c∈cs,0≤c∧c < t:=by
 intro c hc
 obtain ⟨i,hi,he⟩:=List.mem_iff_getElem.1 hc
 have:=goodCells_at h i hi
 rw [rd_lt hi,he] at this
 exact this
theorem valsOK {kind:Int}{cs:List Int}{v s:Int}{g:List Int}(h:ruleB kind cs v s=true)(hg:gridB g s=true):ValsOK kind (cs.map (fun c=>rd g c)):=by
 obtain ⟨hs,hc,h4,hk1,hk5,hk2⟩:=ruleB_parts h
 refine ⟨by rw [List.length_map];exact h4,fun x hx=>?_,hk1,hk5,fun h=>by rw [List.length_map];exact hk2 h⟩
 obtain ⟨c,hcm,rfl⟩:=List.mem_map.1 hx
 have hb:=cell_mem hc c hcm
 have hl:=gridB_len hg
 exact val_le hg (rd_mem hb.1 (by omega))
theorem vals_zero {cs g:List Int}{i:Nat}(hi:i < cs.length)(h:rd g (rd cs (i:Int))=0):(cs.map (fun c=>rd g c)).all (fun x=>decide (x≠0))=false:=by
 rw [List.all_eq_false]
 refine ⟨rd g (rd cs (i:Int)),List.mem_map.2 ⟨rd cs (i:Int),rd_mem (by omega) (by omega),rfl⟩,?_⟩
 simp [h]
theorem specRuleHolds_ev (kind:Int)(cs:List Int)(v:Int)(g:List Int)(s:Int)(hl:cs.length≤35184372088832)(hgl:g.length≤35184372088832):Ev (fun k=>spec_RuleHolds.f k kind cs v g s) (ruleHolds kind cs v g s):=by
 unfold spec_RuleHolds.f ruleHolds
 refine Ev.bind (specRuleValid_ev kind cs v s hl) ?_
 have hj:Ev (fun k=>spec_RuleHolds.j0 k g true kind cs v) false:=by
  refine Ev.step (fun k=>spec_RuleHolds.j0.eq_2 _ _ _ _ _ k) ?_
  simp only [if_true];exact Ev.now _
 by_cases hr:ruleB kind cs v s=true
 ·simp only [hr,if_true,Bool.true_and]
  refine Ev.bind (specGridValid_ev g s hgl) ?_
  by_cases hg:gridB g s=true
  ·simp only [hg,Bool.not_true,Bool.true_and]
   refine Ev.step (fun k=>spec_RuleHolds.j0.eq_2 _ _ _ _ _ k) ?_
   simp only [Bool.false_eq_true,if_false]
   have hcm:=cell_mem (ruleB_parts hr).2.1
   have h4:=(ruleB_parts hr).2.2.1
   have hgl2:=gridB_len hg
   have:=Ev.range (L:=fun k (x:List Int) i=>spec_RuleHolds.l0 k g x i kind cs v) (R:=fun _ _=>(cs.map (fun c=>rd g c)).all (fun x=>decide (x≠0)) && holdsB kind v (cs.map (fun c=>rd g c))) (N:=cs.length) (fun x i=>x=(cs.take i).map (fun c=>rd g c)∧x.all (fun x=>decide (x≠0))=true) ?_ ?_ [] 0 (Nat.zero_le _) ⟨rfl,rfl⟩
   ·simpa using this
   ·rintro x ⟨rfl,hz⟩
    refine Ev.step (fun k=>spec_RuleHolds.l0.eq_2 _ _ _ _ _ _ k) ?_
    rw [List.take_length] at hz ⊢
    simp only [Int.lt_irrefl,if_false]
    rw [hz,Bool.true_and]
    exact Ev.bind (l4Holds_ev (valsOK hr hg)) (Ev.now _)
   ·rintro x i hi ⟨rfl,hz⟩ ih
    refine Ev.step (fun k=>spec_RuleHolds.l0.eq_2 _ _ _ _ _ _ k) ?_
    have h1:(i:Int) < (cs.length:Int):=by omega
    have h0:(0:Int)≤(i:Int):=Int.natCast_nonneg i
    have hc:=hcm _ (rd_mem h0 h1)
    have hc1:rd cs (i:Int) < (g.length:Int):=by omega
    have hlen:((cs.take i).map (fun c=>rd g c)).length < 17592186044416:=by rw [List.length_map,List.length_take];omega
    simp only [h1,h0,hc.1,hc1,hlen,if_true,w64n (by omega:i < 9000000000000000000)]
    by_cases hz0:rd g (rd cs (i:Int))=0
    ·simp only [hz0,if_true]
     rw [vals_zero hi hz0]
     exact Ev.now _
    ·simp only [hz0,if_false]
     refine ih _ ⟨?_,?_⟩
     ·rw [List.take_succ_eq_append_getElem hi,List.map_append,List.map_singleton,rd_lt hi]
     ·rw [List.all_append,hz];simp [hz0]
  ·simp only [hg,Bool.not_false,Bool.false_and]
   exact hj
 ·simp only [hr,if_false,Bool.false_eq_true,Bool.false_and]
  exact hj
theorem implRuleHolds_ev (kind:Int)(cs:List Int)(v:Int)(g:List Int)(s:Int)(hl:cs.length≤35184372088832)(hgl:g.length≤35184372088832):Ev (fun k=>impl_RuleHolds.f k kind cs v g s) (ruleHolds kind cs v g s):=by
 unfold impl_RuleHolds.f ruleHolds
 refine Ev.bind (implRuleValid_ev kind cs v s hl) ?_
 have hj:Ev (fun k=>impl_RuleHolds.j0 k g true kind cs v) false:=by
  refine Ev.step (fun k=>impl_RuleHolds.j0.eq_2 _ _ _ _ _ k) ?_
  simp only [if_true];exact Ev.now _
 by_cases hr:ruleB kind cs v s=true
 ·simp only [hr,if_true,Bool.true_and]
  refine Ev.bind (implGridValid_ev g s hgl) ?_
  by_cases hg:gridB g s=true
  ·simp only [hg,Bool.not_true,Bool.true_and]
   refine Ev.step (fun k=>impl_RuleHolds.j0.eq_2 _ _ _ _ _ k) ?_
   simp only [Bool.false_eq_true,if_false]
   have hcm:=cell_mem (ruleB_parts hr).2.1
   have h4:=(ruleB_parts hr).2.2.1
   have hgl2:=gridB_len hg
   have:=Ev.range (L:=fun k (x:List Int) i=>impl_RuleHolds.l0 k g x cs (cs.length:Int) i kind cs v) (R:=fun _ _=>(cs.map (fun c=>rd g c)).all (fun x=>decide (x≠0)) && holdsB kind v (cs.map (fun c=>rd g c))) (N:=cs.length) (fun x i=>x=(cs.take i).map (fun c=>rd g c)∧x.all (fun x=>decide (x≠0))=true) ?_ ?_ [] 0 (Nat.zero_le _) ⟨rfl,rfl⟩
   ·simpa using this
   ·rintro x ⟨rfl,hz⟩
    refine Ev.step (fun k=>impl_RuleHolds.l0.eq_2 _ _ _ _ _ _ _ _ k) ?_
    rw [List.take_length] at hz ⊢
    simp only [Int.lt_irrefl,if_false]
    rw [hz,Bool.true_and]
    exact Ev.bind (valuesHold_ev (valsOK hr hg)) (Ev.now _)
   ·rintro x i hi ⟨rfl,hz⟩ ih
    refine Ev.step (fun k=>impl_RuleHolds.l0.eq_2 _ _ _ _ _ _ _ _ k) ?_
    have h1:(i:Int) < (cs.length:Int):=by omega
    have h0:(0:Int)≤(i:Int):=Int.natCast_nonneg i
    have hc:=hcm _ (rd_mem h0 h1)
    have hc1:rd cs (i:Int) < (g.length:Int):=by omega
    have hlen:((cs.take i).map (fun c=>rd g c)).length < 17592186044416:=by rw [List.length_map,List.length_take];omega
    simp only [h1,h0,hc.1,hc1,hlen,if_true,w64n (by omega:i < 9000000000000000000)]
    by_cases hz0:rd g (rd cs (i:Int))=0
    ·simp only [hz0,if_true]
     rw [vals_zero hi hz0]
     exact Ev.now _
    ·simp only [hz0,if_false]
     refine ih _ ⟨?_,?_⟩
     ·rw [List.take_succ_eq_append_getElem hi,List.map_append,List.map_singleton,rd_lt hi]
     ·rw [List.all_append,hz];simp [hz0]
  ·simp only [hg,Bool.not_false,Bool.false_and]
   exact hj
 ·simp only [hr,if_false,Bool.false_eq_true,Bool.false_and]
  exact hj

end Go.Proofs.Ythfbjkniinfgcaa.Pure
namespace Go.Proofs.Ythfbjkniinfgcaa.Pure
set_option linter.unusedSimpArgs false
set_option linter.unusedVariables false
open Go.RowKit Go.Proofs.YthfbjkniinfgcaaW.PrintWords Go.Proofs.YthfbjkniinfgcaaW.PrintMore


def orP (vals:List Int):Nat→Int→List Int→List Int
 | 0,_,out=>out
 | d + 1,i,out=>orP vals d (i + 1) (out.set i.toNat (Go.bits .or .i64 (rd out i) (shl .i64 1 (rd vals i))))
def waysM (kind v:Int)(own:List Int):Nat→List Int→List Int→List Int
 | 0,pre,out=>if holdsB kind v pre=true then orP pre pre.length 0 out else out
 | d + 1,pre,out=>(mvals (rd own (pre.length:Nat))).foldl (fun o x=>waysM kind v own d (pre ++ [x]) o) out
theorem orP_len (vals:List Int):∀ (d:Nat) (i:Int) (out:List Int),(orP vals d i out).length=out.length
 | 0,_,_=>rfl
 | d + 1,i,out=>by unfold orP;rw [orP_len vals d,List.length_set]
theorem foldl_len {f:List Int→Int→List Int}(h:∀ o x,(f o x).length=o.length):∀ (l:List Int) (o:List Int),(l.foldl f o).length=o.length
 | [],_=>rfl
 | x :: l,o=>by rw [List.foldl_cons,foldl_len h l,h]
theorem waysM_len (kind v:Int)(own:List Int):∀ (d:Nat) (pre out:List Int),(waysM kind v own d pre out).length=out.length
 | 0,pre,out=>by
  unfold waysM;split
  ·exact orP_len _ _ _ _
  ·rfl
 | d + 1,pre,out=>by
  unfold waysM
  exact foldl_len (fun o x=>waysM_len kind v own d _ o) _ _
theorem mvals_range {m x:Int}(h:x∈mvals m):1≤x∧x≤4:=by
 unfold mvals at h
 split at h
 ·have:=(List.mem_filter.1 h).1
  simp at this
  omega
 ·cases h
def ruleMasks (kind:Int)(cs:List Int)(v:Int)(masks:List Int)(s:Int):List Int:=if ruleB kind cs v s=true∧masksB masks s=true then waysM kind v (cs.map (fun c=>rd masks c)) cs.length [] (List.replicate cs.length 0) else []
theorem ruleB_len {kind:Int}{cs:List Int}{v s:Int}(h:ruleB kind cs v s=true):1≤cs.length∧cs.length≤4:=by
 have h4:=(ruleB_parts h).2.2.1
 unfold ruleB ruleTail at h
 simp only [Bool.and_eq_true,decide_eq_true_eq] at h
 refine ⟨?_,h4⟩
 have h2:=h.2.2.2
 split at h2
 ·simp only [decide_eq_true_eq] at h2;omega
 ·split at h2
  ·simp only [decide_eq_true_eq] at h2;omega
  ·split at h2
   ·simp only [decide_eq_true_eq] at h2;omega
   ·split at h2
    ·simp only [decide_eq_true_eq] at h2;omega
    ·cases h2
theorem ruleMasks_lenEq {kind:Int}{cs:List Int}{v:Int}{masks:List Int}{s:Int}(h:ruleB kind cs v s=true∧masksB masks s=true):(ruleMasks kind cs v masks s).length=cs.length:=by
 unfold ruleMasks;rw [if_pos h,waysM_len,List.length_replicate]
def KindOK (kind:Int)(n:Nat):Prop:=n≤4∧1≤kind∧kind≤5∧(4≤kind→n=2)
theorem kindOK_rule {kind:Int}{cs:List Int}{v s:Int}(h:ruleB kind cs v s=true):KindOK kind cs.length:=by
 obtain ⟨_,_,h1,h2,h3,h4⟩:=ruleB_parts h
 exact ⟨h1,h2,h3,h4⟩
theorem KindOK.vals {kind:Int}{n:Nat}(h:KindOK kind n){l:List Int}(hl:l.length=n)(hv:∀ x∈l,0≤x∧x≤4):ValsOK kind l:=by
 obtain ⟨h1,h2,h3,h4⟩:=h
 exact ⟨by omega,hv,h2,h3,fun h=>by rw [hl];exact h4 h⟩

end Go.Proofs.Ythfbjkniinfgcaa.Pure
namespace Go.Proofs.Ythfbjkniinfgcaa.Pure
set_option linter.unusedSimpArgs false
set_option linter.unusedVariables false
open Go.RowKit Go.Proofs.YthfbjkniinfgcaaW.PrintWords Go.Proofs.YthfbjkniinfgcaaW.PrintMore Go.Proofs.Ythfbjkniinfgcaa.P

theorem rule_cells {kind:Int}{cs:List Int}{v s:Int}{g:List Int}(h:ruleB kind cs v s=true)(hl:(g.length:Int)=s * s):∀ c∈cs,0≤c∧c < (g.length:Int):=by
 rw [hl];exact cell_mem (ruleB_parts h).2.1

end Go.Proofs.Ythfbjkniinfgcaa.Pure
namespace Go.Proofs.Ythfbjkniinfgcaa.Pure
set_option linter.unusedSimpArgs false
set_option linter.unusedVariables false
open Go.RowKit Go.Proofs.YthfbjkniinfgcaaW.PrintWords Go.Proofs.YthfbjkniinfgcaaW.PrintMore Go.Proofs.Ythfbjkniinfgcaa.P


theorem mvals_marks {m:Int}(h:0≤m∧m≤30∧m % 2=0):mvals m=(marks 1 4).filter (fun x=>has m x):=by
 unfold mvals;rw [if_pos h];rfl
theorem orFrom_eq (vals:List Int):∀ (d:Nat) (i:Int) (out:List Int),impl_ruleMasks.orFrom vals d i out=orP vals d i out
 | 0,_,_=>rfl
 | d + 1,i,out=>by unfold impl_ruleMasks.orFrom orP;exact orFrom_eq vals d _ _
theorem tryV_ev {n i:Nat}{m:Int}(hm:0≤m∧m≤30∧m % 2=0)(hi:i < n)(F:Nat→List Int→List Int→Option (List Int × List Int))(G:List Int→List Int→List Int)(hG:∀ p o,(G p o).length=o.length)
  (hF:∀ vals out,vals.length=n→out.length=n→(∀ x∈vals,0≤x∧x≤4)→∃ vals',vals'.length=n∧vals'.take (i + 1)=vals.take (i + 1)∧(∀ x∈vals',0≤x∧x≤4)∧Ev (fun k=>F k vals out) (vals',G (vals.take (i + 1)) out)) :
  ∀ (q:Nat) (x:Int) (vals out:List Int),1≤x→x + (q:Int)≤5→vals.length=n→out.length=n→(∀ y∈vals,0≤y∧y≤4)→∃ vals',vals'.length=n∧vals'.take i=vals.take i∧(∀ y∈vals',0≤y∧y≤4)∧Ev (fun k=>impl_ruleMasks.tryV (F k) m i q x vals out) (vals',((marks x q).filter (fun y=>has m y)).foldl (fun o y=>G (vals.take i ++ [y]) o) out)
 | 0,x,vals,out,_,_,hv,ho,hr=>⟨vals,hv,rfl,hr,by unfold impl_ruleMasks.tryV marks;exact Ev.now _⟩
 | q + 1,x,vals,out,hx,hx5,hv,ho,hr=>by
  have ha:=has_and ⟨hm.1,hm.2.1⟩ (v:=x) (by omega)
  unfold marks
  by_cases hh:has m x=true
  ·have hset:((vals.set i x).take (i + 1))=vals.take i ++ [x]:=take_set_succ (by omega) x
   obtain ⟨v1,a1,a2,a3,a4⟩:=hF (vals.set i x) out (by rw [List.length_set];exact hv) ho (fun y hy=>by
    rcases List.mem_or_eq_of_mem_set hy with hy|rfl
    ·exact hr y hy
    ·omega)
   rw [hset] at a2 a4
   have t1:v1.take i=vals.take i:=by
    have e:=congrArg (List.take i) a2
    rw [List.take_take,Nat.min_eq_left (by omega),List.take_append_of_le_length (by rw [List.length_take];omega),List.take_take,Nat.min_self] at e
    exact e
   obtain ⟨v2,b1,b2,b3,b4⟩:=tryV_ev hm hi F G hG hF q (x + 1) v1 (G (vals.take i ++ [x]) out) (by omega) (by omega) a1 (by rw [hG];exact ho) a3
   refine ⟨v2,b1,by rw [b2,t1],b3,?_⟩
   unfold impl_ruleMasks.tryV
   have hc:Go.bits .and .i64 (shr .i64 m x) 1=1:=by rw [ha,if_pos hh]
   simp only [hc,if_true]
   rw [List.filter_cons_of_pos hh,List.foldl_cons]
   refine Ev.bind a4 ?_
   rw [t1] at b4
   exact b4
  ·obtain ⟨v2,b1,b2,b3,b4⟩:=tryV_ev hm hi F G hG hF q (x + 1) vals out (by omega) (by omega) hv ho hr
   refine ⟨v2,b1,b2,b3,?_⟩
   unfold impl_ruleMasks.tryV
   have hc:¬ Go.bits .and .i64 (shr .i64 m x) 1=1:=by rw [ha,if_neg hh];decide
   simp only [hc,if_false]
   rw [List.filter_cons_of_neg hh]
   exact b4
theorem try_ev {kind v:Int}{cs own:List Int}(hk:KindOK kind own.length)(hown:∀ m∈own,0≤m∧m≤30∧m % 2=0):∀ (d:Nat) (vals out:List Int),d≤own.length→vals.length=own.length→out.length=own.length→(∀ x∈vals,0≤x∧x≤4)→∃ vals',vals'.length=own.length∧vals'.take (own.length - d)=vals.take (own.length - d)∧(∀ x∈vals',0≤x∧x≤4)∧Ev (fun k=>impl_ruleMasks.try_ k kind cs v own d vals out) (vals',waysM kind v own d (vals.take (own.length - d)) out)
 | 0,vals,out,_,hv,ho,hr=>by
  refine ⟨vals,hv,rfl,hr,?_⟩
  unfold impl_ruleMasks.try_ waysM
  refine Ev.bind (valuesHold_ev (hk.vals hv hr)) ?_
  have ht:vals.take (own.length - 0)=vals:=List.take_of_length_le (by omega)
  rw [ht]
  by_cases hh:holdsB kind v vals=true
  ·have hp:∀ x∈vals,0≤x:=fun x hx=>(hr x hx).1
   simp only [hh,if_true]
   rw [if_pos hp,orFrom_eq,hv]
   exact Ev.now _
  ·simp only [hh,if_false]
   exact Ev.now _
 | d + 1,vals,out,hd,hv,ho,hr=>by
  obtain ⟨i,hi⟩:∃ i,own.length - (d + 1)=i:=⟨_,rfl⟩
  have hin:i < own.length:=by omega
  have e1:(own.length:Int) - ((d + 1:Nat):Int)=(i:Int):=by omega
  have hm:=hown (rd own (i:Int)) (rd_mem (by omega) (by omega))
  obtain ⟨v',a1,a2,a3,a4⟩:=tryV_ev hm hin (fun k=>impl_ruleMasks.try_ k kind cs v own d) (fun p o=>waysM kind v own d p o) (fun p o=>waysM_len _ _ _ _ _ _) (fun vs os h1 h2 h3=>by
   obtain ⟨v1,b1,b2,b3,b4⟩:=try_ev hk hown d vs os (by omega) h1 h2 h3
   rw [show own.length - d=i + 1 by omega] at b2 b4
   exact ⟨v1,b1,b2,b3,b4⟩) 4 1 vals out (by decide) (by decide) hv ho hr
  refine ⟨v',a1,by rw [hi];exact a2,a3,?_⟩
  unfold impl_ruleMasks.try_ waysM
  rw [hi,e1,Int.toNat_natCast]
  have hl:(vals.take i).length=i:=by rw [List.length_take];omega
  rw [hl,mvals_marks hm]
  exact a4
theorem implRuleMasks0_ev {kind v:Int}{cs own:List Int}(hk:KindOK kind own.length)(h1:1≤own.length)(hown:∀ m∈own,0≤m∧m≤30∧m % 2=0):Ev (fun k=>impl_ruleMasks.f k kind cs v own) (waysM kind v own own.length [] (List.replicate own.length 0)):=by
 have h4:=hk.1
 obtain ⟨v',_,_,_,a4⟩:=try_ev (cs:=cs) (v:=v) hk hown own.length (List.replicate own.length 0) (List.replicate own.length 0) (Nat.le_refl _) (by simp) (by simp) (fun x hx=>by
  have:=(List.mem_replicate.1 hx).2
  omega)
 unfold impl_ruleMasks.f
 have hc:0 < own.length∧own.length≤100000:=by omega
 simp only [hc,and_self,if_true]
 refine Ev.bind a4 ?_
 rw [Nat.sub_self,List.take_zero]
 exact Ev.now _
theorem allM_30 {s:Int}(h:sizeOkB s=true):allM s≤30∧2≤allM s:=by rcases sizeOkB_iff.1 h with rfl|rfl|rfl <;> decide

end Go.Proofs.Ythfbjkniinfgcaa.Pure
namespace Go.Proofs.Ythfbjkniinfgcaa.Pure
set_option linter.unusedSimpArgs false
set_option linter.unusedVariables false
open Go.RowKit Go.Proofs.YthfbjkniinfgcaaW.PrintWords Go.Proofs.YthfbjkniinfgcaaW.PrintMore Go.Proofs.Ythfbjkniinfgcaa.P


def gridMasks (g:List Int)(s:Int):List Int:=g.map (fun x=>if x=0 then allM s else shl .i64 1 x)
def rulePossible (kind:Int)(cs:List Int)(v:Int)(g:List Int)(s:Int):Bool:=ruleB kind cs v s && (gridB g s && (rd (ruleMasks kind cs v (gridMasks g s) s) 0 != 0))
theorem gridMask_ok {s x:Int}(hs:sizeOkB s=true)(h:0≤x∧x≤s):0≤(if x=0 then allM s else shl .i64 1 x)∧(if x=0 then allM s else shl .i64 1 x)≤allM s∧(if x=0 then allM s else shl .i64 1 x) % 2=0:=by
 rcases sizeOkB_iff.1 hs with rfl|rfl|rfl
 ·have:x=0∨x=1∨x=2:=by omega
  rcases this with rfl|rfl|rfl <;> decide +kernel
 ·have:x=0∨x=1∨x=2∨x=3:=by omega
  rcases this with rfl|rfl|rfl|rfl <;> decide +kernel
 ·have:x=0∨x=1∨x=2∨x=3∨x=4:=by omega
  rcases this with rfl|rfl|rfl|rfl|rfl <;> decide +kernel
theorem gridMasks_ok {g:List Int}{s:Int}(h:gridB g s=true):masksB (gridMasks g s) s=true:=by
 refine masksB_mk (gridB_size h) (by unfold gridMasks;rw [List.length_map];exact gridB_len h) (fun v hv=>?_)
 unfold gridMasks at hv
 obtain ⟨x,hx,rfl⟩:=List.mem_map.1 hv
 exact gridMask_ok (gridB_size h) (gridB_mem h x hx)
theorem rd_gridMasks {g:List Int}{s:Int}{c:Int}(h0:0≤c)(h1:c < (g.length:Int)):rd (gridMasks g s) c=if rd g c=0 then allM s else shl .i64 1 (rd g c):=by
 obtain ⟨n,rfl⟩:=Int.eq_ofNat_of_zero_le h0
 unfold gridMasks
 rw [rd_lt (by rw [List.length_map];omega),rd_lt (by omega:n < g.length),List.getElem_map]
theorem canHold_ev {kind:Int}{cs:List Int}{v:Int}{g:List Int}{s:Int}(hr:ruleB kind cs v s=true)(hg:gridB g s=true):Ev (fun k=>impl_canHold.f k kind cs v g s) (rulePossible kind cs v g s):=by
 unfold impl_canHold.f rulePossible
 rw [hr,hg,Bool.true_and,Bool.true_and]
 have h4:=ruleB_len hr
 have hml:(gridMasks g s).length=g.length:=by unfold gridMasks;exact List.length_map _
 have hmo:=gridMasks_ok hg
 have hcells:=rule_cells hr (gridB_len hg)
 have h30:=allM_30 (gridB_size hg)
 refine Ev.range (L:=fun k (x:List Int) j=>impl_canHold.l0 k g s x cs (cs.length:Int) j kind cs v) (R:=fun _ _=>rd (ruleMasks kind cs v (gridMasks g s) s) 0 != 0) (N:=cs.length) (fun x j=>x=(cs.take j).map (fun c=>rd (gridMasks g s) c)) ?_ ?_ [] 0 (Nat.zero_le _) rfl
 ·rintro x rfl
  refine Ev.step (fun k=>impl_canHold.l0.eq_2 _ _ _ _ _ _ _ _ _ k) ?_
  simp only [Int.lt_irrefl,if_false,List.take_length]
  have hlen:(cs.map (fun c=>rd (gridMasks g s) c)).length=cs.length:=List.length_map _
  have:=implRuleMasks0_ev (kind:=kind) (v:=v) (cs:=cs) (own:=cs.map (fun c=>rd (gridMasks g s) c)) (by rw [hlen];exact kindOK_rule hr) (by rw [hlen];exact h4.1) (fun m hmm=>by
   obtain ⟨c,hc,rfl⟩:=List.mem_map.1 hmm
   obtain ⟨c0,c1⟩:=hcells c hc
   have:=masksB_mem hmo _ (rd_mem c0 (by omega:c < ((gridMasks g s).length:Int)))
   omega)
  rw [hlen] at this
  refine Ev.bind this ?_
  have e:waysM kind v (cs.map (fun c=>rd (gridMasks g s) c)) cs.length [] (List.replicate cs.length 0)=ruleMasks kind cs v (gridMasks g s) s:=by
   unfold ruleMasks;rw [if_pos ⟨hr,hmo⟩]
  rw [e]
  have h1:=ruleMasks_lenEq (masks:=gridMasks g s) ⟨hr,hmo⟩
  have h3:(0:Int) < ((ruleMasks kind cs v (gridMasks g s) s).length:Int):=by omega
  simp only [h3,if_true]
  exact Ev.now _
 ·rintro x j hj rfl ih
  refine Ev.step (fun k=>impl_canHold.l0.eq_2 _ _ _ _ _ _ _ _ _ k) ?_
  have g1:(j:Int) < (cs.length:Int):=by omega
  have g0:(0:Int)≤(j:Int):=by omega
  obtain ⟨c0,c1⟩:=hcells _ (rd_mem g0 g1)
  have hm:=gridB_mem hg _ (rd_mem c0 c1)
  have g2:((cs.take j).map (fun c=>rd (gridMasks g s) c)).length < 17592186044416:=by rw [List.length_map,List.length_take];omega
  have ht:(cs.take (j + 1)).map (fun c=>rd (gridMasks g s) c)=(cs.take j).map (fun c=>rd (gridMasks g s) c) ++ [rd (gridMasks g s) (rd cs (j:Int))]:=by
   rw [List.take_succ_eq_append_getElem hj,List.map_append,List.map_singleton,rd_lt hj]
  have h0m:=hm.1
  simp only [g0,g1,c0,c1,h0m,g2,if_true,w64n (by omega:j < 9000000000000000000),allValues_eq (gridB_size hg),Option.bind_some]
  by_cases hz:rd g (rd cs (j:Int)) > 0
  ·simp only [hz,if_true]
   refine ih _ ?_
   rw [ht,rd_gridMasks c0 c1,if_neg (by omega)]
  ·simp only [hz,if_false]
   refine ih _ ?_
   rw [ht,rd_gridMasks c0 c1,if_pos (by omega)]
theorem implRulePossible_ev (kind:Int)(cs:List Int)(v:Int)(g:List Int)(s:Int)(hl:cs.length≤35184372088832)(hgl:g.length≤35184372088832):Ev (fun k=>impl_RulePossible.f k kind cs v g s) (rulePossible kind cs v g s):=by
 unfold impl_RulePossible.f
 refine Ev.bind (implRuleValid_ev kind cs v s hl) ?_
 by_cases hr:ruleB kind cs v s=true
 ·simp only [hr,if_true]
  refine Ev.bind (implGridValid_ev g s hgl) ?_
  by_cases hg:gridB g s=true
  ·simp only [hg,if_true]
   refine Ev.bind (canHold_ev hr hg) ?_
   exact Ev.now _
  ·have e:rulePossible kind cs v g s=false:=by unfold rulePossible;rw [eq_false_of_ne_true hg,Bool.false_and,Bool.and_false]
   simp only [hg,if_false,e]
   exact Ev.now _
 ·have e:rulePossible kind cs v g s=false:=by unfold rulePossible;rw [eq_false_of_ne_true hr,Bool.false_and]
  simp only [hr,if_false,e]
  exact Ev.now _

end Go.Proofs.Ythfbjkniinfgcaa.Pure
namespace Go.Proofs.Ythfbjkniinfgcaa.Pure
set_option linter.unusedSimpArgs false
set_option linter.unusedVariables false
open Go.RowKit Go.Proofs.YthfbjkniinfgcaaW.PrintWords Go.Proofs.YthfbjkniinfgcaaW.PrintMore


def wayB (kind v:Int)(own:List Int):Nat→List Int→Bool
 | 0,pre=>holdsB kind v pre
 | d + 1,pre=>(mvals (rd own (pre.length:Nat))).any (fun x=>wayB kind v own d (pre ++ [x]))
theorem orP_skip (vals:List Int):∀ (d:Nat) (i:Nat) (out:List Int),1≤i→rd (orP vals d (i:Int) out) 0=rd out 0
 | 0,_,_,_=>rfl
 | d + 1,i,out,hi=>by
  unfold orP
  have:((i:Int) + 1)=((i + 1:Nat):Int):=by omega
  rw [this,orP_skip vals d (i + 1) _ (by omega),Int.toNat_natCast]
  show rd (out.set i _) ((0:Nat):Int)=rd out ((0:Nat):Int)
  rw [rd_nat,List.getD_eq_getElem?_getD,List.getElem?_set_ne (by omega),← List.getD_eq_getElem?_getD]
  exact (rd_nat out 0).symm
def InM (out:List Int):Prop:=1≤out.length∧0≤rd out 0∧rd out 0≤30∧rd out 0 % 2=0
theorem or_even_fin:∀ a:Fin 16,∀ v:Fin 5,1≤v.val→0≤Go.bits .or .i64 (2 * a.val:Int) (shl .i64 1 (v.val:Int))∧Go.bits .or .i64 (2 * a.val:Int) (shl .i64 1 (v.val:Int))≤30∧Go.bits .or .i64 (2 * a.val:Int) (shl .i64 1 (v.val:Int)) % 2=0∧Go.bits .or .i64 (2 * a.val:Int) (shl .i64 1 (v.val:Int))≠0:=by decide +kernel
theorem or_even {a v:Int}(h0:0≤a)(h1:a≤30)(h2:a % 2=0)(v0:1≤v)(v1:v≤4):0≤Go.bits .or .i64 a (shl .i64 1 v)∧Go.bits .or .i64 a (shl .i64 1 v)≤30∧Go.bits .or .i64 a (shl .i64 1 v) % 2=0∧Go.bits .or .i64 a (shl .i64 1 v)≠0:=by
 have h:=or_even_fin ⟨(a / 2).toNat,by omega⟩ ⟨v.toNat,by omega⟩ (by show 1≤v.toNat;omega)
 simp only [show (2 * (((a / 2).toNat:Nat):Int))=a by omega,show ((v.toNat:Nat):Int)=v by omega] at h
 exact h
theorem waysM_nz (kind v:Int)(own:List Int):∀ (d:Nat) (pre out:List Int),1≤pre.length + d→(∀ x∈pre,1≤x∧x≤4)→InM out→InM (waysM kind v own d pre out)∧(rd (waysM kind v own d pre out) 0≠0↔rd out 0≠0∨wayB kind v own d pre=true)
 | 0,pre,out,hp,hx,ho=>by
  unfold waysM wayB
  by_cases hh:holdsB kind v pre=true
  ·rw [if_pos hh]
   obtain ⟨x,t,rfl,ht⟩:=len_succ (n:=pre.length - 1) (by omega:pre.length=pre.length - 1 + 1)
   obtain ⟨o1,o2,o3,o4⟩:=ho
   have hb:=hx x (List.mem_cons_self ..)
   have e:rd (orP (x :: t) (x :: t).length 0 out) 0=Go.bits .or .i64 (rd out 0) (shl .i64 1 x):=by
    show rd (orP (x :: t) (t.length + 1) ((0:Nat):Int) out) 0=_
    unfold orP
    have:(((0:Nat):Int) + 1)=((1:Nat):Int):=by omega
    rw [this,orP_skip _ _ _ _ (Nat.le_refl _),Int.toNat_natCast]
    show rd (out.set 0 _) ((0:Nat):Int)=_
    rw [rd_lt (by rw [List.length_set];omega),List.getElem_set_self]
    rfl
   obtain ⟨b1,b2,b3,b4⟩:=or_even o2 o3 o4 hb.1 hb.2
   refine ⟨⟨by rw [orP_len];exact o1,by rw [e];exact b1,by rw [e];exact b2,by rw [e];exact b3⟩,?_⟩
   rw [e]
   exact ⟨fun _=> .inr hh,fun _=>b4⟩
  ·rw [if_neg hh]
   exact ⟨ho,⟨.inl,fun h=>h.elim id (fun h=>absurd h hh)⟩⟩
 | d + 1,pre,out,hp,hx,ho=>by
  unfold waysM wayB
  have key:∀ (L:List Int) (out:List Int),(∀ x∈L,1≤x∧x≤4)→InM out→InM (L.foldl (fun o x=>waysM kind v own d (pre ++ [x]) o) out)∧(rd (L.foldl (fun o x=>waysM kind v own d (pre ++ [x]) o) out) 0≠0↔rd out 0≠0∨L.any (fun x=>wayB kind v own d (pre ++ [x]))=true):=by
   intro L
   induction L with
   | nil=>intro out _ ho;exact ⟨ho,by simp⟩
   | cons y L ih =>
    intro out hL ho
    have hy:=hL y (List.mem_cons_self ..)
    obtain ⟨a1,a2⟩:=waysM_nz kind v own d (pre ++ [y]) out (by simp;omega) (fun x h=>by
     rcases List.mem_append.1 h with h|h
     ·exact hx x h
     ·obtain rfl:=List.mem_singleton.1 h
      exact hy) ho
    obtain ⟨b1,b2⟩:=ih _ (fun x h=>hL x (List.mem_cons_of_mem _ h)) a1
    rw [List.foldl_cons,List.any_cons]
    refine ⟨b1,?_⟩
    rw [b2,a2,Bool.or_eq_true,or_assoc]
  exact key _ _ (fun x h=>mvals_range h) ho
theorem rulePossible_way (kind:Int)(cs:List Int)(v:Int)(g:List Int)(s:Int):rulePossible kind cs v g s=(ruleB kind cs v s && (gridB g s && wayB kind v (cs.map (fun c=>rd (gridMasks g s) c)) cs.length [])):=by
 unfold rulePossible
 by_cases hr:ruleB kind cs v s=true
 ·by_cases hg:gridB g s=true
  ·rw [hr,hg]
   simp only [Bool.true_and]
   have hl:=ruleB_len hr
   have e:ruleMasks kind cs v (gridMasks g s) s=waysM kind v (cs.map (fun c=>rd (gridMasks g s) c)) cs.length [] (List.replicate cs.length 0):=by
    unfold ruleMasks;rw [if_pos ⟨hr,gridMasks_ok hg⟩]
   have e0:rd (List.replicate cs.length 0) 0=0:=by
    show rd (List.replicate cs.length 0) ((0:Nat):Int)=0
    rw [rd_lt (by rw [List.length_replicate];omega),List.getElem_replicate]
   have h:=(waysM_nz kind v (cs.map (fun c=>rd (gridMasks g s) c)) cs.length [] (List.replicate cs.length 0) (by simp;omega) (fun x h=>by cases h) ⟨by rw [List.length_replicate];omega,by rw [e0];decide,by rw [e0];decide,by rw [e0];decide⟩).2
   rw [e,Bool.eq_iff_iff,bne_iff_ne,h,e0]
   simp
  ·rw [eq_false_of_ne_true hg];simp
 ·rw [eq_false_of_ne_true hr];simp
theorem wayB_vals {kind v:Int}{own vals:List Int}(h:∀ i:Nat,i < vals.length→rd vals (i:Int)∈mvals (rd own (i:Int)))(hh:holdsB kind v vals=true):∀ (d n:Nat),n + d=vals.length→wayB kind v own d (vals.take n)=true
 | 0,n,hn=>by
  unfold wayB
  rw [List.take_of_length_le (by omega)]
  exact hh
 | d + 1,n,hn=>by
  unfold wayB
  have hlt:n < vals.length:=by omega
  rw [List.any_eq_true]
  refine ⟨rd vals (n:Int),?_,?_⟩
  ·have:=h n hlt
   rwa [show ((vals.take n).length:Nat)=n by rw [List.length_take];omega]
  ·have:=wayB_vals h hh d (n + 1) (by omega)
   rwa [List.take_succ_eq_append_getElem hlt,← rd_lt hlt] at this
theorem wayB_only {kind v:Int}{own vals:List Int}(h:∀ i:Nat,i < vals.length→∀ x∈mvals (rd own (i:Int)),x=rd vals (i:Int)):∀ (d n:Nat),n + d=vals.length→wayB kind v own d (vals.take n)=true→holdsB kind v vals=true
 | 0,n,hn,hw=>by
  unfold wayB at hw
  rwa [List.take_of_length_le (by omega)] at hw
 | d + 1,n,hn,hw=>by
  unfold wayB at hw
  have hlt:n < vals.length:=by omega
  rw [List.any_eq_true] at hw
  obtain ⟨x,hx,hw⟩:=hw
  rw [show ((vals.take n).length:Nat)=n by rw [List.length_take];omega] at hx
  have e:=h n hlt x hx
  refine wayB_only h d (n + 1) (by omega) ?_
  rw [List.take_succ_eq_append_getElem hlt,← rd_lt hlt,← e]
  exact hw
theorem mvals_shl_fin:∀ v:Fin 5,1≤v.val→mvals (shl .i64 1 (v.val:Int))=[(v.val:Int)]:=by decide +kernel
theorem mvals_shl {v:Int}(h0:1≤v)(h1:v≤4):mvals (shl .i64 1 v)=[v]:=by
 have:=mvals_shl_fin ⟨v.toNat,by omega⟩ (by show 1≤v.toNat;omega)
 simp only [show ((v.toNat:Nat):Int)=v by omega] at this
 exact this
theorem rd_mapI (f:Int→Int){l:List Int}{i:Nat}(h:i < l.length):rd (l.map f) (i:Int)=f (rd l (i:Int)):=by
 rw [rd_lt (by rw [List.length_map];exact h),rd_lt h,List.getElem_map]
theorem possible_own {kind:Int}{cs:List Int}{v:Int}{g:List Int}{s:Int}(hr:ruleB kind cs v s=true)(hg:gridB g s=true)(hz:∀ c∈cs,rd g c≠0)(i:Nat)(hi:i < (cs.map (fun c=>rd g c)).length):mvals (rd (cs.map (fun c=>rd (gridMasks g s) c)) (i:Int))=[rd (cs.map (fun c=>rd g c)) (i:Int)]:=by
 rw [List.length_map] at hi
 have hcm:=rd_mem (g:=cs) (i:=(i:Int)) (by omega) (by omega)
 have hc:=rule_cells hr (gridB_len hg) _ hcm
 have hb:=gridB_mem hg _ (rd_mem hc.1 hc.2)
 have hs:=sizeOkB_iff.1 (gridB_size hg)
 have h0:=hz _ hcm
 rw [rd_mapI _ hi,rd_mapI _ hi,rd_gridMasks hc.1 hc.2,if_neg h0,mvals_shl (by omega) (by omega)]
theorem rulePossible_of_holds {kind:Int}{cs:List Int}{v:Int}{g:List Int}{s:Int}(h:ruleHolds kind cs v g s=true):rulePossible kind cs v g s=true:=by
 unfold ruleHolds at h
 simp only [Bool.and_eq_true] at h
 obtain ⟨hr,hg,ha,hh⟩:=h
 rw [rulePossible_way,hr,hg]
 simp only [Bool.true_and]
 have hz:∀ c∈cs,rd g c≠0:=by
  intro c hc
  have:=List.all_eq_true.1 ha (rd g c) (List.mem_map.2 ⟨c,hc,rfl⟩)
  exact of_decide_eq_true this
 have:=wayB_vals (own:=cs.map (fun c=>rd (gridMasks g s) c)) (fun i hi=>by rw [possible_own hr hg hz i hi];exact List.mem_singleton.2 rfl) hh cs.length 0 (by rw [List.length_map];omega)
 rwa [List.take_zero] at this
theorem ruleHolds_of_possible {kind:Int}{cs:List Int}{v:Int}{g:List Int}{s:Int}(hz:∀ c∈cs,rd g c≠0)(h:rulePossible kind cs v g s=true):ruleHolds kind cs v g s=true:=by
 rw [rulePossible_way] at h
 simp only [Bool.and_eq_true] at h
 obtain ⟨hr,hg,hw⟩:=h
 unfold ruleHolds
 rw [hr,hg]
 simp only [Bool.true_and,Bool.and_eq_true]
 refine ⟨List.all_eq_true.2 (fun x hx=>?_),?_⟩
 ·obtain ⟨c,hc,rfl⟩:=List.mem_map.1 hx
  exact decide_eq_true (hz c hc)
 ·refine wayB_only (own:=cs.map (fun c=>rd (gridMasks g s) c)) (fun i hi x hx=>?_) cs.length 0 (by rw [List.length_map];omega) (by rw [List.take_zero];exact hw)
  rw [possible_own hr hg hz i hi,List.mem_singleton] at hx
  exact hx
theorem full_nz {g:List Int}{s:Int}(hg:gridB g s=true)(h:¬ gridFilled g s < (g.length:Int)):∀ c:Int,0≤c→c < (g.length:Int)→rd g c≠0:=by
 intro c h0 h1
 have e:gridFilled g s=countF g:=by unfold gridFilled;rw [if_pos hg]
 rw [e] at h
 unfold countF at h
 have hl:=List.length_filter_le (fun v:Int=>decide (0 < v)) g
 have:g.filter (fun v:Int=>decide (0 < v))=g:=List.filter_eq_self.2 (List.length_filter_eq_length_iff.1 (by omega))
 have hm:rd g c∈g.filter (fun v:Int=>decide (0 < v)):=by rw [this];exact rd_mem h0 h1
 have h2:=of_decide_eq_true (List.mem_filter.1 hm).2
 omega

end Go.Proofs.Ythfbjkniinfgcaa.Pure
namespace Go.Proofs.Ythfbjkniinfgcaa.Pure
set_option linter.unusedSimpArgs false
set_option linter.unusedVariables false
open Go.RowKit Go.Proofs.YthfbjkniinfgcaaW.PrintWords Go.Proofs.YthfbjkniinfgcaaW.PrintMore


def Turned (f:Int→Int)(g:List Int)(x:List Int)(n:Nat):Prop:=x.length=g.length∧∀ i,x[i]?=if i < n then (g.map f)[i]? else g[i]?
theorem Turned.start (f:Int→Int)(g:List Int):Turned f g g 0:=⟨rfl,fun i=>by simp⟩
theorem Turned.set {f:Int→Int}{g x:List Int}{n:Nat}(h:Turned f g x n)(hn:n < g.length){v:Int}(hv:v=f g[n]):Turned f g (x.set n v) (n + 1):=by
 refine ⟨by rw [List.length_set];exact h.1,fun i=>?_⟩
 rw [List.getElem?_set]
 by_cases hi:n=i
 ·subst hi
  have hx:=h.1
  simp only [if_true,if_pos (by omega:n < x.length),if_pos (by omega:n < n + 1)]
  rw [List.getElem?_eq_getElem (by rw [List.length_map];exact hn),List.getElem_map,hv]
 ·rw [if_neg hi,h.2 i]
  by_cases hi2:i < n
  ·rw [if_pos hi2,if_pos (by omega)]
  ·rw [if_neg hi2,if_neg (by omega)]

end Go.Proofs.Ythfbjkniinfgcaa.Pure
namespace Go.Proofs.Ythfbjkniinfgcaa.Pure
set_option linter.unusedSimpArgs false
set_option linter.unusedVariables false
open Go.RowKit Go.Proofs.YthfbjkniinfgcaaW.PrintWords Go.Proofs.YthfbjkniinfgcaaW.PrintMore


theorem goodCells_iff {t:Int}{cs:List Int}:∀ n,n≤cs.length→(goodCells t cs n=true↔(∀ c∈cs.take n,0≤c∧c < t)∧(cs.take n).Nodup)
 | 0,_=>by simp [goodCells]
 | n + 1,hn=>by
  have hlt:n < cs.length:=by omega
  rw [goodCells,Bool.and_eq_true,Bool.and_eq_true,goodCells_iff n (by omega),List.take_succ_eq_append_getElem hlt,List.nodup_append,rd_lt hlt,decide_eq_true_iff]
  simp only [List.mem_append,List.mem_singleton,Bool.not_eq_true',decide_eq_false_iff_not]
  constructor
  ·rintro ⟨⟨h1,h2⟩,h3,h4⟩
   refine ⟨fun c hc=>?_,h2,by simp,fun a ha b hb=>?_⟩
   ·rcases hc with hc|rfl
    ·exact h1 c hc
    ·exact h3
   ·subst hb
    rintro rfl
    exact h4 ha
  ·rintro ⟨h1,h2,_,h3⟩
   exact ⟨⟨fun c hc=>h1 c (.inl hc),h2⟩,h1 _ (.inr rfl),fun hm=>h3 _ hm _ rfl rfl⟩
theorem goodCells_all {t:Int}{cs:List Int}:goodCells t cs cs.length=true↔(∀ c∈cs,0≤c∧c < t)∧cs.Nodup:=by
 have:=goodCells_iff (t:=t) (cs:=cs) cs.length (Nat.le_refl _)
 rwa [List.take_length] at this
theorem nodup_rev {l:List Int}:l.reverse.Nodup↔l.Nodup:=by
 unfold List.Nodup
 rw [List.pairwise_reverse]
 exact ⟨fun h=>h.imp (fun h=>h.symm),fun h=>h.imp (fun h=>h.symm)⟩
theorem ruleB_reverse (kind:Int)(cs:List Int)(v s:Int):ruleB kind cs.reverse v s=ruleB kind cs v s:=by
 unfold ruleB
 rw [List.length_reverse]
 have:goodCells (s * s) cs.reverse cs.length=goodCells (s * s) cs cs.length:=by
  rw [Bool.eq_iff_iff]
  have h:=goodCells_all (t:=s * s) (cs:=cs.reverse)
  rw [List.length_reverse] at h
  rw [h,goodCells_all,nodup_rev]
  simp only [List.mem_reverse]
 rw [this]
theorem list_upto4 {l:List Int}(h:l.length≤4):l=[]∨(∃ a,l=[a])∨(∃ a b,l=[a,b])∨(∃ a b c,l=[a,b,c])∨∃ a b c d,l=[a,b,c,d]:=by
 match l,h with
 | [],_=>exact .inl rfl
 | [a],_=>exact .inr (.inl ⟨a,rfl⟩)
 | [a,b],_=>exact .inr (.inr (.inl ⟨a,b,rfl⟩))
 | [a,b,c],_=>exact .inr (.inr (.inr (.inl ⟨a,b,c,rfl⟩)))
 | [a,b,c,d],_=>exact .inr (.inr (.inr (.inr ⟨a,b,c,d,rfl⟩)))
 | a :: b :: c :: d :: e :: l,h=>simp at h
theorem nodupP_iff {l:List Int}:∀ n,n≤l.length→(nodupP l n=true↔(l.take n).Nodup)
 | 0,_=>by simp [nodupP]
 | n + 1,hn=>by
  have hlt:n < l.length:=by omega
  rw [nodupP,Bool.and_eq_true,nodupP_iff n (by omega),neP_mem hlt,List.take_succ_eq_append_getElem hlt,List.nodup_append,rd_lt hlt]
  simp only [List.mem_singleton,Bool.not_eq_true',decide_eq_false_iff_not]
  constructor
  ·rintro ⟨h2,h4⟩
   refine ⟨h2,by simp,fun a ha b hb=>?_⟩
   subst hb
   rintro rfl
   exact h4 ha
  ·rintro ⟨h2,_,h3⟩
   exact ⟨h2,fun hm=>h3 _ hm _ rfl rfl⟩
theorem nodupP_all {l:List Int}:nodupP l l.length=true↔l.Nodup:=by
 have:=nodupP_iff (l:=l) l.length (Nat.le_refl _)
 rwa [List.take_length] at this
theorem sumP_reverse {l:List Int}(h:l.length≤4):sumP l.reverse l.length=sumP l l.length:=by
 rcases list_upto4 h with rfl | ⟨a,rfl⟩ | ⟨a,b,rfl⟩ | ⟨a,b,c,rfl⟩ | ⟨a,b,c,d,rfl⟩
 all_goals simp [sumP,rd]
 all_goals omega
theorem prodP_reverse {l:List Int}(h:l.length≤4):prodP l.reverse l.length=prodP l l.length:=by
 rcases list_upto4 h with rfl | ⟨a,rfl⟩ | ⟨a,b,rfl⟩ | ⟨a,b,c,rfl⟩ | ⟨a,b,c,d,rfl⟩
 all_goals simp [prodP,rd,Int.mul_comm,Int.mul_left_comm,Int.mul_assoc]
theorem holdsB_reverse {kind v:Int}{l:List Int}(h:l.length≤4)(hk:kind≠4)(h2:kind≠1→kind≠2→kind≠3→l.length=2):holdsB kind v l.reverse=holdsB kind v l:=by
 unfold holdsB
 rw [List.length_reverse]
 by_cases k1:kind=1
 ·rw [if_pos k1,if_pos k1,Bool.eq_iff_iff]
  have:=nodupP_all (l:=l.reverse)
  rw [List.length_reverse] at this
  rw [this,nodupP_all,nodup_rev]
 ·rw [if_neg k1,if_neg k1]
  by_cases k2:kind=2
  ·rw [if_pos k2,if_pos k2,sumP_reverse h]
  ·rw [if_neg k2,if_neg k2]
   by_cases k3:kind=3
   ·rw [if_pos k3,if_pos k3,prodP_reverse h]
   ·rw [if_neg k3,if_neg k3,if_neg hk,if_neg hk]
    obtain ⟨a,t,rfl,ht⟩:=len_succ (h2 k1 k2 k3)
    obtain ⟨b,u,rfl,hu⟩:=len_succ ht
    obtain rfl:=List.length_eq_zero_iff.1 hu
    have e0:rd [a,b] 0=a:=rfl
    have e1:rd [a,b] 1=b:=rfl
    have e2:rd [a,b].reverse 0=b:=rfl
    have e3:rd [a,b].reverse 1=a:=rfl
    rw [e0,e1,e2,e3]
    have:mx (b - a) (a - b)=mx (a - b) (b - a):=by unfold mx;split <;> split <;> omega
    rw [this]
theorem holdsB_less {v:Int}{l:List Int}(hl:l.length=2)(h:holdsB 4 v l=true):holdsB 4 v l.reverse=false:=by
 obtain ⟨a,t,rfl,ht⟩:=len_succ hl
 obtain ⟨b,u,rfl,hu⟩:=len_succ ht
 obtain rfl:=List.length_eq_zero_iff.1 hu
 unfold holdsB at h ⊢
 have e0:rd [a,b] 0=a:=rfl
 have e1:rd [a,b] 1=b:=rfl
 have e2:rd [a,b].reverse 0=b:=rfl
 have e3:rd [a,b].reverse 1=a:=rfl
 have k1:¬ (4:Int)=1:=by decide
 have k2:¬ (4:Int)=2:=by decide
 have k3:¬ (4:Int)=3:=by decide
 rw [if_neg k1,if_neg k2,if_neg k3,if_pos rfl,decide_eq_true_iff,e0,e1] at h
 rw [if_neg k1,if_neg k2,if_neg k3,if_pos rfl,decide_eq_false_iff_not,e2,e3]
 omega
theorem ruleHolds_reverse {kind:Int}{cs:List Int}{v:Int}{g:List Int}{s:Int}(hk:kind≠4):ruleHolds kind cs.reverse v g s=ruleHolds kind cs v g s:=by
 unfold ruleHolds
 rw [ruleB_reverse]
 by_cases hr:ruleB kind cs v s=true
 ·have hp:=ruleB_parts hr
  rw [List.map_reverse,List.all_reverse,holdsB_reverse (by rw [List.length_map];exact hp.2.2.1) hk (fun h1 h2 h3=>by rw [List.length_map];exact hp.2.2.2.2.2 (by omega))]
 ·rw [eq_false_of_ne_true hr];rfl
theorem ruleHolds_less {cs:List Int}{v:Int}{g:List Int}{s:Int}(h:ruleHolds 4 cs v g s=true):ruleHolds 4 cs.reverse v g s=false:=by
 unfold ruleHolds at h
 simp only [Bool.and_eq_true] at h
 have hp:=ruleB_parts h.1
 unfold ruleHolds
 rw [List.map_reverse,holdsB_less (by rw [List.length_map];exact hp.2.2.2.2.2 (by decide)) h.2.2.2]
 simp

end Go.Proofs.Ythfbjkniinfgcaa.Pure
namespace Go.Proofs.Ythfbjkniinfgcaa.Pure
set_option linter.unusedSimpArgs false
set_option linter.unusedVariables false
open Go.RowKit Go.Proofs.YthfbjkniinfgcaaW.PrintWords Go.Proofs.YthfbjkniinfgcaaW.PrintMore Go.Proofs.Ythfbjkniinfgcaa.P


theorem ruleHolds_end {kind v s:Int}{g cs:List Int}(hc:cs.length≤9)(hg:g.length≤16)(hr:ruleB kind cs v s=true)(hgv:gridB g s=true):Ev (fun k=>laws_FnRuleHolds.l0 k g s (ruleHolds kind cs v g s) cs.reverse (-1) kind cs v) true:=by
 refine Ev.step (fun k=>laws_FnRuleHolds.l0.eq_2 _ _ _ _ _ _ _ _ k) ?_
 have e1:¬ (-1:Int) ≥ 0:=by decide
 simp only [e1,if_false]
 refine Ev.bind (implRuleHolds_ev kind cs.reverse v g s (by rw [List.length_reverse];omega) (by omega)) ?_
 refine Ev.bind (implRulePossible_ev kind cs v g s (by omega) (by omega)) ?_
 have hfull:¬ gridFilled g s < (g.length:Int)→ruleHolds kind cs v g s=rulePossible kind cs v g s:=by
  intro hf
  rw [Bool.eq_iff_iff]
  exact ⟨rulePossible_of_holds,ruleHolds_of_possible (fun c hcm=>by
   have:=rule_cells hr (gridB_len hgv) c hcm
   exact full_nz hgv hf c this.1 this.2)⟩
 have hne:(true == true)=true∧(false == false)=true:=by decide
 by_cases h:ruleHolds kind cs v g s=true
 ·have hp:=rulePossible_of_holds h
  simp only [h,hp,if_true]
  refine Ev.bind (implGridFilled_ev g s (by omega)) ?_
  have hk:∀ {k4:kind=4},ruleHolds kind cs.reverse v g s=false:=by
   intro k4
   subst k4
   exact ruleHolds_less h
  by_cases k4:kind=4
  ·rw [hk (k4:=k4)]
   simp only [k4,if_true,Bool.false_eq_true,if_false,ite_self,hne]
   exact Ev.now _
  ·rw [ruleHolds_reverse k4,h]
   simp only [k4,if_false,hne,if_true,ite_self]
   exact Ev.now _
 ·have hf:=eq_false_of_ne_true h
  simp only [hf,Bool.false_eq_true,if_false]
  refine Ev.bind (implGridFilled_ev g s (by omega)) ?_
  by_cases hfl:gridFilled g s < (g.length:Int)
  ·simp only [hfl,if_true]
   by_cases k4:kind=4
   ·simp only [k4,if_true];exact Ev.now _
   ·rw [ruleHolds_reverse k4,hf]
    simp only [k4,if_false]
    exact Ev.now _
  ·have hpf:rulePossible kind cs v g s=false:=by rw [← hfull hfl];exact hf
   simp only [hfl,if_false,hpf,hne,if_true]
   by_cases k4:kind=4
   ·simp only [k4,if_true];exact Ev.now _
   ·rw [ruleHolds_reverse k4,hf]
    simp only [k4,if_false]
    exact Ev.now _
theorem ruleHolds_turn {kind v s:Int}{g cs:List Int}(hc:cs.length≤9)(hg:g.length≤16)(hr:ruleB kind cs v s=true)(hgv:gridB g s=true):∀ (n:Nat),n≤cs.length→Ev (fun k=>laws_FnRuleHolds.l0 k g s (ruleHolds kind cs v g s) ((cs.drop n).reverse) ((n:Int) - 1) kind cs v) true
 | 0,_=>by
  have:=ruleHolds_end hc hg hr hgv
  rw [List.drop_zero]
  exact this
 | n + 1,hn=>by
  have hlt:n < cs.length:=by omega
  have ih:=ruleHolds_turn hc hg hr hgv n (by omega)
  have e:(cs.drop n).reverse=(cs.drop (n + 1)).reverse ++ [rd cs (n:Int)]:=by
   rw [drop_cons hlt,List.reverse_cons,rd_lt hlt]
  rw [e] at ih
  refine Ev.step (fun k=>laws_FnRuleHolds.l0.eq_2 _ _ _ _ _ _ _ _ k) ?_
  have e1:((n + 1:Nat):Int) - 1=(n:Int):=by omega
  have h1:(n:Int) ≥ 0:=by omega
  have h2:(n:Int) < (cs.length:Int):=by omega
  have h3:((cs.drop (n + 1)).reverse).length < 17592186044416:=by rw [List.length_reverse,List.length_drop];omega
  have hw:wrap64 ((n:Int) - 1)=(n:Int) - 1:=w64 (by omega) (by omega)
  have h1':0≤(n:Int):=by omega
  simp only [e1,h1,h1',h2,h3,if_true,hw]
  exact ih
theorem FnRuleHolds:laws_FnRuleHolds.Pure:=by
 intro l _ _ hl
 apply Ev.rounds
 unfold laws_FnRuleHolds.f
 by_cases hlen:(l.length:Int) > 1048576
 ·simp only [hlen,if_true];exact Ev.now _
 simp only [hlen,if_false]
 have halive:Ev (fun k=>(laws_alive.f k).bind fun t=>some t) true:=Ev.bind alive_ev (Ev.now _)
 obtain ⟨b,hb,ho⟩:=open_eq l hl
 obtain ⟨kind,cs,v,g,s,hc,hg,hd⟩:=drawRuleHolds_ev hb ho
 refine Ev.bind hd ?_
 clear hd ho hb hlen
 refine Ev.bind (implRuleHolds_ev kind cs v g s (by omega) hg.le) ?_
 refine Ev.bind (specRuleHolds_ev kind cs v g s (by omega) hg.le) ?_
 have hne:∀ b:Bool,¬ (b != b)=true:=by decide
 simp only [hne,if_false]
 refine Ev.bind (specRuleValid_ev kind cs v s (by omega)) ?_
 by_cases h:ruleB kind cs v s=true
 ·simp only [h,if_true]
  refine Ev.bind (specGridValid_ev g s hg.le) ?_
  by_cases h2:gridB g s=true
  ·simp only [h2,Bool.not_true]
   refine Ev.step (fun k=>laws_FnRuleHolds.j0.eq_2 _ _ _ _ _ _ _ k) ?_
   have hw:wrap64 ((cs.length:Int) - 1)=(cs.length:Int) - 1:=w64 (by omega) (by omega)
   simp only [Bool.false_eq_true,if_false,hw]
   have:=ruleHolds_turn hc hg.1 h h2 cs.length (Nat.le_refl _)
   rw [List.drop_length,List.reverse_nil] at this
   exact this
  ·have hf:ruleHolds kind cs v g s=false:=by unfold ruleHolds;rw [eq_false_of_ne_true h2];simp
   simp only [eq_false_of_ne_true h2,Bool.not_false,hf]
   refine Ev.step (fun k=>laws_FnRuleHolds.j0.eq_2 _ _ _ _ _ _ _ k) ?_
   simp only [if_true,Bool.false_eq_true,if_false]
   exact halive
 ·have hf:ruleHolds kind cs v g s=false:=by unfold ruleHolds;rw [eq_false_of_ne_true h];rfl
  simp only [eq_false_of_ne_true h,Bool.false_eq_true,if_false,hf]
  refine Ev.step (fun k=>laws_FnRuleHolds.j0.eq_2 _ _ _ _ _ _ _ k) ?_
  simp only [if_true,Bool.false_eq_true,if_false]
  exact halive

end Go.Proofs.Ythfbjkniinfgcaa.Pure
