/- The machine's side: each Go function as a plain Lean function and the proof that the machine's call does what that function says; written by this session's own program over the kit's print. -/
import Derived.ArgAppend
import Derived.Below
import Derived.BigQuiet
import Derived.Deep.AppendLies
import Derived.Deep.CutBlock
import Derived.Deep.DeepCutAuto
import Derived.Deep.Draws
import Derived.Deep.LoopGhost
import Derived.Deep.OwnRows
import Derived.Deep.QuietTactic
import Derived.Deep.RegionHeld3
import Derived.KernelRfl
import Derived.Laws.BitsLemmas
import Derived.Laws.BytesArg
import Derived.Laws.IdiomCopy
import Derived.Laws.MakeOwn
import Derived.Laws.OwnMore
import Derived.Laws.Rows
import Derived.Laws.Slices
import Derived.Lib.AppendStr
import Derived.Lib.ConvBytes
import Derived.Maps.AppendAt
import Derived.OrdersHeld
import Derived.OwnWalk
import Derived.RowKit
import Derived.RowKit3
import Derived.Tactics
import Derived.Test.YtdemlminhkhonaaProg
import Derived.Test.YtdemlminhkhonaaZW
import Derived.WalkKit
import Derived.WideLaws
namespace Go.Proofs.Ytdemlminhkhonaa.P
set_option maxHeartbeats 8000000
set_option maxRecDepth 100000
open Go.RowKit Go.Proofs.YtdemlminhkhonaaW.PrintWords Go.Proofs.YtdemlminhkhonaaW.PrintLast Go.Proofs.YtdemlminhkhonaaW.PrintMore
attribute [local go_sem] max2_int min2_int max_two min_two max_three min_three max_four min_four   -- for this text's walks alone
set_option linter.unusedVariables false
set_option linter.unusedSimpArgs false
def errW:Option Int→Value
 | none=> .nilIface
 | some c=> .iface 0 (.int .i64 c)
theorem errW_none:errW none= .nilIface:=rfl
theorem errW_some (c:Int):errW (some c)= .iface 0 (.int .i64 c):=rfl

theorem info3:(Try.prog.info? 3).map (fun i=>(i.zero,i.size,i.bytes))=some (some (.int .i64 0),1,8):=by kernel_rfl
theorem info22:(Try.prog.info? 22).map (fun i=>(i.zero,i.size,i.bytes))=some (some (.slice none 0 0),1,24):=by kernel_rfl
theorem info52:(Try.prog.info? 52).map (fun i=>(i.zero,i.size,i.bytes))=some (some (.agg #[(.int .i64 0),(.int .i64 0)]),2,16):=by kernel_rfl
theorem info65:(Try.prog.info? 65).map (fun i=>(i.zero,i.size,i.bytes))=some (some (.agg #[(.int .i64 0),(.slice none 0 0),(.int .i64 0)]),3,40):=by kernel_rfl
theorem info67:(Try.prog.info? 67).map (fun i=>(i.zero,i.size,i.bytes))=some (some (.agg #[(.int .i64 0),(.slice none 0 0),(.int .i64 0)]),3,40):=by kernel_rfl
-- the values' own types
def rd_L1 (xs:List (List Int))(i:Int):(List Int):=xs.getD i.toNat ([]:List Int)
theorem at_L1 {w:World}{A:Option Addr}{n:Nat}{xs:List (List Int)}(h:Kd.C (Kd.slice 3 (Kd.int .i64)) w A n xs)(i:Int)(h0:0≤i)(h1:i < n):∃ ad A0 c0,A=some ad∧w.cell? (ad.add i.toNat)=some (.slice A0 (rd_L1 xs i).length c0)∧(rd_L1 xs i).length≤c0∧(Kd.int .i64).C w A0 (rd_L1 xs i).length (rd_L1 xs i):=by
 obtain ⟨ad,c,e,_,hK,hc0⟩:=Kd.C_get h ([]:List Int) i h0 h1
 have hc:∀ j u,c[j]?=some u→w.cell? (ad.add (i.toNat * 1 + j))=some u:=hc0
 obtain ⟨A0,c0,rfl,l0,g0⟩:=hK
 exact ⟨ad,A0,c0,e,by have hq:=hc 0 _ rfl;rwa [Nat.mul_one,Nat.add_zero] at hq,l0,g0⟩

structure S65 where
 f0:Int
 f1:(List Int)
 f2:Int
def z65:S65:=⟨(0:Int),([]:List Int),(0:Int)⟩
def k65:Kd S65:=Kd.iso (Kd.pair (Kd.int .i64) (Kd.pair (Kd.slice 3 (Kd.int .i64)) (Kd.int .i64))) (fun x:S65=>(x.f0,x.f1,x.f2))
theorem k65_heap:Kd.Heap k65:=Kd.heap_iso _ (Kd.heap_pair (Kd.heap_int .i64) (Kd.heap_pair (Kd.heap_slice 3 (Kd.heap_int .i64)) (Kd.heap_int .i64)))
theorem k65_open {w:World}{x:S65}{cs:List Value}(h:k65.K w x cs):∃ A1 c1,cs=[.int .i64 x.f0,.slice A1 x.f1.length c1,.int .i64 x.f2]∧x.f1.length≤c1∧(Kd.int .i64).C w A1 x.f1.length x.f1:=by
 obtain ⟨_,_,rfl,rfl,⟨_,_,rfl,⟨A1,c1,rfl,l1,g1⟩,rfl⟩⟩:=h
 exact ⟨A1,c1,rfl,l1,g1⟩
theorem k65_openM {w:World}{base:Nat}{ok:Nat→Prop}{x:S65}{cs:List Value}(h:k65.M w base ok x cs):∃ v1,cs=[.int .i64 x.f0,v1,.int .i64 x.f2]∧(Kd.int .i64).R 3 w base ok v1 x.f1:=by
 obtain ⟨_,_,rfl,rfl,⟨_,_,rfl,⟨v1,rfl,g1⟩,rfl⟩⟩:=h
 exact ⟨v1,rfl,g1⟩
theorem k65_mk (w:World)(x:S65){A1:Option Addr}{c1:Nat}(l1:x.f1.length≤c1)(g1:(Kd.int .i64).C w A1 x.f1.length x.f1):k65.K w x [.int .i64 x.f0,.slice A1 x.f1.length c1,.int .i64 x.f2]:=⟨[.int .i64 x.f0],[.slice A1 x.f1.length c1,.int .i64 x.f2],rfl,rfl,⟨[.slice A1 x.f1.length c1],[.int .i64 x.f2],rfl,⟨A1,c1,rfl,l1,g1⟩,rfl⟩⟩
theorem k65_mkM (w:World)(base:Nat)(ok:Nat→Prop)(x:S65){v1:Value}(g1:(Kd.int .i64).R 3 w base ok v1 x.f1):k65.M w base ok x [.int .i64 x.f0,v1,.int .i64 x.f2]:=⟨[.int .i64 x.f0],[v1,.int .i64 x.f2],rfl,rfl,⟨[v1],[.int .i64 x.f2],rfl,⟨v1,rfl,g1⟩,rfl⟩⟩
def rd_T65 (xs:List S65)(i:Int):S65:=xs.getD i.toNat z65
theorem at_T65 {w:World}{A:Option Addr}{n:Nat}{xs:List S65}(h:Kd.C k65 w A n xs)(i:Int)(h0:0≤i)(h1:i < n):∃ ad A1 c1,A=some ad∧w.cell? (ad.add (i.toNat * 3))=some (.int .i64 (rd_T65 xs i).f0)∧w.cell? ⟨(ad.add (i.toNat * 3)).block,(ad.add (i.toNat * 3)).off + 1,none⟩=some (.slice A1 (rd_T65 xs i).f1.length c1)∧w.cell? ⟨(ad.add (i.toNat * 3)).block,(ad.add (i.toNat * 3)).off + 2,none⟩=some (.int .i64 (rd_T65 xs i).f2)∧(rd_T65 xs i).f1.length≤c1∧(Kd.int .i64).C w A1 (rd_T65 xs i).f1.length (rd_T65 xs i).f1:=by
 obtain ⟨ad,c,e,_,hK,hc0⟩:=Kd.C_get h z65 i h0 h1
 have hc:∀ j u,c[j]?=some u→w.cell? (ad.add (i.toNat * 3 + j))=some u:=hc0
 obtain ⟨A1,c1,rfl,l1,g1⟩:=k65_open hK
 exact ⟨ad,A1,c1,e,hc 0 _ rfl,by rw [← add_field _ _ 1 (by omega)];exact hc 1 _ rfl,by rw [← add_field _ _ 2 (by omega)];exact hc 2 _ rfl,l1,g1⟩

structure S67 where
 f0:Int
 f1:(List Int)
 f2:Int
def z67:S67:=⟨(0:Int),([]:List Int),(0:Int)⟩
def k67:Kd S67:=Kd.iso (Kd.pair (Kd.int .i64) (Kd.pair (Kd.slice 3 (Kd.int .i64)) (Kd.int .i64))) (fun x:S67=>(x.f0,x.f1,x.f2))
theorem k67_heap:Kd.Heap k67:=Kd.heap_iso _ (Kd.heap_pair (Kd.heap_int .i64) (Kd.heap_pair (Kd.heap_slice 3 (Kd.heap_int .i64)) (Kd.heap_int .i64)))
theorem k67_open {w:World}{x:S67}{cs:List Value}(h:k67.K w x cs):∃ A1 c1,cs=[.int .i64 x.f0,.slice A1 x.f1.length c1,.int .i64 x.f2]∧x.f1.length≤c1∧(Kd.int .i64).C w A1 x.f1.length x.f1:=by
 obtain ⟨_,_,rfl,rfl,⟨_,_,rfl,⟨A1,c1,rfl,l1,g1⟩,rfl⟩⟩:=h
 exact ⟨A1,c1,rfl,l1,g1⟩
theorem k67_openM {w:World}{base:Nat}{ok:Nat→Prop}{x:S67}{cs:List Value}(h:k67.M w base ok x cs):∃ v1,cs=[.int .i64 x.f0,v1,.int .i64 x.f2]∧(Kd.int .i64).R 3 w base ok v1 x.f1:=by
 obtain ⟨_,_,rfl,rfl,⟨_,_,rfl,⟨v1,rfl,g1⟩,rfl⟩⟩:=h
 exact ⟨v1,rfl,g1⟩
theorem k67_mk (w:World)(x:S67){A1:Option Addr}{c1:Nat}(l1:x.f1.length≤c1)(g1:(Kd.int .i64).C w A1 x.f1.length x.f1):k67.K w x [.int .i64 x.f0,.slice A1 x.f1.length c1,.int .i64 x.f2]:=⟨[.int .i64 x.f0],[.slice A1 x.f1.length c1,.int .i64 x.f2],rfl,rfl,⟨[.slice A1 x.f1.length c1],[.int .i64 x.f2],rfl,⟨A1,c1,rfl,l1,g1⟩,rfl⟩⟩
theorem k67_mkM (w:World)(base:Nat)(ok:Nat→Prop)(x:S67){v1:Value}(g1:(Kd.int .i64).R 3 w base ok v1 x.f1):k67.M w base ok x [.int .i64 x.f0,v1,.int .i64 x.f2]:=⟨[.int .i64 x.f0],[v1,.int .i64 x.f2],rfl,rfl,⟨[v1],[.int .i64 x.f2],rfl,⟨v1,rfl,g1⟩,rfl⟩⟩
def rd_T67 (xs:List S67)(i:Int):S67:=xs.getD i.toNat z67
theorem at_T67 {w:World}{A:Option Addr}{n:Nat}{xs:List S67}(h:Kd.C k67 w A n xs)(i:Int)(h0:0≤i)(h1:i < n):∃ ad A1 c1,A=some ad∧w.cell? (ad.add (i.toNat * 3))=some (.int .i64 (rd_T67 xs i).f0)∧w.cell? ⟨(ad.add (i.toNat * 3)).block,(ad.add (i.toNat * 3)).off + 1,none⟩=some (.slice A1 (rd_T67 xs i).f1.length c1)∧w.cell? ⟨(ad.add (i.toNat * 3)).block,(ad.add (i.toNat * 3)).off + 2,none⟩=some (.int .i64 (rd_T67 xs i).f2)∧(rd_T67 xs i).f1.length≤c1∧(Kd.int .i64).C w A1 (rd_T67 xs i).f1.length (rd_T67 xs i).f1:=by
 obtain ⟨ad,c,e,_,hK,hc0⟩:=Kd.C_get h z67 i h0 h1
 have hc:∀ j u,c[j]?=some u→w.cell? (ad.add (i.toNat * 3 + j))=some u:=hc0
 obtain ⟨A1,c1,rfl,l1,g1⟩:=k67_open hK
 exact ⟨ad,A1,c1,e,hc 0 _ rfl,by rw [← add_field _ _ 1 (by omega)];exact hc 1 _ rfl,by rw [← add_field _ _ 2 (by omega)];exact hc 2 _ rfl,l1,g1⟩

structure S52 where
 f0:Int
 f1:Int
def z52:S52:=⟨(0:Int),(0:Int)⟩
def k52:Kd S52:=Kd.iso (Kd.pair (Kd.int .i64) (Kd.int .i64)) (fun x:S52=>(x.f0,x.f1))
theorem k52_heap:Kd.Heap k52:=Kd.heap_iso _ (Kd.heap_pair (Kd.heap_int .i64) (Kd.heap_int .i64))
theorem k52_open {w:World}{x:S52}{cs:List Value}(h:k52.K w x cs):cs=[.int .i64 x.f0,.int .i64 x.f1]:=by
 obtain ⟨_,_,rfl,rfl,rfl⟩:=h
 exact rfl
theorem k52_openM {w:World}{base:Nat}{ok:Nat→Prop}{x:S52}{cs:List Value}(h:k52.M w base ok x cs):cs=[.int .i64 x.f0,.int .i64 x.f1]:=by
 obtain ⟨_,_,rfl,rfl,rfl⟩:=h
 exact rfl
theorem k52_mk (w:World)(x:S52)  : k52.K w x [.int .i64 x.f0,.int .i64 x.f1]:=⟨[.int .i64 x.f0],[.int .i64 x.f1],rfl,rfl,rfl⟩
theorem k52_mkM (w:World)(base:Nat)(ok:Nat→Prop)(x:S52)  : k52.M w base ok x [.int .i64 x.f0,.int .i64 x.f1]:=⟨[.int .i64 x.f0],[.int .i64 x.f1],rfl,rfl,rfl⟩
def rd_T52 (xs:List S52)(i:Int):S52:=xs.getD i.toNat z52
theorem at_T52 {w:World}{A:Option Addr}{n:Nat}{xs:List S52}(h:Kd.C k52 w A n xs)(i:Int)(h0:0≤i)(h1:i < n):∃ ad ,A=some ad∧w.cell? (ad.add (i.toNat * 2))=some (.int .i64 (rd_T52 xs i).f0)∧w.cell? ⟨(ad.add (i.toNat * 2)).block,(ad.add (i.toNat * 2)).off + 1,none⟩=some (.int .i64 (rd_T52 xs i).f1):=by
 obtain ⟨ad,c,e,_,hK,hc0⟩:=Kd.C_get h z52 i h0 h1
 have hc:∀ j u,c[j]?=some u→w.cell? (ad.add (i.toNat * 2 + j))=some u:=hc0
 obtain rfl:=k52_open hK
 exact ⟨ad,e,hc 0 _ rfl,by rw [← add_field _ _ 1 (by omega)];exact hc 1 _ rfl⟩

def rd_L6 (xs:List (List S67))(i:Int):(List S67):=xs.getD i.toNat ([]:List S67)
theorem at_L6 {w:World}{A:Option Addr}{n:Nat}{xs:List (List S67)}(h:Kd.C (Kd.slice 67 k67) w A n xs)(i:Int)(h0:0≤i)(h1:i < n):∃ ad A0 c0,A=some ad∧w.cell? (ad.add i.toNat)=some (.slice A0 (rd_L6 xs i).length c0)∧(rd_L6 xs i).length≤c0∧k67.C w A0 (rd_L6 xs i).length (rd_L6 xs i):=by
 obtain ⟨ad,c,e,_,hK,hc0⟩:=Kd.C_get h ([]:List S67) i h0 h1
 have hc:∀ j u,c[j]?=some u→w.cell? (ad.add (i.toNat * 1 + j))=some u:=hc0
 obtain ⟨A0,c0,rfl,l0,g0⟩:=hK
 exact ⟨ad,A0,c0,e,by have hq:=hc 0 _ rfl;rwa [Nat.mul_one,Nat.add_zero] at hq,l0,g0⟩

def rd_L7 (xs:List (List S65))(i:Int):(List S65):=xs.getD i.toNat ([]:List S65)
theorem at_L7 {w:World}{A:Option Addr}{n:Nat}{xs:List (List S65)}(h:Kd.C (Kd.slice 65 k65) w A n xs)(i:Int)(h0:0≤i)(h1:i < n):∃ ad A0 c0,A=some ad∧w.cell? (ad.add i.toNat)=some (.slice A0 (rd_L7 xs i).length c0)∧(rd_L7 xs i).length≤c0∧k65.C w A0 (rd_L7 xs i).length (rd_L7 xs i):=by
 obtain ⟨ad,c,e,_,hK,hc0⟩:=Kd.C_get h ([]:List S65) i h0 h1
 have hc:∀ j u,c[j]?=some u→w.cell? (ad.add (i.toNat * 1 + j))=some u:=hc0
 obtain ⟨A0,c0,rfl,l0,g0⟩:=hK
 exact ⟨ad,A0,c0,e,by have hq:=hc 0 _ rfl;rwa [Nat.mul_one,Nat.add_zero] at hq,l0,g0⟩

def rd_L9 (xs:List (List (List Int)))(i:Int):(List (List Int)):=xs.getD i.toNat ([]:List (List Int))
theorem at_L9 {w:World}{A:Option Addr}{n:Nat}{xs:List (List (List Int))}(h:Kd.C (Kd.slice 22 (Kd.slice 3 (Kd.int .i64))) w A n xs)(i:Int)(h0:0≤i)(h1:i < n):∃ ad A0 c0,A=some ad∧w.cell? (ad.add i.toNat)=some (.slice A0 (rd_L9 xs i).length c0)∧(rd_L9 xs i).length≤c0∧(Kd.slice 3 (Kd.int .i64)).C w A0 (rd_L9 xs i).length (rd_L9 xs i):=by
 obtain ⟨ad,c,e,_,hK,hc0⟩:=Kd.C_get h ([]:List (List Int)) i h0 h1
 have hc:∀ j u,c[j]?=some u→w.cell? (ad.add (i.toNat * 1 + j))=some u:=hc0
 obtain ⟨A0,c0,rfl,l0,g0⟩:=hK
 exact ⟨ad,A0,c0,e,by have hq:=hc 0 _ rfl;rwa [Nat.mul_one,Nat.add_zero] at hq,l0,g0⟩
def laws_szIntS.f (l0:List Int)(a1:Int):Option (Int):=if (wrap64 (a1 - (l0.length:Int))) < 0 then (some (-1)) else (some (wrap64 (a1 - (l0.length:Int))))
theorem laws_szIntS.calls (A0:Option Addr)(c0:Nat)(l0:List Int)(a1:Int)(r:Int)(w:World)(hr0:Kd.C (Kd.int .i64) w A0 l0.length l0)(hc0:l0.length≤c0)(h:laws_szIntS.f l0 a1=some r) :
  Calls Try.prog 32 #[.slice A0 l0.length c0,.int .i64 a1] w fun e w'=>e= .returned (.int .i64 r)∧Drawn0 w w':=by
 have HR0:=yam hr0
 have HC0:=yam hc0
 clear hr0 hc0
 unfold laws_szIntS.f at h
 have H:=h
 clear h
 replace H:=yis H;obtain ⟨c3b0,H⟩ | ⟨c3b0,H⟩:=H
 ·obtain rfl:=ysi H
  go_enter Try.func32,Try.ntmps32
  go_wp2
  go_ret
  exact ⟨yeq,by repeat (first|exact Drawn0.refl _|apply Drawn0.step)⟩
 obtain rfl:=ysi H
 go_enter Try.func32,Try.ntmps32
 go_wp2
 go_ret
 exact ⟨yeq,by repeat (first|exact Drawn0.refl _|apply Drawn0.step)⟩
def laws_szRule.f (a0_0:Int)(l0_1:List Int)(a0_2:Int)(a1:Int):Option (Int):=(laws_szIntS.f l0_1 a1).bind fun t102=>(if t102 < 0 then (some (-1)) else (some t102))
theorem laws_szRule.calls (a0_0:Int)(A0_1:Option Addr)(c0_1:Nat)(l0_1:List Int)(a0_2:Int)(a1:Int)(r:Int)(w:World)(hr0_1:Kd.C (Kd.int .i64) w A0_1 l0_1.length l0_1)(hc0_1:l0_1.length≤c0_1)(h:laws_szRule.f a0_0 l0_1 a0_2 a1=some r) :
  Calls Try.prog 65 #[.agg #[.int .i64 a0_0,.slice A0_1 l0_1.length c0_1,.int .i64 a0_2],.int .i64 a1] w fun e w'=>e= .returned (.int .i64 r)∧Below w.heap.size w w':=by
 have hu65:=Try.underlying65
 have HR0_1:=yam hr0_1
 have HC0_1:=yam hc0_1
 clear hr0_1 hc0_1
 have HB:=yam (Below.refl w.heap.size w)
 unfold laws_szRule.f at h
 have H:=h
 clear h
 replace H:=ybi H;obtain ⟨t102,A3,H⟩:=H
 try dsimp only at H
 replace H:=yis H;obtain ⟨c4b0,H⟩ | ⟨c4b0,H⟩:=H
 ·obtain rfl:=ysi H
  go_enter Try.func65,Try.ntmps65
  go_wp2_with (first|(refine ybe 2 #[.int .i64 a0_0,.slice A0_1 l0_1.length c0_1,.int .i64 a0_2] 65 ?_;intro gb101 hg w5 hbox hb;have BK101:=yam (hbox);have GW101:=yam ((by rw [hg];exact (below_size (yez HB.out)):w.heap.size≤gb101));replace HB:=yam (below_step (yez HB.out) hb);have GE101:=GW101;clear hb hbox hg;obtain ⟨hcz6_0,hcz6_1,hcz6_2,hfz6_0,hfz6_1,hfz6_2⟩:=ybc BK101.out)|(refine goesL_ (some 8) rfl rfl Try.func32 (by kernel_rfl) rfl #[.slice A0_1 l0_1.length c0_1,.int .i64 a1] rfl ymd ?_;(with_reducible refine (laws_szIntS.calls _ _ l0_1 a1 t102 _ ?_ ?_ A3.out).mono ?_);exact Kd.Cz ((Kd.C_below HR0_1.out HB.out));exact HC0_1.out;rintro e w' ⟨rfl,⟨nd,rfl⟩⟩;refine ⟨_,rfl,?_⟩))
  go_ret
  exact ⟨yer,yhb⟩
 obtain rfl:=ysi H
 go_enter Try.func65,Try.ntmps65
 go_wp2_with (first|(refine ybe 2 #[.int .i64 a0_0,.slice A0_1 l0_1.length c0_1,.int .i64 a0_2] 65 ?_;intro gb101 hg w7 hbox hb;have BK101:=yam (hbox);have GW101:=yam ((by rw [hg];exact (below_size (yez HB.out)):w.heap.size≤gb101));replace HB:=yam (below_step (yez HB.out) hb);have GE101:=GW101;clear hb hbox hg;obtain ⟨hcz8_0,hcz8_1,hcz8_2,hfz8_0,hfz8_1,hfz8_2⟩:=ybc BK101.out)|(refine goesL_ (some 8) rfl rfl Try.func32 (by kernel_rfl) rfl #[.slice A0_1 l0_1.length c0_1,.int .i64 a1] rfl ymd ?_;(with_reducible refine (laws_szIntS.calls _ _ l0_1 a1 t102 _ ?_ ?_ A3.out).mono ?_);exact Kd.Cz ((Kd.C_below HR0_1.out HB.out));exact HC0_1.out;rintro e w' ⟨rfl,⟨nd,rfl⟩⟩;refine ⟨_,rfl,?_⟩))
 go_ret
 exact ⟨yer,yhb⟩
def laws_szRuleS.l0:Nat→List (S65)→Int→Int→Option (Int)
 | 0,_,_,_=>none
 | k + 1,x0,x1,x5=>if x5 < (x0.length:Int) then (if 0≤x5 then ((laws_szRule.f ((rd_T65 x0 x5).f0) ((rd_T65 x0 x5).f1) ((rd_T65 x0 x5).f2) x1).bind fun t104=>(if t104 < 0 then (some (-1)) else (laws_szRuleS.l0 k x0 t104 (wrap64 (x5 + 1))))) else (none)) else (some x1)
def laws_szRuleS.f (k:Nat)(l0:List (S65))(a1:Int):Option (Int):=if (wrap64 (a1 - (l0.length:Int))) < 0 then (some (-1)) else (laws_szRuleS.l0 k l0 (wrap64 (a1 - (l0.length:Int))) 0)
theorem laws_szRuleS.calls (k:Nat)(A0:Option Addr)(c0:Nat)(l0:List (S65))(a1:Int)(r:Int)(w:World)(hr0:Kd.C k65 w A0 l0.length l0)(hc0:l0.length≤c0)(h:laws_szRuleS.f k l0 a1=some r) :
  Calls Try.prog 33 #[.slice A0 l0.length c0,.int .i64 a1] w fun e w'=>e= .returned (.int .i64 r)∧Below w.heap.size w w':=by
 have hu65:=Try.underlying65
 have HR0:=yam hr0
 have HC0:=yam hc0
 clear hr0 hc0
 have HB:=yam (Below.refl w.heap.size w)
 unfold laws_szRuleS.f at h
 have H:=h
 clear h
 replace H:=yis H;obtain ⟨c3b0,H⟩ | ⟨c3b0,H⟩:=H
 ·obtain rfl:=ysi H
  go_enter Try.func33,Try.ntmps33
  go_wp2
  go_ret
  exact ⟨yer,yhb⟩
 replace H:=yam H
 go_enter Try.func33,Try.ntmps33
 go_wp2
 go_loopg [1,5] k (fun kq v1 v5 w'=>∃ (x1_1:Int) (x5_1:Int),v1= .int .i64 x1_1∧v5= .int .i64 x5_1∧Aside0 (laws_szRuleS.l0 kq l0 x1_1 x5_1=some r)∧Aside0 (kq≤k)∧Aside0 (Below w.heap.size w w'))
 case atStart=>exact ⟨(wrap64 (a1 - (l0.length:Int))),(0),yeq,yeq,H,⟨Nat.le_refl _⟩,⟨yhb⟩⟩
 case round =>
  clear H
  try clear c3b0
  obtain ⟨x1_1,x5_1,rfl,rfl,HA,HK1,HB⟩:=hrel
  rcases gk with _|k1
  ·exact absurd HA.out (by simp [laws_szRuleS.l0])
  obtain ⟨H⟩:=HA
  simp only [laws_szRuleS.l0] at H
  replace H:=yis H;obtain ⟨c4b0,H⟩ | ⟨c4b0,H⟩:=H
  rotate_left
  ·obtain rfl:=ysi H
   go_wp2
   go_ret
   exact ⟨yer,yhb⟩
  replace H:=yif H;obtain ⟨c5b0,H⟩:=H
  replace H:=ybi H;obtain ⟨t104,A6,H⟩:=H
  try dsimp only at H
  replace H:=yis H;obtain ⟨c7b0,H⟩ | ⟨c7b0,H⟩:=H
  ·obtain rfl:=ysi H
   have p103:0≤(x5_1:Int):=ydt
   have q103:x5_1 < (l0.length:Int):=ydt
   obtain ⟨ad103,A103_1,c103_1,e103,hx103_0,hx103_1,hx103_2,hl103_1,hi103_1⟩:=at_T65 HR0.out x5_1 p103 q103
   cases e103
   replace hx103_0:=ybx HB.out hx103_0
   replace hx103_1:=ybx HB.out hx103_1
   replace hx103_2:=ybx HB.out hx103_2
   have HR103_1:=yam hi103_1
   have HC103_1:=yam hl103_1
   clear hi103_1 hl103_1
   replace p103:=eq_true p103
   replace q103:=eq_true q103
   go_wp2_with (first|(refine goesL_ (some 23) rfl rfl Try.func65 (by kernel_rfl) rfl #[.agg #[.int .i64 ((rd_T65 l0 x5_1).f0),.slice A103_1 ((rd_T65 l0 x5_1).f1).length c103_1,.int .i64 ((rd_T65 l0 x5_1).f2)],.int .i64 x1_1] rfl ymd ?_;(with_reducible refine (laws_szRule.calls ((rd_T65 l0 x5_1).f0) _ _ ((rd_T65 l0 x5_1).f1) ((rd_T65 l0 x5_1).f2) x1_1 t104 _ ?_ ?_ A6.out).mono ?_);exact Kd.Cz ((Kd.C_below HR103_1.out HB.out));exact HC103_1.out;rintro e w8 ⟨rfl,hb⟩;refine ⟨_,rfl,?_⟩;replace HB:=yam (below_step (yez HB.out) hb);(try clear hb)))
   go_ret
   exact ⟨yer,yhb⟩
  replace H:=yam H
  have p103:0≤(x5_1:Int):=ydt
  have q103:x5_1 < (l0.length:Int):=ydt
  obtain ⟨ad103,A103_1,c103_1,e103,hx103_0,hx103_1,hx103_2,hl103_1,hi103_1⟩:=at_T65 HR0.out x5_1 p103 q103
  cases e103
  replace hx103_0:=ybx HB.out hx103_0
  replace hx103_1:=ybx HB.out hx103_1
  replace hx103_2:=ybx HB.out hx103_2
  have HR103_1:=yam hi103_1
  have HC103_1:=yam hl103_1
  clear hi103_1 hl103_1
  replace p103:=eq_true p103
  replace q103:=eq_true q103
  go_wp2_with (first|(refine goesL_ (some 23) rfl rfl Try.func65 (by kernel_rfl) rfl #[.agg #[.int .i64 ((rd_T65 l0 x5_1).f0),.slice A103_1 ((rd_T65 l0 x5_1).f1).length c103_1,.int .i64 ((rd_T65 l0 x5_1).f2)],.int .i64 x1_1] rfl ymd ?_;(with_reducible refine (laws_szRule.calls ((rd_T65 l0 x5_1).f0) _ _ ((rd_T65 l0 x5_1).f1) ((rd_T65 l0 x5_1).f2) x1_1 t104 _ ?_ ?_ A6.out).mono ?_);exact Kd.Cz ((Kd.C_below HR103_1.out HB.out));exact HC103_1.out;rintro e w9 ⟨rfl,hb⟩;refine ⟨_,rfl,?_⟩;replace HB:=yam (below_step (yez HB.out) hb);(try clear hb)))
  go_roundg k1
  case measure=>have:=HK1.out;omega
  case rel=>exact ⟨(t104),(wrap64 (x5_1 + 1)),yeq,yeq,H,⟨by have:=HK1.out;omega⟩,⟨yhb⟩⟩
def laws_szPuzzle.f (k:Nat)(a0_0:Int)(l0_1:List Int)(l0_2:List (S65))(a1:Int):Option (Int):=(laws_szIntS.f l0_1 a1).bind fun t106=>(if t106 < 0 then (some (-1)) else ((laws_szRuleS.f k l0_2 t106).bind fun t107=>(if t107 < 0 then (some (-1)) else (some t107))))
theorem laws_szPuzzle.calls (k:Nat)(a0_0:Int)(A0_1:Option Addr)(c0_1:Nat)(l0_1:List Int)(A0_2:Option Addr)(c0_2:Nat)(l0_2:List (S65))(a1:Int)(r:Int)(w:World)(hr0_1:Kd.C (Kd.int .i64) w A0_1 l0_1.length l0_1)(hc0_1:l0_1.length≤c0_1)(hr0_2:Kd.C k65 w A0_2 l0_2.length l0_2)(hc0_2:l0_2.length≤c0_2)(h:laws_szPuzzle.f k a0_0 l0_1 l0_2 a1=some r) :
  Calls Try.prog 9 #[.agg #[.int .i64 a0_0,.slice A0_1 l0_1.length c0_1,.slice A0_2 l0_2.length c0_2],.int .i64 a1] w fun e w'=>e= .returned (.int .i64 r)∧Below w.heap.size w w':=by
 have hu25:=Try.underlying25
 have HR0_1:=yam hr0_1
 have HC0_1:=yam hc0_1
 clear hr0_1 hc0_1
 have HR0_2:=yam hr0_2
 have HC0_2:=yam hc0_2
 clear hr0_2 hc0_2
 have HB:=yam (Below.refl w.heap.size w)
 unfold laws_szPuzzle.f at h
 have H:=h
 clear h
 replace H:=ybi H;obtain ⟨t106,A3,H⟩:=H
 try dsimp only at H
 replace H:=yis H;obtain ⟨c4b0,H⟩ | ⟨c4b0,H⟩:=H
 ·obtain rfl:=ysi H
  go_enter Try.func9,Try.ntmps9
  go_wp2_with (first|(refine ybe 2 #[.int .i64 a0_0,.slice A0_1 l0_1.length c0_1,.slice A0_2 l0_2.length c0_2] 25 ?_;intro gb105 hg w5 hbox hb;have BK105:=yam (hbox);have GW105:=yam ((by rw [hg];exact (below_size (yez HB.out)):w.heap.size≤gb105));replace HB:=yam (below_step (yez HB.out) hb);have GE105:=GW105;clear hb hbox hg;obtain ⟨hcz6_0,hcz6_1,hcz6_2,hfz6_0,hfz6_1,hfz6_2⟩:=ybc BK105.out)|(refine goesL_ (some 8) rfl rfl Try.func32 (by kernel_rfl) rfl #[.slice A0_1 l0_1.length c0_1,.int .i64 a1] rfl ymd ?_;(with_reducible refine (laws_szIntS.calls _ _ l0_1 a1 t106 _ ?_ ?_ A3.out).mono ?_);exact Kd.Cz ((Kd.C_below HR0_1.out HB.out));exact HC0_1.out;rintro e w' ⟨rfl,⟨nd,rfl⟩⟩;refine ⟨_,rfl,?_⟩))
  go_ret
  exact ⟨yer,yhb⟩
 replace H:=ybi H;obtain ⟨t107,A7,H⟩:=H
 try dsimp only at H
 replace H:=yis H;obtain ⟨c8b0,H⟩ | ⟨c8b0,H⟩:=H
 ·obtain rfl:=ysi H
  go_enter Try.func9,Try.ntmps9
  go_wp2_with (first|(refine ybe 2 #[.int .i64 a0_0,.slice A0_1 l0_1.length c0_1,.slice A0_2 l0_2.length c0_2] 25 ?_;intro gb105 hg w9 hbox hb;have BK105:=yam (hbox);have GW105:=yam ((by rw [hg];exact (below_size (yez HB.out)):w.heap.size≤gb105));replace HB:=yam (below_step (yez HB.out) hb);have GE105:=GW105;clear hb hbox hg;obtain ⟨hcz10_0,hcz10_1,hcz10_2,hfz10_0,hfz10_1,hfz10_2⟩:=ybc BK105.out)|(refine goesL_ (some 8) rfl rfl Try.func32 (by kernel_rfl) rfl #[.slice A0_1 l0_1.length c0_1,.int .i64 a1] rfl ymd ?_;(with_reducible refine (laws_szIntS.calls _ _ l0_1 a1 t106 _ ?_ ?_ A3.out).mono ?_);exact Kd.Cz ((Kd.C_below HR0_1.out HB.out));exact HC0_1.out;rintro e w' ⟨rfl,⟨nd,rfl⟩⟩;refine ⟨_,rfl,?_⟩)|(refine goesL_ (some 14) rfl rfl Try.func33 (by kernel_rfl) rfl #[.slice A0_2 l0_2.length c0_2,.int .i64 t106] rfl ymd ?_;(with_reducible refine (laws_szRuleS.calls k _ _ l0_2 t106 t107 _ ?side1 ?side2 A7.out).mono ?_);(case side1=>repeat (first|exact (Kd.C_below HR0_2.out yhb)|(with_reducible refine Kd.C_alloc ?_ _)|(with_reducible refine Kd.C_drewN ?_ _)|(with_reducible refine Kd.C_drew ?_)));(case side2=>exact HC0_2.out);rintro e w11 ⟨rfl,hb⟩;refine ⟨_,rfl,?_⟩;replace BK105:=yam (ybb BK105.out hb);replace HB:=yam (below_step yhb hb);(try clear hb)))
  go_ret
  exact ⟨yer,yhb⟩
 obtain rfl:=ysi H
 go_enter Try.func9,Try.ntmps9
 go_wp2_with (first|(refine ybe 2 #[.int .i64 a0_0,.slice A0_1 l0_1.length c0_1,.slice A0_2 l0_2.length c0_2] 25 ?_;intro gb105 hg w12 hbox hb;have BK105:=yam (hbox);have GW105:=yam ((by rw [hg];exact (below_size (yez HB.out)):w.heap.size≤gb105));replace HB:=yam (below_step (yez HB.out) hb);have GE105:=GW105;clear hb hbox hg;obtain ⟨hcz13_0,hcz13_1,hcz13_2,hfz13_0,hfz13_1,hfz13_2⟩:=ybc BK105.out)|(refine goesL_ (some 8) rfl rfl Try.func32 (by kernel_rfl) rfl #[.slice A0_1 l0_1.length c0_1,.int .i64 a1] rfl ymd ?_;(with_reducible refine (laws_szIntS.calls _ _ l0_1 a1 t106 _ ?_ ?_ A3.out).mono ?_);exact Kd.Cz ((Kd.C_below HR0_1.out HB.out));exact HC0_1.out;rintro e w' ⟨rfl,⟨nd,rfl⟩⟩;refine ⟨_,rfl,?_⟩)|(refine goesL_ (some 14) rfl rfl Try.func33 (by kernel_rfl) rfl #[.slice A0_2 l0_2.length c0_2,.int .i64 t106] rfl ymd ?_;(with_reducible refine (laws_szRuleS.calls k _ _ l0_2 t106 t107 _ ?side1 ?side2 A7.out).mono ?_);(case side1=>repeat (first|exact (Kd.C_below HR0_2.out yhb)|(with_reducible refine Kd.C_alloc ?_ _)|(with_reducible refine Kd.C_drewN ?_ _)|(with_reducible refine Kd.C_drew ?_)));(case side2=>exact HC0_2.out);rintro e w14 ⟨rfl,hb⟩;refine ⟨_,rfl,?_⟩;replace BK105:=yam (ybb BK105.out hb);replace HB:=yam (below_step yhb hb);(try clear hb)))
 go_ret
 exact ⟨yer,yhb⟩
def laws_toIntS.l0:Nat→List Int→List Int→Int→Option (List Int)
 | 0,_,_,_=>none
 | k + 1,x0,x3,x4=>if x4 < (x0.length:Int) then (if 0≤x4 then (if x4 < (x3.length:Int) then (laws_toIntS.l0 k x0 (x3.set (x4:Int).toNat (rd x0 x4)) (wrap64 (x4 + 1))) else (none)) else (none)) else (some x3)
def laws_toIntS.f (k:Nat)(l0:List Int):Option (List Int):=if 0≤(l0.length:Int) then (if ((l0.length:Int):Int).toNat≤35184372088832 then (laws_toIntS.l0 k l0 (List.replicate ((l0.length:Int):Int).toNat 0) 0) else (none)) else (none)
theorem laws_toIntS.calls (k:Nat)(A0:Option Addr)(c0:Nat)(l0:List Int)(r:List Int)(w:World)(hr0:Kd.C (Kd.int .i64) w A0 l0.length l0)(hc0:l0.length≤c0)(h:laws_toIntS.f k l0=some r) :
  Calls Try.prog 26 #[.slice A0 l0.length c0] w fun e w'=>∃ v0_:Value,e= .returned (v0_)∧Kd.R (Kd.int .i64) 3 w' w.heap.size (fun _=>True) v0_ r∧Below w.heap.size w w':=by
 have HR0:=yam hr0
 have HC0:=yam hc0
 clear hr0 hc0
 have HB:=yam (Below.refl w.heap.size w)
 unfold laws_toIntS.f at h
 have H:=h
 clear h
 replace H:=yit H;obtain ⟨c2,H⟩ | ⟨c2,H⟩:=H
 rotate_left
 ·exact absurd H (by simp)
 have c2b0:=eq_true c2
 have c2b1:decide (0≤(l0.length:Int))=true:=decide_eq_true c2
 clear c2
 replace H:=yig H;obtain ⟨c3,H⟩:=H
 have c3b0:=eq_true c3
 have c3b1:decide (((l0.length:Int):Int).toNat≤35184372088832)=true:=decide_eq_true c3
 clear c3
 obtain ⟨y343,Ny343⟩:∃ y_:List Int,Aside0 (y_=(List.replicate ((l0.length:Int):Int).toNat 0)):=⟨_,⟨rfl⟩⟩
 replace H:(laws_toIntS.l0 k l0 y343 0)=some r:=yhn Ny343.out H
 replace H:=yam H
 go_enter Try.func26,Try.ntmps26
 go_wp2_with (first|((with_reducible refine gate_dst (N:=7) rfl ?_);refine Kd.R_make (Kd.int .i64) _ 3 rfl (N:=7) rfl 22 _ _ rfl (l0.length:Int) rfl rfl Try.underlying22 (.int .i64 0) 8 info3 rfl (by decide) (by omega) 0 (ok:=fun _=>True) (okp:=fun _=>True) rfl (fun _ hk=>hk) trivial (ydt) (Nat.le_trans (Nat.mul_le_mul_right _ (ydt:(l0.length:Int).toNat≤35184372088832)) (by omega)) (Below.refl _ _) (Nat.le_refl _) ?_;intro v344 w4 ho5 hb hg_ hnew_;clear hg_ hnew_;(first|rw [← Ny343.out] at ho5|(simp only [Int.reduceToNat] at ho5;rw [← Ny343.out] at ho5));have HO345:=yam (Kd.R_lower ho5 (below_size (yez HB.out)));replace HB:=yam (below_step (yez HB.out) hb);clear hb ho5))
 go_loopg [4] k (fun kq v4 w'=>∃ (x3_1:List Int) (x4_1:Int),v4= .int .i64 x4_1∧Aside0 (laws_toIntS.l0 kq l0 x3_1 x4_1=some r)∧Aside0 (kq≤k)∧Aside0 (Kd.R (Kd.int .i64) 3 w' w.heap.size (fun _=>True) v344 x3_1)∧Aside0 (Below w.heap.size w w'))
 case atStart=>exact ⟨(y343),(0),yeq,H,⟨Nat.le_refl _⟩,⟨yka HO345.out⟩,⟨yhb⟩⟩
 case round =>
  clear H
  try clear c2b0
  try clear c2b1
  try clear c3b0
  try clear c3b1
  obtain ⟨x3_1,x4_1,rfl,HA,HK1,HO_3,HB⟩:=hrel
  rcases gk with _|k1
  ·exact absurd HA.out (by simp [laws_toIntS.l0])
  obtain ⟨H⟩:=HA
  simp only [laws_toIntS.l0] at H
  replace H:=yis H;obtain ⟨c6b0,H⟩ | ⟨c6b0,H⟩:=H
  rotate_left
  ·obtain rfl:=ysi H
   go_wp2
   go_ret
   exact ⟨_,yer,yka HO_3.out,yhb⟩
  replace H:=yif H;obtain ⟨c7b0,H⟩:=H
  replace H:=yif H;obtain ⟨c8b0,H⟩:=H
  obtain ⟨y347,Ny347⟩:∃ y_:List Int,Aside0 (y_=(x3_1.set (x4_1:Int).toNat (rd l0 x4_1))):=⟨_,⟨rfl⟩⟩
  replace H:(laws_toIntS.l0 k1 l0 y347 (wrap64 (x4_1 + 1)))=some r:=yhn Ny347.out H
  replace H:=yam H
  obtain ⟨ad346,e346,hx346_0,p346,q346⟩:=yat HR0.out x4_1
  cases e346
  replace hx346_0:=ybx HB.out hx346_0
  have p9:0≤(x4_1:Int):=ydt
  have q9:(x4_1:Int) < ((x3_1.length:Int):Int):=ydt
  obtain ⟨go9,co9,eo9,gb9,gl9,cl9,HG9⟩:=Kd.R_form HO_3.out (by omega)
  (first|cases eo9|(injection eo9 with ea_ en_ ec_;(first|subst ea_|(injection ea_ with ea_;subst ea_));subst ec_;clear en_))
  have GB9:=yam gb9
  have GG9:=yam HG9
  clear gb9 gl9 HG9
  obtain ⟨hx9_0,hf9_0⟩:=Kd.R_celln 0 HO_3.out (x4_1:Int) p9 q9
  replace p9:=eq_true p9
  replace q9:=eq_true q9
  have HP10:=Kd.R_putg HO_3.out (x4_1:Int) (rd l0 x4_1)
  go_wp2_with (first|((with_reducible refine gate_store (t:=3) (p:=20) rfl ?_);refine store_event (t:=3) (p:=20) (v:=?vo_w11) (w1:=(wr.setCell ⟨go9,(x4_1:Int).toNat,none⟩ (.int .i64 (rd l0 x4_1)))) ?hg ?ho ?hn ?hr ?_;(case ho=>rfl);(case hg=>rfl);(case hn=>rfl);(case hr=>first|(go_simp;done)|(go_simp;rfl));intro w11 hw;have hg:wr.grownBy w11 (some go9):=(by rw [hw];exact HP10.2);have hp_:Kd.R (Kd.int .i64) 3 w11 w.heap.size (fun _=>True) (.slice (some ⟨go9,0,none⟩) x3_1.length co9) y347:=(by rw [hw,Ny347.out];exact HP10.1);clear HP10;replace HO_3:=yam (hp_);replace HB:=yam ((by rw [hw];exact below_set (HB.out) GB9.out:Below w.heap.size w w11));clear hg hw hp_))
  go_roundg k1
  case measure=>have:=HK1.out;omega
  case rel=>exact ⟨(y347),(wrap64 (x4_1 + 1)),yeq,H,⟨by have:=HK1.out;omega⟩,⟨yka HO_3.out⟩,⟨yhb⟩⟩
def laws_toRule.f (k:Nat)(a0_0:Int)(l0_1:List Int)(a0_2:Int):Option (Int × List Int × Int):=(laws_toIntS.f k l0_1).bind fun t351=>(some (a0_0,t351,a0_2))
theorem laws_toRule.calls (k:Nat)(a0_0:Int)(A0_1:Option Addr)(c0_1:Nat)(l0_1:List Int)(a0_2:Int)(r1:Int)(r2:List Int)(r3:Int)(w:World)(hr0_1:Kd.C (Kd.int .i64) w A0_1 l0_1.length l0_1)(hc0_1:l0_1.length≤c0_1)(h:laws_toRule.f k a0_0 l0_1 a0_2=some (r1,r2,r3)) :
  Calls Try.prog 68 #[.agg #[.int .i64 a0_0,.slice A0_1 l0_1.length c0_1,.int .i64 a0_2]] w fun e w'=>∃ v1_:Value,e= .returned (.agg #[.int .i64 r1,v1_,.int .i64 r3])∧Kd.R (Kd.int .i64) 3 w' w.heap.size (fun _=>True) v1_ r2∧Below w.heap.size w w':=by
 have hu65:=Try.underlying65
 have hu67:=Try.underlying67
 have HR0_1:=yam hr0_1
 have HC0_1:=yam hc0_1
 clear hr0_1 hc0_1
 have HB:=yam (Below.refl w.heap.size w)
 unfold laws_toRule.f at h
 have H:=h
 clear h
 replace H:=ybi H;obtain ⟨t351,A2,H⟩:=H
 replace H:(some (a0_0,t351,a0_2))=some (r1,r2,r3):=H
 simp only [Option.some.injEq,Prod.mk.injEq] at H
 obtain ⟨rfl,rfl,rfl⟩:=H
 go_enter Try.func68,Try.ntmps68
 go_wp2_with (first|(refine ybe 1 #[.int .i64 a0_0,.slice A0_1 l0_1.length c0_1,.int .i64 a0_2] 65 ?_;intro gb348 hg w3 hbox hb;have BK348:=yam (hbox);have GW348:=yam ((by rw [hg];exact (below_size (yez HB.out)):w.heap.size≤gb348));replace HB:=yam (below_step (yez HB.out) hb);have GE348:=GW348;clear hb hbox hg)|(refine ybe 2 #[.int .i64 0,.slice none 0 0,.int .i64 0] 67 ?_;intro gb349 hg w4 hbox hb;have BK349:=yam (hbox);have GW349:=yam ((by rw [hg];exact (below_size yhb):w.heap.size≤gb349));replace HB:=yam (below_step yhb hb);have GE349:=GW349;have NB348_349:=yam ((by rw [hg];exact Nat.ne_of_lt (blk_lt (g:=gb348) (o:= .cells #[.int .i64 a0_0,.slice A0_1 l0_1.length c0_1,.int .i64 a0_2] 65 (0,0)) (ybz BK348.out)):gb348≠gb349));have NB349_348:=yam ((by rw [hg];exact Nat.ne_of_gt (blk_lt (g:=gb348) (o:= .cells #[.int .i64 a0_0,.slice A0_1 l0_1.length c0_1,.int .i64 a0_2] 65 (0,0)) (ybz BK348.out)):gb349≠gb348));replace BK348:=yam (ybb BK348.out hb);clear hb hbox hg)|(refine ybe 3 #[.int .i64 0,.slice none 0 0,.int .i64 0] 67 ?_;intro gb350 hg w5 hbox hb;have BK350:=yam (hbox);have GW350:=yam ((by rw [hg];exact (below_size yhb):w.heap.size≤gb350));replace HB:=yam (below_step yhb hb);have GE350:=GW350;have NB348_350:=yam ((by rw [hg];exact Nat.ne_of_lt (blk_lt (g:=gb348) (o:= .cells #[.int .i64 a0_0,.slice A0_1 l0_1.length c0_1,.int .i64 a0_2] 65 (0,0)) (ybz BK348.out)):gb348≠gb350));have NB350_348:=yam ((by rw [hg];exact Nat.ne_of_gt (blk_lt (g:=gb348) (o:= .cells #[.int .i64 a0_0,.slice A0_1 l0_1.length c0_1,.int .i64 a0_2] 65 (0,0)) (ybz BK348.out)):gb350≠gb348));replace BK348:=yam (ybb BK348.out hb);have NB349_350:=yam ((by rw [hg];exact Nat.ne_of_lt (blk_lt (g:=gb349) (o:= .cells #[.int .i64 0,.slice none 0 0,.int .i64 0] 67 (0,0)) (ybz BK349.out)):gb349≠gb350));have NB350_349:=yam ((by rw [hg];exact Nat.ne_of_gt (blk_lt (g:=gb349) (o:= .cells #[.int .i64 0,.slice none 0 0,.int .i64 0] 67 (0,0)) (ybz BK349.out)):gb350≠gb349));replace BK349:=yam (ybb BK349.out hb);clear hb hbox hg;have hnb6:=NB348_349.out;have hnc6:=NB349_348.out;have hnb7:=NB348_350.out;have hnc7:=NB350_348.out;obtain ⟨hcz8_0,hcz8_1,hcz8_2,hfz8_0,hfz8_1,hfz8_2⟩:=ybc BK348.out;have hnb9:=NB350_349.out;have hnc9:=NB349_350.out;obtain ⟨hcz10_0,hcz10_1,hcz10_2,hfz10_0,hfz10_1,hfz10_2⟩:=ybc BK350.out)|(refine goesL_ (some 9) rfl rfl Try.func26 (by kernel_rfl) rfl #[.slice A0_1 l0_1.length c0_1] rfl ymd ?_;(with_reducible refine (laws_toIntS.calls k _ _ l0_1 t351 _ ?_ ?_ A2.out).mono ?_);exact Kd.C_below HR0_1.out yhb;exact HC0_1.out;rintro e w11 ⟨v352,rfl,ho0,hb⟩;refine ⟨_,rfl,?_⟩;have HO353:=yam (Kd.R_lower ho0 (below_size yhb));replace BK348:=yam (blk_below (g:=gb348) (o:= .cells #[.int .i64 a0_0,.slice A0_1 l0_1.length c0_1,.int .i64 a0_2] 65 (0,0)) (by (with_reducible repeat (first|refine ybn ?_ _|refine ybd ?_|refine yba ?_ _));refine blk_far ?_ NB348_350.out _;(with_reducible repeat (first|refine ybn ?_ _|refine ybd ?_|refine yba ?_ _));exact BK348.out) hb);replace BK349:=yam (blk_below (g:=gb349) (o:= .cells #[.int .i64 0,.slice none 0 0,.int .i64 0] 67 (0,0)) (by (with_reducible repeat (first|refine ybn ?_ _|refine ybd ?_|refine yba ?_ _));refine blk_far ?_ NB349_350.out _;(with_reducible repeat (first|refine ybn ?_ _|refine ybd ?_|refine yba ?_ _));exact BK349.out) hb);replace BK350:=yam (blk_below (g:=gb350) (o:= .cells #[.int .i64 a0_0,.slice none 0 0,.int .i64 0] 67 (0,0)) (by (with_reducible repeat (first|refine ybn ?_ _|refine ybd ?_|refine yba ?_ _));refine blk_put (cs:= #[.int .i64 0,.slice none 0 0,.int .i64 0]) ?_ 0 _ rfl;(with_reducible repeat (first|refine ybn ?_ _|refine ybd ?_|refine yba ?_ _));exact BK350.out) hb);replace HB:=yam (below_step yhb hb);(try clear hb);(try clear ho0);obtain ⟨Ao12,co12,eo12⟩:=Kd.R_slice HO353.out;subst eo12;obtain ⟨hcz13_0,hcz13_1,hcz13_2,hfz13_0,hfz13_1,hfz13_2⟩:=ybc BK350.out;obtain ⟨hcz14_0,hcz14_1,hcz14_2,hfz14_0,hfz14_1,hfz14_2⟩:=ybc BK348.out;obtain ⟨hcz15_0,hcz15_1,hcz15_2,hfz15_0,hfz15_1,hfz15_2⟩:=ybc BK349.out))
 refine bodyPost_ret (results_cell_row rfl _ _ gb349 67 #[.int .i64 a0_0,.slice Ao12 t351.length co12,.int .i64 a0_2] (0,0) _ rfl (by (with_reducible repeat (first|refine ybn ?_ _|refine ybd ?_|refine yba ?_ _));refine blk_put (cs:= #[.int .i64 a0_0,.slice Ao12 t351.length co12,.int .i64 0]) ?_ 2 _ rfl;(with_reducible repeat (first|refine ybn ?_ _|refine ybd ?_|refine yba ?_ _));refine blk_put (cs:= #[.int .i64 a0_0,.slice none 0 0,.int .i64 0]) ?_ 1 _ rfl;(with_reducible repeat (first|refine ybn ?_ _|refine ybd ?_|refine yba ?_ _));refine blk_put (cs:= #[.int .i64 0,.slice none 0 0,.int .i64 0]) ?_ 0 _ rfl;(with_reducible repeat (first|refine ybn ?_ _|refine ybd ?_|refine yba ?_ _));refine blk_far ?_ NB349_350.out _;(with_reducible repeat (first|refine ybn ?_ _|refine ybd ?_|refine yba ?_ _));refine blk_far ?_ NB349_350.out _;(with_reducible repeat (first|refine ybn ?_ _|refine ybd ?_|refine yba ?_ _));exact BK349.out) Try.underlying67 rfl (by kernel_rfl)) rfl ?_
 exact ⟨_,yer,by (with_reducible repeat (first|apply Kd.Ya|apply Kd.Yn|apply Kd.Yd));exact Kd.R_mono (Kd.R_far (p:=⟨gb349,2,none⟩) (Kd.R_far (p:=⟨gb349,1,none⟩) (Kd.R_far (p:=⟨gb349,0,none⟩) (Kd.R_far (p:=⟨gb350,2,none⟩) (Kd.R_far (p:=⟨gb350,1,none⟩) (Kd.R_types (Kd.R_types HO353.out BK350.out (by decide)) BK349.out (by decide)) (fun _ hk=>hk.1.2) (.slice Ao12 t351.length co12)) (fun _ hk=>hk.1.2) (.int .i64 a0_2)) (fun _ hk=>hk.2) (.int .i64 a0_0)) (fun _ hk=>hk.2) (.slice Ao12 t351.length co12)) (fun _ hk=>hk.2) (.int .i64 a0_2)) (fun _ hk=>trivial),yhb⟩
def laws_toRuleS.l0:Nat→List (S65)→List (S67)→Int→Option ((List (S67)))
 | 0,_,_,_=>none
 | k + 1,x0,x3,x4=>if x4 < (x0.length:Int) then (if 0≤x4 then ((laws_toRule.f k ((rd_T65 x0 x4).f0) ((rd_T65 x0 x4).f1) ((rd_T65 x0 x4).f2)).bind fun bt358=>(if x4 < (x3.length:Int) then (laws_toRuleS.l0 k x0 (x3.set (x4:Int).toNat (⟨bt358.1,bt358.2.1,bt358.2.2⟩:S67)) (wrap64 (x4 + 1))) else (none))) else (none)) else (some x3)
def laws_toRuleS.f (k:Nat)(l0:List (S65)):Option ((List (S67))):=if 0≤(l0.length:Int) then (if ((l0.length:Int):Int).toNat≤7036874417766 then (laws_toRuleS.l0 k l0 (List.replicate ((l0.length:Int):Int).toNat z67) 0) else (none)) else (none)
theorem laws_toRuleS.calls (k:Nat)(A0:Option Addr)(c0:Nat)(l0:List (S65))(r:List (S67))(w:World)(hr0:Kd.C k65 w A0 l0.length l0)(hc0:l0.length≤c0)(h:laws_toRuleS.f k l0=some r) :
  Calls Try.prog 35 #[.slice A0 l0.length c0] w fun e w'=>∃ v0_:Value,e= .returned (v0_)∧Kd.S k67 67 w' w.heap.size (fun _=>True) v0_ r∧Below w.heap.size w w':=by
 have hu65:=Try.underlying65
 have hu67:=Try.underlying67
 have HR0:=yam hr0
 have HC0:=yam hc0
 clear hr0 hc0
 have HB:=yam (Below.refl w.heap.size w)
 unfold laws_toRuleS.f at h
 have H:=h
 clear h
 replace H:=yit H;obtain ⟨c2,H⟩ | ⟨c2,H⟩:=H
 rotate_left
 ·exact absurd H (by simp)
 have c2b0:=eq_true c2
 have c2b1:decide (0≤(l0.length:Int))=true:=decide_eq_true c2
 clear c2
 replace H:=yig H;obtain ⟨c3,H⟩:=H
 have c3b0:=eq_true c3
 have c3b1:decide (((l0.length:Int):Int).toNat≤7036874417766)=true:=decide_eq_true c3
 clear c3
 obtain ⟨y354,Ny354⟩:∃ y_:List (S67),Aside0 (y_=(List.replicate ((l0.length:Int):Int).toNat z67)):=⟨_,⟨rfl⟩⟩
 replace H:(laws_toRuleS.l0 k l0 y354 0)=some r:=yhn Ny354.out H
 replace H:=yam H
 go_enter Try.func35,Try.ntmps35
 go_wp2_with (first|((with_reducible refine gate_dst (N:=7) rfl ?_);refine Kd.S_make k67 _ 67 rfl (N:=7) rfl 28 _ _ rfl (l0.length:Int) rfl rfl Try.underlying28 (.agg #[(.int .i64 0),(.slice none 0 0),(.int .i64 0)]) 40 info67 rfl (by decide) (by omega) z67 (ok:=fun _=>True) (okp:=fun _=>True) (k67_mkM _ _ _ z67 (Kd.R_nil _ _ _ _ _)) (fun _ hk=>hk) trivial (ydt) (Nat.le_trans (Nat.mul_le_mul_right _ (ydt:(l0.length:Int).toNat≤7036874417766)) (by omega)) (Below.refl _ _) (Nat.le_refl _) ?_;intro v355 w4 ho5 hb hg_ hnew_;clear hg_ hnew_;(first|rw [← Ny354.out] at ho5|(simp only [Int.reduceToNat] at ho5;rw [← Ny354.out] at ho5));have HO356:=yam (Kd.S_lower ho5 (below_size (yez HB.out)));replace HB:=yam (below_step (yez HB.out) hb);clear hb ho5))
 go_loopg [4] k (fun kq v4 w'=>∃ (x3_1:List (S67)) (x4_1:Int),v4= .int .i64 x4_1∧Aside0 (laws_toRuleS.l0 kq l0 x3_1 x4_1=some r)∧Aside0 (kq≤k)∧Aside0 (Kd.S k67 67 w' w.heap.size (fun _=>True) v355 x3_1)∧Aside0 (Below w.heap.size w w'))
 case atStart=>exact ⟨(y354),(0),yeq,H,⟨Nat.le_refl _⟩,⟨by (with_reducible repeat (first|apply Kd.S_alloc|apply Kd.S_drewN|apply Kd.S_drew));exact HO356.out⟩,⟨yhb⟩⟩
 case round =>
  clear H
  try clear c2b0
  try clear c2b1
  try clear c3b0
  try clear c3b1
  obtain ⟨x3_1,x4_1,rfl,HA,HK1,HO_3,HB⟩:=hrel
  rcases gk with _|k1
  ·exact absurd HA.out (by simp [laws_toRuleS.l0])
  obtain ⟨H⟩:=HA
  simp only [laws_toRuleS.l0] at H
  replace H:=yis H;obtain ⟨c6b0,H⟩ | ⟨c6b0,H⟩:=H
  rotate_left
  ·obtain rfl:=ysi H
   go_wp2
   go_ret
   exact ⟨_,yer,by (with_reducible repeat (first|apply Kd.S_alloc|apply Kd.S_drewN|apply Kd.S_drew));exact HO_3.out,yhb⟩
  replace H:=yif H;obtain ⟨c7b0,H⟩:=H
  replace H:=ybi H;obtain ⟨⟨t358,t359,t362⟩,A8,H⟩:=H
  try dsimp only at H
  replace H:=yif H;obtain ⟨c9b0,H⟩:=H
  obtain ⟨y363,Ny363⟩:∃ y_:List (S67),Aside0 (y_=(x3_1.set (x4_1:Int).toNat (⟨t358,t359,t362⟩:S67))):=⟨_,⟨rfl⟩⟩
  replace H:(laws_toRuleS.l0 k1 l0 y363 (wrap64 (x4_1 + 1)))=some r:=yhn Ny363.out H
  replace H:=yam H
  have p357:0≤(x4_1:Int):=ydt
  have q357:x4_1 < (l0.length:Int):=ydt
  obtain ⟨ad357,A357_1,c357_1,e357,hx357_0,hx357_1,hx357_2,hl357_1,hi357_1⟩:=at_T65 HR0.out x4_1 p357 q357
  cases e357
  replace hx357_0:=ybx HB.out hx357_0
  replace hx357_1:=ybx HB.out hx357_1
  replace hx357_2:=ybx HB.out hx357_2
  have HR357_1:=yam hi357_1
  have HC357_1:=yam hl357_1
  clear hi357_1 hl357_1
  replace p357:=eq_true p357
  replace q357:=eq_true q357
  go_wp2_with (first|(refine goesL_ (some 20) rfl rfl Try.func68 (by kernel_rfl) rfl #[.agg #[.int .i64 ((rd_T65 l0 x4_1).f0),.slice A357_1 ((rd_T65 l0 x4_1).f1).length c357_1,.int .i64 ((rd_T65 l0 x4_1).f2)]] rfl ymd ?_;(with_reducible refine (laws_toRule.calls k1 ((rd_T65 l0 x4_1).f0) _ _ ((rd_T65 l0 x4_1).f1) ((rd_T65 l0 x4_1).f2) t358 t359 t362 _ ?_ ?_ A8.out).mono ?_);exact Kd.Cz ((Kd.C_below HR357_1.out HB.out));exact HC357_1.out;rintro e w11 ⟨v360,rfl,ho0,hb⟩;obtain ⟨Aq_v360,cq_v360,eq_v360⟩:=Kd.R_slice ho0;subst eq_v360;refine ⟨_,rfl,?_⟩;replace HO_3:=yam (Kd.S_elder' (by (with_reducible repeat (first|apply Kd.S_alloc|apply Kd.S_drewN|apply Kd.S_drew));exact HO_3.out) (Kd.Yb ho0) hb);have HO361:=yam (Kd.R_lower ho0 (below_size (yez HB.out)));replace HB:=yam (below_step (yez HB.out) hb);(try clear hb);(try clear ho0);have p10:0≤(x4_1:Int):=ydt;have q10:(x4_1:Int) < ((x3_1.length:Int):Int):=ydt;obtain ⟨go10,co10,eo10,gb10,gl10,cl10,HG10⟩:=Kd.S_form HO_3.out (by omega);(first|cases eo10|(injection eo10 with ea_ en_ ec_;(first|subst ea_|(injection ea_ with ea_;subst ea_));subst ec_;clear en_));have GB10:=yam gb10;have GG10:=yam HG10;clear gb10 gl10 HG10;obtain ⟨_,ce10,hcl10,hM10,hcc10,hfr10,_,_⟩:=Kd.S_elem HO_3.out z67 (x4_1:Int) p10 q10;obtain ⟨ve10_1,rfl,ge10_1⟩:=k67_openM hM10;have hx10_0:w11.cell? ⟨go10,(x4_1:Int).toNat * 3,none⟩=some (.int .i64 ((rd_T67 x3_1 x4_1).f0)):=hcc10 0 _ rfl;have hx10_1:w11.cell? ⟨go10,(x4_1:Int).toNat * 3 + 1,none⟩=some (ve10_1):=hcc10 1 _ rfl;have hx10_2:w11.cell? ⟨go10,(x4_1:Int).toNat * 3 + 2,none⟩=some (.int .i64 ((rd_T67 x3_1 x4_1).f2)):=hcc10 2 _ rfl;have hf10_0:w11.frozen? ⟨go10,(x4_1:Int).toNat * 3,none⟩=false:=hfr10 0;have hf10_1:w11.frozen? ⟨go10,(x4_1:Int).toNat * 3 + 1,none⟩=false:=hfr10 1;have hf10_2:w11.frozen? ⟨go10,(x4_1:Int).toNat * 3 + 2,none⟩=false:=hfr10 2;clear hcl10 hcc10 hfr10 hM10;replace p10:=eq_true p10;replace q10:=eq_true q10;have n_:=yam (Kd.S_mono (ok':=(fun k_=>some k_≠((.slice Aq_v360 (t359).length cq_v360):Value).ownBlock)) HO_3.out (fun k_ hk=>hk.2));clear HO_3;have HO_3:=n_;clear n_;have HX12:=yam (show Kd.S k67 67 w11 w.heap.size (fun k_=>((fun _=>True)) k_∧¬ ((fun k_=>some k_=((.slice Aq_v360 (t359).length cq_v360):Value).ownBlock)) k_) (.slice (some ⟨go10,0,none⟩) x3_1.length co10) x3_1 from (by (with_reducible repeat (first|apply Kd.S_alloc|apply Kd.S_drewN|apply Kd.S_drew));exact Kd.S_mono HO_3.out (fun k_ hk=>⟨trivial,fun e_=>hk e_⟩)));obtain ⟨oki12,ce12,hcl12,hM12,hcc12,hfr12,hoki12,hH12⟩:=Kd.S_elem HX12.out z67 (x4_1:Int) (ydt) (by have h_:(x4_1:Int) < ((x3_1.length:Int):Int):=ydt;first|exact h_|(have e_:=(Kd.S_reads' HO_3.out).1;omega)|simpa using h_);obtain ⟨ve12_1,rfl,ge12_1⟩:=k67_openM hM12;have HP12:=Kd.S_seg hH12 (ydt) (by have h_:(x4_1:Int) < ((x3_1.length:Int):Int):=ydt;first|exact h_|(have e_:=(Kd.S_reads' HO_3.out).1;omega)|simpa using h_) (seg:=[.int .i64 t358,(.slice Aq_v360 (t359).length cq_v360),.int .i64 t362]) (j:=0) (show 3≤3 from by decide) (x':=(⟨t358,t359,t362⟩:S67)) (k67_mkM _ _ _ (⟨t358,t359,t362⟩:S67) (Kd.R_mono (Kd.R_tight rfl (Kd.R_mono (ok':=fun k_=>((fun _=>True)) k_∧k_≠go10) (Kd.R_apart' (HO361.out) (Kd.S_typed HO_3.out) (by decide)) (fun k_ hk=>⟨trivial,fun e_=>(hk.2) (by rw [e_];rfl)⟩))) (fun _ h_=>Or.inr (h_)))) (fun _ hk=>hk) (fun k_ hk_=>((Kd.R_mono (ok':=fun k_=>((fun _=>True)) k_∧k_≠go10) (Kd.R_apart' (HO361.out) (Kd.S_typed HO_3.out) (by decide)) (fun k_ hk=>⟨trivial,fun e_=>(hk.2) (by rw [e_];rfl)⟩))).1 k_ hk_.symm);have hx12_0:=hcc12 0 _ rfl;(try simp only [show (k67).sz=3 from rfl,Nat.mul_one,Nat.add_zero] at hx12_0);have hf12_0:=hfr12 0;(try simp only [show (k67).sz=3 from rfl,Nat.mul_one,Nat.add_zero] at hf12_0);have hx12_1:=hcc12 1 _ rfl;(try simp only [show (k67).sz=3 from rfl,Nat.mul_one,Nat.add_zero] at hx12_1);have hf12_1:=hfr12 1;(try simp only [show (k67).sz=3 from rfl,Nat.mul_one,Nat.add_zero] at hf12_1);have hx12_2:=hcc12 2 _ rfl;(try simp only [show (k67).sz=3 from rfl,Nat.mul_one,Nat.add_zero] at hx12_2);have hf12_2:=hfr12 2;(try simp only [show (k67).sz=3 from rfl,Nat.mul_one,Nat.add_zero] at hf12_2);clear hcl12 hcc12 hfr12 hM12 hoki12 hH12)|((with_reducible refine gate_store (t:=67) (p:=21) rfl ?_);refine store_event (t:=67) (p:=21) (v:=?vo_w13) (w1:=(((w11.setCell ⟨go10,(x4_1:Int).toNat * 3,none⟩ (.int .i64 t358)).setCell ⟨go10,(x4_1:Int).toNat * 3 + 1,none⟩ ((.slice Aq_v360 (t359).length cq_v360))).setCell ⟨go10,(x4_1:Int).toNat * 3 + 2,none⟩ (.int .i64 t362))) ?hg ?ho ?hn ?hr ?_;(case ho=>rfl);(case hg=>rfl);(case hn=>rfl);(case hr=>first|(go_simp;done)|(go_simp;rfl));intro w13 hw;have hg:w11.grownBy w13 (some go10):=(by rw [hw];exact HP12.2);have hp_:Kd.S k67 67 w13 w.heap.size (fun _=>True) (.slice (some ⟨go10,0,none⟩) x3_1.length co10) y363:=(by rw [hw,Ny363.out];exact HP12.1);clear HP12;replace HO_3:=yam (hp_);replace HB:=yam ((by rw [hw];exact below_set (below_set (below_set (HB.out) GB10.out) GB10.out) GB10.out:Below w.heap.size w w13));clear HO361;clear hg hw hp_))
  go_roundg k1
  case measure=>have:=HK1.out;omega
  case rel=>exact ⟨(y363),(wrap64 (x4_1 + 1)),yeq,H,⟨by have:=HK1.out;omega⟩,⟨by (with_reducible repeat (first|apply Kd.S_alloc|apply Kd.S_drewN|apply Kd.S_drew));exact HO_3.out⟩,⟨yhb⟩⟩
def laws_toPuzzle.f (k:Nat)(a0_0:Int)(l0_1:List Int)(l0_2:List (S65)):Option (Int × List Int × (List (S67))):=(laws_toIntS.f k l0_1).bind fun t367=>((laws_toRuleS.f k l0_2).bind fun t370=>(some (a0_0,t367,t370)))
theorem laws_toPuzzle.calls (k:Nat)(a0_0:Int)(A0_1:Option Addr)(c0_1:Nat)(l0_1:List Int)(A0_2:Option Addr)(c0_2:Nat)(l0_2:List (S65))(r1:Int)(r2:List Int)(r3:List (S67))(w:World)(hr0_1:Kd.C (Kd.int .i64) w A0_1 l0_1.length l0_1)(hc0_1:l0_1.length≤c0_1)(hr0_2:Kd.C k65 w A0_2 l0_2.length l0_2)(hc0_2:l0_2.length≤c0_2)(h:laws_toPuzzle.f k a0_0 l0_1 l0_2=some (r1,r2,r3)) :
  Calls Try.prog 11 #[.agg #[.int .i64 a0_0,.slice A0_1 l0_1.length c0_1,.slice A0_2 l0_2.length c0_2]] w fun e w'=>∃ v1_ v2_:Value,e= .returned (.agg #[.int .i64 r1,v1_,v2_])∧Kd.R (Kd.int .i64) 3 w' w.heap.size (fun _=>True) v1_ r2∧Kd.S k67 67 w' w.heap.size (fun k_=>some k_≠(v1_:Value).ownBlock) v2_ r3∧Below w.heap.size w w':=by
 have hu25:=Try.underlying25
 have hu30:=Try.underlying30
 have HR0_1:=yam hr0_1
 have HC0_1:=yam hc0_1
 clear hr0_1 hc0_1
 have HR0_2:=yam hr0_2
 have HC0_2:=yam hc0_2
 clear hr0_2 hc0_2
 have HB:=yam (Below.refl w.heap.size w)
 unfold laws_toPuzzle.f at h
 have H:=h
 clear h
 replace H:=ybi H;obtain ⟨t367,A2,H⟩:=H
 replace H:((laws_toRuleS.f k l0_2).bind fun t370=>(some (a0_0,t367,t370)))=some (r1,r2,r3):=H
 replace H:=ybi H;obtain ⟨t370,A3,H⟩:=H
 replace H:(some (a0_0,t367,t370))=some (r1,r2,r3):=H
 simp only [Option.some.injEq,Prod.mk.injEq] at H
 obtain ⟨rfl,rfl,rfl⟩:=H
 go_enter Try.func11,Try.ntmps11
 go_wp2_with (first|(refine ybe 1 #[.int .i64 a0_0,.slice A0_1 l0_1.length c0_1,.slice A0_2 l0_2.length c0_2] 25 ?_;intro gb364 hg w4 hbox hb;have BK364:=yam (hbox);have GW364:=yam ((by rw [hg];exact (below_size (yez HB.out)):w.heap.size≤gb364));replace HB:=yam (below_step (yez HB.out) hb);have GE364:=GW364;clear hb hbox hg)|(refine ybe 2 #[.int .i64 0,.slice none 0 0,.slice none 0 0] 30 ?_;intro gb365 hg w5 hbox hb;have BK365:=yam (hbox);have GW365:=yam ((by rw [hg];exact (below_size yhb):w.heap.size≤gb365));replace HB:=yam (below_step yhb hb);have GE365:=GW365;have NB364_365:=yam ((by rw [hg];exact Nat.ne_of_lt (blk_lt (g:=gb364) (o:= .cells #[.int .i64 a0_0,.slice A0_1 l0_1.length c0_1,.slice A0_2 l0_2.length c0_2] 25 (0,0)) (ybz BK364.out)):gb364≠gb365));have NB365_364:=yam ((by rw [hg];exact Nat.ne_of_gt (blk_lt (g:=gb364) (o:= .cells #[.int .i64 a0_0,.slice A0_1 l0_1.length c0_1,.slice A0_2 l0_2.length c0_2] 25 (0,0)) (ybz BK364.out)):gb365≠gb364));replace BK364:=yam (ybb BK364.out hb);clear hb hbox hg)|(refine ybe 3 #[.int .i64 0,.slice none 0 0,.slice none 0 0] 30 ?_;intro gb366 hg w6 hbox hb;have BK366:=yam (hbox);have GW366:=yam ((by rw [hg];exact (below_size yhb):w.heap.size≤gb366));replace HB:=yam (below_step yhb hb);have GE366:=GW366;have NB364_366:=yam ((by rw [hg];exact Nat.ne_of_lt (blk_lt (g:=gb364) (o:= .cells #[.int .i64 a0_0,.slice A0_1 l0_1.length c0_1,.slice A0_2 l0_2.length c0_2] 25 (0,0)) (ybz BK364.out)):gb364≠gb366));have NB366_364:=yam ((by rw [hg];exact Nat.ne_of_gt (blk_lt (g:=gb364) (o:= .cells #[.int .i64 a0_0,.slice A0_1 l0_1.length c0_1,.slice A0_2 l0_2.length c0_2] 25 (0,0)) (ybz BK364.out)):gb366≠gb364));replace BK364:=yam (ybb BK364.out hb);have NB365_366:=yam ((by rw [hg];exact Nat.ne_of_lt (blk_lt (g:=gb365) (o:= .cells #[.int .i64 0,.slice none 0 0,.slice none 0 0] 30 (0,0)) (ybz BK365.out)):gb365≠gb366));have NB366_365:=yam ((by rw [hg];exact Nat.ne_of_gt (blk_lt (g:=gb365) (o:= .cells #[.int .i64 0,.slice none 0 0,.slice none 0 0] 30 (0,0)) (ybz BK365.out)):gb366≠gb365));replace BK365:=yam (ybb BK365.out hb);clear hb hbox hg;have hnb7:=NB364_365.out;have hnc7:=NB365_364.out;have hnb8:=NB364_366.out;have hnc8:=NB366_364.out;obtain ⟨hcz9_0,hcz9_1,hcz9_2,hfz9_0,hfz9_1,hfz9_2⟩:=ybc BK364.out;have hnb10:=NB366_365.out;have hnc10:=NB365_366.out;obtain ⟨hcz11_0,hcz11_1,hcz11_2,hfz11_0,hfz11_1,hfz11_2⟩:=ybc BK366.out)|(refine goesL_ (some 9) rfl rfl Try.func26 (by kernel_rfl) rfl #[.slice A0_1 l0_1.length c0_1] rfl ymd ?_;(with_reducible refine (laws_toIntS.calls k _ _ l0_1 t367 _ ?_ ?_ A2.out).mono ?_);exact Kd.C_below HR0_1.out yhb;exact HC0_1.out;rintro e w12 ⟨v368,rfl,ho0,hb⟩;refine ⟨_,rfl,?_⟩;have HO369:=yam (Kd.R_lower ho0 (below_size yhb));replace BK364:=yam (blk_below (g:=gb364) (o:= .cells #[.int .i64 a0_0,.slice A0_1 l0_1.length c0_1,.slice A0_2 l0_2.length c0_2] 25 (0,0)) (by (with_reducible repeat (first|refine ybn ?_ _|refine ybd ?_|refine yba ?_ _));refine blk_far ?_ NB364_366.out _;(with_reducible repeat (first|refine ybn ?_ _|refine ybd ?_|refine yba ?_ _));exact BK364.out) hb);replace BK365:=yam (blk_below (g:=gb365) (o:= .cells #[.int .i64 0,.slice none 0 0,.slice none 0 0] 30 (0,0)) (by (with_reducible repeat (first|refine ybn ?_ _|refine ybd ?_|refine yba ?_ _));refine blk_far ?_ NB365_366.out _;(with_reducible repeat (first|refine ybn ?_ _|refine ybd ?_|refine yba ?_ _));exact BK365.out) hb);replace BK366:=yam (blk_below (g:=gb366) (o:= .cells #[.int .i64 a0_0,.slice none 0 0,.slice none 0 0] 30 (0,0)) (by (with_reducible repeat (first|refine ybn ?_ _|refine ybd ?_|refine yba ?_ _));refine blk_put (cs:= #[.int .i64 0,.slice none 0 0,.slice none 0 0]) ?_ 0 _ rfl;(with_reducible repeat (first|refine ybn ?_ _|refine ybd ?_|refine yba ?_ _));exact BK366.out) hb);replace HB:=yam (below_step yhb hb);(try clear hb);(try clear ho0);obtain ⟨Ao13,co13,eo13⟩:=Kd.R_slice HO369.out;subst eo13;obtain ⟨hcz14_0,hcz14_1,hcz14_2,hfz14_0,hfz14_1,hfz14_2⟩:=ybc BK366.out;obtain ⟨hcz15_0,hcz15_1,hcz15_2,hfz15_0,hfz15_1,hfz15_2⟩:=ybc BK364.out)|(refine goesL_ (some 13) rfl rfl Try.func35 (by kernel_rfl) rfl #[.slice A0_2 l0_2.length c0_2] rfl ymd ?_;(with_reducible refine (laws_toRuleS.calls k _ _ l0_2 t370 _ ?_ ?_ A3.out).mono ?_);exact Kd.C_below HR0_2.out yhb;exact HC0_2.out;rintro e w16 ⟨v371,rfl,ho0,hb⟩;refine ⟨_,rfl,?_⟩;have HO372:=yam (Kd.S_lower (Kd.S_new' ho0 (Kd.R_lt (by (with_reducible repeat (first|apply Kd.Ya|apply Kd.Yn|apply Kd.Yd));exact (Kd.R_mono (Kd.R_far (p:=⟨gb366,1,none⟩) (Kd.R_types HO369.out BK366.out (by decide)) (fun _ hk=>hk.2) (.slice Ao13 t367.length co13)) (fun _ h_=>h_.1))))) (below_size yhb));replace HO369:=yam (Kd.R_below (by (with_reducible repeat (first|apply Kd.Ya|apply Kd.Yn|apply Kd.Yd));exact (Kd.R_mono (Kd.R_far (p:=⟨gb366,1,none⟩) (Kd.R_types HO369.out BK366.out (by decide)) (fun _ hk=>hk.2) (.slice Ao13 t367.length co13)) (fun _ h_=>h_.1))) hb);replace BK364:=yam (blk_below (g:=gb364) (o:= .cells #[.int .i64 a0_0,.slice A0_1 l0_1.length c0_1,.slice A0_2 l0_2.length c0_2] 25 (0,0)) (by (with_reducible repeat (first|refine ybn ?_ _|refine ybd ?_|refine yba ?_ _));refine blk_far ?_ NB364_366.out _;(with_reducible repeat (first|refine ybn ?_ _|refine ybd ?_|refine yba ?_ _));exact BK364.out) hb);replace BK365:=yam (blk_below (g:=gb365) (o:= .cells #[.int .i64 0,.slice none 0 0,.slice none 0 0] 30 (0,0)) (by (with_reducible repeat (first|refine ybn ?_ _|refine ybd ?_|refine yba ?_ _));refine blk_far ?_ NB365_366.out _;(with_reducible repeat (first|refine ybn ?_ _|refine ybd ?_|refine yba ?_ _));exact BK365.out) hb);replace BK366:=yam (blk_below (g:=gb366) (o:= .cells #[.int .i64 a0_0,.slice Ao13 t367.length co13,.slice none 0 0] 30 (0,0)) (by (with_reducible repeat (first|refine ybn ?_ _|refine ybd ?_|refine yba ?_ _));refine blk_put (cs:= #[.int .i64 a0_0,.slice none 0 0,.slice none 0 0]) ?_ 1 _ rfl;(with_reducible repeat (first|refine ybn ?_ _|refine ybd ?_|refine yba ?_ _));exact BK366.out) hb);replace HB:=yam (below_step yhb hb);(try clear hb);(try clear hk);(try clear ho0);obtain ⟨Ao17,co17,eo17⟩:=Kd.S_slice HO372.out;subst eo17;obtain ⟨hcz18_0,hcz18_1,hcz18_2,hfz18_0,hfz18_1,hfz18_2⟩:=ybc BK366.out;obtain ⟨hcz19_0,hcz19_1,hcz19_2,hfz19_0,hfz19_1,hfz19_2⟩:=ybc BK365.out))
 refine bodyPost_ret (results_cell_row rfl _ _ gb365 30 #[.int .i64 a0_0,.slice Ao13 t367.length co13,.slice Ao17 t370.length co17] (0,0) _ rfl (by (with_reducible repeat (first|refine ybn ?_ _|refine ybd ?_|refine yba ?_ _));refine blk_put (cs:= #[.int .i64 a0_0,.slice Ao13 t367.length co13,.slice none 0 0]) ?_ 2 _ rfl;(with_reducible repeat (first|refine ybn ?_ _|refine ybd ?_|refine yba ?_ _));refine blk_put (cs:= #[.int .i64 a0_0,.slice none 0 0,.slice none 0 0]) ?_ 1 _ rfl;(with_reducible repeat (first|refine ybn ?_ _|refine ybd ?_|refine yba ?_ _));refine blk_put (cs:= #[.int .i64 0,.slice none 0 0,.slice none 0 0]) ?_ 0 _ rfl;(with_reducible repeat (first|refine ybn ?_ _|refine ybd ?_|refine yba ?_ _));refine blk_far ?_ NB365_366.out _;(with_reducible repeat (first|refine ybn ?_ _|refine ybd ?_|refine yba ?_ _));exact BK365.out) Try.underlying30 rfl (by kernel_rfl)) rfl ?_
 exact ⟨_,_,yer,by (with_reducible repeat (first|apply Kd.Ya|apply Kd.Yn|apply Kd.Yd));exact Kd.R_mono (Kd.R_far (p:=⟨gb365,2,none⟩) (Kd.R_far (p:=⟨gb365,1,none⟩) (Kd.R_far (p:=⟨gb365,0,none⟩) (Kd.R_far (p:=⟨gb366,2,none⟩) (Kd.R_types (Kd.R_types HO369.out BK366.out (by decide)) BK365.out (by decide)) (fun _ hk=>hk.1.2) (.slice Ao17 t370.length co17)) (fun _ hk=>hk.2) (.int .i64 a0_0)) (fun _ hk=>hk.2) (.slice Ao13 t367.length co13)) (fun _ hk=>hk.2) (.slice Ao17 t370.length co17)) (fun _ hk=>trivial),by (with_reducible repeat (first|apply Kd.S_alloc|apply Kd.S_drewN|apply Kd.S_drew));exact Kd.S_mono (Kd.S_far (p:=⟨gb365,2,none⟩) (Kd.S_far (p:=⟨gb365,1,none⟩) (Kd.S_far (p:=⟨gb365,0,none⟩) (Kd.S_far (p:=⟨gb366,2,none⟩) (Kd.S_types (Kd.S_types HO372.out BK366.out (by decide)) BK365.out (by decide)) (fun _ hk=>hk.1.2) (.slice Ao17 t370.length co17)) (fun _ hk=>hk.2) (.int .i64 a0_0)) (fun _ hk=>hk.2) (.slice Ao13 t367.length co13)) (fun _ hk=>hk.2) (.slice Ao17 t370.length co17)) (fun _ hk=>hk.1.1.2),yhb⟩
def laws_eqIntS.l0:Nat→List Int→List Int→Int→Option (Bool)
 | 0,_,_,_=>none
 | k + 1,x0,x1,x5=>if x5 < (x0.length:Int) then (if 0≤x5 then (if x5 < (x1.length:Int) then (if (rd x0 x5)=(rd x1 x5) then (laws_eqIntS.l0 k x0 x1 (wrap64 (x5 + 1))) else (some false)) else (none)) else (none)) else (some true)
def laws_eqIntS.f (k:Nat)(l0:List Int)(l1:List Int):Option (Bool):=if (l0.length:Int)=(l1.length:Int) then (laws_eqIntS.l0 k l0 l1 0) else (some false)
theorem laws_eqIntS.calls (k:Nat)(A0:Option Addr)(c0:Nat)(l0:List Int)(A1:Option Addr)(c1:Nat)(l1:List Int)(r:Bool)(w:World)(hr0:Kd.C (Kd.int .i64) w A0 l0.length l0)(hc0:l0.length≤c0)(hr1:Kd.C (Kd.int .i64) w A1 l1.length l1)(hc1:l1.length≤c1)(h:laws_eqIntS.f k l0 l1=some r) :
  Calls Try.prog 13 #[.slice A0 l0.length c0,.slice A1 l1.length c1] w fun e w'=>e= .returned (.bool r)∧Drawn0 w w':=by
 have HR0:=yam hr0
 have HC0:=yam hc0
 clear hr0 hc0
 have HR1:=yam hr1
 have HC1:=yam hc1
 clear hr1 hc1
 unfold laws_eqIntS.f at h
 have H:=h
 clear h
 replace H:=yit H;obtain ⟨c3,H⟩ | ⟨c3,H⟩:=H
 rotate_left
 ·have c3b0:((l0.length:Int) == (l1.length:Int))=false:=beq_eq_false_iff_ne.mpr c3
  have c3b1:((l0.length:Int) != (l1.length:Int))=true:=bne_iff_ne.mpr c3
  have c3b2:(l0.length == l1.length)=false:=by first|simpa using c3|(simp at c3 ⊢;omega)
  obtain rfl:=ysi H
  go_enter Try.func13,Try.ntmps13
  go_wp2
  repeat (go_quiet (fail);try go_wp2)
  go_ret
  exact ⟨yeq,by repeat (first|exact Drawn0.refl _|apply Drawn0.step)⟩
 have c3b0:((l0.length:Int) == (l1.length:Int))=true:=beq_iff_eq.mpr c3
 have c3b1:((l0.length:Int) != (l1.length:Int))=false:=bne_eq_false_iff_eq.mpr c3
 have c3b2:(l0.length == l1.length)=true:=by first|simpa using c3|(simp at c3 ⊢;omega)
 clear c3
 replace H:=yam H
 go_enter Try.func13,Try.ntmps13
 go_wp2
 repeat (go_quiet (fail);try go_wp2)
 go_loopg [5] k (fun kq v5 w'=>∃ (x5_1:Int),v5= .int .i64 x5_1∧Aside0 (laws_eqIntS.l0 kq l0 l1 x5_1=some r)∧Aside0 (kq≤k)∧Drawn0 w w')
 case atStart=>exact ⟨(0),yeq,H,⟨Nat.le_refl _⟩,by repeat (first|exact Drawn0.refl _|apply Drawn0.step)⟩
 case round =>
  clear H
  try clear c1
  try clear c3b0
  try clear c3b1
  try clear c3b2
  obtain ⟨x5_1,rfl,HA,HK1,⟨m1,rfl⟩⟩:=hrel
  rcases gk with _|k1
  ·exact absurd HA.out (by simp [laws_eqIntS.l0])
  obtain ⟨H⟩:=HA
  simp only [laws_eqIntS.l0] at H
  replace H:=yis H;obtain ⟨c4b0,H⟩ | ⟨c4b0,H⟩:=H
  rotate_left
  ·obtain rfl:=ysi H
   go_wp2
   repeat (go_quiet (fail);try go_wp2)
   go_ret
   exact ⟨yeq,by repeat (first|exact Drawn0.refl _|apply Drawn0.step)⟩
  replace H:=yif H;obtain ⟨c5b0,H⟩:=H
  replace H:=yif H;obtain ⟨c6b0,H⟩:=H
  replace H:=yit H;obtain ⟨c7,H⟩ | ⟨c7,H⟩:=H
  rotate_left
  ·have c7b0:((rd l0 x5_1) == (rd l1 x5_1))=false:=beq_eq_false_iff_ne.mpr c7
   have c7b1:((rd l0 x5_1) != (rd l1 x5_1))=true:=bne_iff_ne.mpr c7
   obtain rfl:=ysi H
   obtain ⟨ad544,e544,hx544_0,p544,q544⟩:=yat HR0.out x5_1
   cases e544
   obtain ⟨ad545,e545,hx545_0,p545,q545⟩:=yat HR1.out x5_1
   cases e545
   go_wp2
   repeat (go_quiet (fail);try go_wp2)
   go_ret
   exact ⟨yeq,by repeat (first|exact Drawn0.refl _|apply Drawn0.step)⟩
  have c7b0:((rd l0 x5_1) == (rd l1 x5_1))=true:=beq_iff_eq.mpr c7
  have c7b1:((rd l0 x5_1) != (rd l1 x5_1))=false:=bne_eq_false_iff_eq.mpr c7
  clear c7
  replace H:=yam H
  obtain ⟨ad544,e544,hx544_0,p544,q544⟩:=yat HR0.out x5_1
  cases e544
  obtain ⟨ad545,e545,hx545_0,p545,q545⟩:=yat HR1.out x5_1
  cases e545
  go_wp2
  repeat (go_quiet (fail);try go_wp2)
  go_roundg k1
  case measure=>have:=HK1.out;omega
  case rel=>exact ⟨(wrap64 (x5_1 + 1)),yeq,H,⟨by have:=HK1.out;omega⟩,by repeat (first|exact Drawn0.refl _|apply Drawn0.step)⟩
def laws_eqRule.f (k:Nat)(a0_0:Int)(l0_1:List Int)(a0_2:Int)(a1_0:Int)(l1_1:List Int)(a1_2:Int):Option (Bool):=if a0_0=a1_0 then ((laws_eqIntS.f k l0_1 l1_1).bind fun t548=>(if t548=true then (if a0_2=a1_2 then (some true) else (some false)) else (some false))) else (some false)
theorem laws_eqRule.calls (k:Nat)(a0_0:Int)(A0_1:Option Addr)(c0_1:Nat)(l0_1:List Int)(a0_2:Int)(a1_0:Int)(A1_1:Option Addr)(c1_1:Nat)(l1_1:List Int)(a1_2:Int)(r:Bool)(w:World)(hr0_1:Kd.C (Kd.int .i64) w A0_1 l0_1.length l0_1)(hc0_1:l0_1.length≤c0_1)(hr1_1:Kd.C (Kd.int .i64) w A1_1 l1_1.length l1_1)(hc1_1:l1_1.length≤c1_1)(h:laws_eqRule.f k a0_0 l0_1 a0_2 a1_0 l1_1 a1_2=some r) :
  Calls Try.prog 71 #[.agg #[.int .i64 a0_0,.slice A0_1 l0_1.length c0_1,.int .i64 a0_2],.agg #[.int .i64 a1_0,.slice A1_1 l1_1.length c1_1,.int .i64 a1_2]] w fun e w'=>e= .returned (.bool r)∧Below w.heap.size w w':=by
 have hu67:=Try.underlying67
 have HR0_1:=yam hr0_1
 have HC0_1:=yam hc0_1
 clear hr0_1 hc0_1
 have HR1_1:=yam hr1_1
 have HC1_1:=yam hc1_1
 clear hr1_1 hc1_1
 have HB:=yam (Below.refl w.heap.size w)
 unfold laws_eqRule.f at h
 have H:=h
 clear h
 replace H:=yit H;obtain ⟨c3,H⟩ | ⟨c3,H⟩:=H
 rotate_left
 ·have c3b0:(a0_0 == a1_0)=false:=beq_eq_false_iff_ne.mpr c3
  have c3b1:(a0_0 != a1_0)=true:=bne_iff_ne.mpr c3
  obtain rfl:=ysi H
  go_enter Try.func71,Try.ntmps71
  go_wp2_with (first|(refine ybe 2 #[.int .i64 a0_0,.slice A0_1 l0_1.length c0_1,.int .i64 a0_2] 67 ?_;intro gb546 hg w22 hbox hb;have BK546:=yam (hbox);have GW546:=yam ((by rw [hg];exact (below_size (yez HB.out)):w.heap.size≤gb546));replace HB:=yam (below_step (yez HB.out) hb);have GE546:=GW546;clear hb hbox hg)|(refine ybe 3 #[.int .i64 a1_0,.slice A1_1 l1_1.length c1_1,.int .i64 a1_2] 67 ?_;intro gb547 hg w23 hbox hb;have BK547:=yam (hbox);have GW547:=yam ((by rw [hg];exact (below_size yhb):w.heap.size≤gb547));replace HB:=yam (below_step yhb hb);have GE547:=GW547;have NB546_547:=yam ((by rw [hg];exact Nat.ne_of_lt (blk_lt (g:=gb546) (o:= .cells #[.int .i64 a0_0,.slice A0_1 l0_1.length c0_1,.int .i64 a0_2] 67 (0,0)) (ybz BK546.out)):gb546≠gb547));have NB547_546:=yam ((by rw [hg];exact Nat.ne_of_gt (blk_lt (g:=gb546) (o:= .cells #[.int .i64 a0_0,.slice A0_1 l0_1.length c0_1,.int .i64 a0_2] 67 (0,0)) (ybz BK546.out)):gb547≠gb546));replace BK546:=yam (ybb BK546.out hb);clear hb hbox hg;have hnb24:=NB546_547.out;have hnc24:=NB547_546.out;obtain ⟨hcz25_0,hcz25_1,hcz25_2,hfz25_0,hfz25_1,hfz25_2⟩:=ybc BK546.out;obtain ⟨hcz26_0,hcz26_1,hcz26_2,hfz26_0,hfz26_1,hfz26_2⟩:=ybc BK547.out))
  go_ret
  exact ⟨yer,yhb⟩
 have c3b0:(a0_0 == a1_0)=true:=beq_iff_eq.mpr c3
 have c3b1:(a0_0 != a1_0)=false:=bne_eq_false_iff_eq.mpr c3
 clear c3
 replace H:=ybi H;obtain ⟨t548,A4,H⟩:=H
 try dsimp only at H
 cases t548
 ·replace H:=yff H
  obtain rfl:=ysi H
  go_enter Try.func71,Try.ntmps71
  go_wp2_with (first|(refine ybe 2 #[.int .i64 a0_0,.slice A0_1 l0_1.length c0_1,.int .i64 a0_2] 67 ?_;intro gb546 hg w17 hbox hb;have BK546:=yam (hbox);have GW546:=yam ((by rw [hg];exact (below_size (yez HB.out)):w.heap.size≤gb546));replace HB:=yam (below_step (yez HB.out) hb);have GE546:=GW546;clear hb hbox hg)|(refine ybe 3 #[.int .i64 a1_0,.slice A1_1 l1_1.length c1_1,.int .i64 a1_2] 67 ?_;intro gb547 hg w18 hbox hb;have BK547:=yam (hbox);have GW547:=yam ((by rw [hg];exact (below_size yhb):w.heap.size≤gb547));replace HB:=yam (below_step yhb hb);have GE547:=GW547;have NB546_547:=yam ((by rw [hg];exact Nat.ne_of_lt (blk_lt (g:=gb546) (o:= .cells #[.int .i64 a0_0,.slice A0_1 l0_1.length c0_1,.int .i64 a0_2] 67 (0,0)) (ybz BK546.out)):gb546≠gb547));have NB547_546:=yam ((by rw [hg];exact Nat.ne_of_gt (blk_lt (g:=gb546) (o:= .cells #[.int .i64 a0_0,.slice A0_1 l0_1.length c0_1,.int .i64 a0_2] 67 (0,0)) (ybz BK546.out)):gb547≠gb546));replace BK546:=yam (ybb BK546.out hb);clear hb hbox hg;have hnb19:=NB546_547.out;have hnc19:=NB547_546.out;obtain ⟨hcz20_0,hcz20_1,hcz20_2,hfz20_0,hfz20_1,hfz20_2⟩:=ybc BK546.out;obtain ⟨hcz21_0,hcz21_1,hcz21_2,hfz21_0,hfz21_1,hfz21_2⟩:=ybc BK547.out)|(refine goesL_ (some 14) rfl rfl Try.func13 (by kernel_rfl) rfl #[.slice A0_1 l0_1.length c0_1,.slice A1_1 l1_1.length c1_1] rfl ymd ?_;(with_reducible refine (laws_eqIntS.calls k _ _ l0_1 _ _ l1_1 false _ ?_ ?_ ?_ ?_ A4.out).mono ?_);exact Kd.Cz ((Kd.C_below HR0_1.out HB.out));exact HC0_1.out;exact Kd.Cz ((Kd.C_below HR1_1.out HB.out));exact HC1_1.out;rintro e w' ⟨rfl,⟨nd,rfl⟩⟩;refine ⟨_,rfl,?_⟩))
  go_ret
  exact ⟨yer,yhb⟩
 replace H:=ytt H
 replace H:=yit H;obtain ⟨c6,H⟩ | ⟨c6,H⟩:=H
 rotate_left
 ·have c6b0:(a0_2 == a1_2)=false:=beq_eq_false_iff_ne.mpr c6
  have c6b1:(a0_2 != a1_2)=true:=bne_iff_ne.mpr c6
  obtain rfl:=ysi H
  go_enter Try.func71,Try.ntmps71
  go_wp2_with (first|(refine ybe 2 #[.int .i64 a0_0,.slice A0_1 l0_1.length c0_1,.int .i64 a0_2] 67 ?_;intro gb546 hg w12 hbox hb;have BK546:=yam (hbox);have GW546:=yam ((by rw [hg];exact (below_size (yez HB.out)):w.heap.size≤gb546));replace HB:=yam (below_step (yez HB.out) hb);have GE546:=GW546;clear hb hbox hg)|(refine ybe 3 #[.int .i64 a1_0,.slice A1_1 l1_1.length c1_1,.int .i64 a1_2] 67 ?_;intro gb547 hg w13 hbox hb;have BK547:=yam (hbox);have GW547:=yam ((by rw [hg];exact (below_size yhb):w.heap.size≤gb547));replace HB:=yam (below_step yhb hb);have GE547:=GW547;have NB546_547:=yam ((by rw [hg];exact Nat.ne_of_lt (blk_lt (g:=gb546) (o:= .cells #[.int .i64 a0_0,.slice A0_1 l0_1.length c0_1,.int .i64 a0_2] 67 (0,0)) (ybz BK546.out)):gb546≠gb547));have NB547_546:=yam ((by rw [hg];exact Nat.ne_of_gt (blk_lt (g:=gb546) (o:= .cells #[.int .i64 a0_0,.slice A0_1 l0_1.length c0_1,.int .i64 a0_2] 67 (0,0)) (ybz BK546.out)):gb547≠gb546));replace BK546:=yam (ybb BK546.out hb);clear hb hbox hg;have hnb14:=NB546_547.out;have hnc14:=NB547_546.out;obtain ⟨hcz15_0,hcz15_1,hcz15_2,hfz15_0,hfz15_1,hfz15_2⟩:=ybc BK546.out;obtain ⟨hcz16_0,hcz16_1,hcz16_2,hfz16_0,hfz16_1,hfz16_2⟩:=ybc BK547.out)|(refine goesL_ (some 14) rfl rfl Try.func13 (by kernel_rfl) rfl #[.slice A0_1 l0_1.length c0_1,.slice A1_1 l1_1.length c1_1] rfl ymd ?_;(with_reducible refine (laws_eqIntS.calls k _ _ l0_1 _ _ l1_1 true _ ?_ ?_ ?_ ?_ A4.out).mono ?_);exact Kd.Cz ((Kd.C_below HR0_1.out HB.out));exact HC0_1.out;exact Kd.Cz ((Kd.C_below HR1_1.out HB.out));exact HC1_1.out;rintro e w' ⟨rfl,⟨nd,rfl⟩⟩;refine ⟨_,rfl,?_⟩))
  go_ret
  exact ⟨yer,yhb⟩
 have c6b0:(a0_2 == a1_2)=true:=beq_iff_eq.mpr c6
 have c6b1:(a0_2 != a1_2)=false:=bne_eq_false_iff_eq.mpr c6
 clear c6
 obtain rfl:=ysi H
 go_enter Try.func71,Try.ntmps71
 go_wp2_with (first|(refine ybe 2 #[.int .i64 a0_0,.slice A0_1 l0_1.length c0_1,.int .i64 a0_2] 67 ?_;intro gb546 hg w7 hbox hb;have BK546:=yam (hbox);have GW546:=yam ((by rw [hg];exact (below_size (yez HB.out)):w.heap.size≤gb546));replace HB:=yam (below_step (yez HB.out) hb);have GE546:=GW546;clear hb hbox hg)|(refine ybe 3 #[.int .i64 a1_0,.slice A1_1 l1_1.length c1_1,.int .i64 a1_2] 67 ?_;intro gb547 hg w8 hbox hb;have BK547:=yam (hbox);have GW547:=yam ((by rw [hg];exact (below_size yhb):w.heap.size≤gb547));replace HB:=yam (below_step yhb hb);have GE547:=GW547;have NB546_547:=yam ((by rw [hg];exact Nat.ne_of_lt (blk_lt (g:=gb546) (o:= .cells #[.int .i64 a0_0,.slice A0_1 l0_1.length c0_1,.int .i64 a0_2] 67 (0,0)) (ybz BK546.out)):gb546≠gb547));have NB547_546:=yam ((by rw [hg];exact Nat.ne_of_gt (blk_lt (g:=gb546) (o:= .cells #[.int .i64 a0_0,.slice A0_1 l0_1.length c0_1,.int .i64 a0_2] 67 (0,0)) (ybz BK546.out)):gb547≠gb546));replace BK546:=yam (ybb BK546.out hb);clear hb hbox hg;have hnb9:=NB546_547.out;have hnc9:=NB547_546.out;obtain ⟨hcz10_0,hcz10_1,hcz10_2,hfz10_0,hfz10_1,hfz10_2⟩:=ybc BK546.out;obtain ⟨hcz11_0,hcz11_1,hcz11_2,hfz11_0,hfz11_1,hfz11_2⟩:=ybc BK547.out)|(refine goesL_ (some 14) rfl rfl Try.func13 (by kernel_rfl) rfl #[.slice A0_1 l0_1.length c0_1,.slice A1_1 l1_1.length c1_1] rfl ymd ?_;(with_reducible refine (laws_eqIntS.calls k _ _ l0_1 _ _ l1_1 true _ ?_ ?_ ?_ ?_ A4.out).mono ?_);exact Kd.Cz ((Kd.C_below HR0_1.out HB.out));exact HC0_1.out;exact Kd.Cz ((Kd.C_below HR1_1.out HB.out));exact HC1_1.out;rintro e w' ⟨rfl,⟨nd,rfl⟩⟩;refine ⟨_,rfl,?_⟩))
 go_ret
 exact ⟨yer,yhb⟩
def laws_eqRuleS.l0:Nat→List (S67)→List (S67)→Int→Option (Bool)
 | 0,_,_,_=>none
 | k + 1,x0,x1,x5=>if x5 < (x0.length:Int) then (if 0≤x5 then (if x5 < (x1.length:Int) then ((laws_eqRule.f k ((rd_T67 x0 x5).f0) ((rd_T67 x0 x5).f1) ((rd_T67 x0 x5).f2) ((rd_T67 x1 x5).f0) ((rd_T67 x1 x5).f1) ((rd_T67 x1 x5).f2)).bind fun t551=>(if t551=true then (laws_eqRuleS.l0 k x0 x1 (wrap64 (x5 + 1))) else (some false))) else (none)) else (none)) else (some true)
def laws_eqRuleS.f (k:Nat)(l0:List (S67))(l1:List (S67)):Option (Bool):=if (l0.length:Int)=(l1.length:Int) then (laws_eqRuleS.l0 k l0 l1 0) else (some false)
def laws_eqRuleS.T6:Bool × List (List Nat × List Nat):=(true,[([],[]),([],[]),([0,1],[0,1]),([2],[2]),([],[]),([],[]),([4,5],[4,5]),([6],[6]),([3,7],[3,7]),([8],[8])])
def laws_eqRuleS.B6:List Nat:=[0,0,3,7,0,0,48,112,255,511]
theorem laws_eqRuleS.tab6:rtab .any (opsOf Try.f37 6)=laws_eqRuleS.T6:=by kernel_rfl
theorem laws_eqRuleS.bits6:waitsOk laws_eqRuleS.T6.2 laws_eqRuleS.B6=true:=by kernel_rfl
theorem laws_eqRuleS.calls (k:Nat)(A0:Option Addr)(c0:Nat)(l0:List (S67))(A1:Option Addr)(c1:Nat)(l1:List (S67))(r:Bool)(w:World)(hr0:Kd.C k67 w A0 l0.length l0)(hc0:l0.length≤c0)(hr1:Kd.C k67 w A1 l1.length l1)(hc1:l1.length≤c1)(h:laws_eqRuleS.f k l0 l1=some r) :
  Calls Try.prog 37 #[.slice A0 l0.length c0,.slice A1 l1.length c1] w fun e w'=>e= .returned (.bool r)∧Below w.heap.size w w':=by
 have hu67:=Try.underlying67
 have HR0:=yam hr0
 have HC0:=yam hc0
 clear hr0 hc0
 have HR1:=yam hr1
 have HC1:=yam hc1
 clear hr1 hc1
 have HB:=yam (Below.refl w.heap.size w)
 unfold laws_eqRuleS.f at h
 have H:=h
 clear h
 replace H:=yit H;obtain ⟨c3,H⟩ | ⟨c3,H⟩:=H
 rotate_left
 ·have c3b0:((l0.length:Int) == (l1.length:Int))=false:=beq_eq_false_iff_ne.mpr c3
  have c3b1:((l0.length:Int) != (l1.length:Int))=true:=bne_iff_ne.mpr c3
  have c3b2:(l0.length == l1.length)=false:=by first|simpa using c3|(simp at c3 ⊢;omega)
  obtain rfl:=ysi H
  go_enter Try.func37,Try.ntmps37
  go_wp2
  go_ret
  exact ⟨yer,yhb⟩
 have c3b0:((l0.length:Int) == (l1.length:Int))=true:=beq_iff_eq.mpr c3
 have c3b1:((l0.length:Int) != (l1.length:Int))=false:=bne_eq_false_iff_eq.mpr c3
 have c3b2:(l0.length == l1.length)=true:=by first|simpa using c3|(simp at c3 ⊢;omega)
 clear c3
 replace H:=yam H
 go_enter Try.func37,Try.ntmps37
 go_wp2
 go_loopg [5] k (fun kq v5 w'=>∃ (x5_1:Int),v5= .int .i64 x5_1∧Aside0 (laws_eqRuleS.l0 kq l0 l1 x5_1=some r)∧Aside0 (kq≤k)∧Aside0 (Below w.heap.size w w'))
 case atStart=>exact ⟨(0),yeq,H,⟨Nat.le_refl _⟩,⟨yhb⟩⟩
 case round =>
  clear H
  try clear c1
  try clear c3b0
  try clear c3b1
  try clear c3b2
  obtain ⟨x5_1,rfl,HA,HK1,HB⟩:=hrel
  rcases gk with _|k1
  ·exact absurd HA.out (by simp [laws_eqRuleS.l0])
  obtain ⟨H⟩:=HA
  simp only [laws_eqRuleS.l0] at H
  replace H:=yis H;obtain ⟨c4b0,H⟩ | ⟨c4b0,H⟩:=H
  rotate_left
  ·obtain rfl:=ysi H
   go_wp2
   go_ret
   exact ⟨yer,yhb⟩
  replace H:=yif H;obtain ⟨c5b0,H⟩:=H
  replace H:=yif H;obtain ⟨c6b0,H⟩:=H
  replace H:=ybi H;obtain ⟨t551,A7,H⟩:=H
  try dsimp only at H
  cases t551
  ·replace H:=yff H
   obtain rfl:=ysi H
   try go_wp2
   replace HB:=yam (yed HB.out)
   have p549:0≤(x5_1:Int):=ydt
   have q549:x5_1 < (l0.length:Int):=ydt
   obtain ⟨ad549,A549_1,c549_1,e549,hx549_0,hx549_1,hx549_2,hl549_1,hi549_1⟩:=at_T67 HR0.out x5_1 p549 q549
   have hw549_2:=hx549_2
   have hw549_1:=hx549_1
   have hw549_0:=hx549_0
   cases e549
   replace hx549_0:=ybx HB.out hx549_0
   replace hx549_1:=ybx HB.out hx549_1
   replace hx549_2:=ybx HB.out hx549_2
   have HR549_1:=yam hi549_1
   have HC549_1:=yam hl549_1
   clear hi549_1 hl549_1
   replace p549:=eq_true p549
   replace q549:=eq_true q549
   have p550:0≤(x5_1:Int):=ydt
   have q550:x5_1 < (l1.length:Int):=ydt
   obtain ⟨ad550,A550_1,c550_1,e550,hx550_0,hx550_1,hx550_2,hl550_1,hi550_1⟩:=at_T67 HR1.out x5_1 p550 q550
   have hw550_2:=hx550_2
   have hw550_1:=hx550_1
   have hw550_0:=hx550_0
   cases e550
   replace hx550_0:=ybx HB.out hx550_0
   replace hx550_1:=ybx HB.out hx550_1
   replace hx550_2:=ybx HB.out hx550_2
   have HR550_1:=yam hi550_1
   have HC550_1:=yam hl550_1
   clear hi550_1 hl550_1
   replace p550:=eq_true p550
   replace q550:=eq_true q550
   refine start_ (n:=10) (S:=fun w'=>w'.cell? (ad549.add ((x5_1).toNat * 3))=some (.int .i64 ((rd_T67 l0 x5_1).f0))∧w'.cell? ⟨(ad549.add ((x5_1).toNat * 3)).block,(ad549.add ((x5_1).toNat * 3)).off + 1,none⟩=some (.slice A549_1 ((rd_T67 l0 x5_1).f1).length c549_1)∧w'.cell? ⟨(ad549.add ((x5_1).toNat * 3)).block,(ad549.add ((x5_1).toNat * 3)).off + 2,none⟩=some (.int .i64 ((rd_T67 l0 x5_1).f2))∧w'.cell? (ad550.add ((x5_1).toNat * 3))=some (.int .i64 ((rd_T67 l1 x5_1).f0))∧w'.cell? ⟨(ad550.add ((x5_1).toNat * 3)).block,(ad550.add ((x5_1).toNat * 3)).off + 1,none⟩=some (.slice A550_1 ((rd_T67 l1 x5_1).f1).length c550_1)∧w'.cell? ⟨(ad550.add ((x5_1).toNat * 3)).block,(ad550.add ((x5_1).toNat * 3)).off + 2,none⟩=some (.int .i64 ((rd_T67 l1 x5_1).f2))) (ds:=[]) (yvb 10 0) (by kernel_rfl) rfl rfl ⟨((HB.out.cell (World.block_lt_of_cell? w _ hw549_0)).trans hw549_0),((HB.out.cell (World.block_lt_of_cell? w _ hw549_1)).trans hw549_1),((HB.out.cell (World.block_lt_of_cell? w _ hw549_2)).trans hw549_2),((HB.out.cell (World.block_lt_of_cell? w _ hw550_0)).trans hw550_0),((HB.out.cell (World.block_lt_of_cell? w _ hw550_1)).trans hw550_1),((HB.out.cell (World.block_lt_of_cell? w _ hw550_2)).trans hw550_2)⟩ (fun hHeld=>?_);refine with_tabW laws_eqRuleS.tab6 laws_eqRuleS.bits6 (fun HT_ HW_=>?_)
   generalize wr.drew=w11 at HB HR549_1 HR550_1 hx549_0 hx549_1 hx549_2 hx550_0 hx550_1 hx550_2 hHeld ⊢
   refine yvp 0 17 (yvb 10 1) HT_.out ?_
   refine yvp 1 18 (yvb 10 3) HT_.out ?_
   refine yvp 2 19 (yvb 10 7) HT_.out ?_
   refine yvp 4 21 (yvb 10 23) HT_.out ?_
   refine yvp 5 22 (yvb 10 55) HT_.out ?_
   refine yvp 6 23 (yvb 10 119) HT_.out ?_
   refine yvt 3 20 (yvb 10 127) HT_.out HW_.out hHeld ?_
   refine yvt 7 24 (yvb 10 255) HT_.out HW_.out hHeld ?_
   refine one_ (i:=8) (N:=some 25) (yvb 10 511) rfl rfl (one_of HT_.out (by kernel_rfl)) (by decide) (fun K hK=>?_)
   refine goes_ Try.func71 (by kernel_rfl) rfl #[.agg #[.int .i64 ((rd_T67 l0 x5_1).f0),.slice A549_1 ((rd_T67 l0 x5_1).f1).length c549_1,.int .i64 ((rd_T67 l0 x5_1).f2)],.agg #[.int .i64 ((rd_T67 l1 x5_1).f0),.slice A550_1 ((rd_T67 l1 x5_1).f1).length c550_1,.int .i64 ((rd_T67 l1 x5_1).f2)]] (by rfl) rfl rfl ymd ?_
   with_reducible refine (laws_eqRule.calls k1 ((rd_T67 l0 x5_1).f0) _ _ ((rd_T67 l0 x5_1).f1) ((rd_T67 l0 x5_1).f2) ((rd_T67 l1 x5_1).f0) _ _ ((rd_T67 l1 x5_1).f1) ((rd_T67 l1 x5_1).f2) false _ ?_ ?_ ?_ ?_ A7.out).mono ?_
   exact Kd.Cz ((Kd.C_below HR549_1.out HB.out))
   exact HC549_1.out
   exact Kd.Cz ((Kd.C_below HR550_1.out HB.out))
   exact HC550_1.out
   rintro e w12 ⟨rfl,hb⟩
   refine ⟨_,rfl,?_⟩
   replace HB:=yam (below_step (yez HB.out) hb)
   (try clear hb)
   (try clear hb2)
   (try clear hk)
   (try clear hi)
   refine hK.out _ _ ⟨((HB.out.cell (World.block_lt_of_cell? w _ hw549_0)).trans hw549_0),((HB.out.cell (World.block_lt_of_cell? w _ hw549_1)).trans hw549_1),((HB.out.cell (World.block_lt_of_cell? w _ hw549_2)).trans hw549_2),((HB.out.cell (World.block_lt_of_cell? w _ hw550_0)).trans hw550_0),((HB.out.cell (World.block_lt_of_cell? w _ hw550_1)).trans hw550_1),((HB.out.cell (World.block_lt_of_cell? w _ hw550_2)).trans hw550_2)⟩ (fun hHeld=>?_)
   clear hK K
   refine norm_ (a':=?_) ?_ ?_
   rotate_left
   ·show Act.put _ (some 25) _=_
    simp only [Act.put,yps,i64_w,i32_w]
    rfl
   refine yvp 9 26 (yvb 10 1023) HT_.out ?_
   refine done_ (done_of HT_.out (by kernel_rfl)) ?_
   try go_wp2
   go_ret
   exact ⟨yer,yhb⟩
  replace H:=ytt H
  replace H:=yam H
  try go_wp2
  replace HB:=yam (yed HB.out)
  have p549:0≤(x5_1:Int):=ydt
  have q549:x5_1 < (l0.length:Int):=ydt
  obtain ⟨ad549,A549_1,c549_1,e549,hx549_0,hx549_1,hx549_2,hl549_1,hi549_1⟩:=at_T67 HR0.out x5_1 p549 q549
  have hw549_2:=hx549_2
  have hw549_1:=hx549_1
  have hw549_0:=hx549_0
  cases e549
  replace hx549_0:=ybx HB.out hx549_0
  replace hx549_1:=ybx HB.out hx549_1
  replace hx549_2:=ybx HB.out hx549_2
  have HR549_1:=yam hi549_1
  have HC549_1:=yam hl549_1
  clear hi549_1 hl549_1
  replace p549:=eq_true p549
  replace q549:=eq_true q549
  have p550:0≤(x5_1:Int):=ydt
  have q550:x5_1 < (l1.length:Int):=ydt
  obtain ⟨ad550,A550_1,c550_1,e550,hx550_0,hx550_1,hx550_2,hl550_1,hi550_1⟩:=at_T67 HR1.out x5_1 p550 q550
  have hw550_2:=hx550_2
  have hw550_1:=hx550_1
  have hw550_0:=hx550_0
  cases e550
  replace hx550_0:=ybx HB.out hx550_0
  replace hx550_1:=ybx HB.out hx550_1
  replace hx550_2:=ybx HB.out hx550_2
  have HR550_1:=yam hi550_1
  have HC550_1:=yam hl550_1
  clear hi550_1 hl550_1
  replace p550:=eq_true p550
  replace q550:=eq_true q550
  refine start_ (n:=10) (S:=fun w'=>w'.cell? (ad549.add ((x5_1).toNat * 3))=some (.int .i64 ((rd_T67 l0 x5_1).f0))∧w'.cell? ⟨(ad549.add ((x5_1).toNat * 3)).block,(ad549.add ((x5_1).toNat * 3)).off + 1,none⟩=some (.slice A549_1 ((rd_T67 l0 x5_1).f1).length c549_1)∧w'.cell? ⟨(ad549.add ((x5_1).toNat * 3)).block,(ad549.add ((x5_1).toNat * 3)).off + 2,none⟩=some (.int .i64 ((rd_T67 l0 x5_1).f2))∧w'.cell? (ad550.add ((x5_1).toNat * 3))=some (.int .i64 ((rd_T67 l1 x5_1).f0))∧w'.cell? ⟨(ad550.add ((x5_1).toNat * 3)).block,(ad550.add ((x5_1).toNat * 3)).off + 1,none⟩=some (.slice A550_1 ((rd_T67 l1 x5_1).f1).length c550_1)∧w'.cell? ⟨(ad550.add ((x5_1).toNat * 3)).block,(ad550.add ((x5_1).toNat * 3)).off + 2,none⟩=some (.int .i64 ((rd_T67 l1 x5_1).f2))) (ds:=[]) (yvb 10 0) (by kernel_rfl) rfl rfl ⟨((HB.out.cell (World.block_lt_of_cell? w _ hw549_0)).trans hw549_0),((HB.out.cell (World.block_lt_of_cell? w _ hw549_1)).trans hw549_1),((HB.out.cell (World.block_lt_of_cell? w _ hw549_2)).trans hw549_2),((HB.out.cell (World.block_lt_of_cell? w _ hw550_0)).trans hw550_0),((HB.out.cell (World.block_lt_of_cell? w _ hw550_1)).trans hw550_1),((HB.out.cell (World.block_lt_of_cell? w _ hw550_2)).trans hw550_2)⟩ (fun hHeld=>?_);refine with_tabW laws_eqRuleS.tab6 laws_eqRuleS.bits6 (fun HT_ HW_=>?_)
  generalize wr.drew=w9 at HB HR549_1 HR550_1 hx549_0 hx549_1 hx549_2 hx550_0 hx550_1 hx550_2 hHeld ⊢
  refine yvp 0 17 (yvb 10 1) HT_.out ?_
  refine yvp 1 18 (yvb 10 3) HT_.out ?_
  refine yvp 2 19 (yvb 10 7) HT_.out ?_
  refine yvp 4 21 (yvb 10 23) HT_.out ?_
  refine yvp 5 22 (yvb 10 55) HT_.out ?_
  refine yvp 6 23 (yvb 10 119) HT_.out ?_
  refine yvt 3 20 (yvb 10 127) HT_.out HW_.out hHeld ?_
  refine yvt 7 24 (yvb 10 255) HT_.out HW_.out hHeld ?_
  refine one_ (i:=8) (N:=some 25) (yvb 10 511) rfl rfl (one_of HT_.out (by kernel_rfl)) (by decide) (fun K hK=>?_)
  refine goes_ Try.func71 (by kernel_rfl) rfl #[.agg #[.int .i64 ((rd_T67 l0 x5_1).f0),.slice A549_1 ((rd_T67 l0 x5_1).f1).length c549_1,.int .i64 ((rd_T67 l0 x5_1).f2)],.agg #[.int .i64 ((rd_T67 l1 x5_1).f0),.slice A550_1 ((rd_T67 l1 x5_1).f1).length c550_1,.int .i64 ((rd_T67 l1 x5_1).f2)]] (by rfl) rfl rfl ymd ?_
  with_reducible refine (laws_eqRule.calls k1 ((rd_T67 l0 x5_1).f0) _ _ ((rd_T67 l0 x5_1).f1) ((rd_T67 l0 x5_1).f2) ((rd_T67 l1 x5_1).f0) _ _ ((rd_T67 l1 x5_1).f1) ((rd_T67 l1 x5_1).f2) true _ ?_ ?_ ?_ ?_ A7.out).mono ?_
  exact Kd.Cz ((Kd.C_below HR549_1.out HB.out))
  exact HC549_1.out
  exact Kd.Cz ((Kd.C_below HR550_1.out HB.out))
  exact HC550_1.out
  rintro e w10 ⟨rfl,hb⟩
  refine ⟨_,rfl,?_⟩
  replace HB:=yam (below_step (yez HB.out) hb)
  (try clear hb)
  (try clear hb2)
  (try clear hk)
  (try clear hi)
  refine hK.out _ _ ⟨((HB.out.cell (World.block_lt_of_cell? w _ hw549_0)).trans hw549_0),((HB.out.cell (World.block_lt_of_cell? w _ hw549_1)).trans hw549_1),((HB.out.cell (World.block_lt_of_cell? w _ hw549_2)).trans hw549_2),((HB.out.cell (World.block_lt_of_cell? w _ hw550_0)).trans hw550_0),((HB.out.cell (World.block_lt_of_cell? w _ hw550_1)).trans hw550_1),((HB.out.cell (World.block_lt_of_cell? w _ hw550_2)).trans hw550_2)⟩ (fun hHeld=>?_)
  clear hK K
  refine norm_ (a':=?_) ?_ ?_
  rotate_left
  ·show Act.put _ (some 25) _=_
   simp only [Act.put,yps,i64_w,i32_w]
   rfl
  refine yvp 9 26 (yvb 10 1023) HT_.out ?_
  refine done_ (done_of HT_.out (by kernel_rfl)) ?_
  try go_wp2
  go_roundg k1
  case measure=>have:=HK1.out;omega
  case rel=>exact ⟨(wrap64 (x5_1 + 1)),yeq,H,⟨by have:=HK1.out;omega⟩,⟨yhb⟩⟩
def laws_eqPuzzle.f (k:Nat)(a0_0:Int)(l0_1:List Int)(l0_2:List (S67))(a1_0:Int)(l1_1:List Int)(l1_2:List (S67)):Option (Bool):=if a0_0=a1_0 then ((laws_eqIntS.f k l0_1 l1_1).bind fun t554=>(if t554=true then ((laws_eqRuleS.f k l0_2 l1_2).bind fun t555=>(if t555=true then (some true) else (some false))) else (some false))) else (some false)
theorem laws_eqPuzzle.calls (k:Nat)(a0_0:Int)(A0_1:Option Addr)(c0_1:Nat)(l0_1:List Int)(A0_2:Option Addr)(c0_2:Nat)(l0_2:List (S67))(a1_0:Int)(A1_1:Option Addr)(c1_1:Nat)(l1_1:List Int)(A1_2:Option Addr)(c1_2:Nat)(l1_2:List (S67))(r:Bool)(w:World)(hr0_1:Kd.C (Kd.int .i64) w A0_1 l0_1.length l0_1)(hc0_1:l0_1.length≤c0_1)(hr0_2:Kd.C k67 w A0_2 l0_2.length l0_2)(hc0_2:l0_2.length≤c0_2)(hr1_1:Kd.C (Kd.int .i64) w A1_1 l1_1.length l1_1)(hc1_1:l1_1.length≤c1_1)(hr1_2:Kd.C k67 w A1_2 l1_2.length l1_2)(hc1_2:l1_2.length≤c1_2)(h:laws_eqPuzzle.f k a0_0 l0_1 l0_2 a1_0 l1_1 l1_2=some r) :
  Calls Try.prog 14 #[.agg #[.int .i64 a0_0,.slice A0_1 l0_1.length c0_1,.slice A0_2 l0_2.length c0_2],.agg #[.int .i64 a1_0,.slice A1_1 l1_1.length c1_1,.slice A1_2 l1_2.length c1_2]] w fun e w'=>e= .returned (.bool r)∧Below w.heap.size w w':=by
 have hu30:=Try.underlying30
 have HR0_1:=yam hr0_1
 have HC0_1:=yam hc0_1
 clear hr0_1 hc0_1
 have HR0_2:=yam hr0_2
 have HC0_2:=yam hc0_2
 clear hr0_2 hc0_2
 have HR1_1:=yam hr1_1
 have HC1_1:=yam hc1_1
 clear hr1_1 hc1_1
 have HR1_2:=yam hr1_2
 have HC1_2:=yam hc1_2
 clear hr1_2 hc1_2
 have HB:=yam (Below.refl w.heap.size w)
 unfold laws_eqPuzzle.f at h
 have H:=h
 clear h
 replace H:=yit H;obtain ⟨c3,H⟩ | ⟨c3,H⟩:=H
 rotate_left
 ·have c3b0:(a0_0 == a1_0)=false:=beq_eq_false_iff_ne.mpr c3
  have c3b1:(a0_0 != a1_0)=true:=bne_iff_ne.mpr c3
  obtain rfl:=ysi H
  go_enter Try.func14,Try.ntmps14
  go_wp2_with (first|(refine ybe 2 #[.int .i64 a0_0,.slice A0_1 l0_1.length c0_1,.slice A0_2 l0_2.length c0_2] 30 ?_;intro gb552 hg w25 hbox hb;have BK552:=yam (hbox);have GW552:=yam ((by rw [hg];exact (below_size (yez HB.out)):w.heap.size≤gb552));replace HB:=yam (below_step (yez HB.out) hb);have GE552:=GW552;clear hb hbox hg)|(refine ybe 3 #[.int .i64 a1_0,.slice A1_1 l1_1.length c1_1,.slice A1_2 l1_2.length c1_2] 30 ?_;intro gb553 hg w26 hbox hb;have BK553:=yam (hbox);have GW553:=yam ((by rw [hg];exact (below_size yhb):w.heap.size≤gb553));replace HB:=yam (below_step yhb hb);have GE553:=GW553;have NB552_553:=yam ((by rw [hg];exact Nat.ne_of_lt (blk_lt (g:=gb552) (o:= .cells #[.int .i64 a0_0,.slice A0_1 l0_1.length c0_1,.slice A0_2 l0_2.length c0_2] 30 (0,0)) (ybz BK552.out)):gb552≠gb553));have NB553_552:=yam ((by rw [hg];exact Nat.ne_of_gt (blk_lt (g:=gb552) (o:= .cells #[.int .i64 a0_0,.slice A0_1 l0_1.length c0_1,.slice A0_2 l0_2.length c0_2] 30 (0,0)) (ybz BK552.out)):gb553≠gb552));replace BK552:=yam (ybb BK552.out hb);clear hb hbox hg;have hnb27:=NB552_553.out;have hnc27:=NB553_552.out;obtain ⟨hcz28_0,hcz28_1,hcz28_2,hfz28_0,hfz28_1,hfz28_2⟩:=ybc BK552.out;obtain ⟨hcz29_0,hcz29_1,hcz29_2,hfz29_0,hfz29_1,hfz29_2⟩:=ybc BK553.out))
  go_ret
  exact ⟨yer,yhb⟩
 have c3b0:(a0_0 == a1_0)=true:=beq_iff_eq.mpr c3
 have c3b1:(a0_0 != a1_0)=false:=bne_eq_false_iff_eq.mpr c3
 clear c3
 replace H:=ybi H;obtain ⟨t554,A4,H⟩:=H
 try dsimp only at H
 cases t554
 ·replace H:=yff H
  obtain rfl:=ysi H
  go_enter Try.func14,Try.ntmps14
  go_wp2_with (first|(refine ybe 2 #[.int .i64 a0_0,.slice A0_1 l0_1.length c0_1,.slice A0_2 l0_2.length c0_2] 30 ?_;intro gb552 hg w20 hbox hb;have BK552:=yam (hbox);have GW552:=yam ((by rw [hg];exact (below_size (yez HB.out)):w.heap.size≤gb552));replace HB:=yam (below_step (yez HB.out) hb);have GE552:=GW552;clear hb hbox hg)|(refine ybe 3 #[.int .i64 a1_0,.slice A1_1 l1_1.length c1_1,.slice A1_2 l1_2.length c1_2] 30 ?_;intro gb553 hg w21 hbox hb;have BK553:=yam (hbox);have GW553:=yam ((by rw [hg];exact (below_size yhb):w.heap.size≤gb553));replace HB:=yam (below_step yhb hb);have GE553:=GW553;have NB552_553:=yam ((by rw [hg];exact Nat.ne_of_lt (blk_lt (g:=gb552) (o:= .cells #[.int .i64 a0_0,.slice A0_1 l0_1.length c0_1,.slice A0_2 l0_2.length c0_2] 30 (0,0)) (ybz BK552.out)):gb552≠gb553));have NB553_552:=yam ((by rw [hg];exact Nat.ne_of_gt (blk_lt (g:=gb552) (o:= .cells #[.int .i64 a0_0,.slice A0_1 l0_1.length c0_1,.slice A0_2 l0_2.length c0_2] 30 (0,0)) (ybz BK552.out)):gb553≠gb552));replace BK552:=yam (ybb BK552.out hb);clear hb hbox hg;have hnb22:=NB552_553.out;have hnc22:=NB553_552.out;obtain ⟨hcz23_0,hcz23_1,hcz23_2,hfz23_0,hfz23_1,hfz23_2⟩:=ybc BK552.out;obtain ⟨hcz24_0,hcz24_1,hcz24_2,hfz24_0,hfz24_1,hfz24_2⟩:=ybc BK553.out)|(refine goesL_ (some 14) rfl rfl Try.func13 (by kernel_rfl) rfl #[.slice A0_1 l0_1.length c0_1,.slice A1_1 l1_1.length c1_1] rfl ymd ?_;(with_reducible refine (laws_eqIntS.calls k _ _ l0_1 _ _ l1_1 false _ ?_ ?_ ?_ ?_ A4.out).mono ?_);exact Kd.Cz ((Kd.C_below HR0_1.out HB.out));exact HC0_1.out;exact Kd.Cz ((Kd.C_below HR1_1.out HB.out));exact HC1_1.out;rintro e w' ⟨rfl,⟨nd,rfl⟩⟩;refine ⟨_,rfl,?_⟩))
  go_ret
  exact ⟨yer,yhb⟩
 replace H:=ytt H
 replace H:=ybi H;obtain ⟨t555,A6,H⟩:=H
 try dsimp only at H
 cases t555
 rotate_left
 ·replace H:=ytt H
  obtain rfl:=ysi H
  go_enter Try.func14,Try.ntmps14
  go_wp2_with (first|(refine ybe 2 #[.int .i64 a0_0,.slice A0_1 l0_1.length c0_1,.slice A0_2 l0_2.length c0_2] 30 ?_;intro gb552 hg w8 hbox hb;have BK552:=yam (hbox);have GW552:=yam ((by rw [hg];exact (below_size (yez HB.out)):w.heap.size≤gb552));replace HB:=yam (below_step (yez HB.out) hb);have GE552:=GW552;clear hb hbox hg)|(refine ybe 3 #[.int .i64 a1_0,.slice A1_1 l1_1.length c1_1,.slice A1_2 l1_2.length c1_2] 30 ?_;intro gb553 hg w9 hbox hb;have BK553:=yam (hbox);have GW553:=yam ((by rw [hg];exact (below_size yhb):w.heap.size≤gb553));replace HB:=yam (below_step yhb hb);have GE553:=GW553;have NB552_553:=yam ((by rw [hg];exact Nat.ne_of_lt (blk_lt (g:=gb552) (o:= .cells #[.int .i64 a0_0,.slice A0_1 l0_1.length c0_1,.slice A0_2 l0_2.length c0_2] 30 (0,0)) (ybz BK552.out)):gb552≠gb553));have NB553_552:=yam ((by rw [hg];exact Nat.ne_of_gt (blk_lt (g:=gb552) (o:= .cells #[.int .i64 a0_0,.slice A0_1 l0_1.length c0_1,.slice A0_2 l0_2.length c0_2] 30 (0,0)) (ybz BK552.out)):gb553≠gb552));replace BK552:=yam (ybb BK552.out hb);clear hb hbox hg;have hnb10:=NB552_553.out;have hnc10:=NB553_552.out;obtain ⟨hcz11_0,hcz11_1,hcz11_2,hfz11_0,hfz11_1,hfz11_2⟩:=ybc BK552.out;obtain ⟨hcz12_0,hcz12_1,hcz12_2,hfz12_0,hfz12_1,hfz12_2⟩:=ybc BK553.out)|(refine goesL_ (some 14) rfl rfl Try.func13 (by kernel_rfl) rfl #[.slice A0_1 l0_1.length c0_1,.slice A1_1 l1_1.length c1_1] rfl ymd ?_;(with_reducible refine (laws_eqIntS.calls k _ _ l0_1 _ _ l1_1 true _ ?_ ?_ ?_ ?_ A4.out).mono ?_);exact Kd.Cz ((Kd.C_below HR0_1.out HB.out));exact HC0_1.out;exact Kd.Cz ((Kd.C_below HR1_1.out HB.out));exact HC1_1.out;rintro e w' ⟨rfl,⟨nd,rfl⟩⟩;refine ⟨_,rfl,?_⟩)|(refine goesL_ (some 20) rfl rfl Try.func37 (by kernel_rfl) rfl #[.slice A0_2 l0_2.length c0_2,.slice A1_2 l1_2.length c1_2] rfl ymd ?_;(with_reducible refine (laws_eqRuleS.calls k _ _ l0_2 _ _ l1_2 true _ ?side1 ?side2 ?side3 ?side4 A6.out).mono ?_);(case side1=>repeat (first|exact (Kd.C_below HR0_2.out yhb)|(with_reducible refine Kd.C_alloc ?_ _)|(with_reducible refine Kd.C_drewN ?_ _)|(with_reducible refine Kd.C_drew ?_)));(case side2=>exact HC0_2.out);(case side3=>repeat (first|exact (Kd.C_below HR1_2.out yhb)|(with_reducible refine Kd.C_alloc ?_ _)|(with_reducible refine Kd.C_drewN ?_ _)|(with_reducible refine Kd.C_drew ?_)));(case side4=>exact HC1_2.out);rintro e w13 ⟨rfl,hb⟩;refine ⟨_,rfl,?_⟩;replace BK552:=yam (ybb BK552.out hb);replace BK553:=yam (ybb BK553.out hb);replace HB:=yam (below_step yhb hb);(try clear hb)))
  go_ret
  exact ⟨yer,yhb⟩
 replace H:=yff H
 obtain rfl:=ysi H
 go_enter Try.func14,Try.ntmps14
 go_wp2_with (first|(refine ybe 2 #[.int .i64 a0_0,.slice A0_1 l0_1.length c0_1,.slice A0_2 l0_2.length c0_2] 30 ?_;intro gb552 hg w14 hbox hb;have BK552:=yam (hbox);have GW552:=yam ((by rw [hg];exact (below_size (yez HB.out)):w.heap.size≤gb552));replace HB:=yam (below_step (yez HB.out) hb);have GE552:=GW552;clear hb hbox hg)|(refine ybe 3 #[.int .i64 a1_0,.slice A1_1 l1_1.length c1_1,.slice A1_2 l1_2.length c1_2] 30 ?_;intro gb553 hg w15 hbox hb;have BK553:=yam (hbox);have GW553:=yam ((by rw [hg];exact (below_size yhb):w.heap.size≤gb553));replace HB:=yam (below_step yhb hb);have GE553:=GW553;have NB552_553:=yam ((by rw [hg];exact Nat.ne_of_lt (blk_lt (g:=gb552) (o:= .cells #[.int .i64 a0_0,.slice A0_1 l0_1.length c0_1,.slice A0_2 l0_2.length c0_2] 30 (0,0)) (ybz BK552.out)):gb552≠gb553));have NB553_552:=yam ((by rw [hg];exact Nat.ne_of_gt (blk_lt (g:=gb552) (o:= .cells #[.int .i64 a0_0,.slice A0_1 l0_1.length c0_1,.slice A0_2 l0_2.length c0_2] 30 (0,0)) (ybz BK552.out)):gb553≠gb552));replace BK552:=yam (ybb BK552.out hb);clear hb hbox hg;have hnb16:=NB552_553.out;have hnc16:=NB553_552.out;obtain ⟨hcz17_0,hcz17_1,hcz17_2,hfz17_0,hfz17_1,hfz17_2⟩:=ybc BK552.out;obtain ⟨hcz18_0,hcz18_1,hcz18_2,hfz18_0,hfz18_1,hfz18_2⟩:=ybc BK553.out)|(refine goesL_ (some 14) rfl rfl Try.func13 (by kernel_rfl) rfl #[.slice A0_1 l0_1.length c0_1,.slice A1_1 l1_1.length c1_1] rfl ymd ?_;(with_reducible refine (laws_eqIntS.calls k _ _ l0_1 _ _ l1_1 true _ ?_ ?_ ?_ ?_ A4.out).mono ?_);exact Kd.Cz ((Kd.C_below HR0_1.out HB.out));exact HC0_1.out;exact Kd.Cz ((Kd.C_below HR1_1.out HB.out));exact HC1_1.out;rintro e w' ⟨rfl,⟨nd,rfl⟩⟩;refine ⟨_,rfl,?_⟩)|(refine goesL_ (some 20) rfl rfl Try.func37 (by kernel_rfl) rfl #[.slice A0_2 l0_2.length c0_2,.slice A1_2 l1_2.length c1_2] rfl ymd ?_;(with_reducible refine (laws_eqRuleS.calls k _ _ l0_2 _ _ l1_2 false _ ?side1 ?side2 ?side3 ?side4 A6.out).mono ?_);(case side1=>repeat (first|exact (Kd.C_below HR0_2.out yhb)|(with_reducible refine Kd.C_alloc ?_ _)|(with_reducible refine Kd.C_drewN ?_ _)|(with_reducible refine Kd.C_drew ?_)));(case side2=>exact HC0_2.out);(case side3=>repeat (first|exact (Kd.C_below HR1_2.out yhb)|(with_reducible refine Kd.C_alloc ?_ _)|(with_reducible refine Kd.C_drewN ?_ _)|(with_reducible refine Kd.C_drew ?_)));(case side4=>exact HC1_2.out);rintro e w19 ⟨rfl,hb⟩;refine ⟨_,rfl,?_⟩;replace BK552:=yam (ybb BK552.out hb);replace BK553:=yam (ybb BK553.out hb);replace HB:=yam (below_step yhb hb);(try clear hb)))
 go_ret
 exact ⟨yer,yhb⟩
def spec_l1In.f (a0:Int)(a1:Int)(a2:Int):Option (Bool):=if a0 ≥ a1 then (some (decide (a0≤a2))) else (some false)
theorem spec_l1In.calls (a0:Int)(a1:Int)(a2:Int)(r:Bool)(w:World)(h:spec_l1In.f a0 a1 a2=some r) :
  Calls Try.prog 39 #[.int .i64 a0,.int .i64 a1,.int .i64 a2] w fun e w'=>e= .returned (.bool r)∧Drawn0 w w':=by
 unfold spec_l1In.f at h
 have H:=h
 clear h
 replace H:=yis H;obtain ⟨c4b0,H⟩ | ⟨c4b0,H⟩:=H
 ·obtain rfl:=ysi H
  go_enter Try.func39,Try.ntmps39
  go_wp2
  go_ret
  exact ⟨yeq,by repeat (first|exact Drawn0.refl _|apply Drawn0.step)⟩
 obtain rfl:=ysi H
 go_enter Try.func39,Try.ntmps39
 go_wp2
 go_ret
 exact ⟨yeq,by repeat (first|exact Drawn0.refl _|apply Drawn0.step)⟩
mutual
def spec_RuleValid.l0:Nat→Int→Int→Int→List Int→Int→Option (Bool)
 | 0,_,_,_,_,_=>none
 | k + 1,x1,x5,x109000,x109001,x109002=>if x5 < (x109001.length:Int) then (if 0≤x5 then ((spec_l1In.f (rd x109001 x5) 0 (wrap64 ((wrap64 (x1 * x1)) - 1))).bind fun t110=>(if t110=true then (spec_RuleValid.l1 k x1 x5 0 x109000 x109001 x109002) else (some false))) else (none)) else ((spec_l1In.f x1 2 4).bind fun t113=>(if t113=true then (spec_RuleValid.j2 k x1 (x109001.length:Int) (decide ((x109001.length:Int) > 4)) x109000 x109001 x109002) else (spec_RuleValid.j2 k x1 (x109001.length:Int) true x109000 x109001 x109002)))
def spec_RuleValid.l1:Nat→Int→Int→Int→Int→List Int→Int→Option (Bool)
 | 0,_,_,_,_,_,_=>none
 | k + 1,x1,x5,x6,x109000,x109001,x109002=>if x6 < x5 then (if 0≤x6 then (if x6 < (x109001.length:Int) then (if 0≤x5 then (if x5 < (x109001.length:Int) then (if (rd x109001 x6)=(rd x109001 x5) then (some false) else (spec_RuleValid.l1 k x1 x5 (wrap64 (x6 + 1)) x109000 x109001 x109002)) else (none)) else (none)) else (none)) else (none)) else (spec_RuleValid.l0 k x1 (wrap64 (x5 + 1)) x109000 x109001 x109002)
def spec_RuleValid.j2:Nat→Int→Int→Bool→Int→List Int→Int→Option (Bool)
 | 0,_,_,_,_,_,_=>none
 | k + 1,x1,x7,x51,x109000,x109001,x109002=>if x51=true then (some false) else (if x109000=1 then (if x7 ≥ 2 then (some (x109002 == 0)) else (some false)) else (if x109000=2 then (spec_RuleValid.j3 k x1 x7 x109000 (x109000 == 2) x109000 x109001 x109002) else (spec_RuleValid.j3 k x1 x7 x109000 (x109000 == 3) x109000 x109001 x109002)))
def spec_RuleValid.j3:Nat→Int→Int→Int→Bool→Int→List Int→Int→Option (Bool)
 | 0,_,_,_,_,_,_,_=>none
 | k + 1,x1,x7,x53,x63,x109000,x109001,x109002=>if x63=true then (if x7 ≥ 1 then ((spec_l1In.f x109002 1 (wrap64 ((wrap64 ((wrap64 (x1 * x1)) * x1)) * x1))).bind fun t114=>(some t114)) else (some false)) else (if x53=4 then (if x7=2 then (some (x109002 == 0)) else (some false)) else (if x53=5 then (if x7=2 then ((spec_l1In.f x109002 0 (wrap64 (x1 - 1))).bind fun t115=>(some t115)) else (some false)) else (some false)))
end
def spec_RuleValid.f (k:Nat)(a0_0:Int)(l0_1:List Int)(a0_2:Int)(a1:Int):Option (Bool):=spec_RuleValid.l0 k a1 0 a0_0 l0_1 a0_2
theorem spec_RuleValid.calls (k:Nat)(a0_0:Int)(A0_1:Option Addr)(c0_1:Nat)(l0_1:List Int)(a0_2:Int)(a1:Int)(r:Bool)(w:World)(hr0_1:Kd.C (Kd.int .i64) w A0_1 l0_1.length l0_1)(hc0_1:l0_1.length≤c0_1)(h:spec_RuleValid.f k a0_0 l0_1 a0_2 a1=some r) :
  Calls Try.prog 66 #[.agg #[.int .i64 a0_0,.slice A0_1 l0_1.length c0_1,.int .i64 a0_2],.int .i64 a1] w fun e w'=>e= .returned (.bool r)∧Below w.heap.size w w':=by
 have hu67:=Try.underlying67
 have HR0_1:=yam hr0_1
 have HC0_1:=yam hc0_1
 clear hr0_1 hc0_1
 have HB:=yam (Below.refl w.heap.size w)
 unfold spec_RuleValid.f at h
 have H:=h
 clear h
 replace H:=yam H
 go_enter Try.func66,Try.ntmps66
 go_wp2_with (first|(refine ybe 2 #[.int .i64 a0_0,.slice A0_1 l0_1.length c0_1,.int .i64 a0_2] 67 ?_;intro gb108 hg w3 hbox hb;have BK108:=yam (hbox);have GW108:=yam ((by rw [hg];exact (below_size (yez HB.out)):w.heap.size≤gb108));replace HB:=yam (below_step (yez HB.out) hb);have GE108:=GW108;clear hb hbox hg))
 repeat (go_quiet (first|(refine ybe 2 #[.int .i64 a0_0,.slice A0_1 l0_1.length c0_1,.int .i64 a0_2] 67 ?_;intro gb108 hg w3 hbox hb;have BK108:=yam (hbox);have GW108:=yam ((by rw [hg];exact (below_size (yez HB.out)):w.heap.size≤gb108));replace HB:=yam (below_step (yez HB.out) hb);have GE108:=GW108;clear hb hbox hg));try go_wp2_with (first|(refine ybe 2 #[.int .i64 a0_0,.slice A0_1 l0_1.length c0_1,.int .i64 a0_2] 67 ?_;intro gb108 hg w3 hbox hb;have BK108:=yam (hbox);have GW108:=yam ((by rw [hg];exact (below_size (yez HB.out)):w.heap.size≤gb108));replace HB:=yam (below_step (yez HB.out) hb);have GE108:=GW108;clear hb hbox hg)))
 go_loopg [5] k (fun kq v5 w'=>∃ (x5_1:Int),v5= .int .i64 x5_1∧Aside0 (spec_RuleValid.l0 kq a1 x5_1 a0_0 l0_1 a0_2=some r)∧Aside0 (kq≤k)∧Aside0 (w'.heap[gb108]?=some (.cells #[.int .i64 a0_0,(.slice A0_1 l0_1.length c0_1),.int .i64 a0_2] 67 (0,0)))∧Aside0 (Below w.heap.size w w'))
 case atStart=>exact ⟨(0),yeq,H,⟨Nat.le_refl _⟩,⟨ybk BK108.out⟩,⟨yhb⟩⟩
 case round =>
  clear H
  obtain ⟨x5_1,rfl,HA,HK1,BK108,HB⟩:=hrel
  rcases gk with _|k1
  ·exact absurd HA.out (by simp [spec_RuleValid.l0])
  obtain ⟨H⟩:=HA
  simp only [spec_RuleValid.l0] at H
  replace H:=yis H;obtain ⟨c4b0,H⟩ | ⟨c4b0,H⟩:=H
  ·replace H:=yif H;obtain ⟨c5b0,H⟩:=H
   replace H:=ybi H;obtain ⟨t110,A6,H⟩:=H
   try dsimp only at H
   cases t110
   ·replace H:=yff H
    obtain rfl:=ysi H
    obtain ⟨hcz17_0,hcz17_1,hcz17_2,hfz17_0,hfz17_1,hfz17_2⟩:=ybc BK108.out
    obtain ⟨ad109,e109,hx109_0,p109,q109⟩:=yat HR0_1.out x5_1
    cases e109
    replace hx109_0:=ybx HB.out hx109_0
    have hwq0_:IntKind.i64.wrap (a1 * a1)=wrap64 (a1 * a1):=i64_w _
    have hwq1_:IntKind.i64.wrap ((wrap64 (a1 * a1)) - 1)=wrap64 ((wrap64 (a1 * a1)) - 1):=i64_w _
    go_wp2_with (first|(go_at_call 39;(with_reducible refine (spec_l1In.calls (rd l0_1 x5_1) 0 (wrap64 ((wrap64 (a1 * a1)) - 1)) false _ A6.out).mono ?_);rintro e w' ⟨rfl,⟨nd,rfl⟩⟩;(try first|exact ⟨rfl,_,World.drewN_drewN _ _ _⟩|exact ⟨rfl,_,Eq.trans (World.drewN_drewN _ _ _) (congrArg (World.drewN _) (Nat.add_assoc _ _ _))⟩)))
    repeat (go_quiet (first|(go_at_call 39;(with_reducible refine (spec_l1In.calls (rd l0_1 x5_1) 0 (wrap64 ((wrap64 (a1 * a1)) - 1)) false _ A6.out).mono ?_);rintro e w' ⟨rfl,⟨nd,rfl⟩⟩;(try first|exact ⟨rfl,_,World.drewN_drewN _ _ _⟩|exact ⟨rfl,_,Eq.trans (World.drewN_drewN _ _ _) (congrArg (World.drewN _) (Nat.add_assoc _ _ _))⟩)));try go_wp2_with (first|(go_at_call 39;(with_reducible refine (spec_l1In.calls (rd l0_1 x5_1) 0 (wrap64 ((wrap64 (a1 * a1)) - 1)) false _ A6.out).mono ?_);rintro e w' ⟨rfl,⟨nd,rfl⟩⟩;(try first|exact ⟨rfl,_,World.drewN_drewN _ _ _⟩|exact ⟨rfl,_,Eq.trans (World.drewN_drewN _ _ _) (congrArg (World.drewN _) (Nat.add_assoc _ _ _))⟩))))
    go_ret
    exact ⟨yer,yhb⟩
   replace H:=ytt H
   replace H:=yam H
   obtain ⟨hcz8_0,hcz8_1,hcz8_2,hfz8_0,hfz8_1,hfz8_2⟩:=ybc BK108.out
   obtain ⟨ad109,e109,hx109_0,p109,q109⟩:=yat HR0_1.out x5_1
   cases e109
   replace hx109_0:=ybx HB.out hx109_0
   have hwq0_:IntKind.i64.wrap (a1 * a1)=wrap64 (a1 * a1):=i64_w _
   have hwq1_:IntKind.i64.wrap ((wrap64 (a1 * a1)) - 1)=wrap64 ((wrap64 (a1 * a1)) - 1):=i64_w _
   go_wp2_with (first|(go_at_call 39;(with_reducible refine (spec_l1In.calls (rd l0_1 x5_1) 0 (wrap64 ((wrap64 (a1 * a1)) - 1)) true _ A6.out).mono ?_);rintro e w' ⟨rfl,⟨nd,rfl⟩⟩;(try first|exact ⟨rfl,_,World.drewN_drewN _ _ _⟩|exact ⟨rfl,_,Eq.trans (World.drewN_drewN _ _ _) (congrArg (World.drewN _) (Nat.add_assoc _ _ _))⟩)))
   repeat (go_quiet (first|(go_at_call 39;(with_reducible refine (spec_l1In.calls (rd l0_1 x5_1) 0 (wrap64 ((wrap64 (a1 * a1)) - 1)) true _ A6.out).mono ?_);rintro e w' ⟨rfl,⟨nd,rfl⟩⟩;(try first|exact ⟨rfl,_,World.drewN_drewN _ _ _⟩|exact ⟨rfl,_,Eq.trans (World.drewN_drewN _ _ _) (congrArg (World.drewN _) (Nat.add_assoc _ _ _))⟩)));try go_wp2_with (first|(go_at_call 39;(with_reducible refine (spec_l1In.calls (rd l0_1 x5_1) 0 (wrap64 ((wrap64 (a1 * a1)) - 1)) true _ A6.out).mono ?_);rintro e w' ⟨rfl,⟨nd,rfl⟩⟩;(try first|exact ⟨rfl,_,World.drewN_drewN _ _ _⟩|exact ⟨rfl,_,Eq.trans (World.drewN_drewN _ _ _) (congrArg (World.drewN _) (Nat.add_assoc _ _ _))⟩))))
   go_loopg [6] k1 (fun kq v6 w'=>∃ (x6_2:Int),v6= .int .i64 x6_2∧Aside0 (spec_RuleValid.l1 kq a1 x5_1 x6_2 a0_0 l0_1 a0_2=some r)∧Aside0 (kq≤k1)∧Aside0 (w'.heap[gb108]?=some (.cells #[.int .i64 a0_0,(.slice (some ad109) l0_1.length c0_1),.int .i64 a0_2] 67 (0,0)))∧Aside0 (Below w.heap.size w w'))
   case atStart=>exact ⟨(0),yeq,H,⟨Nat.le_refl _⟩,⟨ybk BK108.out⟩,⟨yhb⟩⟩
   case round =>
    clear H
    try clear c4b0
    try clear c5b0
    try clear hcz8_0
    try clear hcz8_1
    try clear hcz8_2
    try clear hfz8_0
    try clear hfz8_1
    try clear hfz8_2
    try clear hx109_0
    try clear p109
    try clear q109
    obtain ⟨x6_2,rfl,HA,HK2,BK108,HB⟩:=hrel
    rcases gk with _|k2
    ·exact absurd HA.out (by simp [spec_RuleValid.l1])
    obtain ⟨H⟩:=HA
    simp only [spec_RuleValid.l1] at H
    replace H:=yis H;obtain ⟨c9b0,H⟩ | ⟨c9b0,H⟩:=H
    rotate_left
    ·replace H:=yam H
     go_wp2
     repeat (go_quiet (fail);try go_wp2)
     go_roundg k2
     case measure=>have:=HK1.out;have:=HK2.out;omega
     case rel=>exact ⟨(wrap64 (x5_1 + 1)),yeq,H,⟨by have:=HK1.out;have:=HK2.out;omega⟩,⟨ybk BK108.out⟩,⟨yhb⟩⟩
    replace H:=yif H;obtain ⟨c10b0,H⟩:=H
    replace H:=yif H;obtain ⟨c11b0,H⟩:=H
    replace H:=yif H;obtain ⟨c12b0,H⟩:=H
    replace H:=yif H;obtain ⟨c13b0,H⟩:=H
    replace H:=yit H;obtain ⟨c14,H⟩ | ⟨c14,H⟩:=H
    ·have c14b0:((rd l0_1 x6_2) == (rd l0_1 x5_1))=true:=beq_iff_eq.mpr c14
     have c14b1:((rd l0_1 x6_2) != (rd l0_1 x5_1))=false:=bne_eq_false_iff_eq.mpr c14
     clear c14
     obtain rfl:=ysi H
     obtain ⟨hcz15_0,hcz15_1,hcz15_2,hfz15_0,hfz15_1,hfz15_2⟩:=ybc BK108.out
     obtain ⟨ad111,e111,hx111_0,p111,q111⟩:=yat HR0_1.out x6_2
     obtain rfl:ad109=ad111:=(by injection e111)
     replace hx111_0:=ybx HB.out hx111_0
     obtain ⟨ad112,e112,hx112_0,p112,q112⟩:=yat HR0_1.out x5_1
     obtain rfl:ad109=ad112:=(by injection e112)
     replace hx112_0:=ybx HB.out hx112_0
     go_wp2
     repeat (go_quiet (fail);try go_wp2)
     go_ret
     exact ⟨yer,yhb⟩
    have c14b0:((rd l0_1 x6_2) == (rd l0_1 x5_1))=false:=beq_eq_false_iff_ne.mpr c14
    have c14b1:((rd l0_1 x6_2) != (rd l0_1 x5_1))=true:=bne_iff_ne.mpr c14
    replace H:=yam H
    obtain ⟨hcz16_0,hcz16_1,hcz16_2,hfz16_0,hfz16_1,hfz16_2⟩:=ybc BK108.out
    obtain ⟨ad111,e111,hx111_0,p111,q111⟩:=yat HR0_1.out x6_2
    obtain rfl:ad109=ad111:=(by injection e111)
    replace hx111_0:=ybx HB.out hx111_0
    obtain ⟨ad112,e112,hx112_0,p112,q112⟩:=yat HR0_1.out x5_1
    obtain rfl:ad109=ad112:=(by injection e112)
    replace hx112_0:=ybx HB.out hx112_0
    go_wp2
    repeat (go_quiet (fail);try go_wp2)
    go_roundg k2
    case measure=>have:=HK1.out;have:=HK2.out;omega
    case rel=>exact ⟨(wrap64 (x6_2 + 1)),yeq,H,⟨by have:=HK1.out;have:=HK2.out;omega⟩,⟨ybk BK108.out⟩,⟨yhb⟩⟩
  have HC18:=yam H
  clear H
  obtain ⟨hcz19_0,hcz19_1,hcz19_2,hfz19_0,hfz19_1,hfz19_2⟩:=ybc BK108.out
  go_upto_region 12 with (fail)
  repeat (go_quiet (fail);go_upto_region 12 with (fail))
  go_cut [51] (fun v51 wc=>∃ (kq:Nat) (x51_17:Bool),v51= .bool x51_17∧Aside0 (spec_RuleValid.j2 kq a1 (l0_1.length:Int) x51_17 a0_0 l0_1 a0_2=some r)∧Aside0 (kq≤k1)∧Aside0 (wc.heap[gb108]?=some (.cells #[.int .i64 a0_0,(.slice A0_1 l0_1.length c0_1),.int .i64 a0_2] 67 (0,0)))∧Aside0 (Below w.heap.size w wc))
  case first =>
   have H:=HC18.out
   clear HC18
   replace H:=ybi H;obtain ⟨t113,A20,H⟩:=H
   try dsimp only at H
   cases t113
   rotate_left
   ·replace H:=ytt H
    replace H:=yam H
    go_wp2_with (first|(go_at_call 39;(with_reducible refine (spec_l1In.calls a1 2 4 true _ A20.out).mono ?_);rintro e w' ⟨rfl,⟨nd,rfl⟩⟩;(try first|exact ⟨rfl,_,World.drewN_drewN _ _ _⟩|exact ⟨rfl,_,Eq.trans (World.drewN_drewN _ _ _) (congrArg (World.drewN _) (Nat.add_assoc _ _ _))⟩)))
    repeat (go_quiet (first|(go_at_call 39;(with_reducible refine (spec_l1In.calls a1 2 4 true _ A20.out).mono ?_);rintro e w' ⟨rfl,⟨nd,rfl⟩⟩;(try first|exact ⟨rfl,_,World.drewN_drewN _ _ _⟩|exact ⟨rfl,_,Eq.trans (World.drewN_drewN _ _ _) (congrArg (World.drewN _) (Nat.add_assoc _ _ _))⟩)));try go_wp2_with (first|(go_at_call 39;(with_reducible refine (spec_l1In.calls a1 2 4 true _ A20.out).mono ?_);rintro e w' ⟨rfl,⟨nd,rfl⟩⟩;(try first|exact ⟨rfl,_,World.drewN_drewN _ _ _⟩|exact ⟨rfl,_,Eq.trans (World.drewN_drewN _ _ _) (congrArg (World.drewN _) (Nat.add_assoc _ _ _))⟩))))
    go_meet
    case rel=>exact ⟨_,(decide ((l0_1.length:Int) > 4)),yeq,H,⟨by have:=HK1.out;first|omega|exact Nat.le_refl _⟩,⟨ybk BK108.out⟩,⟨yhb⟩⟩
   replace H:=yff H
   replace H:=yam H
   go_wp2_with (first|(go_at_call 39;(with_reducible refine (spec_l1In.calls a1 2 4 false _ A20.out).mono ?_);rintro e w' ⟨rfl,⟨nd,rfl⟩⟩;(try first|exact ⟨rfl,_,World.drewN_drewN _ _ _⟩|exact ⟨rfl,_,Eq.trans (World.drewN_drewN _ _ _) (congrArg (World.drewN _) (Nat.add_assoc _ _ _))⟩)))
   repeat (go_quiet (first|(go_at_call 39;(with_reducible refine (spec_l1In.calls a1 2 4 false _ A20.out).mono ?_);rintro e w' ⟨rfl,⟨nd,rfl⟩⟩;(try first|exact ⟨rfl,_,World.drewN_drewN _ _ _⟩|exact ⟨rfl,_,Eq.trans (World.drewN_drewN _ _ _) (congrArg (World.drewN _) (Nat.add_assoc _ _ _))⟩)));try go_wp2_with (first|(go_at_call 39;(with_reducible refine (spec_l1In.calls a1 2 4 false _ A20.out).mono ?_);rintro e w' ⟨rfl,⟨nd,rfl⟩⟩;(try first|exact ⟨rfl,_,World.drewN_drewN _ _ _⟩|exact ⟨rfl,_,Eq.trans (World.drewN_drewN _ _ _) (congrArg (World.drewN _) (Nat.add_assoc _ _ _))⟩))))
   go_meet
   case rel=>exact ⟨_,(true),yeq,H,⟨by have:=HK1.out;first|omega|exact Nat.le_refl _⟩,⟨ybk BK108.out⟩,⟨yhb⟩⟩
  case rest =>
   clear HC18
   try clear c4b0
   try clear hcz19_0
   try clear hcz19_1
   try clear hcz19_2
   try clear hfz19_0
   try clear hfz19_1
   try clear hfz19_2
   obtain ⟨kq,x51_17,rfl,HA,HJ17,BK108,HB⟩:=hcut
   rcases kq with _|kj17
   ·exact absurd HA.out (by simp [spec_RuleValid.j2])
   obtain ⟨H⟩:=HA
   simp only [spec_RuleValid.j2] at H
   cases x51_17
   rotate_left
   ·replace H:=ytt H
    obtain rfl:=ysi H
    go_wp2
    repeat (go_quiet (fail);try go_wp2)
    go_ret
    exact ⟨yer,yhb⟩
   replace H:=yff H
   replace H:=yit H;obtain ⟨c23,H⟩ | ⟨c23,H⟩:=H
   ·have c23b0:(a0_0 == 1)=true:=beq_iff_eq.mpr c23
    have c23b1:(a0_0 != 1)=false:=bne_eq_false_iff_eq.mpr c23
    clear c23
    replace H:=yit H;obtain ⟨c24,H⟩ | ⟨c24,H⟩:=H
    ·have c24b0:decide (2≤(l0_1.length:Int))=true:=decide_eq_true c24
     have c24b1:decide (2≤l0_1.length)=true:=decide_eq_true (by omega)
     clear c24
     obtain rfl:=ysi H
     obtain ⟨hcz25_0,hcz25_1,hcz25_2,hfz25_0,hfz25_1,hfz25_2⟩:=ybc BK108.out
     go_wp2
     repeat (go_quiet (fail);try go_wp2)
     go_ret
     exact ⟨yer,yhb⟩
    have c24b0:decide (2≤(l0_1.length:Int))=false:=decide_eq_false c24
    have c24b1:decide (2≤l0_1.length)=false:=decide_eq_false (by omega)
    clear c24
    obtain rfl:=ysi H
    obtain ⟨hcz26_0,hcz26_1,hcz26_2,hfz26_0,hfz26_1,hfz26_2⟩:=ybc BK108.out
    go_wp2
    repeat (go_quiet (fail);try go_wp2)
    go_ret
    exact ⟨yer,yhb⟩
   have c23b0:(a0_0 == 1)=false:=beq_eq_false_iff_ne.mpr c23
   have c23b1:(a0_0 != 1)=true:=bne_iff_ne.mpr c23
   have HC27:=yam H
   clear H
   obtain ⟨hcz28_0,hcz28_1,hcz28_2,hfz28_0,hfz28_1,hfz28_2⟩:=ybc BK108.out
   go_upto_if 63 with (fail)
   repeat (go_quiet (fail);go_upto_if 63 with (fail))
   go_cut [63] (fun v63 wc=>∃ (kq:Nat) (x63_26:Bool),v63= .bool x63_26∧Aside0 (spec_RuleValid.j3 kq a1 (l0_1.length:Int) a0_0 x63_26 a0_0 l0_1 a0_2=some r)∧Aside0 (kq≤kj17)∧Aside0 (wc.heap[gb108]?=some (.cells #[.int .i64 a0_0,(.slice A0_1 l0_1.length c0_1),.int .i64 a0_2] 67 (0,0)))∧Aside0 (Below w.heap.size w wc))
   case first =>
    have H:=HC27.out
    clear HC27
    replace H:=yit H;obtain ⟨c29,H⟩ | ⟨c29,H⟩:=H
    rotate_left
    ·have c29b0:(a0_0 == 2)=false:=beq_eq_false_iff_ne.mpr c29
     have c29b1:(a0_0 != 2)=true:=bne_iff_ne.mpr c29
     (first|rw [c29b0]|(simp only [i64_w,i32_w];rw [c29b0])|skip)
     replace H:=yam H
     go_wp2
     repeat (go_quiet (fail);try go_wp2)
     go_meet
     case rel=>exact ⟨_,((a0_0 == 3)),yeq,H,⟨by have:=HK1.out;have:=HJ17.out;first|omega|exact Nat.le_refl _⟩,⟨ybk BK108.out⟩,⟨yhb⟩⟩
    have c29b0:(a0_0 == 2)=true:=beq_iff_eq.mpr c29
    have c29b1:(a0_0 != 2)=false:=bne_eq_false_iff_eq.mpr c29
    clear c29
    (first|rw [c29b0]|(simp only [i64_w,i32_w];rw [c29b0])|skip)
    replace H:=yam H
    go_wp2
    repeat (go_quiet (fail);try go_wp2)
    go_meet
    case rel=>exact ⟨_,((a0_0 == 2)),yeq,H,⟨by have:=HK1.out;have:=HJ17.out;first|omega|exact Nat.le_refl _⟩,⟨ybk BK108.out⟩,⟨yhb⟩⟩
   case rest =>
    clear HC27
    try clear c23
    try clear c23b0
    try clear c23b1
    try clear hcz28_0
    try clear hcz28_1
    try clear hcz28_2
    try clear hfz28_0
    try clear hfz28_1
    try clear hfz28_2
    obtain ⟨kq,x63_26,rfl,HA,HJ26,BK108,HB⟩:=hcut
    rcases kq with _|kj26
    ·exact absurd HA.out (by simp [spec_RuleValid.j3])
    obtain ⟨H⟩:=HA
    simp only [spec_RuleValid.j3] at H
    cases x63_26
    rotate_left
    ·replace H:=ytt H
     replace H:=yit H;obtain ⟨c31,H⟩ | ⟨c31,H⟩:=H
     rotate_left
     ·have c31b0:decide (1≤(l0_1.length:Int))=false:=decide_eq_false c31
      have c31b1:decide (1≤l0_1.length)=false:=decide_eq_false (by omega)
      clear c31
      obtain rfl:=ysi H
      go_wp2
      repeat (go_quiet (fail);try go_wp2)
      go_ret
      exact ⟨yer,yhb⟩
     have c31b0:decide (1≤(l0_1.length:Int))=true:=decide_eq_true c31
     have c31b1:decide (1≤l0_1.length)=true:=decide_eq_true (by omega)
     clear c31
     replace H:=ybi H;obtain ⟨t114,A32,H⟩:=H
     try dsimp only at H
     obtain rfl:=ysi H
     obtain ⟨hcz33_0,hcz33_1,hcz33_2,hfz33_0,hfz33_1,hfz33_2⟩:=ybc BK108.out
     have hwq0_:IntKind.i64.wrap (a1 * a1)=wrap64 (a1 * a1):=i64_w _
     have hwq1_:IntKind.i64.wrap ((wrap64 (a1 * a1)) * a1)=wrap64 ((wrap64 (a1 * a1)) * a1):=i64_w _
     have hwq2_:IntKind.i64.wrap ((wrap64 ((wrap64 (a1 * a1)) * a1)) * a1)=wrap64 ((wrap64 ((wrap64 (a1 * a1)) * a1)) * a1):=i64_w _
     go_wp2_with (first|(go_at_call 39;(with_reducible refine (spec_l1In.calls a0_2 1 (wrap64 ((wrap64 ((wrap64 (a1 * a1)) * a1)) * a1)) t114 _ A32.out).mono ?_);rintro e w' ⟨rfl,⟨nd,rfl⟩⟩;(try first|exact ⟨rfl,_,World.drewN_drewN _ _ _⟩|exact ⟨rfl,_,Eq.trans (World.drewN_drewN _ _ _) (congrArg (World.drewN _) (Nat.add_assoc _ _ _))⟩)))
     repeat (go_quiet (first|(go_at_call 39;(with_reducible refine (spec_l1In.calls a0_2 1 (wrap64 ((wrap64 ((wrap64 (a1 * a1)) * a1)) * a1)) t114 _ A32.out).mono ?_);rintro e w' ⟨rfl,⟨nd,rfl⟩⟩;(try first|exact ⟨rfl,_,World.drewN_drewN _ _ _⟩|exact ⟨rfl,_,Eq.trans (World.drewN_drewN _ _ _) (congrArg (World.drewN _) (Nat.add_assoc _ _ _))⟩)));try go_wp2_with (first|(go_at_call 39;(with_reducible refine (spec_l1In.calls a0_2 1 (wrap64 ((wrap64 ((wrap64 (a1 * a1)) * a1)) * a1)) t114 _ A32.out).mono ?_);rintro e w' ⟨rfl,⟨nd,rfl⟩⟩;(try first|exact ⟨rfl,_,World.drewN_drewN _ _ _⟩|exact ⟨rfl,_,Eq.trans (World.drewN_drewN _ _ _) (congrArg (World.drewN _) (Nat.add_assoc _ _ _))⟩))))
     go_ret
     exact ⟨yer,yhb⟩
    replace H:=yff H
    replace H:=yit H;obtain ⟨c34,H⟩ | ⟨c34,H⟩:=H
    ·have c34b0:(a0_0 == 4)=true:=beq_iff_eq.mpr c34
     have c34b1:(a0_0 != 4)=false:=bne_eq_false_iff_eq.mpr c34
     clear c34
     replace H:=yit H;obtain ⟨c35,H⟩ | ⟨c35,H⟩:=H
     rotate_left
     ·have c35b0:((l0_1.length:Int) == 2)=false:=beq_eq_false_iff_ne.mpr c35
      have c35b1:((l0_1.length:Int) != 2)=true:=bne_iff_ne.mpr c35
      obtain rfl:=ysi H
      go_wp2
      repeat (go_quiet (fail);try go_wp2)
      go_ret
      exact ⟨yer,yhb⟩
     have c35b0:((l0_1.length:Int) == 2)=true:=beq_iff_eq.mpr c35
     have c35b1:((l0_1.length:Int) != 2)=false:=bne_eq_false_iff_eq.mpr c35
     clear c35
     obtain rfl:=ysi H
     obtain ⟨hcz36_0,hcz36_1,hcz36_2,hfz36_0,hfz36_1,hfz36_2⟩:=ybc BK108.out
     go_wp2
     repeat (go_quiet (fail);try go_wp2)
     go_ret
     exact ⟨yer,yhb⟩
    have c34b0:(a0_0 == 4)=false:=beq_eq_false_iff_ne.mpr c34
    have c34b1:(a0_0 != 4)=true:=bne_iff_ne.mpr c34
    replace H:=yit H;obtain ⟨c37,H⟩ | ⟨c37,H⟩:=H
    rotate_left
    ·have c37b0:(a0_0 == 5)=false:=beq_eq_false_iff_ne.mpr c37
     have c37b1:(a0_0 != 5)=true:=bne_iff_ne.mpr c37
     obtain rfl:=ysi H
     go_wp2
     repeat (go_quiet (fail);try go_wp2)
     go_ret
     exact ⟨yer,yhb⟩
    have c37b0:(a0_0 == 5)=true:=beq_iff_eq.mpr c37
    have c37b1:(a0_0 != 5)=false:=bne_eq_false_iff_eq.mpr c37
    clear c37
    replace H:=yit H;obtain ⟨c38,H⟩ | ⟨c38,H⟩:=H
    rotate_left
    ·have c38b0:((l0_1.length:Int) == 2)=false:=beq_eq_false_iff_ne.mpr c38
     have c38b1:((l0_1.length:Int) != 2)=true:=bne_iff_ne.mpr c38
     obtain rfl:=ysi H
     go_wp2
     repeat (go_quiet (fail);try go_wp2)
     go_ret
     exact ⟨yer,yhb⟩
    have c38b0:((l0_1.length:Int) == 2)=true:=beq_iff_eq.mpr c38
    have c38b1:((l0_1.length:Int) != 2)=false:=bne_eq_false_iff_eq.mpr c38
    clear c38
    replace H:=ybi H;obtain ⟨t115,A39,H⟩:=H
    try dsimp only at H
    obtain rfl:=ysi H
    obtain ⟨hcz40_0,hcz40_1,hcz40_2,hfz40_0,hfz40_1,hfz40_2⟩:=ybc BK108.out
    have hwq0_:IntKind.i64.wrap (a1 - 1)=wrap64 (a1 - 1):=i64_w _
    go_wp2_with (first|(go_at_call 39;(with_reducible refine (spec_l1In.calls a0_2 0 (wrap64 (a1 - 1)) t115 _ A39.out).mono ?_);rintro e w' ⟨rfl,⟨nd,rfl⟩⟩;(try first|exact ⟨rfl,_,World.drewN_drewN _ _ _⟩|exact ⟨rfl,_,Eq.trans (World.drewN_drewN _ _ _) (congrArg (World.drewN _) (Nat.add_assoc _ _ _))⟩)))
    repeat (go_quiet (first|(go_at_call 39;(with_reducible refine (spec_l1In.calls a0_2 0 (wrap64 (a1 - 1)) t115 _ A39.out).mono ?_);rintro e w' ⟨rfl,⟨nd,rfl⟩⟩;(try first|exact ⟨rfl,_,World.drewN_drewN _ _ _⟩|exact ⟨rfl,_,Eq.trans (World.drewN_drewN _ _ _) (congrArg (World.drewN _) (Nat.add_assoc _ _ _))⟩)));try go_wp2_with (first|(go_at_call 39;(with_reducible refine (spec_l1In.calls a0_2 0 (wrap64 (a1 - 1)) t115 _ A39.out).mono ?_);rintro e w' ⟨rfl,⟨nd,rfl⟩⟩;(try first|exact ⟨rfl,_,World.drewN_drewN _ _ _⟩|exact ⟨rfl,_,Eq.trans (World.drewN_drewN _ _ _) (congrArg (World.drewN _) (Nat.add_assoc _ _ _))⟩))))
    go_ret
    exact ⟨yer,yhb⟩
def spec_GridValid.l0:Nat→List Int→Int→Int→Option (Bool)
 | 0,_,_,_=>none
 | k + 1,x0,x1,x5=>if x5 < (x0.length:Int) then (if 0≤x5 then ((spec_l1In.f (rd x0 x5) 0 x1).bind fun t117=>(if t117=true then (spec_GridValid.l0 k x0 x1 (wrap64 (x5 + 1))) else (some false))) else (none)) else ((spec_l1In.f x1 2 4).bind fun t118=>(if t118=true then (some ((x0.length:Int) == (wrap64 (x1 * x1)))) else (some false)))
def spec_GridValid.f (k:Nat)(l0:List Int)(a1:Int):Option (Bool):=spec_GridValid.l0 k l0 a1 0
theorem spec_GridValid.calls (k:Nat)(A0:Option Addr)(c0:Nat)(l0:List Int)(a1:Int)(r:Bool)(w:World)(hr0:Kd.C (Kd.int .i64) w A0 l0.length l0)(hc0:l0.length≤c0)(h:spec_GridValid.f k l0 a1=some r) :
  Calls Try.prog 67 #[.slice A0 l0.length c0,.int .i64 a1] w fun e w'=>e= .returned (.bool r)∧Drawn0 w w':=by
 have HR0:=yam hr0
 have HC0:=yam hc0
 clear hr0 hc0
 unfold spec_GridValid.f at h
 have H:=h
 clear h
 replace H:=yam H
 go_enter Try.func67,Try.ntmps67
 go_wp2
 go_loopg [5] k (fun kq v5 w'=>∃ (x5_1:Int),v5= .int .i64 x5_1∧Aside0 (spec_GridValid.l0 kq l0 a1 x5_1=some r)∧Aside0 (kq≤k)∧Drawn0 w w')
 case atStart=>exact ⟨(0),yeq,H,⟨Nat.le_refl _⟩,by repeat (first|exact Drawn0.refl _|apply Drawn0.step)⟩
 case round =>
  clear H
  obtain ⟨x5_1,rfl,HA,HK1,⟨m1,rfl⟩⟩:=hrel
  rcases gk with _|k1
  ·exact absurd HA.out (by simp [spec_GridValid.l0])
  obtain ⟨H⟩:=HA
  simp only [spec_GridValid.l0] at H
  replace H:=yis H;obtain ⟨c3b0,H⟩ | ⟨c3b0,H⟩:=H
  rotate_left
  ·replace H:=ybi H;obtain ⟨t118,A7,H⟩:=H
   try dsimp only at H
   cases t118
   rotate_left
   ·replace H:=ytt H
    obtain rfl:=ysi H
    go_wp2_with (first|(refine goesL_ (some 20) rfl rfl Try.func39 (by kernel_rfl) rfl #[.int .i64 a1,.int .i64 2,.int .i64 4] rfl ymd ?_;(with_reducible refine (spec_l1In.calls a1 2 4 true _ A7.out).mono ?_);rintro e w' ⟨rfl,⟨nd,rfl⟩⟩;refine ⟨_,rfl,?_⟩))
    go_ret
    exact ⟨yeq,by repeat (first|exact Drawn0.refl _|apply Drawn0.step)⟩
   replace H:=yff H
   obtain rfl:=ysi H
   go_wp2_with (first|(refine goesL_ (some 20) rfl rfl Try.func39 (by kernel_rfl) rfl #[.int .i64 a1,.int .i64 2,.int .i64 4] rfl ymd ?_;(with_reducible refine (spec_l1In.calls a1 2 4 false _ A7.out).mono ?_);rintro e w' ⟨rfl,⟨nd,rfl⟩⟩;refine ⟨_,rfl,?_⟩))
   go_ret
   exact ⟨yeq,by repeat (first|exact Drawn0.refl _|apply Drawn0.step)⟩
  replace H:=yif H;obtain ⟨c4b0,H⟩:=H
  replace H:=ybi H;obtain ⟨t117,A5,H⟩:=H
  try dsimp only at H
  cases t117
  ·replace H:=yff H
   obtain rfl:=ysi H
   obtain ⟨ad116,e116,hx116_0,p116,q116⟩:=yat HR0.out x5_1
   cases e116
   go_wp2_with (first|(refine goesL_ (some 17) rfl rfl Try.func39 (by kernel_rfl) rfl #[.int .i64 (rd l0 x5_1),.int .i64 0,.int .i64 a1] rfl ymd ?_;(with_reducible refine (spec_l1In.calls (rd l0 x5_1) 0 a1 false _ A5.out).mono ?_);rintro e w' ⟨rfl,⟨nd,rfl⟩⟩;refine ⟨_,rfl,?_⟩))
   go_ret
   exact ⟨yeq,by repeat (first|exact Drawn0.refl _|apply Drawn0.step)⟩
  replace H:=ytt H
  replace H:=yam H
  obtain ⟨ad116,e116,hx116_0,p116,q116⟩:=yat HR0.out x5_1
  cases e116
  go_wp2_with (first|(refine goesL_ (some 17) rfl rfl Try.func39 (by kernel_rfl) rfl #[.int .i64 (rd l0 x5_1),.int .i64 0,.int .i64 a1] rfl ymd ?_;(with_reducible refine (spec_l1In.calls (rd l0 x5_1) 0 a1 true _ A5.out).mono ?_);rintro e w' ⟨rfl,⟨nd,rfl⟩⟩;refine ⟨_,rfl,?_⟩))
  go_roundg k1
  case measure=>have:=HK1.out;omega
  case rel=>exact ⟨(wrap64 (x5_1 + 1)),yeq,H,⟨by have:=HK1.out;omega⟩,by repeat (first|exact Drawn0.refl _|apply Drawn0.step)⟩
def spec_PuzzleValid.l0:Nat→Int→Int→List Int→List (S67)→Option (Bool)
 | 0,_,_,_,_=>none
 | k + 1,x3,x120000,x120001,x120002=>if x3 < (x120002.length:Int) then (if 0≤x3 then ((spec_RuleValid.f k ((rd_T67 x120002 x3).f0) ((rd_T67 x120002 x3).f1) ((rd_T67 x120002 x3).f2) x120000).bind fun t121=>(if t121=true then (spec_PuzzleValid.l0 k (wrap64 (x3 + 1)) x120000 x120001 x120002) else (some false))) else (none)) else ((spec_GridValid.f k x120001 x120000).bind fun t122=>(if t122=true then (some (decide ((x120002.length:Int)≤20))) else (some false)))
def spec_PuzzleValid.f (k:Nat)(a0_0:Int)(l0_1:List Int)(l0_2:List (S67)):Option (Bool):=spec_PuzzleValid.l0 k 0 a0_0 l0_1 l0_2
def spec_PuzzleValid.T4:Bool × List (List Nat × List Nat):=(true,[([],[]),([0],[0]),([],[]),([1,2],[1,2]),([3],[3]),([],[]),([5],[5]),([4,6],[4,6]),([7],[7])])
def spec_PuzzleValid.B4:List Nat:=[0,1,0,7,15,0,32,127,255]
theorem spec_PuzzleValid.tab4:rtab .any (opsOf Try.f34 4)=spec_PuzzleValid.T4:=by kernel_rfl
theorem spec_PuzzleValid.bits4:waitsOk spec_PuzzleValid.T4.2 spec_PuzzleValid.B4=true:=by kernel_rfl
theorem spec_PuzzleValid.calls (k:Nat)(a0_0:Int)(A0_1:Option Addr)(c0_1:Nat)(l0_1:List Int)(A0_2:Option Addr)(c0_2:Nat)(l0_2:List (S67))(r:Bool)(w:World)(hr0_1:Kd.C (Kd.int .i64) w A0_1 l0_1.length l0_1)(hc0_1:l0_1.length≤c0_1)(hr0_2:Kd.C k67 w A0_2 l0_2.length l0_2)(hc0_2:l0_2.length≤c0_2)(h:spec_PuzzleValid.f k a0_0 l0_1 l0_2=some r) :
  Calls Try.prog 34 #[.agg #[.int .i64 a0_0,.slice A0_1 l0_1.length c0_1,.slice A0_2 l0_2.length c0_2]] w fun e w'=>e= .returned (.bool r)∧Below w.heap.size w w':=by
 have hu30:=Try.underlying30
 have hu67:=Try.underlying67
 have HR0_1:=yam hr0_1
 have HC0_1:=yam hc0_1
 clear hr0_1 hc0_1
 have HR0_2:=yam hr0_2
 have HC0_2:=yam hc0_2
 clear hr0_2 hc0_2
 have HB:=yam (Below.refl w.heap.size w)
 unfold spec_PuzzleValid.f at h
 have H:=h
 clear h
 replace H:=yam H
 go_enter Try.func34,Try.ntmps34
 go_wp2_with (first|((with_reducible refine gate_dst (N:=1) rfl ?_);(try (refine gate_guard (by rfl) ?_;dsimp only));refine ybe 1 #[.int .i64 a0_0,.slice A0_1 l0_1.length c0_1,.slice A0_2 l0_2.length c0_2] 30 ?_;intro gb119 hg w2 hbox hb;have BK119:=yam (hbox);have GW119:=yam ((by rw [hg];exact (below_size (yez HB.out)):w.heap.size≤gb119));replace HB:=yam (below_step (yez HB.out) hb);have GE119:=GW119;clear hb hbox hg))
 go_loopg [3] k (fun kq v3 w'=>∃ (x3_1:Int),v3= .int .i64 x3_1∧Aside0 (spec_PuzzleValid.l0 kq x3_1 a0_0 l0_1 l0_2=some r)∧Aside0 (kq≤k)∧Aside0 (w'.heap[gb119]?=some (.cells #[.int .i64 a0_0,(.slice A0_1 l0_1.length c0_1),(.slice A0_2 l0_2.length c0_2)] 30 (0,0)))∧Aside0 (Below w.heap.size w w'))
 case atStart=>exact ⟨(0),yeq,H,⟨Nat.le_refl _⟩,⟨ybk BK119.out⟩,⟨yhb⟩⟩
 case round =>
  clear H
  obtain ⟨x3_1,rfl,HA,HK1,BK119,HB⟩:=hrel
  rcases gk with _|k1
  ·exact absurd HA.out (by simp [spec_PuzzleValid.l0])
  obtain ⟨H⟩:=HA
  simp only [spec_PuzzleValid.l0] at H
  replace H:=yis H;obtain ⟨c3b0,H⟩ | ⟨c3b0,H⟩:=H
  rotate_left
  ·replace H:=ybi H;obtain ⟨t122,A13,H⟩:=H
   try dsimp only at H
   cases t122
   rotate_left
   ·replace H:=ytt H
    obtain rfl:=ysi H
    obtain ⟨hcz15_0,hcz15_1,hcz15_2,hfz15_0,hfz15_1,hfz15_2⟩:=ybc BK119.out
    go_wp2_with (first|(refine goesL_ (some 24) rfl rfl Try.func67 (by kernel_rfl) rfl #[.slice A0_1 l0_1.length c0_1,.int .i64 a0_0] rfl ymd ?_;(with_reducible refine (spec_GridValid.calls k1 _ _ l0_1 a0_0 true _ ?_ ?_ A13.out).mono ?_);exact Kd.Cz ((Kd.C_below HR0_1.out HB.out));exact HC0_1.out;rintro e w' ⟨rfl,⟨nd,rfl⟩⟩;refine ⟨_,rfl,?_⟩))
    go_ret
    exact ⟨yer,yhb⟩
   replace H:=yff H
   obtain rfl:=ysi H
   obtain ⟨hcz16_0,hcz16_1,hcz16_2,hfz16_0,hfz16_1,hfz16_2⟩:=ybc BK119.out
   go_wp2_with (first|(refine goesL_ (some 24) rfl rfl Try.func67 (by kernel_rfl) rfl #[.slice A0_1 l0_1.length c0_1,.int .i64 a0_0] rfl ymd ?_;(with_reducible refine (spec_GridValid.calls k1 _ _ l0_1 a0_0 false _ ?_ ?_ A13.out).mono ?_);exact Kd.Cz ((Kd.C_below HR0_1.out HB.out));exact HC0_1.out;rintro e w' ⟨rfl,⟨nd,rfl⟩⟩;refine ⟨_,rfl,?_⟩))
   go_ret
   exact ⟨yer,yhb⟩
  replace H:=yif H;obtain ⟨c4b0,H⟩:=H
  replace H:=ybi H;obtain ⟨t121,A5,H⟩:=H
  try dsimp only at H
  cases t121
  ·replace H:=yff H
   obtain rfl:=ysi H
   obtain ⟨hcz10_0,hcz10_1,hcz10_2,hfz10_0,hfz10_1,hfz10_2⟩:=ybc BK119.out
   try go_wp2
   replace BK119:=yam (ybd BK119.out)
   replace HB:=yam (yed HB.out)
   have p120:0≤(x3_1:Int):=ydt
   have q120:x3_1 < (l0_2.length:Int):=ydt
   obtain ⟨ad120,A120_1,c120_1,e120,hx120_0,hx120_1,hx120_2,hl120_1,hi120_1⟩:=at_T67 HR0_2.out x3_1 p120 q120
   have hw120_2:=hx120_2
   have hw120_1:=hx120_1
   have hw120_0:=hx120_0
   cases e120
   replace hx120_0:=ybx HB.out hx120_0
   replace hx120_1:=ybx HB.out hx120_1
   replace hx120_2:=ybx HB.out hx120_2
   have HR120_1:=yam hi120_1
   have HC120_1:=yam hl120_1
   clear hi120_1 hl120_1
   replace p120:=eq_true p120
   replace q120:=eq_true q120
   refine start_ (n:=9) (S:=fun w'=>w'.cell? ⟨gb119,0,none⟩=some (.int .i64 a0_0)∧w'.cell? ⟨gb119,1,none⟩=some (.slice A0_1 l0_1.length c0_1)∧w'.cell? ⟨gb119,2,none⟩=some (.slice (some ad120) l0_2.length c0_2)∧w'.cell? (ad120.add ((x3_1).toNat * 3))=some (.int .i64 ((rd_T67 l0_2 x3_1).f0))∧w'.cell? ⟨(ad120.add ((x3_1).toNat * 3)).block,(ad120.add ((x3_1).toNat * 3)).off + 1,none⟩=some (.slice A120_1 ((rd_T67 l0_2 x3_1).f1).length c120_1)∧w'.cell? ⟨(ad120.add ((x3_1).toNat * 3)).block,(ad120.add ((x3_1).toNat * 3)).off + 2,none⟩=some (.int .i64 ((rd_T67 l0_2 x3_1).f2))) (ds:=[]) (yvb 9 0) (by kernel_rfl) rfl rfl ⟨(blk_cell BK119.out 0).trans rfl,(blk_cell BK119.out 1).trans rfl,(blk_cell BK119.out 2).trans rfl,((HB.out.cell (World.block_lt_of_cell? w _ hw120_0)).trans hw120_0),((HB.out.cell (World.block_lt_of_cell? w _ hw120_1)).trans hw120_1),((HB.out.cell (World.block_lt_of_cell? w _ hw120_2)).trans hw120_2)⟩ (fun hHeld=>?_);refine with_tabW spec_PuzzleValid.tab4 spec_PuzzleValid.bits4 (fun HT_ HW_=>?_)
   generalize wr.drew=w11 at BK119 HB HR120_1 hx120_0 hx120_1 hx120_2 hHeld ⊢
   refine yvp 0 11 (yvb 9 1) HT_.out ?_
   refine yvp 2 13 (yvb 9 5) HT_.out ?_
   refine yvp 5 16 (yvb 9 37) HT_.out ?_
   refine yvt 1 12 (yvb 9 39) HT_.out HW_.out hHeld ?_
   refine yvp 3 14 (yvb 9 47) HT_.out ?_
   refine yvt 4 15 (yvb 9 63) HT_.out HW_.out hHeld ?_
   refine yvt 6 17 (yvb 9 127) HT_.out HW_.out hHeld ?_
   refine one_ (i:=7) (N:=some 18) (yvb 9 255) rfl rfl (one_of HT_.out (by kernel_rfl)) (by decide) (fun K hK=>?_)
   refine goes_ Try.func66 (by kernel_rfl) rfl #[.agg #[.int .i64 ((rd_T67 l0_2 x3_1).f0),.slice A120_1 ((rd_T67 l0_2 x3_1).f1).length c120_1,.int .i64 ((rd_T67 l0_2 x3_1).f2)],.int .i64 a0_0] (by rfl) rfl rfl ymd ?_
   with_reducible refine (spec_RuleValid.calls k1 ((rd_T67 l0_2 x3_1).f0) _ _ ((rd_T67 l0_2 x3_1).f1) ((rd_T67 l0_2 x3_1).f2) a0_0 false _ ?_ ?_ A5.out).mono ?_
   exact Kd.Cz ((Kd.C_below HR120_1.out HB.out))
   exact HC120_1.out
   rintro e w12 ⟨rfl,hb⟩
   refine ⟨_,rfl,?_⟩
   replace BK119:=yam (ybb BK119.out hb)
   replace HB:=yam (below_step yhb hb)
   (try clear hb)
   (try clear hb2)
   (try clear hk)
   (try clear hi)
   refine hK.out _ _ ⟨(blk_cell BK119.out 0).trans rfl,(blk_cell BK119.out 1).trans rfl,(blk_cell BK119.out 2).trans rfl,((HB.out.cell (World.block_lt_of_cell? w _ hw120_0)).trans hw120_0),((HB.out.cell (World.block_lt_of_cell? w _ hw120_1)).trans hw120_1),((HB.out.cell (World.block_lt_of_cell? w _ hw120_2)).trans hw120_2)⟩ (fun hHeld=>?_)
   clear hK K
   refine norm_ (a':=?_) ?_ ?_
   rotate_left
   ·show Act.put _ (some 18) _=_
    simp only [Act.put,yps,i64_w,i32_w]
    rfl
   refine yvp 8 19 (yvb 9 511) HT_.out ?_
   refine done_ (done_of HT_.out (by kernel_rfl)) ?_
   try go_wp2
   go_ret
   exact ⟨yer,yhb⟩
  replace H:=ytt H
  replace H:=yam H
  obtain ⟨hcz7_0,hcz7_1,hcz7_2,hfz7_0,hfz7_1,hfz7_2⟩:=ybc BK119.out
  try go_wp2
  replace BK119:=yam (ybd BK119.out)
  replace HB:=yam (yed HB.out)
  have p120:0≤(x3_1:Int):=ydt
  have q120:x3_1 < (l0_2.length:Int):=ydt
  obtain ⟨ad120,A120_1,c120_1,e120,hx120_0,hx120_1,hx120_2,hl120_1,hi120_1⟩:=at_T67 HR0_2.out x3_1 p120 q120
  have hw120_2:=hx120_2
  have hw120_1:=hx120_1
  have hw120_0:=hx120_0
  cases e120
  replace hx120_0:=ybx HB.out hx120_0
  replace hx120_1:=ybx HB.out hx120_1
  replace hx120_2:=ybx HB.out hx120_2
  have HR120_1:=yam hi120_1
  have HC120_1:=yam hl120_1
  clear hi120_1 hl120_1
  replace p120:=eq_true p120
  replace q120:=eq_true q120
  refine start_ (n:=9) (S:=fun w'=>w'.cell? ⟨gb119,0,none⟩=some (.int .i64 a0_0)∧w'.cell? ⟨gb119,1,none⟩=some (.slice A0_1 l0_1.length c0_1)∧w'.cell? ⟨gb119,2,none⟩=some (.slice (some ad120) l0_2.length c0_2)∧w'.cell? (ad120.add ((x3_1).toNat * 3))=some (.int .i64 ((rd_T67 l0_2 x3_1).f0))∧w'.cell? ⟨(ad120.add ((x3_1).toNat * 3)).block,(ad120.add ((x3_1).toNat * 3)).off + 1,none⟩=some (.slice A120_1 ((rd_T67 l0_2 x3_1).f1).length c120_1)∧w'.cell? ⟨(ad120.add ((x3_1).toNat * 3)).block,(ad120.add ((x3_1).toNat * 3)).off + 2,none⟩=some (.int .i64 ((rd_T67 l0_2 x3_1).f2))) (ds:=[]) (yvb 9 0) (by kernel_rfl) rfl rfl ⟨(blk_cell BK119.out 0).trans rfl,(blk_cell BK119.out 1).trans rfl,(blk_cell BK119.out 2).trans rfl,((HB.out.cell (World.block_lt_of_cell? w _ hw120_0)).trans hw120_0),((HB.out.cell (World.block_lt_of_cell? w _ hw120_1)).trans hw120_1),((HB.out.cell (World.block_lt_of_cell? w _ hw120_2)).trans hw120_2)⟩ (fun hHeld=>?_);refine with_tabW spec_PuzzleValid.tab4 spec_PuzzleValid.bits4 (fun HT_ HW_=>?_)
  generalize wr.drew=w8 at BK119 HB HR120_1 hx120_0 hx120_1 hx120_2 hHeld ⊢
  refine yvp 0 11 (yvb 9 1) HT_.out ?_
  refine yvp 2 13 (yvb 9 5) HT_.out ?_
  refine yvp 5 16 (yvb 9 37) HT_.out ?_
  refine yvt 1 12 (yvb 9 39) HT_.out HW_.out hHeld ?_
  refine yvp 3 14 (yvb 9 47) HT_.out ?_
  refine yvt 4 15 (yvb 9 63) HT_.out HW_.out hHeld ?_
  refine yvt 6 17 (yvb 9 127) HT_.out HW_.out hHeld ?_
  refine one_ (i:=7) (N:=some 18) (yvb 9 255) rfl rfl (one_of HT_.out (by kernel_rfl)) (by decide) (fun K hK=>?_)
  refine goes_ Try.func66 (by kernel_rfl) rfl #[.agg #[.int .i64 ((rd_T67 l0_2 x3_1).f0),.slice A120_1 ((rd_T67 l0_2 x3_1).f1).length c120_1,.int .i64 ((rd_T67 l0_2 x3_1).f2)],.int .i64 a0_0] (by rfl) rfl rfl ymd ?_
  with_reducible refine (spec_RuleValid.calls k1 ((rd_T67 l0_2 x3_1).f0) _ _ ((rd_T67 l0_2 x3_1).f1) ((rd_T67 l0_2 x3_1).f2) a0_0 true _ ?_ ?_ A5.out).mono ?_
  exact Kd.Cz ((Kd.C_below HR120_1.out HB.out))
  exact HC120_1.out
  rintro e w9 ⟨rfl,hb⟩
  refine ⟨_,rfl,?_⟩
  replace BK119:=yam (ybb BK119.out hb)
  replace HB:=yam (below_step yhb hb)
  (try clear hb)
  (try clear hb2)
  (try clear hk)
  (try clear hi)
  refine hK.out _ _ ⟨(blk_cell BK119.out 0).trans rfl,(blk_cell BK119.out 1).trans rfl,(blk_cell BK119.out 2).trans rfl,((HB.out.cell (World.block_lt_of_cell? w _ hw120_0)).trans hw120_0),((HB.out.cell (World.block_lt_of_cell? w _ hw120_1)).trans hw120_1),((HB.out.cell (World.block_lt_of_cell? w _ hw120_2)).trans hw120_2)⟩ (fun hHeld=>?_)
  clear hK K
  refine norm_ (a':=?_) ?_ ?_
  rotate_left
  ·show Act.put _ (some 18) _=_
   simp only [Act.put,yps,i64_w,i32_w]
   rfl
  refine yvp 8 19 (yvb 9 511) HT_.out ?_
  refine done_ (done_of HT_.out (by kernel_rfl)) ?_
  try go_wp2
  go_roundg k1
  case measure=>have:=HK1.out;omega
  case rel=>exact ⟨(wrap64 (x3_1 + 1)),yeq,H,⟨by have:=HK1.out;omega⟩,⟨ybk BK119.out⟩,⟨yhb⟩⟩
mutual
def spec_StartMasks.l0:Nat→List Int→Int→Int→List Int→List (S67)→Option (List Int)
 | 0,_,_,_,_,_=>none
 | k + 1,x3,x4,x292000,x292001,x292002=>if x4 < (x292001.length:Int) then ((spec_PuzzleValid.f k x292000 x292001 x292002).bind fun t295=>(spec_StartMasks.j1 k x3 x4 t295 x292000 x292001 x292002)) else (spec_StartMasks.j1 k x3 x4 false x292000 x292001 x292002)
def spec_StartMasks.j1:Nat→List Int→Int→Bool→Int→List Int→List (S67)→Option (List Int)
 | 0,_,_,_,_,_,_=>none
 | k + 1,x3,x4,x14,x292000,x292001,x292002=>if x14=true then (if 0≤x4 then (if x4 < (x292001.length:Int) then (if (rd x292001 x4) > 0 then (if 0≤(rd x292001 x4) then (if x3.length < 17592186044416 then (spec_StartMasks.l0 k (x3 ++ [shl .i64 1 (rd x292001 x4)]) (wrap64 (x4 + 1)) x292000 x292001 x292002) else (none)) else (none)) else (if 0≤(wrap64 (x292000 + 1)) then (if x3.length < 17592186044416 then (spec_StartMasks.l0 k (x3 ++ [wrap64 ((shl .i64 1 (wrap64 (x292000 + 1))) - 2)]) (wrap64 (x4 + 1)) x292000 x292001 x292002) else (none)) else (none))) else (none)) else (none)) else (some x3)
end
def spec_StartMasks.f (k:Nat)(a0_0:Int)(l0_1:List Int)(l0_2:List (S67)):Option (List Int):=spec_StartMasks.l0 k (([]:List Int)) 0 a0_0 l0_1 l0_2
theorem spec_StartMasks.calls (k:Nat)(a0_0:Int)(A0_1:Option Addr)(c0_1:Nat)(l0_1:List Int)(A0_2:Option Addr)(c0_2:Nat)(l0_2:List (S67))(r:List Int)(w:World)(hr0_1:Kd.C (Kd.int .i64) w A0_1 l0_1.length l0_1)(hc0_1:l0_1.length≤c0_1)(hr0_2:Kd.C k67 w A0_2 l0_2.length l0_2)(hc0_2:l0_2.length≤c0_2)(h:spec_StartMasks.f k a0_0 l0_1 l0_2=some r) :
  Calls Try.prog 40 #[.agg #[.int .i64 a0_0,.slice A0_1 l0_1.length c0_1,.slice A0_2 l0_2.length c0_2]] w fun e w'=>∃ v0_:Value,e= .returned (v0_)∧Kd.R (Kd.int .i64) 3 w' w.heap.size (fun _=>True) v0_ r∧Below w.heap.size w w':=by
 have hu30:=Try.underlying30
 have HR0_1:=yam hr0_1
 have HC0_1:=yam hc0_1
 clear hr0_1 hc0_1
 have HR0_2:=yam hr0_2
 have HC0_2:=yam hc0_2
 clear hr0_2 hc0_2
 have HB:=yam (Below.refl w.heap.size w)
 unfold spec_StartMasks.f at h
 have H:=h
 clear h
 obtain ⟨y292,Ny292⟩:∃ y_:List Int,Aside0 (y_=(([]:List Int))):=⟨_,⟨rfl⟩⟩
 replace H:(spec_StartMasks.l0 k y292 0 a0_0 l0_1 l0_2)=some r:=yhn Ny292.out H
 replace H:=yam H
 go_enter Try.func40,Try.ntmps40
 go_wp2_with (first|(refine ybe 1 #[.int .i64 a0_0,.slice A0_1 l0_1.length c0_1,.slice A0_2 l0_2.length c0_2] 30 ?_;intro gb291 hg w2 hbox hb;have BK291:=yam (hbox);have GW291:=yam ((by rw [hg];exact (below_size (yez HB.out)):w.heap.size≤gb291));replace HB:=yam (below_step (yez HB.out) hb);have GE291:=GW291;clear hb hbox hg)|((with_reducible refine gate_dst (N:=5) rfl ?_);refine Kd.R_lit (Kd.int .i64) _ 3 ?hg (N:=5) ?hd (xs:=([]:List Int)) (inner:=[]) (ok:=fun _=>True) (okp:=fun _=>True) ?hr ?hp (fun _ hk=>hk) trivial (Below.refl _ _) (Nat.le_refl _) (by simp) ?_;(case hd=>rfl);(case hg=>rfl);(case hr=>first|(go_simp;done)|(go_simp;rfl));(case hp=>exact (Reps.none _ _));intro v293 w3 ho4 hb hg_ hnew_;clear hg_ hnew_;(first|rw [← Ny292.out] at ho4|(simp only [Int.reduceToNat] at ho4;rw [← Ny292.out] at ho4));have HO294:=yam (Kd.R_lower ho4 (below_size yhb));replace BK291:=yam (ybb BK291.out hb);replace HB:=yam (below_step yhb hb);clear hb ho4))
 go_loopg [3,4] k (fun kq v3 v4 w'=>∃ (x3_1:List Int) (x4_1:Int),v4= .int .i64 x4_1∧Aside0 (spec_StartMasks.l0 kq x3_1 x4_1 a0_0 l0_1 l0_2=some r)∧Aside0 (kq≤k)∧Aside0 (Kd.R (Kd.int .i64) 3 w' w.heap.size (fun _=>True) v3 x3_1)∧Aside0 (w'.heap[gb291]?=some (.cells #[.int .i64 a0_0,(.slice A0_1 l0_1.length c0_1),(.slice A0_2 l0_2.length c0_2)] 30 (0,0)))∧Aside0 (Below w.heap.size w w'))
 case atStart=>exact ⟨(y292),(0),yeq,H,⟨Nat.le_refl _⟩,⟨yka HO294.out⟩,⟨ybk BK291.out⟩,⟨yhb⟩⟩
 case round =>
  clear H
  obtain ⟨x3_1,x4_1,rfl,HA,HK1,HO_3,BK291,HB⟩:=hrel
  rcases gk with _|k1
  ·exact absurd HA.out (by simp [spec_StartMasks.l0])
  obtain ⟨H⟩:=HA
  simp only [spec_StartMasks.l0] at H
  have HC5:=yam H
  clear H
  go_upto_region 3 with (fail)
  go_cut [14] (fun v14 wc=>∃ (kq:Nat) (x14_4:Bool),v14= .bool x14_4∧Aside0 (spec_StartMasks.j1 kq x3_1 x4_1 x14_4 a0_0 l0_1 l0_2=some r)∧Aside0 (kq≤k1)∧Aside0 (Kd.R (Kd.int .i64) 3 wc w.heap.size (fun _=>True) u3 x3_1)∧Aside0 (wc.heap[gb291]?=some (.cells #[.int .i64 a0_0,(.slice A0_1 l0_1.length c0_1),(.slice A0_2 l0_2.length c0_2)] 30 (0,0)))∧Aside0 (Below w.heap.size w wc))
  case first =>
   have H:=HC5.out
   clear HC5
   replace H:=yis H;obtain ⟨c6b0,H⟩ | ⟨c6b0,H⟩:=H
   rotate_left
   ·(first|rw [c6b0]|(simp only [i64_w,i32_w];rw [c6b0])|skip)
    replace H:=yam H
    obtain ⟨hcz10_0,hcz10_1,hcz10_2,hfz10_0,hfz10_1,hfz10_2⟩:=ybc BK291.out
    go_wp2
    go_meet
    case rel=>exact ⟨_,(false),yeq,H,⟨by have:=HK1.out;first|omega|exact Nat.le_refl _⟩,⟨yka HO_3.out⟩,⟨ybk BK291.out⟩,⟨yhb⟩⟩
   (first|rw [c6b0]|(simp only [i64_w,i32_w];rw [c6b0])|skip)
   replace H:=ybi H;obtain ⟨t295,A7,H⟩:=H
   try dsimp only at H
   replace H:=yam H
   obtain ⟨hcz8_0,hcz8_1,hcz8_2,hfz8_0,hfz8_1,hfz8_2⟩:=ybc BK291.out
   go_wp2_with (first|(go_at_call 34;(with_reducible refine (spec_PuzzleValid.calls k1 a0_0 _ _ l0_1 _ _ l0_2 t295 _ ?_ ?_ ?_ ?_ A7.out).mono ?_);exact Kd.Cz ((Kd.C_below HR0_1.out HB.out));exact HC0_1.out;exact Kd.Cz ((Kd.C_below HR0_2.out HB.out));exact HC0_2.out;rintro e w9 ⟨rfl,hb⟩;replace HO_3:=yam (Kd.R_below (Kd.Yz HO_3.out) hb);replace BK291:=yam (ybb BK291.out hb);replace HB:=yam (below_step yhb hb);(try clear hb)))
   go_meet
   case rel=>exact ⟨_,(t295),yeq,H,⟨by have:=HK1.out;first|omega|exact Nat.le_refl _⟩,⟨yka HO_3.out⟩,⟨ybk BK291.out⟩,⟨yhb⟩⟩
  case rest =>
   clear HC5
   obtain ⟨kq,x14_4,rfl,HA,HJ4,HO_3,BK291,HB⟩:=hcut
   rcases kq with _|kj4
   ·exact absurd HA.out (by simp [spec_StartMasks.j1])
   obtain ⟨H⟩:=HA
   simp only [spec_StartMasks.j1] at H
   cases x14_4
   ·replace H:=yff H
    obtain rfl:=ysi H
    go_wp2
    go_ret
    exact ⟨_,yer,yka HO_3.out,yhb⟩
   replace H:=ytt H
   replace H:=yif H;obtain ⟨c12b0,H⟩:=H
   replace H:=yif H;obtain ⟨c13b0,H⟩:=H
   replace H:=yis H;obtain ⟨c14b0,H⟩ | ⟨c14b0,H⟩:=H
   rotate_left
   ·obtain ⟨ji20,hji20⟩:∃ j_:Int,(wrap64 (a0_0 + 1))=j_:=⟨_,rfl⟩
    replace H:(if 0≤(ji20) then (if x3_1.length < 17592186044416 then (spec_StartMasks.l0 kj4 (x3_1 ++ [wrap64 ((shl .i64 1 (ji20)) - 2)]) (wrap64 (x4_1 + 1)) a0_0 l0_1 l0_2) else (none)) else (none))=some r:=by first|(rw [hji20] at H;exact H)|(simp only [hji20] at H ⊢;exact H)
    have hji20w:(IntKind.i64.wrap (a0_0 + 1))=ji20:=(i64_w _).trans hji20
    replace H:=yig H;obtain ⟨c21,H⟩:=H
    have c21b0:=eq_true c21
    have c21b1:decide (0≤(ji20))=true:=decide_eq_true c21
    clear c21
    obtain ⟨ji22,hji22⟩:∃ j_:Int,(shl .i64 1 (ji20))=j_:=⟨_,rfl⟩
    replace H:(if x3_1.length < 17592186044416 then (spec_StartMasks.l0 kj4 (x3_1 ++ [wrap64 ((ji22) - 2)]) (wrap64 (x4_1 + 1)) a0_0 l0_1 l0_2) else (none))=some r:=by first|(rw [hji22] at H;exact H)|(simp only [hji22] at H ⊢;exact H)
    have hji22_:(IntKind.i64.wrap (1 * 2 ^ min (ji20).toNat 64))=ji22:=hji22
    have hji22z:(ji20)≤64→(IntKind.i64.wrap (1 * 2 ^ (ji20).toNat))=ji22:=shl_small hji22
    have hji22u:(IntKind.i64.wrap (2 ^ min (ji20).toNat 64))=ji22:=by have h_:=hji22_;rw [Int.one_mul] at h_;exact h_
    have hji22v:(ji20)≤64→(IntKind.i64.wrap (2 ^ (ji20).toNat))=ji22:=fun hle_=>by have h_:=hji22z hle_;rw [Int.one_mul] at h_;exact h_
    have hji22y:(wrap64 (1 * 2 ^ min (ji20).toNat 64))=ji22:=(i64_w _).symm.trans hji22_
    have hji22x:(ji20)≤64→(wrap64 (1 * 2 ^ (ji20).toNat))=ji22:=fun h_=>(i64_w _).symm.trans (hji22z h_)
    replace H:=yig H;obtain ⟨c23,H⟩:=H
    have LMc23:=yam c23
    clear c23
    obtain ⟨y301,Ny301⟩:∃ y_:List Int,Aside0 (y_=(x3_1 ++ [wrap64 ((ji22) - 2)])):=⟨_,⟨rfl⟩⟩
    replace H:(spec_StartMasks.l0 kj4 y301 (wrap64 (x4_1 + 1)) a0_0 l0_1 l0_2)=some r:=yhn Ny301.out H
    replace H:=yam H
    obtain ⟨hcz24_0,hcz24_1,hcz24_2,hfz24_0,hfz24_1,hfz24_2⟩:=ybc BK291.out
    obtain ⟨ad296,e296,hx296_0,p296,q296⟩:=yat HR0_1.out x4_1
    cases e296
    replace hx296_0:=ybx HB.out hx296_0
    go_wp2_with (first|((with_reducible refine gate_builtin (b:= .append) (xs:= #[.tmp 32,.tmp 38]) rfl ?_);at_builtin;refine Kd.R_append (Kd.int .i64) (w0:=w) w.heap.size rfl (.tmp 32) (.tmp 38) 22 3 (.int .i64 0) 8 rfl Try.underlying22 info3 rfl (by decide) (by omega) u3 x3_1 (wrap64 ((ji22) - 2)) [.int .i64 (wrap64 ((ji22) - 2))] (fun _=>True) (fun _=>False) rfl rfl ?aP (fun _ hk=>hk.elim) ?aF ?aO ?aB ?aS ?aL ?_;(case aP=>exact rfl);(case aB=>exact yhb);(case aF=>exact (fun _ _=>trivial));(case aO=>exact (Kd.Yz HO_3.out));(case aS=>exact (below_size yhb));(case aL=>have:=LMc23.out;omega);intro v302 w25 ho hb hg hat;rw [← Ny301.out] at ho;replace BK291:=yam (blk_grown (g:=gb291) (o:= .cells #[.int .i64 a0_0,.slice (some ad296) l0_1.length c0_1,.slice A0_2 l0_2.length c0_2] 30 (0,0)) (ybz BK291.out) hg (Kd.R_ne HO_3.out BK291.out (by decide)));replace HB:=yam (hb);have HO303:=yam (ho);clear HO_3;clear ho hb hg hat))
    go_roundg kj4
    case measure=>have:=HK1.out;have:=HJ4.out;omega
    case rel=>exact ⟨(y301),(wrap64 (x4_1 + 1)),yeq,H,⟨by have:=HK1.out;have:=HJ4.out;omega⟩,⟨yka HO303.out⟩,⟨ybk BK291.out⟩,⟨yhb⟩⟩
   replace H:=yig H;obtain ⟨c15,H⟩:=H
   have c15b0:=eq_true c15
   have c15b1:decide (0≤(rd l0_1 x4_1))=true:=decide_eq_true c15
   clear c15
   obtain ⟨ji16,hji16⟩:∃ j_:Int,(shl .i64 1 (rd l0_1 x4_1))=j_:=⟨_,rfl⟩
   replace H:(if x3_1.length < 17592186044416 then (spec_StartMasks.l0 kj4 (x3_1 ++ [ji16]) (wrap64 (x4_1 + 1)) a0_0 l0_1 l0_2) else (none))=some r:=by first|(rw [hji16] at H;exact H)|(simp only [hji16] at H ⊢;exact H)
   have hji16_:(IntKind.i64.wrap (1 * 2 ^ min (rd l0_1 x4_1).toNat 64))=ji16:=hji16
   have hji16z:(rd l0_1 x4_1)≤64→(IntKind.i64.wrap (1 * 2 ^ (rd l0_1 x4_1).toNat))=ji16:=shl_small hji16
   have hji16u:(IntKind.i64.wrap (2 ^ min (rd l0_1 x4_1).toNat 64))=ji16:=by have h_:=hji16_;rw [Int.one_mul] at h_;exact h_
   have hji16v:(rd l0_1 x4_1)≤64→(IntKind.i64.wrap (2 ^ (rd l0_1 x4_1).toNat))=ji16:=fun hle_=>by have h_:=hji16z hle_;rw [Int.one_mul] at h_;exact h_
   have hji16y:(wrap64 (1 * 2 ^ min (rd l0_1 x4_1).toNat 64))=ji16:=(i64_w _).symm.trans hji16_
   have hji16x:(rd l0_1 x4_1)≤64→(wrap64 (1 * 2 ^ (rd l0_1 x4_1).toNat))=ji16:=fun h_=>(i64_w _).symm.trans (hji16z h_)
   replace H:=yig H;obtain ⟨c17,H⟩:=H
   have LMc17:=yam c17
   clear c17
   obtain ⟨y298,Ny298⟩:∃ y_:List Int,Aside0 (y_=(x3_1 ++ [ji16])):=⟨_,⟨rfl⟩⟩
   replace H:(spec_StartMasks.l0 kj4 y298 (wrap64 (x4_1 + 1)) a0_0 l0_1 l0_2)=some r:=yhn Ny298.out H
   replace H:=yam H
   obtain ⟨hcz18_0,hcz18_1,hcz18_2,hfz18_0,hfz18_1,hfz18_2⟩:=ybc BK291.out
   obtain ⟨ad296,e296,hx296_0,p296,q296⟩:=yat HR0_1.out x4_1
   cases e296
   replace hx296_0:=ybx HB.out hx296_0
   obtain ⟨ad297,e297,hx297_0,p297,q297⟩:=yat HR0_1.out x4_1
   obtain rfl:ad296=ad297:=(by injection e297)
   replace hx297_0:=ybx HB.out hx297_0
   go_wp2_with (first|((with_reducible refine gate_builtin (b:= .append) (xs:= #[.tmp 23,.tmp 30]) rfl ?_);at_builtin;refine Kd.R_append (Kd.int .i64) (w0:=w) w.heap.size rfl (.tmp 23) (.tmp 30) 22 3 (.int .i64 0) 8 rfl Try.underlying22 info3 rfl (by decide) (by omega) u3 x3_1 ji16 [.int .i64 ji16] (fun _=>True) (fun _=>False) rfl rfl ?aP (fun _ hk=>hk.elim) ?aF ?aO ?aB ?aS ?aL ?_;(case aP=>exact rfl);(case aB=>exact yhb);(case aF=>exact (fun _ _=>trivial));(case aO=>exact (Kd.Yz HO_3.out));(case aS=>exact (below_size yhb));(case aL=>have:=LMc17.out;omega);intro v299 w19 ho hb hg hat;rw [← Ny298.out] at ho;replace BK291:=yam (blk_grown (g:=gb291) (o:= .cells #[.int .i64 a0_0,.slice (some ad296) l0_1.length c0_1,.slice A0_2 l0_2.length c0_2] 30 (0,0)) (ybz BK291.out) hg (Kd.R_ne HO_3.out BK291.out (by decide)));replace HB:=yam (hb);have HO300:=yam (ho);clear HO_3;clear ho hb hg hat))
   go_roundg kj4
   case measure=>have:=HK1.out;have:=HJ4.out;omega
   case rel=>exact ⟨(y298),(wrap64 (x4_1 + 1)),yeq,H,⟨by have:=HK1.out;have:=HJ4.out;omega⟩,⟨yka HO300.out⟩,⟨ybk BK291.out⟩,⟨yhb⟩⟩
end Go.Proofs.Ytdemlminhkhonaa.P
