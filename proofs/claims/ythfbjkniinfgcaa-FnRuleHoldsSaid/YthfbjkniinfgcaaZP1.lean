/- The machine's side: each Go function as a plain Lean function and the proof that the machine's call does what that function says; written by this session's own program over the kit's print. -/
import Derived.ArgAppend
import Derived.Below
import Derived.BigQuiet
import Derived.Deep.AppendLies
import Derived.Deep.CutBlock
import Derived.Deep.DeepCutAuto
import Derived.Deep.Draws
import Derived.Deep.LoopGhost
import Derived.Deep.OwnRows
import Derived.Deep.QuietTactic
import Derived.Deep.RegionHeld3
import Derived.KernelRfl
import Derived.Laws.BitsLemmas
import Derived.Laws.BytesArg
import Derived.Laws.IdiomCopy
import Derived.Laws.MakeOwn
import Derived.Laws.OwnMore
import Derived.Laws.Rows
import Derived.Laws.Slices
import Derived.Lib.AppendStr
import Derived.Lib.ConvBytes
import Derived.Maps.AppendAt
import Derived.OrdersHeld
import Derived.OwnWalk
import Derived.RowKit
import Derived.RowKit3
import Derived.Tactics
import Derived.Test.YthfbjkniinfgcaaProg
import Derived.Test.YthfbjkniinfgcaaZW
import Derived.WalkKit
import Derived.WideLaws
namespace Go.Proofs.Ythfbjkniinfgcaa.P
set_option maxHeartbeats 8000000
set_option maxRecDepth 100000
open Go.RowKit Go.Proofs.YthfbjkniinfgcaaW.PrintWords Go.Proofs.YthfbjkniinfgcaaW.PrintLast Go.Proofs.YthfbjkniinfgcaaW.PrintMore
attribute [local go_sem] max2_int min2_int max_two min_two max_three min_three max_four min_four   -- for this text's walks alone
set_option linter.unusedVariables false
set_option linter.unusedSimpArgs false
def errW:Option Int→Value
 | none=> .nilIface
 | some c=> .iface 0 (.int .i64 c)
theorem errW_none:errW none= .nilIface:=rfl
theorem errW_some (c:Int):errW (some c)= .iface 0 (.int .i64 c):=rfl

theorem info3:(Try.prog.info? 3).map (fun i=>(i.zero,i.size,i.bytes))=some (some (.int .i64 0),1,8):=by kernel_rfl
theorem info5:(Try.prog.info? 5).map (fun i=>(i.zero,i.size,i.bytes))=some (some (.int .u8 0),1,1):=by kernel_rfl
theorem info32:(Try.prog.info? 32).map (fun i=>(i.zero,i.size,i.bytes))=some (some (.agg #[(.int .i64 0),(.slice none 0 0),(.int .i64 0)]),3,40):=by kernel_rfl
theorem info47:(Try.prog.info? 47).map (fun i=>(i.zero,i.size,i.bytes))=some (some (.agg #[(.int .i64 0),(.slice none 0 0),(.int .i64 0)]),3,40):=by kernel_rfl
-- the values' own types
def rd_L2 (xs:List (List Int))(i:Int):(List Int):=xs.getD i.toNat ([]:List Int)
theorem at_L2 {w:World}{A:Option Addr}{n:Nat}{xs:List (List Int)}(h:Kd.C (Kd.slice 3 (Kd.int .i64)) w A n xs)(i:Int)(h0:0≤i)(h1:i < n):∃ ad A0 c0,A=some ad∧w.cell? (ad.add i.toNat)=some (.slice A0 (rd_L2 xs i).length c0)∧(rd_L2 xs i).length≤c0∧(Kd.int .i64).C w A0 (rd_L2 xs i).length (rd_L2 xs i):=by
 obtain ⟨ad,c,e,_,hK,hc0⟩:=Kd.C_get h ([]:List Int) i h0 h1
 have hc:∀ j u,c[j]?=some u→w.cell? (ad.add (i.toNat * 1 + j))=some u:=hc0
 obtain ⟨A0,c0,rfl,l0,g0⟩:=hK
 exact ⟨ad,A0,c0,e,by have hq:=hc 0 _ rfl;rwa [Nat.mul_one,Nat.add_zero] at hq,l0,g0⟩

structure S47 where
 f0:Int
 f1:(List Int)
 f2:Int
def z47:S47:=⟨(0:Int),([]:List Int),(0:Int)⟩
def k47:Kd S47:=Kd.iso (Kd.pair (Kd.int .i64) (Kd.pair (Kd.slice 3 (Kd.int .i64)) (Kd.int .i64))) (fun x:S47=>(x.f0,x.f1,x.f2))
theorem k47_heap:Kd.Heap k47:=Kd.heap_iso _ (Kd.heap_pair (Kd.heap_int .i64) (Kd.heap_pair (Kd.heap_slice 3 (Kd.heap_int .i64)) (Kd.heap_int .i64)))
theorem k47_open {w:World}{x:S47}{cs:List Value}(h:k47.K w x cs):∃ A1 c1,cs=[.int .i64 x.f0,.slice A1 x.f1.length c1,.int .i64 x.f2]∧x.f1.length≤c1∧(Kd.int .i64).C w A1 x.f1.length x.f1:=by
 obtain ⟨_,_,rfl,rfl,⟨_,_,rfl,⟨A1,c1,rfl,l1,g1⟩,rfl⟩⟩:=h
 exact ⟨A1,c1,rfl,l1,g1⟩
theorem k47_openM {w:World}{base:Nat}{ok:Nat→Prop}{x:S47}{cs:List Value}(h:k47.M w base ok x cs):∃ v1,cs=[.int .i64 x.f0,v1,.int .i64 x.f2]∧(Kd.int .i64).R 3 w base ok v1 x.f1:=by
 obtain ⟨_,_,rfl,rfl,⟨_,_,rfl,⟨v1,rfl,g1⟩,rfl⟩⟩:=h
 exact ⟨v1,rfl,g1⟩
theorem k47_mk (w:World)(x:S47){A1:Option Addr}{c1:Nat}(l1:x.f1.length≤c1)(g1:(Kd.int .i64).C w A1 x.f1.length x.f1):k47.K w x [.int .i64 x.f0,.slice A1 x.f1.length c1,.int .i64 x.f2]:=⟨[.int .i64 x.f0],[.slice A1 x.f1.length c1,.int .i64 x.f2],rfl,rfl,⟨[.slice A1 x.f1.length c1],[.int .i64 x.f2],rfl,⟨A1,c1,rfl,l1,g1⟩,rfl⟩⟩
theorem k47_mkM (w:World)(base:Nat)(ok:Nat→Prop)(x:S47){v1:Value}(g1:(Kd.int .i64).R 3 w base ok v1 x.f1):k47.M w base ok x [.int .i64 x.f0,v1,.int .i64 x.f2]:=⟨[.int .i64 x.f0],[v1,.int .i64 x.f2],rfl,rfl,⟨[v1],[.int .i64 x.f2],rfl,⟨v1,rfl,g1⟩,rfl⟩⟩
def rd_T47 (xs:List S47)(i:Int):S47:=xs.getD i.toNat z47
theorem at_T47 {w:World}{A:Option Addr}{n:Nat}{xs:List S47}(h:Kd.C k47 w A n xs)(i:Int)(h0:0≤i)(h1:i < n):∃ ad A1 c1,A=some ad∧w.cell? (ad.add (i.toNat * 3))=some (.int .i64 (rd_T47 xs i).f0)∧w.cell? ⟨(ad.add (i.toNat * 3)).block,(ad.add (i.toNat * 3)).off + 1,none⟩=some (.slice A1 (rd_T47 xs i).f1.length c1)∧w.cell? ⟨(ad.add (i.toNat * 3)).block,(ad.add (i.toNat * 3)).off + 2,none⟩=some (.int .i64 (rd_T47 xs i).f2)∧(rd_T47 xs i).f1.length≤c1∧(Kd.int .i64).C w A1 (rd_T47 xs i).f1.length (rd_T47 xs i).f1:=by
 obtain ⟨ad,c,e,_,hK,hc0⟩:=Kd.C_get h z47 i h0 h1
 have hc:∀ j u,c[j]?=some u→w.cell? (ad.add (i.toNat * 3 + j))=some u:=hc0
 obtain ⟨A1,c1,rfl,l1,g1⟩:=k47_open hK
 exact ⟨ad,A1,c1,e,hc 0 _ rfl,by rw [← add_field _ _ 1 (by omega)];exact hc 1 _ rfl,by rw [← add_field _ _ 2 (by omega)];exact hc 2 _ rfl,l1,g1⟩

structure S32 where
 f0:Int
 f1:(List Int)
 f2:Int
def z32:S32:=⟨(0:Int),([]:List Int),(0:Int)⟩
def k32:Kd S32:=Kd.iso (Kd.pair (Kd.int .i64) (Kd.pair (Kd.slice 3 (Kd.int .i64)) (Kd.int .i64))) (fun x:S32=>(x.f0,x.f1,x.f2))
theorem k32_heap:Kd.Heap k32:=Kd.heap_iso _ (Kd.heap_pair (Kd.heap_int .i64) (Kd.heap_pair (Kd.heap_slice 3 (Kd.heap_int .i64)) (Kd.heap_int .i64)))
theorem k32_open {w:World}{x:S32}{cs:List Value}(h:k32.K w x cs):∃ A1 c1,cs=[.int .i64 x.f0,.slice A1 x.f1.length c1,.int .i64 x.f2]∧x.f1.length≤c1∧(Kd.int .i64).C w A1 x.f1.length x.f1:=by
 obtain ⟨_,_,rfl,rfl,⟨_,_,rfl,⟨A1,c1,rfl,l1,g1⟩,rfl⟩⟩:=h
 exact ⟨A1,c1,rfl,l1,g1⟩
theorem k32_openM {w:World}{base:Nat}{ok:Nat→Prop}{x:S32}{cs:List Value}(h:k32.M w base ok x cs):∃ v1,cs=[.int .i64 x.f0,v1,.int .i64 x.f2]∧(Kd.int .i64).R 3 w base ok v1 x.f1:=by
 obtain ⟨_,_,rfl,rfl,⟨_,_,rfl,⟨v1,rfl,g1⟩,rfl⟩⟩:=h
 exact ⟨v1,rfl,g1⟩
theorem k32_mk (w:World)(x:S32){A1:Option Addr}{c1:Nat}(l1:x.f1.length≤c1)(g1:(Kd.int .i64).C w A1 x.f1.length x.f1):k32.K w x [.int .i64 x.f0,.slice A1 x.f1.length c1,.int .i64 x.f2]:=⟨[.int .i64 x.f0],[.slice A1 x.f1.length c1,.int .i64 x.f2],rfl,rfl,⟨[.slice A1 x.f1.length c1],[.int .i64 x.f2],rfl,⟨A1,c1,rfl,l1,g1⟩,rfl⟩⟩
theorem k32_mkM (w:World)(base:Nat)(ok:Nat→Prop)(x:S32){v1:Value}(g1:(Kd.int .i64).R 3 w base ok v1 x.f1):k32.M w base ok x [.int .i64 x.f0,v1,.int .i64 x.f2]:=⟨[.int .i64 x.f0],[v1,.int .i64 x.f2],rfl,rfl,⟨[v1],[.int .i64 x.f2],rfl,⟨v1,rfl,g1⟩,rfl⟩⟩
def rd_T32 (xs:List S32)(i:Int):S32:=xs.getD i.toNat z32
theorem at_T32 {w:World}{A:Option Addr}{n:Nat}{xs:List S32}(h:Kd.C k32 w A n xs)(i:Int)(h0:0≤i)(h1:i < n):∃ ad A1 c1,A=some ad∧w.cell? (ad.add (i.toNat * 3))=some (.int .i64 (rd_T32 xs i).f0)∧w.cell? ⟨(ad.add (i.toNat * 3)).block,(ad.add (i.toNat * 3)).off + 1,none⟩=some (.slice A1 (rd_T32 xs i).f1.length c1)∧w.cell? ⟨(ad.add (i.toNat * 3)).block,(ad.add (i.toNat * 3)).off + 2,none⟩=some (.int .i64 (rd_T32 xs i).f2)∧(rd_T32 xs i).f1.length≤c1∧(Kd.int .i64).C w A1 (rd_T32 xs i).f1.length (rd_T32 xs i).f1:=by
 obtain ⟨ad,c,e,_,hK,hc0⟩:=Kd.C_get h z32 i h0 h1
 have hc:∀ j u,c[j]?=some u→w.cell? (ad.add (i.toNat * 3 + j))=some u:=hc0
 obtain ⟨A1,c1,rfl,l1,g1⟩:=k32_open hK
 exact ⟨ad,A1,c1,e,hc 0 _ rfl,by rw [← add_field _ _ 1 (by omega)];exact hc 1 _ rfl,by rw [← add_field _ _ 2 (by omega)];exact hc 2 _ rfl,l1,g1⟩

def rd_L6 (xs:List (List S32))(i:Int):(List S32):=xs.getD i.toNat ([]:List S32)
theorem at_L6 {w:World}{A:Option Addr}{n:Nat}{xs:List (List S32)}(h:Kd.C (Kd.slice 32 k32) w A n xs)(i:Int)(h0:0≤i)(h1:i < n):∃ ad A0 c0,A=some ad∧w.cell? (ad.add i.toNat)=some (.slice A0 (rd_L6 xs i).length c0)∧(rd_L6 xs i).length≤c0∧k32.C w A0 (rd_L6 xs i).length (rd_L6 xs i):=by
 obtain ⟨ad,c,e,_,hK,hc0⟩:=Kd.C_get h ([]:List S32) i h0 h1
 have hc:∀ j u,c[j]?=some u→w.cell? (ad.add (i.toNat * 1 + j))=some u:=hc0
 obtain ⟨A0,c0,rfl,l0,g0⟩:=hK
 exact ⟨ad,A0,c0,e,by have hq:=hc 0 _ rfl;rwa [Nat.mul_one,Nat.add_zero] at hq,l0,g0⟩

def rd_L7 (xs:List (List S47))(i:Int):(List S47):=xs.getD i.toNat ([]:List S47)
theorem at_L7 {w:World}{A:Option Addr}{n:Nat}{xs:List (List S47)}(h:Kd.C (Kd.slice 47 k47) w A n xs)(i:Int)(h0:0≤i)(h1:i < n):∃ ad A0 c0,A=some ad∧w.cell? (ad.add i.toNat)=some (.slice A0 (rd_L7 xs i).length c0)∧(rd_L7 xs i).length≤c0∧k47.C w A0 (rd_L7 xs i).length (rd_L7 xs i):=by
 obtain ⟨ad,c,e,_,hK,hc0⟩:=Kd.C_get h ([]:List S47) i h0 h1
 have hc:∀ j u,c[j]?=some u→w.cell? (ad.add (i.toNat * 1 + j))=some u:=hc0
 obtain ⟨A0,c0,rfl,l0,g0⟩:=hK
 exact ⟨ad,A0,c0,e,by have hq:=hc 0 _ rfl;rwa [Nat.mul_one,Nat.add_zero] at hq,l0,g0⟩
def spec_l1In.f (a0:Int)(a1:Int)(a2:Int):Option (Bool):=if a0 ≥ a1 then (some (decide (a0≤a2))) else (some false)
theorem spec_l1In.calls (a0:Int)(a1:Int)(a2:Int)(r:Bool)(w:World)(h:spec_l1In.f a0 a1 a2=some r) :
  Calls Try.prog 70 #[.int .i64 a0,.int .i64 a1,.int .i64 a2] w fun e w'=>e= .returned (.bool r)∧Drawn0 w w':=by
 unfold spec_l1In.f at h
 have H:=h
 clear h
 replace H:=yis H;obtain ⟨c4b0,H⟩ | ⟨c4b0,H⟩:=H
 ·obtain rfl:=ysi H
  go_enter Try.func70,Try.ntmps70
  go_wp2
  go_ret
  exact ⟨yeq,by repeat (first|exact Drawn0.refl _|apply Drawn0.step)⟩
 obtain rfl:=ysi H
 go_enter Try.func70,Try.ntmps70
 go_wp2
 go_ret
 exact ⟨yeq,by repeat (first|exact Drawn0.refl _|apply Drawn0.step)⟩
def spec_GridValid.l0:Nat→List Int→Int→Int→Option (Bool)
 | 0,_,_,_=>none
 | k + 1,x0,x1,x5=>if x5 < (x0.length:Int) then (if 0≤x5 then ((spec_l1In.f (rd x0 x5) 0 x1).bind fun t221=>(if t221=true then (spec_GridValid.l0 k x0 x1 (wrap64 (x5 + 1))) else (some false))) else (none)) else ((spec_l1In.f x1 2 4).bind fun t222=>(if t222=true then (some ((x0.length:Int) == (wrap64 (x1 * x1)))) else (some false)))
def spec_GridValid.f (k:Nat)(l0:List Int)(a1:Int):Option (Bool):=spec_GridValid.l0 k l0 a1 0
theorem spec_GridValid.calls (k:Nat)(A0:Option Addr)(c0:Nat)(l0:List Int)(a1:Int)(r:Bool)(w:World)(hr0:Kd.C (Kd.int .i64) w A0 l0.length l0)(hc0:l0.length≤c0)(h:spec_GridValid.f k l0 a1=some r) :
  Calls Try.prog 49 #[.slice A0 l0.length c0,.int .i64 a1] w fun e w'=>e= .returned (.bool r)∧Drawn0 w w':=by
 have HR0:=yam hr0
 have HC0:=yam hc0
 clear hr0 hc0
 unfold spec_GridValid.f at h
 have H:=h
 clear h
 replace H:=yam H
 go_enter Try.func49,Try.ntmps49
 go_wp2
 go_loopg [5] k (fun kq v5 w'=>∃ (x5_1:Int),v5= .int .i64 x5_1∧Aside0 (spec_GridValid.l0 kq l0 a1 x5_1=some r)∧Aside0 (kq≤k)∧Drawn0 w w')
 case atStart=>exact ⟨(0),yeq,H,⟨Nat.le_refl _⟩,by repeat (first|exact Drawn0.refl _|apply Drawn0.step)⟩
 case round =>
  clear H
  obtain ⟨x5_1,rfl,HA,HK1,⟨m1,rfl⟩⟩:=hrel
  rcases gk with _|k1
  ·exact absurd HA.out (by simp [spec_GridValid.l0])
  obtain ⟨H⟩:=HA
  simp only [spec_GridValid.l0] at H
  replace H:=yis H;obtain ⟨c3b0,H⟩ | ⟨c3b0,H⟩:=H
  rotate_left
  ·replace H:=ybi H;obtain ⟨t222,A7,H⟩:=H
   try dsimp only at H
   cases t222
   rotate_left
   ·replace H:=ytt H
    obtain rfl:=ysi H
    go_wp2_with (first|(refine goesL_ (some 20) rfl rfl Try.func70 (by kernel_rfl) rfl #[.int .i64 a1,.int .i64 2,.int .i64 4] rfl ymd ?_;(with_reducible refine (spec_l1In.calls a1 2 4 true _ A7.out).mono ?_);rintro e w' ⟨rfl,⟨nd,rfl⟩⟩;refine ⟨_,rfl,?_⟩))
    go_ret
    exact ⟨yeq,by repeat (first|exact Drawn0.refl _|apply Drawn0.step)⟩
   replace H:=yff H
   obtain rfl:=ysi H
   go_wp2_with (first|(refine goesL_ (some 20) rfl rfl Try.func70 (by kernel_rfl) rfl #[.int .i64 a1,.int .i64 2,.int .i64 4] rfl ymd ?_;(with_reducible refine (spec_l1In.calls a1 2 4 false _ A7.out).mono ?_);rintro e w' ⟨rfl,⟨nd,rfl⟩⟩;refine ⟨_,rfl,?_⟩))
   go_ret
   exact ⟨yeq,by repeat (first|exact Drawn0.refl _|apply Drawn0.step)⟩
  replace H:=yif H;obtain ⟨c4b0,H⟩:=H
  replace H:=ybi H;obtain ⟨t221,A5,H⟩:=H
  try dsimp only at H
  cases t221
  ·replace H:=yff H
   obtain rfl:=ysi H
   obtain ⟨ad220,e220,hx220_0,p220,q220⟩:=yat HR0.out x5_1
   cases e220
   go_wp2_with (first|(refine goesL_ (some 17) rfl rfl Try.func70 (by kernel_rfl) rfl #[.int .i64 (rd l0 x5_1),.int .i64 0,.int .i64 a1] rfl ymd ?_;(with_reducible refine (spec_l1In.calls (rd l0 x5_1) 0 a1 false _ A5.out).mono ?_);rintro e w' ⟨rfl,⟨nd,rfl⟩⟩;refine ⟨_,rfl,?_⟩))
   go_ret
   exact ⟨yeq,by repeat (first|exact Drawn0.refl _|apply Drawn0.step)⟩
  replace H:=ytt H
  replace H:=yam H
  obtain ⟨ad220,e220,hx220_0,p220,q220⟩:=yat HR0.out x5_1
  cases e220
  go_wp2_with (first|(refine goesL_ (some 17) rfl rfl Try.func70 (by kernel_rfl) rfl #[.int .i64 (rd l0 x5_1),.int .i64 0,.int .i64 a1] rfl ymd ?_;(with_reducible refine (spec_l1In.calls (rd l0 x5_1) 0 a1 true _ A5.out).mono ?_);rintro e w' ⟨rfl,⟨nd,rfl⟩⟩;refine ⟨_,rfl,?_⟩))
  go_roundg k1
  case measure=>have:=HK1.out;omega
  case rel=>exact ⟨(wrap64 (x5_1 + 1)),yeq,H,⟨by have:=HK1.out;omega⟩,by repeat (first|exact Drawn0.refl _|apply Drawn0.step)⟩
def impl_sizeOk.f (a0:Int):Option (Bool):=if a0 ≥ 2 then (some (decide (a0≤4))) else (some false)
theorem impl_sizeOk.calls (a0:Int)(r:Bool)(w:World)(h:impl_sizeOk.f a0=some r) :
  Calls Try.prog 64 #[.int .i64 a0] w fun e w'=>e= .returned (.bool r)∧Drawn0 w w':=by
 unfold impl_sizeOk.f at h
 have H:=h
 clear h
 replace H:=yis H;obtain ⟨c2b0,H⟩ | ⟨c2b0,H⟩:=H
 ·obtain rfl:=ysi H
  go_enter Try.func64,Try.ntmps64
  go_wp2
  go_ret
  exact ⟨yeq,by repeat (first|exact Drawn0.refl _|apply Drawn0.step)⟩
 obtain rfl:=ysi H
 go_enter Try.func64,Try.ntmps64
 go_wp2
 go_ret
 exact ⟨yeq,by repeat (first|exact Drawn0.refl _|apply Drawn0.step)⟩
mutual
def impl_GridValid.j0:Nat→List Int→Int→Bool→Option (Bool)
 | 0,_,_,_=>none
 | k + 1,x0,x1,x17=>if x17=true then (some false) else (impl_GridValid.l0 k x1 x0 (x0.length:Int) 0)
def impl_GridValid.l0:Nat→Int→List Int→Int→Int→Option (Bool)
 | 0,_,_,_,_=>none
 | k + 1,x1,x18,x19,x20=>if x20 < x19 then (if 0≤x20 then (if x20 < (x18.length:Int) then (if (rd x18 x20) < 0 then (some false) else (if (rd x18 x20) > x1 then (some false) else (impl_GridValid.l0 k x1 x18 x19 (wrap64 (x20 + 1))))) else (none)) else (none)) else (some true)
end
def impl_GridValid.f (k:Nat)(l0:List Int)(a1:Int):Option (Bool):=(impl_sizeOk.f a1).bind fun t206=>(if t206=true then (impl_GridValid.j0 k l0 a1 ((l0.length:Int) != (wrap64 (a1 * a1)))) else (impl_GridValid.j0 k l0 a1 true))
theorem impl_GridValid.mono_l:∀ k,(∀ y0 y1 y2,LeO (impl_GridValid.j0 k y0 y1 y2) (impl_GridValid.j0 (k + 1) y0 y1 y2))∧(∀ y0 y1 y2 y3,LeO (impl_GridValid.l0 k y0 y1 y2 y3) (impl_GridValid.l0 (k + 1) y0 y1 y2 y3))
 | 0=>⟨fun _ _ _ r h=>by simp [impl_GridValid.j0] at h,fun _ _ _ _ r h=>by simp [impl_GridValid.l0] at h⟩
 | k + 1=>by
  obtain ⟨ih0,ih1⟩:=impl_GridValid.mono_l k
  refine ⟨?_,?_⟩
  ·intro y0 y1 y2
   unfold impl_GridValid.j0
   repeat' first
   | (with_reducible exact ih0 _ _ _)
   | (with_reducible exact ih1 _ _ _ _)
   | (with_reducible exact LeO.refl _)
   | (with_reducible exact LeO.none _)
   | (with_reducible refine LeO.ite ?_ ?_)
   | (with_reducible refine LeO.bind ?_ (fun _=>?_))
   | exact ih0 _ _ _
   | exact ih1 _ _ _ _
   | exact LeO.none _
   | refine LeO.ite ?_ ?_
   | refine LeO.bind ?_ (fun _=>?_)
  ·intro y0 y1 y2 y3
   unfold impl_GridValid.l0
   repeat' first
   | (with_reducible exact ih0 _ _ _)
   | (with_reducible exact ih1 _ _ _ _)
   | (with_reducible exact LeO.refl _)
   | (with_reducible exact LeO.none _)
   | (with_reducible refine LeO.ite ?_ ?_)
   | (with_reducible refine LeO.bind ?_ (fun _=>?_))
   | exact ih0 _ _ _
   | exact ih1 _ _ _ _
   | exact LeO.none _
   | refine LeO.ite ?_ ?_
   | refine LeO.bind ?_ (fun _=>?_)
theorem impl_GridValid.mono:∀ a0 a1 k,LeO (impl_GridValid.f k a0 a1) (impl_GridValid.f (k + 1) a0 a1):=by
 intro a0 a1 k
 obtain ⟨ih0,ih1⟩:=impl_GridValid.mono_l k
 unfold impl_GridValid.f
 repeat' first
   | (with_reducible exact ih0 _ _ _)
   | (with_reducible exact ih1 _ _ _ _)
   | (with_reducible exact LeO.refl _)
   | (with_reducible exact LeO.none _)
   | (with_reducible refine LeO.ite ?_ ?_)
   | (with_reducible refine LeO.bind ?_ (fun _=>?_))
   | exact ih0 _ _ _
   | exact ih1 _ _ _ _
   | exact LeO.none _
   | refine LeO.ite ?_ ?_
   | refine LeO.bind ?_ (fun _=>?_)
theorem impl_GridValid.calls (k:Nat)(A0:Option Addr)(c0:Nat)(l0:List Int)(a1:Int)(r:Bool)(w:World)(hr0:Kd.C (Kd.int .i64) w A0 l0.length l0)(hc0:l0.length≤c0)(h:impl_GridValid.f k l0 a1=some r) :
  Calls Try.prog 60 #[.slice A0 l0.length c0,.int .i64 a1] w fun e w'=>e= .returned (.bool r)∧Drawn0 w w':=by
 have HR0:=yam hr0
 have HC0:=yam hc0
 clear hr0 hc0
 unfold impl_GridValid.f at h
 have H:=h
 clear h
 have HC3:=yam H
 clear H
 go_enter Try.func60,Try.ntmps60
 go_upto_region 1 with (fail)
 go_cut [17] (fun v17 wc=>∃ (kq:Nat) (x17_2:Bool),v17= .bool x17_2∧Aside0 (impl_GridValid.j0 kq l0 a1 x17_2=some r)∧Aside0 (kq≤k)∧Drawn0 w wc)
 case first =>
  have H:=HC3.out
  clear HC3
  replace H:=ybi H;obtain ⟨t206,A4,H⟩:=H
  try dsimp only at H
  cases t206
  rotate_left
  ·replace H:=ytt H
   replace H:=yam H
   go_wp2_with (first|(refine goesL_ (some 8) rfl rfl Try.func64 (by kernel_rfl) rfl #[.int .i64 a1] rfl ymd ?_;(with_reducible refine (impl_sizeOk.calls a1 true _ A4.out).mono ?_);rintro e w' ⟨rfl,⟨nd,rfl⟩⟩;refine ⟨_,rfl,?_⟩))
   go_meet
   case rel=>exact ⟨_,(((l0.length:Int) != (wrap64 (a1 * a1)))),yeq,H,⟨by first|omega|exact Nat.le_refl _⟩,by repeat (first|exact Drawn0.refl _|apply Drawn0.step)⟩
  replace H:=yff H
  replace H:=yam H
  go_wp2_with (first|(refine goesL_ (some 8) rfl rfl Try.func64 (by kernel_rfl) rfl #[.int .i64 a1] rfl ymd ?_;(with_reducible refine (impl_sizeOk.calls a1 false _ A4.out).mono ?_);rintro e w' ⟨rfl,⟨nd,rfl⟩⟩;refine ⟨_,rfl,?_⟩))
  go_meet
  case rel=>exact ⟨_,(true),yeq,H,⟨by first|omega|exact Nat.le_refl _⟩,by repeat (first|exact Drawn0.refl _|apply Drawn0.step)⟩
 case rest =>
  clear HC3
  obtain ⟨kq,x17_2,rfl,HA,HJ2,⟨mc2,rfl⟩⟩:=hcut
  rcases kq with _|kj2
  ·exact absurd HA.out (by simp [impl_GridValid.j0])
  obtain ⟨H⟩:=HA
  simp only [impl_GridValid.j0] at H
  cases x17_2
  rotate_left
  ·replace H:=ytt H
   obtain rfl:=ysi H
   go_wp2
   go_ret
   exact ⟨yeq,by repeat (first|exact Drawn0.refl _|apply Drawn0.step)⟩
  replace H:=yff H
  replace H:=yam H
  go_wp2
  go_loopg [20] kj2 (fun kq v20 w'=>∃ (x20_2:Int),v20= .int .i64 x20_2∧Aside0 (impl_GridValid.l0 kq a1 l0 (l0.length:Int) x20_2=some r)∧Aside0 (kq≤kj2)∧Drawn0 w w')
  case atStart=>exact ⟨(0),yeq,H,⟨Nat.le_refl _⟩,by repeat (first|exact Drawn0.refl _|apply Drawn0.step)⟩
  case round =>
   clear H
   obtain ⟨x20_2,rfl,HA,HK2,⟨m2,rfl⟩⟩:=hrel
   rcases gk with _|k2
   ·exact absurd HA.out (by simp [impl_GridValid.l0])
   obtain ⟨H⟩:=HA
   simp only [impl_GridValid.l0] at H
   replace H:=yis H;obtain ⟨c7b0,H⟩ | ⟨c7b0,H⟩:=H
   rotate_left
   ·obtain rfl:=ysi H
    go_wp2
    go_ret
    exact ⟨yeq,by repeat (first|exact Drawn0.refl _|apply Drawn0.step)⟩
   replace H:=yif H;obtain ⟨c8b0,H⟩:=H
   replace H:=yif H;obtain ⟨c9b0,H⟩:=H
   replace H:=yis H;obtain ⟨c10b0,H⟩ | ⟨c10b0,H⟩:=H
   ·obtain rfl:=ysi H
    obtain ⟨ad207,e207,hx207_0,p207,q207⟩:=yat HR0.out x20_2
    cases e207
    go_wp2
    go_ret
    exact ⟨yeq,by repeat (first|exact Drawn0.refl _|apply Drawn0.step)⟩
   replace H:=yis H;obtain ⟨c11b0,H⟩ | ⟨c11b0,H⟩:=H
   ·obtain rfl:=ysi H
    obtain ⟨ad207,e207,hx207_0,p207,q207⟩:=yat HR0.out x20_2
    cases e207
    go_wp2
    go_ret
    exact ⟨yeq,by repeat (first|exact Drawn0.refl _|apply Drawn0.step)⟩
   replace H:=yam H
   obtain ⟨ad207,e207,hx207_0,p207,q207⟩:=yat HR0.out x20_2
   cases e207
   go_wp2
   go_roundg k2
   case measure=>have:=HJ2.out;have:=HK2.out;omega
   case rel=>exact ⟨(wrap64 (x20_2 + 1)),yeq,H,⟨by have:=HJ2.out;have:=HK2.out;omega⟩,by repeat (first|exact Drawn0.refl _|apply Drawn0.step)⟩
def impl_GridFilled.l0:Nat→Int→List Int→Int→Int→Option (Int)
 | 0,_,_,_,_=>none
 | k + 1,x5,x12,x13,x14=>if x14 < x13 then (if 0≤x14 then (if x14 < (x12.length:Int) then (if (rd x12 x14) > 0 then (impl_GridFilled.l0 k (wrap64 (x5 + 1)) x12 x13 (wrap64 (x14 + 1))) else (impl_GridFilled.l0 k x5 x12 x13 (wrap64 (x14 + 1)))) else (none)) else (none)) else (some x5)
def impl_GridFilled.f (k:Nat)(l0:List Int)(a1:Int):Option (Int):=(impl_GridValid.f k l0 a1).bind fun t236=>(if t236=true then (impl_GridFilled.l0 k 0 l0 (l0.length:Int) 0) else (some (-1)))
theorem impl_GridFilled.mono_l:∀ k,(∀ y0 y1 y2 y3,LeO (impl_GridFilled.l0 k y0 y1 y2 y3) (impl_GridFilled.l0 (k + 1) y0 y1 y2 y3))
 | 0=>fun _ _ _ _ r h=>by simp [impl_GridFilled.l0] at h
 | k + 1=>by
  have ih0:=impl_GridFilled.mono_l k
  ·intro y0 y1 y2 y3
   unfold impl_GridFilled.l0
   repeat' first
   | (with_reducible exact ih0 _ _ _ _)
   | (with_reducible exact impl_GridValid.mono _ _ _)
   | (with_reducible exact LeO.refl _)
   | (with_reducible exact LeO.none _)
   | (with_reducible refine LeO.ite ?_ ?_)
   | (with_reducible refine LeO.bind ?_ (fun _=>?_))
   | exact ih0 _ _ _ _
   | exact impl_GridValid.mono _ _ _
   | exact LeO.none _
   | refine LeO.ite ?_ ?_
   | refine LeO.bind ?_ (fun _=>?_)
theorem impl_GridFilled.mono:∀ a0 a1 k,LeO (impl_GridFilled.f k a0 a1) (impl_GridFilled.f (k + 1) a0 a1):=by
 intro a0 a1 k
 have ih0:=impl_GridFilled.mono_l k
 unfold impl_GridFilled.f
 repeat' first
   | (with_reducible exact ih0 _ _ _ _)
   | (with_reducible exact impl_GridValid.mono _ _ _)
   | (with_reducible exact LeO.refl _)
   | (with_reducible exact LeO.none _)
   | (with_reducible refine LeO.ite ?_ ?_)
   | (with_reducible refine LeO.bind ?_ (fun _=>?_))
   | exact ih0 _ _ _ _
   | exact impl_GridValid.mono _ _ _
   | exact LeO.none _
   | refine LeO.ite ?_ ?_
   | refine LeO.bind ?_ (fun _=>?_)
theorem impl_GridFilled.calls (k:Nat)(A0:Option Addr)(c0:Nat)(l0:List Int)(a1:Int)(r:Int)(w:World)(hr0:Kd.C (Kd.int .i64) w A0 l0.length l0)(hc0:l0.length≤c0)(h:impl_GridFilled.f k l0 a1=some r) :
  Calls Try.prog 50 #[.slice A0 l0.length c0,.int .i64 a1] w fun e w'=>e= .returned (.int .i64 r)∧Drawn0 w w':=by
 have HR0:=yam hr0
 have HC0:=yam hc0
 clear hr0 hc0
 unfold impl_GridFilled.f at h
 have H:=h
 clear h
 replace H:=ybi H;obtain ⟨t236,A3,H⟩:=H
 try dsimp only at H
 cases t236
 ·replace H:=yff H
  obtain rfl:=ysi H
  go_enter Try.func50,Try.ntmps50
  go_wp2_with (first|(refine goesL_ (some 10) rfl rfl Try.func60 (by kernel_rfl) rfl #[.slice A0 l0.length c0,.int .i64 a1] rfl ymd ?_;(with_reducible refine (impl_GridValid.calls k _ _ l0 a1 false _ ?_ ?_ A3.out).mono ?_);exact Kd.Cz (HR0.out);exact HC0.out;rintro e w' ⟨rfl,⟨nd,rfl⟩⟩;refine ⟨_,rfl,?_⟩))
  go_ret
  exact ⟨yeq,by repeat (first|exact Drawn0.refl _|apply Drawn0.step)⟩
 replace H:=ytt H
 replace H:=yam H
 go_enter Try.func50,Try.ntmps50
 go_wp2_with (first|(refine goesL_ (some 10) rfl rfl Try.func60 (by kernel_rfl) rfl #[.slice A0 l0.length c0,.int .i64 a1] rfl ymd ?_;(with_reducible refine (impl_GridValid.calls k _ _ l0 a1 true _ ?_ ?_ A3.out).mono ?_);exact Kd.Cz (HR0.out);exact HC0.out;rintro e w' ⟨rfl,⟨nd,rfl⟩⟩;refine ⟨_,rfl,?_⟩))
 go_loopg [5,14] k (fun kq v5 v14 w'=>∃ (x5_1:Int) (x14_1:Int),v5= .int .i64 x5_1∧v14= .int .i64 x14_1∧Aside0 (impl_GridFilled.l0 kq x5_1 l0 (l0.length:Int) x14_1=some r)∧Aside0 (kq≤k)∧Drawn0 w w')
 case atStart=>exact ⟨(0),(0),yeq,yeq,H,⟨Nat.le_refl _⟩,by repeat (first|exact Drawn0.refl _|apply Drawn0.step)⟩
 case round =>
  clear H
  obtain ⟨x5_1,x14_1,rfl,rfl,HA,HK1,⟨m1,rfl⟩⟩:=hrel
  rcases gk with _|k1
  ·exact absurd HA.out (by simp [impl_GridFilled.l0])
  obtain ⟨H⟩:=HA
  simp only [impl_GridFilled.l0] at H
  replace H:=yis H;obtain ⟨c5b0,H⟩ | ⟨c5b0,H⟩:=H
  rotate_left
  ·obtain rfl:=ysi H
   go_wp2
   go_ret
   exact ⟨yeq,by repeat (first|exact Drawn0.refl _|apply Drawn0.step)⟩
  replace H:=yif H;obtain ⟨c6b0,H⟩:=H
  replace H:=yif H;obtain ⟨c7b0,H⟩:=H
  replace H:=yis H;obtain ⟨c8b0,H⟩ | ⟨c8b0,H⟩:=H
  rotate_left
  ·replace H:=yam H
   obtain ⟨ad237,e237,hx237_0,p237,q237⟩:=yat HR0.out x14_1
   cases e237
   go_wp2
   go_roundg k1
   case measure=>have:=HK1.out;omega
   case rel=>exact ⟨(x5_1),(wrap64 (x14_1 + 1)),yeq,yeq,H,⟨by have:=HK1.out;omega⟩,by repeat (first|exact Drawn0.refl _|apply Drawn0.step)⟩
  replace H:=yam H
  obtain ⟨ad237,e237,hx237_0,p237,q237⟩:=yat HR0.out x14_1
  cases e237
  go_wp2
  go_roundg k1
  case measure=>have:=HK1.out;omega
  case rel=>exact ⟨(wrap64 (x5_1 + 1)),(wrap64 (x14_1 + 1)),yeq,yeq,H,⟨by have:=HK1.out;omega⟩,by repeat (first|exact Drawn0.refl _|apply Drawn0.step)⟩
def laws_alive.f (k:Nat)  : Option (Bool):=(impl_GridFilled.f k (([1,0,0,2]:List Int)) 2).bind fun t241=>(some (t241 == 2))
theorem laws_alive.mono:∀ k,LeO (laws_alive.f k ) (laws_alive.f (k + 1) ):=by
 intro  k
 unfold laws_alive.f
 repeat' first
   | (with_reducible exact impl_GridFilled.mono _ _ _)
   | (with_reducible exact LeO.refl _)
   | (with_reducible exact LeO.none _)
   | (with_reducible refine LeO.ite ?_ ?_)
   | (with_reducible refine LeO.bind ?_ (fun _=>?_))
   | exact impl_GridFilled.mono _ _ _
   | exact LeO.none _
   | refine LeO.ite ?_ ?_
   | refine LeO.bind ?_ (fun _=>?_)
theorem laws_alive.calls (k:Nat)  (r:Bool) (w:World) (h:laws_alive.f k  = some r) :
  Calls Try.prog 19 #[] w fun e w'=>e= .returned (.bool r)∧Below w.heap.size w w':=by
 have HB:=yam (Below.refl w.heap.size w)
 unfold laws_alive.f at h
 have H:=h
 clear h
 obtain ⟨y238,Ny238⟩:∃ y_:List Int,Aside0 (y_=(([1,0,0,2]:List Int))):=⟨_,⟨rfl⟩⟩
 replace H:((impl_GridFilled.f k y238 2).bind fun t241=>(some (t241 == 2)))=some r:=yhn Ny238.out H
 replace H:=ybi H;obtain ⟨t241,A1,H⟩:=H
 try dsimp only at H
 obtain rfl:=ysi H
 go_enter Try.func19,Try.ntmps19
 go_wp2_with (first|((with_reducible refine gate_dst (N:=1) rfl ?_);refine Kd.R_lit (Kd.int .i64) _ 3 ?hg (N:=1) ?hd (xs:=([1,0,0,2]:List Int)) (inner:=[.int .i64 1,.int .i64 0,.int .i64 0,.int .i64 2]) (ok:=fun _=>True) (okp:=fun _=>True) ?hr ?hp (fun _ hk=>hk) trivial (Below.refl _ _) (Nat.le_refl _) (by simp) ?_;(case hd=>rfl);(case hg=>rfl);(case hr=>first|(go_simp;done)|(go_simp;rfl));(case hp=>exact (Reps.one (show Kd.M (Kd.int .i64) _ _ _ 1 [.int .i64 1] from rfl) (Reps.one (show Kd.M (Kd.int .i64) _ _ _ 0 [.int .i64 0] from rfl) (Reps.one (show Kd.M (Kd.int .i64) _ _ _ 0 [.int .i64 0] from rfl) (Reps.one (show Kd.M (Kd.int .i64) _ _ _ 2 [.int .i64 2] from rfl) (Reps.none _ _))))));intro v239 w2 ho3 hb hg_ hnew_;clear hg_ hnew_;(first|rw [← Ny238.out] at ho3|(simp only [Int.reduceToNat] at ho3;rw [← Ny238.out] at ho3));have HO240:=yam (Kd.R_lower ho3 (below_size (yez HB.out)));replace HB:=yam (below_step (yez HB.out) hb);clear hb ho3;obtain ⟨Ao4,co4,eo4⟩:=Kd.R_slice HO240.out;subst eo4)|(refine goesL_ (some 2) rfl rfl Try.func50 (by kernel_rfl) rfl #[.slice Ao4 y238.length co4,.int .i64 2] rfl ymd ?_;(with_reducible refine (impl_GridFilled.calls k _ _ y238 2 t241 _ ?_ ?_ A1.out).mono ?_);exact Kd.Cz (Kd.Yr HO240.out).2.2;exact (Kd.Yr HO240.out).2.1;rintro e w' ⟨rfl,⟨nd,rfl⟩⟩;refine ⟨_,rfl,?_⟩))
 go_ret
 exact ⟨yer,yhb⟩
mutual
def spec_RuleValid.l0:Nat→Int→Int→Int→List Int→Int→Option (Bool)
 | 0,_,_,_,_,_=>none
 | k + 1,x1,x5,x397000,x397001,x397002=>if x5 < (x397001.length:Int) then (if 0≤x5 then ((spec_l1In.f (rd x397001 x5) 0 (wrap64 ((wrap64 (x1 * x1)) - 1))).bind fun t398=>(if t398=true then (spec_RuleValid.l1 k x1 x5 0 x397000 x397001 x397002) else (some false))) else (none)) else ((spec_l1In.f x1 2 4).bind fun t401=>(if t401=true then (spec_RuleValid.j2 k x1 (x397001.length:Int) (decide ((x397001.length:Int) > 4)) x397000 x397001 x397002) else (spec_RuleValid.j2 k x1 (x397001.length:Int) true x397000 x397001 x397002)))
def spec_RuleValid.l1:Nat→Int→Int→Int→Int→List Int→Int→Option (Bool)
 | 0,_,_,_,_,_,_=>none
 | k + 1,x1,x5,x6,x397000,x397001,x397002=>if x6 < x5 then (if 0≤x6 then (if x6 < (x397001.length:Int) then (if 0≤x5 then (if x5 < (x397001.length:Int) then (if (rd x397001 x6)=(rd x397001 x5) then (some false) else (spec_RuleValid.l1 k x1 x5 (wrap64 (x6 + 1)) x397000 x397001 x397002)) else (none)) else (none)) else (none)) else (none)) else (spec_RuleValid.l0 k x1 (wrap64 (x5 + 1)) x397000 x397001 x397002)
def spec_RuleValid.j2:Nat→Int→Int→Bool→Int→List Int→Int→Option (Bool)
 | 0,_,_,_,_,_,_=>none
 | k + 1,x1,x7,x51,x397000,x397001,x397002=>if x51=true then (some false) else (if x397000=1 then (if x7 ≥ 2 then (some (x397002 == 0)) else (some false)) else (if x397000=2 then (spec_RuleValid.j3 k x1 x7 x397000 (x397000 == 2) x397000 x397001 x397002) else (spec_RuleValid.j3 k x1 x7 x397000 (x397000 == 3) x397000 x397001 x397002)))
def spec_RuleValid.j3:Nat→Int→Int→Int→Bool→Int→List Int→Int→Option (Bool)
 | 0,_,_,_,_,_,_,_=>none
 | k + 1,x1,x7,x53,x63,x397000,x397001,x397002=>if x63=true then (if x7 ≥ 1 then ((spec_l1In.f x397002 1 (wrap64 ((wrap64 ((wrap64 (x1 * x1)) * x1)) * x1))).bind fun t402=>(some t402)) else (some false)) else (if x53=4 then (if x7=2 then (some (x397002 == 0)) else (some false)) else (if x53=5 then (if x7=2 then ((spec_l1In.f x397002 0 (wrap64 (x1 - 1))).bind fun t403=>(some t403)) else (some false)) else (some false)))
end
def spec_RuleValid.f (k:Nat)(a0_0:Int)(l0_1:List Int)(a0_2:Int)(a1:Int):Option (Bool):=spec_RuleValid.l0 k a1 0 a0_0 l0_1 a0_2
theorem spec_RuleValid.calls (k:Nat)(a0_0:Int)(A0_1:Option Addr)(c0_1:Nat)(l0_1:List Int)(a0_2:Int)(a1:Int)(r:Bool)(w:World)(hr0_1:Kd.C (Kd.int .i64) w A0_1 l0_1.length l0_1)(hc0_1:l0_1.length≤c0_1)(h:spec_RuleValid.f k a0_0 l0_1 a0_2 a1=some r) :
  Calls Try.prog 24 #[.agg #[.int .i64 a0_0,.slice A0_1 l0_1.length c0_1,.int .i64 a0_2],.int .i64 a1] w fun e w'=>e= .returned (.bool r)∧Below w.heap.size w w':=by
 have hu32:=Try.underlying32
 have HR0_1:=yam hr0_1
 have HC0_1:=yam hc0_1
 clear hr0_1 hc0_1
 have HB:=yam (Below.refl w.heap.size w)
 unfold spec_RuleValid.f at h
 have H:=h
 clear h
 replace H:=yam H
 go_enter Try.func24,Try.ntmps24
 go_wp2_with (first|(refine ybe 2 #[.int .i64 a0_0,.slice A0_1 l0_1.length c0_1,.int .i64 a0_2] 32 ?_;intro gb396 hg w3 hbox hb;have BK396:=yam (hbox);have GW396:=yam ((by rw [hg];exact (below_size (yez HB.out)):w.heap.size≤gb396));replace HB:=yam (below_step (yez HB.out) hb);have GE396:=GW396;clear hb hbox hg))
 repeat (go_quiet (first|(refine ybe 2 #[.int .i64 a0_0,.slice A0_1 l0_1.length c0_1,.int .i64 a0_2] 32 ?_;intro gb396 hg w3 hbox hb;have BK396:=yam (hbox);have GW396:=yam ((by rw [hg];exact (below_size (yez HB.out)):w.heap.size≤gb396));replace HB:=yam (below_step (yez HB.out) hb);have GE396:=GW396;clear hb hbox hg));try go_wp2_with (first|(refine ybe 2 #[.int .i64 a0_0,.slice A0_1 l0_1.length c0_1,.int .i64 a0_2] 32 ?_;intro gb396 hg w3 hbox hb;have BK396:=yam (hbox);have GW396:=yam ((by rw [hg];exact (below_size (yez HB.out)):w.heap.size≤gb396));replace HB:=yam (below_step (yez HB.out) hb);have GE396:=GW396;clear hb hbox hg)))
 go_loopg [5] k (fun kq v5 w'=>∃ (x5_1:Int),v5= .int .i64 x5_1∧Aside0 (spec_RuleValid.l0 kq a1 x5_1 a0_0 l0_1 a0_2=some r)∧Aside0 (kq≤k)∧Aside0 (w'.heap[gb396]?=some (.cells #[.int .i64 a0_0,(.slice A0_1 l0_1.length c0_1),.int .i64 a0_2] 32 (0,0)))∧Aside0 (Below w.heap.size w w'))
 case atStart=>exact ⟨(0),yeq,H,⟨Nat.le_refl _⟩,⟨ybk BK396.out⟩,⟨yhb⟩⟩
 case round =>
  clear H
  obtain ⟨x5_1,rfl,HA,HK1,BK396,HB⟩:=hrel
  rcases gk with _|k1
  ·exact absurd HA.out (by simp [spec_RuleValid.l0])
  obtain ⟨H⟩:=HA
  simp only [spec_RuleValid.l0] at H
  replace H:=yis H;obtain ⟨c4b0,H⟩ | ⟨c4b0,H⟩:=H
  ·replace H:=yif H;obtain ⟨c5b0,H⟩:=H
   replace H:=ybi H;obtain ⟨t398,A6,H⟩:=H
   try dsimp only at H
   cases t398
   ·replace H:=yff H
    obtain rfl:=ysi H
    obtain ⟨hcz17_0,hcz17_1,hcz17_2,hfz17_0,hfz17_1,hfz17_2⟩:=ybc BK396.out
    obtain ⟨ad397,e397,hx397_0,p397,q397⟩:=yat HR0_1.out x5_1
    cases e397
    replace hx397_0:=ybx HB.out hx397_0
    have hwq0_:IntKind.i64.wrap (a1 * a1)=wrap64 (a1 * a1):=i64_w _
    have hwq1_:IntKind.i64.wrap ((wrap64 (a1 * a1)) - 1)=wrap64 ((wrap64 (a1 * a1)) - 1):=i64_w _
    go_wp2_with (first|(go_at_call 70;(with_reducible refine (spec_l1In.calls (rd l0_1 x5_1) 0 (wrap64 ((wrap64 (a1 * a1)) - 1)) false _ A6.out).mono ?_);rintro e w' ⟨rfl,⟨nd,rfl⟩⟩;(try first|exact ⟨rfl,_,World.drewN_drewN _ _ _⟩|exact ⟨rfl,_,Eq.trans (World.drewN_drewN _ _ _) (congrArg (World.drewN _) (Nat.add_assoc _ _ _))⟩)))
    repeat (go_quiet (first|(go_at_call 70;(with_reducible refine (spec_l1In.calls (rd l0_1 x5_1) 0 (wrap64 ((wrap64 (a1 * a1)) - 1)) false _ A6.out).mono ?_);rintro e w' ⟨rfl,⟨nd,rfl⟩⟩;(try first|exact ⟨rfl,_,World.drewN_drewN _ _ _⟩|exact ⟨rfl,_,Eq.trans (World.drewN_drewN _ _ _) (congrArg (World.drewN _) (Nat.add_assoc _ _ _))⟩)));try go_wp2_with (first|(go_at_call 70;(with_reducible refine (spec_l1In.calls (rd l0_1 x5_1) 0 (wrap64 ((wrap64 (a1 * a1)) - 1)) false _ A6.out).mono ?_);rintro e w' ⟨rfl,⟨nd,rfl⟩⟩;(try first|exact ⟨rfl,_,World.drewN_drewN _ _ _⟩|exact ⟨rfl,_,Eq.trans (World.drewN_drewN _ _ _) (congrArg (World.drewN _) (Nat.add_assoc _ _ _))⟩))))
    go_ret
    exact ⟨yer,yhb⟩
   replace H:=ytt H
   replace H:=yam H
   obtain ⟨hcz8_0,hcz8_1,hcz8_2,hfz8_0,hfz8_1,hfz8_2⟩:=ybc BK396.out
   obtain ⟨ad397,e397,hx397_0,p397,q397⟩:=yat HR0_1.out x5_1
   cases e397
   replace hx397_0:=ybx HB.out hx397_0
   have hwq0_:IntKind.i64.wrap (a1 * a1)=wrap64 (a1 * a1):=i64_w _
   have hwq1_:IntKind.i64.wrap ((wrap64 (a1 * a1)) - 1)=wrap64 ((wrap64 (a1 * a1)) - 1):=i64_w _
   go_wp2_with (first|(go_at_call 70;(with_reducible refine (spec_l1In.calls (rd l0_1 x5_1) 0 (wrap64 ((wrap64 (a1 * a1)) - 1)) true _ A6.out).mono ?_);rintro e w' ⟨rfl,⟨nd,rfl⟩⟩;(try first|exact ⟨rfl,_,World.drewN_drewN _ _ _⟩|exact ⟨rfl,_,Eq.trans (World.drewN_drewN _ _ _) (congrArg (World.drewN _) (Nat.add_assoc _ _ _))⟩)))
   repeat (go_quiet (first|(go_at_call 70;(with_reducible refine (spec_l1In.calls (rd l0_1 x5_1) 0 (wrap64 ((wrap64 (a1 * a1)) - 1)) true _ A6.out).mono ?_);rintro e w' ⟨rfl,⟨nd,rfl⟩⟩;(try first|exact ⟨rfl,_,World.drewN_drewN _ _ _⟩|exact ⟨rfl,_,Eq.trans (World.drewN_drewN _ _ _) (congrArg (World.drewN _) (Nat.add_assoc _ _ _))⟩)));try go_wp2_with (first|(go_at_call 70;(with_reducible refine (spec_l1In.calls (rd l0_1 x5_1) 0 (wrap64 ((wrap64 (a1 * a1)) - 1)) true _ A6.out).mono ?_);rintro e w' ⟨rfl,⟨nd,rfl⟩⟩;(try first|exact ⟨rfl,_,World.drewN_drewN _ _ _⟩|exact ⟨rfl,_,Eq.trans (World.drewN_drewN _ _ _) (congrArg (World.drewN _) (Nat.add_assoc _ _ _))⟩))))
   go_loopg [6] k1 (fun kq v6 w'=>∃ (x6_2:Int),v6= .int .i64 x6_2∧Aside0 (spec_RuleValid.l1 kq a1 x5_1 x6_2 a0_0 l0_1 a0_2=some r)∧Aside0 (kq≤k1)∧Aside0 (w'.heap[gb396]?=some (.cells #[.int .i64 a0_0,(.slice (some ad397) l0_1.length c0_1),.int .i64 a0_2] 32 (0,0)))∧Aside0 (Below w.heap.size w w'))
   case atStart=>exact ⟨(0),yeq,H,⟨Nat.le_refl _⟩,⟨ybk BK396.out⟩,⟨yhb⟩⟩
   case round =>
    clear H
    try clear c4b0
    try clear c5b0
    try clear hcz8_0
    try clear hcz8_1
    try clear hcz8_2
    try clear hfz8_0
    try clear hfz8_1
    try clear hfz8_2
    try clear hx397_0
    try clear p397
    try clear q397
    obtain ⟨x6_2,rfl,HA,HK2,BK396,HB⟩:=hrel
    rcases gk with _|k2
    ·exact absurd HA.out (by simp [spec_RuleValid.l1])
    obtain ⟨H⟩:=HA
    simp only [spec_RuleValid.l1] at H
    replace H:=yis H;obtain ⟨c9b0,H⟩ | ⟨c9b0,H⟩:=H
    rotate_left
    ·replace H:=yam H
     go_wp2
     repeat (go_quiet (fail);try go_wp2)
     go_roundg k2
     case measure=>have:=HK1.out;have:=HK2.out;omega
     case rel=>exact ⟨(wrap64 (x5_1 + 1)),yeq,H,⟨by have:=HK1.out;have:=HK2.out;omega⟩,⟨ybk BK396.out⟩,⟨yhb⟩⟩
    replace H:=yif H;obtain ⟨c10b0,H⟩:=H
    replace H:=yif H;obtain ⟨c11b0,H⟩:=H
    replace H:=yif H;obtain ⟨c12b0,H⟩:=H
    replace H:=yif H;obtain ⟨c13b0,H⟩:=H
    replace H:=yit H;obtain ⟨c14,H⟩ | ⟨c14,H⟩:=H
    ·have c14b0:((rd l0_1 x6_2) == (rd l0_1 x5_1))=true:=beq_iff_eq.mpr c14
     have c14b1:((rd l0_1 x6_2) != (rd l0_1 x5_1))=false:=bne_eq_false_iff_eq.mpr c14
     clear c14
     obtain rfl:=ysi H
     obtain ⟨hcz15_0,hcz15_1,hcz15_2,hfz15_0,hfz15_1,hfz15_2⟩:=ybc BK396.out
     obtain ⟨ad399,e399,hx399_0,p399,q399⟩:=yat HR0_1.out x6_2
     obtain rfl:ad397=ad399:=(by injection e399)
     replace hx399_0:=ybx HB.out hx399_0
     obtain ⟨ad400,e400,hx400_0,p400,q400⟩:=yat HR0_1.out x5_1
     obtain rfl:ad397=ad400:=(by injection e400)
     replace hx400_0:=ybx HB.out hx400_0
     go_wp2
     repeat (go_quiet (fail);try go_wp2)
     go_ret
     exact ⟨yer,yhb⟩
    have c14b0:((rd l0_1 x6_2) == (rd l0_1 x5_1))=false:=beq_eq_false_iff_ne.mpr c14
    have c14b1:((rd l0_1 x6_2) != (rd l0_1 x5_1))=true:=bne_iff_ne.mpr c14
    replace H:=yam H
    obtain ⟨hcz16_0,hcz16_1,hcz16_2,hfz16_0,hfz16_1,hfz16_2⟩:=ybc BK396.out
    obtain ⟨ad399,e399,hx399_0,p399,q399⟩:=yat HR0_1.out x6_2
    obtain rfl:ad397=ad399:=(by injection e399)
    replace hx399_0:=ybx HB.out hx399_0
    obtain ⟨ad400,e400,hx400_0,p400,q400⟩:=yat HR0_1.out x5_1
    obtain rfl:ad397=ad400:=(by injection e400)
    replace hx400_0:=ybx HB.out hx400_0
    go_wp2
    repeat (go_quiet (fail);try go_wp2)
    go_roundg k2
    case measure=>have:=HK1.out;have:=HK2.out;omega
    case rel=>exact ⟨(wrap64 (x6_2 + 1)),yeq,H,⟨by have:=HK1.out;have:=HK2.out;omega⟩,⟨ybk BK396.out⟩,⟨yhb⟩⟩
  have HC18:=yam H
  clear H
  obtain ⟨hcz19_0,hcz19_1,hcz19_2,hfz19_0,hfz19_1,hfz19_2⟩:=ybc BK396.out
  go_upto_region 12 with (fail)
  repeat (go_quiet (fail);go_upto_region 12 with (fail))
  go_cut [51] (fun v51 wc=>∃ (kq:Nat) (x51_17:Bool),v51= .bool x51_17∧Aside0 (spec_RuleValid.j2 kq a1 (l0_1.length:Int) x51_17 a0_0 l0_1 a0_2=some r)∧Aside0 (kq≤k1)∧Aside0 (wc.heap[gb396]?=some (.cells #[.int .i64 a0_0,(.slice A0_1 l0_1.length c0_1),.int .i64 a0_2] 32 (0,0)))∧Aside0 (Below w.heap.size w wc))
  case first =>
   have H:=HC18.out
   clear HC18
   replace H:=ybi H;obtain ⟨t401,A20,H⟩:=H
   try dsimp only at H
   cases t401
   rotate_left
   ·replace H:=ytt H
    replace H:=yam H
    go_wp2_with (first|(go_at_call 70;(with_reducible refine (spec_l1In.calls a1 2 4 true _ A20.out).mono ?_);rintro e w' ⟨rfl,⟨nd,rfl⟩⟩;(try first|exact ⟨rfl,_,World.drewN_drewN _ _ _⟩|exact ⟨rfl,_,Eq.trans (World.drewN_drewN _ _ _) (congrArg (World.drewN _) (Nat.add_assoc _ _ _))⟩)))
    repeat (go_quiet (first|(go_at_call 70;(with_reducible refine (spec_l1In.calls a1 2 4 true _ A20.out).mono ?_);rintro e w' ⟨rfl,⟨nd,rfl⟩⟩;(try first|exact ⟨rfl,_,World.drewN_drewN _ _ _⟩|exact ⟨rfl,_,Eq.trans (World.drewN_drewN _ _ _) (congrArg (World.drewN _) (Nat.add_assoc _ _ _))⟩)));try go_wp2_with (first|(go_at_call 70;(with_reducible refine (spec_l1In.calls a1 2 4 true _ A20.out).mono ?_);rintro e w' ⟨rfl,⟨nd,rfl⟩⟩;(try first|exact ⟨rfl,_,World.drewN_drewN _ _ _⟩|exact ⟨rfl,_,Eq.trans (World.drewN_drewN _ _ _) (congrArg (World.drewN _) (Nat.add_assoc _ _ _))⟩))))
    go_meet
    case rel=>exact ⟨_,(decide ((l0_1.length:Int) > 4)),yeq,H,⟨by have:=HK1.out;first|omega|exact Nat.le_refl _⟩,⟨ybk BK396.out⟩,⟨yhb⟩⟩
   replace H:=yff H
   replace H:=yam H
   go_wp2_with (first|(go_at_call 70;(with_reducible refine (spec_l1In.calls a1 2 4 false _ A20.out).mono ?_);rintro e w' ⟨rfl,⟨nd,rfl⟩⟩;(try first|exact ⟨rfl,_,World.drewN_drewN _ _ _⟩|exact ⟨rfl,_,Eq.trans (World.drewN_drewN _ _ _) (congrArg (World.drewN _) (Nat.add_assoc _ _ _))⟩)))
   repeat (go_quiet (first|(go_at_call 70;(with_reducible refine (spec_l1In.calls a1 2 4 false _ A20.out).mono ?_);rintro e w' ⟨rfl,⟨nd,rfl⟩⟩;(try first|exact ⟨rfl,_,World.drewN_drewN _ _ _⟩|exact ⟨rfl,_,Eq.trans (World.drewN_drewN _ _ _) (congrArg (World.drewN _) (Nat.add_assoc _ _ _))⟩)));try go_wp2_with (first|(go_at_call 70;(with_reducible refine (spec_l1In.calls a1 2 4 false _ A20.out).mono ?_);rintro e w' ⟨rfl,⟨nd,rfl⟩⟩;(try first|exact ⟨rfl,_,World.drewN_drewN _ _ _⟩|exact ⟨rfl,_,Eq.trans (World.drewN_drewN _ _ _) (congrArg (World.drewN _) (Nat.add_assoc _ _ _))⟩))))
   go_meet
   case rel=>exact ⟨_,(true),yeq,H,⟨by have:=HK1.out;first|omega|exact Nat.le_refl _⟩,⟨ybk BK396.out⟩,⟨yhb⟩⟩
  case rest =>
   clear HC18
   try clear c4b0
   try clear hcz19_0
   try clear hcz19_1
   try clear hcz19_2
   try clear hfz19_0
   try clear hfz19_1
   try clear hfz19_2
   obtain ⟨kq,x51_17,rfl,HA,HJ17,BK396,HB⟩:=hcut
   rcases kq with _|kj17
   ·exact absurd HA.out (by simp [spec_RuleValid.j2])
   obtain ⟨H⟩:=HA
   simp only [spec_RuleValid.j2] at H
   cases x51_17
   rotate_left
   ·replace H:=ytt H
    obtain rfl:=ysi H
    go_wp2
    repeat (go_quiet (fail);try go_wp2)
    go_ret
    exact ⟨yer,yhb⟩
   replace H:=yff H
   replace H:=yit H;obtain ⟨c23,H⟩ | ⟨c23,H⟩:=H
   ·have c23b0:(a0_0 == 1)=true:=beq_iff_eq.mpr c23
    have c23b1:(a0_0 != 1)=false:=bne_eq_false_iff_eq.mpr c23
    clear c23
    replace H:=yit H;obtain ⟨c24,H⟩ | ⟨c24,H⟩:=H
    ·have c24b0:decide (2≤(l0_1.length:Int))=true:=decide_eq_true c24
     have c24b1:decide (2≤l0_1.length)=true:=decide_eq_true (by omega)
     clear c24
     obtain rfl:=ysi H
     obtain ⟨hcz25_0,hcz25_1,hcz25_2,hfz25_0,hfz25_1,hfz25_2⟩:=ybc BK396.out
     go_wp2
     repeat (go_quiet (fail);try go_wp2)
     go_ret
     exact ⟨yer,yhb⟩
    have c24b0:decide (2≤(l0_1.length:Int))=false:=decide_eq_false c24
    have c24b1:decide (2≤l0_1.length)=false:=decide_eq_false (by omega)
    clear c24
    obtain rfl:=ysi H
    obtain ⟨hcz26_0,hcz26_1,hcz26_2,hfz26_0,hfz26_1,hfz26_2⟩:=ybc BK396.out
    go_wp2
    repeat (go_quiet (fail);try go_wp2)
    go_ret
    exact ⟨yer,yhb⟩
   have c23b0:(a0_0 == 1)=false:=beq_eq_false_iff_ne.mpr c23
   have c23b1:(a0_0 != 1)=true:=bne_iff_ne.mpr c23
   have HC27:=yam H
   clear H
   obtain ⟨hcz28_0,hcz28_1,hcz28_2,hfz28_0,hfz28_1,hfz28_2⟩:=ybc BK396.out
   go_upto_if 63 with (fail)
   repeat (go_quiet (fail);go_upto_if 63 with (fail))
   go_cut [63] (fun v63 wc=>∃ (kq:Nat) (x63_26:Bool),v63= .bool x63_26∧Aside0 (spec_RuleValid.j3 kq a1 (l0_1.length:Int) a0_0 x63_26 a0_0 l0_1 a0_2=some r)∧Aside0 (kq≤kj17)∧Aside0 (wc.heap[gb396]?=some (.cells #[.int .i64 a0_0,(.slice A0_1 l0_1.length c0_1),.int .i64 a0_2] 32 (0,0)))∧Aside0 (Below w.heap.size w wc))
   case first =>
    have H:=HC27.out
    clear HC27
    replace H:=yit H;obtain ⟨c29,H⟩ | ⟨c29,H⟩:=H
    rotate_left
    ·have c29b0:(a0_0 == 2)=false:=beq_eq_false_iff_ne.mpr c29
     have c29b1:(a0_0 != 2)=true:=bne_iff_ne.mpr c29
     (first|rw [c29b0]|(simp only [i64_w,i32_w];rw [c29b0])|skip)
     replace H:=yam H
     go_wp2
     repeat (go_quiet (fail);try go_wp2)
     go_meet
     case rel=>exact ⟨_,((a0_0 == 3)),yeq,H,⟨by have:=HK1.out;have:=HJ17.out;first|omega|exact Nat.le_refl _⟩,⟨ybk BK396.out⟩,⟨yhb⟩⟩
    have c29b0:(a0_0 == 2)=true:=beq_iff_eq.mpr c29
    have c29b1:(a0_0 != 2)=false:=bne_eq_false_iff_eq.mpr c29
    clear c29
    (first|rw [c29b0]|(simp only [i64_w,i32_w];rw [c29b0])|skip)
    replace H:=yam H
    go_wp2
    repeat (go_quiet (fail);try go_wp2)
    go_meet
    case rel=>exact ⟨_,((a0_0 == 2)),yeq,H,⟨by have:=HK1.out;have:=HJ17.out;first|omega|exact Nat.le_refl _⟩,⟨ybk BK396.out⟩,⟨yhb⟩⟩
   case rest =>
    clear HC27
    try clear c23
    try clear c23b0
    try clear c23b1
    try clear hcz28_0
    try clear hcz28_1
    try clear hcz28_2
    try clear hfz28_0
    try clear hfz28_1
    try clear hfz28_2
    obtain ⟨kq,x63_26,rfl,HA,HJ26,BK396,HB⟩:=hcut
    rcases kq with _|kj26
    ·exact absurd HA.out (by simp [spec_RuleValid.j3])
    obtain ⟨H⟩:=HA
    simp only [spec_RuleValid.j3] at H
    cases x63_26
    rotate_left
    ·replace H:=ytt H
     replace H:=yit H;obtain ⟨c31,H⟩ | ⟨c31,H⟩:=H
     rotate_left
     ·have c31b0:decide (1≤(l0_1.length:Int))=false:=decide_eq_false c31
      have c31b1:decide (1≤l0_1.length)=false:=decide_eq_false (by omega)
      clear c31
      obtain rfl:=ysi H
      go_wp2
      repeat (go_quiet (fail);try go_wp2)
      go_ret
      exact ⟨yer,yhb⟩
     have c31b0:decide (1≤(l0_1.length:Int))=true:=decide_eq_true c31
     have c31b1:decide (1≤l0_1.length)=true:=decide_eq_true (by omega)
     clear c31
     replace H:=ybi H;obtain ⟨t402,A32,H⟩:=H
     try dsimp only at H
     obtain rfl:=ysi H
     obtain ⟨hcz33_0,hcz33_1,hcz33_2,hfz33_0,hfz33_1,hfz33_2⟩:=ybc BK396.out
     have hwq0_:IntKind.i64.wrap (a1 * a1)=wrap64 (a1 * a1):=i64_w _
     have hwq1_:IntKind.i64.wrap ((wrap64 (a1 * a1)) * a1)=wrap64 ((wrap64 (a1 * a1)) * a1):=i64_w _
     have hwq2_:IntKind.i64.wrap ((wrap64 ((wrap64 (a1 * a1)) * a1)) * a1)=wrap64 ((wrap64 ((wrap64 (a1 * a1)) * a1)) * a1):=i64_w _
     go_wp2_with (first|(go_at_call 70;(with_reducible refine (spec_l1In.calls a0_2 1 (wrap64 ((wrap64 ((wrap64 (a1 * a1)) * a1)) * a1)) t402 _ A32.out).mono ?_);rintro e w' ⟨rfl,⟨nd,rfl⟩⟩;(try first|exact ⟨rfl,_,World.drewN_drewN _ _ _⟩|exact ⟨rfl,_,Eq.trans (World.drewN_drewN _ _ _) (congrArg (World.drewN _) (Nat.add_assoc _ _ _))⟩)))
     repeat (go_quiet (first|(go_at_call 70;(with_reducible refine (spec_l1In.calls a0_2 1 (wrap64 ((wrap64 ((wrap64 (a1 * a1)) * a1)) * a1)) t402 _ A32.out).mono ?_);rintro e w' ⟨rfl,⟨nd,rfl⟩⟩;(try first|exact ⟨rfl,_,World.drewN_drewN _ _ _⟩|exact ⟨rfl,_,Eq.trans (World.drewN_drewN _ _ _) (congrArg (World.drewN _) (Nat.add_assoc _ _ _))⟩)));try go_wp2_with (first|(go_at_call 70;(with_reducible refine (spec_l1In.calls a0_2 1 (wrap64 ((wrap64 ((wrap64 (a1 * a1)) * a1)) * a1)) t402 _ A32.out).mono ?_);rintro e w' ⟨rfl,⟨nd,rfl⟩⟩;(try first|exact ⟨rfl,_,World.drewN_drewN _ _ _⟩|exact ⟨rfl,_,Eq.trans (World.drewN_drewN _ _ _) (congrArg (World.drewN _) (Nat.add_assoc _ _ _))⟩))))
     go_ret
     exact ⟨yer,yhb⟩
    replace H:=yff H
    replace H:=yit H;obtain ⟨c34,H⟩ | ⟨c34,H⟩:=H
    ·have c34b0:(a0_0 == 4)=true:=beq_iff_eq.mpr c34
     have c34b1:(a0_0 != 4)=false:=bne_eq_false_iff_eq.mpr c34
     clear c34
     replace H:=yit H;obtain ⟨c35,H⟩ | ⟨c35,H⟩:=H
     rotate_left
     ·have c35b0:((l0_1.length:Int) == 2)=false:=beq_eq_false_iff_ne.mpr c35
      have c35b1:((l0_1.length:Int) != 2)=true:=bne_iff_ne.mpr c35
      obtain rfl:=ysi H
      go_wp2
      repeat (go_quiet (fail);try go_wp2)
      go_ret
      exact ⟨yer,yhb⟩
     have c35b0:((l0_1.length:Int) == 2)=true:=beq_iff_eq.mpr c35
     have c35b1:((l0_1.length:Int) != 2)=false:=bne_eq_false_iff_eq.mpr c35
     clear c35
     obtain rfl:=ysi H
     obtain ⟨hcz36_0,hcz36_1,hcz36_2,hfz36_0,hfz36_1,hfz36_2⟩:=ybc BK396.out
     go_wp2
     repeat (go_quiet (fail);try go_wp2)
     go_ret
     exact ⟨yer,yhb⟩
    have c34b0:(a0_0 == 4)=false:=beq_eq_false_iff_ne.mpr c34
    have c34b1:(a0_0 != 4)=true:=bne_iff_ne.mpr c34
    replace H:=yit H;obtain ⟨c37,H⟩ | ⟨c37,H⟩:=H
    rotate_left
    ·have c37b0:(a0_0 == 5)=false:=beq_eq_false_iff_ne.mpr c37
     have c37b1:(a0_0 != 5)=true:=bne_iff_ne.mpr c37
     obtain rfl:=ysi H
     go_wp2
     repeat (go_quiet (fail);try go_wp2)
     go_ret
     exact ⟨yer,yhb⟩
    have c37b0:(a0_0 == 5)=true:=beq_iff_eq.mpr c37
    have c37b1:(a0_0 != 5)=false:=bne_eq_false_iff_eq.mpr c37
    clear c37
    replace H:=yit H;obtain ⟨c38,H⟩ | ⟨c38,H⟩:=H
    rotate_left
    ·have c38b0:((l0_1.length:Int) == 2)=false:=beq_eq_false_iff_ne.mpr c38
     have c38b1:((l0_1.length:Int) != 2)=true:=bne_iff_ne.mpr c38
     obtain rfl:=ysi H
     go_wp2
     repeat (go_quiet (fail);try go_wp2)
     go_ret
     exact ⟨yer,yhb⟩
    have c38b0:((l0_1.length:Int) == 2)=true:=beq_iff_eq.mpr c38
    have c38b1:((l0_1.length:Int) != 2)=false:=bne_eq_false_iff_eq.mpr c38
    clear c38
    replace H:=ybi H;obtain ⟨t403,A39,H⟩:=H
    try dsimp only at H
    obtain rfl:=ysi H
    obtain ⟨hcz40_0,hcz40_1,hcz40_2,hfz40_0,hfz40_1,hfz40_2⟩:=ybc BK396.out
    have hwq0_:IntKind.i64.wrap (a1 - 1)=wrap64 (a1 - 1):=i64_w _
    go_wp2_with (first|(go_at_call 70;(with_reducible refine (spec_l1In.calls a0_2 0 (wrap64 (a1 - 1)) t403 _ A39.out).mono ?_);rintro e w' ⟨rfl,⟨nd,rfl⟩⟩;(try first|exact ⟨rfl,_,World.drewN_drewN _ _ _⟩|exact ⟨rfl,_,Eq.trans (World.drewN_drewN _ _ _) (congrArg (World.drewN _) (Nat.add_assoc _ _ _))⟩)))
    repeat (go_quiet (first|(go_at_call 70;(with_reducible refine (spec_l1In.calls a0_2 0 (wrap64 (a1 - 1)) t403 _ A39.out).mono ?_);rintro e w' ⟨rfl,⟨nd,rfl⟩⟩;(try first|exact ⟨rfl,_,World.drewN_drewN _ _ _⟩|exact ⟨rfl,_,Eq.trans (World.drewN_drewN _ _ _) (congrArg (World.drewN _) (Nat.add_assoc _ _ _))⟩)));try go_wp2_with (first|(go_at_call 70;(with_reducible refine (spec_l1In.calls a0_2 0 (wrap64 (a1 - 1)) t403 _ A39.out).mono ?_);rintro e w' ⟨rfl,⟨nd,rfl⟩⟩;(try first|exact ⟨rfl,_,World.drewN_drewN _ _ _⟩|exact ⟨rfl,_,Eq.trans (World.drewN_drewN _ _ _) (congrArg (World.drewN _) (Nat.add_assoc _ _ _))⟩))))
    go_ret
    exact ⟨yer,yhb⟩
def slices_Index_int_int.l0:Nat→List Int→Int→Int→Int→Option (Int)
 | 0,_,_,_,_=>none
 | k + 1,x0,x1,x7,x8=>if x8 < x7 then (if 0≤x8 then (if x8 < (x0.length:Int) then (if x1=(rd x0 x8) then (some x8) else (slices_Index_int_int.l0 k x0 x1 x7 (wrap64 (x8 + 1)))) else (none)) else (none)) else (some (-1))
def slices_Index_int_int.f (k:Nat)(l0:List Int)(a1:Int):Option (Int):=slices_Index_int_int.l0 k l0 a1 (l0.length:Int) 0
theorem slices_Index_int_int.calls (k:Nat)(A0:Option Addr)(c0:Nat)(l0:List Int)(a1:Int)(r:Int)(w:World)(hr0:Kd.C (Kd.int .i64) w A0 l0.length l0)(hc0:l0.length≤c0)(h:slices_Index_int_int.f k l0 a1=some r) :
  Calls Try.prog 89 #[.slice A0 l0.length c0,.int .i64 a1] w fun e w'=>e= .returned (.int .i64 r)∧Drawn0 w w':=by
 have HR0:=yam hr0
 have HC0:=yam hc0
 clear hr0 hc0
 unfold slices_Index_int_int.f at h
 have H:=h
 clear h
 replace H:=yam H
 go_enter Try.func89,Try.ntmps89
 go_wp2
 go_loopg [8] k (fun kq v8 w'=>∃ (x8_1:Int),v8= .int .i64 x8_1∧Aside0 (slices_Index_int_int.l0 kq l0 a1 (l0.length:Int) x8_1=some r)∧Aside0 (kq≤k)∧Drawn0 w w')
 case atStart=>exact ⟨(0),yeq,H,⟨Nat.le_refl _⟩,by repeat (first|exact Drawn0.refl _|apply Drawn0.step)⟩
 case round =>
  clear H
  obtain ⟨x8_1,rfl,HA,HK1,⟨m1,rfl⟩⟩:=hrel
  rcases gk with _|k1
  ·exact absurd HA.out (by simp [slices_Index_int_int.l0])
  obtain ⟨H⟩:=HA
  simp only [slices_Index_int_int.l0] at H
  replace H:=yis H;obtain ⟨c3b0,H⟩ | ⟨c3b0,H⟩:=H
  rotate_left
  ·obtain rfl:=ysi H
   go_wp2
   go_ret
   exact ⟨yeq,by repeat (first|exact Drawn0.refl _|apply Drawn0.step)⟩
  replace H:=yif H;obtain ⟨c4b0,H⟩:=H
  replace H:=yif H;obtain ⟨c5b0,H⟩:=H
  replace H:=yit H;obtain ⟨c6,H⟩ | ⟨c6,H⟩:=H
  ·have c6b0:(a1 == (rd l0 x8_1))=true:=beq_iff_eq.mpr c6
   have c6b1:(a1 != (rd l0 x8_1))=false:=bne_eq_false_iff_eq.mpr c6
   clear c6
   obtain rfl:=ysi H
   obtain ⟨ad389,e389,hx389_0,p389,q389⟩:=yat HR0.out x8_1
   cases e389
   go_wp2
   go_ret
   exact ⟨yeq,by repeat (first|exact Drawn0.refl _|apply Drawn0.step)⟩
  have c6b0:(a1 == (rd l0 x8_1))=false:=beq_eq_false_iff_ne.mpr c6
  have c6b1:(a1 != (rd l0 x8_1))=true:=bne_iff_ne.mpr c6
  replace H:=yam H
  obtain ⟨ad389,e389,hx389_0,p389,q389⟩:=yat HR0.out x8_1
  cases e389
  go_wp2
  go_roundg k1
  case measure=>have:=HK1.out;omega
  case rel=>exact ⟨(wrap64 (x8_1 + 1)),yeq,H,⟨by have:=HK1.out;omega⟩,by repeat (first|exact Drawn0.refl _|apply Drawn0.step)⟩
def slices_Contains_int_int.f (k:Nat)(l0:List Int)(a1:Int):Option (Bool):=(slices_Index_int_int.f k l0 a1).bind fun t390=>(some (decide (t390 ≥ 0)))
theorem slices_Contains_int_int.calls (k:Nat)(A0:Option Addr)(c0:Nat)(l0:List Int)(a1:Int)(r:Bool)(w:World)(hr0:Kd.C (Kd.int .i64) w A0 l0.length l0)(hc0:l0.length≤c0)(h:slices_Contains_int_int.f k l0 a1=some r) :
  Calls Try.prog 69 #[.slice A0 l0.length c0,.int .i64 a1] w fun e w'=>e= .returned (.bool r)∧Drawn0 w w':=by
 have HR0:=yam hr0
 have HC0:=yam hc0
 clear hr0 hc0
 unfold slices_Contains_int_int.f at h
 have H:=h
 clear h
 replace H:=ybi H;obtain ⟨t390,A3,H⟩:=H
 try dsimp only at H
 obtain rfl:=ysi H
 go_enter Try.func69,Try.ntmps69
 go_wp2_with (first|(refine goesL_ (some 7) rfl rfl Try.func89 (by kernel_rfl) rfl #[.slice A0 l0.length c0,.int .i64 a1] rfl ymd ?_;(with_reducible refine (slices_Index_int_int.calls k _ _ l0 a1 t390 _ ?_ ?_ A3.out).mono ?_);exact Kd.Cz (HR0.out);exact HC0.out;rintro e w' ⟨rfl,⟨nd,rfl⟩⟩;refine ⟨_,rfl,?_⟩))
 go_ret
 exact ⟨yeq,by repeat (first|exact Drawn0.refl _|apply Drawn0.step)⟩
mutual
def impl_RuleValid.l0:Nat→Int→List Int→Int→Int→Int→List Int→Int→Option (Bool)
 | 0,_,_,_,_,_,_,_=>none
 | k + 1,x1,x12,x13,x14,x392000,x392001,x392002=>if x14 < x13 then (if 0≤x14 then (if x14 < (x12.length:Int) then (if (rd x12 x14) < 0 then (some false) else (if (rd x12 x14) ≥ (wrap64 (x1 * x1)) then (some false) else (if x14≤(x392001.length:Int) then ((slices_Contains_int_int.f k (x392001.take (x14:Int).toNat) (rd x12 x14)).bind fun t395=>(if t395=true then (some false) else (impl_RuleValid.l0 k x1 x12 x13 (wrap64 (x14 + 1)) x392000 x392001 x392002))) else (none)))) else (none)) else (none)) else (if x392000=1 then (if (x392001.length:Int) ≥ 2 then (if (x392001.length:Int)≤4 then (some (x392002 == 0)) else (some false)) else (some false)) else (if x392000=2 then (impl_RuleValid.j1 k x1 (x392001.length:Int) x392000 (x392000 == 2) x392000 x392001 x392002) else (impl_RuleValid.j1 k x1 (x392001.length:Int) x392000 (x392000 == 3) x392000 x392001 x392002)))
def impl_RuleValid.j1:Nat→Int→Int→Int→Bool→Int→List Int→Int→Option (Bool)
 | 0,_,_,_,_,_,_,_=>none
 | k + 1,x1,x7,x41,x55,x392000,x392001,x392002=>if x55=true then (if x7 ≥ 1 then (if x7≤4 then (if x392002 ≥ 1 then (some (decide (x392002≤(wrap64 ((wrap64 ((wrap64 (x1 * x1)) * x1)) * x1))))) else (some false)) else (some false)) else (some false)) else (if x41=4 then (if x7=2 then (some (x392002 == 0)) else (some false)) else (if x41=5 then (if x7=2 then (if x392002 ≥ 0 then (some (decide (x392002 < x1))) else (some false)) else (some false)) else (some false)))
end
def impl_RuleValid.f (k:Nat)(a0_0:Int)(l0_1:List Int)(a0_2:Int)(a1:Int):Option (Bool):=(impl_sizeOk.f a1).bind fun t392=>(if t392=true then (impl_RuleValid.l0 k a1 l0_1 (l0_1.length:Int) 0 a0_0 l0_1 a0_2) else (some false))
theorem impl_RuleValid.calls (k:Nat)(a0_0:Int)(A0_1:Option Addr)(c0_1:Nat)(l0_1:List Int)(a0_2:Int)(a1:Int)(r:Bool)(w:World)(hr0_1:Kd.C (Kd.int .i64) w A0_1 l0_1.length l0_1)(hc0_1:l0_1.length≤c0_1)(h:impl_RuleValid.f k a0_0 l0_1 a0_2 a1=some r) :
  Calls Try.prog 23 #[.agg #[.int .i64 a0_0,.slice A0_1 l0_1.length c0_1,.int .i64 a0_2],.int .i64 a1] w fun e w'=>e= .returned (.bool r)∧Below w.heap.size w w':=by
 have hu32:=Try.underlying32
 have HR0_1:=yam hr0_1
 have HC0_1:=yam hc0_1
 clear hr0_1 hc0_1
 have HB:=yam (Below.refl w.heap.size w)
 unfold impl_RuleValid.f at h
 have H:=h
 clear h
 replace H:=ybi H;obtain ⟨t392,A3,H⟩:=H
 try dsimp only at H
 cases t392
 ·replace H:=yff H
  obtain rfl:=ysi H
  go_enter Try.func23,Try.ntmps23
  go_wp2_with (first|(refine ybe 2 #[.int .i64 a0_0,.slice A0_1 l0_1.length c0_1,.int .i64 a0_2] 32 ?_;intro gb391 hg w43 hbox hb;have BK391:=yam (hbox);have GW391:=yam ((by rw [hg];exact (below_size (yez HB.out)):w.heap.size≤gb391));replace HB:=yam (below_step (yez HB.out) hb);have GE391:=GW391;clear hb hbox hg)|(refine goesL_ (some 9) rfl rfl Try.func64 (by kernel_rfl) rfl #[.int .i64 a1] rfl ymd ?_;(with_reducible refine (impl_sizeOk.calls a1 false _ A3.out).mono ?_);rintro e w' ⟨rfl,⟨nd,rfl⟩⟩;refine ⟨_,rfl,?_⟩))
  go_ret
  exact ⟨yer,yhb⟩
 replace H:=ytt H
 replace H:=yam H
 go_enter Try.func23,Try.ntmps23
 go_wp2_with (first|(refine ybe 2 #[.int .i64 a0_0,.slice A0_1 l0_1.length c0_1,.int .i64 a0_2] 32 ?_;intro gb391 hg w5 hbox hb;have BK391:=yam (hbox);have GW391:=yam ((by rw [hg];exact (below_size (yez HB.out)):w.heap.size≤gb391));replace HB:=yam (below_step (yez HB.out) hb);have GE391:=GW391;clear hb hbox hg)|(refine goesL_ (some 9) rfl rfl Try.func64 (by kernel_rfl) rfl #[.int .i64 a1] rfl ymd ?_;(with_reducible refine (impl_sizeOk.calls a1 true _ A3.out).mono ?_);rintro e w' ⟨rfl,⟨nd,rfl⟩⟩;refine ⟨_,rfl,?_⟩;obtain ⟨hcz6_0,hcz6_1,hcz6_2,hfz6_0,hfz6_1,hfz6_2⟩:=ybc BK391.out))
 go_loopg [14] k (fun kq v14 w'=>∃ (x14_1:Int),v14= .int .i64 x14_1∧Aside0 (impl_RuleValid.l0 kq a1 l0_1 (l0_1.length:Int) x14_1 a0_0 l0_1 a0_2=some r)∧Aside0 (kq≤k)∧Aside0 (w'.heap[gb391]?=some (.cells #[.int .i64 a0_0,(.slice A0_1 l0_1.length c0_1),.int .i64 a0_2] 32 (0,0)))∧Aside0 (Below w.heap.size w w'))
 case atStart=>exact ⟨(0),yeq,H,⟨Nat.le_refl _⟩,⟨ybk BK391.out⟩,⟨yhb⟩⟩
 case round =>
  clear H
  try clear hcz6_0
  try clear hcz6_1
  try clear hcz6_2
  try clear hfz6_0
  try clear hfz6_1
  try clear hfz6_2
  obtain ⟨x14_1,rfl,HA,HK1,BK391,HB⟩:=hrel
  rcases gk with _|k1
  ·exact absurd HA.out (by simp [impl_RuleValid.l0])
  obtain ⟨H⟩:=HA
  simp only [impl_RuleValid.l0] at H
  replace H:=yis H;obtain ⟨c7b0,H⟩ | ⟨c7b0,H⟩:=H
  ·replace H:=yif H;obtain ⟨c8b0,H⟩:=H
   replace H:=yif H;obtain ⟨c9b0,H⟩:=H
   replace H:=yis H;obtain ⟨c10b0,H⟩ | ⟨c10b0,H⟩:=H
   ·obtain rfl:=ysi H
    obtain ⟨ad393,e393,hx393_0,p393,q393⟩:=yat HR0_1.out x14_1
    cases e393
    replace hx393_0:=ybx HB.out hx393_0
    go_wp2
    go_ret
    exact ⟨yer,yhb⟩
   replace H:=yis H;obtain ⟨c11b0,H⟩ | ⟨c11b0,H⟩:=H
   ·obtain rfl:=ysi H
    obtain ⟨ad393,e393,hx393_0,p393,q393⟩:=yat HR0_1.out x14_1
    cases e393
    replace hx393_0:=ybx HB.out hx393_0
    go_wp2
    go_ret
    exact ⟨yer,yhb⟩
   have c12b0:=eq_true (ydt:0≤x14_1)
   replace H:=yig H;obtain ⟨c13,H⟩:=H
   have c13b0:=eq_true c13
   have c13b1:decide (x14_1≤(l0_1.length:Int))=true:=decide_eq_true c13
   clear c13
   replace H:=ybi H;obtain ⟨t395,A14,H⟩:=H
   try dsimp only at H
   cases t395
   rotate_left
   ·replace H:=ytt H
    obtain rfl:=ysi H
    obtain ⟨ad393,e393,hx393_0,p393,q393⟩:=yat HR0_1.out x14_1
    cases e393
    replace hx393_0:=ybx HB.out hx393_0
    obtain ⟨hcz16_0,hcz16_1,hcz16_2,hfz16_0,hfz16_1,hfz16_2⟩:=ybc BK391.out
    obtain ⟨i017,hi017,_,hsz17,_⟩:=info_parts info3
    obtain ⟨hcut17,hA17,hC17⟩:=print_take_of (P:=Try.prog) (Value.int .i64) 0 23 3 .i64 Try.underlying23 hi017 hsz17 (some ad393) c0_1 l0_1 x14_1 (ydt) (ydt) HC0_1.out
    have hl17_:(l0_1.take (x14_1:Int).toNat).length=(x14_1:Int).toNat:=by
     have e0_:0≤(x14_1:Int):=ydt
     have e1_:(x14_1:Int)≤(l0_1.length:Int):=ydt
     rw [List.length_take];omega
    have HR394:=yam (Kd.C_of_reads (h1:=fun _=>rfl) (hA17 _ (Kd.reads_of_C HR0_1.out)))
    have HC394:=yam hC17
    clear hA17 hC17 hi017 hsz17
    go_wp2_with (first|(go_at_call 69;(first|(with_reducible refine (slices_Contains_int_int.calls k1 _ _ (l0_1.take (x14_1:Int).toNat) (rd l0_1 x14_1) true _ ?side1 ?side2 A14.out).mono ?_)|(rw [← hl17_];(with_reducible refine (slices_Contains_int_int.calls k1 _ _ (l0_1.take (x14_1:Int).toNat) (rd l0_1 x14_1) true _ ?_ ?_ A14.out).mono ?_)));exact Kd.Cz ((Kd.C_below HR394.out HB.out));exact HC394.out;rintro e w' ⟨rfl,⟨nd,rfl⟩⟩))
    go_ret
    exact ⟨yer,yhb⟩
   replace H:=yff H
   replace H:=yam H
   obtain ⟨ad393,e393,hx393_0,p393,q393⟩:=yat HR0_1.out x14_1
   cases e393
   replace hx393_0:=ybx HB.out hx393_0
   obtain ⟨hcz18_0,hcz18_1,hcz18_2,hfz18_0,hfz18_1,hfz18_2⟩:=ybc BK391.out
   obtain ⟨i019,hi019,_,hsz19,_⟩:=info_parts info3
   obtain ⟨hcut19,hA19,hC19⟩:=print_take_of (P:=Try.prog) (Value.int .i64) 0 23 3 .i64 Try.underlying23 hi019 hsz19 (some ad393) c0_1 l0_1 x14_1 (ydt) (ydt) HC0_1.out
   have hl19_:(l0_1.take (x14_1:Int).toNat).length=(x14_1:Int).toNat:=by
    have e0_:0≤(x14_1:Int):=ydt
    have e1_:(x14_1:Int)≤(l0_1.length:Int):=ydt
    rw [List.length_take];omega
   have HR394:=yam (Kd.C_of_reads (h1:=fun _=>rfl) (hA19 _ (Kd.reads_of_C HR0_1.out)))
   have HC394:=yam hC19
   clear hA19 hC19 hi019 hsz19
   go_wp2_with (first|(go_at_call 69;(first|(with_reducible refine (slices_Contains_int_int.calls k1 _ _ (l0_1.take (x14_1:Int).toNat) (rd l0_1 x14_1) false _ ?side1 ?side2 A14.out).mono ?_)|(rw [← hl19_];(with_reducible refine (slices_Contains_int_int.calls k1 _ _ (l0_1.take (x14_1:Int).toNat) (rd l0_1 x14_1) false _ ?_ ?_ A14.out).mono ?_)));exact Kd.Cz ((Kd.C_below HR394.out HB.out));exact HC394.out;rintro e w' ⟨rfl,⟨nd,rfl⟩⟩))
   go_roundg k1
   case measure=>have:=HK1.out;omega
   case rel=>exact ⟨(wrap64 (x14_1 + 1)),yeq,H,⟨by have:=HK1.out;omega⟩,⟨ybk BK391.out⟩,⟨yhb⟩⟩
  replace H:=yit H;obtain ⟨c20,H⟩ | ⟨c20,H⟩:=H
  ·have c20b0:(a0_0 == 1)=true:=beq_iff_eq.mpr c20
   have c20b1:(a0_0 != 1)=false:=bne_eq_false_iff_eq.mpr c20
   clear c20
   replace H:=yit H;obtain ⟨c21,H⟩ | ⟨c21,H⟩:=H
   rotate_left
   ·have c21b0:decide (2≤(l0_1.length:Int))=false:=decide_eq_false c21
    have c21b1:decide (2≤l0_1.length)=false:=decide_eq_false (by omega)
    clear c21
    obtain rfl:=ysi H
    obtain ⟨hcz25_0,hcz25_1,hcz25_2,hfz25_0,hfz25_1,hfz25_2⟩:=ybc BK391.out
    go_wp2
    go_ret
    exact ⟨yer,yhb⟩
   have c21b0:decide (2≤(l0_1.length:Int))=true:=decide_eq_true c21
   have c21b1:decide (2≤l0_1.length)=true:=decide_eq_true (by omega)
   clear c21
   replace H:=yit H;obtain ⟨c22,H⟩ | ⟨c22,H⟩:=H
   ·have c22b0:decide ((l0_1.length:Int)≤4)=true:=decide_eq_true c22
    have c22b1:decide (l0_1.length≤4)=true:=decide_eq_true (by omega)
    clear c22
    obtain rfl:=ysi H
    obtain ⟨hcz23_0,hcz23_1,hcz23_2,hfz23_0,hfz23_1,hfz23_2⟩:=ybc BK391.out
    go_wp2
    go_ret
    exact ⟨yer,yhb⟩
   have c22b0:decide ((l0_1.length:Int)≤4)=false:=decide_eq_false c22
   have c22b1:decide (l0_1.length≤4)=false:=decide_eq_false (by omega)
   clear c22
   obtain rfl:=ysi H
   obtain ⟨hcz24_0,hcz24_1,hcz24_2,hfz24_0,hfz24_1,hfz24_2⟩:=ybc BK391.out
   go_wp2
   go_ret
   exact ⟨yer,yhb⟩
  have c20b0:(a0_0 == 1)=false:=beq_eq_false_iff_ne.mpr c20
  have c20b1:(a0_0 != 1)=true:=bne_iff_ne.mpr c20
  have HC26:=yam H
  clear H
  obtain ⟨hcz27_0,hcz27_1,hcz27_2,hfz27_0,hfz27_1,hfz27_2⟩:=ybc BK391.out
  go_upto_if 55 with (fail)
  go_cut [55] (fun v55 wc=>∃ (kq:Nat) (x55_25:Bool),v55= .bool x55_25∧Aside0 (impl_RuleValid.j1 kq a1 (l0_1.length:Int) a0_0 x55_25 a0_0 l0_1 a0_2=some r)∧Aside0 (kq≤k1)∧Aside0 (wc.heap[gb391]?=some (.cells #[.int .i64 a0_0,(.slice A0_1 l0_1.length c0_1),.int .i64 a0_2] 32 (0,0)))∧Aside0 (Below w.heap.size w wc))
  case first =>
   have H:=HC26.out
   clear HC26
   replace H:=yit H;obtain ⟨c28,H⟩ | ⟨c28,H⟩:=H
   rotate_left
   ·have c28b0:(a0_0 == 2)=false:=beq_eq_false_iff_ne.mpr c28
    have c28b1:(a0_0 != 2)=true:=bne_iff_ne.mpr c28
    (first|rw [c28b0]|(simp only [i64_w,i32_w];rw [c28b0])|skip)
    replace H:=yam H
    go_wp2
    go_meet
    case rel=>exact ⟨_,((a0_0 == 3)),yeq,H,⟨by have:=HK1.out;first|omega|exact Nat.le_refl _⟩,⟨ybk BK391.out⟩,⟨yhb⟩⟩
   have c28b0:(a0_0 == 2)=true:=beq_iff_eq.mpr c28
   have c28b1:(a0_0 != 2)=false:=bne_eq_false_iff_eq.mpr c28
   clear c28
   (first|rw [c28b0]|(simp only [i64_w,i32_w];rw [c28b0])|skip)
   replace H:=yam H
   go_wp2
   go_meet
   case rel=>exact ⟨_,((a0_0 == 2)),yeq,H,⟨by have:=HK1.out;first|omega|exact Nat.le_refl _⟩,⟨ybk BK391.out⟩,⟨yhb⟩⟩
  case rest =>
   clear HC26
   try clear c7b0
   try clear c20
   try clear c20b0
   try clear c20b1
   try clear hcz27_0
   try clear hcz27_1
   try clear hcz27_2
   try clear hfz27_0
   try clear hfz27_1
   try clear hfz27_2
   obtain ⟨kq,x55_25,rfl,HA,HJ25,BK391,HB⟩:=hcut
   rcases kq with _|kj25
   ·exact absurd HA.out (by simp [impl_RuleValid.j1])
   obtain ⟨H⟩:=HA
   simp only [impl_RuleValid.j1] at H
   cases x55_25
   rotate_left
   ·replace H:=ytt H
    replace H:=yit H;obtain ⟨c30,H⟩ | ⟨c30,H⟩:=H
    rotate_left
    ·have c30b0:decide (1≤(l0_1.length:Int))=false:=decide_eq_false c30
     have c30b1:decide (1≤l0_1.length)=false:=decide_eq_false (by omega)
     clear c30
     obtain rfl:=ysi H
     go_wp2
     go_ret
     exact ⟨yer,yhb⟩
    have c30b0:decide (1≤(l0_1.length:Int))=true:=decide_eq_true c30
    have c30b1:decide (1≤l0_1.length)=true:=decide_eq_true (by omega)
    clear c30
    replace H:=yit H;obtain ⟨c31,H⟩ | ⟨c31,H⟩:=H
    rotate_left
    ·have c31b0:decide ((l0_1.length:Int)≤4)=false:=decide_eq_false c31
     have c31b1:decide (l0_1.length≤4)=false:=decide_eq_false (by omega)
     clear c31
     obtain rfl:=ysi H
     go_wp2
     go_ret
     exact ⟨yer,yhb⟩
    have c31b0:decide ((l0_1.length:Int)≤4)=true:=decide_eq_true c31
    have c31b1:decide (l0_1.length≤4)=true:=decide_eq_true (by omega)
    clear c31
    replace H:=yis H;obtain ⟨c32b0,H⟩ | ⟨c32b0,H⟩:=H
    ·obtain rfl:=ysi H
     obtain ⟨hcz33_0,hcz33_1,hcz33_2,hfz33_0,hfz33_1,hfz33_2⟩:=ybc BK391.out
     go_wp2
     go_ret
     exact ⟨yer,yhb⟩
    obtain rfl:=ysi H
    obtain ⟨hcz34_0,hcz34_1,hcz34_2,hfz34_0,hfz34_1,hfz34_2⟩:=ybc BK391.out
    go_wp2
    go_ret
    exact ⟨yer,yhb⟩
   replace H:=yff H
   replace H:=yit H;obtain ⟨c35,H⟩ | ⟨c35,H⟩:=H
   ·have c35b0:(a0_0 == 4)=true:=beq_iff_eq.mpr c35
    have c35b1:(a0_0 != 4)=false:=bne_eq_false_iff_eq.mpr c35
    clear c35
    replace H:=yit H;obtain ⟨c36,H⟩ | ⟨c36,H⟩:=H
    rotate_left
    ·have c36b0:((l0_1.length:Int) == 2)=false:=beq_eq_false_iff_ne.mpr c36
     have c36b1:((l0_1.length:Int) != 2)=true:=bne_iff_ne.mpr c36
     obtain rfl:=ysi H
     go_wp2
     go_ret
     exact ⟨yer,yhb⟩
    have c36b0:((l0_1.length:Int) == 2)=true:=beq_iff_eq.mpr c36
    have c36b1:((l0_1.length:Int) != 2)=false:=bne_eq_false_iff_eq.mpr c36
    clear c36
    obtain rfl:=ysi H
    obtain ⟨hcz37_0,hcz37_1,hcz37_2,hfz37_0,hfz37_1,hfz37_2⟩:=ybc BK391.out
    go_wp2
    go_ret
    exact ⟨yer,yhb⟩
   have c35b0:(a0_0 == 4)=false:=beq_eq_false_iff_ne.mpr c35
   have c35b1:(a0_0 != 4)=true:=bne_iff_ne.mpr c35
   replace H:=yit H;obtain ⟨c38,H⟩ | ⟨c38,H⟩:=H
   rotate_left
   ·have c38b0:(a0_0 == 5)=false:=beq_eq_false_iff_ne.mpr c38
    have c38b1:(a0_0 != 5)=true:=bne_iff_ne.mpr c38
    obtain rfl:=ysi H
    go_wp2
    go_ret
    exact ⟨yer,yhb⟩
   have c38b0:(a0_0 == 5)=true:=beq_iff_eq.mpr c38
   have c38b1:(a0_0 != 5)=false:=bne_eq_false_iff_eq.mpr c38
   clear c38
   replace H:=yit H;obtain ⟨c39,H⟩ | ⟨c39,H⟩:=H
   rotate_left
   ·have c39b0:((l0_1.length:Int) == 2)=false:=beq_eq_false_iff_ne.mpr c39
    have c39b1:((l0_1.length:Int) != 2)=true:=bne_iff_ne.mpr c39
    obtain rfl:=ysi H
    go_wp2
    go_ret
    exact ⟨yer,yhb⟩
   have c39b0:((l0_1.length:Int) == 2)=true:=beq_iff_eq.mpr c39
   have c39b1:((l0_1.length:Int) != 2)=false:=bne_eq_false_iff_eq.mpr c39
   clear c39
   replace H:=yis H;obtain ⟨c40b0,H⟩ | ⟨c40b0,H⟩:=H
   ·obtain rfl:=ysi H
    obtain ⟨hcz41_0,hcz41_1,hcz41_2,hfz41_0,hfz41_1,hfz41_2⟩:=ybc BK391.out
    go_wp2
    go_ret
    exact ⟨yer,yhb⟩
   obtain rfl:=ysi H
   obtain ⟨hcz42_0,hcz42_1,hcz42_2,hfz42_0,hfz42_1,hfz42_2⟩:=ybc BK391.out
   go_wp2
   go_ret
   exact ⟨yer,yhb⟩
def impl_allValues.f (a0:Int):Option (Int):=if 0≤(wrap64 (a0 + 1)) then (some (wrap64 ((shl .i64 1 (wrap64 (a0 + 1))) - 2))) else (none)
theorem impl_allValues.calls (a0:Int)(r:Int)(w:World)(h:impl_allValues.f a0=some r) :
  Calls Try.prog 61 #[.int .i64 a0] w fun e w'=>e= .returned (.int .i64 r)∧Drawn0 w w':=by
 unfold impl_allValues.f at h
 have H:=h
 clear h
 obtain ⟨ji2,hji2⟩:∃ j_:Int,(wrap64 (a0 + 1))=j_:=⟨_,rfl⟩
 replace H:(if 0≤(ji2) then (some (wrap64 ((shl .i64 1 (ji2)) - 2))) else (none))=some r:=by first|(rw [hji2] at H;exact H)|(simp only [hji2] at H ⊢;exact H)
 have hji2w:(IntKind.i64.wrap (a0 + 1))=ji2:=(i64_w _).trans hji2
 replace H:=yit H;obtain ⟨c3,H⟩ | ⟨c3,H⟩:=H
 rotate_left
 ·exact absurd H (by simp)
 have c3b0:=eq_true c3
 have c3b1:decide (0≤(ji2))=true:=decide_eq_true c3
 clear c3
 obtain ⟨ji4,hji4⟩:∃ j_:Int,(shl .i64 1 (ji2))=j_:=⟨_,rfl⟩
 replace H:(some (wrap64 ((ji4) - 2)))=some r:=by first|(rw [hji4] at H;exact H)|(simp only [hji4] at H ⊢;exact H)
 have hji4_:(IntKind.i64.wrap (1 * 2 ^ min (ji2).toNat 64))=ji4:=hji4
 have hji4z:(ji2)≤64→(IntKind.i64.wrap (1 * 2 ^ (ji2).toNat))=ji4:=shl_small hji4
 have hji4u:(IntKind.i64.wrap (2 ^ min (ji2).toNat 64))=ji4:=by have h_:=hji4_;rw [Int.one_mul] at h_;exact h_
 have hji4v:(ji2)≤64→(IntKind.i64.wrap (2 ^ (ji2).toNat))=ji4:=fun hle_=>by have h_:=hji4z hle_;rw [Int.one_mul] at h_;exact h_
 have hji4y:(wrap64 (1 * 2 ^ min (ji2).toNat 64))=ji4:=(i64_w _).symm.trans hji4_
 have hji4x:(ji2)≤64→(wrap64 (1 * 2 ^ (ji2).toNat))=ji4:=fun h_=>(i64_w _).symm.trans (hji4z h_)
 obtain rfl:=ysi H
 go_enter Try.func61,Try.ntmps61
 go_wp2
 go_ret
 exact ⟨by first|rfl|(simp;done)|(simp only [← hji2,← hji4] <;> (first|rfl|simp))|(simp [*];done),by repeat (first|exact Drawn0.refl _|apply Drawn0.step)⟩
def impl_valuesHold.l0:Nat→List Int→Int→Int→List Int→Int→Int→Int→List Int→Int→Option (Bool)
 | 0,_,_,_,_,_,_,_,_,_=>none
 | k + 1,x1,x5,x6,x9,x10,x11,x575000,x575001,x575002=>if x11 < x10 then (if 0≤x11 then (if x11 < (x9.length:Int) then (if x575000=1 then (if x11≤(x1.length:Int) then ((slices_Contains_int_int.f k (x1.take (x11:Int).toNat) (rd x9 x11)).bind fun t577=>(if t577=true then (some false) else (impl_valuesHold.l0 k x1 (wrap64 (x5 + (rd x9 x11))) (wrap64 (x6 * (rd x9 x11))) x9 x10 (wrap64 (x11 + 1)) x575000 x575001 x575002))) else (none)) else (impl_valuesHold.l0 k x1 (wrap64 (x5 + (rd x9 x11))) (wrap64 (x6 * (rd x9 x11))) x9 x10 (wrap64 (x11 + 1)) x575000 x575001 x575002)) else (none)) else (none)) else (if x575000=2 then (some (x5 == x575002)) else (if x575000=3 then (some (x6 == x575002)) else (if x575000=4 then (if 0 < (x1.length:Int) then (if 1 < (x1.length:Int) then (some (decide ((rd x1 0) < (rd x1 1)))) else (none)) else (none)) else (if x575000=5 then (if 0 < (x1.length:Int) then (if 1 < (x1.length:Int) then (some ((mx (wrap64 ((rd x1 0) - (rd x1 1))) (wrap64 ((rd x1 1) - (rd x1 0)))) == x575002)) else (none)) else (none)) else (some true)))))
def impl_valuesHold.f (k:Nat)(a0_0:Int)(l0_1:List Int)(a0_2:Int)(l1:List Int):Option (Bool):=impl_valuesHold.l0 k l1 0 1 l1 (l1.length:Int) 0 a0_0 l0_1 a0_2
theorem impl_valuesHold.calls (k:Nat)(a0_0:Int)(A0_1:Option Addr)(c0_1:Nat)(l0_1:List Int)(a0_2:Int)(A1:Option Addr)(c1:Nat)(l1:List Int)(r:Bool)(w:World)(hr0_1:Kd.C (Kd.int .i64) w A0_1 l0_1.length l0_1)(hc0_1:l0_1.length≤c0_1)(hr1:Kd.C (Kd.int .i64) w A1 l1.length l1)(hc1:l1.length≤c1)(h:impl_valuesHold.f k a0_0 l0_1 a0_2 l1=some r) :
  Calls Try.prog 82 #[.agg #[.int .i64 a0_0,.slice A0_1 l0_1.length c0_1,.int .i64 a0_2],.slice A1 l1.length c1] w fun e w'=>e= .returned (.bool r)∧Below w.heap.size w w':=by
 have hu32:=Try.underlying32
 have HR0_1:=yam hr0_1
 have HC0_1:=yam hc0_1
 clear hr0_1 hc0_1
 have HR1:=yam hr1
 have HC1:=yam hc1
 clear hr1 hc1
 have HB:=yam (Below.refl w.heap.size w)
 unfold impl_valuesHold.f at h
 have H:=h
 clear h
 replace H:=yam H
 go_enter Try.func82,Try.ntmps82
 go_wp2_with (first|(refine ybe 2 #[.int .i64 a0_0,.slice A0_1 l0_1.length c0_1,.int .i64 a0_2] 32 ?_;intro gb574 hg w3 hbox hb;have BK574:=yam (hbox);have GW574:=yam ((by rw [hg];exact (below_size (yez HB.out)):w.heap.size≤gb574));replace HB:=yam (below_step (yez HB.out) hb);have GE574:=GW574;clear hb hbox hg))
 repeat (go_quiet (first|(refine ybe 2 #[.int .i64 a0_0,.slice A0_1 l0_1.length c0_1,.int .i64 a0_2] 32 ?_;intro gb574 hg w3 hbox hb;have BK574:=yam (hbox);have GW574:=yam ((by rw [hg];exact (below_size (yez HB.out)):w.heap.size≤gb574));replace HB:=yam (below_step (yez HB.out) hb);have GE574:=GW574;clear hb hbox hg));try go_wp2_with (first|(refine ybe 2 #[.int .i64 a0_0,.slice A0_1 l0_1.length c0_1,.int .i64 a0_2] 32 ?_;intro gb574 hg w3 hbox hb;have BK574:=yam (hbox);have GW574:=yam ((by rw [hg];exact (below_size (yez HB.out)):w.heap.size≤gb574));replace HB:=yam (below_step (yez HB.out) hb);have GE574:=GW574;clear hb hbox hg)))
 go_loopg [5,6,11] k (fun kq v5 v6 v11 w'=>∃ (x5_1:Int) (x6_1:Int) (x11_1:Int),v5= .int .i64 x5_1∧v6= .int .i64 x6_1∧v11= .int .i64 x11_1∧Aside0 (impl_valuesHold.l0 kq l1 x5_1 x6_1 l1 (l1.length:Int) x11_1 a0_0 l0_1 a0_2=some r)∧Aside0 (kq≤k)∧Aside0 (w'.heap[gb574]?=some (.cells #[.int .i64 a0_0,(.slice A0_1 l0_1.length c0_1),.int .i64 a0_2] 32 (0,0)))∧Aside0 (Below w.heap.size w w'))
 case atStart=>exact ⟨(0),(1),(0),yeq,yeq,yeq,H,⟨Nat.le_refl _⟩,⟨ybk BK574.out⟩,⟨yhb⟩⟩
 case round =>
  clear H
  try clear c1
  obtain ⟨x5_1,x6_1,x11_1,rfl,rfl,rfl,HA,HK1,BK574,HB⟩:=hrel
  rcases gk with _|k1
  ·exact absurd HA.out (by simp [impl_valuesHold.l0])
  obtain ⟨H⟩:=HA
  simp only [impl_valuesHold.l0] at H
  replace H:=yis H;obtain ⟨c4b0,H⟩ | ⟨c4b0,H⟩:=H
  rotate_left
  ·replace H:=yit H;obtain ⟨c17,H⟩ | ⟨c17,H⟩:=H
   ·have c17b0:(a0_0 == 2)=true:=beq_iff_eq.mpr c17
    have c17b1:(a0_0 != 2)=false:=bne_eq_false_iff_eq.mpr c17
    clear c17
    obtain rfl:=ysi H
    obtain ⟨hcz18_0,hcz18_1,hcz18_2,hfz18_0,hfz18_1,hfz18_2⟩:=ybc BK574.out
    go_wp2
    repeat (go_quiet (fail);try go_wp2)
    go_ret
    exact ⟨yer,yhb⟩
   have c17b0:(a0_0 == 2)=false:=beq_eq_false_iff_ne.mpr c17
   have c17b1:(a0_0 != 2)=true:=bne_iff_ne.mpr c17
   replace H:=yit H;obtain ⟨c19,H⟩ | ⟨c19,H⟩:=H
   ·have c19b0:(a0_0 == 3)=true:=beq_iff_eq.mpr c19
    have c19b1:(a0_0 != 3)=false:=bne_eq_false_iff_eq.mpr c19
    clear c19
    obtain rfl:=ysi H
    obtain ⟨hcz20_0,hcz20_1,hcz20_2,hfz20_0,hfz20_1,hfz20_2⟩:=ybc BK574.out
    go_wp2
    repeat (go_quiet (fail);try go_wp2)
    go_ret
    exact ⟨yer,yhb⟩
   have c19b0:(a0_0 == 3)=false:=beq_eq_false_iff_ne.mpr c19
   have c19b1:(a0_0 != 3)=true:=bne_iff_ne.mpr c19
   replace H:=yit H;obtain ⟨c21,H⟩ | ⟨c21,H⟩:=H
   ·have c21b0:(a0_0 == 4)=true:=beq_iff_eq.mpr c21
    have c21b1:(a0_0 != 4)=false:=bne_eq_false_iff_eq.mpr c21
    clear c21
    replace H:=yig H;obtain ⟨c22,H⟩:=H
    have c22b0:decide (0 < (l1.length:Int))=true:=decide_eq_true c22
    have c22b1:decide (0 < l1.length)=true:=decide_eq_true (by omega)
    clear c22
    replace H:=yig H;obtain ⟨c23,H⟩:=H
    have c23b0:decide (1 < (l1.length:Int))=true:=decide_eq_true c23
    have c23b1:decide (1 < l1.length)=true:=decide_eq_true (by omega)
    clear c23
    obtain rfl:=ysi H
    obtain ⟨hcz24_0,hcz24_1,hcz24_2,hfz24_0,hfz24_1,hfz24_2⟩:=ybc BK574.out
    have p578:0≤(0:Int):=(by omega)
    have q578:0 < (l1.length:Int):=ydt
    obtain ⟨ad578,e578,hx578_0⟩:=Kd.at_int HR1.out 0 p578 q578
    cases e578
    have qi578:(0 < l1.length)=True:=eq_true (by omega)
    (try rw [show ((0:Int)).toNat=0 from rfl] at hx578_0)
    (try rw [Addr.add_zero'] at hx578_0)
    replace hx578_0:=ybx HB.out hx578_0
    replace p578:=eq_true p578
    replace q578:=eq_true q578
    have p579:0≤(1:Int):=(by omega)
    have q579:1 < (l1.length:Int):=ydt
    obtain ⟨ad579,e579,hx579_0⟩:=Kd.at_int HR1.out 1 p579 q579
    obtain rfl:ad578=ad579:=(by injection e579)
    (try simp only [show (1:Int).toNat=1 from rfl,Nat.reduceMul,Nat.reduceEqDiff,Go.Addr.add,↓reduceIte] at hx579_0)
    have qi579:(1 < l1.length)=True:=eq_true (by omega)
    (try rw [show ((1:Int)).toNat=1 from rfl] at hx579_0)
    replace hx579_0:=ybx HB.out hx579_0
    replace p579:=eq_true p579
    replace q579:=eq_true q579
    go_wp2
    repeat (go_quiet (fail);try go_wp2)
    go_ret
    exact ⟨yer,yhb⟩
   have c21b0:(a0_0 == 4)=false:=beq_eq_false_iff_ne.mpr c21
   have c21b1:(a0_0 != 4)=true:=bne_iff_ne.mpr c21
   replace H:=yit H;obtain ⟨c25,H⟩ | ⟨c25,H⟩:=H
   rotate_left
   ·have c25b0:(a0_0 == 5)=false:=beq_eq_false_iff_ne.mpr c25
    have c25b1:(a0_0 != 5)=true:=bne_iff_ne.mpr c25
    obtain rfl:=ysi H
    obtain ⟨hcz30_0,hcz30_1,hcz30_2,hfz30_0,hfz30_1,hfz30_2⟩:=ybc BK574.out
    go_wp2
    repeat (go_quiet (fail);try go_wp2)
    go_ret
    exact ⟨yer,yhb⟩
   have c25b0:(a0_0 == 5)=true:=beq_iff_eq.mpr c25
   have c25b1:(a0_0 != 5)=false:=bne_eq_false_iff_eq.mpr c25
   clear c25
   replace H:=yig H;obtain ⟨c26,H⟩:=H
   have c26b0:decide (0 < (l1.length:Int))=true:=decide_eq_true c26
   have c26b1:decide (0 < l1.length)=true:=decide_eq_true (by omega)
   clear c26
   replace H:=yig H;obtain ⟨c27,H⟩:=H
   have c27b0:decide (1 < (l1.length:Int))=true:=decide_eq_true c27
   have c27b1:decide (1 < l1.length)=true:=decide_eq_true (by omega)
   clear c27
   obtain ⟨ji28,hji28⟩:∃ j_:Int,(mx (wrap64 ((rd l1 0) - (rd l1 1))) (wrap64 ((rd l1 1) - (rd l1 0))))=j_:=⟨_,rfl⟩
   replace H:(some ((ji28) == a0_2))=some r:=by first|(rw [hji28] at H;exact H)|(simp only [hji28] at H ⊢;exact H)
   have hji28_:(if (wrap64 ((rd l1 0) - (rd l1 1))) < (wrap64 ((rd l1 1) - (rd l1 0))) then (wrap64 ((rd l1 1) - (rd l1 0))) else (wrap64 ((rd l1 0) - (rd l1 1))))=ji28:=hji28
   obtain rfl:=ysi H
   obtain ⟨hcz29_0,hcz29_1,hcz29_2,hfz29_0,hfz29_1,hfz29_2⟩:=ybc BK574.out
   have p580:0≤(0:Int):=(by omega)
   have q580:0 < (l1.length:Int):=ydt
   obtain ⟨ad580,e580,hx580_0⟩:=Kd.at_int HR1.out 0 p580 q580
   cases e580
   have qi580:(0 < l1.length)=True:=eq_true (by omega)
   (try rw [show ((0:Int)).toNat=0 from rfl] at hx580_0)
   (try rw [Addr.add_zero'] at hx580_0)
   replace hx580_0:=ybx HB.out hx580_0
   replace p580:=eq_true p580
   replace q580:=eq_true q580
   have p581:0≤(1:Int):=(by omega)
   have q581:1 < (l1.length:Int):=ydt
   obtain ⟨ad581,e581,hx581_0⟩:=Kd.at_int HR1.out 1 p581 q581
   obtain rfl:ad580=ad581:=(by injection e581)
   (try simp only [show (1:Int).toNat=1 from rfl,Nat.reduceMul,Nat.reduceEqDiff,Go.Addr.add,↓reduceIte] at hx581_0)
   have qi581:(1 < l1.length)=True:=eq_true (by omega)
   (try rw [show ((1:Int)).toNat=1 from rfl] at hx581_0)
   replace hx581_0:=ybx HB.out hx581_0
   replace p581:=eq_true p581
   replace q581:=eq_true q581
   have p582:0≤(1:Int):=(by omega)
   have q582:1 < (l1.length:Int):=ydt
   obtain ⟨ad582,e582,hx582_0⟩:=Kd.at_int HR1.out 1 p582 q582
   obtain rfl:ad580=ad582:=(by injection e582)
   (try simp only [show (1:Int).toNat=1 from rfl,Nat.reduceMul,Nat.reduceEqDiff,Go.Addr.add,↓reduceIte] at hx582_0)
   have qi582:(1 < l1.length)=True:=eq_true (by omega)
   (try rw [show ((1:Int)).toNat=1 from rfl] at hx582_0)
   replace hx582_0:=ybx HB.out hx582_0
   replace p582:=eq_true p582
   replace q582:=eq_true q582
   have p583:0≤(0:Int):=(by omega)
   have q583:0 < (l1.length:Int):=ydt
   obtain ⟨ad583,e583,hx583_0⟩:=Kd.at_int HR1.out 0 p583 q583
   obtain rfl:ad580=ad583:=(by injection e583)
   have qi583:(0 < l1.length)=True:=eq_true (by omega)
   (try rw [show ((0:Int)).toNat=0 from rfl] at hx583_0)
   (try rw [Addr.add_zero'] at hx583_0)
   replace hx583_0:=ybx HB.out hx583_0
   replace p583:=eq_true p583
   replace q583:=eq_true q583
   go_wp2
   repeat (go_quiet (fail);try go_wp2)
   go_ret
   exact ⟨by first|rfl|(simp [errW_none,errW_some] <;> rfl)|(simp only [← hji28];first|rfl|(simp [errW_none,errW_some] <;> rfl))|(simp [*,errW_none,errW_some] <;> rfl),yhb⟩
  replace H:=yif H;obtain ⟨c5b0,H⟩:=H
  replace H:=yif H;obtain ⟨c6b0,H⟩:=H
  replace H:=yit H;obtain ⟨c7,H⟩ | ⟨c7,H⟩:=H
  rotate_left
  ·have c7b0:(a0_0 == 1)=false:=beq_eq_false_iff_ne.mpr c7
   have c7b1:(a0_0 != 1)=true:=bne_iff_ne.mpr c7
   replace H:=yam H
   obtain ⟨ad575,e575,hx575_0,p575,q575⟩:=yat HR1.out x11_1
   cases e575
   replace hx575_0:=ybx HB.out hx575_0
   obtain ⟨hcz16_0,hcz16_1,hcz16_2,hfz16_0,hfz16_1,hfz16_2⟩:=ybc BK574.out
   go_wp2
   repeat (go_quiet (fail);try go_wp2)
   go_roundg k1
   case measure=>have:=HK1.out;omega
   case rel=>exact ⟨(wrap64 (x5_1 + (rd l1 x11_1))),(wrap64 (x6_1 * (rd l1 x11_1))),(wrap64 (x11_1 + 1)),yeq,yeq,yeq,H,⟨by have:=HK1.out;omega⟩,⟨ybk BK574.out⟩,⟨yhb⟩⟩
  have c7b0:(a0_0 == 1)=true:=beq_iff_eq.mpr c7
  have c7b1:(a0_0 != 1)=false:=bne_eq_false_iff_eq.mpr c7
  clear c7
  have c8b0:=eq_true (ydt:0≤x11_1)
  replace H:=yig H;obtain ⟨c9,H⟩:=H
  have c9b0:=eq_true c9
  have c9b1:decide (x11_1≤(l1.length:Int))=true:=decide_eq_true c9
  clear c9
  replace H:=ybi H;obtain ⟨t577,A10,H⟩:=H
  try dsimp only at H
  cases t577
  rotate_left
  ·replace H:=ytt H
   obtain rfl:=ysi H
   obtain ⟨ad575,e575,hx575_0,p575,q575⟩:=yat HR1.out x11_1
   cases e575
   replace hx575_0:=ybx HB.out hx575_0
   obtain ⟨hcz12_0,hcz12_1,hcz12_2,hfz12_0,hfz12_1,hfz12_2⟩:=ybc BK574.out
   obtain ⟨i013,hi013,_,hsz13,_⟩:=info_parts info3
   obtain ⟨hcut13,hA13,hC13⟩:=print_take_of (P:=Try.prog) (Value.int .i64) 0 23 3 .i64 Try.underlying23 hi013 hsz13 (some ad575) c1 l1 x11_1 (ydt) (ydt) HC1.out
   have hl13_:(l1.take (x11_1:Int).toNat).length=(x11_1:Int).toNat:=by
    have e0_:0≤(x11_1:Int):=ydt
    have e1_:(x11_1:Int)≤(l1.length:Int):=ydt
    rw [List.length_take];omega
   have HR576:=yam (Kd.C_of_reads (h1:=fun _=>rfl) (hA13 _ (Kd.reads_of_C HR1.out)))
   have HC576:=yam hC13
   clear hA13 hC13 hi013 hsz13
   go_wp2_with (first|(go_at_call 69;(first|(with_reducible refine (slices_Contains_int_int.calls k1 _ _ (l1.take (x11_1:Int).toNat) (rd l1 x11_1) true _ ?side1 ?side2 A10.out).mono ?_)|(rw [← hl13_];(with_reducible refine (slices_Contains_int_int.calls k1 _ _ (l1.take (x11_1:Int).toNat) (rd l1 x11_1) true _ ?_ ?_ A10.out).mono ?_)));exact Kd.Cz ((Kd.C_below HR576.out HB.out));exact HC576.out;rintro e w' ⟨rfl,⟨nd,rfl⟩⟩;(try first|exact ⟨rfl,_,World.drewN_drewN _ _ _⟩|exact ⟨rfl,_,Eq.trans (World.drewN_drewN _ _ _) (congrArg (World.drewN _) (Nat.add_assoc _ _ _))⟩)))
   repeat (go_quiet (first|(go_at_call 69;(first|(with_reducible refine (slices_Contains_int_int.calls k1 _ _ (l1.take (x11_1:Int).toNat) (rd l1 x11_1) true _ ?side1 ?side2 A10.out).mono ?_)|(rw [← hl13_];(with_reducible refine (slices_Contains_int_int.calls k1 _ _ (l1.take (x11_1:Int).toNat) (rd l1 x11_1) true _ ?_ ?_ A10.out).mono ?_)));exact Kd.Cz ((Kd.C_below HR576.out HB.out));exact HC576.out;rintro e w' ⟨rfl,⟨nd,rfl⟩⟩;(try first|exact ⟨rfl,_,World.drewN_drewN _ _ _⟩|exact ⟨rfl,_,Eq.trans (World.drewN_drewN _ _ _) (congrArg (World.drewN _) (Nat.add_assoc _ _ _))⟩)));try go_wp2_with (first|(go_at_call 69;(first|(with_reducible refine (slices_Contains_int_int.calls k1 _ _ (l1.take (x11_1:Int).toNat) (rd l1 x11_1) true _ ?side1 ?side2 A10.out).mono ?_)|(rw [← hl13_];(with_reducible refine (slices_Contains_int_int.calls k1 _ _ (l1.take (x11_1:Int).toNat) (rd l1 x11_1) true _ ?_ ?_ A10.out).mono ?_)));exact Kd.Cz ((Kd.C_below HR576.out HB.out));exact HC576.out;rintro e w' ⟨rfl,⟨nd,rfl⟩⟩;(try first|exact ⟨rfl,_,World.drewN_drewN _ _ _⟩|exact ⟨rfl,_,Eq.trans (World.drewN_drewN _ _ _) (congrArg (World.drewN _) (Nat.add_assoc _ _ _))⟩))))
   go_ret
   exact ⟨yer,yhb⟩
  replace H:=yff H
  replace H:=yam H
  obtain ⟨ad575,e575,hx575_0,p575,q575⟩:=yat HR1.out x11_1
  cases e575
  replace hx575_0:=ybx HB.out hx575_0
  obtain ⟨hcz14_0,hcz14_1,hcz14_2,hfz14_0,hfz14_1,hfz14_2⟩:=ybc BK574.out
  obtain ⟨i015,hi015,_,hsz15,_⟩:=info_parts info3
  obtain ⟨hcut15,hA15,hC15⟩:=print_take_of (P:=Try.prog) (Value.int .i64) 0 23 3 .i64 Try.underlying23 hi015 hsz15 (some ad575) c1 l1 x11_1 (ydt) (ydt) HC1.out
  have hl15_:(l1.take (x11_1:Int).toNat).length=(x11_1:Int).toNat:=by
   have e0_:0≤(x11_1:Int):=ydt
   have e1_:(x11_1:Int)≤(l1.length:Int):=ydt
   rw [List.length_take];omega
  have HR576:=yam (Kd.C_of_reads (h1:=fun _=>rfl) (hA15 _ (Kd.reads_of_C HR1.out)))
  have HC576:=yam hC15
  clear hA15 hC15 hi015 hsz15
  go_wp2_with (first|(go_at_call 69;(first|(with_reducible refine (slices_Contains_int_int.calls k1 _ _ (l1.take (x11_1:Int).toNat) (rd l1 x11_1) false _ ?side1 ?side2 A10.out).mono ?_)|(rw [← hl15_];(with_reducible refine (slices_Contains_int_int.calls k1 _ _ (l1.take (x11_1:Int).toNat) (rd l1 x11_1) false _ ?_ ?_ A10.out).mono ?_)));exact Kd.Cz ((Kd.C_below HR576.out HB.out));exact HC576.out;rintro e w' ⟨rfl,⟨nd,rfl⟩⟩;(try first|exact ⟨rfl,_,World.drewN_drewN _ _ _⟩|exact ⟨rfl,_,Eq.trans (World.drewN_drewN _ _ _) (congrArg (World.drewN _) (Nat.add_assoc _ _ _))⟩)))
  repeat (go_quiet (first|(go_at_call 69;(first|(with_reducible refine (slices_Contains_int_int.calls k1 _ _ (l1.take (x11_1:Int).toNat) (rd l1 x11_1) false _ ?side1 ?side2 A10.out).mono ?_)|(rw [← hl15_];(with_reducible refine (slices_Contains_int_int.calls k1 _ _ (l1.take (x11_1:Int).toNat) (rd l1 x11_1) false _ ?_ ?_ A10.out).mono ?_)));exact Kd.Cz ((Kd.C_below HR576.out HB.out));exact HC576.out;rintro e w' ⟨rfl,⟨nd,rfl⟩⟩;(try first|exact ⟨rfl,_,World.drewN_drewN _ _ _⟩|exact ⟨rfl,_,Eq.trans (World.drewN_drewN _ _ _) (congrArg (World.drewN _) (Nat.add_assoc _ _ _))⟩)));try go_wp2_with (first|(go_at_call 69;(first|(with_reducible refine (slices_Contains_int_int.calls k1 _ _ (l1.take (x11_1:Int).toNat) (rd l1 x11_1) false _ ?side1 ?side2 A10.out).mono ?_)|(rw [← hl15_];(with_reducible refine (slices_Contains_int_int.calls k1 _ _ (l1.take (x11_1:Int).toNat) (rd l1 x11_1) false _ ?_ ?_ A10.out).mono ?_)));exact Kd.Cz ((Kd.C_below HR576.out HB.out));exact HC576.out;rintro e w' ⟨rfl,⟨nd,rfl⟩⟩;(try first|exact ⟨rfl,_,World.drewN_drewN _ _ _⟩|exact ⟨rfl,_,Eq.trans (World.drewN_drewN _ _ _) (congrArg (World.drewN _) (Nat.add_assoc _ _ _))⟩))))
  go_roundg k1
  case measure=>have:=HK1.out;omega
  case rel=>exact ⟨(wrap64 (x5_1 + (rd l1 x11_1))),(wrap64 (x6_1 * (rd l1 x11_1))),(wrap64 (x11_1 + 1)),yeq,yeq,yeq,H,⟨by have:=HK1.out;omega⟩,⟨ybk BK574.out⟩,⟨yhb⟩⟩
def impl_ruleMasks.orFrom (vals:List Int):Nat→Int→List Int→List Int
 | 0,_,out=>out
 | d + 1,i,out=>impl_ruleMasks.orFrom vals d (i + 1) (out.set i.toNat (Go.bits .or .i64 (rd out i) (shl .i64 1 (rd vals i))))
def impl_ruleMasks.tryV (f:List Int→List Int→Option (List Int × List Int))(m:Int)(i:Nat):Nat→Int→List Int→List Int→Option (List Int × List Int)
 | 0,_,vals,out=>some (vals,out)
 | n + 1,v,vals,out=>if Go.bits .and .i64 (shr .i64 m v) 1=1 then (f (vals.set i v) out).bind fun t=>impl_ruleMasks.tryV f m i n (v + 1) t.1 t.2 else impl_ruleMasks.tryV f m i n (v + 1) vals out
def impl_ruleMasks.try_ (k:Nat)(a0_0:Int)(l0_1:List Int)(a0_2:Int)(own:List Int):Nat→List Int→List Int→Option (List Int × List Int)
 | 0,vals,out=>(impl_valuesHold.f k a0_0 l0_1 a0_2 vals).bind fun b=>if b=true then (if ∀ x∈vals,0≤x then some (vals,impl_ruleMasks.orFrom vals own.length 0 out) else none) else some (vals,out)
 | d + 1,vals,out=>impl_ruleMasks.tryV (impl_ruleMasks.try_ k a0_0 l0_1 a0_2 own d) (rd own ((own.length:Int) - (d + 1:Nat))) ((own.length:Int) - (d + 1:Nat)).toNat 4 1 vals out
def impl_ruleMasks.Boxes (W:World)(gown gr gval gout gtry gv go cv cu:Nat)(Ao:Option Addr)(co n:Nat)(a0_0:Int)(Ac:Option Addr)(cc nc:Nat)(a0_2:Int):Prop :=
 W.heap[gown]?=some (.cells #[.slice Ao n co] 23 (0,0))∧W.heap[gr]?=some (.cells #[.int .i64 a0_0,.slice Ac nc cc,.int .i64 a0_2] 32 (0,0))∧W.heap[gval]?=some (.cells #[.slice (some ⟨gv,0,none⟩) n cv] 23 (0,0))∧W.heap[gout]?=some (.cells #[.slice (some ⟨go,0,none⟩) n cu] 23 (0,0))∧W.heap[gtry]?=some (.cells #[.func (.func 91) #[] #[.pointer (some ⟨gown,0,none⟩),.pointer (some ⟨gr,0,none⟩),.pointer (some ⟨gval,0,none⟩),.pointer (some ⟨gout,0,none⟩),.pointer (some ⟨gtry,0,none⟩)]] 88 (0,0))
theorem impl_ruleMasks.Boxes.below {W W1:World}{gown gr gval gout gtry gv go cv cu:Nat}{Ao:Option Addr}{co n:Nat}{a0_0:Int}{Ac:Option Addr}{cc nc:Nat}{a0_2:Int}(h:impl_ruleMasks.Boxes W gown gr gval gout gtry gv go cv cu Ao co n a0_0 Ac cc nc a0_2)(hb:Below W.heap.size W W1):impl_ruleMasks.Boxes W1 gown gr gval gout gtry gv go cv cu Ao co n a0_0 Ac cc nc a0_2 :=
 ⟨blk_below h.1 hb,blk_below h.2.1 hb,blk_below h.2.2.1 hb,blk_below h.2.2.2.1 hb,blk_below h.2.2.2.2 hb⟩
theorem impl_ruleMasks.Boxes.drewN {W:World}{gown gr gval gout gtry gv go cv cu:Nat}{Ao:Option Addr}{co n:Nat}{a0_0:Int}{Ac:Option Addr}{cc nc:Nat}{a0_2:Int}(h:impl_ruleMasks.Boxes W gown gr gval gout gtry gv go cv cu Ao co n a0_0 Ac cc nc a0_2)(m:Nat):impl_ruleMasks.Boxes (W.drewN m) gown gr gval gout gtry gv go cv cu Ao co n a0_0 Ac cc nc a0_2:=h
theorem impl_ruleMasks.Boxes.grown {W W1:World}{gown gr gval gout gtry gv go cv cu:Nat}{Ao:Option Addr}{co n:Nat}{a0_0:Int}{Ac:Option Addr}{cc nc:Nat}{a0_2:Int}(h:impl_ruleMasks.Boxes W gown gr gval gout gtry gv go cv cu Ao co n a0_0 Ac cc nc a0_2){α:Type}{d:Kd α}{base:Nat}{ok:Nat→Prop}{v:Value}{xs:List α}(ho:d.R 3 W base ok v xs)(hg:W.grownBy W1 v.ownBlock):impl_ruleMasks.Boxes W1 gown gr gval gout gtry gv go cv cu Ao co n a0_0 Ac cc nc a0_2 :=
 ⟨blk_grown h.1 hg (Kd.R_ne ho h.1 (by decide)),blk_grown h.2.1 hg (Kd.R_ne ho h.2.1 (by decide)),blk_grown h.2.2.1 hg (Kd.R_ne ho h.2.2.1 (by decide)),blk_grown h.2.2.2.1 hg (Kd.R_ne ho h.2.2.2.1 (by decide)),blk_grown h.2.2.2.2 hg (Kd.R_ne ho h.2.2.2.2 (by decide))⟩
theorem impl_ruleMasks.R_other {W W1:World}{base:Nat}{g g2:Nat}{n c n2 c2:Nat}{xs:List Int}(h:Kd.R (Kd.int .i64) 3 W base (fun k=>k=g) (.slice (some ⟨g,0,none⟩) n c) xs)(hne:g≠g2)(hg:W.grownBy W1 (some g2)):Kd.R (Kd.int .i64) 3 W1 base (fun k=>k=g) (.slice (some ⟨g,0,none⟩) n c) xs :=
 Kd.R_mono (Kd.R_after (v:= .slice (some ⟨g2,0,none⟩) n2 c2) (v1:= .slice (some ⟨g2,0,none⟩) n2 c2) (ok:=fun k=>k=g) (Kd.R_mono h (fun k hk=>⟨hk,by subst hk;simpa [Value.ownBlock] using hne⟩)) hg (.inl rfl)) (fun k hk=>hk.1)
theorem impl_ruleMasks.clo (k:Nat)(a0_0:Int)(Ac:Option Addr)(cc:Nat)(l0_1:List Int)(a0_2:Int)(Ao:Option Addr)(co:Nat)(own:List Int)(gown gr gval gout gtry gv go cv cu:Nat)(w0:World)(hne:gv≠go)(hbv:w0.heap.size≤gv)(hbo:w0.heap.size≤go)(hrC:Kd.C (Kd.int .i64) w0 Ac l0_1.length l0_1)(hcC:l0_1.length≤cc)(hrO:Kd.C (Kd.int .i64) w0 Ao own.length own) :
  ∀ (d:Nat) (a:Int) (vals out vals' out':List Int) (w:World) (_:(own.length:Int) - d=a) (_:d≤own.length) (_:own.length≤100000) (_:vals.length=own.length) (_:out.length=own.length) (_:Kd.R (Kd.int .i64) 3 w w0.heap.size (fun k=>k=gv) (.slice (some ⟨gv,0,none⟩) own.length cv) vals) (_:Kd.R (Kd.int .i64) 3 w w0.heap.size (fun k=>k=go) (.slice (some ⟨go,0,none⟩) own.length cu) out) (_:impl_ruleMasks.Boxes w gown gr gval gout gtry gv go cv cu Ao co own.length a0_0 Ac cc l0_1.length a0_2) (_:Below w0.heap.size w0 w) (_:impl_ruleMasks.try_ k a0_0 l0_1 a0_2 own d vals out=some (vals',out')),
  Calls Try.prog 91 #[.int .i64 a,.pointer (some ⟨gown,0,none⟩),.pointer (some ⟨gr,0,none⟩),.pointer (some ⟨gval,0,none⟩),.pointer (some ⟨gout,0,none⟩),.pointer (some ⟨gtry,0,none⟩)] w fun e w'=>e= .returned (.tuple #[])∧vals'.length=own.length∧out'.length=own.length∧Kd.R (Kd.int .i64) 3 w' w0.heap.size (fun k=>k=gv) (.slice (some ⟨gv,0,none⟩) own.length cv) vals'∧Kd.R (Kd.int .i64) 3 w' w0.heap.size (fun k=>k=go) (.slice (some ⟨go,0,none⟩) own.length cu) out'∧impl_ruleMasks.Boxes w' gown gr gval gout gtry gv go cv cu Ao co own.length a0_0 Ac cc l0_1.length a0_2∧Below w0.heap.size w0 w':=by
 intro d
 have HRC:=yam hrC
 have HCC:=yam hcC
 have HRO:=yam hrO
 clear hrC hcC hrO
 induction d with
 | zero =>
  intro a vals out vals' out' w ha hd hn hlv hlo hV hO hX hB h
  have ha0:a=(own.length:Int):=by omega
  have hae:(a == (own.length:Int))=true:=beq_iff_eq.mpr ha0
  clear ha ha0 hd
  have HN:=yam hn
  have HLV:=yam hlv
  have HLO:=yam hlo
  have HV:=yam hV
  have HO:=yam hO
  have HX:=yam hX
  have HB:=yam hB
  clear hn hlv hlo hV hO hB
  unfold impl_ruleMasks.try_ at h
  obtain ⟨b,hb,h⟩:=Option.bind_eq_some_iff.1 h
  have HVH:=yam hb
  have H:=yam h
  clear hb h
  have hcO:w.cell? ⟨gown,0,none⟩=some (.slice Ao own.length co):=(blk_cell hX.1 0).trans rfl
  have hcR0:w.cell? ⟨gr,0,none⟩=some (.int .i64 a0_0):=(blk_cell hX.2.1 0).trans rfl
  have hcR1:w.cell? ⟨gr,1,none⟩=some (.slice Ac l0_1.length cc):=(blk_cell hX.2.1 1).trans rfl
  have hcR2:w.cell? ⟨gr,2,none⟩=some (.int .i64 a0_2):=(blk_cell hX.2.1 2).trans rfl
  have hcV:w.cell? ⟨gval,0,none⟩=some (.slice (some ⟨gv,0,none⟩) own.length cv):=(blk_cell hX.2.2.1 0).trans rfl
  clear hX
  cases b with
  | false =>
   have H2:=H.out
   simp only [Bool.false_eq_true,if_false,Option.some.injEq,Prod.mk.injEq] at H2
   obtain ⟨rfl,rfl⟩:=H2
   clear H
   go_enter Try.func91,Try.ntmps91
   go_wp2_with (first|(refine goesL_ (some 16) rfl rfl Try.func82 (by kernel_rfl) rfl #[.agg #[.int .i64 a0_0,.slice Ac l0_1.length cc,.int .i64 a0_2],.slice (some ⟨gv,0,none⟩) vals.length cv] rfl (by (try simp only [List.map_toArray,List.map_cons,List.map_nil]);rw [HLV.out];rfl) ?_;(with_reducible refine (impl_valuesHold.calls k a0_0 _ _ l0_1 a0_2 _ _ vals false _ (Kd.C_below HRC.out HB.out) HCC.out (Kd.R_reads' HV.out).2.2 (by rw [HLV.out];exact (Kd.R_reads' HV.out).2.1) HVH.out).mono ?_);rintro e w' ⟨rfl,hb⟩;refine ⟨_,rfl,?_⟩;replace HV:=yam (Kd.R_below HV.out hb);replace HO:=yam (Kd.R_below HO.out hb);replace HX:=yam (impl_ruleMasks.Boxes.below HX.out hb);replace HB:=yam (below_step HB.out hb);clear hb hcO hcR0 hcR1 hcR2 hcV))
   first|go_end0|((try simp only [Exit.inBlock,Exit.then]);refine bodyPost_ret (results_none rfl _ _ _) rfl ?_)
   exact ⟨rfl,HLV.out,HLO.out,HV.out,HO.out,HX.out,HB.out⟩
  | true =>
   have H2:=H.out
   simp only [if_true] at H2
   by_cases hpos:∀ x∈vals,0≤x
   ·rw [if_pos hpos] at H2
    simp only [Option.some.injEq,Prod.mk.injEq] at H2
    obtain ⟨rfl,rfl⟩:=H2
    clear H
    have HP:=yam hpos
    clear hpos
    go_enter Try.func91,Try.ntmps91
    go_wp2_with (first|(refine goesL_ (some 16) rfl rfl Try.func82 (by kernel_rfl) rfl #[.agg #[.int .i64 a0_0,.slice Ac l0_1.length cc,.int .i64 a0_2],.slice (some ⟨gv,0,none⟩) vals.length cv] rfl (by (try simp only [List.map_toArray,List.map_cons,List.map_nil]);rw [HLV.out];rfl) ?_;(with_reducible refine (impl_valuesHold.calls k a0_0 _ _ l0_1 a0_2 _ _ vals true _ (Kd.C_below HRC.out HB.out) HCC.out (Kd.R_reads' HV.out).2.2 (by rw [HLV.out];exact (Kd.R_reads' HV.out).2.1) HVH.out).mono ?_);rintro e w' ⟨rfl,hb⟩;refine ⟨_,rfl,?_⟩;replace HV:=yam (Kd.R_below HV.out hb);replace HO:=yam (Kd.R_below HO.out hb);replace HX:=yam (impl_ruleMasks.Boxes.below HX.out hb);replace HB:=yam (below_step HB.out hb);clear hb hcO hcR0 hcR1 hcR2 hcV;have hcV:=(blk_cell HX.out.2.2.1 0).trans (rfl:_=some (Value.slice (some ⟨gv,0,none⟩) own.length cv))))
    go_loopg [19] own.length (fun kq v19 w'=>∃ (x:Int) (o:List Int),v19= .int .i64 x∧Aside0 (0≤x∧x + (kq:Int)=(own.length:Int))∧Aside0 (impl_ruleMasks.orFrom vals own.length 0 out=impl_ruleMasks.orFrom vals kq x o)∧Aside0 (o.length=own.length)∧Aside0 (Kd.R (Kd.int .i64) 3 w' w0.heap.size (fun k=>k=gv) (.slice (some ⟨gv,0,none⟩) own.length cv) vals)∧Aside0 (Kd.R (Kd.int .i64) 3 w' w0.heap.size (fun k=>k=go) (.slice (some ⟨go,0,none⟩) own.length cu) o)∧Aside0 (impl_ruleMasks.Boxes w' gown gr gval gout gtry gv go cv cu Ao co own.length a0_0 Ac cc l0_1.length a0_2)∧Aside0 (Below w0.heap.size w0 w'))
    case atStart=>exact ⟨0,out,rfl,⟨by omega⟩,⟨rfl⟩,HLO,HV,HO,HX,HB⟩
    case round =>
     clear hcV HV HO HX HB HLO
     obtain ⟨x,o,rfl,HK,HE,HLO,HV,HO,HX,HB⟩:=hrel
     cases gk with
     | zero =>
      have h1b:decide ((x:Int) < (own.length:Int))=false:=decide_eq_false (by have:=HK.out;omega)
      go_wp2
      first|go_end0|((try simp only [Exit.inBlock,Exit.then]);refine bodyPost_ret (results_none rfl _ _ _) rfl ?_)
      have HE2:=HE.out
      unfold impl_ruleMasks.orFrom at HE2
      exact ⟨rfl,HLV.out,by rw [HE.out];exact HLO.out,HV.out,by rw [HE.out];exact HO.out,HX.out,HB.out⟩
     | succ k1 =>
      have h0:0≤x:=HK.out.1
      have h1:x < (own.length:Int):=by have:=HK.out.2;omega
      have h1b:decide ((x:Int) < (own.length:Int))=true:=decide_eq_true h1
      have hcU:=(blk_cell HX.out.2.2.2.1 0).trans (rfl:_=some (Value.slice (some ⟨go,0,none⟩) own.length cu))
      obtain ⟨hxV0,hfV⟩:=Kd.R_celln 0 HV.out x h0 h1
      obtain ⟨hxO0,hfO⟩:=Kd.R_celln 0 HO.out x h0 h1
      have hxV:=hxV0.trans (rfl:_=some (Value.int .i64 (rd vals x)))
      have hxO:=hxO0.trans (rfl:_=some (Value.int .i64 (rd o x)))
      clear hxV0 hxO0
      have hpv:0≤rd vals x:=HP.out _ (by
       have hl:=HLV.out
       obtain ⟨n,rfl⟩:=Int.eq_ofNat_of_zero_le h0
       have hn:n < vals.length:=by omega
       have e:rd vals (n:Int)=vals[n]:=by simp [rd,hn]
       rw [e];exact List.getElem_mem hn)
      have hpvb:decide (0≤rd vals x)=true:=decide_eq_true hpv
      have HES:impl_ruleMasks.orFrom vals (k1 + 1) x o=impl_ruleMasks.orFrom vals k1 (x + 1) (o.set x.toNat (Go.bits .or .i64 (rd o x) (shl .i64 1 (rd vals x)))):=rfl
      obtain ⟨ji,hji⟩:∃ j_:Int,(shl .i64 1 (rd vals x))=j_:=⟨_,rfl⟩
      rw [hji] at HES
      have hji_:(IntKind.i64.wrap (1 * 2 ^ min (rd vals x).toNat 64))=ji:=hji
      have hjiu:(IntKind.i64.wrap (2 ^ min (rd vals x).toNat 64))=ji:=by have h_:=hji_;rw [Int.one_mul] at h_;exact h_
      have hjiy:(wrap64 (1 * 2 ^ min (rd vals x).toNat 64))=ji:=(i64_w _).symm.trans hji_
      have hjiw:(wrap64 (2 ^ min (rd vals x).toNat 64))=ji:=(i64_w _).symm.trans hjiu
      have HES2:=yam HES
      clear HES hji
      have HPO:=yam (Kd.R_putg HO.out x (Go.bits .or .i64 (rd o x) ji))
      have hnw:wrap64 (x + 1)=x + 1:=by have:=HN.out;unfold wrap64;omega
      have hnw2:IntKind.i64.wrap (x + 1)=x + 1:=by rw [i64_w];exact hnw
      have p0:=eq_true h0
      have p1:=eq_true h1
      have p2:=eq_true hpv
      clear h0 h1 hpv
      go_wp2
      refine start_ (n:=9) (S:=fun w'=>w'.cell? ⟨gout,0,none⟩=some (.slice (some ⟨go,0,none⟩) own.length cu)∧w'.cell? ⟨go,(x:Int).toNat,none⟩=some (.int .i64 (rd o x))) (ds:=[8]) (yvb 9 0) (by kernel_rfl) rfl rfl ⟨hcU,hxO⟩ (fun hHeld=>?_)
      refine pure_ (i:=1) (N:=some 25) (v:=?_) (a':=?_) (yvb 9 2) rfl rfl (by kernel_rfl) (fun _ _ _ h=>h) (Or.inl ⟨by rfl,?_⟩) ?_ ?_
      rotate_left
      ·intro w'
       go_simp
       with_reducible rfl
      rotate_left
      ·simp only [Act.put,List.setIfInBounds_toArray,List.set_cons_zero,List.set_cons_succ,i64_w,i32_w]
       rfl
      refine pure_ (i:=4) (N:=some 28) (v:=?_) (a':=?_) (yvb 9 18) rfl rfl (by kernel_rfl) (fun _ _ _ h=>h) (Or.inl ⟨by rfl,?_⟩) ?_ ?_
      rotate_left
      ·intro w'
       go_simp
       with_reducible rfl
      rotate_left
      ·simp only [Act.put,List.setIfInBounds_toArray,List.set_cons_zero,List.set_cons_succ,i64_w,i32_w]
       rfl
      refine pure_ (i:=5) (N:=some 29) (v:=?_) (a':=?_) (yvb 9 50) rfl rfl (by kernel_rfl) (fun _ _ _ h=>h) (Or.inl ⟨by rfl,?_⟩) ?_ ?_
      rotate_left
      ·intro w'
       go_simp
       with_reducible rfl
      rotate_left
      ·simp only [Act.put,List.setIfInBounds_toArray,List.set_cons_zero,List.set_cons_succ,i64_w,i32_w]
       rfl
      refine take_ (i:=0) (N:=some 24) (v:=?_) (a':=?_) (yvb 9 51) rfl rfl (by kernel_rfl) (fun _ _ _ h=>h) (Or.inl ⟨by rfl,?_⟩) hHeld ?_ ?_
      rotate_left
      ·rintro w' ⟨s0,s1⟩
       go_simp
       with_reducible rfl
      rotate_left
      ·simp only [Act.put,List.setIfInBounds_toArray,List.set_cons_zero,List.set_cons_succ,i64_w,i32_w]
       rfl
      refine pure_ (i:=2) (N:=some 26) (v:=?_) (a':=?_) (yvb 9 55) rfl rfl (by kernel_rfl) (fun _ _ _ h=>h) (Or.inl ⟨by rfl,?_⟩) ?_ ?_
      rotate_left
      ·intro w'
       go_simp
       with_reducible rfl
      rotate_left
      ·simp only [Act.put,List.setIfInBounds_toArray,List.set_cons_zero,List.set_cons_succ,i64_w,i32_w]
       rfl
      refine take_ (i:=3) (N:=some 27) (v:=?_) (a':=?_) (yvb 9 63) rfl rfl (by kernel_rfl) (fun _ _ _ h=>h) (Or.inl ⟨by rfl,?_⟩) hHeld ?_ ?_
      rotate_left
      ·rintro w' ⟨s0,s1⟩
       go_simp
       with_reducible rfl
      rotate_left
      ·simp only [Act.put,List.setIfInBounds_toArray,List.set_cons_zero,List.set_cons_succ,i64_w,i32_w]
       rfl
      refine pure_ (i:=6) (N:=some 30) (v:=?_) (a':=?_) (yvb 9 127) rfl rfl (by kernel_rfl) (fun _ _ _ h=>h) (Or.inl ⟨by rfl,?_⟩) ?_ ?_
      rotate_left
      ·intro w'
       go_simp
       with_reducible rfl
      rotate_left
      ·simp only [Act.put,List.setIfInBounds_toArray,List.set_cons_zero,List.set_cons_succ,i64_w,i32_w]
       rfl
      refine pure_ (i:=7) (N:=some 31) (v:=?_) (a':=?_) (yvb 9 255) rfl rfl (by kernel_rfl) (fun _ _ _ h=>h) (Or.inl ⟨by rfl,?_⟩) ?_ ?_
      rotate_left
      ·intro w'
       go_simp
       with_reducible rfl
      rotate_left
      ·simp only [Act.put,List.setIfInBounds_toArray,List.set_cons_zero,List.set_cons_succ,i64_w,i32_w]
       rfl
      refine last_ (i:=8) (N:=none) (yvb 9 511) rfl rfl (by kernel_rfl) (by decide) (fun K hK=>?_)
      refine skip_ (w1:=?_) (by rfl) rfl ?_ ?_
      rotate_left
      ·go_simp
       rfl
      refine hK.out _ _ ?_
      clear hK K
      refine done_ (by kernel_rfl) ?_
      go_wp2
      go_roundg k1
      case measure=>omega
      case rel=>exact ⟨x + 1,o.set x.toNat (Go.bits .or .i64 (rd o x) ji),by first|rfl|(rw [hnw])|(rw [hnw2]),⟨by have:=HK.out;omega⟩,⟨by rw [HE.out];exact HES2.out⟩,⟨by rw [List.length_set];exact HLO.out⟩,⟨Kd.R_drew (impl_ruleMasks.R_other (n2:=own.length) (c2:=own.length) HV.out hne HPO.out.2)⟩,⟨Kd.R_drew HPO.out.1⟩,⟨(impl_ruleMasks.Boxes.grown HX.out HO.out HPO.out.2).drewN 1⟩,⟨below_drew1 (below_set HB.out hbo)⟩⟩
   ·rw [if_neg hpos] at H2
    exact absurd H2 (by simp)
 | succ d ih =>
  intro a vals out vals' out' w ha hd hn hlv hlo hV hO hX hB h
  have ha1:¬ a=(own.length:Int):=by omega
  have hae:(a == (own.length:Int))=false:=beq_eq_false_iff_ne.mpr ha1
  have HA:=yam (show (own.length:Int) - (d + 1:Nat)=a∧0≤a∧a < (own.length:Int) from ⟨ha,by omega,by omega⟩)
  have HD:=yam (show d≤own.length by omega)
  have HN:=yam hn
  have HLV:=yam hlv
  have HLO:=yam hlo
  have HV:=yam hV
  have HO:=yam hO
  have HX:=yam hX
  have HB:=yam hB
  unfold impl_ruleMasks.try_ at h
  rw [ha] at h
  have H:=yam h
  have hcO:w.cell? ⟨gown,0,none⟩=some (.slice Ao own.length co):=(blk_cell hX.1 0).trans rfl
  clear ha ha1 hd hn hlv hlo hV hO hX hB h
  have IH:=yam ih
  clear ih
  go_enter Try.func91,Try.ntmps91
  go_wp2
  go_loopg [9] 4 (fun kq v9 w'=>∃ (x:Int) (vs o:List Int),v9= .int .i64 x∧Aside0 (1≤x∧x + (kq:Int)=5)∧Aside0 (impl_ruleMasks.tryV (impl_ruleMasks.try_ k a0_0 l0_1 a0_2 own d) (rd own a) a.toNat kq x vs o=some (vals',out'))∧Aside0 (vs.length=own.length)∧Aside0 (o.length=own.length)∧Aside0 (Kd.R (Kd.int .i64) 3 w' w0.heap.size (fun k=>k=gv) (.slice (some ⟨gv,0,none⟩) own.length cv) vs)∧Aside0 (Kd.R (Kd.int .i64) 3 w' w0.heap.size (fun k=>k=go) (.slice (some ⟨go,0,none⟩) own.length cu) o)∧Aside0 (impl_ruleMasks.Boxes w' gown gr gval gout gtry gv go cv cu Ao co own.length a0_0 Ac cc l0_1.length a0_2)∧Aside0 (Below w0.heap.size w0 w'))
  case atStart=>exact ⟨1,vals,out,rfl,⟨by omega⟩,H,HLV,HLO,HV,HO,HX,HB⟩
  case round =>
   clear hcO HV HO HX HB HLO HLV H
   obtain ⟨x,vs,o,rfl,HK,HE,HLV,HLO,HV,HO,HX,HB⟩:=hrel
   cases gk with
   | zero =>
    have h1b:decide ((x:Int)≤4)=false:=decide_eq_false (by have:=HK.out;omega)
    have HE2:=HE.out
    unfold impl_ruleMasks.tryV at HE2
    simp only [Option.some.injEq,Prod.mk.injEq] at HE2
    obtain ⟨rfl,rfl⟩:=HE2
    go_wp2
    first|go_end0|((try simp only [Exit.inBlock,Exit.then]);refine bodyPost_ret (results_none rfl _ _ _) rfl ?_)
    exact ⟨rfl,HLV.out,HLO.out,HV.out,HO.out,HX.out,HB.out⟩
   | succ k1 =>
    have h1b:decide ((x:Int)≤4)=true:=decide_eq_true (by have:=HK.out;omega)
    have h0:0≤a:=HA.out.2.1
    have h1:a < (own.length:Int):=HA.out.2.2
    have hx0:0≤x:=by have:=HK.out;omega
    have hcO:=(blk_cell HX.out.1 0).trans (rfl:_=some (Value.slice Ao own.length co))
    obtain ⟨ad,eA,hxA⟩:=Kd.at_int (Kd.C_below HRO.out HB.out) a h0 h1
    have hnw:wrap64 (x + 1)=x + 1:=by have:=HK.out;unfold wrap64;omega
    have hnw2:IntKind.i64.wrap (x + 1)=x + 1:=by rw [i64_w];exact hnw
    have p0:=eq_true h0
    have p1:=eq_true h1
    have p2:=eq_true hx0
    have p2b:decide (0≤x)=true:=decide_eq_true hx0
    have HE2:=HE.out
    rw [impl_ruleMasks.tryV] at HE2
    obtain ⟨ji,hji⟩:∃ j_:Int,(shr .i64 (rd own a) x)=j_:=⟨_,rfl⟩
    rw [hji] at HE2
    have hji_:((rd own a) / 2 ^ min x.toNat 64)=ji:=hji
    clear hji
    by_cases hbit:Go.bits .and .i64 ji 1=1
    ·rw [if_pos hbit] at HE2
     obtain ⟨⟨t1,t2⟩,hT,HE3⟩:=Option.bind_eq_some_iff.1 HE2
     have hbb:(Go.bits .and .i64 ji 1 == 1)=true:=beq_iff_eq.mpr hbit
     have HT:=yam hT
     have HE4:=yam HE3
     have hcV:=(blk_cell HX.out.2.2.1 0).trans (rfl:_=some (Value.slice (some ⟨gv,0,none⟩) own.length cv))
     obtain ⟨hxV,hfV⟩:=Kd.R_celln 0 HV.out a h0 h1
     have HPV:=yam (Kd.R_putg HV.out a x)
     have HX2:=yam (impl_ruleMasks.Boxes.grown HX.out HV.out HPV.out.2)
     have HO2:=yam (impl_ruleMasks.R_other (n2:=own.length) (c2:=own.length) HO.out (fun e=>hne e.symm) HPV.out.2)
     have HB2:=yam (below_set (j:=a.toNat) (v:= .int .i64 x) HB.out hbv)
     have hcT:=(blk_cell HX2.out.2.2.2.2 0).trans (rfl:_=some (Value.func (.func 91) #[] #[.pointer (some ⟨gown,0,none⟩),.pointer (some ⟨gr,0,none⟩),.pointer (some ⟨gval,0,none⟩),.pointer (some ⟨gout,0,none⟩),.pointer (some ⟨gtry,0,none⟩)]))
     have haw:wrap64 (a + 1)=a + 1:=by have:=HN.out;unfold wrap64;omega
     have haw2:IntKind.i64.wrap (a + 1)=a + 1:=by rw [i64_w];exact haw
     clear h0 h1 hx0 HE2 HE3 hT hbit HE
     cases eA
     go_wp2_with (first|(go_at_call 91;(refine (IH.out (a + 1) (vs.set a.toNat x) o t1 t2 _ (by have:=HA.out.1;omega) HD.out HN.out (by rw [List.length_set];exact HLV.out) HLO.out HPV.out.1 HO2.out HX2.out HB2.out HT.out).mono ?_);rintro e w' ⟨rfl,HL1,HL2,hV,hO,hX,hB⟩;have HV3:=yam hV;have HO3:=yam hO;have HX3:=yam hX;have HB3:=yam hB;have HLV3:=yam HL1;have HLO3:=yam HL2;clear hV hO hX hB HL1 HL2))
     go_roundg k1
     case measure=>omega
     case rel=>exact ⟨x + 1,t1,t2,by first|rfl|(rw [hnw])|(rw [hnw2]),⟨by have:=HK.out;omega⟩,HE4,HLV3,HLO3,HV3,HO3,HX3,HB3⟩
    ·rw [if_neg hbit] at HE2
     have hbb:(Go.bits .and .i64 ji 1 == 1)=false:=beq_eq_false_iff_ne.mpr hbit
     have HE4:=yam HE2
     clear h0 h1 hx0 HE2 hbit HE
     cases eA
     go_wp2
     go_roundg k1
     case measure=>omega
     case rel=>exact ⟨x + 1,vs,o,by first|rfl|(rw [hnw])|(rw [hnw2]),⟨by have:=HK.out;omega⟩,HE4,HLV,HLO,HV,HO,HX,HB⟩
theorem impl_ruleMasks.newBox (W:World)(z v:Value)(t:TypeId):Below W.heap.size W ((W.alloc (.cells #[z] t)).setCell ⟨W.heap.size,0,none⟩ v)∧((W.alloc (.cells #[z] t)).setCell ⟨W.heap.size,0,none⟩ v).heap[W.heap.size]?=some (.cells #[v] t (0,0))∧(W.alloc (.cells #[z] t)).cell? ⟨W.heap.size,0,none⟩=some z∧(W.alloc (.cells #[z] t)).frozen? ⟨W.heap.size,0,none⟩=false :=
 ⟨below_set (below_alloc (Below.refl _ _) _) (Nat.le_refl _),by simpa using blk_set (heap_alloc_new W (.cells #[z] t)) 0 v,(blk_cell (heap_alloc_new W (.cells #[z] t)) 0).trans rfl,blk_frozen (heap_alloc_new W (.cells #[z] t)) 0⟩
def impl_ruleMasks.f (k:Nat)(a0_0:Int)(l0_1:List Int)(a0_2:Int)(l1:List Int):Option (List Int) :=
 if 0 < l1.length∧l1.length≤100000 then (impl_ruleMasks.try_ k a0_0 l0_1 a0_2 l1 l1.length (List.replicate l1.length 0) (List.replicate l1.length 0)).bind fun t=>some t.2 else none
theorem impl_ruleMasks.calls (k:Nat)(a0_0:Int)(A0_1:Option Addr)(c0_1:Nat)(l0_1:List Int)(a0_2:Int)(A1:Option Addr)(c1:Nat)(l1:List Int)(r:List Int)(w:World)(hr0_1:Kd.C (Kd.int .i64) w A0_1 l0_1.length l0_1)(hc0_1:l0_1.length≤c0_1)(hr1:Kd.C (Kd.int .i64) w A1 l1.length l1)(hc1:l1.length≤c1)(h:impl_ruleMasks.f k a0_0 l0_1 a0_2 l1=some r) :
  Calls Try.prog 77 #[.agg #[.int .i64 a0_0,.slice A0_1 l0_1.length c0_1,.int .i64 a0_2],.slice A1 l1.length c1] w fun e w'=>∃ v0_:Value,e= .returned (v0_)∧Kd.R (Kd.int .i64) 3 w' w.heap.size (fun _=>True) v0_ r∧Below w.heap.size w w':=by
 unfold impl_ruleMasks.f at h
 by_cases hc:0 < l1.length∧l1.length≤100000
 ·rw [if_pos hc] at h
  obtain ⟨⟨t1,t2⟩,hT,h⟩:=Option.bind_eq_some_iff.1 h
  obtain rfl:=Option.some.inj h
  have HT:=yam hT
  have HN:=yam hc
  have HR0:=yam hr0_1
  have HC0:=yam hc0_1
  have HR1:=yam hr1
  have hu32:=Try.underlying32
  clear h hT hc hr0_1 hc0_1 hr1 hc1
  have HB:=yam (Below.refl w.heap.size w)
  go_enter Try.func77,Try.ntmps77
  go_upto_region 1 with (first
   | (refine ybe 2 #[.int .i64 a0_0,.slice A0_1 l0_1.length c0_1,.int .i64 a0_2] 32 ?_;intro gr hg w5 hbox hb;have n0_:=yam (below_step HB.out hb);have BR:=yam hbox;clear HB;have HB:=n0_;clear n0_ hb hbox hg)
   | (refine ybe 3 #[.slice A1 l1.length c1] 23 ?_;intro gown hg w6 hbox hb;have n0_:=yam (below_step HB.out hb);have BO:=yam hbox;have n1_:=yam (blk_below BR.out hb);clear HB BR;have HB:=n0_;have BR:=n1_;clear n0_ n1_ hb hbox hg))
  (try simp only [Act.put,List.setIfInBounds_toArray,List.set_cons_zero,List.set_cons_succ])
  have hcO:=(blk_cell BO.out 0).trans (rfl:_=some (Value.slice A1 l1.length c1))
  go_upto_region 2 with (first
   | ((with_reducible refine gate_dst (N:=10) rfl ?_);refine Kd.R_make (Kd.int .i64) _ 3 rfl (N:=10) rfl 23 _ _ rfl (l1.length:Int) rfl rfl Try.underlying23 (.int .i64 0) 8 info3 rfl (by decide) (by omega) 0 (ok:=fun _=>True) (okp:=fun _=>False) rfl (fun _ hk=>hk.elim) trivial (by omega) (by have:=HN.out;omega) (Below.refl _ _) (Nat.le_refl _) ?_;intro v10 w10 ho10 hb hg_ hnew_;clear hg_ hnew_;obtain ⟨go,cu,e10,_,_,_⟩:=Kd.R_form ho10 (by have:=HN.out;simp;omega);simp only [List.length_replicate,Int.toNat_natCast] at e10 ho10;subst e10;replace BR:=yam (blk_below BR.out hb);replace BO:=yam (blk_below BO.out hb);have HO:=yam (Kd.R_lower ho10 (below_size HB.out));replace HB:=yam (below_step HB.out hb);clear hcO ho10 hb;have hcz:=(impl_ruleMasks.newBox w10 (.slice none 0 0) (.int .i64 0) 23).2.2.1;have hfz:=(impl_ruleMasks.newBox w10 (.slice none 0 0) (.int .i64 0) 23).2.2.2))
  replace HB:=yam (show Below w.heap.size w (w10.alloc (Obj.cells #[Value.slice (some ⟨go,0,none⟩) l1.length cu] 23)) from below_alloc HB.out _)
  replace BR:=yam (show (w10.alloc (Obj.cells #[Value.slice (some ⟨go,0,none⟩) l1.length cu] 23)).heap[gr]?=_ from blk_alloc BR.out _)
  replace BO:=yam (show (w10.alloc (Obj.cells #[Value.slice (some ⟨go,0,none⟩) l1.length cu] 23)).heap[gown]?=_ from blk_alloc BO.out _)
  replace HO:=yam (show Kd.R (Kd.int .i64) 3 (w10.alloc (Obj.cells #[Value.slice (some ⟨go,0,none⟩) l1.length cu] 23)) w.heap.size _ _ _ from Kd.R_alloc HO.out _)
  have BU:=yam (show (w10.alloc (Obj.cells #[Value.slice (some ⟨go,0,none⟩) l1.length cu] 23)).heap[w10.heap.size]?=_ from heap_alloc_new w10 _)
  clear hcz hfz
  generalize w10.alloc (Obj.cells #[Value.slice (some ⟨go,0,none⟩) l1.length cu] 23)=W1 at HB BR BO HO BU ⊢
  generalize w10.heap.size=gout at BU ⊢
  have hcO:=(blk_cell BO.out 0).trans (rfl:_=some (Value.slice A1 l1.length c1))
  go_upto_region 3 with (first
   | ((with_reducible refine gate_dst (N:=13) rfl ?_);refine Kd.R_make (Kd.int .i64) _ 3 rfl (N:=13) rfl 23 _ _ rfl (l1.length:Int) rfl rfl Try.underlying23 (.int .i64 0) 8 info3 rfl (by decide) (by omega) 0 (ok:=fun _=>True) (okp:=fun _=>False) rfl (fun _ hk=>hk.elim) trivial (by omega) (by have:=HN.out;omega) (Below.refl _ _) (Nat.le_refl _) ?_;intro v13 w13 ho13 hb hg_ hnew_;clear hg_;obtain ⟨gv,cv,e13,_,_,_⟩:=Kd.R_form ho13 (by have:=HN.out;simp;omega);simp only [List.length_replicate,Int.toNat_natCast] at e13 ho13;subst e13;have HNE:=yam (show go < W1.heap.size∧W1.heap.size≤gv from ⟨Kd.R_lt HO.out go rfl,by obtain ⟨b_,e_,l_⟩:=hnew_;simp [Value.ownBlock] at e_;omega⟩);replace BR:=yam (blk_below BR.out hb);replace BO:=yam (blk_below BO.out hb);have HV:=yam (Kd.R_lower ho13 (below_size HB.out));replace HB:=yam (below_step HB.out hb);replace HO:=yam (Kd.R_below HO.out hb);replace BU:=yam (blk_below BU.out hb);clear hcO ho13 hb hnew_;have hcz:=(impl_ruleMasks.newBox w13 (.slice none 0 0) (.int .i64 0) 23).2.2.1;have hfz:=(impl_ruleMasks.newBox w13 (.slice none 0 0) (.int .i64 0) 23).2.2.2))
  replace HB:=yam (show Below w.heap.size w (w13.alloc (Obj.cells #[Value.slice (some ⟨gv,0,none⟩) l1.length cv] 23)) from below_alloc HB.out _)
  replace BR:=yam (show (w13.alloc (Obj.cells #[Value.slice (some ⟨gv,0,none⟩) l1.length cv] 23)).heap[gr]?=_ from blk_alloc BR.out _)
  replace BO:=yam (show (w13.alloc (Obj.cells #[Value.slice (some ⟨gv,0,none⟩) l1.length cv] 23)).heap[gown]?=_ from blk_alloc BO.out _)
  replace HO:=yam (show Kd.R (Kd.int .i64) 3 (w13.alloc (Obj.cells #[Value.slice (some ⟨gv,0,none⟩) l1.length cv] 23)) w.heap.size _ _ _ from Kd.R_alloc HO.out _)
  replace BU:=yam (show (w13.alloc (Obj.cells #[Value.slice (some ⟨gv,0,none⟩) l1.length cv] 23)).heap[gout]?=_ from blk_alloc BU.out _)
  have BV:=yam (show (w13.alloc (Obj.cells #[Value.slice (some ⟨gv,0,none⟩) l1.length cv] 23)).heap[w13.heap.size]?=_ from heap_alloc_new w13 _)
  replace HV:=yam (show Kd.R (Kd.int .i64) 3 (w13.alloc (Obj.cells #[Value.slice (some ⟨gv,0,none⟩) l1.length cv] 23)) w.heap.size _ _ _ from Kd.R_alloc HV.out _)
  clear hcz hfz
  generalize w13.alloc (Obj.cells #[Value.slice (some ⟨gv,0,none⟩) l1.length cv] 23)=W2 at HB BR BO HO BU BV HV ⊢
  generalize w13.heap.size=gval at BV ⊢
  have hcz:=(impl_ruleMasks.newBox W2 .nilFunc (.int .i64 0) 88).2.2.1
  have hfz:=(impl_ruleMasks.newBox W2 .nilFunc (.int .i64 0) 88).2.2.2
  have hsf:=fun (a:Addr) (c:Array Value) (w:World)=>run_store Try.prog w a (.func (.func 91) #[] c) .plain rfl
  go_upto_region 5 with (fail)
  clear hsf
  clear hcz hfz
  have n0_:=yam (show Below w.heap.size w (W2.alloc (Obj.cells #[(Value.func (.func 91) #[] #[.pointer (some ⟨gown,0,none⟩),.pointer (some ⟨gr,0,none⟩),.pointer (some ⟨gval,0,none⟩),.pointer (some ⟨gout,0,none⟩),.pointer (some ⟨W2.heap.size,0,none⟩)])] 88)) from below_alloc HB.out _)
  have n3_:=yam (show Kd.R (Kd.int .i64) 3 (W2.alloc (Obj.cells #[(Value.func (.func 91) #[] #[.pointer (some ⟨gown,0,none⟩),.pointer (some ⟨gr,0,none⟩),.pointer (some ⟨gval,0,none⟩),.pointer (some ⟨gout,0,none⟩),.pointer (some ⟨W2.heap.size,0,none⟩)])] 88)) w.heap.size (fun k_=>k_=go) _ _ from Kd.R_alloc (Kd.R_mono (Kd.R_tight rfl HO.out) (fun k_ hk_=>by simpa [Value.ownBlock] using hk_)) _)
  have n6_:=yam (show Kd.R (Kd.int .i64) 3 (W2.alloc (Obj.cells #[(Value.func (.func 91) #[] #[.pointer (some ⟨gown,0,none⟩),.pointer (some ⟨gr,0,none⟩),.pointer (some ⟨gval,0,none⟩),.pointer (some ⟨gout,0,none⟩),.pointer (some ⟨W2.heap.size,0,none⟩)])] 88)) w.heap.size (fun k_=>k_=gv) _ _ from Kd.R_alloc (Kd.R_mono (Kd.R_tight rfl HV.out) (fun k_ hk_=>by simpa [Value.ownBlock] using hk_)) _)
  have n7_:=yam (show impl_ruleMasks.Boxes (W2.alloc (Obj.cells #[(Value.func (.func 91) #[] #[.pointer (some ⟨gown,0,none⟩),.pointer (some ⟨gr,0,none⟩),.pointer (some ⟨gval,0,none⟩),.pointer (some ⟨gout,0,none⟩),.pointer (some ⟨W2.heap.size,0,none⟩)])] 88)) gown gr gval gout W2.heap.size gv go cv cu A1 c1 l1.length a0_0 A0_1 c0_1 l0_1.length a0_2 from ⟨blk_alloc BO.out _,blk_alloc BR.out _,blk_alloc BV.out _,blk_alloc BU.out _,heap_alloc_new W2 _⟩)
  have gv0:=Kd.R_base HV.out gv rfl
  have go0:=Kd.R_base HO.out go rfl
  clear HB HO HV BR BO BU BV
  have HB:=n0_
  have HO:=n3_
  have HV:=n6_
  have HX:=n7_
  clear n0_ n3_ n6_ n7_
  generalize (W2.alloc (Obj.cells #[(Value.func (.func 91) #[] #[.pointer (some ⟨gown,0,none⟩),.pointer (some ⟨gr,0,none⟩),.pointer (some ⟨gval,0,none⟩),.pointer (some ⟨gout,0,none⟩),.pointer (some ⟨W2.heap.size,0,none⟩)])] 88))=W3 at HB HO HV HX ⊢
  generalize W2.heap.size=gtry at HX ⊢
  have hcT:=(blk_cell HX.out.2.2.2.2 0).trans (rfl:_=some (Value.func (.func 91) #[] #[.pointer (some ⟨gown,0,none⟩),.pointer (some ⟨gr,0,none⟩),.pointer (some ⟨gval,0,none⟩),.pointer (some ⟨gout,0,none⟩),.pointer (some ⟨gtry,0,none⟩)]))
  go_wp2_with (first|(go_at_call 91;(refine (impl_ruleMasks.clo k a0_0 A0_1 c0_1 l0_1 a0_2 A1 c1 l1 gown gr gval gout gtry gv go cv cu w (by have:=HNE.out;omega) gv0 go0 HR0.out HC0.out HR1.out l1.length 0 (List.replicate l1.length 0) (List.replicate l1.length 0) t1 t2 _ (by omega) (Nat.le_refl _) HN.out.2 (by simp) (by simp) HV.out HO.out HX.out HB.out HT.out).mono ?_);rintro e w' ⟨rfl,HL1,HL2,hV,hO,hX,hB⟩;clear HV HO HX HB hcT hV HL1;have HO:=yam hO;have HB:=yam hB;have HL:=yam HL2;have hcU:=(blk_cell hX.2.2.2.1 0).trans (rfl:_=some (Value.slice (some ⟨go,0,none⟩) l1.length cu));clear hO hB hX HL2))
  go_ret
  exact ⟨_,rfl,Kd.R_mono HO.out (fun _ _=>trivial),HB.out⟩
 ·rw [if_neg hc] at h;cases h
def impl_canHold.l0:Nat→List Int→Int→List Int→List Int→Int→Int→Int→List Int→Int→Option (Bool)
 | 0,_,_,_,_,_,_,_,_,_=>none
 | k + 1,x1,x2,x7,x12,x13,x14,x701000,x701001,x701002=>if x14 < x13 then (if 0≤x14 then (if x14 < (x12.length:Int) then (if 0≤(rd x12 x14) then (if (rd x12 x14) < (x1.length:Int) then (if (rd x1 (rd x12 x14)) > 0 then (if 0≤(rd x1 (rd x12 x14)) then (if x7.length < 17592186044416 then (impl_canHold.l0 k x1 x2 (x7 ++ [shl .i64 1 (rd x1 (rd x12 x14))]) x12 x13 (wrap64 (x14 + 1)) x701000 x701001 x701002) else (none)) else (none)) else ((impl_allValues.f x2).bind fun t710=>(if x7.length < 17592186044416 then (impl_canHold.l0 k x1 x2 (x7 ++ [t710]) x12 x13 (wrap64 (x14 + 1)) x701000 x701001 x701002) else (none)))) else (none)) else (none)) else (none)) else (none)) else ((impl_ruleMasks.f k x701000 x701001 x701002 x7).bind fun t714=>(if 0 < (t714.length:Int) then (some ((rd t714 0) != 0)) else (none)))
def impl_canHold.f (k:Nat)(a0_0:Int)(l0_1:List Int)(a0_2:Int)(l1:List Int)(a2:Int):Option (Bool):=impl_canHold.l0 k l1 a2 (([]:List Int)) l0_1 (l0_1.length:Int) 0 a0_0 l0_1 a0_2
theorem impl_canHold.calls (k:Nat)(a0_0:Int)(A0_1:Option Addr)(c0_1:Nat)(l0_1:List Int)(a0_2:Int)(A1:Option Addr)(c1:Nat)(l1:List Int)(a2:Int)(r:Bool)(w:World)(hr0_1:Kd.C (Kd.int .i64) w A0_1 l0_1.length l0_1)(hc0_1:l0_1.length≤c0_1)(hr1:Kd.C (Kd.int .i64) w A1 l1.length l1)(hc1:l1.length≤c1)(h:impl_canHold.f k a0_0 l0_1 a0_2 l1 a2=some r) :
  Calls Try.prog 79 #[.agg #[.int .i64 a0_0,.slice A0_1 l0_1.length c0_1,.int .i64 a0_2],.slice A1 l1.length c1,.int .i64 a2] w fun e w'=>e= .returned (.bool r)∧Below w.heap.size w w':=by
 have hu32:=Try.underlying32
 have HR0_1:=yam hr0_1
 have HC0_1:=yam hc0_1
 clear hr0_1 hc0_1
 have HR1:=yam hr1
 have HC1:=yam hc1
 clear hr1 hc1
 have HB:=yam (Below.refl w.heap.size w)
 unfold impl_canHold.f at h
 have H:=h
 clear h
 obtain ⟨y701,Ny701⟩:∃ y_:List Int,Aside0 (y_=(([]:List Int))):=⟨_,⟨rfl⟩⟩
 replace H:(impl_canHold.l0 k l1 a2 y701 l0_1 (l0_1.length:Int) 0 a0_0 l0_1 a0_2)=some r:=yhn Ny701.out H
 replace H:=yam H
 go_enter Try.func79,Try.ntmps79
 go_wp2_with (first|(refine ybe 3 #[.int .i64 a0_0,.slice A0_1 l0_1.length c0_1,.int .i64 a0_2] 32 ?_;intro gb700 hg w4 hbox hb;have BK700:=yam (hbox);have GW700:=yam ((by rw [hg];exact (below_size (yez HB.out)):w.heap.size≤gb700));replace HB:=yam (below_step (yez HB.out) hb);have GE700:=GW700;clear hb hbox hg)|((with_reducible refine gate_dst (N:=10) rfl ?_);refine Kd.R_lit (Kd.int .i64) _ 3 ?hg (N:=10) ?hd (xs:=([]:List Int)) (inner:=[]) (ok:=fun _=>True) (okp:=fun _=>True) ?hr ?hp (fun _ hk=>hk) trivial (Below.refl _ _) (Nat.le_refl _) (by simp) ?_;(case hd=>rfl);(case hg=>rfl);(case hr=>first|(go_simp;done)|(go_simp;rfl));(case hp=>exact (Reps.none _ _));intro v702 w5 ho6 hb hg_ hnew_;clear hg_ hnew_;(first|rw [← Ny701.out] at ho6|(simp only [Int.reduceToNat] at ho6;rw [← Ny701.out] at ho6));have HO703:=yam (Kd.R_lower ho6 (below_size yhb));replace BK700:=yam (ybb BK700.out hb);replace HB:=yam (below_step yhb hb);clear hb ho6;obtain ⟨hcz7_0,hcz7_1,hcz7_2,hfz7_0,hfz7_1,hfz7_2⟩:=ybc BK700.out))
 go_loopg [7,14] k (fun kq v7 v14 w'=>∃ (x7_1:List Int) (x14_1:Int),v14= .int .i64 x14_1∧Aside0 (impl_canHold.l0 kq l1 a2 x7_1 l0_1 (l0_1.length:Int) x14_1 a0_0 l0_1 a0_2=some r)∧Aside0 (kq≤k)∧Aside0 (Kd.R (Kd.int .i64) 3 w' w.heap.size (fun _=>True) v7 x7_1)∧Aside0 (w'.heap[gb700]?=some (.cells #[.int .i64 a0_0,(.slice A0_1 l0_1.length c0_1),.int .i64 a0_2] 32 (0,0)))∧Aside0 (Below w.heap.size w w'))
 case atStart=>exact ⟨(y701),(0),yeq,H,⟨Nat.le_refl _⟩,⟨yka HO703.out⟩,⟨ybk BK700.out⟩,⟨yhb⟩⟩
 case round =>
  clear H
  try clear c1
  try clear hcz7_0
  try clear hcz7_1
  try clear hcz7_2
  try clear hfz7_0
  try clear hfz7_1
  try clear hfz7_2
  obtain ⟨x7_1,x14_1,rfl,HA,HK1,HO_7,BK700,HB⟩:=hrel
  rcases gk with _|k1
  ·exact absurd HA.out (by simp [impl_canHold.l0])
  obtain ⟨H⟩:=HA
  simp only [impl_canHold.l0] at H
  replace H:=yis H;obtain ⟨c8b0,H⟩ | ⟨c8b0,H⟩:=H
  rotate_left
  ·replace H:=ybi H;obtain ⟨t714,A21,H⟩:=H
   try dsimp only at H
   replace H:=yit H;obtain ⟨c22,H⟩ | ⟨c22,H⟩:=H
   rotate_left
   ·exact absurd H (by simp)
   have c22b0:decide (0 < (t714.length:Int))=true:=decide_eq_true c22
   have c22b1:decide (0 < t714.length)=true:=decide_eq_true (by omega)
   clear c22
   obtain rfl:=ysi H
   obtain ⟨hcz23_0,hcz23_1,hcz23_2,hfz23_0,hfz23_1,hfz23_2⟩:=ybc BK700.out
   obtain ⟨Ao24,co24,eo24⟩:=Kd.R_slice HO_7.out
   subst eo24
   go_wp2_with (first|(refine goesL_ (some 39) rfl rfl Try.func77 (by kernel_rfl) rfl #[.agg #[.int .i64 a0_0,.slice A0_1 l0_1.length c0_1,.int .i64 a0_2],.slice Ao24 x7_1.length co24] rfl ymd ?_;(with_reducible refine (impl_ruleMasks.calls k1 a0_0 _ _ l0_1 a0_2 _ _ x7_1 t714 _ ?_ ?_ ?_ ?_ A21.out).mono ?_);exact Kd.Cz ((Kd.C_below HR0_1.out HB.out));exact HC0_1.out;exact Kd.Cz (Kd.Yr HO_7.out).2.2;exact (Kd.Yr HO_7.out).2.1;rintro e w25 ⟨v715,rfl,ho0,hb⟩;refine ⟨_,rfl,?_⟩;have HO716:=yam (Kd.R_lower (Kd.Yw ho0 (Kd.R_lt (Kd.Yz HO_7.out))) (below_size yhb));replace HO_7:=yam (Kd.Ye (Kd.Yz HO_7.out) (Kd.Yb ho0) hb);replace BK700:=yam (ybb BK700.out hb);replace HB:=yam (below_step yhb hb);(try clear hb);(try clear ho0);obtain ⟨Ao26,co26,eo26⟩:=Kd.R_slice HO716.out;subst eo26;have p717:0≤(0:Int):=(by omega);have q717:0 < (t714.length:Int):=ydt;obtain ⟨ad717,e717,hx717_0⟩:=Kd.at_int (Kd.Yr HO716.out).2.2 0 p717 q717;cases e717;have qi717:(0 < t714.length)=True:=eq_true (by omega);(try rw [show ((0:Int)).toNat=0 from rfl] at hx717_0);(try rw [Addr.add_zero'] at hx717_0);replace p717:=eq_true p717;replace q717:=eq_true q717))
   go_ret
   exact ⟨yer,yhb⟩
  replace H:=yif H;obtain ⟨c9b0,H⟩:=H
  replace H:=yif H;obtain ⟨c10b0,H⟩:=H
  replace H:=yif H;obtain ⟨c11b0,H⟩:=H
  replace H:=yif H;obtain ⟨c12b0,H⟩:=H
  replace H:=yis H;obtain ⟨c13b0,H⟩ | ⟨c13b0,H⟩:=H
  rotate_left
  ·replace H:=ybi H;obtain ⟨t710,A18,H⟩:=H
   try dsimp only at H
   replace H:=yig H;obtain ⟨c19,H⟩:=H
   have LMc19:=yam c19
   clear c19
   obtain ⟨y711,Ny711⟩:∃ y_:List Int,Aside0 (y_=(x7_1 ++ [t710])):=⟨_,⟨rfl⟩⟩
   replace H:(impl_canHold.l0 k1 l1 a2 y711 l0_1 (l0_1.length:Int) (wrap64 (x14_1 + 1)) a0_0 l0_1 a0_2)=some r:=yhn Ny711.out H
   replace H:=yam H
   obtain ⟨ad704,e704,hx704_0,p704,q704⟩:=yat HR0_1.out x14_1
   cases e704
   replace hx704_0:=ybx HB.out hx704_0
   obtain ⟨ad705,e705,hx705_0,p705,q705⟩:=yat HR1.out (rd l0_1 x14_1)
   cases e705
   replace hx705_0:=ybx HB.out hx705_0
   go_wp2_with (first|(refine goesL_ (some 33) rfl rfl Try.func61 (by kernel_rfl) rfl #[.int .i64 a2] rfl ymd ?_;(with_reducible refine (impl_allValues.calls a2 t710 _ A18.out).mono ?_);rintro e w' ⟨rfl,⟨nd,rfl⟩⟩;refine ⟨_,rfl,?_⟩)|((with_reducible refine gate_builtin (b:= .append) (xs:= #[.tmp 31,.tmp 34]) rfl ?_);at_builtin;refine Kd.R_append (Kd.int .i64) (w0:=w) w.heap.size rfl (.tmp 31) (.tmp 34) 23 3 (.int .i64 0) 8 rfl Try.underlying23 info3 rfl (by decide) (by omega) u7 x7_1 t710 [.int .i64 t710] (fun _=>True) (fun _=>False) rfl rfl ?aP (fun _ hk=>hk.elim) ?aF ?aO ?aB ?aS ?aL ?_;(case aP=>exact rfl);(case aB=>exact yhb);(case aF=>exact (fun _ _=>trivial));(case aO=>exact (Kd.Yz HO_7.out));(case aS=>exact (below_size yhb));(case aL=>have:=LMc19.out;omega);intro v712 w20 ho hb hg hat;rw [← Ny711.out] at ho;replace BK700:=yam (blk_grown (g:=gb700) (o:= .cells #[.int .i64 a0_0,.slice (some ad704) l0_1.length c0_1,.int .i64 a0_2] 32 (0,0)) (ybz BK700.out) hg (Kd.R_ne HO_7.out BK700.out (by decide)));replace HB:=yam (hb);have HO713:=yam (ho);clear HO_7;clear ho hb hg hat))
   go_roundg k1
   case measure=>have:=HK1.out;omega
   case rel=>exact ⟨(y711),(wrap64 (x14_1 + 1)),yeq,H,⟨by have:=HK1.out;omega⟩,⟨yka HO713.out⟩,⟨ybk BK700.out⟩,⟨yhb⟩⟩
  replace H:=yig H;obtain ⟨c14,H⟩:=H
  have c14b0:=eq_true c14
  have c14b1:decide (0≤(rd l1 (rd l0_1 x14_1)))=true:=decide_eq_true c14
  clear c14
  obtain ⟨ji15,hji15⟩:∃ j_:Int,(shl .i64 1 (rd l1 (rd l0_1 x14_1)))=j_:=⟨_,rfl⟩
  replace H:(if x7_1.length < 17592186044416 then (impl_canHold.l0 k1 l1 a2 (x7_1 ++ [ji15]) l0_1 (l0_1.length:Int) (wrap64 (x14_1 + 1)) a0_0 l0_1 a0_2) else (none))=some r:=by first|(rw [hji15] at H;exact H)|(simp only [hji15] at H ⊢;exact H)
  have hji15_:(IntKind.i64.wrap (1 * 2 ^ min (rd l1 (rd l0_1 x14_1)).toNat 64))=ji15:=hji15
  have hji15z:(rd l1 (rd l0_1 x14_1))≤64→(IntKind.i64.wrap (1 * 2 ^ (rd l1 (rd l0_1 x14_1)).toNat))=ji15:=shl_small hji15
  have hji15u:(IntKind.i64.wrap (2 ^ min (rd l1 (rd l0_1 x14_1)).toNat 64))=ji15:=by have h_:=hji15_;rw [Int.one_mul] at h_;exact h_
  have hji15v:(rd l1 (rd l0_1 x14_1))≤64→(IntKind.i64.wrap (2 ^ (rd l1 (rd l0_1 x14_1)).toNat))=ji15:=fun hle_=>by have h_:=hji15z hle_;rw [Int.one_mul] at h_;exact h_
  have hji15y:(wrap64 (1 * 2 ^ min (rd l1 (rd l0_1 x14_1)).toNat 64))=ji15:=(i64_w _).symm.trans hji15_
  have hji15x:(rd l1 (rd l0_1 x14_1))≤64→(wrap64 (1 * 2 ^ (rd l1 (rd l0_1 x14_1)).toNat))=ji15:=fun h_=>(i64_w _).symm.trans (hji15z h_)
  replace H:=yig H;obtain ⟨c16,H⟩:=H
  have LMc16:=yam c16
  clear c16
  obtain ⟨y707,Ny707⟩:∃ y_:List Int,Aside0 (y_=(x7_1 ++ [ji15])):=⟨_,⟨rfl⟩⟩
  replace H:(impl_canHold.l0 k1 l1 a2 y707 l0_1 (l0_1.length:Int) (wrap64 (x14_1 + 1)) a0_0 l0_1 a0_2)=some r:=yhn Ny707.out H
  replace H:=yam H
  obtain ⟨ad704,e704,hx704_0,p704,q704⟩:=yat HR0_1.out x14_1
  cases e704
  replace hx704_0:=ybx HB.out hx704_0
  obtain ⟨ad705,e705,hx705_0,p705,q705⟩:=yat HR1.out (rd l0_1 x14_1)
  cases e705
  replace hx705_0:=ybx HB.out hx705_0
  obtain ⟨ad706,e706,hx706_0,p706,q706⟩:=yat HR1.out (rd l0_1 x14_1)
  obtain rfl:ad705=ad706:=(by injection e706)
  replace hx706_0:=ybx HB.out hx706_0
  go_wp2_with (first|((with_reducible refine gate_builtin (b:= .append) (xs:= #[.tmp 23,.tmp 29]) rfl ?_);at_builtin;refine Kd.R_append (Kd.int .i64) (w0:=w) w.heap.size rfl (.tmp 23) (.tmp 29) 23 3 (.int .i64 0) 8 rfl Try.underlying23 info3 rfl (by decide) (by omega) u7 x7_1 ji15 [.int .i64 ji15] (fun _=>True) (fun _=>False) rfl rfl ?aP (fun _ hk=>hk.elim) ?aF ?aO ?aB ?aS ?aL ?_;(case aP=>exact rfl);(case aB=>exact yhb);(case aF=>exact (fun _ _=>trivial));(case aO=>exact (Kd.Yz HO_7.out));(case aS=>exact (below_size yhb));(case aL=>have:=LMc16.out;omega);intro v708 w17 ho hb hg hat;rw [← Ny707.out] at ho;replace BK700:=yam (blk_grown (g:=gb700) (o:= .cells #[.int .i64 a0_0,.slice (some ad704) l0_1.length c0_1,.int .i64 a0_2] 32 (0,0)) (ybz BK700.out) hg (Kd.R_ne HO_7.out BK700.out (by decide)));replace HB:=yam (hb);have HO709:=yam (ho);clear HO_7;clear ho hb hg hat))
  go_roundg k1
  case measure=>have:=HK1.out;omega
  case rel=>exact ⟨(y707),(wrap64 (x14_1 + 1)),yeq,H,⟨by have:=HK1.out;omega⟩,⟨yka HO709.out⟩,⟨ybk BK700.out⟩,⟨yhb⟩⟩
def impl_RulePossible.f (k:Nat)(a0_0:Int)(l0_1:List Int)(a0_2:Int)(l1:List Int)(a2:Int):Option (Bool):=(impl_RuleValid.f k a0_0 l0_1 a0_2 a2).bind fun t719=>(if t719=true then ((impl_GridValid.f k l1 a2).bind fun t720=>(if t720=true then ((impl_canHold.f k a0_0 l0_1 a0_2 l1 a2).bind fun t721=>(some t721)) else (some false))) else (some false))
theorem impl_RulePossible.calls (k:Nat)(a0_0:Int)(A0_1:Option Addr)(c0_1:Nat)(l0_1:List Int)(a0_2:Int)(A1:Option Addr)(c1:Nat)(l1:List Int)(a2:Int)(r:Bool)(w:World)(hr0_1:Kd.C (Kd.int .i64) w A0_1 l0_1.length l0_1)(hc0_1:l0_1.length≤c0_1)(hr1:Kd.C (Kd.int .i64) w A1 l1.length l1)(hc1:l1.length≤c1)(h:impl_RulePossible.f k a0_0 l0_1 a0_2 l1 a2=some r) :
  Calls Try.prog 44 #[.agg #[.int .i64 a0_0,.slice A0_1 l0_1.length c0_1,.int .i64 a0_2],.slice A1 l1.length c1,.int .i64 a2] w fun e w'=>e= .returned (.bool r)∧Below w.heap.size w w':=by
 have hu32:=Try.underlying32
 have HR0_1:=yam hr0_1
 have HC0_1:=yam hc0_1
 clear hr0_1 hc0_1
 have HR1:=yam hr1
 have HC1:=yam hc1
 clear hr1 hc1
 have HB:=yam (Below.refl w.heap.size w)
 unfold impl_RulePossible.f at h
 have H:=h
 clear h
 replace H:=ybi H;obtain ⟨t719,A4,H⟩:=H
 try dsimp only at H
 cases t719
 ·replace H:=yff H
  obtain rfl:=ysi H
  go_enter Try.func44,Try.ntmps44
  go_wp2_with (first|(refine ybe 3 #[.int .i64 a0_0,.slice A0_1 l0_1.length c0_1,.int .i64 a0_2] 32 ?_;intro gb718 hg w17 hbox hb;have BK718:=yam (hbox);have GW718:=yam ((by rw [hg];exact (below_size (yez HB.out)):w.heap.size≤gb718));replace HB:=yam (below_step (yez HB.out) hb);have GE718:=GW718;clear hb hbox hg;obtain ⟨hcz18_0,hcz18_1,hcz18_2,hfz18_0,hfz18_1,hfz18_2⟩:=ybc BK718.out)|(refine goesL_ (some 9) rfl rfl Try.func23 (by kernel_rfl) rfl #[.agg #[.int .i64 a0_0,.slice A0_1 l0_1.length c0_1,.int .i64 a0_2],.int .i64 a2] rfl ymd ?_;(with_reducible refine (impl_RuleValid.calls k a0_0 _ _ l0_1 a0_2 a2 false _ ?_ ?_ A4.out).mono ?_);exact Kd.Cz ((Kd.C_below HR0_1.out HB.out));exact HC0_1.out;rintro e w19 ⟨rfl,hb⟩;refine ⟨_,rfl,?_⟩;replace BK718:=yam (ybb BK718.out hb);replace HB:=yam (below_step yhb hb);(try clear hb)))
  go_ret
  exact ⟨yer,yhb⟩
 replace H:=ytt H
 replace H:=ybi H;obtain ⟨t720,A6,H⟩:=H
 try dsimp only at H
 cases t720
 ·replace H:=yff H
  obtain rfl:=ysi H
  go_enter Try.func44,Try.ntmps44
  go_wp2_with (first|(refine ybe 3 #[.int .i64 a0_0,.slice A0_1 l0_1.length c0_1,.int .i64 a0_2] 32 ?_;intro gb718 hg w14 hbox hb;have BK718:=yam (hbox);have GW718:=yam ((by rw [hg];exact (below_size (yez HB.out)):w.heap.size≤gb718));replace HB:=yam (below_step (yez HB.out) hb);have GE718:=GW718;clear hb hbox hg;obtain ⟨hcz15_0,hcz15_1,hcz15_2,hfz15_0,hfz15_1,hfz15_2⟩:=ybc BK718.out)|(refine goesL_ (some 9) rfl rfl Try.func23 (by kernel_rfl) rfl #[.agg #[.int .i64 a0_0,.slice A0_1 l0_1.length c0_1,.int .i64 a0_2],.int .i64 a2] rfl ymd ?_;(with_reducible refine (impl_RuleValid.calls k a0_0 _ _ l0_1 a0_2 a2 true _ ?_ ?_ A4.out).mono ?_);exact Kd.Cz ((Kd.C_below HR0_1.out HB.out));exact HC0_1.out;rintro e w16 ⟨rfl,hb⟩;refine ⟨_,rfl,?_⟩;replace BK718:=yam (ybb BK718.out hb);replace HB:=yam (below_step yhb hb);(try clear hb))|(go_at_call 60;(with_reducible refine (impl_GridValid.calls k _ _ l1 a2 false _ ?_ ?_ A6.out).mono ?_);exact Kd.Cz ((Kd.C_below HR1.out HB.out));exact HC1.out;rintro e w' ⟨rfl,⟨nd,rfl⟩⟩))
  go_ret
  exact ⟨yer,yhb⟩
 replace H:=ytt H
 replace H:=ybi H;obtain ⟨t721,A8,H⟩:=H
 try dsimp only at H
 obtain rfl:=ysi H
 go_enter Try.func44,Try.ntmps44
 go_wp2_with (first|(refine ybe 3 #[.int .i64 a0_0,.slice A0_1 l0_1.length c0_1,.int .i64 a0_2] 32 ?_;intro gb718 hg w9 hbox hb;have BK718:=yam (hbox);have GW718:=yam ((by rw [hg];exact (below_size (yez HB.out)):w.heap.size≤gb718));replace HB:=yam (below_step (yez HB.out) hb);have GE718:=GW718;clear hb hbox hg;obtain ⟨hcz10_0,hcz10_1,hcz10_2,hfz10_0,hfz10_1,hfz10_2⟩:=ybc BK718.out)|(refine goesL_ (some 9) rfl rfl Try.func23 (by kernel_rfl) rfl #[.agg #[.int .i64 a0_0,.slice A0_1 l0_1.length c0_1,.int .i64 a0_2],.int .i64 a2] rfl ymd ?_;(with_reducible refine (impl_RuleValid.calls k a0_0 _ _ l0_1 a0_2 a2 true _ ?_ ?_ A4.out).mono ?_);exact Kd.Cz ((Kd.C_below HR0_1.out HB.out));exact HC0_1.out;rintro e w11 ⟨rfl,hb⟩;refine ⟨_,rfl,?_⟩;replace BK718:=yam (ybb BK718.out hb);replace HB:=yam (below_step yhb hb);(try clear hb))|(go_at_call 60;(with_reducible refine (impl_GridValid.calls k _ _ l1 a2 true _ ?_ ?_ A6.out).mono ?_);exact Kd.Cz ((Kd.C_below HR1.out HB.out));exact HC1.out;rintro e w' ⟨rfl,⟨nd,rfl⟩⟩;obtain ⟨hcz12_0,hcz12_1,hcz12_2,hfz12_0,hfz12_1,hfz12_2⟩:=ybc BK718.out)|(go_at_call 79;(with_reducible refine (impl_canHold.calls k a0_0 _ _ l0_1 a0_2 _ _ l1 a2 t721 _ ?side1 ?side2 ?side3 ?side4 A8.out).mono ?_);(case side1=>repeat (first|exact (Kd.C_below HR0_1.out yhb)|(with_reducible refine Kd.C_alloc ?_ _)|(with_reducible refine Kd.C_drewN ?_ _)|(with_reducible refine Kd.C_drew ?_)));(case side2=>exact HC0_1.out);(case side3=>repeat (first|exact (Kd.C_below HR1.out yhb)|(with_reducible refine Kd.C_alloc ?_ _)|(with_reducible refine Kd.C_drewN ?_ _)|(with_reducible refine Kd.C_drew ?_)));(case side4=>exact HC1.out);rintro e w13 ⟨rfl,hb⟩;replace BK718:=yam (ybb BK718.out hb);replace HB:=yam (below_step yhb hb);(try clear hb)))
 go_ret
 exact ⟨yer,yhb⟩
end Go.Proofs.Ythfbjkniinfgcaa.P
