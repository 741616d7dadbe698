/- The machine's side: each Go function as a plain Lean function and the proof that the machine's call does what that function says; written by this session's own program over the kit's print. -/
import Derived.ArgAppend
import Derived.Below
import Derived.BigQuiet
import Derived.Deep.AppendLies
import Derived.Deep.CutBlock
import Derived.Deep.DeepCutAuto
import Derived.Deep.Draws
import Derived.Deep.LoopGhost
import Derived.Deep.OwnRows
import Derived.Deep.QuietTactic
import Derived.Deep.RegionHeld3
import Derived.KernelRfl
import Derived.Laws.BitsLemmas
import Derived.Laws.BytesArg
import Derived.Laws.IdiomCopy
import Derived.Laws.MakeOwn
import Derived.Laws.OwnMore
import Derived.Laws.Rows
import Derived.Laws.Slices
import Derived.Lib.AppendStr
import Derived.Lib.ConvBytes
import Derived.Maps.AppendAt
import Derived.OrdersHeld
import Derived.OwnWalk
import Derived.RowKit
import Derived.RowKit3
import Derived.Tactics
import Derived.Test.YthfbjkniinfgcaaProg
import Derived.Test.YthfbjkniinfgcaaZW
import Derived.WalkKit
import Derived.WideLaws
namespace Go.Proofs.Ythfbjkniinfgcaa.P
set_option maxHeartbeats 8000000
set_option maxRecDepth 100000
open Go.RowKit Go.Proofs.YthfbjkniinfgcaaW.PrintWords Go.Proofs.YthfbjkniinfgcaaW.PrintLast Go.Proofs.YthfbjkniinfgcaaW.PrintMore
attribute [local go_sem] max2_int min2_int max_two min_two max_three min_three max_four min_four   -- for this text's walks alone
set_option linter.unusedVariables false
set_option linter.unusedSimpArgs false
def errW:Option Int→Value
 | none=> .nilIface
 | some c=> .iface 0 (.int .i64 c)
theorem errW_none:errW none= .nilIface:=rfl
theorem errW_some (c:Int):errW (some c)= .iface 0 (.int .i64 c):=rfl

theorem info3:(Try.prog.info? 3).map (fun i=>(i.zero,i.size,i.bytes))=some (some (.int .i64 0),1,8):=by kernel_rfl
theorem info5:(Try.prog.info? 5).map (fun i=>(i.zero,i.size,i.bytes))=some (some (.int .u8 0),1,1):=by kernel_rfl
theorem info32:(Try.prog.info? 32).map (fun i=>(i.zero,i.size,i.bytes))=some (some (.agg #[(.int .i64 0),(.slice none 0 0),(.int .i64 0)]),3,40):=by kernel_rfl
theorem info47:(Try.prog.info? 47).map (fun i=>(i.zero,i.size,i.bytes))=some (some (.agg #[(.int .i64 0),(.slice none 0 0),(.int .i64 0)]),3,40):=by kernel_rfl
-- the values' own types
def rd_L2 (xs:List (List Int))(i:Int):(List Int):=xs.getD i.toNat ([]:List Int)
theorem at_L2 {w:World}{A:Option Addr}{n:Nat}{xs:List (List Int)}(h:Kd.C (Kd.slice 3 (Kd.int .i64)) w A n xs)(i:Int)(h0:0≤i)(h1:i < n):∃ ad A0 c0,A=some ad∧w.cell? (ad.add i.toNat)=some (.slice A0 (rd_L2 xs i).length c0)∧(rd_L2 xs i).length≤c0∧(Kd.int .i64).C w A0 (rd_L2 xs i).length (rd_L2 xs i):=by
 obtain ⟨ad,c,e,_,hK,hc0⟩:=Kd.C_get h ([]:List Int) i h0 h1
 have hc:∀ j u,c[j]?=some u→w.cell? (ad.add (i.toNat * 1 + j))=some u:=hc0
 obtain ⟨A0,c0,rfl,l0,g0⟩:=hK
 exact ⟨ad,A0,c0,e,by have hq:=hc 0 _ rfl;rwa [Nat.mul_one,Nat.add_zero] at hq,l0,g0⟩

structure S47 where
 f0:Int
 f1:(List Int)
 f2:Int
def z47:S47:=⟨(0:Int),([]:List Int),(0:Int)⟩
def k47:Kd S47:=Kd.iso (Kd.pair (Kd.int .i64) (Kd.pair (Kd.slice 3 (Kd.int .i64)) (Kd.int .i64))) (fun x:S47=>(x.f0,x.f1,x.f2))
theorem k47_heap:Kd.Heap k47:=Kd.heap_iso _ (Kd.heap_pair (Kd.heap_int .i64) (Kd.heap_pair (Kd.heap_slice 3 (Kd.heap_int .i64)) (Kd.heap_int .i64)))
theorem k47_open {w:World}{x:S47}{cs:List Value}(h:k47.K w x cs):∃ A1 c1,cs=[.int .i64 x.f0,.slice A1 x.f1.length c1,.int .i64 x.f2]∧x.f1.length≤c1∧(Kd.int .i64).C w A1 x.f1.length x.f1:=by
 obtain ⟨_,_,rfl,rfl,⟨_,_,rfl,⟨A1,c1,rfl,l1,g1⟩,rfl⟩⟩:=h
 exact ⟨A1,c1,rfl,l1,g1⟩
theorem k47_openM {w:World}{base:Nat}{ok:Nat→Prop}{x:S47}{cs:List Value}(h:k47.M w base ok x cs):∃ v1,cs=[.int .i64 x.f0,v1,.int .i64 x.f2]∧(Kd.int .i64).R 3 w base ok v1 x.f1:=by
 obtain ⟨_,_,rfl,rfl,⟨_,_,rfl,⟨v1,rfl,g1⟩,rfl⟩⟩:=h
 exact ⟨v1,rfl,g1⟩
theorem k47_mk (w:World)(x:S47){A1:Option Addr}{c1:Nat}(l1:x.f1.length≤c1)(g1:(Kd.int .i64).C w A1 x.f1.length x.f1):k47.K w x [.int .i64 x.f0,.slice A1 x.f1.length c1,.int .i64 x.f2]:=⟨[.int .i64 x.f0],[.slice A1 x.f1.length c1,.int .i64 x.f2],rfl,rfl,⟨[.slice A1 x.f1.length c1],[.int .i64 x.f2],rfl,⟨A1,c1,rfl,l1,g1⟩,rfl⟩⟩
theorem k47_mkM (w:World)(base:Nat)(ok:Nat→Prop)(x:S47){v1:Value}(g1:(Kd.int .i64).R 3 w base ok v1 x.f1):k47.M w base ok x [.int .i64 x.f0,v1,.int .i64 x.f2]:=⟨[.int .i64 x.f0],[v1,.int .i64 x.f2],rfl,rfl,⟨[v1],[.int .i64 x.f2],rfl,⟨v1,rfl,g1⟩,rfl⟩⟩
def rd_T47 (xs:List S47)(i:Int):S47:=xs.getD i.toNat z47
theorem at_T47 {w:World}{A:Option Addr}{n:Nat}{xs:List S47}(h:Kd.C k47 w A n xs)(i:Int)(h0:0≤i)(h1:i < n):∃ ad A1 c1,A=some ad∧w.cell? (ad.add (i.toNat * 3))=some (.int .i64 (rd_T47 xs i).f0)∧w.cell? ⟨(ad.add (i.toNat * 3)).block,(ad.add (i.toNat * 3)).off + 1,none⟩=some (.slice A1 (rd_T47 xs i).f1.length c1)∧w.cell? ⟨(ad.add (i.toNat * 3)).block,(ad.add (i.toNat * 3)).off + 2,none⟩=some (.int .i64 (rd_T47 xs i).f2)∧(rd_T47 xs i).f1.length≤c1∧(Kd.int .i64).C w A1 (rd_T47 xs i).f1.length (rd_T47 xs i).f1:=by
 obtain ⟨ad,c,e,_,hK,hc0⟩:=Kd.C_get h z47 i h0 h1
 have hc:∀ j u,c[j]?=some u→w.cell? (ad.add (i.toNat * 3 + j))=some u:=hc0
 obtain ⟨A1,c1,rfl,l1,g1⟩:=k47_open hK
 exact ⟨ad,A1,c1,e,hc 0 _ rfl,by rw [← add_field _ _ 1 (by omega)];exact hc 1 _ rfl,by rw [← add_field _ _ 2 (by omega)];exact hc 2 _ rfl,l1,g1⟩

structure S32 where
 f0:Int
 f1:(List Int)
 f2:Int
def z32:S32:=⟨(0:Int),([]:List Int),(0:Int)⟩
def k32:Kd S32:=Kd.iso (Kd.pair (Kd.int .i64) (Kd.pair (Kd.slice 3 (Kd.int .i64)) (Kd.int .i64))) (fun x:S32=>(x.f0,x.f1,x.f2))
theorem k32_heap:Kd.Heap k32:=Kd.heap_iso _ (Kd.heap_pair (Kd.heap_int .i64) (Kd.heap_pair (Kd.heap_slice 3 (Kd.heap_int .i64)) (Kd.heap_int .i64)))
theorem k32_open {w:World}{x:S32}{cs:List Value}(h:k32.K w x cs):∃ A1 c1,cs=[.int .i64 x.f0,.slice A1 x.f1.length c1,.int .i64 x.f2]∧x.f1.length≤c1∧(Kd.int .i64).C w A1 x.f1.length x.f1:=by
 obtain ⟨_,_,rfl,rfl,⟨_,_,rfl,⟨A1,c1,rfl,l1,g1⟩,rfl⟩⟩:=h
 exact ⟨A1,c1,rfl,l1,g1⟩
theorem k32_openM {w:World}{base:Nat}{ok:Nat→Prop}{x:S32}{cs:List Value}(h:k32.M w base ok x cs):∃ v1,cs=[.int .i64 x.f0,v1,.int .i64 x.f2]∧(Kd.int .i64).R 3 w base ok v1 x.f1:=by
 obtain ⟨_,_,rfl,rfl,⟨_,_,rfl,⟨v1,rfl,g1⟩,rfl⟩⟩:=h
 exact ⟨v1,rfl,g1⟩
theorem k32_mk (w:World)(x:S32){A1:Option Addr}{c1:Nat}(l1:x.f1.length≤c1)(g1:(Kd.int .i64).C w A1 x.f1.length x.f1):k32.K w x [.int .i64 x.f0,.slice A1 x.f1.length c1,.int .i64 x.f2]:=⟨[.int .i64 x.f0],[.slice A1 x.f1.length c1,.int .i64 x.f2],rfl,rfl,⟨[.slice A1 x.f1.length c1],[.int .i64 x.f2],rfl,⟨A1,c1,rfl,l1,g1⟩,rfl⟩⟩
theorem k32_mkM (w:World)(base:Nat)(ok:Nat→Prop)(x:S32){v1:Value}(g1:(Kd.int .i64).R 3 w base ok v1 x.f1):k32.M w base ok x [.int .i64 x.f0,v1,.int .i64 x.f2]:=⟨[.int .i64 x.f0],[v1,.int .i64 x.f2],rfl,rfl,⟨[v1],[.int .i64 x.f2],rfl,⟨v1,rfl,g1⟩,rfl⟩⟩
def rd_T32 (xs:List S32)(i:Int):S32:=xs.getD i.toNat z32
theorem at_T32 {w:World}{A:Option Addr}{n:Nat}{xs:List S32}(h:Kd.C k32 w A n xs)(i:Int)(h0:0≤i)(h1:i < n):∃ ad A1 c1,A=some ad∧w.cell? (ad.add (i.toNat * 3))=some (.int .i64 (rd_T32 xs i).f0)∧w.cell? ⟨(ad.add (i.toNat * 3)).block,(ad.add (i.toNat * 3)).off + 1,none⟩=some (.slice A1 (rd_T32 xs i).f1.length c1)∧w.cell? ⟨(ad.add (i.toNat * 3)).block,(ad.add (i.toNat * 3)).off + 2,none⟩=some (.int .i64 (rd_T32 xs i).f2)∧(rd_T32 xs i).f1.length≤c1∧(Kd.int .i64).C w A1 (rd_T32 xs i).f1.length (rd_T32 xs i).f1:=by
 obtain ⟨ad,c,e,_,hK,hc0⟩:=Kd.C_get h z32 i h0 h1
 have hc:∀ j u,c[j]?=some u→w.cell? (ad.add (i.toNat * 3 + j))=some u:=hc0
 obtain ⟨A1,c1,rfl,l1,g1⟩:=k32_open hK
 exact ⟨ad,A1,c1,e,hc 0 _ rfl,by rw [← add_field _ _ 1 (by omega)];exact hc 1 _ rfl,by rw [← add_field _ _ 2 (by omega)];exact hc 2 _ rfl,l1,g1⟩

def rd_L6 (xs:List (List S32))(i:Int):(List S32):=xs.getD i.toNat ([]:List S32)
theorem at_L6 {w:World}{A:Option Addr}{n:Nat}{xs:List (List S32)}(h:Kd.C (Kd.slice 32 k32) w A n xs)(i:Int)(h0:0≤i)(h1:i < n):∃ ad A0 c0,A=some ad∧w.cell? (ad.add i.toNat)=some (.slice A0 (rd_L6 xs i).length c0)∧(rd_L6 xs i).length≤c0∧k32.C w A0 (rd_L6 xs i).length (rd_L6 xs i):=by
 obtain ⟨ad,c,e,_,hK,hc0⟩:=Kd.C_get h ([]:List S32) i h0 h1
 have hc:∀ j u,c[j]?=some u→w.cell? (ad.add (i.toNat * 1 + j))=some u:=hc0
 obtain ⟨A0,c0,rfl,l0,g0⟩:=hK
 exact ⟨ad,A0,c0,e,by have hq:=hc 0 _ rfl;rwa [Nat.mul_one,Nat.add_zero] at hq,l0,g0⟩

def rd_L7 (xs:List (List S47))(i:Int):(List S47):=xs.getD i.toNat ([]:List S47)
theorem at_L7 {w:World}{A:Option Addr}{n:Nat}{xs:List (List S47)}(h:Kd.C (Kd.slice 47 k47) w A n xs)(i:Int)(h0:0≤i)(h1:i < n):∃ ad A0 c0,A=some ad∧w.cell? (ad.add i.toNat)=some (.slice A0 (rd_L7 xs i).length c0)∧(rd_L7 xs i).length≤c0∧k47.C w A0 (rd_L7 xs i).length (rd_L7 xs i):=by
 obtain ⟨ad,c,e,_,hK,hc0⟩:=Kd.C_get h ([]:List S47) i h0 h1
 have hc:∀ j u,c[j]?=some u→w.cell? (ad.add (i.toNat * 1 + j))=some u:=hc0
 obtain ⟨A0,c0,rfl,l0,g0⟩:=hK
 exact ⟨ad,A0,c0,e,by have hq:=hc 0 _ rfl;rwa [Nat.mul_one,Nat.add_zero] at hq,l0,g0⟩
def spec_l1In.f (a0:Int)(a1:Int)(a2:Int):Option (Bool):=if a0 ≥ a1 then (some (decide (a0≤a2))) else (some false)
theorem spec_l1In.calls (a0:Int)(a1:Int)(a2:Int)(r:Bool)(w:World)(h:spec_l1In.f a0 a1 a2=some r) :
  Calls Try.prog 70 #[.int .i64 a0,.int .i64 a1,.int .i64 a2] w fun e w'=>e= .returned (.bool r)∧Drawn0 w w':=by
 unfold spec_l1In.f at h
 have H:=h
 clear h
 replace H:=yis H;obtain ⟨c4b0,H⟩ | ⟨c4b0,H⟩:=H
 ·obtain rfl:=ysi H
  go_enter Try.func70,Try.ntmps70
  go_wp2
  go_ret
  exact ⟨yeq,by repeat (first|exact Drawn0.refl _|apply Drawn0.step)⟩
 obtain rfl:=ysi H
 go_enter Try.func70,Try.ntmps70
 go_wp2
 go_ret
 exact ⟨yeq,by repeat (first|exact Drawn0.refl _|apply Drawn0.step)⟩
def spec_GridValid.l0:Nat→List Int→Int→Int→Option (Bool)
 | 0,_,_,_=>none
 | k + 1,x0,x1,x5=>if x5 < (x0.length:Int) then (if 0≤x5 then ((spec_l1In.f (rd x0 x5) 0 x1).bind fun t221=>(if t221=true then (spec_GridValid.l0 k x0 x1 (wrap64 (x5 + 1))) else (some false))) else (none)) else ((spec_l1In.f x1 2 4).bind fun t222=>(if t222=true then (some ((x0.length:Int) == (wrap64 (x1 * x1)))) else (some false)))
def spec_GridValid.f (k:Nat)(l0:List Int)(a1:Int):Option (Bool):=spec_GridValid.l0 k l0 a1 0
theorem spec_GridValid.calls (k:Nat)(A0:Option Addr)(c0:Nat)(l0:List Int)(a1:Int)(r:Bool)(w:World)(hr0:Kd.C (Kd.int .i64) w A0 l0.length l0)(hc0:l0.length≤c0)(h:spec_GridValid.f k l0 a1=some r) :
  Calls Try.prog 49 #[.slice A0 l0.length c0,.int .i64 a1] w fun e w'=>e= .returned (.bool r)∧Drawn0 w w':=by
 have HR0:=yam hr0
 have HC0:=yam hc0
 clear hr0 hc0
 unfold spec_GridValid.f at h
 have H:=h
 clear h
 replace H:=yam H
 go_enter Try.func49,Try.ntmps49
 go_wp2
 go_loopg [5] k (fun kq v5 w'=>∃ (x5_1:Int),v5= .int .i64 x5_1∧Aside0 (spec_GridValid.l0 kq l0 a1 x5_1=some r)∧Aside0 (kq≤k)∧Drawn0 w w')
 case atStart=>exact ⟨(0),yeq,H,⟨Nat.le_refl _⟩,by repeat (first|exact Drawn0.refl _|apply Drawn0.step)⟩
 case round =>
  clear H
  obtain ⟨x5_1,rfl,HA,HK1,⟨m1,rfl⟩⟩:=hrel
  rcases gk with _|k1
  ·exact absurd HA.out (by simp [spec_GridValid.l0])
  obtain ⟨H⟩:=HA
  simp only [spec_GridValid.l0] at H
  replace H:=yis H;obtain ⟨c3b0,H⟩ | ⟨c3b0,H⟩:=H
  rotate_left
  ·replace H:=ybi H;obtain ⟨t222,A7,H⟩:=H
   try dsimp only at H
   cases t222
   rotate_left
   ·replace H:=ytt H
    obtain rfl:=ysi H
    go_wp2_with (first|(refine goesL_ (some 20) rfl rfl Try.func70 (by kernel_rfl) rfl #[.int .i64 a1,.int .i64 2,.int .i64 4] rfl ymd ?_;(with_reducible refine (spec_l1In.calls a1 2 4 true _ A7.out).mono ?_);rintro e w' ⟨rfl,⟨nd,rfl⟩⟩;refine ⟨_,rfl,?_⟩))
    go_ret
    exact ⟨yeq,by repeat (first|exact Drawn0.refl _|apply Drawn0.step)⟩
   replace H:=yff H
   obtain rfl:=ysi H
   go_wp2_with (first|(refine goesL_ (some 20) rfl rfl Try.func70 (by kernel_rfl) rfl #[.int .i64 a1,.int .i64 2,.int .i64 4] rfl ymd ?_;(with_reducible refine (spec_l1In.calls a1 2 4 false _ A7.out).mono ?_);rintro e w' ⟨rfl,⟨nd,rfl⟩⟩;refine ⟨_,rfl,?_⟩))
   go_ret
   exact ⟨yeq,by repeat (first|exact Drawn0.refl _|apply Drawn0.step)⟩
  replace H:=yif H;obtain ⟨c4b0,H⟩:=H
  replace H:=ybi H;obtain ⟨t221,A5,H⟩:=H
  try dsimp only at H
  cases t221
  ·replace H:=yff H
   obtain rfl:=ysi H
   obtain ⟨ad220,e220,hx220_0,p220,q220⟩:=yat HR0.out x5_1
   cases e220
   go_wp2_with (first|(refine goesL_ (some 17) rfl rfl Try.func70 (by kernel_rfl) rfl #[.int .i64 (rd l0 x5_1),.int .i64 0,.int .i64 a1] rfl ymd ?_;(with_reducible refine (spec_l1In.calls (rd l0 x5_1) 0 a1 false _ A5.out).mono ?_);rintro e w' ⟨rfl,⟨nd,rfl⟩⟩;refine ⟨_,rfl,?_⟩))
   go_ret
   exact ⟨yeq,by repeat (first|exact Drawn0.refl _|apply Drawn0.step)⟩
  replace H:=ytt H
  replace H:=yam H
  obtain ⟨ad220,e220,hx220_0,p220,q220⟩:=yat HR0.out x5_1
  cases e220
  go_wp2_with (first|(refine goesL_ (some 17) rfl rfl Try.func70 (by kernel_rfl) rfl #[.int .i64 (rd l0 x5_1),.int .i64 0,.int .i64 a1] rfl ymd ?_;(with_reducible refine (spec_l1In.calls (rd l0 x5_1) 0 a1 true _ A5.out).mono ?_);rintro e w' ⟨rfl,⟨nd,rfl⟩⟩;refine ⟨_,rfl,?_⟩))
  go_roundg k1
  case measure=>have:=HK1.out;omega
  case rel=>exact ⟨(wrap64 (x5_1 + 1)),yeq,H,⟨by have:=HK1.out;omega⟩,by repeat (first|exact Drawn0.refl _|apply Drawn0.step)⟩
def impl_sizeOk.f (a0:Int):Option (Bool):=if a0 ≥ 2 then (some (decide (a0≤4))) else (some false)
theorem impl_sizeOk.calls (a0:Int)(r:Bool)(w:World)(h:impl_sizeOk.f a0=some r) :
  Calls Try.prog 64 #[.int .i64 a0] w fun e w'=>e= .returned (.bool r)∧Drawn0 w w':=by
 unfold impl_sizeOk.f at h
 have H:=h
 clear h
 replace H:=yis H;obtain ⟨c2b0,H⟩ | ⟨c2b0,H⟩:=H
 ·obtain rfl:=ysi H
  go_enter Try.func64,Try.ntmps64
  go_wp2
  go_ret
  exact ⟨yeq,by repeat (first|exact Drawn0.refl _|apply Drawn0.step)⟩
 obtain rfl:=ysi H
 go_enter Try.func64,Try.ntmps64
 go_wp2
 go_ret
 exact ⟨yeq,by repeat (first|exact Drawn0.refl _|apply Drawn0.step)⟩
mutual
def impl_GridValid.j0:Nat→List Int→Int→Bool→Option (Bool)
 | 0,_,_,_=>none
 | k + 1,x0,x1,x17=>if x17=true then (some false) else (impl_GridValid.l0 k x1 x0 (x0.length:Int) 0)
def impl_GridValid.l0:Nat→Int→List Int→Int→Int→Option (Bool)
 | 0,_,_,_,_=>none
 | k + 1,x1,x18,x19,x20=>if x20 < x19 then (if 0≤x20 then (if x20 < (x18.length:Int) then (if (rd x18 x20) < 0 then (some false) else (if (rd x18 x20) > x1 then (some false) else (impl_GridValid.l0 k x1 x18 x19 (wrap64 (x20 + 1))))) else (none)) else (none)) else (some true)
end
def impl_GridValid.f (k:Nat)(l0:List Int)(a1:Int):Option (Bool):=(impl_sizeOk.f a1).bind fun t206=>(if t206=true then (impl_GridValid.j0 k l0 a1 ((l0.length:Int) != (wrap64 (a1 * a1)))) else (impl_GridValid.j0 k l0 a1 true))
theorem impl_GridValid.mono_l:∀ k,(∀ y0 y1 y2,LeO (impl_GridValid.j0 k y0 y1 y2) (impl_GridValid.j0 (k + 1) y0 y1 y2))∧(∀ y0 y1 y2 y3,LeO (impl_GridValid.l0 k y0 y1 y2 y3) (impl_GridValid.l0 (k + 1) y0 y1 y2 y3))
 | 0=>⟨fun _ _ _ r h=>by simp [impl_GridValid.j0] at h,fun _ _ _ _ r h=>by simp [impl_GridValid.l0] at h⟩
 | k + 1=>by
  obtain ⟨ih0,ih1⟩:=impl_GridValid.mono_l k
  refine ⟨?_,?_⟩
  ·intro y0 y1 y2
   unfold impl_GridValid.j0
   repeat' first
   | (with_reducible exact ih0 _ _ _)
   | (with_reducible exact ih1 _ _ _ _)
   | (with_reducible exact LeO.refl _)
   | (with_reducible exact LeO.none _)
   | (with_reducible refine LeO.ite ?_ ?_)
   | (with_reducible refine LeO.bind ?_ (fun _=>?_))
   | exact ih0 _ _ _
   | exact ih1 _ _ _ _
   | exact LeO.none _
   | refine LeO.ite ?_ ?_
   | refine LeO.bind ?_ (fun _=>?_)
  ·intro y0 y1 y2 y3
   unfold impl_GridValid.l0
   repeat' first
   | (with_reducible exact ih0 _ _ _)
   | (with_reducible exact ih1 _ _ _ _)
   | (with_reducible exact LeO.refl _)
   | (with_reducible exact LeO.none _)
   | (with_reducible refine LeO.ite ?_ ?_)
   | (with_reducible refine LeO.bind ?_ (fun _=>?_))
   | exact ih0 _ _ _
   | exact ih1 _ _ _ _
   | exact LeO.none _
   | refine LeO.ite ?_ ?_
   | refine LeO.bind ?_ (fun _=>?_)
theorem impl_GridValid.mono:∀ a0 a1 k,LeO (impl_GridValid.f k a0 a1) (impl_GridValid.f (k + 1) a0 a1):=by
 intro a0 a1 k
 obtain ⟨ih0,ih1⟩:=impl_GridValid.mono_l k
 unfold impl_GridValid.f
 repeat' first
   | (with_reducible exact ih0 _ _ _)
   | (with_reducible exact ih1 _ _ _ _)
   | (with_reducible exact LeO.refl _)
   | (with_reducible exact LeO.none _)
   | (with_reducible refine LeO.ite ?_ ?_)
   | (with_reducible refine LeO.bind ?_ (fun _=>?_))
   | exact ih0 _ _ _
   | exact ih1 _ _ _ _
   | exact LeO.none _
   | refine LeO.ite ?_ ?_
   | refine LeO.bind ?_ (fun _=>?_)
theorem impl_GridValid.calls (k:Nat)(A0:Option Addr)(c0:Nat)(l0:List Int)(a1:Int)(r:Bool)(w:World)(hr0:Kd.C (Kd.int .i64) w A0 l0.length l0)(hc0:l0.length≤c0)(h:impl_GridValid.f k l0 a1=some r) :
  Calls Try.prog 60 #[.slice A0 l0.length c0,.int .i64 a1] w fun e w'=>e= .returned (.bool r)∧Drawn0 w w':=by
 have HR0:=yam hr0
 have HC0:=yam hc0
 clear hr0 hc0
 unfold impl_GridValid.f at h
 have H:=h
 clear h
 have HC3:=yam H
 clear H
 go_enter Try.func60,Try.ntmps60
 go_upto_region 1 with (fail)
 go_cut [17] (fun v17 wc=>∃ (kq:Nat) (x17_2:Bool),v17= .bool x17_2∧Aside0 (impl_GridValid.j0 kq l0 a1 x17_2=some r)∧Aside0 (kq≤k)∧Drawn0 w wc)
 case first =>
  have H:=HC3.out
  clear HC3
  replace H:=ybi H;obtain ⟨t206,A4,H⟩:=H
  try dsimp only at H
  cases t206
  rotate_left
  ·replace H:=ytt H
   replace H:=yam H
   go_wp2_with (first|(refine goesL_ (some 8) rfl rfl Try.func64 (by kernel_rfl) rfl #[.int .i64 a1] rfl ymd ?_;(with_reducible refine (impl_sizeOk.calls a1 true _ A4.out).mono ?_);rintro e w' ⟨rfl,⟨nd,rfl⟩⟩;refine ⟨_,rfl,?_⟩))
   go_meet
   case rel=>exact ⟨_,(((l0.length:Int) != (wrap64 (a1 * a1)))),yeq,H,⟨by first|omega|exact Nat.le_refl _⟩,by repeat (first|exact Drawn0.refl _|apply Drawn0.step)⟩
  replace H:=yff H
  replace H:=yam H
  go_wp2_with (first|(refine goesL_ (some 8) rfl rfl Try.func64 (by kernel_rfl) rfl #[.int .i64 a1] rfl ymd ?_;(with_reducible refine (impl_sizeOk.calls a1 false _ A4.out).mono ?_);rintro e w' ⟨rfl,⟨nd,rfl⟩⟩;refine ⟨_,rfl,?_⟩))
  go_meet
  case rel=>exact ⟨_,(true),yeq,H,⟨by first|omega|exact Nat.le_refl _⟩,by repeat (first|exact Drawn0.refl _|apply Drawn0.step)⟩
 case rest =>
  clear HC3
  obtain ⟨kq,x17_2,rfl,HA,HJ2,⟨mc2,rfl⟩⟩:=hcut
  rcases kq with _|kj2
  ·exact absurd HA.out (by simp [impl_GridValid.j0])
  obtain ⟨H⟩:=HA
  simp only [impl_GridValid.j0] at H
  cases x17_2
  rotate_left
  ·replace H:=ytt H
   obtain rfl:=ysi H
   go_wp2
   go_ret
   exact ⟨yeq,by repeat (first|exact Drawn0.refl _|apply Drawn0.step)⟩
  replace H:=yff H
  replace H:=yam H
  go_wp2
  go_loopg [20] kj2 (fun kq v20 w'=>∃ (x20_2:Int),v20= .int .i64 x20_2∧Aside0 (impl_GridValid.l0 kq a1 l0 (l0.length:Int) x20_2=some r)∧Aside0 (kq≤kj2)∧Drawn0 w w')
  case atStart=>exact ⟨(0),yeq,H,⟨Nat.le_refl _⟩,by repeat (first|exact Drawn0.refl _|apply Drawn0.step)⟩
  case round =>
   clear H
   obtain ⟨x20_2,rfl,HA,HK2,⟨m2,rfl⟩⟩:=hrel
   rcases gk with _|k2
   ·exact absurd HA.out (by simp [impl_GridValid.l0])
   obtain ⟨H⟩:=HA
   simp only [impl_GridValid.l0] at H
   replace H:=yis H;obtain ⟨c7b0,H⟩ | ⟨c7b0,H⟩:=H
   rotate_left
   ·obtain rfl:=ysi H
    go_wp2
    go_ret
    exact ⟨yeq,by repeat (first|exact Drawn0.refl _|apply Drawn0.step)⟩
   replace H:=yif H;obtain ⟨c8b0,H⟩:=H
   replace H:=yif H;obtain ⟨c9b0,H⟩:=H
   replace H:=yis H;obtain ⟨c10b0,H⟩ | ⟨c10b0,H⟩:=H
   ·obtain rfl:=ysi H
    obtain ⟨ad207,e207,hx207_0,p207,q207⟩:=yat HR0.out x20_2
    cases e207
    go_wp2
    go_ret
    exact ⟨yeq,by repeat (first|exact Drawn0.refl _|apply Drawn0.step)⟩
   replace H:=yis H;obtain ⟨c11b0,H⟩ | ⟨c11b0,H⟩:=H
   ·obtain rfl:=ysi H
    obtain ⟨ad207,e207,hx207_0,p207,q207⟩:=yat HR0.out x20_2
    cases e207
    go_wp2
    go_ret
    exact ⟨yeq,by repeat (first|exact Drawn0.refl _|apply Drawn0.step)⟩
   replace H:=yam H
   obtain ⟨ad207,e207,hx207_0,p207,q207⟩:=yat HR0.out x20_2
   cases e207
   go_wp2
   go_roundg k2
   case measure=>have:=HJ2.out;have:=HK2.out;omega
   case rel=>exact ⟨(wrap64 (x20_2 + 1)),yeq,H,⟨by have:=HJ2.out;have:=HK2.out;omega⟩,by repeat (first|exact Drawn0.refl _|apply Drawn0.step)⟩
def impl_GridFilled.l0:Nat→Int→List Int→Int→Int→Option (Int)
 | 0,_,_,_,_=>none
 | k + 1,x5,x12,x13,x14=>if x14 < x13 then (if 0≤x14 then (if x14 < (x12.length:Int) then (if (rd x12 x14) > 0 then (impl_GridFilled.l0 k (wrap64 (x5 + 1)) x12 x13 (wrap64 (x14 + 1))) else (impl_GridFilled.l0 k x5 x12 x13 (wrap64 (x14 + 1)))) else (none)) else (none)) else (some x5)
def impl_GridFilled.f (k:Nat)(l0:List Int)(a1:Int):Option (Int):=(impl_GridValid.f k l0 a1).bind fun t236=>(if t236=true then (impl_GridFilled.l0 k 0 l0 (l0.length:Int) 0) else (some (-1)))
theorem impl_GridFilled.mono_l:∀ k,(∀ y0 y1 y2 y3,LeO (impl_GridFilled.l0 k y0 y1 y2 y3) (impl_GridFilled.l0 (k + 1) y0 y1 y2 y3))
 | 0=>fun _ _ _ _ r h=>by simp [impl_GridFilled.l0] at h
 | k + 1=>by
  have ih0:=impl_GridFilled.mono_l k
  ·intro y0 y1 y2 y3
   unfold impl_GridFilled.l0
   repeat' first
   | (with_reducible exact ih0 _ _ _ _)
   | (with_reducible exact impl_GridValid.mono _ _ _)
   | (with_reducible exact LeO.refl _)
   | (with_reducible exact LeO.none _)
   | (with_reducible refine LeO.ite ?_ ?_)
   | (with_reducible refine LeO.bind ?_ (fun _=>?_))
   | exact ih0 _ _ _ _
   | exact impl_GridValid.mono _ _ _
   | exact LeO.none _
   | refine LeO.ite ?_ ?_
   | refine LeO.bind ?_ (fun _=>?_)
theorem impl_GridFilled.mono:∀ a0 a1 k,LeO (impl_GridFilled.f k a0 a1) (impl_GridFilled.f (k + 1) a0 a1):=by
 intro a0 a1 k
 have ih0:=impl_GridFilled.mono_l k
 unfold impl_GridFilled.f
 repeat' first
   | (with_reducible exact ih0 _ _ _ _)
   | (with_reducible exact impl_GridValid.mono _ _ _)
   | (with_reducible exact LeO.refl _)
   | (with_reducible exact LeO.none _)
   | (with_reducible refine LeO.ite ?_ ?_)
   | (with_reducible refine LeO.bind ?_ (fun _=>?_))
   | exact ih0 _ _ _ _
   | exact impl_GridValid.mono _ _ _
   | exact LeO.none _
   | refine LeO.ite ?_ ?_
   | refine LeO.bind ?_ (fun _=>?_)
theorem impl_GridFilled.calls (k:Nat)(A0:Option Addr)(c0:Nat)(l0:List Int)(a1:Int)(r:Int)(w:World)(hr0:Kd.C (Kd.int .i64) w A0 l0.length l0)(hc0:l0.length≤c0)(h:impl_GridFilled.f k l0 a1=some r) :
  Calls Try.prog 50 #[.slice A0 l0.length c0,.int .i64 a1] w fun e w'=>e= .returned (.int .i64 r)∧Drawn0 w w':=by
 have HR0:=yam hr0
 have HC0:=yam hc0
 clear hr0 hc0
 unfold impl_GridFilled.f at h
 have H:=h
 clear h
 replace H:=ybi H;obtain ⟨t236,A3,H⟩:=H
 try dsimp only at H
 cases t236
 ·replace H:=yff H
  obtain rfl:=ysi H
  go_enter Try.func50,Try.ntmps50
  go_wp2_with (first|(refine goesL_ (some 10) rfl rfl Try.func60 (by kernel_rfl) rfl #[.slice A0 l0.length c0,.int .i64 a1] rfl ymd ?_;(with_reducible refine (impl_GridValid.calls k _ _ l0 a1 false _ ?_ ?_ A3.out).mono ?_);exact Kd.Cz (HR0.out);exact HC0.out;rintro e w' ⟨rfl,⟨nd,rfl⟩⟩;refine ⟨_,rfl,?_⟩))
  go_ret
  exact ⟨yeq,by repeat (first|exact Drawn0.refl _|apply Drawn0.step)⟩
 replace H:=ytt H
 replace H:=yam H
 go_enter Try.func50,Try.ntmps50
 go_wp2_with (first|(refine goesL_ (some 10) rfl rfl Try.func60 (by kernel_rfl) rfl #[.slice A0 l0.length c0,.int .i64 a1] rfl ymd ?_;(with_reducible refine (impl_GridValid.calls k _ _ l0 a1 true _ ?_ ?_ A3.out).mono ?_);exact Kd.Cz (HR0.out);exact HC0.out;rintro e w' ⟨rfl,⟨nd,rfl⟩⟩;refine ⟨_,rfl,?_⟩))
 go_loopg [5,14] k (fun kq v5 v14 w'=>∃ (x5_1:Int) (x14_1:Int),v5= .int .i64 x5_1∧v14= .int .i64 x14_1∧Aside0 (impl_GridFilled.l0 kq x5_1 l0 (l0.length:Int) x14_1=some r)∧Aside0 (kq≤k)∧Drawn0 w w')
 case atStart=>exact ⟨(0),(0),yeq,yeq,H,⟨Nat.le_refl _⟩,by repeat (first|exact Drawn0.refl _|apply Drawn0.step)⟩
 case round =>
  clear H
  obtain ⟨x5_1,x14_1,rfl,rfl,HA,HK1,⟨m1,rfl⟩⟩:=hrel
  rcases gk with _|k1
  ·exact absurd HA.out (by simp [impl_GridFilled.l0])
  obtain ⟨H⟩:=HA
  simp only [impl_GridFilled.l0] at H
  replace H:=yis H;obtain ⟨c5b0,H⟩ | ⟨c5b0,H⟩:=H
  rotate_left
  ·obtain rfl:=ysi H
   go_wp2
   go_ret
   exact ⟨yeq,by repeat (first|exact Drawn0.refl _|apply Drawn0.step)⟩
  replace H:=yif H;obtain ⟨c6b0,H⟩:=H
  replace H:=yif H;obtain ⟨c7b0,H⟩:=H
  replace H:=yis H;obtain ⟨c8b0,H⟩ | ⟨c8b0,H⟩:=H
  rotate_left
  ·replace H:=yam H
   obtain ⟨ad237,e237,hx237_0,p237,q237⟩:=yat HR0.out x14_1
   cases e237
   go_wp2
   go_roundg k1
   case measure=>have:=HK1.out;omega
   case rel=>exact ⟨(x5_1),(wrap64 (x14_1 + 1)),yeq,yeq,H,⟨by have:=HK1.out;omega⟩,by repeat (first|exact Drawn0.refl _|apply Drawn0.step)⟩
  replace H:=yam H
  obtain ⟨ad237,e237,hx237_0,p237,q237⟩:=yat HR0.out x14_1
  cases e237
  go_wp2
  go_roundg k1
  case measure=>have:=HK1.out;omega
  case rel=>exact ⟨(wrap64 (x5_1 + 1)),(wrap64 (x14_1 + 1)),yeq,yeq,H,⟨by have:=HK1.out;omega⟩,by repeat (first|exact Drawn0.refl _|apply Drawn0.step)⟩
def laws_alive.f (k:Nat)  : Option (Bool):=(impl_GridFilled.f k (([1,0,0,2]:List Int)) 2).bind fun t241=>(some (t241 == 2))
theorem laws_alive.mono:∀ k,LeO (laws_alive.f k ) (laws_alive.f (k + 1) ):=by
 intro  k
 unfold laws_alive.f
 repeat' first
   | (with_reducible exact impl_GridFilled.mono _ _ _)
   | (with_reducible exact LeO.refl _)
   | (with_reducible exact LeO.none _)
   | (with_reducible refine LeO.ite ?_ ?_)
   | (with_reducible refine LeO.bind ?_ (fun _=>?_))
   | exact impl_GridFilled.mono _ _ _
   | exact LeO.none _
   | refine LeO.ite ?_ ?_
   | refine LeO.bind ?_ (fun _=>?_)
theorem laws_alive.calls (k:Nat)  (r:Bool) (w:World) (h:laws_alive.f k  = some r) :
  Calls Try.prog 19 #[] w fun e w'=>e= .returned (.bool r)∧Below w.heap.size w w':=by
 have HB:=yam (Below.refl w.heap.size w)
 unfold laws_alive.f at h
 have H:=h
 clear h
 obtain ⟨y238,Ny238⟩:∃ y_:List Int,Aside0 (y_=(([1,0,0,2]:List Int))):=⟨_,⟨rfl⟩⟩
 replace H:((impl_GridFilled.f k y238 2).bind fun t241=>(some (t241 == 2)))=some r:=yhn Ny238.out H
 replace H:=ybi H;obtain ⟨t241,A1,H⟩:=H
 try dsimp only at H
 obtain rfl:=ysi H
 go_enter Try.func19,Try.ntmps19
 go_wp2_with (first|((with_reducible refine gate_dst (N:=1) rfl ?_);refine Kd.R_lit (Kd.int .i64) _ 3 ?hg (N:=1) ?hd (xs:=([1,0,0,2]:List Int)) (inner:=[.int .i64 1,.int .i64 0,.int .i64 0,.int .i64 2]) (ok:=fun _=>True) (okp:=fun _=>True) ?hr ?hp (fun _ hk=>hk) trivial (Below.refl _ _) (Nat.le_refl _) (by simp) ?_;(case hd=>rfl);(case hg=>rfl);(case hr=>first|(go_simp;done)|(go_simp;rfl));(case hp=>exact (Reps.one (show Kd.M (Kd.int .i64) _ _ _ 1 [.int .i64 1] from rfl) (Reps.one (show Kd.M (Kd.int .i64) _ _ _ 0 [.int .i64 0] from rfl) (Reps.one (show Kd.M (Kd.int .i64) _ _ _ 0 [.int .i64 0] from rfl) (Reps.one (show Kd.M (Kd.int .i64) _ _ _ 2 [.int .i64 2] from rfl) (Reps.none _ _))))));intro v239 w2 ho3 hb hg_ hnew_;clear hg_ hnew_;(first|rw [← Ny238.out] at ho3|(simp only [Int.reduceToNat] at ho3;rw [← Ny238.out] at ho3));have HO240:=yam (Kd.R_lower ho3 (below_size (yez HB.out)));replace HB:=yam (below_step (yez HB.out) hb);clear hb ho3;obtain ⟨Ao4,co4,eo4⟩:=Kd.R_slice HO240.out;subst eo4)|(refine goesL_ (some 2) rfl rfl Try.func50 (by kernel_rfl) rfl #[.slice Ao4 y238.length co4,.int .i64 2] rfl ymd ?_;(with_reducible refine (impl_GridFilled.calls k _ _ y238 2 t241 _ ?_ ?_ A1.out).mono ?_);exact Kd.Cz (Kd.Yr HO240.out).2.2;exact (Kd.Yr HO240.out).2.1;rintro e w' ⟨rfl,⟨nd,rfl⟩⟩;refine ⟨_,rfl,?_⟩))
 go_ret
 exact ⟨yer,yhb⟩
mutual
def spec_RuleValid.l0:Nat→Int→Int→Int→List Int→Int→Option (Bool)
 | 0,_,_,_,_,_=>none
 | k + 1,x1,x5,x397000,x397001,x397002=>if x5 < (x397001.length:Int) then (if 0≤x5 then ((spec_l1In.f (rd x397001 x5) 0 (wrap64 ((wrap64 (x1 * x1)) - 1))).bind fun t398=>(if t398=true then (spec_RuleValid.l1 k x1 x5 0 x397000 x397001 x397002) else (some false))) else (none)) else ((spec_l1In.f x1 2 4).bind fun t401=>(if t401=true then (spec_RuleValid.j2 k x1 (x397001.length:Int) (decide ((x397001.length:Int) > 4)) x397000 x397001 x397002) else (spec_RuleValid.j2 k x1 (x397001.length:Int) true x397000 x397001 x397002)))
def spec_RuleValid.l1:Nat→Int→Int→Int→Int→List Int→Int→Option (Bool)
 | 0,_,_,_,_,_,_=>none
 | k + 1,x1,x5,x6,x397000,x397001,x397002=>if x6 < x5 then (if 0≤x6 then (if x6 < (x397001.length:Int) then (if 0≤x5 then (if x5 < (x397001.length:Int) then (if (rd x397001 x6)=(rd x397001 x5) then (some false) else (spec_RuleValid.l1 k x1 x5 (wrap64 (x6 + 1)) x397000 x397001 x397002)) else (none)) else (none)) else (none)) else (none)) else (spec_RuleValid.l0 k x1 (wrap64 (x5 + 1)) x397000 x397001 x397002)
def spec_RuleValid.j2:Nat→Int→Int→Bool→Int→List Int→Int→Option (Bool)
 | 0,_,_,_,_,_,_=>none
 | k + 1,x1,x7,x51,x397000,x397001,x397002=>if x51=true then (some false) else (if x397000=1 then (if x7 ≥ 2 then (some (x397002 == 0)) else (some false)) else (if x397000=2 then (spec_RuleValid.j3 k x1 x7 x397000 (x397000 == 2) x397000 x397001 x397002) else (spec_RuleValid.j3 k x1 x7 x397000 (x397000 == 3) x397000 x397001 x397002)))
def spec_RuleValid.j3:Nat→Int→Int→Int→Bool→Int→List Int→Int→Option (Bool)
 | 0,_,_,_,_,_,_,_=>none
 | k + 1,x1,x7,x53,x63,x397000,x397001,x397002=>if x63=true then (if x7 ≥ 1 then ((spec_l1In.f x397002 1 (wrap64 ((wrap64 ((wrap64 (x1 * x1)) * x1)) * x1))).bind fun t402=>(some t402)) else (some false)) else (if x53=4 then (if x7=2 then (some (x397002 == 0)) else (some false)) else (if x53=5 then (if x7=2 then ((spec_l1In.f x397002 0 (wrap64 (x1 - 1))).bind fun t403=>(some t403)) else (some false)) else (some false)))
end
def spec_RuleValid.f (k:Nat)(a0_0:Int)(l0_1:List Int)(a0_2:Int)(a1:Int):Option (Bool):=spec_RuleValid.l0 k a1 0 a0_0 l0_1 a0_2
theorem spec_RuleValid.calls (k:Nat)(a0_0:Int)(A0_1:Option Addr)(c0_1:Nat)(l0_1:List Int)(a0_2:Int)(a1:Int)(r:Bool)(w:World)(hr0_1:Kd.C (Kd.int .i64) w A0_1 l0_1.length l0_1)(hc0_1:l0_1.length≤c0_1)(h:spec_RuleValid.f k a0_0 l0_1 a0_2 a1=some r) :
  Calls Try.prog 24 #[.agg #[.int .i64 a0_0,.slice A0_1 l0_1.length c0_1,.int .i64 a0_2],.int .i64 a1] w fun e w'=>e= .returned (.bool r)∧Below w.heap.size w w':=by
 have hu32:=Try.underlying32
 have HR0_1:=yam hr0_1
 have HC0_1:=yam hc0_1
 clear hr0_1 hc0_1
 have HB:=yam (Below.refl w.heap.size w)
 unfold spec_RuleValid.f at h
 have H:=h
 clear h
 replace H:=yam H
 go_enter Try.func24,Try.ntmps24
 go_wp2_with (first|(refine ybe 2 #[.int .i64 a0_0,.slice A0_1 l0_1.length c0_1,.int .i64 a0_2] 32 ?_;intro gb396 hg w3 hbox hb;have BK396:=yam (hbox);have GW396:=yam ((by rw [hg];exact (below_size (yez HB.out)):w.heap.size≤gb396));replace HB:=yam (below_step (yez HB.out) hb);have GE396:=GW396;clear hb hbox hg))
 repeat (go_quiet (first|(refine ybe 2 #[.int .i64 a0_0,.slice A0_1 l0_1.length c0_1,.int .i64 a0_2] 32 ?_;intro gb396 hg w3 hbox hb;have BK396:=yam (hbox);have GW396:=yam ((by rw [hg];exact (below_size (yez HB.out)):w.heap.size≤gb396));replace HB:=yam (below_step (yez HB.out) hb);have GE396:=GW396;clear hb hbox hg));try go_wp2_with (first|(refine ybe 2 #[.int .i64 a0_0,.slice A0_1 l0_1.length c0_1,.int .i64 a0_2] 32 ?_;intro gb396 hg w3 hbox hb;have BK396:=yam (hbox);have GW396:=yam ((by rw [hg];exact (below_size (yez HB.out)):w.heap.size≤gb396));replace HB:=yam (below_step (yez HB.out) hb);have GE396:=GW396;clear hb hbox hg)))
 go_loopg [5] k (fun kq v5 w'=>∃ (x5_1:Int),v5= .int .i64 x5_1∧Aside0 (spec_RuleValid.l0 kq a1 x5_1 a0_0 l0_1 a0_2=some r)∧Aside0 (kq≤k)∧Aside0 (w'.heap[gb396]?=some (.cells #[.int .i64 a0_0,(.slice A0_1 l0_1.length c0_1),.int .i64 a0_2] 32 (0,0)))∧Aside0 (Below w.heap.size w w'))
 case atStart=>exact ⟨(0),yeq,H,⟨Nat.le_refl _⟩,⟨ybk BK396.out⟩,⟨yhb⟩⟩
 case round =>
  clear H
  obtain ⟨x5_1,rfl,HA,HK1,BK396,HB⟩:=hrel
  rcases gk with _|k1
  ·exact absurd HA.out (by simp [spec_RuleValid.l0])
  obtain ⟨H⟩:=HA
  simp only [spec_RuleValid.l0] at H
  replace H:=yis H;obtain ⟨c4b0,H⟩ | ⟨c4b0,H⟩:=H
  ·replace H:=yif H;obtain ⟨c5b0,H⟩:=H
   replace H:=ybi H;obtain ⟨t398,A6,H⟩:=H
   try dsimp only at H
   cases t398
   ·replace H:=yff H
    obtain rfl:=ysi H
    obtain ⟨hcz17_0,hcz17_1,hcz17_2,hfz17_0,hfz17_1,hfz17_2⟩:=ybc BK396.out
    obtain ⟨ad397,e397,hx397_0,p397,q397⟩:=yat HR0_1.out x5_1
    cases e397
    replace hx397_0:=ybx HB.out hx397_0
    have hwq0_:IntKind.i64.wrap (a1 * a1)=wrap64 (a1 * a1):=i64_w _
    have hwq1_:IntKind.i64.wrap ((wrap64 (a1 * a1)) - 1)=wrap64 ((wrap64 (a1 * a1)) - 1):=i64_w _
    go_wp2_with (first|(go_at_call 70;(with_reducible refine (spec_l1In.calls (rd l0_1 x5_1) 0 (wrap64 ((wrap64 (a1 * a1)) - 1)) false _ A6.out).mono ?_);rintro e w' ⟨rfl,⟨nd,rfl⟩⟩;(try first|exact ⟨rfl,_,World.drewN_drewN _ _ _⟩|exact ⟨rfl,_,Eq.trans (World.drewN_drewN _ _ _) (congrArg (World.drewN _) (Nat.add_assoc _ _ _))⟩)))
    repeat (go_quiet (first|(go_at_call 70;(with_reducible refine (spec_l1In.calls (rd l0_1 x5_1) 0 (wrap64 ((wrap64 (a1 * a1)) - 1)) false _ A6.out).mono ?_);rintro e w' ⟨rfl,⟨nd,rfl⟩⟩;(try first|exact ⟨rfl,_,World.drewN_drewN _ _ _⟩|exact ⟨rfl,_,Eq.trans (World.drewN_drewN _ _ _) (congrArg (World.drewN _) (Nat.add_assoc _ _ _))⟩)));try go_wp2_with (first|(go_at_call 70;(with_reducible refine (spec_l1In.calls (rd l0_1 x5_1) 0 (wrap64 ((wrap64 (a1 * a1)) - 1)) false _ A6.out).mono ?_);rintro e w' ⟨rfl,⟨nd,rfl⟩⟩;(try first|exact ⟨rfl,_,World.drewN_drewN _ _ _⟩|exact ⟨rfl,_,Eq.trans (World.drewN_drewN _ _ _) (congrArg (World.drewN _) (Nat.add_assoc _ _ _))⟩))))
    go_ret
    exact ⟨yer,yhb⟩
   replace H:=ytt H
   replace H:=yam H
   obtain ⟨hcz8_0,hcz8_1,hcz8_2,hfz8_0,hfz8_1,hfz8_2⟩:=ybc BK396.out
   obtain ⟨ad397,e397,hx397_0,p397,q397⟩:=yat HR0_1.out x5_1
   cases e397
   replace hx397_0:=ybx HB.out hx397_0
   have hwq0_:IntKind.i64.wrap (a1 * a1)=wrap64 (a1 * a1):=i64_w _
   have hwq1_:IntKind.i64.wrap ((wrap64 (a1 * a1)) - 1)=wrap64 ((wrap64 (a1 * a1)) - 1):=i64_w _
   go_wp2_with (first|(go_at_call 70;(with_reducible refine (spec_l1In.calls (rd l0_1 x5_1) 0 (wrap64 ((wrap64 (a1 * a1)) - 1)) true _ A6.out).mono ?_);rintro e w' ⟨rfl,⟨nd,rfl⟩⟩;(try first|exact ⟨rfl,_,World.drewN_drewN _ _ _⟩|exact ⟨rfl,_,Eq.trans (World.drewN_drewN _ _ _) (congrArg (World.drewN _) (Nat.add_assoc _ _ _))⟩)))
   repeat (go_quiet (first|(go_at_call 70;(with_reducible refine (spec_l1In.calls (rd l0_1 x5_1) 0 (wrap64 ((wrap64 (a1 * a1)) - 1)) true _ A6.out).mono ?_);rintro e w' ⟨rfl,⟨nd,rfl⟩⟩;(try first|exact ⟨rfl,_,World.drewN_drewN _ _ _⟩|exact ⟨rfl,_,Eq.trans (World.drewN_drewN _ _ _) (congrArg (World.drewN _) (Nat.add_assoc _ _ _))⟩)));try go_wp2_with (first|(go_at_call 70;(with_reducible refine (spec_l1In.calls (rd l0_1 x5_1) 0 (wrap64 ((wrap64 (a1 * a1)) - 1)) true _ A6.out).mono ?_);rintro e w' ⟨rfl,⟨nd,rfl⟩⟩;(try first|exact ⟨rfl,_,World.drewN_drewN _ _ _⟩|exact ⟨rfl,_,Eq.trans (World.drewN_drewN _ _ _) (congrArg (World.drewN _) (Nat.add_assoc _ _ _))⟩))))
   go_loopg [6] k1 (fun kq v6 w'=>∃ (x6_2:Int),v6= .int .i64 x6_2∧Aside0 (spec_RuleValid.l1 kq a1 x5_1 x6_2 a0_0 l0_1 a0_2=some r)∧Aside0 (kq≤k1)∧Aside0 (w'.heap[gb396]?=some (.cells #[.int .i64 a0_0,(.slice (some ad397) l0_1.length c0_1),.int .i64 a0_2] 32 (0,0)))∧Aside0 (Below w.heap.size w w'))
   case atStart=>exact ⟨(0),yeq,H,⟨Nat.le_refl _⟩,⟨ybk BK396.out⟩,⟨yhb⟩⟩
   case round =>
    clear H
    try clear c4b0
    try clear c5b0
    try clear hcz8_0
    try clear hcz8_1
    try clear hcz8_2
    try clear hfz8_0
    try clear hfz8_1
    try clear hfz8_2
    try clear hx397_0
    try clear p397
    try clear q397
    obtain ⟨x6_2,rfl,HA,HK2,BK396,HB⟩:=hrel
    rcases gk with _|k2
    ·exact absurd HA.out (by simp [spec_RuleValid.l1])
    obtain ⟨H⟩:=HA
    simp only [spec_RuleValid.l1] at H
    replace H:=yis H;obtain ⟨c9b0,H⟩ | ⟨c9b0,H⟩:=H
    rotate_left
    ·replace H:=yam H
     go_wp2
     repeat (go_quiet (fail);try go_wp2)
     go_roundg k2
     case measure=>have:=HK1.out;have:=HK2.out;omega
     case rel=>exact ⟨(wrap64 (x5_1 + 1)),yeq,H,⟨by have:=HK1.out;have:=HK2.out;omega⟩,⟨ybk BK396.out⟩,⟨yhb⟩⟩
    replace H:=yif H;obtain ⟨c10b0,H⟩:=H
    replace H:=yif H;obtain ⟨c11b0,H⟩:=H
    replace H:=yif H;obtain ⟨c12b0,H⟩:=H
    replace H:=yif H;obtain ⟨c13b0,H⟩:=H
    replace H:=yit H;obtain ⟨c14,H⟩ | ⟨c14,H⟩:=H
    ·have c14b0:((rd l0_1 x6_2) == (rd l0_1 x5_1))=true:=beq_iff_eq.mpr c14
     have c14b1:((rd l0_1 x6_2) != (rd l0_1 x5_1))=false:=bne_eq_false_iff_eq.mpr c14
     clear c14
     obtain rfl:=ysi H
     obtain ⟨hcz15_0,hcz15_1,hcz15_2,hfz15_0,hfz15_1,hfz15_2⟩:=ybc BK396.out
     obtain ⟨ad399,e399,hx399_0,p399,q399⟩:=yat HR0_1.out x6_2
     obtain rfl:ad397=ad399:=(by injection e399)
     replace hx399_0:=ybx HB.out hx399_0
     obtain ⟨ad400,e400,hx400_0,p400,q400⟩:=yat HR0_1.out x5_1
     obtain rfl:ad397=ad400:=(by injection e400)
     replace hx400_0:=ybx HB.out hx400_0
     go_wp2
     repeat (go_quiet (fail);try go_wp2)
     go_ret
     exact ⟨yer,yhb⟩
    have c14b0:((rd l0_1 x6_2) == (rd l0_1 x5_1))=false:=beq_eq_false_iff_ne.mpr c14
    have c14b1:((rd l0_1 x6_2) != (rd l0_1 x5_1))=true:=bne_iff_ne.mpr c14
    replace H:=yam H
    obtain ⟨hcz16_0,hcz16_1,hcz16_2,hfz16_0,hfz16_1,hfz16_2⟩:=ybc BK396.out
    obtain ⟨ad399,e399,hx399_0,p399,q399⟩:=yat HR0_1.out x6_2
    obtain rfl:ad397=ad399:=(by injection e399)
    replace hx399_0:=ybx HB.out hx399_0
    obtain ⟨ad400,e400,hx400_0,p400,q400⟩:=yat HR0_1.out x5_1
    obtain rfl:ad397=ad400:=(by injection e400)
    replace hx400_0:=ybx HB.out hx400_0
    go_wp2
    repeat (go_quiet (fail);try go_wp2)
    go_roundg k2
    case measure=>have:=HK1.out;have:=HK2.out;omega
    case rel=>exact ⟨(wrap64 (x6_2 + 1)),yeq,H,⟨by have:=HK1.out;have:=HK2.out;omega⟩,⟨ybk BK396.out⟩,⟨yhb⟩⟩
  have HC18:=yam H
  clear H
  obtain ⟨hcz19_0,hcz19_1,hcz19_2,hfz19_0,hfz19_1,hfz19_2⟩:=ybc BK396.out
  go_upto_region 12 with (fail)
  repeat (go_quiet (fail);go_upto_region 12 with (fail))
  go_cut [51] (fun v51 wc=>∃ (kq:Nat) (x51_17:Bool),v51= .bool x51_17∧Aside0 (spec_RuleValid.j2 kq a1 (l0_1.length:Int) x51_17 a0_0 l0_1 a0_2=some r)∧Aside0 (kq≤k1)∧Aside0 (wc.heap[gb396]?=some (.cells #[.int .i64 a0_0,(.slice A0_1 l0_1.length c0_1),.int .i64 a0_2] 32 (0,0)))∧Aside0 (Below w.heap.size w wc))
  case first =>
   have H:=HC18.out
   clear HC18
   replace H:=ybi H;obtain ⟨t401,A20,H⟩:=H
   try dsimp only at H
   cases t401
   rotate_left
   ·replace H:=ytt H
    replace H:=yam H
    go_wp2_with (first|(go_at_call 70;(with_reducible refine (spec_l1In.calls a1 2 4 true _ A20.out).mono ?_);rintro e w' ⟨rfl,⟨nd,rfl⟩⟩;(try first|exact ⟨rfl,_,World.drewN_drewN _ _ _⟩|exact ⟨rfl,_,Eq.trans (World.drewN_drewN _ _ _) (congrArg (World.drewN _) (Nat.add_assoc _ _ _))⟩)))
    repeat (go_quiet (first|(go_at_call 70;(with_reducible refine (spec_l1In.calls a1 2 4 true _ A20.out).mono ?_);rintro e w' ⟨rfl,⟨nd,rfl⟩⟩;(try first|exact ⟨rfl,_,World.drewN_drewN _ _ _⟩|exact ⟨rfl,_,Eq.trans (World.drewN_drewN _ _ _) (congrArg (World.drewN _) (Nat.add_assoc _ _ _))⟩)));try go_wp2_with (first|(go_at_call 70;(with_reducible refine (spec_l1In.calls a1 2 4 true _ A20.out).mono ?_);rintro e w' ⟨rfl,⟨nd,rfl⟩⟩;(try first|exact ⟨rfl,_,World.drewN_drewN _ _ _⟩|exact ⟨rfl,_,Eq.trans (World.drewN_drewN _ _ _) (congrArg (World.drewN _) (Nat.add_assoc _ _ _))⟩))))
    go_meet
    case rel=>exact ⟨_,(decide ((l0_1.length:Int) > 4)),yeq,H,⟨by have:=HK1.out;first|omega|exact Nat.le_refl _⟩,⟨ybk BK396.out⟩,⟨yhb⟩⟩
   replace H:=yff H
   replace H:=yam H
   go_wp2_with (first|(go_at_call 70;(with_reducible refine (spec_l1In.calls a1 2 4 false _ A20.out).mono ?_);rintro e w' ⟨rfl,⟨nd,rfl⟩⟩;(try first|exact ⟨rfl,_,World.drewN_drewN _ _ _⟩|exact ⟨rfl,_,Eq.trans (World.drewN_drewN _ _ _) (congrArg (World.drewN _) (Nat.add_assoc _ _ _))⟩)))
   repeat (go_quiet (first|(go_at_call 70;(with_reducible refine (spec_l1In.calls a1 2 4 false _ A20.out).mono ?_);rintro e w' ⟨rfl,⟨nd,rfl⟩⟩;(try first|exact ⟨rfl,_,World.drewN_drewN _ _ _⟩|exact ⟨rfl,_,Eq.trans (World.drewN_drewN _ _ _) (congrArg (World.drewN _) (Nat.add_assoc _ _ _))⟩)));try go_wp2_with (first|(go_at_call 70;(with_reducible refine (spec_l1In.calls a1 2 4 false _ A20.out).mono ?_);rintro e w' ⟨rfl,⟨nd,rfl⟩⟩;(try first|exact ⟨rfl,_,World.drewN_drewN _ _ _⟩|exact ⟨rfl,_,Eq.trans (World.drewN_drewN _ _ _) (congrArg (World.drewN _) (Nat.add_assoc _ _ _))⟩))))
   go_meet
   case rel=>exact ⟨_,(true),yeq,H,⟨by have:=HK1.out;first|omega|exact Nat.le_refl _⟩,⟨ybk BK396.out⟩,⟨yhb⟩⟩
  case rest =>
   clear HC18
   try clear c4b0
   try clear hcz19_0
   try clear hcz19_1
   try clear hcz19_2
   try clear hfz19_0
   try clear hfz19_1
   try clear hfz19_2
   obtain ⟨kq,x51_17,rfl,HA,HJ17,BK396,HB⟩:=hcut
   rcases kq with _|kj17
   ·exact absurd HA.out (by simp [spec_RuleValid.j2])
   obtain ⟨H⟩:=HA
   simp only [spec_RuleValid.j2] at H
   cases x51_17
   rotate_left
   ·replace H:=ytt H
    obtain rfl:=ysi H
    go_wp2
    repeat (go_quiet (fail);try go_wp2)
    go_ret
    exact ⟨yer,yhb⟩
   replace H:=yff H
   replace H:=yit H;obtain ⟨c23,H⟩ | ⟨c23,H⟩:=H
   ·have c23b0:(a0_0 == 1)=true:=beq_iff_eq.mpr c23
    have c23b1:(a0_0 != 1)=false:=bne_eq_false_iff_eq.mpr c23
    clear c23
    replace H:=yit H;obtain ⟨c24,H⟩ | ⟨c24,H⟩:=H
    ·have c24b0:decide (2≤(l0_1.length:Int))=true:=decide_eq_true c24
     have c24b1:decide (2≤l0_1.length)=true:=decide_eq_true (by omega)
     clear c24
     obtain rfl:=ysi H
     obtain ⟨hcz25_0,hcz25_1,hcz25_2,hfz25_0,hfz25_1,hfz25_2⟩:=ybc BK396.out
     go_wp2
     repeat (go_quiet (fail);try go_wp2)
     go_ret
     exact ⟨yer,yhb⟩
    have c24b0:decide (2≤(l0_1.length:Int))=false:=decide_eq_false c24
    have c24b1:decide (2≤l0_1.length)=false:=decide_eq_false (by omega)
    clear c24
    obtain rfl:=ysi H
    obtain ⟨hcz26_0,hcz26_1,hcz26_2,hfz26_0,hfz26_1,hfz26_2⟩:=ybc BK396.out
    go_wp2
    repeat (go_quiet (fail);try go_wp2)
    go_ret
    exact ⟨yer,yhb⟩
   have c23b0:(a0_0 == 1)=false:=beq_eq_false_iff_ne.mpr c23
   have c23b1:(a0_0 != 1)=true:=bne_iff_ne.mpr c23
   have HC27:=yam H
   clear H
   obtain ⟨hcz28_0,hcz28_1,hcz28_2,hfz28_0,hfz28_1,hfz28_2⟩:=ybc BK396.out
   go_upto_if 63 with (fail)
   repeat (go_quiet (fail);go_upto_if 63 with (fail))
   go_cut [63] (fun v63 wc=>∃ (kq:Nat) (x63_26:Bool),v63= .bool x63_26∧Aside0 (spec_RuleValid.j3 kq a1 (l0_1.length:Int) a0_0 x63_26 a0_0 l0_1 a0_2=some r)∧Aside0 (kq≤kj17)∧Aside0 (wc.heap[gb396]?=some (.cells #[.int .i64 a0_0,(.slice A0_1 l0_1.length c0_1),.int .i64 a0_2] 32 (0,0)))∧Aside0 (Below w.heap.size w wc))
   case first =>
    have H:=HC27.out
    clear HC27
    replace H:=yit H;obtain ⟨c29,H⟩ | ⟨c29,H⟩:=H
    rotate_left
    ·have c29b0:(a0_0 == 2)=false:=beq_eq_false_iff_ne.mpr c29
     have c29b1:(a0_0 != 2)=true:=bne_iff_ne.mpr c29
     (first|rw [c29b0]|(simp only [i64_w,i32_w];rw [c29b0])|skip)
     replace H:=yam H
     go_wp2
     repeat (go_quiet (fail);try go_wp2)
     go_meet
     case rel=>exact ⟨_,((a0_0 == 3)),yeq,H,⟨by have:=HK1.out;have:=HJ17.out;first|omega|exact Nat.le_refl _⟩,⟨ybk BK396.out⟩,⟨yhb⟩⟩
    have c29b0:(a0_0 == 2)=true:=beq_iff_eq.mpr c29
    have c29b1:(a0_0 != 2)=false:=bne_eq_false_iff_eq.mpr c29
    clear c29
    (first|rw [c29b0]|(simp only [i64_w,i32_w];rw [c29b0])|skip)
    replace H:=yam H
    go_wp2
    repeat (go_quiet (fail);try go_wp2)
    go_meet
    case rel=>exact ⟨_,((a0_0 == 2)),yeq,H,⟨by have:=HK1.out;have:=HJ17.out;first|omega|exact Nat.le_refl _⟩,⟨ybk BK396.out⟩,⟨yhb⟩⟩
   case rest =>
    clear HC27
    try clear c23
    try clear c23b0
    try clear c23b1
    try clear hcz28_0
    try clear hcz28_1
    try clear hcz28_2
    try clear hfz28_0
    try clear hfz28_1
    try clear hfz28_2
    obtain ⟨kq,x63_26,rfl,HA,HJ26,BK396,HB⟩:=hcut
    rcases kq with _|kj26
    ·exact absurd HA.out (by simp [spec_RuleValid.j3])
    obtain ⟨H⟩:=HA
    simp only [spec_RuleValid.j3] at H
    cases x63_26
    rotate_left
    ·replace H:=ytt H
     replace H:=yit H;obtain ⟨c31,H⟩ | ⟨c31,H⟩:=H
     rotate_left
     ·have c31b0:decide (1≤(l0_1.length:Int))=false:=decide_eq_false c31
      have c31b1:decide (1≤l0_1.length)=false:=decide_eq_false (by omega)
      clear c31
      obtain rfl:=ysi H
      go_wp2
      repeat (go_quiet (fail);try go_wp2)
      go_ret
      exact ⟨yer,yhb⟩
     have c31b0:decide (1≤(l0_1.length:Int))=true:=decide_eq_true c31
     have c31b1:decide (1≤l0_1.length)=true:=decide_eq_true (by omega)
     clear c31
     replace H:=ybi H;obtain ⟨t402,A32,H⟩:=H
     try dsimp only at H
     obtain rfl:=ysi H
     obtain ⟨hcz33_0,hcz33_1,hcz33_2,hfz33_0,hfz33_1,hfz33_2⟩:=ybc BK396.out
     have hwq0_:IntKind.i64.wrap (a1 * a1)=wrap64 (a1 * a1):=i64_w _
     have hwq1_:IntKind.i64.wrap ((wrap64 (a1 * a1)) * a1)=wrap64 ((wrap64 (a1 * a1)) * a1):=i64_w _
     have hwq2_:IntKind.i64.wrap ((wrap64 ((wrap64 (a1 * a1)) * a1)) * a1)=wrap64 ((wrap64 ((wrap64 (a1 * a1)) * a1)) * a1):=i64_w _
     go_wp2_with (first|(go_at_call 70;(with_reducible refine (spec_l1In.calls a0_2 1 (wrap64 ((wrap64 ((wrap64 (a1 * a1)) * a1)) * a1)) t402 _ A32.out).mono ?_);rintro e w' ⟨rfl,⟨nd,rfl⟩⟩;(try first|exact ⟨rfl,_,World.drewN_drewN _ _ _⟩|exact ⟨rfl,_,Eq.trans (World.drewN_drewN _ _ _) (congrArg (World.drewN _) (Nat.add_assoc _ _ _))⟩)))
     repeat (go_quiet (first|(go_at_call 70;(with_reducible refine (spec_l1In.calls a0_2 1 (wrap64 ((wrap64 ((wrap64 (a1 * a1)) * a1)) * a1)) t402 _ A32.out).mono ?_);rintro e w' ⟨rfl,⟨nd,rfl⟩⟩;(try first|exact ⟨rfl,_,World.drewN_drewN _ _ _⟩|exact ⟨rfl,_,Eq.trans (World.drewN_drewN _ _ _) (congrArg (World.drewN _) (Nat.add_assoc _ _ _))⟩)));try go_wp2_with (first|(go_at_call 70;(with_reducible refine (spec_l1In.calls a0_2 1 (wrap64 ((wrap64 ((wrap64 (a1 * a1)) * a1)) * a1)) t402 _ A32.out).mono ?_);rintro e w' ⟨rfl,⟨nd,rfl⟩⟩;(try first|exact ⟨rfl,_,World.drewN_drewN _ _ _⟩|exact ⟨rfl,_,Eq.trans (World.drewN_drewN _ _ _) (congrArg (World.drewN _) (Nat.add_assoc _ _ _))⟩))))
     go_ret
     exact ⟨yer,yhb⟩
    replace H:=yff H
    replace H:=yit H;obtain ⟨c34,H⟩ | ⟨c34,H⟩:=H
    ·have c34b0:(a0_0 == 4)=true:=beq_iff_eq.mpr c34
     have c34b1:(a0_0 != 4)=false:=bne_eq_false_iff_eq.mpr c34
     clear c34
     replace H:=yit H;obtain ⟨c35,H⟩ | ⟨c35,H⟩:=H
     rotate_left
     ·have c35b0:((l0_1.length:Int) == 2)=false:=beq_eq_false_iff_ne.mpr c35
      have c35b1:((l0_1.length:Int) != 2)=true:=bne_iff_ne.mpr c35
      obtain rfl:=ysi H
      go_wp2
      repeat (go_quiet (fail);try go_wp2)
      go_ret
      exact ⟨yer,yhb⟩
     have c35b0:((l0_1.length:Int) == 2)=true:=beq_iff_eq.mpr c35
     have c35b1:((l0_1.length:Int) != 2)=false:=bne_eq_false_iff_eq.mpr c35
     clear c35
     obtain rfl:=ysi H
     obtain ⟨hcz36_0,hcz36_1,hcz36_2,hfz36_0,hfz36_1,hfz36_2⟩:=ybc BK396.out
     go_wp2
     repeat (go_quiet (fail);try go_wp2)
     go_ret
     exact ⟨yer,yhb⟩
    have c34b0:(a0_0 == 4)=false:=beq_eq_false_iff_ne.mpr c34
    have c34b1:(a0_0 != 4)=true:=bne_iff_ne.mpr c34
    replace H:=yit H;obtain ⟨c37,H⟩ | ⟨c37,H⟩:=H
    rotate_left
    ·have c37b0:(a0_0 == 5)=false:=beq_eq_false_iff_ne.mpr c37
     have c37b1:(a0_0 != 5)=true:=bne_iff_ne.mpr c37
     obtain rfl:=ysi H
     go_wp2
     repeat (go_quiet (fail);try go_wp2)
     go_ret
     exact ⟨yer,yhb⟩
    have c37b0:(a0_0 == 5)=true:=beq_iff_eq.mpr c37
    have c37b1:(a0_0 != 5)=false:=bne_eq_false_iff_eq.mpr c37
    clear c37
    replace H:=yit H;obtain ⟨c38,H⟩ | ⟨c38,H⟩:=H
    rotate_left
    ·have c38b0:((l0_1.length:Int) == 2)=false:=beq_eq_false_iff_ne.mpr c38
     have c38b1:((l0_1.length:Int) != 2)=true:=bne_iff_ne.mpr c38
     obtain rfl:=ysi H
     go_wp2
     repeat (go_quiet (fail);try go_wp2)
     go_ret
     exact ⟨yer,yhb⟩
    have c38b0:((l0_1.length:Int) == 2)=true:=beq_iff_eq.mpr c38
    have c38b1:((l0_1.length:Int) != 2)=false:=bne_eq_false_iff_eq.mpr c38
    clear c38
    replace H:=ybi H;obtain ⟨t403,A39,H⟩:=H
    try dsimp only at H
    obtain rfl:=ysi H
    obtain ⟨hcz40_0,hcz40_1,hcz40_2,hfz40_0,hfz40_1,hfz40_2⟩:=ybc BK396.out
    have hwq0_:IntKind.i64.wrap (a1 - 1)=wrap64 (a1 - 1):=i64_w _
    go_wp2_with (first|(go_at_call 70;(with_reducible refine (spec_l1In.calls a0_2 0 (wrap64 (a1 - 1)) t403 _ A39.out).mono ?_);rintro e w' ⟨rfl,⟨nd,rfl⟩⟩;(try first|exact ⟨rfl,_,World.drewN_drewN _ _ _⟩|exact ⟨rfl,_,Eq.trans (World.drewN_drewN _ _ _) (congrArg (World.drewN _) (Nat.add_assoc _ _ _))⟩)))
    repeat (go_quiet (first|(go_at_call 70;(with_reducible refine (spec_l1In.calls a0_2 0 (wrap64 (a1 - 1)) t403 _ A39.out).mono ?_);rintro e w' ⟨rfl,⟨nd,rfl⟩⟩;(try first|exact ⟨rfl,_,World.drewN_drewN _ _ _⟩|exact ⟨rfl,_,Eq.trans (World.drewN_drewN _ _ _) (congrArg (World.drewN _) (Nat.add_assoc _ _ _))⟩)));try go_wp2_with (first|(go_at_call 70;(with_reducible refine (spec_l1In.calls a0_2 0 (wrap64 (a1 - 1)) t403 _ A39.out).mono ?_);rintro e w' ⟨rfl,⟨nd,rfl⟩⟩;(try first|exact ⟨rfl,_,World.drewN_drewN _ _ _⟩|exact ⟨rfl,_,Eq.trans (World.drewN_drewN _ _ _) (congrArg (World.drewN _) (Nat.add_assoc _ _ _))⟩))))
    go_ret
    exact ⟨yer,yhb⟩
def spec_MasksValid.l0:Nat→List Int→Int→Int→Option (Bool)
 | 0,_,_,_=>none
 | k + 1,x0,x1,x5=>if x5 < (x0.length:Int) then (if 0≤x5 then (if 0≤(wrap64 ((Go.bits .and .i64 x1 7) + 1)) then ((spec_l1In.f (rd x0 x5) 0 (wrap64 ((shl .i64 1 (wrap64 ((Go.bits .and .i64 x1 7) + 1))) - 2))).bind fun t515=>(if t515=true then (if (Int.tmod (rd x0 x5) 2)=0 then (spec_MasksValid.l0 k x0 x1 (wrap64 (x5 + 1))) else (some false)) else (some false))) else (none)) else (none)) else ((spec_l1In.f x1 2 4).bind fun t517=>(if t517=true then (some ((x0.length:Int) == (wrap64 (x1 * x1)))) else (some false)))
def spec_MasksValid.f (k:Nat)(l0:List Int)(a1:Int):Option (Bool):=spec_MasksValid.l0 k l0 a1 0
theorem spec_MasksValid.calls (k:Nat)(A0:Option Addr)(c0:Nat)(l0:List Int)(a1:Int)(r:Bool)(w:World)(hr0:Kd.C (Kd.int .i64) w A0 l0.length l0)(hc0:l0.length≤c0)(h:spec_MasksValid.f k l0 a1=some r) :
  Calls Try.prog 75 #[.slice A0 l0.length c0,.int .i64 a1] w fun e w'=>e= .returned (.bool r)∧Drawn0 w w':=by
 have HR0:=yam hr0
 have HC0:=yam hc0
 clear hr0 hc0
 unfold spec_MasksValid.f at h
 have H:=h
 clear h
 replace H:=yam H
 go_enter Try.func75,Try.ntmps75
 go_wp2
 repeat (go_quiet (fail);try go_wp2)
 go_loopg [5] k (fun kq v5 w'=>∃ (x5_1:Int),v5= .int .i64 x5_1∧Aside0 (spec_MasksValid.l0 kq l0 a1 x5_1=some r)∧Aside0 (kq≤k)∧Drawn0 w w')
 case atStart=>exact ⟨(0),yeq,H,⟨Nat.le_refl _⟩,by repeat (first|exact Drawn0.refl _|apply Drawn0.step)⟩
 case round =>
  clear H
  obtain ⟨x5_1,rfl,HA,HK1,⟨m1,rfl⟩⟩:=hrel
  rcases gk with _|k1
  ·exact absurd HA.out (by simp [spec_MasksValid.l0])
  obtain ⟨H⟩:=HA
  simp only [spec_MasksValid.l0] at H
  replace H:=yis H;obtain ⟨c3b0,H⟩ | ⟨c3b0,H⟩:=H
  rotate_left
  ·replace H:=ybi H;obtain ⟨t517,A11,H⟩:=H
   try dsimp only at H
   cases t517
   rotate_left
   ·replace H:=ytt H
    obtain rfl:=ysi H
    go_wp2_with (first|(go_at_call 70;(with_reducible refine (spec_l1In.calls a1 2 4 true _ A11.out).mono ?_);rintro e w' ⟨rfl,⟨nd,rfl⟩⟩;(try first|exact ⟨rfl,_,World.drewN_drewN _ _ _⟩|exact ⟨rfl,_,Eq.trans (World.drewN_drewN _ _ _) (congrArg (World.drewN _) (Nat.add_assoc _ _ _))⟩)))
    repeat (go_quiet (first|(go_at_call 70;(with_reducible refine (spec_l1In.calls a1 2 4 true _ A11.out).mono ?_);rintro e w' ⟨rfl,⟨nd,rfl⟩⟩;(try first|exact ⟨rfl,_,World.drewN_drewN _ _ _⟩|exact ⟨rfl,_,Eq.trans (World.drewN_drewN _ _ _) (congrArg (World.drewN _) (Nat.add_assoc _ _ _))⟩)));try go_wp2_with (first|(go_at_call 70;(with_reducible refine (spec_l1In.calls a1 2 4 true _ A11.out).mono ?_);rintro e w' ⟨rfl,⟨nd,rfl⟩⟩;(try first|exact ⟨rfl,_,World.drewN_drewN _ _ _⟩|exact ⟨rfl,_,Eq.trans (World.drewN_drewN _ _ _) (congrArg (World.drewN _) (Nat.add_assoc _ _ _))⟩))))
    go_ret
    exact ⟨yeq,by repeat (first|exact Drawn0.refl _|apply Drawn0.step)⟩
   replace H:=yff H
   obtain rfl:=ysi H
   go_wp2_with (first|(go_at_call 70;(with_reducible refine (spec_l1In.calls a1 2 4 false _ A11.out).mono ?_);rintro e w' ⟨rfl,⟨nd,rfl⟩⟩;(try first|exact ⟨rfl,_,World.drewN_drewN _ _ _⟩|exact ⟨rfl,_,Eq.trans (World.drewN_drewN _ _ _) (congrArg (World.drewN _) (Nat.add_assoc _ _ _))⟩)))
   repeat (go_quiet (first|(go_at_call 70;(with_reducible refine (spec_l1In.calls a1 2 4 false _ A11.out).mono ?_);rintro e w' ⟨rfl,⟨nd,rfl⟩⟩;(try first|exact ⟨rfl,_,World.drewN_drewN _ _ _⟩|exact ⟨rfl,_,Eq.trans (World.drewN_drewN _ _ _) (congrArg (World.drewN _) (Nat.add_assoc _ _ _))⟩)));try go_wp2_with (first|(go_at_call 70;(with_reducible refine (spec_l1In.calls a1 2 4 false _ A11.out).mono ?_);rintro e w' ⟨rfl,⟨nd,rfl⟩⟩;(try first|exact ⟨rfl,_,World.drewN_drewN _ _ _⟩|exact ⟨rfl,_,Eq.trans (World.drewN_drewN _ _ _) (congrArg (World.drewN _) (Nat.add_assoc _ _ _))⟩))))
   go_ret
   exact ⟨yeq,by repeat (first|exact Drawn0.refl _|apply Drawn0.step)⟩
  replace H:=yif H;obtain ⟨c4b0,H⟩:=H
  obtain ⟨ji5,hji5⟩:∃ j_:Int,(wrap64 ((Go.bits .and .i64 a1 7) + 1))=j_:=⟨_,rfl⟩
  replace H:(if 0≤(ji5) then ((spec_l1In.f (rd l0 x5_1) 0 (wrap64 ((shl .i64 1 (ji5)) - 2))).bind fun t515=>(if t515=true then (if (Int.tmod (rd l0 x5_1) 2)=0 then (spec_MasksValid.l0 k1 l0 a1 (wrap64 (x5_1 + 1))) else (some false)) else (some false))) else (none))=some r:=by first|(rw [hji5] at H;exact H)|(simp only [hji5] at H ⊢;exact H)
  have hji5w:(IntKind.i64.wrap ((Go.bits .and .i64 a1 7) + 1))=ji5:=(i64_w _).trans hji5
  replace H:=yig H;obtain ⟨c6,H⟩:=H
  have c6b0:=eq_true c6
  have c6b1:decide (0≤(ji5))=true:=decide_eq_true c6
  clear c6
  obtain ⟨ji7,hji7⟩:∃ j_:Int,(shl .i64 1 (ji5))=j_:=⟨_,rfl⟩
  replace H:((spec_l1In.f (rd l0 x5_1) 0 (wrap64 ((ji7) - 2))).bind fun t515=>(if t515=true then (if (Int.tmod (rd l0 x5_1) 2)=0 then (spec_MasksValid.l0 k1 l0 a1 (wrap64 (x5_1 + 1))) else (some false)) else (some false)))=some r:=by first|(rw [hji7] at H;exact H)|(simp only [hji7] at H ⊢;exact H)
  have hji7_:(IntKind.i64.wrap (1 * 2 ^ min (ji5).toNat 64))=ji7:=hji7
  have hji7z:(ji5)≤64→(IntKind.i64.wrap (1 * 2 ^ (ji5).toNat))=ji7:=shl_small hji7
  have hji7u:(IntKind.i64.wrap (2 ^ min (ji5).toNat 64))=ji7:=by have h_:=hji7_;rw [Int.one_mul] at h_;exact h_
  have hji7v:(ji5)≤64→(IntKind.i64.wrap (2 ^ (ji5).toNat))=ji7:=fun hle_=>by have h_:=hji7z hle_;rw [Int.one_mul] at h_;exact h_
  have hji7y:(wrap64 (1 * 2 ^ min (ji5).toNat 64))=ji7:=(i64_w _).symm.trans hji7_
  have hji7x:(ji5)≤64→(wrap64 (1 * 2 ^ (ji5).toNat))=ji7:=fun h_=>(i64_w _).symm.trans (hji7z h_)
  replace H:=ybi H;obtain ⟨t515,A8,H⟩:=H
  try dsimp only at H
  cases t515
  ·replace H:=yff H
   obtain rfl:=ysi H
   obtain ⟨ad514,e514,hx514_0,p514,q514⟩:=yat HR0.out x5_1
   cases e514
   have hwq0_:IntKind.i64.wrap ((ji7) - 2)=wrap64 ((ji7) - 2):=i64_w _
   go_wp2_with (first|(go_at_call 70;(with_reducible refine (spec_l1In.calls (rd l0 x5_1) 0 (wrap64 ((ji7) - 2)) false _ A8.out).mono ?_);rintro e w' ⟨rfl,⟨nd,rfl⟩⟩;(try first|exact ⟨rfl,_,World.drewN_drewN _ _ _⟩|exact ⟨rfl,_,Eq.trans (World.drewN_drewN _ _ _) (congrArg (World.drewN _) (Nat.add_assoc _ _ _))⟩)))
   repeat (go_quiet (first|(go_at_call 70;(with_reducible refine (spec_l1In.calls (rd l0 x5_1) 0 (wrap64 ((ji7) - 2)) false _ A8.out).mono ?_);rintro e w' ⟨rfl,⟨nd,rfl⟩⟩;(try first|exact ⟨rfl,_,World.drewN_drewN _ _ _⟩|exact ⟨rfl,_,Eq.trans (World.drewN_drewN _ _ _) (congrArg (World.drewN _) (Nat.add_assoc _ _ _))⟩)));try go_wp2_with (first|(go_at_call 70;(with_reducible refine (spec_l1In.calls (rd l0 x5_1) 0 (wrap64 ((ji7) - 2)) false _ A8.out).mono ?_);rintro e w' ⟨rfl,⟨nd,rfl⟩⟩;(try first|exact ⟨rfl,_,World.drewN_drewN _ _ _⟩|exact ⟨rfl,_,Eq.trans (World.drewN_drewN _ _ _) (congrArg (World.drewN _) (Nat.add_assoc _ _ _))⟩))))
   go_ret
   exact ⟨by first|rfl|(simp;done)|(simp only [← hji5,← hji7] <;> (first|rfl|simp))|(simp [*];done),by repeat (first|exact Drawn0.refl _|apply Drawn0.step)⟩
  replace H:=ytt H
  replace H:=yit H;obtain ⟨c10,H⟩ | ⟨c10,H⟩:=H
  rotate_left
  ·have c10b0:((Int.tmod (rd l0 x5_1) 2) == 0)=false:=beq_eq_false_iff_ne.mpr c10
   have c10b1:((Int.tmod (rd l0 x5_1) 2) != 0)=true:=bne_iff_ne.mpr c10
   obtain rfl:=ysi H
   obtain ⟨ad514,e514,hx514_0,p514,q514⟩:=yat HR0.out x5_1
   cases e514
   have hwq0_:IntKind.i64.wrap ((ji7) - 2)=wrap64 ((ji7) - 2):=i64_w _
   go_wp2_with (first|(go_at_call 70;(with_reducible refine (spec_l1In.calls (rd l0 x5_1) 0 (wrap64 ((ji7) - 2)) true _ A8.out).mono ?_);rintro e w' ⟨rfl,⟨nd,rfl⟩⟩;(try first|exact ⟨rfl,_,World.drewN_drewN _ _ _⟩|exact ⟨rfl,_,Eq.trans (World.drewN_drewN _ _ _) (congrArg (World.drewN _) (Nat.add_assoc _ _ _))⟩);have p516:0≤(x5_1:Int):=ydt;have q516:x5_1 < (l0.length:Int):=ydt;obtain ⟨ad516,e516,hx516_0⟩:=Kd.at_int HR0.out x5_1 p516 q516;obtain rfl:ad514=ad516:=(by injection e516);replace p516:=eq_true p516;replace q516:=eq_true q516))
   repeat (go_quiet (first|(go_at_call 70;(with_reducible refine (spec_l1In.calls (rd l0 x5_1) 0 (wrap64 ((ji7) - 2)) true _ A8.out).mono ?_);rintro e w' ⟨rfl,⟨nd,rfl⟩⟩;(try first|exact ⟨rfl,_,World.drewN_drewN _ _ _⟩|exact ⟨rfl,_,Eq.trans (World.drewN_drewN _ _ _) (congrArg (World.drewN _) (Nat.add_assoc _ _ _))⟩);have p516:0≤(x5_1:Int):=ydt;have q516:x5_1 < (l0.length:Int):=ydt;obtain ⟨ad516,e516,hx516_0⟩:=Kd.at_int HR0.out x5_1 p516 q516;obtain rfl:ad514=ad516:=(by injection e516);replace p516:=eq_true p516;replace q516:=eq_true q516));try go_wp2_with (first|(go_at_call 70;(with_reducible refine (spec_l1In.calls (rd l0 x5_1) 0 (wrap64 ((ji7) - 2)) true _ A8.out).mono ?_);rintro e w' ⟨rfl,⟨nd,rfl⟩⟩;(try first|exact ⟨rfl,_,World.drewN_drewN _ _ _⟩|exact ⟨rfl,_,Eq.trans (World.drewN_drewN _ _ _) (congrArg (World.drewN _) (Nat.add_assoc _ _ _))⟩);have p516:0≤(x5_1:Int):=ydt;have q516:x5_1 < (l0.length:Int):=ydt;obtain ⟨ad516,e516,hx516_0⟩:=Kd.at_int HR0.out x5_1 p516 q516;obtain rfl:ad514=ad516:=(by injection e516);replace p516:=eq_true p516;replace q516:=eq_true q516)))
   go_ret
   exact ⟨by first|rfl|(simp;done)|(simp only [← hji5,← hji7] <;> (first|rfl|simp))|(simp [*];done),by repeat (first|exact Drawn0.refl _|apply Drawn0.step)⟩
  have c10b0:((Int.tmod (rd l0 x5_1) 2) == 0)=true:=beq_iff_eq.mpr c10
  have c10b1:((Int.tmod (rd l0 x5_1) 2) != 0)=false:=bne_eq_false_iff_eq.mpr c10
  clear c10
  replace H:=yam H
  obtain ⟨ad514,e514,hx514_0,p514,q514⟩:=yat HR0.out x5_1
  cases e514
  have hwq0_:IntKind.i64.wrap ((ji7) - 2)=wrap64 ((ji7) - 2):=i64_w _
  go_wp2_with (first|(go_at_call 70;(with_reducible refine (spec_l1In.calls (rd l0 x5_1) 0 (wrap64 ((ji7) - 2)) true _ A8.out).mono ?_);rintro e w' ⟨rfl,⟨nd,rfl⟩⟩;(try first|exact ⟨rfl,_,World.drewN_drewN _ _ _⟩|exact ⟨rfl,_,Eq.trans (World.drewN_drewN _ _ _) (congrArg (World.drewN _) (Nat.add_assoc _ _ _))⟩);have p516:0≤(x5_1:Int):=ydt;have q516:x5_1 < (l0.length:Int):=ydt;obtain ⟨ad516,e516,hx516_0⟩:=Kd.at_int HR0.out x5_1 p516 q516;obtain rfl:ad514=ad516:=(by injection e516);replace p516:=eq_true p516;replace q516:=eq_true q516))
  repeat (go_quiet (first|(go_at_call 70;(with_reducible refine (spec_l1In.calls (rd l0 x5_1) 0 (wrap64 ((ji7) - 2)) true _ A8.out).mono ?_);rintro e w' ⟨rfl,⟨nd,rfl⟩⟩;(try first|exact ⟨rfl,_,World.drewN_drewN _ _ _⟩|exact ⟨rfl,_,Eq.trans (World.drewN_drewN _ _ _) (congrArg (World.drewN _) (Nat.add_assoc _ _ _))⟩);have p516:0≤(x5_1:Int):=ydt;have q516:x5_1 < (l0.length:Int):=ydt;obtain ⟨ad516,e516,hx516_0⟩:=Kd.at_int HR0.out x5_1 p516 q516;obtain rfl:ad514=ad516:=(by injection e516);replace p516:=eq_true p516;replace q516:=eq_true q516));try go_wp2_with (first|(go_at_call 70;(with_reducible refine (spec_l1In.calls (rd l0 x5_1) 0 (wrap64 ((ji7) - 2)) true _ A8.out).mono ?_);rintro e w' ⟨rfl,⟨nd,rfl⟩⟩;(try first|exact ⟨rfl,_,World.drewN_drewN _ _ _⟩|exact ⟨rfl,_,Eq.trans (World.drewN_drewN _ _ _) (congrArg (World.drewN _) (Nat.add_assoc _ _ _))⟩);have p516:0≤(x5_1:Int):=ydt;have q516:x5_1 < (l0.length:Int):=ydt;obtain ⟨ad516,e516,hx516_0⟩:=Kd.at_int HR0.out x5_1 p516 q516;obtain rfl:ad514=ad516:=(by injection e516);replace p516:=eq_true p516;replace q516:=eq_true q516)))
  go_roundg k1
  case measure=>have:=HK1.out;omega
  case rel=>exact ⟨(wrap64 (x5_1 + 1)),yeq,H,⟨by have:=HK1.out;omega⟩,by repeat (first|exact Drawn0.refl _|apply Drawn0.step)⟩
mutual
def spec_l4Holds.l0:Nat→List Int→Int→Int→Bool→Int→Int→List Int→Int→Option (Bool)
 | 0,_,_,_,_,_,_,_,_=>none
 | k + 1,x1,x5,x6,x7,x8,x519000,x519001,x519002=>if x8 < (x1.length:Int) then (if 0≤x8 then (spec_l4Holds.l1 k x1 (wrap64 (x5 + (rd x1 x8))) (wrap64 (x6 * (rd x1 x8))) x7 x8 0 x519000 x519001 x519002) else (none)) else (if x519000=1 then (some x7) else (if x519000=2 then (some (x5 == x519002)) else (if x519000=3 then (some (x6 == x519002)) else (if x519000=4 then (if 0 < (x1.length:Int) then (if 1 < (x1.length:Int) then (some (decide ((rd x1 0) < (rd x1 1)))) else (none)) else (none)) else (if 0 < (x1.length:Int) then (if 1 < (x1.length:Int) then (some ((mx (wrap64 ((rd x1 0) - (rd x1 1))) (wrap64 (-(wrap64 ((rd x1 0) - (rd x1 1)))))) == x519002)) else (none)) else (none))))))
def spec_l4Holds.l1:Nat→List Int→Int→Int→Bool→Int→Int→Int→List Int→Int→Option (Bool)
 | 0,_,_,_,_,_,_,_,_,_=>none
 | k + 1,x1,x5,x6,x7,x8,x9,x519000,x519001,x519002=>if x9 < x8 then (if x7=true then (if 0≤x9 then (if x9 < (x1.length:Int) then (if 0≤x8 then (if x8 < (x1.length:Int) then (spec_l4Holds.l1 k x1 x5 x6 ((rd x1 x9) != (rd x1 x8)) x8 (wrap64 (x9 + 1)) x519000 x519001 x519002) else (none)) else (none)) else (none)) else (none)) else (spec_l4Holds.l1 k x1 x5 x6 false x8 (wrap64 (x9 + 1)) x519000 x519001 x519002)) else (spec_l4Holds.l0 k x1 x5 x6 x7 (wrap64 (x8 + 1)) x519000 x519001 x519002)
end
def spec_l4Holds.f (k:Nat)(a0_0:Int)(l0_1:List Int)(a0_2:Int)(l1:List Int):Option (Bool):=spec_l4Holds.l0 k l1 0 1 true 0 a0_0 l0_1 a0_2
theorem spec_l4Holds.calls (k:Nat)(a0_0:Int)(A0_1:Option Addr)(c0_1:Nat)(l0_1:List Int)(a0_2:Int)(A1:Option Addr)(c1:Nat)(l1:List Int)(r:Bool)(w:World)(hr0_1:Kd.C (Kd.int .i64) w A0_1 l0_1.length l0_1)(hc0_1:l0_1.length≤c0_1)(hr1:Kd.C (Kd.int .i64) w A1 l1.length l1)(hc1:l1.length≤c1)(h:spec_l4Holds.f k a0_0 l0_1 a0_2 l1=some r) :
  Calls Try.prog 83 #[.agg #[.int .i64 a0_0,.slice A0_1 l0_1.length c0_1,.int .i64 a0_2],.slice A1 l1.length c1] w fun e w'=>e= .returned (.bool r)∧Below w.heap.size w w':=by
 have hu32:=Try.underlying32
 have HR0_1:=yam hr0_1
 have HC0_1:=yam hc0_1
 clear hr0_1 hc0_1
 have HR1:=yam hr1
 have HC1:=yam hc1
 clear hr1 hc1
 have HB:=yam (Below.refl w.heap.size w)
 unfold spec_l4Holds.f at h
 have H:=h
 clear h
 replace H:=yam H
 go_enter Try.func83,Try.ntmps83
 go_wp2_with (first|(refine ybe 2 #[.int .i64 a0_0,.slice A0_1 l0_1.length c0_1,.int .i64 a0_2] 32 ?_;intro gb518 hg w3 hbox hb;have BK518:=yam (hbox);have GW518:=yam ((by rw [hg];exact (below_size (yez HB.out)):w.heap.size≤gb518));replace HB:=yam (below_step (yez HB.out) hb);have GE518:=GW518;clear hb hbox hg))
 repeat (go_quiet (first|(refine ybe 2 #[.int .i64 a0_0,.slice A0_1 l0_1.length c0_1,.int .i64 a0_2] 32 ?_;intro gb518 hg w3 hbox hb;have BK518:=yam (hbox);have GW518:=yam ((by rw [hg];exact (below_size (yez HB.out)):w.heap.size≤gb518));replace HB:=yam (below_step (yez HB.out) hb);have GE518:=GW518;clear hb hbox hg));try go_wp2_with (first|(refine ybe 2 #[.int .i64 a0_0,.slice A0_1 l0_1.length c0_1,.int .i64 a0_2] 32 ?_;intro gb518 hg w3 hbox hb;have BK518:=yam (hbox);have GW518:=yam ((by rw [hg];exact (below_size (yez HB.out)):w.heap.size≤gb518));replace HB:=yam (below_step (yez HB.out) hb);have GE518:=GW518;clear hb hbox hg)))
 go_loopg [5,6,7,8] k (fun kq v5 v6 v7 v8 w'=>∃ (x5_1:Int) (x6_1:Int) (x7_1:Bool) (x8_1:Int),v5= .int .i64 x5_1∧v6= .int .i64 x6_1∧v7= .bool x7_1∧v8= .int .i64 x8_1∧Aside0 (spec_l4Holds.l0 kq l1 x5_1 x6_1 x7_1 x8_1 a0_0 l0_1 a0_2=some r)∧Aside0 (kq≤k)∧Aside0 (w'.heap[gb518]?=some (.cells #[.int .i64 a0_0,(.slice A0_1 l0_1.length c0_1),.int .i64 a0_2] 32 (0,0)))∧Aside0 (Below w.heap.size w w'))
 case atStart=>exact ⟨(0),(1),(true),(0),yeq,yeq,yeq,yeq,H,⟨Nat.le_refl _⟩,⟨ybk BK518.out⟩,⟨yhb⟩⟩
 case round =>
  clear H
  try clear c1
  obtain ⟨x5_1,x6_1,x7_1,x8_1,rfl,rfl,rfl,rfl,HA,HK1,BK518,HB⟩:=hrel
  rcases gk with _|k1
  ·exact absurd HA.out (by simp [spec_l4Holds.l0])
  obtain ⟨H⟩:=HA
  simp only [spec_l4Holds.l0] at H
  replace H:=yis H;obtain ⟨c4b0,H⟩ | ⟨c4b0,H⟩:=H
  ·replace H:=yif H;obtain ⟨c5b0,H⟩:=H
   replace H:=yam H
   obtain ⟨ad519,e519,hx519_0,p519,q519⟩:=yat HR1.out x8_1
   cases e519
   replace hx519_0:=ybx HB.out hx519_0
   obtain ⟨ad520,e520,hx520_0,p520,q520⟩:=yat HR1.out x8_1
   obtain rfl:ad519=ad520:=(by injection e520)
   replace hx520_0:=ybx HB.out hx520_0
   go_wp2
   repeat (go_quiet (fail);try go_wp2)
   go_loopg [7,9] k1 (fun kq v7 v9 w'=>∃ (x7_2:Bool) (x9_2:Int),v7= .bool x7_2∧v9= .int .i64 x9_2∧Aside0 (spec_l4Holds.l1 kq l1 (wrap64 (x5_1 + (rd l1 x8_1))) (wrap64 (x6_1 * (rd l1 x8_1))) x7_2 x8_1 x9_2 a0_0 l0_1 a0_2=some r)∧Aside0 (kq≤k1)∧Aside0 (w'.heap[gb518]?=some (.cells #[.int .i64 a0_0,(.slice A0_1 l0_1.length c0_1),.int .i64 a0_2] 32 (0,0)))∧Aside0 (Below w.heap.size w w'))
   case atStart=>exact ⟨(x7_1),(0),yeq,yeq,H,⟨Nat.le_refl _⟩,⟨ybk BK518.out⟩,⟨yhb⟩⟩
   case round =>
    clear H
    try clear c4b0
    try clear c5b0
    try clear hx519_0
    try clear hx520_0
    try clear p519
    try clear p520
    try clear q519
    try clear q520
    obtain ⟨x7_2,x9_2,rfl,rfl,HA,HK2,BK518,HB⟩:=hrel
    rcases gk with _|k2
    ·exact absurd HA.out (by simp [spec_l4Holds.l1])
    obtain ⟨H⟩:=HA
    simp only [spec_l4Holds.l1] at H
    replace H:=yis H;obtain ⟨c6b0,H⟩ | ⟨c6b0,H⟩:=H
    rotate_left
    ·replace H:=yam H
     go_wp2
     repeat (go_quiet (fail);try go_wp2)
     go_roundg k2
     case measure=>have:=HK1.out;have:=HK2.out;omega
     case rel=>exact ⟨((wrap64 (x5_1 + (rd l1 x8_1)))),((wrap64 (x6_1 * (rd l1 x8_1)))),(x7_2),(wrap64 (x8_1 + 1)),yeq,yeq,yeq,yeq,H,⟨by have:=HK1.out;have:=HK2.out;omega⟩,⟨ybk BK518.out⟩,⟨yhb⟩⟩
    cases x7_2
    ·replace H:=yff H
     replace H:=yam H
     go_wp2
     repeat (go_quiet (fail);try go_wp2)
     go_roundg k2
     case measure=>have:=HK1.out;have:=HK2.out;omega
     case rel=>exact ⟨(false),(wrap64 (x9_2 + 1)),yeq,yeq,H,⟨by have:=HK1.out;have:=HK2.out;omega⟩,⟨ybk BK518.out⟩,⟨yhb⟩⟩
    replace H:=ytt H
    replace H:=yif H;obtain ⟨c8b0,H⟩:=H
    replace H:=yif H;obtain ⟨c9b0,H⟩:=H
    replace H:=yif H;obtain ⟨c10b0,H⟩:=H
    replace H:=yif H;obtain ⟨c11b0,H⟩:=H
    replace H:=yam H
    obtain ⟨ad521,e521,hx521_0,p521,q521⟩:=yat HR1.out x9_2
    obtain rfl:ad519=ad521:=(by injection e521)
    replace hx521_0:=ybx HB.out hx521_0
    obtain ⟨ad522,e522,hx522_0,p522,q522⟩:=yat HR1.out x8_1
    obtain rfl:ad519=ad522:=(by injection e522)
    replace hx522_0:=ybx HB.out hx522_0
    go_wp2
    repeat (go_quiet (fail);try go_wp2)
    go_roundg k2
    case measure=>have:=HK1.out;have:=HK2.out;omega
    case rel=>exact ⟨(((rd l1 x9_2) != (rd l1 x8_1))),(wrap64 (x9_2 + 1)),yeq,yeq,H,⟨by have:=HK1.out;have:=HK2.out;omega⟩,⟨ybk BK518.out⟩,⟨yhb⟩⟩
  replace H:=yit H;obtain ⟨c12,H⟩ | ⟨c12,H⟩:=H
  ·have c12b0:(a0_0 == 1)=true:=beq_iff_eq.mpr c12
   have c12b1:(a0_0 != 1)=false:=bne_eq_false_iff_eq.mpr c12
   clear c12
   obtain rfl:=ysi H
   obtain ⟨hcz13_0,hcz13_1,hcz13_2,hfz13_0,hfz13_1,hfz13_2⟩:=ybc BK518.out
   go_wp2
   repeat (go_quiet (fail);try go_wp2)
   go_ret
   exact ⟨yer,yhb⟩
  have c12b0:(a0_0 == 1)=false:=beq_eq_false_iff_ne.mpr c12
  have c12b1:(a0_0 != 1)=true:=bne_iff_ne.mpr c12
  replace H:=yit H;obtain ⟨c14,H⟩ | ⟨c14,H⟩:=H
  ·have c14b0:(a0_0 == 2)=true:=beq_iff_eq.mpr c14
   have c14b1:(a0_0 != 2)=false:=bne_eq_false_iff_eq.mpr c14
   clear c14
   obtain rfl:=ysi H
   obtain ⟨hcz15_0,hcz15_1,hcz15_2,hfz15_0,hfz15_1,hfz15_2⟩:=ybc BK518.out
   go_wp2
   repeat (go_quiet (fail);try go_wp2)
   go_ret
   exact ⟨yer,yhb⟩
  have c14b0:(a0_0 == 2)=false:=beq_eq_false_iff_ne.mpr c14
  have c14b1:(a0_0 != 2)=true:=bne_iff_ne.mpr c14
  replace H:=yit H;obtain ⟨c16,H⟩ | ⟨c16,H⟩:=H
  ·have c16b0:(a0_0 == 3)=true:=beq_iff_eq.mpr c16
   have c16b1:(a0_0 != 3)=false:=bne_eq_false_iff_eq.mpr c16
   clear c16
   obtain rfl:=ysi H
   obtain ⟨hcz17_0,hcz17_1,hcz17_2,hfz17_0,hfz17_1,hfz17_2⟩:=ybc BK518.out
   go_wp2
   repeat (go_quiet (fail);try go_wp2)
   go_ret
   exact ⟨yer,yhb⟩
  have c16b0:(a0_0 == 3)=false:=beq_eq_false_iff_ne.mpr c16
  have c16b1:(a0_0 != 3)=true:=bne_iff_ne.mpr c16
  replace H:=yit H;obtain ⟨c18,H⟩ | ⟨c18,H⟩:=H
  ·have c18b0:(a0_0 == 4)=true:=beq_iff_eq.mpr c18
   have c18b1:(a0_0 != 4)=false:=bne_eq_false_iff_eq.mpr c18
   clear c18
   replace H:=yig H;obtain ⟨c19,H⟩:=H
   have c19b0:decide (0 < (l1.length:Int))=true:=decide_eq_true c19
   have c19b1:decide (0 < l1.length)=true:=decide_eq_true (by omega)
   clear c19
   replace H:=yig H;obtain ⟨c20,H⟩:=H
   have c20b0:decide (1 < (l1.length:Int))=true:=decide_eq_true c20
   have c20b1:decide (1 < l1.length)=true:=decide_eq_true (by omega)
   clear c20
   obtain rfl:=ysi H
   obtain ⟨hcz21_0,hcz21_1,hcz21_2,hfz21_0,hfz21_1,hfz21_2⟩:=ybc BK518.out
   have p523:0≤(0:Int):=(by omega)
   have q523:0 < (l1.length:Int):=ydt
   obtain ⟨ad523,e523,hx523_0⟩:=Kd.at_int HR1.out 0 p523 q523
   cases e523
   have qi523:(0 < l1.length)=True:=eq_true (by omega)
   (try rw [show ((0:Int)).toNat=0 from rfl] at hx523_0)
   (try rw [Addr.add_zero'] at hx523_0)
   replace hx523_0:=ybx HB.out hx523_0
   replace p523:=eq_true p523
   replace q523:=eq_true q523
   have p524:0≤(1:Int):=(by omega)
   have q524:1 < (l1.length:Int):=ydt
   obtain ⟨ad524,e524,hx524_0⟩:=Kd.at_int HR1.out 1 p524 q524
   obtain rfl:ad523=ad524:=(by injection e524)
   (try simp only [show (1:Int).toNat=1 from rfl,Nat.reduceMul,Nat.reduceEqDiff,Go.Addr.add,↓reduceIte] at hx524_0)
   have qi524:(1 < l1.length)=True:=eq_true (by omega)
   (try rw [show ((1:Int)).toNat=1 from rfl] at hx524_0)
   replace hx524_0:=ybx HB.out hx524_0
   replace p524:=eq_true p524
   replace q524:=eq_true q524
   go_wp2
   repeat (go_quiet (fail);try go_wp2)
   go_ret
   exact ⟨yer,yhb⟩
  have c18b0:(a0_0 == 4)=false:=beq_eq_false_iff_ne.mpr c18
  have c18b1:(a0_0 != 4)=true:=bne_iff_ne.mpr c18
  replace H:=yit H;obtain ⟨c22,H⟩ | ⟨c22,H⟩:=H
  rotate_left
  ·exact absurd H (by simp)
  have c22b0:decide (0 < (l1.length:Int))=true:=decide_eq_true c22
  have c22b1:decide (0 < l1.length)=true:=decide_eq_true (by omega)
  clear c22
  replace H:=yig H;obtain ⟨c23,H⟩:=H
  have c23b0:decide (1 < (l1.length:Int))=true:=decide_eq_true c23
  have c23b1:decide (1 < l1.length)=true:=decide_eq_true (by omega)
  clear c23
  obtain ⟨ji24,hji24⟩:∃ j_:Int,(mx (wrap64 ((rd l1 0) - (rd l1 1))) (wrap64 (-(wrap64 ((rd l1 0) - (rd l1 1))))))=j_:=⟨_,rfl⟩
  replace H:(some ((ji24) == a0_2))=some r:=by first|(rw [hji24] at H;exact H)|(simp only [hji24] at H ⊢;exact H)
  have hji24_:(if (wrap64 ((rd l1 0) - (rd l1 1))) < (wrap64 (-(wrap64 ((rd l1 0) - (rd l1 1))))) then (wrap64 (-(wrap64 ((rd l1 0) - (rd l1 1))))) else (wrap64 ((rd l1 0) - (rd l1 1))))=ji24:=hji24
  obtain rfl:=ysi H
  obtain ⟨hcz25_0,hcz25_1,hcz25_2,hfz25_0,hfz25_1,hfz25_2⟩:=ybc BK518.out
  have p525:0≤(0:Int):=(by omega)
  have q525:0 < (l1.length:Int):=ydt
  obtain ⟨ad525,e525,hx525_0⟩:=Kd.at_int HR1.out 0 p525 q525
  cases e525
  have qi525:(0 < l1.length)=True:=eq_true (by omega)
  (try rw [show ((0:Int)).toNat=0 from rfl] at hx525_0)
  (try rw [Addr.add_zero'] at hx525_0)
  replace hx525_0:=ybx HB.out hx525_0
  replace p525:=eq_true p525
  replace q525:=eq_true q525
  have p526:0≤(1:Int):=(by omega)
  have q526:1 < (l1.length:Int):=ydt
  obtain ⟨ad526,e526,hx526_0⟩:=Kd.at_int HR1.out 1 p526 q526
  obtain rfl:ad525=ad526:=(by injection e526)
  (try simp only [show (1:Int).toNat=1 from rfl,Nat.reduceMul,Nat.reduceEqDiff,Go.Addr.add,↓reduceIte] at hx526_0)
  have qi526:(1 < l1.length)=True:=eq_true (by omega)
  (try rw [show ((1:Int)).toNat=1 from rfl] at hx526_0)
  replace hx526_0:=ybx HB.out hx526_0
  replace p526:=eq_true p526
  replace q526:=eq_true q526
  go_wp2
  repeat (go_quiet (fail);try go_wp2)
  go_ret
  exact ⟨by first|rfl|(simp [errW_none,errW_some] <;> rfl)|(simp only [← hji24];first|rfl|(simp [errW_none,errW_some] <;> rfl))|(simp [*,errW_none,errW_some] <;> rfl),yhb⟩
mutual
def spec_MaskValues.l0:Nat→Int→List Int→Int→Option (List Int)
 | 0,_,_,_=>none
 | k + 1,x0,x3,x4=>if x4≤4 then ((spec_l1In.f x0 0 30).bind fun t530=>(if t530=true then (spec_MaskValues.j1 k x0 x3 x4 ((Int.tmod x0 2) == 0)) else (spec_MaskValues.j1 k x0 x3 x4 false))) else (spec_MaskValues.j1 k x0 x3 x4 false)
def spec_MaskValues.j1:Nat→Int→List Int→Int→Bool→Option (List Int)
 | 0,_,_,_,_=>none
 | k + 1,x0,x3,x4,x16=>if x16=true then (if 0≤x4 then (if (Int.tmod (shr .i64 x0 x4) 2)=1 then (if x3.length < 17592186044416 then (spec_MaskValues.l0 k x0 (x3 ++ [x4]) (wrap64 (x4 + 1))) else (none)) else (spec_MaskValues.l0 k x0 x3 (wrap64 (x4 + 1)))) else (none)) else (some x3)
end
def spec_MaskValues.f (k:Nat)(a0:Int):Option (List Int):=spec_MaskValues.l0 k a0 (([]:List Int)) 1
theorem spec_MaskValues.mono_l:∀ k,(∀ y0 y1 y2,LeO (spec_MaskValues.l0 k y0 y1 y2) (spec_MaskValues.l0 (k + 1) y0 y1 y2))∧(∀ y0 y1 y2 y3,LeO (spec_MaskValues.j1 k y0 y1 y2 y3) (spec_MaskValues.j1 (k + 1) y0 y1 y2 y3))
 | 0=>⟨fun _ _ _ r h=>by simp [spec_MaskValues.l0] at h,fun _ _ _ _ r h=>by simp [spec_MaskValues.j1] at h⟩
 | k + 1=>by
  obtain ⟨ih0,ih1⟩:=spec_MaskValues.mono_l k
  refine ⟨?_,?_⟩
  ·intro y0 y1 y2
   unfold spec_MaskValues.l0
   repeat' first
   | (with_reducible exact ih0 _ _ _)
   | (with_reducible exact ih1 _ _ _ _)
   | (with_reducible exact LeO.refl _)
   | (with_reducible exact LeO.none _)
   | (with_reducible refine LeO.ite ?_ ?_)
   | (with_reducible refine LeO.bind ?_ (fun _=>?_))
   | exact ih0 _ _ _
   | exact ih1 _ _ _ _
   | exact LeO.none _
   | refine LeO.ite ?_ ?_
   | refine LeO.bind ?_ (fun _=>?_)
  ·intro y0 y1 y2 y3
   unfold spec_MaskValues.j1
   repeat' first
   | (with_reducible exact ih0 _ _ _)
   | (with_reducible exact ih1 _ _ _ _)
   | (with_reducible exact LeO.refl _)
   | (with_reducible exact LeO.none _)
   | (with_reducible refine LeO.ite ?_ ?_)
   | (with_reducible refine LeO.bind ?_ (fun _=>?_))
   | exact ih0 _ _ _
   | exact ih1 _ _ _ _
   | exact LeO.none _
   | refine LeO.ite ?_ ?_
   | refine LeO.bind ?_ (fun _=>?_)
theorem spec_MaskValues.mono:∀ a0 k,LeO (spec_MaskValues.f k a0) (spec_MaskValues.f (k + 1) a0):=by
 intro a0 k
 obtain ⟨ih0,ih1⟩:=spec_MaskValues.mono_l k
 unfold spec_MaskValues.f
 repeat' first
   | (with_reducible exact ih0 _ _ _)
   | (with_reducible exact ih1 _ _ _ _)
   | (with_reducible exact LeO.refl _)
   | (with_reducible exact LeO.none _)
   | (with_reducible refine LeO.ite ?_ ?_)
   | (with_reducible refine LeO.bind ?_ (fun _=>?_))
   | exact ih0 _ _ _
   | exact ih1 _ _ _ _
   | exact LeO.none _
   | refine LeO.ite ?_ ?_
   | refine LeO.bind ?_ (fun _=>?_)
theorem spec_MaskValues.calls (k:Nat)(a0:Int)(r:List Int)(w:World)(h:spec_MaskValues.f k a0=some r) :
  Calls Try.prog 90 #[.int .i64 a0] w fun e w'=>∃ v0_:Value,e= .returned (v0_)∧Kd.R (Kd.int .i64) 3 w' w.heap.size (fun _=>True) v0_ r∧Below w.heap.size w w':=by
 have HB:=yam (Below.refl w.heap.size w)
 unfold spec_MaskValues.f at h
 have H:=h
 clear h
 obtain ⟨y527,Ny527⟩:∃ y_:List Int,Aside0 (y_=(([]:List Int))):=⟨_,⟨rfl⟩⟩
 replace H:(spec_MaskValues.l0 k a0 y527 1)=some r:=yhn Ny527.out H
 replace H:=yam H
 go_enter Try.func90,Try.ntmps90
 go_wp2_with (first|((with_reducible refine gate_dst (N:=5) rfl ?_);refine Kd.R_lit (Kd.int .i64) _ 3 ?hg (N:=5) ?hd (xs:=([]:List Int)) (inner:=[]) (ok:=fun _=>True) (okp:=fun _=>True) ?hr ?hp (fun _ hk=>hk) trivial (Below.refl _ _) (Nat.le_refl _) (by simp) ?_;(case hd=>rfl);(case hg=>rfl);(case hr=>first|(go_simp;done)|(go_simp;rfl));(case hp=>exact (Reps.none _ _));intro v528 w2 ho3 hb hg_ hnew_;clear hg_ hnew_;(first|rw [← Ny527.out] at ho3|(simp only [Int.reduceToNat] at ho3;rw [← Ny527.out] at ho3));have HO529:=yam (Kd.R_lower ho3 (below_size (yez HB.out)));replace HB:=yam (below_step (yez HB.out) hb);clear hb ho3))
 go_loopg [3,4] k (fun kq v3 v4 w'=>∃ (x3_1:List Int) (x4_1:Int),v4= .int .i64 x4_1∧Aside0 (spec_MaskValues.l0 kq a0 x3_1 x4_1=some r)∧Aside0 (kq≤k)∧Aside0 (Kd.R (Kd.int .i64) 3 w' w.heap.size (fun _=>True) v3 x3_1)∧Aside0 (Below w.heap.size w w'))
 case atStart=>exact ⟨(y527),(1),yeq,H,⟨Nat.le_refl _⟩,⟨yka HO529.out⟩,⟨yhb⟩⟩
 case round =>
  clear H
  obtain ⟨x3_1,x4_1,rfl,HA,HK1,HO_3,HB⟩:=hrel
  rcases gk with _|k1
  ·exact absurd HA.out (by simp [spec_MaskValues.l0])
  obtain ⟨H⟩:=HA
  simp only [spec_MaskValues.l0] at H
  have HC4:=yam H
  clear H
  go_upto_region 3 with (fail)
  go_cut [16] (fun v16 wc=>∃ (kq:Nat) (x16_3:Bool),v16= .bool x16_3∧Aside0 (spec_MaskValues.j1 kq a0 x3_1 x4_1 x16_3=some r)∧Aside0 (kq≤k1)∧Aside0 (Kd.R (Kd.int .i64) 3 wc w.heap.size (fun _=>True) u3 x3_1)∧Aside0 (Below w.heap.size w wc))
  case first =>
   have H:=HC4.out
   clear HC4
   replace H:=yis H;obtain ⟨c5b0,H⟩ | ⟨c5b0,H⟩:=H
   rotate_left
   ·(first|rw [c5b0]|(simp only [i64_w,i32_w];rw [c5b0])|skip)
    replace H:=yam H
    go_wp2
    go_meet
    case rel=>exact ⟨_,(false),yeq,H,⟨by have:=HK1.out;first|omega|exact Nat.le_refl _⟩,⟨yka HO_3.out⟩,⟨yhb⟩⟩
   (first|rw [c5b0]|(simp only [i64_w,i32_w];rw [c5b0])|skip)
   replace H:=ybi H;obtain ⟨t530,A6,H⟩:=H
   try dsimp only at H
   cases t530
   rotate_left
   ·replace H:=ytt H
    replace H:=yam H
    go_wp2_with (first|(go_at_call 70;(with_reducible refine (spec_l1In.calls a0 0 30 true _ A6.out).mono ?_);rintro e w' ⟨rfl,⟨nd,rfl⟩⟩))
    go_meet
    case rel=>exact ⟨_,(((Int.tmod a0 2) == 0)),yeq,H,⟨by have:=HK1.out;first|omega|exact Nat.le_refl _⟩,⟨yka HO_3.out⟩,⟨yhb⟩⟩
   replace H:=yff H
   replace H:=yam H
   go_wp2_with (first|(go_at_call 70;(with_reducible refine (spec_l1In.calls a0 0 30 false _ A6.out).mono ?_);rintro e w' ⟨rfl,⟨nd,rfl⟩⟩))
   go_meet
   case rel=>exact ⟨_,(false),yeq,H,⟨by have:=HK1.out;first|omega|exact Nat.le_refl _⟩,⟨yka HO_3.out⟩,⟨yhb⟩⟩
  case rest =>
   clear HC4
   obtain ⟨kq,x16_3,rfl,HA,HJ3,HO_3,HB⟩:=hcut
   rcases kq with _|kj3
   ·exact absurd HA.out (by simp [spec_MaskValues.j1])
   obtain ⟨H⟩:=HA
   simp only [spec_MaskValues.j1] at H
   cases x16_3
   ·replace H:=yff H
    obtain rfl:=ysi H
    go_wp2
    go_ret
    exact ⟨_,yer,yka HO_3.out,yhb⟩
   replace H:=ytt H
   replace H:=yig H;obtain ⟨c9,H⟩:=H
   have c9b0:=eq_true c9
   have c9b1:decide (0≤x4_1)=true:=decide_eq_true c9
   clear c9
   obtain ⟨ji10,hji10⟩:∃ j_:Int,(shr .i64 a0 x4_1)=j_:=⟨_,rfl⟩
   replace H:(if (Int.tmod (ji10) 2)=1 then (if x3_1.length < 17592186044416 then (spec_MaskValues.l0 kj3 a0 (x3_1 ++ [x4_1]) (wrap64 (x4_1 + 1))) else (none)) else (spec_MaskValues.l0 kj3 a0 x3_1 (wrap64 (x4_1 + 1))))=some r:=by first|(rw [hji10] at H;exact H)|(simp only [hji10] at H ⊢;exact H)
   have hji10_:(a0 / 2 ^ min x4_1.toNat 64)=ji10:=hji10
   have hji10z:x4_1≤64→(a0 / 2 ^ x4_1.toNat)=ji10:=shr_small hji10
   replace H:=yit H;obtain ⟨c11,H⟩ | ⟨c11,H⟩:=H
   rotate_left
   ·have c11b0:((Int.tmod (ji10) 2) == 1)=false:=beq_eq_false_iff_ne.mpr c11
    have c11b1:((Int.tmod (ji10) 2) != 1)=true:=bne_iff_ne.mpr c11
    replace H:=yam H
    go_wp2
    go_roundg kj3
    case measure=>have:=HK1.out;have:=HJ3.out;omega
    case rel=>exact ⟨(x3_1),(wrap64 (x4_1 + 1)),yeq,H,⟨by have:=HK1.out;have:=HJ3.out;omega⟩,⟨yka HO_3.out⟩,⟨yhb⟩⟩
   have c11b0:((Int.tmod (ji10) 2) == 1)=true:=beq_iff_eq.mpr c11
   have c11b1:((Int.tmod (ji10) 2) != 1)=false:=bne_eq_false_iff_eq.mpr c11
   clear c11
   replace H:=yig H;obtain ⟨c12,H⟩:=H
   have LMc12:=yam c12
   clear c12
   obtain ⟨y531,Ny531⟩:∃ y_:List Int,Aside0 (y_=(x3_1 ++ [x4_1])):=⟨_,⟨rfl⟩⟩
   replace H:(spec_MaskValues.l0 kj3 a0 y531 (wrap64 (x4_1 + 1)))=some r:=yhn Ny531.out H
   replace H:=yam H
   go_wp2_with (first|((with_reducible refine gate_builtin (b:= .append) (xs:= #[.tmp 24,.tmp 26]) rfl ?_);at_builtin;refine Kd.R_append (Kd.int .i64) (w0:=w) w.heap.size rfl (.tmp 24) (.tmp 26) 23 3 (.int .i64 0) 8 rfl Try.underlying23 info3 rfl (by decide) (by omega) u3 x3_1 x4_1 [.int .i64 x4_1] (fun _=>True) (fun _=>False) rfl rfl ?aP (fun _ hk=>hk.elim) ?aF ?aO ?aB ?aS ?aL ?_;(case aP=>exact rfl);(case aB=>exact (yez HB.out));(case aF=>exact (fun _ _=>trivial));(case aO=>exact (Kd.Yz HO_3.out));(case aS=>exact (below_size (yez HB.out)));(case aL=>have:=LMc12.out;omega);intro v532 w13 ho hb hg hat;rw [← Ny531.out] at ho;replace HB:=yam (hb);have HO533:=yam (ho);clear HO_3;clear ho hb hg hat))
   go_roundg kj3
   case measure=>have:=HK1.out;have:=HJ3.out;omega
   case rel=>exact ⟨(y531),(wrap64 (x4_1 + 1)),yeq,H,⟨by have:=HK1.out;have:=HJ3.out;omega⟩,⟨yka HO533.out⟩,⟨yhb⟩⟩
mutual
def spec_l4Ways.l0:Nat→List Int→List Int→Int→Int→Option (List Int)
 | 0,_,_,_,_=>none
 | k + 1,x2,x3,x8,x9=>if x9 < x8 then (if 0≤x9 then (if x9 < (x3.length:Int) then (if x9 < (x2.length:Int) then (if 0≤(rd x2 x9) then (spec_l4Ways.l0 k x2 (x3.set (x9:Int).toNat (Go.bits .or .i64 (rd x3 x9) (shl .i64 1 (rd x2 x9)))) x8 (wrap64 (x9 + 1))) else (none)) else (none)) else (none)) else (none)) else (some x3)
def spec_l4Ways.l1:Nat→List Int→List Int→List Int→List Int→Int→Int→List Int→Int→Option (List Int)
 | 0,_,_,_,_,_,_,_,_=>none
 | k + 1,x1,x2,x3,x10,x11,x535000,x535001,x535002=>if x11 < (x10.length:Int) then ((some (([]:List Int):List Int)).bind fun y544=>(if y544.length + x2.length < 17592186044416 then ((some (y544 ++ x2:List Int)).bind fun y547=>(if 0≤x11 then ((some (([rd x10 x11]:List Int):List Int)).bind fun y551=>(if y547.length + y551.length < 17592186044416 then ((spec_l4Ways.f k x535000 x535001 x535002 x1 (y547 ++ y551) x3).bind fun t557=>(spec_l4Ways.l1 k x1 x2 t557 x10 (wrap64 (x11 + 1)) x535000 x535001 x535002)) else (none))) else (none))) else (none))) else (some x3)
def spec_l4Ways.f:Nat→Int→List Int→Int→List Int→List Int→List Int→Option (List Int)
 | 0,_,_,_,_,_,_=>none
 | k + 1,a0_0,l0_1,a0_2,l1,l2,l3=>if (l2.length:Int)=(l0_1.length:Int) then ((spec_l4Holds.f k a0_0 l0_1 a0_2 l2).bind fun t535=>(if t535=true then (spec_l4Ways.l0 k l2 l3 (l2.length:Int) 0) else (some l3))) else (if 0≤(l2.length:Int) then (if (l2.length:Int) < (l0_1.length:Int) then (if 0≤(rd l0_1 (l2.length:Int)) then (if (rd l0_1 (l2.length:Int)) < (l1.length:Int) then ((spec_MaskValues.f k (rd l1 (rd l0_1 (l2.length:Int)))).bind fun t541=>(spec_l4Ways.l1 k l1 l2 l3 t541 0 a0_0 l0_1 a0_2)) else (none)) else (none)) else (none)) else (none))
end
def spec_l4Ways.T7:Bool × List (List Nat × List Nat):=(true,[([],[]),([],[]),([],[]),([],[]),([2,3],[2,3]),([4],[4]),([],[]),([],[]),([6,7],[6,7]),([8],[8]),([9],[9]),([5,10],[5,10]),([0,1,0,1,2,3,4,5,6,7,8,9,10,11],[0,1]),([12,11,0,1,2,3,4,5,6,7,8,9,10,11],[11,12])])
def spec_l4Ways.B7:List Nat:=[0,0,0,0,12,28,0,0,192,448,960,2044,4095,8191]
theorem spec_l4Ways.tab7:rtab .any (opsOf Try.f76 7)=spec_l4Ways.T7:=by kernel_rfl
theorem spec_l4Ways.bits7:waitsOk spec_l4Ways.T7.2 spec_l4Ways.B7=true:=by kernel_rfl
def spec_l4Ways.T12:Bool × List (List Nat × List Nat):=(true,[([],[]),([],[]),([],[]),([],[]),([2,3],[2,3]),([],[]),([],[]),([5,6],[5,6]),([7],[7]),([8],[8]),([4,9,4],[4,9]),([],[]),([0,1,10,11,10],[0,1,10,11])])
def spec_l4Ways.B12:List Nat:=[0,0,0,0,12,0,0,96,224,480,1020,0,4095]
theorem spec_l4Ways.tab12:rtab .any (opsOf Try.f76 12)=spec_l4Ways.T12:=by kernel_rfl
theorem spec_l4Ways.bits12:waitsOk spec_l4Ways.T12.2 spec_l4Ways.B12=true:=by kernel_rfl
theorem spec_l4Ways.calls (k:Nat):∀ (a0_0:Int) (A0_1:Option Addr) (c0_1:Nat) (l0_1:List Int) (a0_2:Int) (A1:Option Addr) (c1:Nat) (l1:List Int) (A2:Option Addr) (c2:Nat) (l2:List Int) (P3_:Nat→Prop) (u9000_:Value) (l3:List Int) (r:List Int) (w0 w:World) (hB:Below w0.heap.size w0 w) (hr0_1:∀ W_,Kept w W_ (fun k_=>P3_ k_)→Kd.C (Kd.int .i64) W_ A0_1 l0_1.length l0_1) (hc0_1:l0_1.length≤c0_1) (hr1:∀ W_,Kept w W_ (fun k_=>P3_ k_)→Kd.C (Kd.int .i64) W_ A1 l1.length l1) (hc1:l1.length≤c1) (hr2:∀ W_,Kept w W_ (fun k_=>P3_ k_)→Kd.C (Kd.int .i64) W_ A2 l2.length l2) (hc2:l2.length≤c2) (ho3:Kd.R (Kd.int .i64) 3 w w0.heap.size P3_ u9000_ l3) (h:spec_l4Ways.f k a0_0 l0_1 a0_2 l1 l2 l3=some r),
  Calls Try.prog 76 #[.agg #[.int .i64 a0_0,.slice A0_1 l0_1.length c0_1,.int .i64 a0_2],.slice A1 l1.length c1,.slice A2 l2.length c2,u9000_] w fun e w'=>e= .returned (.tuple #[])∧Kd.R (Kd.int .i64) 3 w' w0.heap.size (fun k_=>(P3_ k_∨w.heap.size≤k_)) u9000_ r∧Below w0.heap.size w0 w'∧Kept w w' (fun k_=>P3_ k_):=by
 induction k using Nat.strongRecOn with
 | _ k ih =>
 intro a0_0 A0_1 c0_1 l0_1 a0_2 A1 c1 l1 A2 c2 l2 P3_ u9000_ l3 r w0 w hB hr0_1 hc0_1 hr1 hc1 hr2 hc2 ho3 h
 cases k with
 | zero=>exact absurd h (by simp [spec_l4Ways.f])
 | succ k =>
 simp only [spec_l4Ways.f] at h
 have hu32:=Try.underlying32
 have HR0_1:=yam hr0_1
 have HC0_1:=yam hc0_1
 clear hr0_1 hc0_1
 have HR1:=yam hr1
 have HC1:=yam hc1
 clear hr1 hc1
 have HR2:=yam hr2
 have HC2:=yam hc2
 clear hr2 hc2
 have HO3:=yam (show Kd.R (Kd.int .i64) 3 w w0.heap.size (fun k_=>(P3_ k_∨w.heap.size≤k_)) u9000_ l3 from Kd.R_mono ho3 (fun k_ hk=>(.inl hk)))
 have HK:=yam (Kept.refl w (fun k_=>P3_ k_))
 have HW0:=yam hB.size
 have HB:=yam hB
 clear hB
 have H:=h
 clear h
 replace H:=yit H;obtain ⟨c5,H⟩ | ⟨c5,H⟩:=H
 ·have c5b0:((l2.length:Int) == (l0_1.length:Int))=true:=beq_iff_eq.mpr c5
  have c5b1:((l2.length:Int) != (l0_1.length:Int))=false:=bne_eq_false_iff_eq.mpr c5
  have c5b2:(l2.length == l0_1.length)=true:=by first|simpa using c5|(simp at c5 ⊢;omega)
  clear c5
  replace H:=ybi H;obtain ⟨t535,A6,H⟩:=H
  try dsimp only at H
  cases t535
  ·replace H:=yff H
   obtain rfl:=ysi H
   go_enter Try.func76,Try.ntmps76
   go_wp2_with (first|(refine ybe 4 #[.int .i64 a0_0,.slice A0_1 l0_1.length c0_1,.int .i64 a0_2] 32 ?_;intro gb534 hg w21 hbox hb;replace HO3:=yam (Kd.R_below (Kd.Yz HO3.out) hb);have BK534:=yam (hbox);have GW534:=yam ((by rw [hg];exact (by first|exact HK.out.1|exact (show Kept w _ (fun k_=>P3_ k_) from by repeat (first|(with_reducible first|exact HK.out|apply Kept.alloc|apply Kept.drewN|apply Kept.drew)|exact HK.out)).1):w.heap.size≤gb534));replace HK:=yam (Kept.below (S:=(fun k_=>P3_ k_)) (by repeat (first|(with_reducible first|exact HK.out|apply Kept.alloc|apply Kept.drewN|apply Kept.drew)|exact HK.out)) hb);have GE534:=yam ((by rw [hg];exact (below_size (yez HB.out)):w0.heap.size≤gb534));replace HB:=yam (below_step (yez HB.out) hb);clear hb hbox hg;obtain ⟨hcz22_0,hcz22_1,hcz22_2,hfz22_0,hfz22_1,hfz22_2⟩:=ybc BK534.out)|(refine goesL_ (some 21) rfl rfl Try.func83 (by kernel_rfl) rfl #[.agg #[.int .i64 a0_0,.slice A0_1 l0_1.length c0_1,.int .i64 a0_2],.slice A2 l2.length c2] rfl ymd ?_;(with_reducible refine (spec_l4Holds.calls k a0_0 _ _ l0_1 a0_2 _ _ l2 false _ ?_ ?_ ?_ ?_ A6.out).mono ?_);exact Kd.C_kept_now HR0_1.out (by repeat (first|(with_reducible first|exact HK.out|apply Kept.alloc|apply Kept.drewN|apply Kept.drew|refine Kept.setCell ?_ (.inr GW534.out) _)|exact HK.out));exact HC0_1.out;exact Kd.C_kept_now HR2.out (by repeat (first|(with_reducible first|exact HK.out|apply Kept.alloc|apply Kept.drewN|apply Kept.drew|refine Kept.setCell ?_ (.inr GW534.out) _)|exact HK.out));exact HC2.out;rintro e w23 ⟨rfl,hb⟩;refine ⟨_,rfl,?_⟩;replace HO3:=yam (Kd.R_below (Kd.Yz HO3.out) hb);replace BK534:=yam (ybb BK534.out hb);replace HK:=yam (Kept.below (S:=(fun k_=>P3_ k_)) (by repeat (first|(with_reducible first|exact HK.out|apply Kept.alloc|apply Kept.drewN|apply Kept.drew|refine Kept.setCell ?_ (.inr GW534.out) _)|exact HK.out)) hb);replace HB:=yam (below_step yhb hb);(try clear hb)))
   first|go_end0|((try simp only [Exit.inBlock,Exit.then]);refine bodyPost_ret (results_none rfl _ _ _) rfl ?_)
   exact ⟨yer,yka HO3.out,yhb,by repeat (first|(with_reducible first|exact HK.out|apply Kept.alloc|apply Kept.drewN|apply Kept.drew|refine Kept.setCell ?_ (.inr GW534.out) _)|exact HK.out)⟩
  replace H:=ytt H
  replace H:=yam H
  go_enter Try.func76,Try.ntmps76
  go_wp2_with (first|(refine ybe 4 #[.int .i64 a0_0,.slice A0_1 l0_1.length c0_1,.int .i64 a0_2] 32 ?_;intro gb534 hg w8 hbox hb;replace HO3:=yam (Kd.R_below (Kd.Yz HO3.out) hb);have BK534:=yam (hbox);have GW534:=yam ((by rw [hg];exact (by first|exact HK.out.1|exact (show Kept w _ (fun k_=>P3_ k_) from by repeat (first|(with_reducible first|exact HK.out|apply Kept.alloc|apply Kept.drewN|apply Kept.drew)|exact HK.out)).1):w.heap.size≤gb534));replace HK:=yam (Kept.below (S:=(fun k_=>P3_ k_)) (by repeat (first|(with_reducible first|exact HK.out|apply Kept.alloc|apply Kept.drewN|apply Kept.drew)|exact HK.out)) hb);have GE534:=yam ((by rw [hg];exact (below_size (yez HB.out)):w0.heap.size≤gb534));replace HB:=yam (below_step (yez HB.out) hb);clear hb hbox hg;obtain ⟨hcz9_0,hcz9_1,hcz9_2,hfz9_0,hfz9_1,hfz9_2⟩:=ybc BK534.out)|(refine goesL_ (some 21) rfl rfl Try.func83 (by kernel_rfl) rfl #[.agg #[.int .i64 a0_0,.slice A0_1 l0_1.length c0_1,.int .i64 a0_2],.slice A2 l2.length c2] rfl ymd ?_;(with_reducible refine (spec_l4Holds.calls k a0_0 _ _ l0_1 a0_2 _ _ l2 true _ ?_ ?_ ?_ ?_ A6.out).mono ?_);exact Kd.C_kept_now HR0_1.out (by repeat (first|(with_reducible first|exact HK.out|apply Kept.alloc|apply Kept.drewN|apply Kept.drew|refine Kept.setCell ?_ (.inr GW534.out) _)|exact HK.out));exact HC0_1.out;exact Kd.C_kept_now HR2.out (by repeat (first|(with_reducible first|exact HK.out|apply Kept.alloc|apply Kept.drewN|apply Kept.drew|refine Kept.setCell ?_ (.inr GW534.out) _)|exact HK.out));exact HC2.out;rintro e w10 ⟨rfl,hb⟩;refine ⟨_,rfl,?_⟩;replace HO3:=yam (Kd.R_below (Kd.Yz HO3.out) hb);replace BK534:=yam (ybb BK534.out hb);replace HK:=yam (Kept.below (S:=(fun k_=>P3_ k_)) (by repeat (first|(with_reducible first|exact HK.out|apply Kept.alloc|apply Kept.drewN|apply Kept.drew|refine Kept.setCell ?_ (.inr GW534.out) _)|exact HK.out)) hb);replace HB:=yam (below_step yhb hb);(try clear hb)))
  go_loopg [9] k (fun kq v9 w'=>∃ (x3_1:List Int) (x9_1:Int),v9= .int .i64 x9_1∧Aside0 (spec_l4Ways.l0 kq l2 x3_1 (l2.length:Int) x9_1=some r)∧Aside0 (kq≤k)∧Aside0 (Kd.R (Kd.int .i64) 3 w' w0.heap.size (fun k_=>(P3_ k_∨w.heap.size≤k_)) u9000_ x3_1)∧Aside0 (w'.heap[gb534]?=some (.cells #[.int .i64 a0_0,(.slice A0_1 l0_1.length c0_1),.int .i64 a0_2] 32 (0,0)))∧Aside0 (Kept w w' (fun k_=>P3_ k_))∧Aside0 (Below w0.heap.size w0 w'))
  case atStart=>exact ⟨(l3),(0),yeq,H,⟨Nat.le_refl _⟩,⟨yka HO3.out⟩,⟨ybk BK534.out⟩,⟨by repeat (first|(with_reducible first|exact HK.out|apply Kept.alloc|apply Kept.drewN|apply Kept.drew|refine Kept.setCell ?_ (.inr GW534.out) _)|exact HK.out)⟩,⟨yhb⟩⟩
  case round =>
   clear H
   try clear c1
   try clear c2
   try clear c5b0
   try clear c5b1
   try clear c5b2
   try clear hcz9_0
   try clear hcz9_1
   try clear hcz9_2
   try clear hfz9_0
   try clear hfz9_1
   try clear hfz9_2
   obtain ⟨x3_1,x9_1,rfl,HA,HK1,HO_3,BK534,HK,HB⟩:=hrel
   rcases gk with _|k1
   ·exact absurd HA.out (by simp [spec_l4Ways.l0])
   obtain ⟨H⟩:=HA
   simp only [spec_l4Ways.l0] at H
   replace H:=yis H;obtain ⟨c11b0,H⟩ | ⟨c11b0,H⟩:=H
   rotate_left
   ·obtain rfl:=ysi H
    go_wp2
    first|go_end0|((try simp only [Exit.inBlock,Exit.then]);refine bodyPost_ret (results_none rfl _ _ _) rfl ?_)
    exact ⟨yer,yka HO_3.out,yhb,by repeat (first|(with_reducible first|exact HK.out|apply Kept.alloc|apply Kept.drewN|apply Kept.drew|refine Kept.setCell ?_ (.inr GW534.out) _)|exact HK.out)⟩
   replace H:=yif H;obtain ⟨c12b0,H⟩:=H
   replace H:=yif H;obtain ⟨c13b0,H⟩:=H
   replace H:=yif H;obtain ⟨c14b0,H⟩:=H
   replace H:=yig H;obtain ⟨c15,H⟩:=H
   have c15b0:=eq_true c15
   have c15b1:decide (0≤(rd l2 x9_1))=true:=decide_eq_true c15
   clear c15
   obtain ⟨ji16,hji16⟩:∃ j_:Int,(shl .i64 1 (rd l2 x9_1))=j_:=⟨_,rfl⟩
   replace H:(spec_l4Ways.l0 k1 l2 (x3_1.set (x9_1:Int).toNat (Go.bits .or .i64 (rd x3_1 x9_1) (ji16))) (l2.length:Int) (wrap64 (x9_1 + 1)))=some r:=by first|(rw [hji16] at H;exact H)|(simp only [hji16] at H ⊢;exact H)
   have hji16_:(IntKind.i64.wrap (1 * 2 ^ min (rd l2 x9_1).toNat 64))=ji16:=hji16
   have hji16z:(rd l2 x9_1)≤64→(IntKind.i64.wrap (1 * 2 ^ (rd l2 x9_1).toNat))=ji16:=shl_small hji16
   have hji16u:(IntKind.i64.wrap (2 ^ min (rd l2 x9_1).toNat 64))=ji16:=by have h_:=hji16_;rw [Int.one_mul] at h_;exact h_
   have hji16v:(rd l2 x9_1)≤64→(IntKind.i64.wrap (2 ^ (rd l2 x9_1).toNat))=ji16:=fun hle_=>by have h_:=hji16z hle_;rw [Int.one_mul] at h_;exact h_
   have hji16y:(wrap64 (1 * 2 ^ min (rd l2 x9_1).toNat 64))=ji16:=(i64_w _).symm.trans hji16_
   have hji16x:(rd l2 x9_1)≤64→(wrap64 (1 * 2 ^ (rd l2 x9_1).toNat))=ji16:=fun h_=>(i64_w _).symm.trans (hji16z h_)
   obtain ⟨y538,Ny538⟩:∃ y_:List Int,Aside0 (y_=(x3_1.set (x9_1:Int).toNat (Go.bits .or .i64 (rd x3_1 x9_1) (ji16)))):=⟨_,⟨rfl⟩⟩
   replace H:(spec_l4Ways.l0 k1 l2 y538 (l2.length:Int) (wrap64 (x9_1 + 1)))=some r:=yhn Ny538.out H
   replace H:=yam H
   try go_wp2
   replace HO_3:=yam (Kd.Yd HO_3.out)
   replace BK534:=yam (ybd BK534.out)
   replace HK:=yam (Kept.drew HK.out)
   replace HB:=yam (yed HB.out)
   obtain ⟨Ao19,co19,eo19⟩:=Kd.R_slice HO_3.out
   (first|subst eo19|(injection eo19 with f1_ f2_ f3_;have f4_:=f1_.symm;have f5_:=f3_.symm;clear f1_ f2_ f3_;subst f4_;subst f5_))
   obtain ⟨ad536,e536,hx536_0,p536,q536⟩:=yat (Kd.Yr HO_3.out).2.2 x9_1
   cases e536
   obtain ⟨ad537,e537,hx537_0,p537,q537⟩:=yat (Kd.C_kept_now HR2.out HK.out) x9_1
   have hw537_0:=hx537_0
   cases e537
   have p17:0≤(x9_1:Int):=ydt
   have q17:(x9_1:Int) < ((x3_1.length:Int):Int):=ydt
   obtain ⟨go17,co17,eo17,gb17,gl17,cl17,HG17⟩:=Kd.R_form HO_3.out (by omega)
   (first|cases eo17|(injection eo17 with ea_ en_ ec_;(first|subst ea_|(injection ea_ with ea_;subst ea_));subst ec_;clear en_))
   have GB17:=yam gb17
   have GG17:=yam HG17
   clear gb17 gl17 HG17
   have HMgo17:=yam (show (P3_ go17∨w.heap.size≤go17) from (HO_3.out.1 _ rfl))
   (first|simp only [add_plain] at hx536_0|skip)
   obtain ⟨hx17_0,hf17_0⟩:=Kd.R_celln 0 HO_3.out (x9_1:Int) p17 q17
   replace p17:=eq_true p17
   replace q17:=eq_true q17
   have HP20:=Kd.R_putn HO_3.out (x9_1:Int) (Go.bits .or .i64 (rd x3_1 x9_1) (ji16))
   rw [← Ny538.out] at HP20
   have HQ20:=yam HP20
   clear HP20
   refine start_ (n:=14) (S:=fun w'=>w'.cell? ⟨go17,(x9_1).toNat,none⟩=some (.int .i64 (rd x3_1 x9_1))∧w'.cell? (ad537.add (x9_1).toNat)=some (.int .i64 (rd l2 x9_1))) (ds:=[13]) (yvb 14 0) (by kernel_rfl) rfl rfl ⟨hx536_0,(Kd.foot_int (HR2.out _ (by repeat (first|exact HK.out|apply Kept.alloc|apply Kept.drewN|apply Kept.drew|refine Kept.setCell ?_ HMgo17.out _))) x9_1 (of_eq_true p537) (of_eq_true q537))⟩ (fun hHeld=>?_);refine with_tabW spec_l4Ways.tab7 spec_l4Ways.bits7 (fun HT_ HW_=>?_)
   generalize wr.drew=w18 at HO_3 BK534 HK HB GG17 HQ20 hf17_0 hx17_0 hx536_0 hx537_0 hHeld ⊢
   refine yvp 0 27 (yvb 14 1) HT_.out ?_
   refine yvp 1 28 (yvb 14 3) HT_.out ?_
   refine yvp 2 29 (yvb 14 7) HT_.out ?_
   refine yvp 3 30 (yvb 14 15) HT_.out ?_
   refine yvp 4 31 (yvb 14 31) HT_.out ?_
   refine yvp 6 33 (yvb 14 95) HT_.out ?_
   refine yvp 7 34 (yvb 14 223) HT_.out ?_
   refine yvp 8 35 (yvb 14 479) HT_.out ?_
   refine yvt 5 32 (yvb 14 511) HT_.out HW_.out hHeld ?_
   refine yvt 9 36 (yvb 14 1023) HT_.out HW_.out hHeld ?_
   refine yvp 10 37 (yvb 14 2047) HT_.out ?_
   refine yvp 11 38 (yvb 14 4095) HT_.out ?_
   refine yvp 12 39 (yvb 14 8191) HT_.out ?_
   refine last_ (i:=13) (N:=none) (yvb 14 16383) rfl rfl (one_of HT_.out (by kernel_rfl)) (by decide) (fun K hK=>?_)
   refine skip_ (w1:=?_) (by rfl) rfl ?_ ?_
   rotate_left
   ·go_simp
    rfl
   refine hK.out _ _ ?_
   clear hK K
   refine done_ (done_of HT_.out (by kernel_rfl)) ?_
   try go_wp2
   go_roundg k1
   case measure=>have:=HK1.out;omega
   case rel=>exact ⟨(y538),(wrap64 (x9_1 + 1)),yeq,H,⟨by have:=HK1.out;omega⟩,⟨yka HQ20.out⟩,⟨by (with_reducible repeat (first|refine ybn ?_ _|refine ybd ?_|refine yba ?_ _));refine blk_far ?_ (by have h_:=Kd.R_ne HO_3.out BK534.out (by decide);intro e_;exact h_ (by rw [e_];rfl)) _;(with_reducible repeat (first|refine ybn ?_ _|refine ybd ?_|refine yba ?_ _));exact BK534.out⟩,⟨by repeat (first|(with_reducible first|exact HK.out|apply Kept.alloc|apply Kept.drewN|apply Kept.drew|refine Kept.setCell ?_ HMgo17.out _|refine Kept.setCell ?_ (.inr GW534.out) _)|exact HK.out)⟩,⟨yhb⟩⟩
 have c5b0:((l2.length:Int) == (l0_1.length:Int))=false:=beq_eq_false_iff_ne.mpr c5
 have c5b1:((l2.length:Int) != (l0_1.length:Int))=true:=bne_iff_ne.mpr c5
 have c5b2:(l2.length == l0_1.length)=false:=by first|simpa using c5|(simp at c5 ⊢;omega)
 replace H:=yit H;obtain ⟨c24,H⟩ | ⟨c24,H⟩:=H
 rotate_left
 ·exact absurd H (by simp)
 have c24b0:decide (0≤(l2.length:Int))=true:=decide_eq_true c24
 have c24b1:decide (0≤l2.length)=true:=decide_eq_true (by omega)
 clear c24
 replace H:=yig H;obtain ⟨c25,H⟩:=H
 have c25b0:decide ((l2.length:Int) < (l0_1.length:Int))=true:=decide_eq_true c25
 have c25b1:decide (l2.length < l0_1.length)=true:=decide_eq_true (Int.ofNat_lt.mp c25)
 clear c25
 replace H:=yif H;obtain ⟨c26b0,H⟩:=H
 replace H:=yif H;obtain ⟨c27b0,H⟩:=H
 replace H:=ybi H;obtain ⟨t541,A28,H⟩:=H
 try dsimp only at H
 replace H:=yam H
 go_enter Try.func76,Try.ntmps76
 go_wp2_with (first|(refine ybe 4 #[.int .i64 a0_0,.slice A0_1 l0_1.length c0_1,.int .i64 a0_2] 32 ?_;intro gb534 hg w29 hbox hb;replace HO3:=yam (Kd.R_below (Kd.Yz HO3.out) hb);have BK534:=yam (hbox);have GW534:=yam ((by rw [hg];exact (by first|exact HK.out.1|exact (show Kept w _ (fun k_=>P3_ k_) from by repeat (first|(with_reducible first|exact HK.out|apply Kept.alloc|apply Kept.drewN|apply Kept.drew)|exact HK.out)).1):w.heap.size≤gb534));replace HK:=yam (Kept.below (S:=(fun k_=>P3_ k_)) (by repeat (first|(with_reducible first|exact HK.out|apply Kept.alloc|apply Kept.drewN|apply Kept.drew)|exact HK.out)) hb);have GE534:=yam ((by rw [hg];exact (below_size (yez HB.out)):w0.heap.size≤gb534));replace HB:=yam (below_step (yez HB.out) hb);clear hb hbox hg;obtain ⟨hcz30_0,hcz30_1,hcz30_2,hfz30_0,hfz30_1,hfz30_2⟩:=ybc BK534.out;have p539:0≤((l2.length:Int):Int):=ydt;have q539:(l2.length:Int) < (l0_1.length:Int):=ydt;obtain ⟨ad539,e539,hx539_0⟩:=Kd.at_int (Kd.C_kept_now HR0_1.out HK.out) (l2.length:Int) p539 q539;cases e539;(try simp only [Go.IntWalk.toNatUp] at hx539_0);replace p539:=eq_true p539;replace q539:=eq_true q539;have p540:0≤((rd l0_1 (l2.length:Int)):Int):=ydt;have q540:(rd l0_1 (l2.length:Int)) < (l1.length:Int):=ydt;obtain ⟨ad540,e540,hx540_0⟩:=Kd.at_int (Kd.C_kept_now HR1.out HK.out) (rd l0_1 (l2.length:Int)) p540 q540;cases e540;(try simp only [Go.IntWalk.toNatUp] at hx540_0);replace p540:=eq_true p540;replace q540:=eq_true q540)|(refine goesL_ (some 48) rfl rfl Try.func90 (by kernel_rfl) rfl #[.int .i64 (rd l1 (rd l0_1 (l2.length:Int)))] rfl ymd ?_;(with_reducible refine (spec_MaskValues.calls k (rd l1 (rd l0_1 (l2.length:Int))) t541 _ A28.out).mono ?_);rintro e w31 ⟨v542,rfl,ho0,hb⟩;refine ⟨_,rfl,?_⟩;have HO543:=yam (Kd.R_lower (Kd.Yw (Kd.R_newM (M:=fun k_=>(P3_ k_∨w.heap.size≤k_)) ho0 (by first|exact HK.out.1|exact (show Kept w _ (fun k_=>P3_ k_) from by repeat (first|(with_reducible first|exact HK.out|apply Kept.alloc|apply Kept.drewN|apply Kept.drew|refine Kept.setCell ?_ (.inr GW534.out) _)|exact HK.out)).1) (fun k_ h_=> .inr h_)) (Kd.R_lt (Kd.Yz HO3.out))) (below_size yhb));replace HO3:=yam (Kd.Ye (Kd.Yz HO3.out) (Kd.Yb ho0) hb);replace BK534:=yam (ybb BK534.out hb);replace HK:=yam (Kept.below (S:=(fun k_=>P3_ k_)) (by repeat (first|(with_reducible first|exact HK.out|apply Kept.alloc|apply Kept.drewN|apply Kept.drew|refine Kept.setCell ?_ (.inr GW534.out) _)|exact HK.out)) hb);replace HB:=yam (below_step yhb hb);(try clear hb);(try clear ho0)))
 go_loopg [11] k (fun kq v11 w'=>∃ (x3_1:List Int) (x11_1:Int),v11= .int .i64 x11_1∧Aside0 (spec_l4Ways.l1 kq l1 l2 x3_1 t541 x11_1 a0_0 l0_1 a0_2=some r)∧Aside0 (kq≤k)∧Aside0 (Kd.R (Kd.int .i64) 3 w' w0.heap.size (fun k_=>(P3_ k_∨w.heap.size≤k_)∧some k_≠(v542:Value).ownBlock) u9000_ x3_1)∧Aside0 (Kd.R (Kd.int .i64) 3 w' w0.heap.size (fun k_=>(P3_ k_∨w.heap.size≤k_)∧some k_≠(u9000_:Value).ownBlock) v542 t541)∧Aside0 (w'.heap[gb534]?=some (.cells #[.int .i64 a0_0,(.slice (some ad539) l0_1.length c0_1),.int .i64 a0_2] 32 (0,0)))∧Aside0 (Kept w w' (fun k_=>P3_ k_))∧Aside0 (Below w0.heap.size w0 w'))
 case atStart=>exact ⟨(l3),(0),yeq,H,⟨Nat.le_refl _⟩,⟨yka HO3.out⟩,⟨by (with_reducible repeat (first|apply Kd.Ya|apply Kd.Yn|apply Kd.Yd));exact Kd.R_mono HO543.out (fun _ hk=>⟨hk.1.1,hk.2⟩)⟩,⟨ybk BK534.out⟩,⟨by repeat (first|(with_reducible first|exact HK.out|apply Kept.alloc|apply Kept.drewN|apply Kept.drew|refine Kept.setCell ?_ (.inr GW534.out) _)|exact HK.out)⟩,⟨yhb⟩⟩
 case round =>
  clear H
  try clear c1
  try clear c2
  try clear c5
  try clear c5b0
  try clear c5b1
  try clear c5b2
  try clear c24b0
  try clear c24b1
  try clear c25b0
  try clear c25b1
  try clear c26b0
  try clear c27b0
  try clear hcz30_0
  try clear hcz30_1
  try clear hcz30_2
  try clear hfz30_0
  try clear hfz30_1
  try clear hfz30_2
  try clear hx539_0
  try clear hx540_0
  try clear p539
  try clear p540
  try clear q539
  try clear q540
  obtain ⟨x3_1,x11_1,rfl,HA,HK1,HO_3,HO_10,BK534,HK,HB⟩:=hrel
  rcases gk with _|k1
  ·exact absurd HA.out (by simp [spec_l4Ways.l1])
  obtain ⟨H⟩:=HA
  simp only [spec_l4Ways.l1] at H
  replace H:=yis H;obtain ⟨c32b0,H⟩ | ⟨c32b0,H⟩:=H
  rotate_left
  ·obtain rfl:=ysi H
   obtain ⟨Ao50,co50,eo50⟩:=Kd.R_slice HO_10.out
   subst eo50
   go_wp2
   first|go_end0|((try simp only [Exit.inBlock,Exit.then]);refine bodyPost_ret (results_none rfl _ _ _) rfl ?_)
   exact ⟨yer,by (with_reducible repeat (first|apply Kd.Ya|apply Kd.Yn|apply Kd.Yd));exact Kd.R_mono HO_3.out (fun _ hk=>hk.1),yhb,by repeat (first|(with_reducible first|exact HK.out|apply Kept.alloc|apply Kept.drewN|apply Kept.drew|refine Kept.setCell ?_ (.inr GW534.out) _)|exact HK.out)⟩
  obtain ⟨y544,Ny544⟩:∃ y_:List Int,Aside0 (y_=(([]:List Int))):=⟨_,⟨rfl⟩⟩
  replace H:(if y544.length + l2.length < 17592186044416 then ((some (y544 ++ l2:List Int)).bind fun y547=>(if 0≤x11_1 then ((some (([rd t541 x11_1]:List Int):List Int)).bind fun y551=>(if y547.length + y551.length < 17592186044416 then ((spec_l4Ways.f k1 a0_0 l0_1 a0_2 l1 (y547 ++ y551) x3_1).bind fun t557=>(spec_l4Ways.l1 k1 l1 l2 t557 t541 (wrap64 (x11_1 + 1)) a0_0 l0_1 a0_2)) else (none))) else (none))) else (none))=some r:=yhn Ny544.out H
  replace H:=yig H;obtain ⟨c33,H⟩:=H
  have LMc33:=yam c33
  clear c33
  obtain ⟨y547,Ny547⟩:∃ y_:List Int,Aside0 (y_=(y544 ++ l2)):=⟨_,⟨rfl⟩⟩
  replace H:(if 0≤x11_1 then ((some (([rd t541 x11_1]:List Int):List Int)).bind fun y551=>(if y547.length + y551.length < 17592186044416 then ((spec_l4Ways.f k1 a0_0 l0_1 a0_2 l1 (y547 ++ y551) x3_1).bind fun t557=>(spec_l4Ways.l1 k1 l1 l2 t557 t541 (wrap64 (x11_1 + 1)) a0_0 l0_1 a0_2)) else (none))) else (none))=some r:=yhn Ny547.out H
  replace H:=yif H;obtain ⟨c34b0,H⟩:=H
  obtain ⟨y551,Ny551⟩:∃ y_:List Int,Aside0 (y_=(([rd t541 x11_1]:List Int))):=⟨_,⟨rfl⟩⟩
  replace H:(if y547.length + y551.length < 17592186044416 then ((spec_l4Ways.f k1 a0_0 l0_1 a0_2 l1 (y547 ++ y551) x3_1).bind fun t557=>(spec_l4Ways.l1 k1 l1 l2 t557 t541 (wrap64 (x11_1 + 1)) a0_0 l0_1 a0_2)) else (none))=some r:=yhn Ny551.out H
  replace H:=yig H;obtain ⟨c35,H⟩:=H
  have LMc35:=yam c35
  clear c35
  obtain ⟨y554,Ny554⟩:∃ y_:List Int,Aside0 (y_=(y547 ++ y551)):=⟨_,⟨rfl⟩⟩
  replace H:((spec_l4Ways.f k1 a0_0 l0_1 a0_2 l1 y554 x3_1).bind fun t557=>(spec_l4Ways.l1 k1 l1 l2 t557 t541 (wrap64 (x11_1 + 1)) a0_0 l0_1 a0_2))=some r:=yhn Ny554.out H
  replace H:=ybi H;obtain ⟨t557,A36,H⟩:=H
  try dsimp only at H
  replace H:=yam H
  obtain ⟨Ao37,co37,eo37⟩:=Kd.R_slice HO_10.out
  subst eo37
  obtain ⟨Ao38,co38,eo38⟩:=Kd.R_slice HO_3.out
  subst eo38
  try go_wp2
  replace HO_3:=yam (Kd.Yd HO_3.out)
  replace HO_10:=yam (Kd.Yd HO_10.out)
  replace BK534:=yam (ybd BK534.out)
  replace HK:=yam (Kept.drew HK.out)
  replace HB:=yam (yed HB.out)
  obtain ⟨ad550,e550,hx550_0,p550,q550⟩:=yat (Kd.Yr HO_10.out).2.2 x11_1
  cases e550
  refine start_ (n:=13) (S:=fun w'=>w'.cell? ⟨gb534,0,none⟩=some (.int .i64 a0_0)∧w'.cell? ⟨gb534,1,none⟩=some (.slice (some ad539) l0_1.length c0_1)∧w'.cell? ⟨gb534,2,none⟩=some (.int .i64 a0_2)∧w'.cell? (ad550.add (x11_1).toNat)=some (.int .i64 (rd t541 x11_1))) (ds:=[]) (yvb 13 0) (by kernel_rfl) rfl rfl ⟨(blk_cell BK534.out 0).trans rfl,(blk_cell BK534.out 1).trans rfl,(blk_cell BK534.out 2).trans rfl,hx550_0⟩ (fun hHeld=>?_);refine with_tabW spec_l4Ways.tab12 spec_l4Ways.bits12 (fun HT_ HW_=>?_)
  generalize wr.drew=w39 at HO_3 HO_10 BK534 HK HB hx550_0 hHeld ⊢
  refine yvp 1 56 (yvb 13 2) HT_.out ?_
  refine yvp 3 58 (yvb 13 10) HT_.out ?_
  refine yvp 5 60 (yvb 13 42) HT_.out ?_
  refine yvp 6 61 (yvb 13 106) HT_.out ?_
  refine yvp 7 62 (yvb 13 234) HT_.out ?_
  refine yvp 11 66 (yvb 13 2282) HT_.out ?_
  refine yvt 0 55 (yvb 13 2283) HT_.out HW_.out hHeld ?_
  refine yvt 8 63 (yvb 13 2539) HT_.out HW_.out hHeld ?_
  refine join_ (σ:=Value × Value × Value) 2 (yvb 13 3071) (fun s_=>[(57,s_.1),(59,s_.2.1),(64,s_.2.2)]) (fun s_ w'=>(w'.cell? ⟨gb534,0,none⟩=some (.int .i64 a0_0)∧w'.cell? ⟨gb534,1,none⟩=some (.slice (some ad539) l0_1.length c0_1)∧w'.cell? ⟨gb534,2,none⟩=some (.int .i64 a0_2)∧w'.cell? (ad550.add (x11_1).toNat)=some (.int .i64 (rd t541 x11_1)))∧(Kd.R (Kd.int .i64) 3 w' w0.heap.size (fun k_=>(P3_ k_∨w.heap.size≤k_)∧some k_≠(s_.2.2:Value).ownBlock∧some k_≠(.slice (some ad550) t541.length co37:Value).ownBlock∧some k_≠(.slice Ao38 x3_1.length co38:Value).ownBlock) s_.2.1 y547)∧(Kd.R (Kd.int .i64) 3 w' w0.heap.size (fun k_=>(P3_ k_∨w.heap.size≤k_)∧some k_≠(s_.2.1:Value).ownBlock∧some k_≠(.slice (some ad550) t541.length co37:Value).ownBlock∧some k_≠(.slice Ao38 x3_1.length co38:Value).ownBlock) s_.2.2 y551)∧(Kd.R (Kd.int .i64) 3 w' w0.heap.size (fun k_=>(P3_ k_∨w.heap.size≤k_)∧some k_≠(s_.2.1:Value).ownBlock∧some k_≠(s_.2.2:Value).ownBlock∧some k_≠(.slice Ao38 x3_1.length co38:Value).ownBlock) (.slice (some ad550) t541.length co37) t541)∧(Kd.R (Kd.int .i64) 3 w' w0.heap.size (fun k_=>(P3_ k_∨w.heap.size≤k_)∧some k_≠(s_.2.1:Value).ownBlock∧some k_≠(s_.2.2:Value).ownBlock∧some k_≠(.slice (some ad550) t541.length co37:Value).ownBlock) (.slice Ao38 x3_1.length co38) x3_1)∧(w'.heap[gb534]?=some (.cells #[.int .i64 a0_0,.slice (some ad539) l0_1.length c0_1,.int .i64 a0_2] 32 (0,0)))∧(Kept w w' (fun k_=>P3_ k_))∧(Below w0.heap.size w0 w')) ?_ ?_
  rotate_left
  ·intro hCont
   refine two_ (i:=2) (j:=9) (Ni:=some 57) (Nj:=some 64) (yvb 13 2543) (yvb 13 3051) rfl rfl rfl rfl (two_of HT_.out (by kernel_rfl)) (by decide) (by decide) (fun K hK=>?_) (fun K hK=>?_)
   ·skip
    refine Kd.R_lit_step (Kd.int .i64) _ 3 ?hg (N:=57) ?hd (xs:=([]:List Int)) (inner:=[]) (ok:=fun _=>True) (okp:=fun _=>True) ?hr ?hp (fun _ hk=>hk) trivial (Below.refl _ _) (Nat.le_refl _) (by simp) ?_;(case hd=>rfl);(case hg=>rfl);(case hr=>first|(go_simp;done)|(go_simp;rfl));(case hp=>exact (Reps.none _ _))
    intro v545 w40 ho41 hb hg_ hnew_
    have HS3_:=(hb.cell (World.block_lt_of_cell? _ _ (hHeld.2.2.2))).trans (hHeld.2.2.2)
    clear hg_ hnew_
    (first|rw [← Ny544.out] at ho41|(simp only [Int.reduceToNat] at ho41;rw [← Ny544.out] at ho41))
    have HO546:=yam (Kd.R_lower (Kd.Yw (Kd.Yw (Kd.R_newM (M:=fun k_=>(P3_ k_∨w.heap.size≤k_)) ho41 (by first|exact HK.out.1|exact (show Kept w _ (fun k_=>P3_ k_) from by repeat (first|(with_reducible first|exact HK.out|apply Kept.alloc|apply Kept.drewN|apply Kept.drew|refine Kept.setCell ?_ (.inr GW534.out) _)|exact HK.out)).1) (fun k_ h_=> .inr h_)) (Kd.R_lt (Kd.Yz HO_3.out))) (Kd.R_lt (Kd.Yz HO_10.out))) (below_size yhb))
    replace HO_3:=yam (Kd.Ye (Kd.Yz HO_3.out) (Kd.Yb ho41) hb)
    replace HO_10:=yam (Kd.Ye (Kd.Yz HO_10.out) (Kd.Yb ho41) hb)
    replace BK534:=yam (ybb BK534.out hb)
    replace HK:=yam (Kept.below (S:=(fun k_=>P3_ k_)) (by repeat (first|(with_reducible first|exact HK.out|apply Kept.alloc|apply Kept.drewN|apply Kept.drew|refine Kept.setCell ?_ (.inr GW534.out) _)|exact HK.out)) hb)
    replace HB:=yam (below_step yhb hb)
    clear hb ho41
    refine hK.out _ _ ⟨(blk_cell BK534.out 0).trans rfl,(blk_cell BK534.out 1).trans rfl,(blk_cell BK534.out 2).trans rfl,HS3_⟩ (fun hHeld=>?_)
    clear hK K
    refine norm_ (a':=?_) ?_ ?_
    rotate_left
    ·show Act.put _ (some 57) _=_
     simp only [Act.put,yps,i64_w,i32_w]
     rfl
    refine two_ (i:=4) (j:=9) (Ni:=some 59) (Nj:=some 64) (yvb 13 2559) (yvb 13 3055) rfl rfl rfl rfl (two_of HT_.out (by kernel_rfl)) (by decide) (by decide) (fun K hK=>?_) (fun K hK=>?_)
    ·skip
     refine Kd.R_append_rows_step (Kd.int .i64) (w0:=w0) w0.heap.size (by rfl) (.tmp 57) (.tmp 58) 23 3 (.int .i64 0) 8 rfl Try.underlying23 info3 rfl (by decide) (by omega) v545 y544 l2 _ _ _ (fun k_=>(P3_ k_∨w.heap.size≤k_)∧some k_≠(.slice Ao38 x3_1.length co38:Value).ownBlock∧some k_≠(.slice (some ad550) t541.length co37:Value).ownBlock) (fun _=>False) rfl rfl ?aO ?aR (fun _ _ h=>h) (fun _ h=>h.elim) ?aF ?aB ?aS ?aL ?_
     (case aR=>exact Kd.C_kept_now HR2.out (by repeat (first|(with_reducible first|exact HK.out|apply Kept.alloc|apply Kept.drewN|apply Kept.drew|refine Kept.setCell ?_ (.inr GW534.out) _)|exact HK.out)))
     (case aB=>exact yhb)
     (case aF=>exact (fun k_ hk=>⟨(.inr (Nat.le_trans (by first|exact HK.out.1|exact (show Kept w _ (fun k_=>P3_ k_) from by repeat (first|(with_reducible first|exact HK.out|apply Kept.alloc|apply Kept.drewN|apply Kept.drew|refine Kept.setCell ?_ (.inr GW534.out) _)|exact HK.out)).1) hk)),Kd.fresh' (Kd.R_lt (Kd.Yz HO_3.out)) k_ hk,Kd.fresh' (Kd.R_lt (Kd.Yz HO_10.out)) k_ hk⟩))
     (case aO=>exact (by (with_reducible repeat (first|apply Kd.Ya|apply Kd.Yn|apply Kd.Yd));exact Kd.R_mono HO546.out (fun _ hk=>⟨hk.1.1.1,⟨hk.1.2,hk.2⟩⟩)))
     (case aS=>exact (below_size yhb))
     (case aL=>have:=LMc33.out;omega)
     intro v548 w42 ho hb hg hat
     have HS3_:=cell_grown hg (hHeld.2.2.2) (by first|(rw [add_block];exact (fun e_=>(by have h_:=HO546.out.1 _ e_.symm;simp [Value.ownBlock] at h_)))|(show some (Addr.add _ _).block≠_;rw [add_block];exact (fun e_=>(by have h_:=HO546.out.1 _ e_.symm;simp [Value.ownBlock] at h_)))|exact (fun e_=>(by have h_:=HO546.out.1 _ e_.symm;simp [Value.ownBlock] at h_)))
     rw [← Ny547.out] at ho
     replace HO_3:=yam (Kd.R_after (ok:=(fun k_=>(P3_ k_∨w.heap.size≤k_)∧some k_≠(.slice (some ad550) t541.length co37:Value).ownBlock)) (Kd.Yz HO_3.out) hg hat)
     replace HO_10:=yam (Kd.R_after (ok:=(fun k_=>(P3_ k_∨w.heap.size≤k_)∧some k_≠(.slice Ao38 x3_1.length co38:Value).ownBlock)) (Kd.Yz HO_10.out) hg hat)
     replace BK534:=yam (blk_grown (g:=gb534) (o:= .cells #[.int .i64 a0_0,.slice (some ad539) l0_1.length c0_1,.int .i64 a0_2] 32 (0,0)) (ybz BK534.out) hg (Kd.R_ne HO546.out BK534.out (by decide)))
     replace HB:=yam (hb)
     replace HK:=yam (Kept.of_grown (S:=(fun k_=>P3_ k_)) hg (by repeat (first|(with_reducible first|exact HK.out|apply Kept.alloc|apply Kept.drewN|apply Kept.drew|refine Kept.setCell ?_ (.inr GW534.out) _)|exact HK.out)) (fun k_ e_=>(HO546.out.1 k_ e_).1.1.1))
     have HO549:=yam (ho)
     clear HO546
     clear ho hb hg hat
     refine hK.out _ _ ⟨(blk_cell BK534.out 0).trans rfl,(blk_cell BK534.out 1).trans rfl,(blk_cell BK534.out 2).trans rfl,HS3_⟩ (fun hHeld=>?_)
     clear hK K
     refine norm_ (a':=?_) ?_ ?_
     rotate_left
     ·show Act.put _ (some 59) _=_
      simp only [Act.put,yps,i64_w,i32_w]
      rfl
     refine one_ (i:=9) (N:=some 64) (yvb 13 3071) rfl rfl (one_of HT_.out (by kernel_rfl)) (by decide) (fun K hK=>?_)
     refine Kd.R_lit_step (Kd.int .i64) _ 3 ?hg (N:=64) ?hd (xs:=([rd t541 x11_1]:List Int)) (inner:=[.int .i64 (rd t541 x11_1)]) (ok:=fun _=>True) (okp:=fun _=>True) ?hr ?hp (fun _ hk=>hk) trivial (Below.refl _ _) (Nat.le_refl _) (by simp) ?_;(case hd=>rfl);(case hg=>rfl);(case hr=>first|(go_simp;done)|(go_simp;rfl));(case hp=>exact (Reps.one (show Kd.M (Kd.int .i64) _ _ _ (rd t541 x11_1) [.int .i64 (rd t541 x11_1)] from rfl) (Reps.none _ _)))
     intro v552 w43 ho44 hb hg_ hnew_
     have HS3_:=(hb.cell (World.block_lt_of_cell? _ _ (hHeld.2.2.2))).trans (hHeld.2.2.2)
     clear hg_ hnew_
     (first|rw [← Ny551.out] at ho44|(simp only [Int.reduceToNat] at ho44;rw [← Ny551.out] at ho44))
     have HO553:=yam (Kd.R_lower (Kd.Yw (Kd.Yw (Kd.Yw (Kd.R_newM (M:=fun k_=>(P3_ k_∨w.heap.size≤k_)) ho44 (by first|exact HK.out.1|exact (show Kept w _ (fun k_=>P3_ k_) from by repeat (first|(with_reducible first|exact HK.out|apply Kept.alloc|apply Kept.drewN|apply Kept.drew|refine Kept.setCell ?_ (.inr GW534.out) _)|exact HK.out)).1) (fun k_ h_=> .inr h_)) (Kd.R_lt (Kd.Yz HO_3.out))) (Kd.R_lt (Kd.Yz HO_10.out))) (Kd.R_lt (Kd.Yz HO549.out))) (below_size yhb))
     replace HO_3:=yam (Kd.Ye (Kd.Yz HO_3.out) (Kd.Yb ho44) hb)
     replace HO_10:=yam (Kd.Ye (Kd.Yz HO_10.out) (Kd.Yb ho44) hb)
     replace HO549:=yam (Kd.Ye (Kd.Yz HO549.out) (Kd.Yb ho44) hb)
     replace BK534:=yam (ybb BK534.out hb)
     replace HK:=yam (Kept.below (S:=(fun k_=>P3_ k_)) (by repeat (first|(with_reducible first|exact HK.out|apply Kept.alloc|apply Kept.drewN|apply Kept.drew|refine Kept.setCell ?_ (.inr GW534.out) _)|exact HK.out)) hb)
     replace HB:=yam (below_step yhb hb)
     clear hb ho44
     refine hK.out _ _ ⟨(blk_cell BK534.out 0).trans rfl,(blk_cell BK534.out 1).trans rfl,(blk_cell BK534.out 2).trans rfl,HS3_⟩ (fun hHeld=>?_)
     clear hK K
     refine norm_ (a':=?_) ?_ ?_
     rotate_left
     ·show Act.put _ (some 64) _=_
      simp only [Act.put,yps,i64_w,i32_w]
      rfl
     exact norm_ (by simp only [putAll,Act.put,yps]) (hCont (v545,v548,v552) _ ⟨hHeld,(by (with_reducible repeat (first|apply Kd.Ya|apply Kd.Yn|apply Kd.Yd));exact Kd.R_mono HO549.out (fun _ hk=>⟨hk.1.1,⟨hk.2,⟨hk.1.2.2,hk.1.2.1⟩⟩⟩)),(by (with_reducible repeat (first|apply Kd.Ya|apply Kd.Yn|apply Kd.Yd));exact Kd.R_mono HO553.out (fun _ hk=>⟨hk.1.1.1.1,⟨hk.2,⟨hk.1.2,hk.1.1.2⟩⟩⟩)),(by (with_reducible repeat (first|apply Kd.Ya|apply Kd.Yn|apply Kd.Yd));exact Kd.R_mono HO_10.out (fun _ hk=>⟨hk.1.1.1,⟨hk.1.2,⟨hk.2,hk.1.1.2⟩⟩⟩)),(by (with_reducible repeat (first|apply Kd.Ya|apply Kd.Yn|apply Kd.Yd));exact Kd.R_mono HO_3.out (fun _ hk=>⟨hk.1.1.1,⟨hk.1.2,⟨hk.2,hk.1.1.2⟩⟩⟩)),(ybz BK534.out),(by repeat (first|(with_reducible first|exact HK.out|apply Kept.alloc|apply Kept.drewN|apply Kept.drew|refine Kept.setCell ?_ (.inr GW534.out) _)|exact HK.out)),yhb⟩)
    ·skip
     refine Kd.R_lit_step (Kd.int .i64) _ 3 ?hg (N:=64) ?hd (xs:=([rd t541 x11_1]:List Int)) (inner:=[.int .i64 (rd t541 x11_1)]) (ok:=fun _=>True) (okp:=fun _=>True) ?hr ?hp (fun _ hk=>hk) trivial (Below.refl _ _) (Nat.le_refl _) (by simp) ?_;(case hd=>rfl);(case hg=>rfl);(case hr=>first|(go_simp;done)|(go_simp;rfl));(case hp=>exact (Reps.one (show Kd.M (Kd.int .i64) _ _ _ (rd t541 x11_1) [.int .i64 (rd t541 x11_1)] from rfl) (Reps.none _ _)))
     intro v552 w42 ho43 hb hg_ hnew_
     have HS3_:=(hb.cell (World.block_lt_of_cell? _ _ (hHeld.2.2.2))).trans (hHeld.2.2.2)
     clear hg_ hnew_
     (first|rw [← Ny551.out] at ho43|(simp only [Int.reduceToNat] at ho43;rw [← Ny551.out] at ho43))
     have HO553:=yam (Kd.R_lower (Kd.Yw (Kd.Yw (Kd.Yw (Kd.R_newM (M:=fun k_=>(P3_ k_∨w.heap.size≤k_)) ho43 (by first|exact HK.out.1|exact (show Kept w _ (fun k_=>P3_ k_) from by repeat (first|(with_reducible first|exact HK.out|apply Kept.alloc|apply Kept.drewN|apply Kept.drew|refine Kept.setCell ?_ (.inr GW534.out) _)|exact HK.out)).1) (fun k_ h_=> .inr h_)) (Kd.R_lt (Kd.Yz HO_3.out))) (Kd.R_lt (Kd.Yz HO_10.out))) (Kd.R_lt (Kd.Yz HO546.out))) (below_size yhb))
     replace HO_3:=yam (Kd.Ye (Kd.Yz HO_3.out) (Kd.Yb ho43) hb)
     replace HO_10:=yam (Kd.Ye (Kd.Yz HO_10.out) (Kd.Yb ho43) hb)
     replace HO546:=yam (Kd.Ye (Kd.Yz HO546.out) (Kd.Yb ho43) hb)
     replace BK534:=yam (ybb BK534.out hb)
     replace HK:=yam (Kept.below (S:=(fun k_=>P3_ k_)) (by repeat (first|(with_reducible first|exact HK.out|apply Kept.alloc|apply Kept.drewN|apply Kept.drew|refine Kept.setCell ?_ (.inr GW534.out) _)|exact HK.out)) hb)
     replace HB:=yam (below_step yhb hb)
     clear hb ho43
     refine hK.out _ _ ⟨(blk_cell BK534.out 0).trans rfl,(blk_cell BK534.out 1).trans rfl,(blk_cell BK534.out 2).trans rfl,HS3_⟩ (fun hHeld=>?_)
     clear hK K
     refine norm_ (a':=?_) ?_ ?_
     rotate_left
     ·show Act.put _ (some 64) _=_
      simp only [Act.put,yps,i64_w,i32_w]
      rfl
     refine one_ (i:=4) (N:=some 59) (yvb 13 3071) rfl rfl (one_of HT_.out (by kernel_rfl)) (by decide) (fun K hK=>?_)
     refine Kd.R_append_rows_step (Kd.int .i64) (w0:=w0) w0.heap.size (by rfl) (.tmp 57) (.tmp 58) 23 3 (.int .i64 0) 8 rfl Try.underlying23 info3 rfl (by decide) (by omega) v545 y544 l2 _ _ _ (fun k_=>(P3_ k_∨w.heap.size≤k_)∧some k_≠(.slice Ao38 x3_1.length co38:Value).ownBlock∧some k_≠(.slice (some ad550) t541.length co37:Value).ownBlock∧some k_≠(v552:Value).ownBlock) (fun _=>False) rfl rfl ?aO ?aR (fun _ _ h=>h) (fun _ h=>h.elim) ?aF ?aB ?aS ?aL ?_
     (case aR=>exact Kd.C_kept_now HR2.out (by repeat (first|(with_reducible first|exact HK.out|apply Kept.alloc|apply Kept.drewN|apply Kept.drew|refine Kept.setCell ?_ (.inr GW534.out) _)|exact HK.out)))
     (case aB=>exact yhb)
     (case aF=>exact (fun k_ hk=>⟨(.inr (Nat.le_trans (by first|exact HK.out.1|exact (show Kept w _ (fun k_=>P3_ k_) from by repeat (first|(with_reducible first|exact HK.out|apply Kept.alloc|apply Kept.drewN|apply Kept.drew|refine Kept.setCell ?_ (.inr GW534.out) _)|exact HK.out)).1) hk)),Kd.fresh' (Kd.R_lt (Kd.Yz HO_3.out)) k_ hk,Kd.fresh' (Kd.R_lt (Kd.Yz HO_10.out)) k_ hk,Kd.fresh' (Kd.R_lt (Kd.Yz HO553.out)) k_ hk⟩))
     (case aO=>exact (by (with_reducible repeat (first|apply Kd.Ya|apply Kd.Yn|apply Kd.Yd));exact Kd.R_mono HO546.out (fun _ hk=>⟨hk.1.1.1.1,⟨hk.1.1.2,⟨hk.1.2,hk.2⟩⟩⟩)))
     (case aS=>exact (below_size yhb))
     (case aL=>have:=LMc33.out;omega)
     intro v548 w44 ho hb hg hat
     have HS3_:=cell_grown hg (hHeld.2.2.2) (by first|(rw [add_block];exact (fun e_=>(by have h_:=HO546.out.1 _ e_.symm;simp [Value.ownBlock] at h_)))|(show some (Addr.add _ _).block≠_;rw [add_block];exact (fun e_=>(by have h_:=HO546.out.1 _ e_.symm;simp [Value.ownBlock] at h_)))|exact (fun e_=>(by have h_:=HO546.out.1 _ e_.symm;simp [Value.ownBlock] at h_)))
     rw [← Ny547.out] at ho
     replace HO_3:=yam (Kd.R_after (ok:=(fun k_=>(P3_ k_∨w.heap.size≤k_)∧some k_≠(.slice (some ad550) t541.length co37:Value).ownBlock∧some k_≠(v552:Value).ownBlock)) (by (with_reducible repeat (first|apply Kd.Ya|apply Kd.Yn|apply Kd.Yd));exact Kd.R_mono HO_3.out (fun _ hk=>⟨⟨hk.1.1.1,⟨hk.1.1.2,hk.2⟩⟩,hk.1.2⟩)) hg hat)
     replace HO_10:=yam (Kd.R_after (ok:=(fun k_=>(P3_ k_∨w.heap.size≤k_)∧some k_≠(.slice Ao38 x3_1.length co38:Value).ownBlock∧some k_≠(v552:Value).ownBlock)) (by (with_reducible repeat (first|apply Kd.Ya|apply Kd.Yn|apply Kd.Yd));exact Kd.R_mono HO_10.out (fun _ hk=>⟨⟨hk.1.1.1,⟨hk.1.1.2,hk.2⟩⟩,hk.1.2⟩)) hg hat)
     replace BK534:=yam (blk_grown (g:=gb534) (o:= .cells #[.int .i64 a0_0,.slice (some ad539) l0_1.length c0_1,.int .i64 a0_2] 32 (0,0)) (ybz BK534.out) hg (Kd.R_ne HO546.out BK534.out (by decide)))
     replace HO553:=yam (Kd.R_after (ok:=(fun k_=>(P3_ k_∨w.heap.size≤k_)∧some k_≠(.slice Ao38 x3_1.length co38:Value).ownBlock∧some k_≠(.slice (some ad550) t541.length co37:Value).ownBlock)) (by (with_reducible repeat (first|apply Kd.Ya|apply Kd.Yn|apply Kd.Yd));exact Kd.R_mono HO553.out (fun _ hk=>⟨⟨hk.1.1.1.1,⟨hk.1.1.2,hk.1.2⟩⟩,hk.2⟩)) hg hat)
     replace HB:=yam (hb)
     replace HK:=yam (Kept.of_grown (S:=(fun k_=>P3_ k_)) hg (by repeat (first|(with_reducible first|exact HK.out|apply Kept.alloc|apply Kept.drewN|apply Kept.drew|refine Kept.setCell ?_ (.inr GW534.out) _)|exact HK.out)) (fun k_ e_=>(HO546.out.1 k_ e_).1.1.1.1))
     have HO549:=yam (ho)
     clear HO546
     clear ho hb hg hat
     refine hK.out _ _ ⟨(blk_cell BK534.out 0).trans rfl,(blk_cell BK534.out 1).trans rfl,(blk_cell BK534.out 2).trans rfl,HS3_⟩ (fun hHeld=>?_)
     clear hK K
     refine norm_ (a':=?_) ?_ ?_
     rotate_left
     ·show Act.put _ (some 59) _=_
      simp only [Act.put,yps,i64_w,i32_w]
      rfl
     exact norm_ (by simp only [putAll,Act.put,yps]) (hCont (v545,v548,v552) _ ⟨hHeld,(by (with_reducible repeat (first|apply Kd.Ya|apply Kd.Yn|apply Kd.Yd));exact Kd.R_mono HO549.out (fun _ hk=>⟨hk.1,⟨hk.2.2.2,⟨hk.2.2.1,hk.2.1⟩⟩⟩)),(by (with_reducible repeat (first|apply Kd.Ya|apply Kd.Yn|apply Kd.Yd));exact Kd.R_mono HO553.out (fun _ hk=>⟨hk.1.1,⟨hk.2,⟨hk.1.2.2,hk.1.2.1⟩⟩⟩)),(by (with_reducible repeat (first|apply Kd.Ya|apply Kd.Yn|apply Kd.Yd));exact Kd.R_mono HO_10.out (fun _ hk=>⟨hk.1.1,⟨hk.2,⟨hk.1.2.2,hk.1.2.1⟩⟩⟩)),(by (with_reducible repeat (first|apply Kd.Ya|apply Kd.Yn|apply Kd.Yd));exact Kd.R_mono HO_3.out (fun _ hk=>⟨hk.1.1,⟨hk.2,⟨hk.1.2.2,hk.1.2.1⟩⟩⟩)),(ybz BK534.out),(by repeat (first|(with_reducible first|exact HK.out|apply Kept.alloc|apply Kept.drewN|apply Kept.drew|refine Kept.setCell ?_ (.inr GW534.out) _)|exact HK.out)),yhb⟩)
   ·skip
    refine Kd.R_lit_step (Kd.int .i64) _ 3 ?hg (N:=64) ?hd (xs:=([rd t541 x11_1]:List Int)) (inner:=[.int .i64 (rd t541 x11_1)]) (ok:=fun _=>True) (okp:=fun _=>True) ?hr ?hp (fun _ hk=>hk) trivial (Below.refl _ _) (Nat.le_refl _) (by simp) ?_;(case hd=>rfl);(case hg=>rfl);(case hr=>first|(go_simp;done)|(go_simp;rfl));(case hp=>exact (Reps.one (show Kd.M (Kd.int .i64) _ _ _ (rd t541 x11_1) [.int .i64 (rd t541 x11_1)] from rfl) (Reps.none _ _)))
    intro v552 w40 ho41 hb hg_ hnew_
    have HS3_:=(hb.cell (World.block_lt_of_cell? _ _ (hHeld.2.2.2))).trans (hHeld.2.2.2)
    clear hg_ hnew_
    (first|rw [← Ny551.out] at ho41|(simp only [Int.reduceToNat] at ho41;rw [← Ny551.out] at ho41))
    have HO553:=yam (Kd.R_lower (Kd.Yw (Kd.Yw (Kd.R_newM (M:=fun k_=>(P3_ k_∨w.heap.size≤k_)) ho41 (by first|exact HK.out.1|exact (show Kept w _ (fun k_=>P3_ k_) from by repeat (first|(with_reducible first|exact HK.out|apply Kept.alloc|apply Kept.drewN|apply Kept.drew|refine Kept.setCell ?_ (.inr GW534.out) _)|exact HK.out)).1) (fun k_ h_=> .inr h_)) (Kd.R_lt (Kd.Yz HO_3.out))) (Kd.R_lt (Kd.Yz HO_10.out))) (below_size yhb))
    replace HO_3:=yam (Kd.Ye (Kd.Yz HO_3.out) (Kd.Yb ho41) hb)
    replace HO_10:=yam (Kd.Ye (Kd.Yz HO_10.out) (Kd.Yb ho41) hb)
    replace BK534:=yam (ybb BK534.out hb)
    replace HK:=yam (Kept.below (S:=(fun k_=>P3_ k_)) (by repeat (first|(with_reducible first|exact HK.out|apply Kept.alloc|apply Kept.drewN|apply Kept.drew|refine Kept.setCell ?_ (.inr GW534.out) _)|exact HK.out)) hb)
    replace HB:=yam (below_step yhb hb)
    clear hb ho41
    refine hK.out _ _ ⟨(blk_cell BK534.out 0).trans rfl,(blk_cell BK534.out 1).trans rfl,(blk_cell BK534.out 2).trans rfl,HS3_⟩ (fun hHeld=>?_)
    clear hK K
    refine norm_ (a':=?_) ?_ ?_
    rotate_left
    ·show Act.put _ (some 64) _=_
     simp only [Act.put,yps,i64_w,i32_w]
     rfl
    refine one_ (i:=2) (N:=some 57) (yvb 13 3055) rfl rfl (one_of HT_.out (by kernel_rfl)) (by decide) (fun K hK=>?_)
    refine Kd.R_lit_step (Kd.int .i64) _ 3 ?hg (N:=57) ?hd (xs:=([]:List Int)) (inner:=[]) (ok:=fun _=>True) (okp:=fun _=>True) ?hr ?hp (fun _ hk=>hk) trivial (Below.refl _ _) (Nat.le_refl _) (by simp) ?_;(case hd=>rfl);(case hg=>rfl);(case hr=>first|(go_simp;done)|(go_simp;rfl));(case hp=>exact (Reps.none _ _))
    intro v545 w42 ho43 hb hg_ hnew_
    have HS3_:=(hb.cell (World.block_lt_of_cell? _ _ (hHeld.2.2.2))).trans (hHeld.2.2.2)
    clear hg_ hnew_
    (first|rw [← Ny544.out] at ho43|(simp only [Int.reduceToNat] at ho43;rw [← Ny544.out] at ho43))
    have HO546:=yam (Kd.R_lower (Kd.Yw (Kd.Yw (Kd.Yw (Kd.R_newM (M:=fun k_=>(P3_ k_∨w.heap.size≤k_)) ho43 (by first|exact HK.out.1|exact (show Kept w _ (fun k_=>P3_ k_) from by repeat (first|(with_reducible first|exact HK.out|apply Kept.alloc|apply Kept.drewN|apply Kept.drew|refine Kept.setCell ?_ (.inr GW534.out) _)|exact HK.out)).1) (fun k_ h_=> .inr h_)) (Kd.R_lt (Kd.Yz HO_3.out))) (Kd.R_lt (Kd.Yz HO_10.out))) (Kd.R_lt (Kd.Yz HO553.out))) (below_size yhb))
    replace HO_3:=yam (Kd.Ye (Kd.Yz HO_3.out) (Kd.Yb ho43) hb)
    replace HO_10:=yam (Kd.Ye (Kd.Yz HO_10.out) (Kd.Yb ho43) hb)
    replace HO553:=yam (Kd.Ye (Kd.Yz HO553.out) (Kd.Yb ho43) hb)
    replace BK534:=yam (ybb BK534.out hb)
    replace HK:=yam (Kept.below (S:=(fun k_=>P3_ k_)) (by repeat (first|(with_reducible first|exact HK.out|apply Kept.alloc|apply Kept.drewN|apply Kept.drew|refine Kept.setCell ?_ (.inr GW534.out) _)|exact HK.out)) hb)
    replace HB:=yam (below_step yhb hb)
    clear hb ho43
    refine hK.out _ _ ⟨(blk_cell BK534.out 0).trans rfl,(blk_cell BK534.out 1).trans rfl,(blk_cell BK534.out 2).trans rfl,HS3_⟩ (fun hHeld=>?_)
    clear hK K
    refine norm_ (a':=?_) ?_ ?_
    rotate_left
    ·show Act.put _ (some 57) _=_
     simp only [Act.put,yps,i64_w,i32_w]
     rfl
    refine one_ (i:=4) (N:=some 59) (yvb 13 3071) rfl rfl (one_of HT_.out (by kernel_rfl)) (by decide) (fun K hK=>?_)
    refine Kd.R_append_rows_step (Kd.int .i64) (w0:=w0) w0.heap.size (by rfl) (.tmp 57) (.tmp 58) 23 3 (.int .i64 0) 8 rfl Try.underlying23 info3 rfl (by decide) (by omega) v545 y544 l2 _ _ _ (fun k_=>(P3_ k_∨w.heap.size≤k_)∧some k_≠(.slice Ao38 x3_1.length co38:Value).ownBlock∧some k_≠(.slice (some ad550) t541.length co37:Value).ownBlock∧some k_≠(v552:Value).ownBlock) (fun _=>False) rfl rfl ?aO ?aR (fun _ _ h=>h) (fun _ h=>h.elim) ?aF ?aB ?aS ?aL ?_
    (case aR=>exact Kd.C_kept_now HR2.out (by repeat (first|(with_reducible first|exact HK.out|apply Kept.alloc|apply Kept.drewN|apply Kept.drew|refine Kept.setCell ?_ (.inr GW534.out) _)|exact HK.out)))
    (case aB=>exact yhb)
    (case aF=>exact (fun k_ hk=>⟨(.inr (Nat.le_trans (by first|exact HK.out.1|exact (show Kept w _ (fun k_=>P3_ k_) from by repeat (first|(with_reducible first|exact HK.out|apply Kept.alloc|apply Kept.drewN|apply Kept.drew|refine Kept.setCell ?_ (.inr GW534.out) _)|exact HK.out)).1) hk)),Kd.fresh' (Kd.R_lt (Kd.Yz HO_3.out)) k_ hk,Kd.fresh' (Kd.R_lt (Kd.Yz HO_10.out)) k_ hk,Kd.fresh' (Kd.R_lt (Kd.Yz HO553.out)) k_ hk⟩))
    (case aO=>exact (by (with_reducible repeat (first|apply Kd.Ya|apply Kd.Yn|apply Kd.Yd));exact Kd.R_mono HO546.out (fun _ hk=>⟨hk.1.1.1.1,⟨hk.1.1.2,⟨hk.1.2,hk.2⟩⟩⟩)))
    (case aS=>exact (below_size yhb))
    (case aL=>have:=LMc33.out;omega)
    intro v548 w44 ho hb hg hat
    have HS3_:=cell_grown hg (hHeld.2.2.2) (by first|(rw [add_block];exact (fun e_=>(by have h_:=HO546.out.1 _ e_.symm;simp [Value.ownBlock] at h_)))|(show some (Addr.add _ _).block≠_;rw [add_block];exact (fun e_=>(by have h_:=HO546.out.1 _ e_.symm;simp [Value.ownBlock] at h_)))|exact (fun e_=>(by have h_:=HO546.out.1 _ e_.symm;simp [Value.ownBlock] at h_)))
    rw [← Ny547.out] at ho
    replace HO_3:=yam (Kd.R_after (ok:=(fun k_=>(P3_ k_∨w.heap.size≤k_)∧some k_≠(.slice (some ad550) t541.length co37:Value).ownBlock∧some k_≠(v552:Value).ownBlock)) (by (with_reducible repeat (first|apply Kd.Ya|apply Kd.Yn|apply Kd.Yd));exact Kd.R_mono HO_3.out (fun _ hk=>⟨⟨hk.1.1.1,⟨hk.1.1.2,hk.1.2⟩⟩,hk.2⟩)) hg hat)
    replace HO_10:=yam (Kd.R_after (ok:=(fun k_=>(P3_ k_∨w.heap.size≤k_)∧some k_≠(.slice Ao38 x3_1.length co38:Value).ownBlock∧some k_≠(v552:Value).ownBlock)) (by (with_reducible repeat (first|apply Kd.Ya|apply Kd.Yn|apply Kd.Yd));exact Kd.R_mono HO_10.out (fun _ hk=>⟨⟨hk.1.1.1,⟨hk.1.1.2,hk.1.2⟩⟩,hk.2⟩)) hg hat)
    replace BK534:=yam (blk_grown (g:=gb534) (o:= .cells #[.int .i64 a0_0,.slice (some ad539) l0_1.length c0_1,.int .i64 a0_2] 32 (0,0)) (ybz BK534.out) hg (Kd.R_ne HO546.out BK534.out (by decide)))
    replace HO553:=yam (Kd.R_after (ok:=(fun k_=>(P3_ k_∨w.heap.size≤k_)∧some k_≠(.slice Ao38 x3_1.length co38:Value).ownBlock∧some k_≠(.slice (some ad550) t541.length co37:Value).ownBlock)) (by (with_reducible repeat (first|apply Kd.Ya|apply Kd.Yn|apply Kd.Yd));exact Kd.R_mono HO553.out (fun _ hk=>⟨⟨hk.1.1.1.1,⟨hk.1.1.2,hk.1.2⟩⟩,hk.2⟩)) hg hat)
    replace HB:=yam (hb)
    replace HK:=yam (Kept.of_grown (S:=(fun k_=>P3_ k_)) hg (by repeat (first|(with_reducible first|exact HK.out|apply Kept.alloc|apply Kept.drewN|apply Kept.drew|refine Kept.setCell ?_ (.inr GW534.out) _)|exact HK.out)) (fun k_ e_=>(HO546.out.1 k_ e_).1.1.1.1))
    have HO549:=yam (ho)
    clear HO546
    clear ho hb hg hat
    refine hK.out _ _ ⟨(blk_cell BK534.out 0).trans rfl,(blk_cell BK534.out 1).trans rfl,(blk_cell BK534.out 2).trans rfl,HS3_⟩ (fun hHeld=>?_)
    clear hK K
    refine norm_ (a':=?_) ?_ ?_
    rotate_left
    ·show Act.put _ (some 59) _=_
     simp only [Act.put,yps,i64_w,i32_w]
     rfl
    exact norm_ (by simp only [putAll,Act.put,yps]) (hCont (v545,v548,v552) _ ⟨hHeld,(by (with_reducible repeat (first|apply Kd.Ya|apply Kd.Yn|apply Kd.Yd));exact Kd.R_mono HO549.out (fun _ hk=>⟨hk.1,⟨hk.2.2.2,⟨hk.2.2.1,hk.2.1⟩⟩⟩)),(by (with_reducible repeat (first|apply Kd.Ya|apply Kd.Yn|apply Kd.Yd));exact Kd.R_mono HO553.out (fun _ hk=>⟨hk.1.1,⟨hk.2,⟨hk.1.2.2,hk.1.2.1⟩⟩⟩)),(by (with_reducible repeat (first|apply Kd.Ya|apply Kd.Yn|apply Kd.Yd));exact Kd.R_mono HO_10.out (fun _ hk=>⟨hk.1.1,⟨hk.2,⟨hk.1.2.2,hk.1.2.1⟩⟩⟩)),(by (with_reducible repeat (first|apply Kd.Ya|apply Kd.Yn|apply Kd.Yd));exact Kd.R_mono HO_3.out (fun _ hk=>⟨hk.1.1,⟨hk.2,⟨hk.1.2.2,hk.1.2.1⟩⟩⟩)),(ybz BK534.out),(by repeat (first|(with_reducible first|exact HK.out|apply Kept.alloc|apply Kept.drewN|apply Kept.drew|refine Kept.setCell ?_ (.inr GW534.out) _)|exact HK.out)),yhb⟩)
  rintro ⟨v545,v548,v552⟩ w45 ⟨hS_,h0_,h1_,h2_,h3_,h4_,h5_,h6_⟩
  have HO549:Aside0 (Kd.R (Kd.int .i64) 3 w45 w0.heap.size (fun k_=>(P3_ k_∨w.heap.size≤k_)∧some k_≠(v552:Value).ownBlock∧some k_≠(.slice (some ad550) t541.length co37:Value).ownBlock∧some k_≠(.slice Ao38 x3_1.length co38:Value).ownBlock) v548 y547):=⟨h0_⟩
  have HO553:Aside0 (Kd.R (Kd.int .i64) 3 w45 w0.heap.size (fun k_=>(P3_ k_∨w.heap.size≤k_)∧some k_≠(v548:Value).ownBlock∧some k_≠(.slice (some ad550) t541.length co37:Value).ownBlock∧some k_≠(.slice Ao38 x3_1.length co38:Value).ownBlock) v552 y551):=⟨h1_⟩
  replace HO_10:Aside0 (Kd.R (Kd.int .i64) 3 w45 w0.heap.size (fun k_=>(P3_ k_∨w.heap.size≤k_)∧some k_≠(v548:Value).ownBlock∧some k_≠(v552:Value).ownBlock∧some k_≠(.slice Ao38 x3_1.length co38:Value).ownBlock) (.slice (some ad550) t541.length co37) t541):=⟨h2_⟩
  replace HO_3:Aside0 (Kd.R (Kd.int .i64) 3 w45 w0.heap.size (fun k_=>(P3_ k_∨w.heap.size≤k_)∧some k_≠(v548:Value).ownBlock∧some k_≠(v552:Value).ownBlock∧some k_≠(.slice (some ad550) t541.length co37:Value).ownBlock) (.slice Ao38 x3_1.length co38) x3_1):=⟨h3_⟩
  replace BK534:Aside0 (w45.heap[gb534]?=some (.cells #[.int .i64 a0_0,.slice (some ad539) l0_1.length c0_1,.int .i64 a0_2] 32 (0,0))):=⟨h4_⟩
  replace HK:Aside0 (Kept w w45 (fun k_=>P3_ k_)):=⟨h5_⟩
  replace HB:Aside0 (Below w0.heap.size w0 w45):=⟨h6_⟩
  clear h0_ h1_ h2_ h3_ h4_ h5_ h6_
  have hHeld:w45.cell? ⟨gb534,0,none⟩=some (.int .i64 a0_0)∧w45.cell? ⟨gb534,1,none⟩=some (.slice (some ad539) l0_1.length c0_1)∧w45.cell? ⟨gb534,2,none⟩=some (.int .i64 a0_2)∧w45.cell? (ad550.add (x11_1).toNat)=some (.int .i64 (rd t541 x11_1)):=hS_
  obtain ⟨Ao47,co47,eo47⟩:=Kd.R_slice HO553.out
  (first|subst eo47|(injection eo47 with f1_ f2_ f3_;have f4_:=f1_.symm;have f5_:=f3_.symm;clear f1_ f2_ f3_;subst f4_;subst f5_))
  refine norm_ (a':=?_) ?_ ?_
  rotate_left
  ·simp only [putAll,Act.put,yps]
   rfl
  refine one_ (i:=10) (N:=some 65) (yvb 13 4095) rfl rfl (one_of HT_.out (by kernel_rfl)) (by decide) (fun K hK=>?_)
  refine Kd.R_append_rows_step (Kd.int .i64) (w0:=w0) w0.heap.size (by rfl) (.tmp 59) (.tmp 64) 23 3 (.int .i64 0) 8 rfl Try.underlying23 info3 rfl (by decide) (by omega) v548 y547 y551 _ _ _ (fun k_=>(P3_ k_∨w.heap.size≤k_)∧some k_≠(.slice Ao38 x3_1.length co38:Value).ownBlock∧some k_≠(.slice (some ad550) t541.length co37:Value).ownBlock∧some k_≠(.slice Ao47 y551.length co47:Value).ownBlock) (fun _=>False) rfl rfl ?aO ?aR (fun _ _ h=>h) (fun _ h=>h.elim) ?aF ?aB ?aS ?aL ?_
  (case aR=>repeat (first|exact (Kd.Yr HO553.out).2.2|(with_reducible refine Kd.C_alloc ?_ _)|(with_reducible refine Kd.C_drewN ?_ _)|(with_reducible refine Kd.C_drew ?_)))
  (case aB=>exact yhb)
  (case aF=>exact (fun k_ hk=>⟨(.inr (Nat.le_trans (by first|exact HK.out.1|exact (show Kept w _ (fun k_=>P3_ k_) from by repeat (first|(with_reducible first|exact HK.out|apply Kept.alloc|apply Kept.drewN|apply Kept.drew|refine Kept.setCell ?_ (.inr GW534.out) _)|exact HK.out)).1) hk)),Kd.fresh' (Kd.R_lt (Kd.Yz HO_3.out)) k_ hk,Kd.fresh' (Kd.R_lt (Kd.Yz HO_10.out)) k_ hk,Kd.fresh' (Kd.R_lt (Kd.Yz HO553.out)) k_ hk⟩))
  (case aO=>exact (by (with_reducible repeat (first|apply Kd.Ya|apply Kd.Yn|apply Kd.Yd));exact Kd.R_mono HO549.out (fun _ hk=>⟨hk.1,⟨hk.2.2.2,⟨hk.2.2.1,hk.2.1⟩⟩⟩)))
  (case aS=>exact (below_size yhb))
  (case aL=>have:=LMc35.out;omega)
  intro v555 w46 ho hb hg hat
  have HS3_:=cell_grown hg (hHeld.2.2.2) (by first|(rw [add_block];exact (fun e_=>(by have h_:=HO549.out.1 _ e_.symm;simp [Value.ownBlock] at h_)))|(show some (Addr.add _ _).block≠_;rw [add_block];exact (fun e_=>(by have h_:=HO549.out.1 _ e_.symm;simp [Value.ownBlock] at h_)))|exact (fun e_=>(by have h_:=HO549.out.1 _ e_.symm;simp [Value.ownBlock] at h_)))
  rw [← Ny554.out] at ho
  replace HO_3:=yam (Kd.R_after (ok:=(fun k_=>(P3_ k_∨w.heap.size≤k_)∧some k_≠(.slice (some ad550) t541.length co37:Value).ownBlock∧some k_≠(.slice Ao47 y551.length co47:Value).ownBlock)) (by (with_reducible repeat (first|apply Kd.Ya|apply Kd.Yn|apply Kd.Yd));exact Kd.R_mono HO_3.out (fun _ hk=>⟨⟨hk.1,⟨hk.2.2.2,hk.2.2.1⟩⟩,hk.2.1⟩)) hg hat)
  replace HO_10:=yam (Kd.R_after (ok:=(fun k_=>(P3_ k_∨w.heap.size≤k_)∧some k_≠(.slice Ao38 x3_1.length co38:Value).ownBlock∧some k_≠(.slice Ao47 y551.length co47:Value).ownBlock)) (by (with_reducible repeat (first|apply Kd.Ya|apply Kd.Yn|apply Kd.Yd));exact Kd.R_mono HO_10.out (fun _ hk=>⟨⟨hk.1,⟨hk.2.2.2,hk.2.2.1⟩⟩,hk.2.1⟩)) hg hat)
  replace BK534:=yam (blk_grown (g:=gb534) (o:= .cells #[.int .i64 a0_0,.slice (some ad539) l0_1.length c0_1,.int .i64 a0_2] 32 (0,0)) (ybz BK534.out) hg (Kd.R_ne HO549.out BK534.out (by decide)))
  replace HO553:=yam (Kd.R_after (ok:=(fun k_=>(P3_ k_∨w.heap.size≤k_)∧some k_≠(.slice Ao38 x3_1.length co38:Value).ownBlock∧some k_≠(.slice (some ad550) t541.length co37:Value).ownBlock)) (by (with_reducible repeat (first|apply Kd.Ya|apply Kd.Yn|apply Kd.Yd));exact Kd.R_mono HO553.out (fun _ hk=>⟨⟨hk.1,⟨hk.2.2.2,hk.2.2.1⟩⟩,hk.2.1⟩)) hg hat)
  replace HB:=yam (hb)
  replace HK:=yam (Kept.of_grown (S:=(fun k_=>P3_ k_)) hg (by repeat (first|(with_reducible first|exact HK.out|apply Kept.alloc|apply Kept.drewN|apply Kept.drew|refine Kept.setCell ?_ (.inr GW534.out) _)|exact HK.out)) (fun k_ e_=>(HO549.out.1 k_ e_).1))
  have HO556:=yam (ho)
  clear HO549
  clear ho hb hg hat
  obtain ⟨Ao48,co48,eo48⟩:=Kd.R_slice HO556.out
  (first|subst eo48|(injection eo48 with f1_ f2_ f3_;have f4_:=f1_.symm;have f5_:=f3_.symm;clear f1_ f2_ f3_;subst f4_;subst f5_))
  refine hK.out _ _ ⟨(blk_cell BK534.out 0).trans rfl,(blk_cell BK534.out 1).trans rfl,(blk_cell BK534.out 2).trans rfl,HS3_⟩ (fun hHeld=>?_)
  clear hK K
  refine norm_ (a':=?_) ?_ ?_
  rotate_left
  ·show Act.put _ (some 65) _=_
   simp only [Act.put,yps,i64_w,i32_w]
   rfl
  refine one_ (i:=12) (N:=some 67) (yvb 13 8191) rfl rfl (one_of HT_.out (by kernel_rfl)) (by decide) (fun K hK=>?_)
  refine goes_ Try.func76 (by kernel_rfl) rfl #[.agg #[.int .i64 a0_0,.slice (some ad539) l0_1.length c0_1,.int .i64 a0_2],.slice (some ad540) l1.length c1,.slice Ao48 y554.length co48,.slice Ao38 x3_1.length co38] (by rfl) rfl rfl ymd ?_
  with_reducible refine (ih k1 (by have:=HK1.out;omega) a0_0 _ _ l0_1 a0_2 _ _ l1 _ _ y554 (fun k_=>some k_=(.slice Ao38 x3_1.length co38:Value).ownBlock) (.slice Ao38 x3_1.length co38) x3_1 t557 w0 _ ?side1 ?side2 ?side3 ?side4 ?side5 ?side6 ?side7 ?side8 A36.out).mono ?_
  (case side1=>repeat (first|(with_reducible first|exact HB.out|apply yea|apply yen|apply yed|refine below_set ?_ GE534.out)|exact HB.out))
  (case side2=>exact Kd.C_kept_call HR0_1.out (by repeat (first|(with_reducible first|exact HK.out|apply Kept.alloc|apply Kept.drewN|apply Kept.drew|refine Kept.setCell ?_ (.inr GW534.out) _)|exact HK.out)) (fun k_ hs_=>(fun e_=>(HO_3.out.1 k_ e_.symm).1.1) hs_))
  (case side3=>exact HC0_1.out)
  (case side4=>exact Kd.C_kept_call HR1.out (by repeat (first|(with_reducible first|exact HK.out|apply Kept.alloc|apply Kept.drewN|apply Kept.drew|refine Kept.setCell ?_ (.inr GW534.out) _)|exact HK.out)) (fun k_ hs_=>(fun e_=>(HO_3.out.1 k_ e_.symm).1.1) hs_))
  (case side5=>exact HC1.out)
  (case side6=>exact Kd.C_kept_own (HO556.out) (fun k_ hk_ hs_=>(hk_.2.1) hs_))
  (case side7=>exact (Kd.Yr HO556.out).2.1)
  (case side8=>exact Kd.R_tight rfl HO_3.out)
  rintro e w49 ⟨rfl,hy0,hb,hkp⟩
  have HS3_:=cell_kept (hHeld.2.2.2) hkp (by first|(rw [add_block];exact (fun hs_=>(((HO_10.out).1 _ rfl).1.2.1) hs_))|(show ¬ _;simp only [add_block];exact (fun hs_=>(((HO_10.out).1 _ rfl).1.2.1) hs_))|exact (fun hs_=>(((HO_10.out).1 _ rfl).1.2.1) hs_))
  refine ⟨_,rfl,?_⟩
  replace HO_10:=yam (Kd.R_mono (ok':=fun k_=>(P3_ k_∨w.heap.size≤k_)∧some k_≠(.slice Ao38 x3_1.length co38:Value).ownBlock∧some k_≠(.slice Ao47 y551.length co47:Value).ownBlock∧some k_≠(.slice Ao48 y554.length co48:Value).ownBlock) (Kd.R_keptB (HO_10.out) hkp (fun k_ hk_ hs_=>(hk_.1.2.1) hs_)) (fun k_ hk_=>⟨hk_.1.1.1,hk_.1.1.2.1,hk_.1.1.2.2,hk_.1.2⟩))
  replace BK534:=yam (blk_kept (ybz BK534.out) hkp (fun hs_=>(fun e_=>(Kd.R_ne HO_3.out BK534.out (by decide)) e_) hs_))
  replace HO553:=yam (Kd.R_mono (ok':=fun k_=>(P3_ k_∨w.heap.size≤k_)∧some k_≠(.slice Ao38 x3_1.length co38:Value).ownBlock∧some k_≠(.slice (some ad550) t541.length co37:Value).ownBlock∧some k_≠(.slice Ao48 y554.length co48:Value).ownBlock) (Kd.R_keptB (HO553.out) hkp (fun k_ hk_ hs_=>(hk_.1.2.1) hs_)) (fun k_ hk_=>⟨hk_.1.1.1,hk_.1.1.2.1,hk_.1.1.2.2,hk_.1.2⟩))
  replace HO556:=yam (Kd.R_mono (ok':=fun k_=>(P3_ k_∨w.heap.size≤k_)∧some k_≠(.slice Ao38 x3_1.length co38:Value).ownBlock∧some k_≠(.slice (some ad550) t541.length co37:Value).ownBlock∧some k_≠(.slice Ao47 y551.length co47:Value).ownBlock) (Kd.R_keptB (HO556.out) hkp (fun k_ hk_ hs_=>(hk_.2.1) hs_)) (fun k_ hk_=>⟨hk_.1.1,hk_.1.2.1,hk_.1.2.2.1,hk_.1.2.2.2⟩))
  replace HK:=yam (Kept.then_ (S:=(fun k_=>P3_ k_)) (by repeat (first|(with_reducible first|exact HK.out|apply Kept.alloc|apply Kept.drewN|apply Kept.drew|refine Kept.setCell ?_ (.inr GW534.out) _)|exact HK.out)) hkp (fun k_ hs_=>(fun e_=>(HO_3.out.1 k_ e_.symm).1.1) hs_))
  replace HO_3:=yam (Kd.R_reok rfl hy0 (fun k_ e_=>HO_3.out.1 k_ e_))
  replace HB:=yam (hb)
  (try clear hb)
  (try clear hkp)
  (try clear hy0)
  refine hK.out _ _ ⟨(blk_cell BK534.out 0).trans rfl,(blk_cell BK534.out 1).trans rfl,(blk_cell BK534.out 2).trans rfl,HS3_⟩ (fun hHeld=>?_)
  clear hK K
  refine norm_ (a':=?_) ?_ ?_
  rotate_left
  ·show Act.put _ (some 67) _=_
   simp only [Act.put,yps,i64_w,i32_w]
   rfl
  refine done_ (done_of HT_.out (by kernel_rfl)) ?_
  try go_wp2
  go_roundg k1
  case measure=>have:=HK1.out;omega
  case rel=>exact ⟨(t557),(wrap64 (x11_1 + 1)),yeq,H,⟨by have:=HK1.out;omega⟩,⟨by (with_reducible repeat (first|apply Kd.Ya|apply Kd.Yn|apply Kd.Yd));exact Kd.R_mono HO_3.out (fun _ hk=>⟨hk.1.1,hk.1.2.1⟩)⟩,⟨by (with_reducible repeat (first|apply Kd.Ya|apply Kd.Yn|apply Kd.Yd));exact Kd.R_mono HO_10.out (fun _ hk=>⟨hk.1,hk.2.1⟩)⟩,⟨ybk BK534.out⟩,⟨by repeat (first|(with_reducible first|exact HK.out|apply Kept.alloc|apply Kept.drewN|apply Kept.drew|refine Kept.setCell ?_ (.inr GW534.out) _)|exact HK.out)⟩,⟨yhb⟩⟩
end Go.Proofs.Ythfbjkniinfgcaa.P
