/- The machine's side: each Go function as a plain Lean function and the proof that the machine's call does what that function says; written by this session's own program over the kit's print. -/
import Derived.ArgAppend
import Derived.Below
import Derived.BigQuiet
import Derived.Deep.AppendLies
import Derived.Deep.CutBlock
import Derived.Deep.DeepCutAuto
import Derived.Deep.Draws
import Derived.Deep.LoopGhost
import Derived.Deep.OwnRows
import Derived.Deep.QuietTactic
import Derived.Deep.RegionHeld3
import Derived.KernelRfl
import Derived.Laws.BitsLemmas
import Derived.Laws.BytesArg
import Derived.Laws.IdiomCopy
import Derived.Laws.MakeOwn
import Derived.Laws.OwnMore
import Derived.Laws.Rows
import Derived.Laws.Slices
import Derived.Lib.AppendStr
import Derived.Lib.ConvBytes
import Derived.Maps.AppendAt
import Derived.OrdersHeld
import Derived.OwnWalk
import Derived.RowKit
import Derived.RowKit3
import Derived.Tactics
import Derived.Test.YtmjbnghhfadapaaProg
import Derived.Test.YtmjbnghhfadapaaZW
import Derived.WalkKit
import Derived.WideLaws
namespace Go.Proofs.Ytmjbnghhfadapaa.P
set_option maxHeartbeats 8000000
set_option maxRecDepth 100000
open Go.RowKit Go.Proofs.YtmjbnghhfadapaaW.PrintWords Go.Proofs.YtmjbnghhfadapaaW.PrintLast Go.Proofs.YtmjbnghhfadapaaW.PrintMore
attribute [local go_sem] max2_int min2_int max_two min_two max_three min_three max_four min_four   -- for this text's walks alone
set_option linter.unusedVariables false
set_option linter.unusedSimpArgs false
def errW:Option Int→Value
 | none=> .nilIface
 | some c=> .iface 0 (.int .i64 c)
theorem errW_none:errW none= .nilIface:=rfl
theorem errW_some (c:Int):errW (some c)= .iface 0 (.int .i64 c):=rfl

theorem info3:(Try.prog.info? 3).map (fun i=>(i.zero,i.size,i.bytes))=some (some (.int .i64 0),1,8):=by kernel_rfl
theorem info5:(Try.prog.info? 5).map (fun i=>(i.zero,i.size,i.bytes))=some (some (.int .u8 0),1,1):=by kernel_rfl
theorem info22:(Try.prog.info? 22).map (fun i=>(i.zero,i.size,i.bytes))=some (some (.slice none 0 0),1,24):=by kernel_rfl
theorem info70:(Try.prog.info? 70).map (fun i=>(i.zero,i.size,i.bytes))=some (some (.agg #[(.int .i64 0),(.slice none 0 0),(.int .i64 0)]),3,40):=by kernel_rfl
theorem info73:(Try.prog.info? 73).map (fun i=>(i.zero,i.size,i.bytes))=some (some (.agg #[(.int .i64 0),(.slice none 0 0),(.int .i64 0)]),3,40):=by kernel_rfl
-- the values' own types
def rd_L1 (xs:List (List Int))(i:Int):(List Int):=xs.getD i.toNat ([]:List Int)
theorem at_L1 {w:World}{A:Option Addr}{n:Nat}{xs:List (List Int)}(h:Kd.C (Kd.slice 3 (Kd.int .i64)) w A n xs)(i:Int)(h0:0≤i)(h1:i < n):∃ ad A0 c0,A=some ad∧w.cell? (ad.add i.toNat)=some (.slice A0 (rd_L1 xs i).length c0)∧(rd_L1 xs i).length≤c0∧(Kd.int .i64).C w A0 (rd_L1 xs i).length (rd_L1 xs i):=by
 obtain ⟨ad,c,e,_,hK,hc0⟩:=Kd.C_get h ([]:List Int) i h0 h1
 have hc:∀ j u,c[j]?=some u→w.cell? (ad.add (i.toNat * 1 + j))=some u:=hc0
 obtain ⟨A0,c0,rfl,l0,g0⟩:=hK
 exact ⟨ad,A0,c0,e,by have hq:=hc 0 _ rfl;rwa [Nat.mul_one,Nat.add_zero] at hq,l0,g0⟩

structure S73 where
 f0:Int
 f1:(List Int)
 f2:Int
def z73:S73:=⟨(0:Int),([]:List Int),(0:Int)⟩
def k73:Kd S73:=Kd.iso (Kd.pair (Kd.int .i64) (Kd.pair (Kd.slice 3 (Kd.int .i64)) (Kd.int .i64))) (fun x:S73=>(x.f0,x.f1,x.f2))
theorem k73_heap:Kd.Heap k73:=Kd.heap_iso _ (Kd.heap_pair (Kd.heap_int .i64) (Kd.heap_pair (Kd.heap_slice 3 (Kd.heap_int .i64)) (Kd.heap_int .i64)))
theorem k73_open {w:World}{x:S73}{cs:List Value}(h:k73.K w x cs):∃ A1 c1,cs=[.int .i64 x.f0,.slice A1 x.f1.length c1,.int .i64 x.f2]∧x.f1.length≤c1∧(Kd.int .i64).C w A1 x.f1.length x.f1:=by
 obtain ⟨_,_,rfl,rfl,⟨_,_,rfl,⟨A1,c1,rfl,l1,g1⟩,rfl⟩⟩:=h
 exact ⟨A1,c1,rfl,l1,g1⟩
theorem k73_openM {w:World}{base:Nat}{ok:Nat→Prop}{x:S73}{cs:List Value}(h:k73.M w base ok x cs):∃ v1,cs=[.int .i64 x.f0,v1,.int .i64 x.f2]∧(Kd.int .i64).R 3 w base ok v1 x.f1:=by
 obtain ⟨_,_,rfl,rfl,⟨_,_,rfl,⟨v1,rfl,g1⟩,rfl⟩⟩:=h
 exact ⟨v1,rfl,g1⟩
theorem k73_mk (w:World)(x:S73){A1:Option Addr}{c1:Nat}(l1:x.f1.length≤c1)(g1:(Kd.int .i64).C w A1 x.f1.length x.f1):k73.K w x [.int .i64 x.f0,.slice A1 x.f1.length c1,.int .i64 x.f2]:=⟨[.int .i64 x.f0],[.slice A1 x.f1.length c1,.int .i64 x.f2],rfl,rfl,⟨[.slice A1 x.f1.length c1],[.int .i64 x.f2],rfl,⟨A1,c1,rfl,l1,g1⟩,rfl⟩⟩
theorem k73_mkM (w:World)(base:Nat)(ok:Nat→Prop)(x:S73){v1:Value}(g1:(Kd.int .i64).R 3 w base ok v1 x.f1):k73.M w base ok x [.int .i64 x.f0,v1,.int .i64 x.f2]:=⟨[.int .i64 x.f0],[v1,.int .i64 x.f2],rfl,rfl,⟨[v1],[.int .i64 x.f2],rfl,⟨v1,rfl,g1⟩,rfl⟩⟩
theorem k73_openF {W:World}{ok:Nat→Prop}{x:S73}{cs:List Value}(h:Kd.FK k73 W ok x cs):∃ A1 c1,cs=[.int .i64 x.f0,.slice A1 x.f1.length c1,.int .i64 x.f2]∧x.f1.length≤c1∧Kd.F (Kd.int .i64) W ok A1 x.f1.length x.f1:=by
 obtain ⟨A1,c1,rfl,l1,_⟩:=k73_open (Kd.FK_now h)
 exact ⟨A1,c1,rfl,l1,(fun W' hW=>by obtain ⟨A1_,c1_,he,l1_,g1_⟩:=k73_open (h W' hW);injection (Option.some.inj (show some (Value.slice A1 x.f1.length c1)=some (Value.slice A1_ x.f1.length c1_) from congrArg (fun l=>l[1]?) he)) with ha_ _ _;rw [ha_];exact g1_)⟩
theorem k73_mkF (W:World)(ok:Nat→Prop)(x:S73){A1:Option Addr}{c1:Nat}(l1:x.f1.length≤c1)(g1:Kd.F (Kd.int .i64) W ok A1 x.f1.length x.f1):Kd.FK k73 W ok x [.int .i64 x.f0,.slice A1 x.f1.length c1,.int .i64 x.f2]:=fun W2 hW=>k73_mk W2 x l1 (g1 W2 hW)
def rd_T73 (xs:List S73)(i:Int):S73:=xs.getD i.toNat z73
theorem at_T73 {w:World}{A:Option Addr}{n:Nat}{xs:List S73}(h:Kd.C k73 w A n xs)(i:Int)(h0:0≤i)(h1:i < n):∃ ad A1 c1,A=some ad∧w.cell? (ad.add (i.toNat * 3))=some (.int .i64 (rd_T73 xs i).f0)∧w.cell? ⟨(ad.add (i.toNat * 3)).block,(ad.add (i.toNat * 3)).off + 1,none⟩=some (.slice A1 (rd_T73 xs i).f1.length c1)∧w.cell? ⟨(ad.add (i.toNat * 3)).block,(ad.add (i.toNat * 3)).off + 2,none⟩=some (.int .i64 (rd_T73 xs i).f2)∧(rd_T73 xs i).f1.length≤c1∧(Kd.int .i64).C w A1 (rd_T73 xs i).f1.length (rd_T73 xs i).f1:=by
 obtain ⟨ad,c,e,_,hK,hc0⟩:=Kd.C_get h z73 i h0 h1
 have hc:∀ j u,c[j]?=some u→w.cell? (ad.add (i.toNat * 3 + j))=some u:=hc0
 obtain ⟨A1,c1,rfl,l1,g1⟩:=k73_open hK
 exact ⟨ad,A1,c1,e,hc 0 _ rfl,by rw [← add_field _ _ 1 (by omega)];exact hc 1 _ rfl,by rw [← add_field _ _ 2 (by omega)];exact hc 2 _ rfl,l1,g1⟩

def rd_L4 (xs:List (List S73))(i:Int):(List S73):=xs.getD i.toNat ([]:List S73)
theorem at_L4 {w:World}{A:Option Addr}{n:Nat}{xs:List (List S73)}(h:Kd.C (Kd.slice 73 k73) w A n xs)(i:Int)(h0:0≤i)(h1:i < n):∃ ad A0 c0,A=some ad∧w.cell? (ad.add i.toNat)=some (.slice A0 (rd_L4 xs i).length c0)∧(rd_L4 xs i).length≤c0∧k73.C w A0 (rd_L4 xs i).length (rd_L4 xs i):=by
 obtain ⟨ad,c,e,_,hK,hc0⟩:=Kd.C_get h ([]:List S73) i h0 h1
 have hc:∀ j u,c[j]?=some u→w.cell? (ad.add (i.toNat * 1 + j))=some u:=hc0
 obtain ⟨A0,c0,rfl,l0,g0⟩:=hK
 exact ⟨ad,A0,c0,e,by have hq:=hc 0 _ rfl;rwa [Nat.mul_one,Nat.add_zero] at hq,l0,g0⟩

structure S70 where
 f0:Int
 f1:(List Int)
 f2:Int
def z70:S70:=⟨(0:Int),([]:List Int),(0:Int)⟩
def k70:Kd S70:=Kd.iso (Kd.pair (Kd.int .i64) (Kd.pair (Kd.slice 3 (Kd.int .i64)) (Kd.int .i64))) (fun x:S70=>(x.f0,x.f1,x.f2))
theorem k70_heap:Kd.Heap k70:=Kd.heap_iso _ (Kd.heap_pair (Kd.heap_int .i64) (Kd.heap_pair (Kd.heap_slice 3 (Kd.heap_int .i64)) (Kd.heap_int .i64)))
theorem k70_open {w:World}{x:S70}{cs:List Value}(h:k70.K w x cs):∃ A1 c1,cs=[.int .i64 x.f0,.slice A1 x.f1.length c1,.int .i64 x.f2]∧x.f1.length≤c1∧(Kd.int .i64).C w A1 x.f1.length x.f1:=by
 obtain ⟨_,_,rfl,rfl,⟨_,_,rfl,⟨A1,c1,rfl,l1,g1⟩,rfl⟩⟩:=h
 exact ⟨A1,c1,rfl,l1,g1⟩
theorem k70_openM {w:World}{base:Nat}{ok:Nat→Prop}{x:S70}{cs:List Value}(h:k70.M w base ok x cs):∃ v1,cs=[.int .i64 x.f0,v1,.int .i64 x.f2]∧(Kd.int .i64).R 3 w base ok v1 x.f1:=by
 obtain ⟨_,_,rfl,rfl,⟨_,_,rfl,⟨v1,rfl,g1⟩,rfl⟩⟩:=h
 exact ⟨v1,rfl,g1⟩
theorem k70_mk (w:World)(x:S70){A1:Option Addr}{c1:Nat}(l1:x.f1.length≤c1)(g1:(Kd.int .i64).C w A1 x.f1.length x.f1):k70.K w x [.int .i64 x.f0,.slice A1 x.f1.length c1,.int .i64 x.f2]:=⟨[.int .i64 x.f0],[.slice A1 x.f1.length c1,.int .i64 x.f2],rfl,rfl,⟨[.slice A1 x.f1.length c1],[.int .i64 x.f2],rfl,⟨A1,c1,rfl,l1,g1⟩,rfl⟩⟩
theorem k70_mkM (w:World)(base:Nat)(ok:Nat→Prop)(x:S70){v1:Value}(g1:(Kd.int .i64).R 3 w base ok v1 x.f1):k70.M w base ok x [.int .i64 x.f0,v1,.int .i64 x.f2]:=⟨[.int .i64 x.f0],[v1,.int .i64 x.f2],rfl,rfl,⟨[v1],[.int .i64 x.f2],rfl,⟨v1,rfl,g1⟩,rfl⟩⟩
theorem k70_openF {W:World}{ok:Nat→Prop}{x:S70}{cs:List Value}(h:Kd.FK k70 W ok x cs):∃ A1 c1,cs=[.int .i64 x.f0,.slice A1 x.f1.length c1,.int .i64 x.f2]∧x.f1.length≤c1∧Kd.F (Kd.int .i64) W ok A1 x.f1.length x.f1:=by
 obtain ⟨A1,c1,rfl,l1,_⟩:=k70_open (Kd.FK_now h)
 exact ⟨A1,c1,rfl,l1,(fun W' hW=>by obtain ⟨A1_,c1_,he,l1_,g1_⟩:=k70_open (h W' hW);injection (Option.some.inj (show some (Value.slice A1 x.f1.length c1)=some (Value.slice A1_ x.f1.length c1_) from congrArg (fun l=>l[1]?) he)) with ha_ _ _;rw [ha_];exact g1_)⟩
theorem k70_mkF (W:World)(ok:Nat→Prop)(x:S70){A1:Option Addr}{c1:Nat}(l1:x.f1.length≤c1)(g1:Kd.F (Kd.int .i64) W ok A1 x.f1.length x.f1):Kd.FK k70 W ok x [.int .i64 x.f0,.slice A1 x.f1.length c1,.int .i64 x.f2]:=fun W2 hW=>k70_mk W2 x l1 (g1 W2 hW)
def rd_T70 (xs:List S70)(i:Int):S70:=xs.getD i.toNat z70
theorem at_T70 {w:World}{A:Option Addr}{n:Nat}{xs:List S70}(h:Kd.C k70 w A n xs)(i:Int)(h0:0≤i)(h1:i < n):∃ ad A1 c1,A=some ad∧w.cell? (ad.add (i.toNat * 3))=some (.int .i64 (rd_T70 xs i).f0)∧w.cell? ⟨(ad.add (i.toNat * 3)).block,(ad.add (i.toNat * 3)).off + 1,none⟩=some (.slice A1 (rd_T70 xs i).f1.length c1)∧w.cell? ⟨(ad.add (i.toNat * 3)).block,(ad.add (i.toNat * 3)).off + 2,none⟩=some (.int .i64 (rd_T70 xs i).f2)∧(rd_T70 xs i).f1.length≤c1∧(Kd.int .i64).C w A1 (rd_T70 xs i).f1.length (rd_T70 xs i).f1:=by
 obtain ⟨ad,c,e,_,hK,hc0⟩:=Kd.C_get h z70 i h0 h1
 have hc:∀ j u,c[j]?=some u→w.cell? (ad.add (i.toNat * 3 + j))=some u:=hc0
 obtain ⟨A1,c1,rfl,l1,g1⟩:=k70_open hK
 exact ⟨ad,A1,c1,e,hc 0 _ rfl,by rw [← add_field _ _ 1 (by omega)];exact hc 1 _ rfl,by rw [← add_field _ _ 2 (by omega)];exact hc 2 _ rfl,l1,g1⟩

def rd_L7 (xs:List (List S70))(i:Int):(List S70):=xs.getD i.toNat ([]:List S70)
theorem at_L7 {w:World}{A:Option Addr}{n:Nat}{xs:List (List S70)}(h:Kd.C (Kd.slice 70 k70) w A n xs)(i:Int)(h0:0≤i)(h1:i < n):∃ ad A0 c0,A=some ad∧w.cell? (ad.add i.toNat)=some (.slice A0 (rd_L7 xs i).length c0)∧(rd_L7 xs i).length≤c0∧k70.C w A0 (rd_L7 xs i).length (rd_L7 xs i):=by
 obtain ⟨ad,c,e,_,hK,hc0⟩:=Kd.C_get h ([]:List S70) i h0 h1
 have hc:∀ j u,c[j]?=some u→w.cell? (ad.add (i.toNat * 1 + j))=some u:=hc0
 obtain ⟨A0,c0,rfl,l0,g0⟩:=hK
 exact ⟨ad,A0,c0,e,by have hq:=hc 0 _ rfl;rwa [Nat.mul_one,Nat.add_zero] at hq,l0,g0⟩

def rd_L8 (xs:List (List (List Int)))(i:Int):(List (List Int)):=xs.getD i.toNat ([]:List (List Int))
theorem at_L8 {w:World}{A:Option Addr}{n:Nat}{xs:List (List (List Int))}(h:Kd.C (Kd.slice 22 (Kd.slice 3 (Kd.int .i64))) w A n xs)(i:Int)(h0:0≤i)(h1:i < n):∃ ad A0 c0,A=some ad∧w.cell? (ad.add i.toNat)=some (.slice A0 (rd_L8 xs i).length c0)∧(rd_L8 xs i).length≤c0∧(Kd.slice 3 (Kd.int .i64)).C w A0 (rd_L8 xs i).length (rd_L8 xs i):=by
 obtain ⟨ad,c,e,_,hK,hc0⟩:=Kd.C_get h ([]:List (List Int)) i h0 h1
 have hc:∀ j u,c[j]?=some u→w.cell? (ad.add (i.toNat * 1 + j))=some u:=hc0
 obtain ⟨A0,c0,rfl,l0,g0⟩:=hK
 exact ⟨ad,A0,c0,e,by have hq:=hc 0 _ rfl;rwa [Nat.mul_one,Nat.add_zero] at hq,l0,g0⟩
def laws_eqIntS.l0:Nat→List Int→List Int→Int→Option (Bool)
 | 0,_,_,_=>none
 | k + 1,x0,x1,x5=>if x5 < (x0.length:Int) then (if 0≤x5 then (if x5 < (x1.length:Int) then (if (rd x0 x5)=(rd x1 x5) then (laws_eqIntS.l0 k x0 x1 (wrap64 (x5 + 1))) else (some false)) else (none)) else (none)) else (some true)
def laws_eqIntS.f (k:Nat)(l0:List Int)(l1:List Int):Option (Bool):=if (l0.length:Int)=(l1.length:Int) then (laws_eqIntS.l0 k l0 l1 0) else (some false)
theorem laws_eqIntS.calls (k:Nat)(A0:Option Addr)(c0:Nat)(l0:List Int)(A1:Option Addr)(c1:Nat)(l1:List Int)(r:Bool)(w:World)(hr0:Kd.C (Kd.int .i64) w A0 l0.length l0)(hc0:l0.length≤c0)(hr1:Kd.C (Kd.int .i64) w A1 l1.length l1)(hc1:l1.length≤c1)(h:laws_eqIntS.f k l0 l1=some r) :
  Calls Try.prog 13 #[.slice A0 l0.length c0,.slice A1 l1.length c1] w fun e w'=>e= .returned (.bool r)∧Drawn0 w w':=by
 have HR0:=yam hr0
 have HC0:=yam hc0
 clear hr0 hc0
 have HR1:=yam hr1
 have HC1:=yam hc1
 clear hr1 hc1
 unfold laws_eqIntS.f at h
 have H:=h
 clear h
 replace H:=yit H;obtain ⟨c3,H⟩ | ⟨c3,H⟩:=H
 rotate_left
 ·have c3b0:((l0.length:Int) == (l1.length:Int))=false:=beq_eq_false_iff_ne.mpr c3
  have c3b1:((l0.length:Int) != (l1.length:Int))=true:=bne_iff_ne.mpr c3
  have c3b2:(l0.length == l1.length)=false:=by first|simpa using c3|(simp at c3 ⊢;omega)
  obtain rfl:=ysi H
  go_enter Try.func13,Try.ntmps13
  go_wp2
  repeat (go_quiet (fail);try go_wp2)
  go_ret
  exact ⟨yeq,by repeat (first|exact Drawn0.refl _|apply Drawn0.step)⟩
 have c3b0:((l0.length:Int) == (l1.length:Int))=true:=beq_iff_eq.mpr c3
 have c3b1:((l0.length:Int) != (l1.length:Int))=false:=bne_eq_false_iff_eq.mpr c3
 have c3b2:(l0.length == l1.length)=true:=by first|simpa using c3|(simp at c3 ⊢;omega)
 clear c3
 replace H:=yam H
 go_enter Try.func13,Try.ntmps13
 go_wp2
 repeat (go_quiet (fail);try go_wp2)
 go_loopg [5] k (fun kq v5 w'=>∃ (x5_1:Int),v5= .int .i64 x5_1∧Aside0 (laws_eqIntS.l0 kq l0 l1 x5_1=some r)∧Aside0 (kq≤k)∧Drawn0 w w')
 case atStart=>exact ⟨(0),yeq,H,⟨Nat.le_refl _⟩,by repeat (first|exact Drawn0.refl _|apply Drawn0.step)⟩
 case round =>
  clear H
  try clear c1
  try clear c3b0
  try clear c3b1
  try clear c3b2
  obtain ⟨x5_1,rfl,HA,HK1,⟨m1,rfl⟩⟩:=hrel
  rcases gk with _|k1
  ·exact absurd HA.out (by simp [laws_eqIntS.l0])
  obtain ⟨H⟩:=HA
  simp only [laws_eqIntS.l0] at H
  replace H:=yis H;obtain ⟨c4b0,H⟩ | ⟨c4b0,H⟩:=H
  rotate_left
  ·obtain rfl:=ysi H
   go_wp2
   repeat (go_quiet (fail);try go_wp2)
   go_ret
   exact ⟨yeq,by repeat (first|exact Drawn0.refl _|apply Drawn0.step)⟩
  replace H:=yif H;obtain ⟨c5b0,H⟩:=H
  replace H:=yif H;obtain ⟨c6b0,H⟩:=H
  replace H:=yit H;obtain ⟨c7,H⟩ | ⟨c7,H⟩:=H
  rotate_left
  ·have c7b0:((rd l0 x5_1) == (rd l1 x5_1))=false:=beq_eq_false_iff_ne.mpr c7
   have c7b1:((rd l0 x5_1) != (rd l1 x5_1))=true:=bne_iff_ne.mpr c7
   obtain rfl:=ysi H
   obtain ⟨ad201,e201,hx201_0,p201,q201⟩:=yat HR0.out x5_1
   cases e201
   obtain ⟨ad202,e202,hx202_0,p202,q202⟩:=yat HR1.out x5_1
   cases e202
   go_wp2
   repeat (go_quiet (fail);try go_wp2)
   go_ret
   exact ⟨yeq,by repeat (first|exact Drawn0.refl _|apply Drawn0.step)⟩
  have c7b0:((rd l0 x5_1) == (rd l1 x5_1))=true:=beq_iff_eq.mpr c7
  have c7b1:((rd l0 x5_1) != (rd l1 x5_1))=false:=bne_eq_false_iff_eq.mpr c7
  clear c7
  replace H:=yam H
  obtain ⟨ad201,e201,hx201_0,p201,q201⟩:=yat HR0.out x5_1
  cases e201
  obtain ⟨ad202,e202,hx202_0,p202,q202⟩:=yat HR1.out x5_1
  cases e202
  go_wp2
  repeat (go_quiet (fail);try go_wp2)
  go_roundg k1
  case measure=>have:=HK1.out;omega
  case rel=>exact ⟨(wrap64 (x5_1 + 1)),yeq,H,⟨by have:=HK1.out;omega⟩,by repeat (first|exact Drawn0.refl _|apply Drawn0.step)⟩
def laws_eqRule.f (k:Nat)(a0_0:Int)(l0_1:List Int)(a0_2:Int)(a1_0:Int)(l1_1:List Int)(a1_2:Int):Option (Bool):=if a0_0=a1_0 then ((laws_eqIntS.f k l0_1 l1_1).bind fun t510=>(if t510=true then (if a0_2=a1_2 then (some true) else (some false)) else (some false))) else (some false)
theorem laws_eqRule.calls (k:Nat)(a0_0:Int)(A0_1:Option Addr)(c0_1:Nat)(l0_1:List Int)(a0_2:Int)(a1_0:Int)(A1_1:Option Addr)(c1_1:Nat)(l1_1:List Int)(a1_2:Int)(r:Bool)(w:World)(hr0_1:Kd.C (Kd.int .i64) w A0_1 l0_1.length l0_1)(hc0_1:l0_1.length≤c0_1)(hr1_1:Kd.C (Kd.int .i64) w A1_1 l1_1.length l1_1)(hc1_1:l1_1.length≤c1_1)(h:laws_eqRule.f k a0_0 l0_1 a0_2 a1_0 l1_1 a1_2=some r) :
  Calls Try.prog 59 #[.agg #[.int .i64 a0_0,.slice A0_1 l0_1.length c0_1,.int .i64 a0_2],.agg #[.int .i64 a1_0,.slice A1_1 l1_1.length c1_1,.int .i64 a1_2]] w fun e w'=>e= .returned (.bool r)∧Below w.heap.size w w':=by
 have hu73:=Try.underlying73
 have HR0_1:=yam hr0_1
 have HC0_1:=yam hc0_1
 clear hr0_1 hc0_1
 have HR1_1:=yam hr1_1
 have HC1_1:=yam hc1_1
 clear hr1_1 hc1_1
 have HB:=yam (Below.refl w.heap.size w)
 unfold laws_eqRule.f at h
 have H:=h
 clear h
 replace H:=yit H;obtain ⟨c3,H⟩ | ⟨c3,H⟩:=H
 rotate_left
 ·have c3b0:(a0_0 == a1_0)=false:=beq_eq_false_iff_ne.mpr c3
  have c3b1:(a0_0 != a1_0)=true:=bne_iff_ne.mpr c3
  obtain rfl:=ysi H
  go_enter Try.func59,Try.ntmps59
  go_wp2_with (first|(refine ybe 2 #[.int .i64 a0_0,.slice A0_1 l0_1.length c0_1,.int .i64 a0_2] 73 ?_;intro gb508 hg w22 hbox hb;have BK508:=yam (hbox);have GW508:=yam ((by rw [hg];exact (below_size (yez HB.out)):w.heap.size≤gb508));replace HB:=yam (below_step (yez HB.out) hb);have GE508:=GW508;clear hb hbox hg)|(refine ybe 3 #[.int .i64 a1_0,.slice A1_1 l1_1.length c1_1,.int .i64 a1_2] 73 ?_;intro gb509 hg w23 hbox hb;have BK509:=yam (hbox);have GW509:=yam ((by rw [hg];exact (below_size yhb):w.heap.size≤gb509));replace HB:=yam (below_step yhb hb);have GE509:=GW509;have NB508_509:=yam ((by rw [hg];exact Nat.ne_of_lt (blk_lt (g:=gb508) (o:= .cells #[.int .i64 a0_0,.slice A0_1 l0_1.length c0_1,.int .i64 a0_2] 73 (0,0)) (ybz BK508.out)):gb508≠gb509));have NB509_508:=yam ((by rw [hg];exact Nat.ne_of_gt (blk_lt (g:=gb508) (o:= .cells #[.int .i64 a0_0,.slice A0_1 l0_1.length c0_1,.int .i64 a0_2] 73 (0,0)) (ybz BK508.out)):gb509≠gb508));replace BK508:=yam (ybb BK508.out hb);clear hb hbox hg;have hnb24:=NB508_509.out;have hnc24:=NB509_508.out;obtain ⟨hcz25_0,hcz25_1,hcz25_2,hfz25_0,hfz25_1,hfz25_2⟩:=ybc BK508.out;obtain ⟨hcz26_0,hcz26_1,hcz26_2,hfz26_0,hfz26_1,hfz26_2⟩:=ybc BK509.out))
  go_ret
  exact ⟨yer,yhb⟩
 have c3b0:(a0_0 == a1_0)=true:=beq_iff_eq.mpr c3
 have c3b1:(a0_0 != a1_0)=false:=bne_eq_false_iff_eq.mpr c3
 clear c3
 replace H:=ybi H;obtain ⟨t510,A4,H⟩:=H
 try dsimp only at H
 cases t510
 ·replace H:=yff H
  obtain rfl:=ysi H
  go_enter Try.func59,Try.ntmps59
  go_wp2_with (first|(refine ybe 2 #[.int .i64 a0_0,.slice A0_1 l0_1.length c0_1,.int .i64 a0_2] 73 ?_;intro gb508 hg w17 hbox hb;have BK508:=yam (hbox);have GW508:=yam ((by rw [hg];exact (below_size (yez HB.out)):w.heap.size≤gb508));replace HB:=yam (below_step (yez HB.out) hb);have GE508:=GW508;clear hb hbox hg)|(refine ybe 3 #[.int .i64 a1_0,.slice A1_1 l1_1.length c1_1,.int .i64 a1_2] 73 ?_;intro gb509 hg w18 hbox hb;have BK509:=yam (hbox);have GW509:=yam ((by rw [hg];exact (below_size yhb):w.heap.size≤gb509));replace HB:=yam (below_step yhb hb);have GE509:=GW509;have NB508_509:=yam ((by rw [hg];exact Nat.ne_of_lt (blk_lt (g:=gb508) (o:= .cells #[.int .i64 a0_0,.slice A0_1 l0_1.length c0_1,.int .i64 a0_2] 73 (0,0)) (ybz BK508.out)):gb508≠gb509));have NB509_508:=yam ((by rw [hg];exact Nat.ne_of_gt (blk_lt (g:=gb508) (o:= .cells #[.int .i64 a0_0,.slice A0_1 l0_1.length c0_1,.int .i64 a0_2] 73 (0,0)) (ybz BK508.out)):gb509≠gb508));replace BK508:=yam (ybb BK508.out hb);clear hb hbox hg;have hnb19:=NB508_509.out;have hnc19:=NB509_508.out;obtain ⟨hcz20_0,hcz20_1,hcz20_2,hfz20_0,hfz20_1,hfz20_2⟩:=ybc BK508.out;obtain ⟨hcz21_0,hcz21_1,hcz21_2,hfz21_0,hfz21_1,hfz21_2⟩:=ybc BK509.out)|(refine goesL_ (some 14) rfl rfl Try.func13 (by kernel_rfl) rfl #[.slice A0_1 l0_1.length c0_1,.slice A1_1 l1_1.length c1_1] rfl ymd ?_;(with_reducible refine (laws_eqIntS.calls k _ _ l0_1 _ _ l1_1 false _ ?_ ?_ ?_ ?_ A4.out).mono ?_);exact Kd.Cz ((Kd.C_below HR0_1.out HB.out));exact HC0_1.out;exact Kd.Cz ((Kd.C_below HR1_1.out HB.out));exact HC1_1.out;rintro e w' ⟨rfl,⟨nd,rfl⟩⟩;refine ⟨_,rfl,?_⟩))
  go_ret
  exact ⟨yer,yhb⟩
 replace H:=ytt H
 replace H:=yit H;obtain ⟨c6,H⟩ | ⟨c6,H⟩:=H
 rotate_left
 ·have c6b0:(a0_2 == a1_2)=false:=beq_eq_false_iff_ne.mpr c6
  have c6b1:(a0_2 != a1_2)=true:=bne_iff_ne.mpr c6
  obtain rfl:=ysi H
  go_enter Try.func59,Try.ntmps59
  go_wp2_with (first|(refine ybe 2 #[.int .i64 a0_0,.slice A0_1 l0_1.length c0_1,.int .i64 a0_2] 73 ?_;intro gb508 hg w12 hbox hb;have BK508:=yam (hbox);have GW508:=yam ((by rw [hg];exact (below_size (yez HB.out)):w.heap.size≤gb508));replace HB:=yam (below_step (yez HB.out) hb);have GE508:=GW508;clear hb hbox hg)|(refine ybe 3 #[.int .i64 a1_0,.slice A1_1 l1_1.length c1_1,.int .i64 a1_2] 73 ?_;intro gb509 hg w13 hbox hb;have BK509:=yam (hbox);have GW509:=yam ((by rw [hg];exact (below_size yhb):w.heap.size≤gb509));replace HB:=yam (below_step yhb hb);have GE509:=GW509;have NB508_509:=yam ((by rw [hg];exact Nat.ne_of_lt (blk_lt (g:=gb508) (o:= .cells #[.int .i64 a0_0,.slice A0_1 l0_1.length c0_1,.int .i64 a0_2] 73 (0,0)) (ybz BK508.out)):gb508≠gb509));have NB509_508:=yam ((by rw [hg];exact Nat.ne_of_gt (blk_lt (g:=gb508) (o:= .cells #[.int .i64 a0_0,.slice A0_1 l0_1.length c0_1,.int .i64 a0_2] 73 (0,0)) (ybz BK508.out)):gb509≠gb508));replace BK508:=yam (ybb BK508.out hb);clear hb hbox hg;have hnb14:=NB508_509.out;have hnc14:=NB509_508.out;obtain ⟨hcz15_0,hcz15_1,hcz15_2,hfz15_0,hfz15_1,hfz15_2⟩:=ybc BK508.out;obtain ⟨hcz16_0,hcz16_1,hcz16_2,hfz16_0,hfz16_1,hfz16_2⟩:=ybc BK509.out)|(refine goesL_ (some 14) rfl rfl Try.func13 (by kernel_rfl) rfl #[.slice A0_1 l0_1.length c0_1,.slice A1_1 l1_1.length c1_1] rfl ymd ?_;(with_reducible refine (laws_eqIntS.calls k _ _ l0_1 _ _ l1_1 true _ ?_ ?_ ?_ ?_ A4.out).mono ?_);exact Kd.Cz ((Kd.C_below HR0_1.out HB.out));exact HC0_1.out;exact Kd.Cz ((Kd.C_below HR1_1.out HB.out));exact HC1_1.out;rintro e w' ⟨rfl,⟨nd,rfl⟩⟩;refine ⟨_,rfl,?_⟩))
  go_ret
  exact ⟨yer,yhb⟩
 have c6b0:(a0_2 == a1_2)=true:=beq_iff_eq.mpr c6
 have c6b1:(a0_2 != a1_2)=false:=bne_eq_false_iff_eq.mpr c6
 clear c6
 obtain rfl:=ysi H
 go_enter Try.func59,Try.ntmps59
 go_wp2_with (first|(refine ybe 2 #[.int .i64 a0_0,.slice A0_1 l0_1.length c0_1,.int .i64 a0_2] 73 ?_;intro gb508 hg w7 hbox hb;have BK508:=yam (hbox);have GW508:=yam ((by rw [hg];exact (below_size (yez HB.out)):w.heap.size≤gb508));replace HB:=yam (below_step (yez HB.out) hb);have GE508:=GW508;clear hb hbox hg)|(refine ybe 3 #[.int .i64 a1_0,.slice A1_1 l1_1.length c1_1,.int .i64 a1_2] 73 ?_;intro gb509 hg w8 hbox hb;have BK509:=yam (hbox);have GW509:=yam ((by rw [hg];exact (below_size yhb):w.heap.size≤gb509));replace HB:=yam (below_step yhb hb);have GE509:=GW509;have NB508_509:=yam ((by rw [hg];exact Nat.ne_of_lt (blk_lt (g:=gb508) (o:= .cells #[.int .i64 a0_0,.slice A0_1 l0_1.length c0_1,.int .i64 a0_2] 73 (0,0)) (ybz BK508.out)):gb508≠gb509));have NB509_508:=yam ((by rw [hg];exact Nat.ne_of_gt (blk_lt (g:=gb508) (o:= .cells #[.int .i64 a0_0,.slice A0_1 l0_1.length c0_1,.int .i64 a0_2] 73 (0,0)) (ybz BK508.out)):gb509≠gb508));replace BK508:=yam (ybb BK508.out hb);clear hb hbox hg;have hnb9:=NB508_509.out;have hnc9:=NB509_508.out;obtain ⟨hcz10_0,hcz10_1,hcz10_2,hfz10_0,hfz10_1,hfz10_2⟩:=ybc BK508.out;obtain ⟨hcz11_0,hcz11_1,hcz11_2,hfz11_0,hfz11_1,hfz11_2⟩:=ybc BK509.out)|(refine goesL_ (some 14) rfl rfl Try.func13 (by kernel_rfl) rfl #[.slice A0_1 l0_1.length c0_1,.slice A1_1 l1_1.length c1_1] rfl ymd ?_;(with_reducible refine (laws_eqIntS.calls k _ _ l0_1 _ _ l1_1 true _ ?_ ?_ ?_ ?_ A4.out).mono ?_);exact Kd.Cz ((Kd.C_below HR0_1.out HB.out));exact HC0_1.out;exact Kd.Cz ((Kd.C_below HR1_1.out HB.out));exact HC1_1.out;rintro e w' ⟨rfl,⟨nd,rfl⟩⟩;refine ⟨_,rfl,?_⟩))
 go_ret
 exact ⟨yer,yhb⟩
def laws_eqRuleS.l0:Nat→List (S73)→List (S73)→Int→Option (Bool)
 | 0,_,_,_=>none
 | k + 1,x0,x1,x5=>if x5 < (x0.length:Int) then (if 0≤x5 then (if x5 < (x1.length:Int) then ((laws_eqRule.f k ((rd_T73 x0 x5).f0) ((rd_T73 x0 x5).f1) ((rd_T73 x0 x5).f2) ((rd_T73 x1 x5).f0) ((rd_T73 x1 x5).f1) ((rd_T73 x1 x5).f2)).bind fun t513=>(if t513=true then (laws_eqRuleS.l0 k x0 x1 (wrap64 (x5 + 1))) else (some false))) else (none)) else (none)) else (some true)
def laws_eqRuleS.f (k:Nat)(l0:List (S73))(l1:List (S73)):Option (Bool):=if (l0.length:Int)=(l1.length:Int) then (laws_eqRuleS.l0 k l0 l1 0) else (some false)
def laws_eqRuleS.T6:Bool × List (List Nat × List Nat):=(true,[([],[]),([],[]),([0,1],[0,1]),([2],[2]),([],[]),([],[]),([4,5],[4,5]),([6],[6]),([3,7],[3,7]),([8],[8])])
def laws_eqRuleS.B6:List Nat:=[0,0,3,7,0,0,48,112,255,511]
theorem laws_eqRuleS.tab6:rtab .any (opsOf Try.f26 6)=laws_eqRuleS.T6:=by kernel_rfl
theorem laws_eqRuleS.bits6:waitsOk laws_eqRuleS.T6.2 laws_eqRuleS.B6=true:=by kernel_rfl
theorem laws_eqRuleS.calls (k:Nat)(A0:Option Addr)(c0:Nat)(l0:List (S73))(A1:Option Addr)(c1:Nat)(l1:List (S73))(r:Bool)(w:World)(hr0:Kd.C k73 w A0 l0.length l0)(hc0:l0.length≤c0)(hr1:Kd.C k73 w A1 l1.length l1)(hc1:l1.length≤c1)(h:laws_eqRuleS.f k l0 l1=some r) :
  Calls Try.prog 26 #[.slice A0 l0.length c0,.slice A1 l1.length c1] w fun e w'=>e= .returned (.bool r)∧Below w.heap.size w w':=by
 have hu73:=Try.underlying73
 have HR0:=yam hr0
 have HC0:=yam hc0
 clear hr0 hc0
 have HR1:=yam hr1
 have HC1:=yam hc1
 clear hr1 hc1
 have HB:=yam (Below.refl w.heap.size w)
 unfold laws_eqRuleS.f at h
 have H:=h
 clear h
 replace H:=yit H;obtain ⟨c3,H⟩ | ⟨c3,H⟩:=H
 rotate_left
 ·have c3b0:((l0.length:Int) == (l1.length:Int))=false:=beq_eq_false_iff_ne.mpr c3
  have c3b1:((l0.length:Int) != (l1.length:Int))=true:=bne_iff_ne.mpr c3
  have c3b2:(l0.length == l1.length)=false:=by first|simpa using c3|(simp at c3 ⊢;omega)
  obtain rfl:=ysi H
  go_enter Try.func26,Try.ntmps26
  go_wp2
  go_ret
  exact ⟨yer,yhb⟩
 have c3b0:((l0.length:Int) == (l1.length:Int))=true:=beq_iff_eq.mpr c3
 have c3b1:((l0.length:Int) != (l1.length:Int))=false:=bne_eq_false_iff_eq.mpr c3
 have c3b2:(l0.length == l1.length)=true:=by first|simpa using c3|(simp at c3 ⊢;omega)
 clear c3
 replace H:=yam H
 go_enter Try.func26,Try.ntmps26
 go_wp2
 go_loopg [5] k (fun kq v5 w'=>∃ (x5_1:Int),v5= .int .i64 x5_1∧Aside0 (laws_eqRuleS.l0 kq l0 l1 x5_1=some r)∧Aside0 (kq≤k)∧Aside0 (Below w.heap.size w w'))
 case atStart=>exact ⟨(0),yeq,H,⟨Nat.le_refl _⟩,⟨yhb⟩⟩
 case round =>
  clear H
  try clear c1
  try clear c3b0
  try clear c3b1
  try clear c3b2
  obtain ⟨x5_1,rfl,HA,HK1,HB⟩:=hrel
  rcases gk with _|k1
  ·exact absurd HA.out (by simp [laws_eqRuleS.l0])
  obtain ⟨H⟩:=HA
  simp only [laws_eqRuleS.l0] at H
  replace H:=yis H;obtain ⟨c4b0,H⟩ | ⟨c4b0,H⟩:=H
  rotate_left
  ·obtain rfl:=ysi H
   go_wp2
   go_ret
   exact ⟨yer,yhb⟩
  replace H:=yif H;obtain ⟨c5b0,H⟩:=H
  replace H:=yif H;obtain ⟨c6b0,H⟩:=H
  replace H:=ybi H;obtain ⟨t513,A7,H⟩:=H
  try dsimp only at H
  cases t513
  ·replace H:=yff H
   obtain rfl:=ysi H
   try go_wp2
   replace HB:=yam (yed HB.out)
   have p511:0≤(x5_1:Int):=ydt
   have q511:x5_1 < (l0.length:Int):=ydt
   obtain ⟨ad511,A511_1,c511_1,e511,hx511_0,hx511_1,hx511_2,hl511_1,hi511_1⟩:=at_T73 HR0.out x5_1 p511 q511
   have hw511_2:=hx511_2
   have hw511_1:=hx511_1
   have hw511_0:=hx511_0
   cases e511
   replace hx511_0:=ybx HB.out hx511_0
   replace hx511_1:=ybx HB.out hx511_1
   replace hx511_2:=ybx HB.out hx511_2
   have HR511_1:=yam hi511_1
   have HC511_1:=yam hl511_1
   clear hi511_1 hl511_1
   replace p511:=eq_true p511
   replace q511:=eq_true q511
   have p512:0≤(x5_1:Int):=ydt
   have q512:x5_1 < (l1.length:Int):=ydt
   obtain ⟨ad512,A512_1,c512_1,e512,hx512_0,hx512_1,hx512_2,hl512_1,hi512_1⟩:=at_T73 HR1.out x5_1 p512 q512
   have hw512_2:=hx512_2
   have hw512_1:=hx512_1
   have hw512_0:=hx512_0
   cases e512
   replace hx512_0:=ybx HB.out hx512_0
   replace hx512_1:=ybx HB.out hx512_1
   replace hx512_2:=ybx HB.out hx512_2
   have HR512_1:=yam hi512_1
   have HC512_1:=yam hl512_1
   clear hi512_1 hl512_1
   replace p512:=eq_true p512
   replace q512:=eq_true q512
   refine start_ (n:=10) (S:=fun w'=>w'.cell? (ad511.add ((x5_1).toNat * 3))=some (.int .i64 ((rd_T73 l0 x5_1).f0))∧w'.cell? ⟨(ad511.add ((x5_1).toNat * 3)).block,(ad511.add ((x5_1).toNat * 3)).off + 1,none⟩=some (.slice A511_1 ((rd_T73 l0 x5_1).f1).length c511_1)∧w'.cell? ⟨(ad511.add ((x5_1).toNat * 3)).block,(ad511.add ((x5_1).toNat * 3)).off + 2,none⟩=some (.int .i64 ((rd_T73 l0 x5_1).f2))∧w'.cell? (ad512.add ((x5_1).toNat * 3))=some (.int .i64 ((rd_T73 l1 x5_1).f0))∧w'.cell? ⟨(ad512.add ((x5_1).toNat * 3)).block,(ad512.add ((x5_1).toNat * 3)).off + 1,none⟩=some (.slice A512_1 ((rd_T73 l1 x5_1).f1).length c512_1)∧w'.cell? ⟨(ad512.add ((x5_1).toNat * 3)).block,(ad512.add ((x5_1).toNat * 3)).off + 2,none⟩=some (.int .i64 ((rd_T73 l1 x5_1).f2))) (ds:=[]) (yvb 10 0) (by kernel_rfl) rfl rfl ⟨((HB.out.cell (World.block_lt_of_cell? w _ hw511_0)).trans hw511_0),((HB.out.cell (World.block_lt_of_cell? w _ hw511_1)).trans hw511_1),((HB.out.cell (World.block_lt_of_cell? w _ hw511_2)).trans hw511_2),((HB.out.cell (World.block_lt_of_cell? w _ hw512_0)).trans hw512_0),((HB.out.cell (World.block_lt_of_cell? w _ hw512_1)).trans hw512_1),((HB.out.cell (World.block_lt_of_cell? w _ hw512_2)).trans hw512_2)⟩ (fun hHeld=>?_);refine with_tabW laws_eqRuleS.tab6 laws_eqRuleS.bits6 (fun HT_ HW_=>?_)
   generalize wr.drew=w11 at HB HR511_1 HR512_1 hx511_0 hx511_1 hx511_2 hx512_0 hx512_1 hx512_2 hHeld ⊢
   refine yvp 0 17 (yvb 10 1) HT_.out ?_
   refine yvp 1 18 (yvb 10 3) HT_.out ?_
   refine yvp 2 19 (yvb 10 7) HT_.out ?_
   refine yvp 4 21 (yvb 10 23) HT_.out ?_
   refine yvp 5 22 (yvb 10 55) HT_.out ?_
   refine yvp 6 23 (yvb 10 119) HT_.out ?_
   refine yvt 3 20 (yvb 10 127) HT_.out HW_.out hHeld ?_
   refine yvt 7 24 (yvb 10 255) HT_.out HW_.out hHeld ?_
   refine one_ (i:=8) (N:=some 25) (yvb 10 511) rfl rfl (one_of HT_.out (by kernel_rfl)) (by decide) (fun K hK=>?_)
   refine goes_ Try.func59 (by kernel_rfl) rfl #[.agg #[.int .i64 ((rd_T73 l0 x5_1).f0),.slice A511_1 ((rd_T73 l0 x5_1).f1).length c511_1,.int .i64 ((rd_T73 l0 x5_1).f2)],.agg #[.int .i64 ((rd_T73 l1 x5_1).f0),.slice A512_1 ((rd_T73 l1 x5_1).f1).length c512_1,.int .i64 ((rd_T73 l1 x5_1).f2)]] (by rfl) rfl rfl ymd ?_
   with_reducible refine (laws_eqRule.calls k1 ((rd_T73 l0 x5_1).f0) _ _ ((rd_T73 l0 x5_1).f1) ((rd_T73 l0 x5_1).f2) ((rd_T73 l1 x5_1).f0) _ _ ((rd_T73 l1 x5_1).f1) ((rd_T73 l1 x5_1).f2) false _ ?_ ?_ ?_ ?_ A7.out).mono ?_
   exact Kd.Cz ((Kd.C_below HR511_1.out HB.out))
   exact HC511_1.out
   exact Kd.Cz ((Kd.C_below HR512_1.out HB.out))
   exact HC512_1.out
   rintro e w12 ⟨rfl,hb⟩
   refine ⟨_,rfl,?_⟩
   replace HB:=yam (below_step (yez HB.out) hb)
   (try clear hb)
   (try clear hb2)
   (try clear hk)
   (try clear hi)
   refine hK.out _ _ ⟨((HB.out.cell (World.block_lt_of_cell? w _ hw511_0)).trans hw511_0),((HB.out.cell (World.block_lt_of_cell? w _ hw511_1)).trans hw511_1),((HB.out.cell (World.block_lt_of_cell? w _ hw511_2)).trans hw511_2),((HB.out.cell (World.block_lt_of_cell? w _ hw512_0)).trans hw512_0),((HB.out.cell (World.block_lt_of_cell? w _ hw512_1)).trans hw512_1),((HB.out.cell (World.block_lt_of_cell? w _ hw512_2)).trans hw512_2)⟩ (fun hHeld=>?_)
   clear hK K
   refine norm_ (a':=?_) ?_ ?_
   rotate_left
   ·show Act.put _ (some 25) _=_
    simp only [Act.put,yps,i64_w,i32_w]
    rfl
   refine yvp 9 26 (yvb 10 1023) HT_.out ?_
   refine done_ (done_of HT_.out (by kernel_rfl)) ?_
   try go_wp2
   go_ret
   exact ⟨yer,yhb⟩
  replace H:=ytt H
  replace H:=yam H
  try go_wp2
  replace HB:=yam (yed HB.out)
  have p511:0≤(x5_1:Int):=ydt
  have q511:x5_1 < (l0.length:Int):=ydt
  obtain ⟨ad511,A511_1,c511_1,e511,hx511_0,hx511_1,hx511_2,hl511_1,hi511_1⟩:=at_T73 HR0.out x5_1 p511 q511
  have hw511_2:=hx511_2
  have hw511_1:=hx511_1
  have hw511_0:=hx511_0
  cases e511
  replace hx511_0:=ybx HB.out hx511_0
  replace hx511_1:=ybx HB.out hx511_1
  replace hx511_2:=ybx HB.out hx511_2
  have HR511_1:=yam hi511_1
  have HC511_1:=yam hl511_1
  clear hi511_1 hl511_1
  replace p511:=eq_true p511
  replace q511:=eq_true q511
  have p512:0≤(x5_1:Int):=ydt
  have q512:x5_1 < (l1.length:Int):=ydt
  obtain ⟨ad512,A512_1,c512_1,e512,hx512_0,hx512_1,hx512_2,hl512_1,hi512_1⟩:=at_T73 HR1.out x5_1 p512 q512
  have hw512_2:=hx512_2
  have hw512_1:=hx512_1
  have hw512_0:=hx512_0
  cases e512
  replace hx512_0:=ybx HB.out hx512_0
  replace hx512_1:=ybx HB.out hx512_1
  replace hx512_2:=ybx HB.out hx512_2
  have HR512_1:=yam hi512_1
  have HC512_1:=yam hl512_1
  clear hi512_1 hl512_1
  replace p512:=eq_true p512
  replace q512:=eq_true q512
  refine start_ (n:=10) (S:=fun w'=>w'.cell? (ad511.add ((x5_1).toNat * 3))=some (.int .i64 ((rd_T73 l0 x5_1).f0))∧w'.cell? ⟨(ad511.add ((x5_1).toNat * 3)).block,(ad511.add ((x5_1).toNat * 3)).off + 1,none⟩=some (.slice A511_1 ((rd_T73 l0 x5_1).f1).length c511_1)∧w'.cell? ⟨(ad511.add ((x5_1).toNat * 3)).block,(ad511.add ((x5_1).toNat * 3)).off + 2,none⟩=some (.int .i64 ((rd_T73 l0 x5_1).f2))∧w'.cell? (ad512.add ((x5_1).toNat * 3))=some (.int .i64 ((rd_T73 l1 x5_1).f0))∧w'.cell? ⟨(ad512.add ((x5_1).toNat * 3)).block,(ad512.add ((x5_1).toNat * 3)).off + 1,none⟩=some (.slice A512_1 ((rd_T73 l1 x5_1).f1).length c512_1)∧w'.cell? ⟨(ad512.add ((x5_1).toNat * 3)).block,(ad512.add ((x5_1).toNat * 3)).off + 2,none⟩=some (.int .i64 ((rd_T73 l1 x5_1).f2))) (ds:=[]) (yvb 10 0) (by kernel_rfl) rfl rfl ⟨((HB.out.cell (World.block_lt_of_cell? w _ hw511_0)).trans hw511_0),((HB.out.cell (World.block_lt_of_cell? w _ hw511_1)).trans hw511_1),((HB.out.cell (World.block_lt_of_cell? w _ hw511_2)).trans hw511_2),((HB.out.cell (World.block_lt_of_cell? w _ hw512_0)).trans hw512_0),((HB.out.cell (World.block_lt_of_cell? w _ hw512_1)).trans hw512_1),((HB.out.cell (World.block_lt_of_cell? w _ hw512_2)).trans hw512_2)⟩ (fun hHeld=>?_);refine with_tabW laws_eqRuleS.tab6 laws_eqRuleS.bits6 (fun HT_ HW_=>?_)
  generalize wr.drew=w9 at HB HR511_1 HR512_1 hx511_0 hx511_1 hx511_2 hx512_0 hx512_1 hx512_2 hHeld ⊢
  refine yvp 0 17 (yvb 10 1) HT_.out ?_
  refine yvp 1 18 (yvb 10 3) HT_.out ?_
  refine yvp 2 19 (yvb 10 7) HT_.out ?_
  refine yvp 4 21 (yvb 10 23) HT_.out ?_
  refine yvp 5 22 (yvb 10 55) HT_.out ?_
  refine yvp 6 23 (yvb 10 119) HT_.out ?_
  refine yvt 3 20 (yvb 10 127) HT_.out HW_.out hHeld ?_
  refine yvt 7 24 (yvb 10 255) HT_.out HW_.out hHeld ?_
  refine one_ (i:=8) (N:=some 25) (yvb 10 511) rfl rfl (one_of HT_.out (by kernel_rfl)) (by decide) (fun K hK=>?_)
  refine goes_ Try.func59 (by kernel_rfl) rfl #[.agg #[.int .i64 ((rd_T73 l0 x5_1).f0),.slice A511_1 ((rd_T73 l0 x5_1).f1).length c511_1,.int .i64 ((rd_T73 l0 x5_1).f2)],.agg #[.int .i64 ((rd_T73 l1 x5_1).f0),.slice A512_1 ((rd_T73 l1 x5_1).f1).length c512_1,.int .i64 ((rd_T73 l1 x5_1).f2)]] (by rfl) rfl rfl ymd ?_
  with_reducible refine (laws_eqRule.calls k1 ((rd_T73 l0 x5_1).f0) _ _ ((rd_T73 l0 x5_1).f1) ((rd_T73 l0 x5_1).f2) ((rd_T73 l1 x5_1).f0) _ _ ((rd_T73 l1 x5_1).f1) ((rd_T73 l1 x5_1).f2) true _ ?_ ?_ ?_ ?_ A7.out).mono ?_
  exact Kd.Cz ((Kd.C_below HR511_1.out HB.out))
  exact HC511_1.out
  exact Kd.Cz ((Kd.C_below HR512_1.out HB.out))
  exact HC512_1.out
  rintro e w10 ⟨rfl,hb⟩
  refine ⟨_,rfl,?_⟩
  replace HB:=yam (below_step (yez HB.out) hb)
  (try clear hb)
  (try clear hb2)
  (try clear hk)
  (try clear hi)
  refine hK.out _ _ ⟨((HB.out.cell (World.block_lt_of_cell? w _ hw511_0)).trans hw511_0),((HB.out.cell (World.block_lt_of_cell? w _ hw511_1)).trans hw511_1),((HB.out.cell (World.block_lt_of_cell? w _ hw511_2)).trans hw511_2),((HB.out.cell (World.block_lt_of_cell? w _ hw512_0)).trans hw512_0),((HB.out.cell (World.block_lt_of_cell? w _ hw512_1)).trans hw512_1),((HB.out.cell (World.block_lt_of_cell? w _ hw512_2)).trans hw512_2)⟩ (fun hHeld=>?_)
  clear hK K
  refine norm_ (a':=?_) ?_ ?_
  rotate_left
  ·show Act.put _ (some 25) _=_
   simp only [Act.put,yps,i64_w,i32_w]
   rfl
  refine yvp 9 26 (yvb 10 1023) HT_.out ?_
  refine done_ (done_of HT_.out (by kernel_rfl)) ?_
  try go_wp2
  go_roundg k1
  case measure=>have:=HK1.out;omega
  case rel=>exact ⟨(wrap64 (x5_1 + 1)),yeq,H,⟨by have:=HK1.out;omega⟩,⟨yhb⟩⟩
def laws_eqPuzzle.f (k:Nat)(a0_0:Int)(l0_1:List Int)(l0_2:List (S73))(a1_0:Int)(l1_1:List Int)(l1_2:List (S73)):Option (Bool):=if a0_0=a1_0 then ((laws_eqIntS.f k l0_1 l1_1).bind fun t516=>(if t516=true then ((laws_eqRuleS.f k l0_2 l1_2).bind fun t517=>(if t517=true then (some true) else (some false))) else (some false))) else (some false)
theorem laws_eqPuzzle.calls (k:Nat)(a0_0:Int)(A0_1:Option Addr)(c0_1:Nat)(l0_1:List Int)(A0_2:Option Addr)(c0_2:Nat)(l0_2:List (S73))(a1_0:Int)(A1_1:Option Addr)(c1_1:Nat)(l1_1:List Int)(A1_2:Option Addr)(c1_2:Nat)(l1_2:List (S73))(r:Bool)(w:World)(hr0_1:Kd.C (Kd.int .i64) w A0_1 l0_1.length l0_1)(hc0_1:l0_1.length≤c0_1)(hr0_2:Kd.C k73 w A0_2 l0_2.length l0_2)(hc0_2:l0_2.length≤c0_2)(hr1_1:Kd.C (Kd.int .i64) w A1_1 l1_1.length l1_1)(hc1_1:l1_1.length≤c1_1)(hr1_2:Kd.C k73 w A1_2 l1_2.length l1_2)(hc1_2:l1_2.length≤c1_2)(h:laws_eqPuzzle.f k a0_0 l0_1 l0_2 a1_0 l1_1 l1_2=some r) :
  Calls Try.prog 25 #[.agg #[.int .i64 a0_0,.slice A0_1 l0_1.length c0_1,.slice A0_2 l0_2.length c0_2],.agg #[.int .i64 a1_0,.slice A1_1 l1_1.length c1_1,.slice A1_2 l1_2.length c1_2]] w fun e w'=>e= .returned (.bool r)∧Below w.heap.size w w':=by
 have hu37:=Try.underlying37
 have HR0_1:=yam hr0_1
 have HC0_1:=yam hc0_1
 clear hr0_1 hc0_1
 have HR0_2:=yam hr0_2
 have HC0_2:=yam hc0_2
 clear hr0_2 hc0_2
 have HR1_1:=yam hr1_1
 have HC1_1:=yam hc1_1
 clear hr1_1 hc1_1
 have HR1_2:=yam hr1_2
 have HC1_2:=yam hc1_2
 clear hr1_2 hc1_2
 have HB:=yam (Below.refl w.heap.size w)
 unfold laws_eqPuzzle.f at h
 have H:=h
 clear h
 replace H:=yit H;obtain ⟨c3,H⟩ | ⟨c3,H⟩:=H
 rotate_left
 ·have c3b0:(a0_0 == a1_0)=false:=beq_eq_false_iff_ne.mpr c3
  have c3b1:(a0_0 != a1_0)=true:=bne_iff_ne.mpr c3
  obtain rfl:=ysi H
  go_enter Try.func25,Try.ntmps25
  go_wp2_with (first|(refine ybe 2 #[.int .i64 a0_0,.slice A0_1 l0_1.length c0_1,.slice A0_2 l0_2.length c0_2] 37 ?_;intro gb514 hg w25 hbox hb;have BK514:=yam (hbox);have GW514:=yam ((by rw [hg];exact (below_size (yez HB.out)):w.heap.size≤gb514));replace HB:=yam (below_step (yez HB.out) hb);have GE514:=GW514;clear hb hbox hg)|(refine ybe 3 #[.int .i64 a1_0,.slice A1_1 l1_1.length c1_1,.slice A1_2 l1_2.length c1_2] 37 ?_;intro gb515 hg w26 hbox hb;have BK515:=yam (hbox);have GW515:=yam ((by rw [hg];exact (below_size yhb):w.heap.size≤gb515));replace HB:=yam (below_step yhb hb);have GE515:=GW515;have NB514_515:=yam ((by rw [hg];exact Nat.ne_of_lt (blk_lt (g:=gb514) (o:= .cells #[.int .i64 a0_0,.slice A0_1 l0_1.length c0_1,.slice A0_2 l0_2.length c0_2] 37 (0,0)) (ybz BK514.out)):gb514≠gb515));have NB515_514:=yam ((by rw [hg];exact Nat.ne_of_gt (blk_lt (g:=gb514) (o:= .cells #[.int .i64 a0_0,.slice A0_1 l0_1.length c0_1,.slice A0_2 l0_2.length c0_2] 37 (0,0)) (ybz BK514.out)):gb515≠gb514));replace BK514:=yam (ybb BK514.out hb);clear hb hbox hg;have hnb27:=NB514_515.out;have hnc27:=NB515_514.out;obtain ⟨hcz28_0,hcz28_1,hcz28_2,hfz28_0,hfz28_1,hfz28_2⟩:=ybc BK514.out;obtain ⟨hcz29_0,hcz29_1,hcz29_2,hfz29_0,hfz29_1,hfz29_2⟩:=ybc BK515.out))
  go_ret
  exact ⟨yer,yhb⟩
 have c3b0:(a0_0 == a1_0)=true:=beq_iff_eq.mpr c3
 have c3b1:(a0_0 != a1_0)=false:=bne_eq_false_iff_eq.mpr c3
 clear c3
 replace H:=ybi H;obtain ⟨t516,A4,H⟩:=H
 try dsimp only at H
 cases t516
 ·replace H:=yff H
  obtain rfl:=ysi H
  go_enter Try.func25,Try.ntmps25
  go_wp2_with (first|(refine ybe 2 #[.int .i64 a0_0,.slice A0_1 l0_1.length c0_1,.slice A0_2 l0_2.length c0_2] 37 ?_;intro gb514 hg w20 hbox hb;have BK514:=yam (hbox);have GW514:=yam ((by rw [hg];exact (below_size (yez HB.out)):w.heap.size≤gb514));replace HB:=yam (below_step (yez HB.out) hb);have GE514:=GW514;clear hb hbox hg)|(refine ybe 3 #[.int .i64 a1_0,.slice A1_1 l1_1.length c1_1,.slice A1_2 l1_2.length c1_2] 37 ?_;intro gb515 hg w21 hbox hb;have BK515:=yam (hbox);have GW515:=yam ((by rw [hg];exact (below_size yhb):w.heap.size≤gb515));replace HB:=yam (below_step yhb hb);have GE515:=GW515;have NB514_515:=yam ((by rw [hg];exact Nat.ne_of_lt (blk_lt (g:=gb514) (o:= .cells #[.int .i64 a0_0,.slice A0_1 l0_1.length c0_1,.slice A0_2 l0_2.length c0_2] 37 (0,0)) (ybz BK514.out)):gb514≠gb515));have NB515_514:=yam ((by rw [hg];exact Nat.ne_of_gt (blk_lt (g:=gb514) (o:= .cells #[.int .i64 a0_0,.slice A0_1 l0_1.length c0_1,.slice A0_2 l0_2.length c0_2] 37 (0,0)) (ybz BK514.out)):gb515≠gb514));replace BK514:=yam (ybb BK514.out hb);clear hb hbox hg;have hnb22:=NB514_515.out;have hnc22:=NB515_514.out;obtain ⟨hcz23_0,hcz23_1,hcz23_2,hfz23_0,hfz23_1,hfz23_2⟩:=ybc BK514.out;obtain ⟨hcz24_0,hcz24_1,hcz24_2,hfz24_0,hfz24_1,hfz24_2⟩:=ybc BK515.out)|(refine goesL_ (some 14) rfl rfl Try.func13 (by kernel_rfl) rfl #[.slice A0_1 l0_1.length c0_1,.slice A1_1 l1_1.length c1_1] rfl ymd ?_;(with_reducible refine (laws_eqIntS.calls k _ _ l0_1 _ _ l1_1 false _ ?_ ?_ ?_ ?_ A4.out).mono ?_);exact Kd.Cz ((Kd.C_below HR0_1.out HB.out));exact HC0_1.out;exact Kd.Cz ((Kd.C_below HR1_1.out HB.out));exact HC1_1.out;rintro e w' ⟨rfl,⟨nd,rfl⟩⟩;refine ⟨_,rfl,?_⟩))
  go_ret
  exact ⟨yer,yhb⟩
 replace H:=ytt H
 replace H:=ybi H;obtain ⟨t517,A6,H⟩:=H
 try dsimp only at H
 cases t517
 rotate_left
 ·replace H:=ytt H
  obtain rfl:=ysi H
  go_enter Try.func25,Try.ntmps25
  go_wp2_with (first|(refine ybe 2 #[.int .i64 a0_0,.slice A0_1 l0_1.length c0_1,.slice A0_2 l0_2.length c0_2] 37 ?_;intro gb514 hg w8 hbox hb;have BK514:=yam (hbox);have GW514:=yam ((by rw [hg];exact (below_size (yez HB.out)):w.heap.size≤gb514));replace HB:=yam (below_step (yez HB.out) hb);have GE514:=GW514;clear hb hbox hg)|(refine ybe 3 #[.int .i64 a1_0,.slice A1_1 l1_1.length c1_1,.slice A1_2 l1_2.length c1_2] 37 ?_;intro gb515 hg w9 hbox hb;have BK515:=yam (hbox);have GW515:=yam ((by rw [hg];exact (below_size yhb):w.heap.size≤gb515));replace HB:=yam (below_step yhb hb);have GE515:=GW515;have NB514_515:=yam ((by rw [hg];exact Nat.ne_of_lt (blk_lt (g:=gb514) (o:= .cells #[.int .i64 a0_0,.slice A0_1 l0_1.length c0_1,.slice A0_2 l0_2.length c0_2] 37 (0,0)) (ybz BK514.out)):gb514≠gb515));have NB515_514:=yam ((by rw [hg];exact Nat.ne_of_gt (blk_lt (g:=gb514) (o:= .cells #[.int .i64 a0_0,.slice A0_1 l0_1.length c0_1,.slice A0_2 l0_2.length c0_2] 37 (0,0)) (ybz BK514.out)):gb515≠gb514));replace BK514:=yam (ybb BK514.out hb);clear hb hbox hg;have hnb10:=NB514_515.out;have hnc10:=NB515_514.out;obtain ⟨hcz11_0,hcz11_1,hcz11_2,hfz11_0,hfz11_1,hfz11_2⟩:=ybc BK514.out;obtain ⟨hcz12_0,hcz12_1,hcz12_2,hfz12_0,hfz12_1,hfz12_2⟩:=ybc BK515.out)|(refine goesL_ (some 14) rfl rfl Try.func13 (by kernel_rfl) rfl #[.slice A0_1 l0_1.length c0_1,.slice A1_1 l1_1.length c1_1] rfl ymd ?_;(with_reducible refine (laws_eqIntS.calls k _ _ l0_1 _ _ l1_1 true _ ?_ ?_ ?_ ?_ A4.out).mono ?_);exact Kd.Cz ((Kd.C_below HR0_1.out HB.out));exact HC0_1.out;exact Kd.Cz ((Kd.C_below HR1_1.out HB.out));exact HC1_1.out;rintro e w' ⟨rfl,⟨nd,rfl⟩⟩;refine ⟨_,rfl,?_⟩)|(refine goesL_ (some 20) rfl rfl Try.func26 (by kernel_rfl) rfl #[.slice A0_2 l0_2.length c0_2,.slice A1_2 l1_2.length c1_2] rfl ymd ?_;(with_reducible refine (laws_eqRuleS.calls k _ _ l0_2 _ _ l1_2 true _ ?side1 ?side2 ?side3 ?side4 A6.out).mono ?_);(case side1=>repeat (first|exact (Kd.C_below HR0_2.out yhb)|(with_reducible refine Kd.C_alloc ?_ _)|(with_reducible refine Kd.C_drewN ?_ _)|(with_reducible refine Kd.C_drew ?_)));(case side2=>exact HC0_2.out);(case side3=>repeat (first|exact (Kd.C_below HR1_2.out yhb)|(with_reducible refine Kd.C_alloc ?_ _)|(with_reducible refine Kd.C_drewN ?_ _)|(with_reducible refine Kd.C_drew ?_)));(case side4=>exact HC1_2.out);rintro e w13 ⟨rfl,hb⟩;refine ⟨_,rfl,?_⟩;replace BK514:=yam (ybb BK514.out hb);replace BK515:=yam (ybb BK515.out hb);replace HB:=yam (below_step yhb hb);(try clear hb)))
  go_ret
  exact ⟨yer,yhb⟩
 replace H:=yff H
 obtain rfl:=ysi H
 go_enter Try.func25,Try.ntmps25
 go_wp2_with (first|(refine ybe 2 #[.int .i64 a0_0,.slice A0_1 l0_1.length c0_1,.slice A0_2 l0_2.length c0_2] 37 ?_;intro gb514 hg w14 hbox hb;have BK514:=yam (hbox);have GW514:=yam ((by rw [hg];exact (below_size (yez HB.out)):w.heap.size≤gb514));replace HB:=yam (below_step (yez HB.out) hb);have GE514:=GW514;clear hb hbox hg)|(refine ybe 3 #[.int .i64 a1_0,.slice A1_1 l1_1.length c1_1,.slice A1_2 l1_2.length c1_2] 37 ?_;intro gb515 hg w15 hbox hb;have BK515:=yam (hbox);have GW515:=yam ((by rw [hg];exact (below_size yhb):w.heap.size≤gb515));replace HB:=yam (below_step yhb hb);have GE515:=GW515;have NB514_515:=yam ((by rw [hg];exact Nat.ne_of_lt (blk_lt (g:=gb514) (o:= .cells #[.int .i64 a0_0,.slice A0_1 l0_1.length c0_1,.slice A0_2 l0_2.length c0_2] 37 (0,0)) (ybz BK514.out)):gb514≠gb515));have NB515_514:=yam ((by rw [hg];exact Nat.ne_of_gt (blk_lt (g:=gb514) (o:= .cells #[.int .i64 a0_0,.slice A0_1 l0_1.length c0_1,.slice A0_2 l0_2.length c0_2] 37 (0,0)) (ybz BK514.out)):gb515≠gb514));replace BK514:=yam (ybb BK514.out hb);clear hb hbox hg;have hnb16:=NB514_515.out;have hnc16:=NB515_514.out;obtain ⟨hcz17_0,hcz17_1,hcz17_2,hfz17_0,hfz17_1,hfz17_2⟩:=ybc BK514.out;obtain ⟨hcz18_0,hcz18_1,hcz18_2,hfz18_0,hfz18_1,hfz18_2⟩:=ybc BK515.out)|(refine goesL_ (some 14) rfl rfl Try.func13 (by kernel_rfl) rfl #[.slice A0_1 l0_1.length c0_1,.slice A1_1 l1_1.length c1_1] rfl ymd ?_;(with_reducible refine (laws_eqIntS.calls k _ _ l0_1 _ _ l1_1 true _ ?_ ?_ ?_ ?_ A4.out).mono ?_);exact Kd.Cz ((Kd.C_below HR0_1.out HB.out));exact HC0_1.out;exact Kd.Cz ((Kd.C_below HR1_1.out HB.out));exact HC1_1.out;rintro e w' ⟨rfl,⟨nd,rfl⟩⟩;refine ⟨_,rfl,?_⟩)|(refine goesL_ (some 20) rfl rfl Try.func26 (by kernel_rfl) rfl #[.slice A0_2 l0_2.length c0_2,.slice A1_2 l1_2.length c1_2] rfl ymd ?_;(with_reducible refine (laws_eqRuleS.calls k _ _ l0_2 _ _ l1_2 false _ ?side1 ?side2 ?side3 ?side4 A6.out).mono ?_);(case side1=>repeat (first|exact (Kd.C_below HR0_2.out yhb)|(with_reducible refine Kd.C_alloc ?_ _)|(with_reducible refine Kd.C_drewN ?_ _)|(with_reducible refine Kd.C_drew ?_)));(case side2=>exact HC0_2.out);(case side3=>repeat (first|exact (Kd.C_below HR1_2.out yhb)|(with_reducible refine Kd.C_alloc ?_ _)|(with_reducible refine Kd.C_drewN ?_ _)|(with_reducible refine Kd.C_drew ?_)));(case side4=>exact HC1_2.out);rintro e w19 ⟨rfl,hb⟩;refine ⟨_,rfl,?_⟩;replace BK514:=yam (ybb BK514.out hb);replace BK515:=yam (ybb BK515.out hb);replace HB:=yam (below_step yhb hb);(try clear hb)))
 go_ret
 exact ⟨yer,yhb⟩
def laws_markIntS.l0:Nat→List Int→Int→Int→Option (Int × List Int)
 | 0,_,_,_=>none
 | k + 1,x0,x1,x5=>if x5 < (x0.length:Int) then (if 0≤x5 then (laws_markIntS.l0 k (x0.set (x5:Int).toNat x1) (wrap64 (x1 + 1)) (wrap64 (x5 + 1))) else (none)) else (some (x1,x0))
def laws_markIntS.f (k:Nat)(l0:List Int)(a1:Int):Option (Int × List Int):=laws_markIntS.l0 k l0 a1 0
theorem laws_markIntS.calls (k:Nat)(P0_:Nat→Prop)(u9000_:Value)(l0:List Int)(a1:Int)(r1:Int)(r2:List Int)(w0 w:World)(hB:Below w0.heap.size w0 w)(ho0:Kd.R (Kd.int .i64) 3 w w0.heap.size P0_ u9000_ l0)(h:laws_markIntS.f k l0 a1=some (r1,r2)) :
  Calls Try.prog 14 #[u9000_,.int .i64 a1] w fun e w'=>e= .returned (.int .i64 r1)∧Kd.R (Kd.int .i64) 3 w' w0.heap.size (fun k_=>(P0_ k_∨w.heap.size≤k_)) u9000_ r2∧Below w0.heap.size w0 w'∧Kept w w' (fun k_=>P0_ k_):=by
 have HO0:=yam (show Kd.R (Kd.int .i64) 3 w w0.heap.size (fun k_=>(P0_ k_∨w.heap.size≤k_)) u9000_ l0 from Kd.R_mono ho0 (fun k_ hk=>(.inl hk)))
 have HK:=yam (Kept.refl w (fun k_=>P0_ k_))
 have HW0:=yam hB.size
 have HB:=yam hB
 clear hB
 unfold laws_markIntS.f at h
 have H:=h
 clear h
 replace H:=yam H
 go_enter Try.func14,Try.ntmps14
 go_wp2
 go_loopg [1,5] k (fun kq v1 v5 w'=>∃ (x0_1:List Int) (x1_1:Int) (x5_1:Int),v1= .int .i64 x1_1∧v5= .int .i64 x5_1∧Aside0 (laws_markIntS.l0 kq x0_1 x1_1 x5_1=some (r1,r2))∧Aside0 (kq≤k)∧Aside0 (Kd.R (Kd.int .i64) 3 w' w0.heap.size (fun k_=>(P0_ k_∨w.heap.size≤k_)) u9000_ x0_1)∧Aside0 (Kept w w' (fun k_=>P0_ k_))∧Aside0 (Below w0.heap.size w0 w'))
 case atStart=>exact ⟨(l0),(a1),(0),yeq,yeq,H,⟨Nat.le_refl _⟩,⟨yka HO0.out⟩,⟨by repeat (first|(with_reducible first|exact HK.out|apply Kept.alloc|apply Kept.drewN|apply Kept.drew)|exact HK.out)⟩,⟨yhb⟩⟩
 case round =>
  clear H
  obtain ⟨x0_1,x1_1,x5_1,rfl,rfl,HA,HK1,HO_0,HK,HB⟩:=hrel
  rcases gk with _|k1
  ·exact absurd HA.out (by simp [laws_markIntS.l0])
  obtain ⟨H⟩:=HA
  simp only [laws_markIntS.l0] at H
  replace H:=yis H;obtain ⟨c3b0,H⟩ | ⟨c3b0,H⟩:=H
  rotate_left
  ·simp only [Option.some.injEq,Prod.mk.injEq] at H
   obtain ⟨rfl,rfl⟩:=H
   obtain ⟨Ao9,co9,eo9⟩:=Kd.R_slice HO_0.out
   subst eo9
   go_wp2
   go_ret
   exact ⟨yer,yka HO_0.out,yhb,by repeat (first|(with_reducible first|exact HK.out|apply Kept.alloc|apply Kept.drewN|apply Kept.drew)|exact HK.out)⟩
  replace H:=yif H;obtain ⟨c4b0,H⟩:=H
  obtain ⟨y203,Ny203⟩:∃ y_:List Int,Aside0 (y_=(x0_1.set (x5_1:Int).toNat x1_1)):=⟨_,⟨rfl⟩⟩
  replace H:(laws_markIntS.l0 k1 y203 (wrap64 (x1_1 + 1)) (wrap64 (x5_1 + 1)))=some (r1,r2):=yhn Ny203.out H
  replace H:=yam H
  obtain ⟨Ao6,co6,eo6⟩:=Kd.R_slice HO_0.out
  subst eo6
  have p5:0≤(x5_1:Int):=ydt
  have q5:(x5_1:Int) < ((x0_1.length:Int):Int):=ydt
  obtain ⟨go5,co5,eo5,gb5,gl5,cl5,HG5⟩:=Kd.R_form HO_0.out (by omega)
  (first|cases eo5|(injection eo5 with ea_ en_ ec_;(first|subst ea_|(injection ea_ with ea_;subst ea_));subst ec_;clear en_))
  have GB5:=yam gb5
  have GG5:=yam HG5
  clear gb5 gl5 HG5
  have HMgo5:=yam (show (P0_ go5∨w.heap.size≤go5) from (HO_0.out.1 _ rfl))
  obtain ⟨hx5_0,hf5_0⟩:=Kd.R_celln 0 HO_0.out (x5_1:Int) p5 q5
  replace p5:=eq_true p5
  replace q5:=eq_true q5
  have HP7:=Kd.R_putg HO_0.out (x5_1:Int) x1_1
  go_wp2_with (first|((with_reducible refine gate_store (t:=3) (p:=15) rfl ?_);refine store_event (t:=3) (p:=15) (v:=?vo_w8) (w1:=(wr.setCell ⟨go5,(x5_1:Int).toNat,none⟩ (.int .i64 x1_1))) ?hg ?ho ?hn ?hr ?_;(case ho=>rfl);(case hg=>rfl);(case hn=>rfl);(case hr=>first|(go_simp;done)|(go_simp;rfl));intro w8 hw;have hg:wr.grownBy w8 (some go5):=(by rw [hw];exact HP7.2);have hp_:Kd.R (Kd.int .i64) 3 w8 w0.heap.size (fun k_=>(P0_ k_∨w.heap.size≤k_)) (.slice (some ⟨go5,0,none⟩) x0_1.length co6) y203:=(by rw [hw,Ny203.out];exact HP7.1);clear HP7;replace HB:=yam ((by rw [hw];exact below_set (HB.out) GB5.out:Below w0.heap.size w0 w8));replace HK:=yam (Kept.of_grown (S:=(fun k_=>P0_ k_)) hg (by repeat (first|(with_reducible first|exact HK.out|apply Kept.alloc|apply Kept.drewN|apply Kept.drew)|exact HK.out)) (fun k_ e_=>(HO_0.out.1 k_ e_)));replace HO_0:=yam (hp_);clear hg hw hp_))
  go_roundg k1
  case measure=>have:=HK1.out;omega
  case rel=>exact ⟨(y203),(wrap64 (x1_1 + 1)),(wrap64 (x5_1 + 1)),yeq,yeq,H,⟨by have:=HK1.out;omega⟩,⟨yka HO_0.out⟩,⟨by repeat (first|(with_reducible first|exact HK.out|apply Kept.alloc|apply Kept.drewN|apply Kept.drew)|exact HK.out)⟩,⟨yhb⟩⟩
theorem rule_M {W:World}{base:Nat}{ok:Nat→Prop}{x:S73}{c:List Value}(h:k73.M W base ok x c):∃ v,c=[.int .i64 x.f0,v,.int .i64 x.f2]∧Kd.R (Kd.int .i64) 3 W base ok v x.f1:=by
 obtain ⟨c0,c1,rfl,h0,c2,c3,rfl,⟨v,rfl,hR⟩,h3⟩:=h
 obtain rfl:c0=[.int .i64 x.f0]:=h0
 obtain rfl:c3=[.int .i64 x.f2]:=h3
 exact ⟨v,rfl,hR⟩
theorem rule_M_mk {W:World}{base:Nat}{ok:Nat→Prop}(x:S73){v:Value}(h:Kd.R (Kd.int .i64) 3 W base ok v x.f1):k73.M W base ok x [.int .i64 x.f0,v,.int .i64 x.f2] :=
 ⟨[.int .i64 x.f0],[v,.int .i64 x.f2],rfl,rfl,[v],[.int .i64 x.f2],rfl,⟨v,rfl,h⟩,rfl⟩
theorem rule_elem {W:World}{base g n cap:Nat}{ok:Nat→Prop}{xs:List S73}(h:Kd.S k73 73 W base ok (.slice (some ⟨g,0,none⟩) n cap) xs)(i:Int)(h0:0≤i)(h1:i < n) :
  ∃ (oki:Nat→Prop) (A:Option Addr) (c:Nat),W.cell? ⟨g,i.toNat * 3,none⟩=some (.int .i64 (rd_T73 xs i).f0)∧W.cell? ⟨g,i.toNat * 3 + 1,none⟩=some (.slice A (rd_T73 xs i).f1.length c)∧W.cell? ⟨g,i.toNat * 3 + 2,none⟩=some (.int .i64 (rd_T73 xs i).f2)∧(∀ j,W.frozen? ⟨g,i.toNat * 3 + j,none⟩=false)∧Kd.R (Kd.int .i64) 3 W base oki (.slice A (rd_T73 xs i).f1.length c) (rd_T73 xs i).f1∧(∀ k,oki k→ok k∧k≠g) ∧
   (∀ a:Int,Kd.S k73 73 (W.setCell ⟨g,i.toNat * 3,none⟩ (.int .i64 a)) base ok (.slice (some ⟨g,0,none⟩) n cap) (xs.set i.toNat ⟨a,(rd_T73 xs i).f1,(rd_T73 xs i).f2⟩)∧W.grownBy (W.setCell ⟨g,i.toNat * 3,none⟩ (.int .i64 a)) (some g)) ∧
   (∀ a:Int,Kd.S k73 73 (W.setCell ⟨g,i.toNat * 3 + 2,none⟩ (.int .i64 a)) base ok (.slice (some ⟨g,0,none⟩) n cap) (xs.set i.toNat ⟨(rd_T73 xs i).f0,(rd_T73 xs i).f1,a⟩)∧W.grownBy (W.setCell ⟨g,i.toNat * 3 + 2,none⟩ (.int .i64 a)) (some g)) ∧
   (∀ (w1:World) (ok1:Nat→Prop) (l:List Int),Kept W w1 oki→Kd.R (Kd.int .i64) 3 w1 base ok1 (.slice A (rd_T73 xs i).f1.length c) l→Kd.S k73 73 w1 base ok (.slice (some ⟨g,0,none⟩) n cap) (xs.set i.toNat ⟨(rd_T73 xs i).f0,l,(rd_T73 xs i).f2⟩)):=by
 have hz:rd_T73 xs i=xs.getD i.toNat z73:=rfl
 obtain ⟨oki,c,hcl,hM,hcc,hfr,hoki,hH⟩:=Kd.S_elem h z73 i h0 h1
 rw [← hz] at hM
 obtain ⟨v,rfl,hR⟩:=rule_M hM
 obtain ⟨A,cv,rfl⟩:=Kd.R_slice hR
 have hH0:Kd.H k73 73 W base (fun k=>ok k∧¬ False) (.slice (some ⟨g,0,none⟩) n cap) xs i oki [.int .i64 (rd_T73 xs i).f0,.slice A (rd_T73 xs i).f1.length cv,.int .i64 (rd_T73 xs i).f2]:=Kd.H_mono hH (fun k hk=>⟨hk,id⟩)
 refine ⟨oki,A,cv,hcc 0 _ rfl,hcc 1 _ rfl,hcc 2 _ rfl,hfr,hR,hoki,fun a=>?_,fun a=>?_,fun w1 ok1 l hk hR1=>?_⟩
 ·exact Kd.S_seg (okg:=fun _=>False) (okp:=oki) (j:=0) (seg:=[.int .i64 a]) hH0 h0 h1 (by show _≤3;simp) (rule_M_mk ⟨a,(rd_T73 xs i).f1,(rd_T73 xs i).f2⟩ hR) (fun k hk=> .inl hk) (fun k hk=>hk.elim)
 ·exact Kd.S_seg (okg:=fun _=>False) (okp:=oki) (j:=2) (seg:=[.int .i64 a]) hH0 h0 h1 (by show _≤3;simp) (rule_M_mk ⟨(rd_T73 xs i).f0,(rd_T73 xs i).f1,a⟩ hR) (fun k hk=> .inl hk) (fun k hk=>hk.elim)
 ·exact Kd.H_back (Kd.H_kept hH hk (fun k _ hn=>hn)) (rule_M_mk ⟨(rd_T73 xs i).f0,l,(rd_T73 xs i).f2⟩ (Kd.R_mono (Kd.R_tight rfl hR1) (fun k hk=>hR.1 k hk.symm))) (fun _ hk=>hk)
def laws_markRuleS.l0:Nat→List S73→Int→Int→Option (Int × List S73)
 | 0,_,_,_=>none
 | k + 1,x0,x1,x5=>if x5 < (x0.length:Int) then (if 0≤x5 then (laws_markIntS.f k (rd_T73 x0 x5).f1 (wrap64 (x1 + 1))).bind fun t=>laws_markRuleS.l0 k (x0.set x5.toNat ⟨x1,t.2,t.1⟩) (wrap64 (t.1 + 1)) (wrap64 (x5 + 1)) else none) else some (x1,x0)
def laws_markRuleS.f (k:Nat)(l0:List S73)(a1:Int):Option (Int × List S73):=laws_markRuleS.l0 k l0 a1 0
theorem rd_T_set {xs:List S73}{i:Int}(h0:0≤i)(h1:i < (xs.length:Int))(y:S73):rd_T73 (xs.set i.toNat y) i=y:=by
 unfold rd_T73
 rw [List.getD_eq_getElem?_getD,List.getElem?_set_self (by omega)]
 rfl
theorem laws_markRuleS.calls (k:Nat)(P:Nat→Prop)(A:Option Addr)(c:Nat)(l0:List S73)(a1:Int)(r1:Int)(r2:List S73)(w0 w:World)(hB:Below w0.heap.size w0 w)(ho0:Kd.S k73 73 w w0.heap.size P (.slice A l0.length c) l0)(h:laws_markRuleS.f k l0 a1=some (r1,r2)) :
  Calls Try.prog 27 #[.slice A l0.length c,.int .i64 a1] w fun e w'=>e= .returned (.int .i64 r1)∧Kd.S k73 73 w' w0.heap.size P (.slice A l0.length c) r2∧Below w0.heap.size w0 w'∧Kept w w' P:=by
 have HO:=yam ho0
 have HK:=yam (Kept.refl w P)
 have HB:=yam hB
 have HA:=yam (show laws_markRuleS.l0 k l0 a1 0=some (r1,r2) from h)
 clear hB ho0 h
 go_enter Try.func27,Try.ntmps27
 go_wp2
 go_loopg [1,5] k (fun kq v1 v5 w'=>∃ (xs:List S73) (x1:Int) (x5:Int),v1= .int .i64 x1∧v5= .int .i64 x5∧Aside0 (laws_markRuleS.l0 kq xs x1 x5=some (r1,r2))∧Aside0 (xs.length=l0.length)∧Aside0 (Kd.S k73 73 w' w0.heap.size P (.slice A l0.length c) xs)∧Aside0 (Kept w w' P)∧Aside0 (Below w0.heap.size w0 w'))
 case atStart=>exact ⟨l0,a1,0,rfl,rfl,HA,⟨rfl⟩,HO,HK,HB⟩
 case round =>
  clear HA HO HK HB
  obtain ⟨xs,x1,x5,rfl,rfl,HA,HL,HO,HK,HB⟩:=hrel
  rcases gk with _|k1
  ·exact absurd HA.out (by simp [laws_markRuleS.l0])
  obtain ⟨H⟩:=HA
  simp only [laws_markRuleS.l0] at H
  replace H:=yit H;obtain ⟨c3,H⟩ | ⟨c3,H⟩:=H
  rotate_left
  ·have c3b0:decide (x5 < (l0.length:Int))=false:=decide_eq_false (by rw [← HL.out];exact c3)
   clear c3
   simp only [Option.some.injEq,Prod.mk.injEq] at H
   obtain ⟨rfl,rfl⟩:=H
   go_wp2
   go_ret
   exact ⟨rfl,HO.out,HB.out,HK.out⟩
  replace H:=yig H;obtain ⟨c4,H⟩:=H
  obtain ⟨⟨t1,t2⟩,hM,H2⟩:=Option.bind_eq_some_iff.1 H
  have HM:=yam hM
  have HA:=yam H2
  clear hM H H2
  have hlt:x5 < ((l0.length:Nat):Int):=by rw [← HL.out];exact c3
  have HC3:=yam c3
  clear c3
  have c3b0:decide (x5 < (l0.length:Int))=true:=decide_eq_true hlt
  have c4b0:decide (0≤x5)=true:=decide_eq_true c4
  obtain ⟨g,cap,eA,gb,gl,gc_⟩:=Kd.R_form (Kd.S_R HO.out) (by have:=HL.out;omega)
  injection eA with eA1 eA2 eA3
  subst eA1
  clear eA2 eA3
  have GB:=yam gb
  clear gb gl gc_
  obtain ⟨oki0,Ai0,ci0,hx0,hx1_,hx2_,hfr,hr_,hk_,hset0,hs1_,hs2_⟩:=rule_elem HO.out x5 c4 hlt
  clear hx1_ hx2_ hr_ hk_ hs1_ hs2_
  have hf0:=hfr 0
  clear hfr
  rw [Nat.add_zero] at hf0
  have HPG:=yam ((Kd.S_R HO.out).1 g rfl)
  have HSET:=yam (hset0 x1)
  clear hset0
  have p4:=eq_true c4
  have p3:=eq_true hlt
  have C4:=yam c4
  have HLT:=yam hlt
  clear c4 hlt
  go_wp2_with (first
   | ((with_reducible refine gate_store (t:=3) (p:=16) rfl ?_);refine store_event (t:=3) (p:=16) (v:=?vo1) (w1:=wr.setCell ⟨g,x5.toNat * 3,none⟩ (.int .i64 x1)) ?hg ?ho ?hn ?hr ?_;(case ho=>rfl);(case hg=>rfl);(case hn=>rfl);(case hr=>first|(go_simp;done)|(go_simp;rfl));intro w8 hw;have hs:=HSET.out;rw [← hw] at hs;have hb8:Below w0.heap.size w0 w8:=(by rw [hw];exact below_set HB.out GB.out);have hk8:Kept w w8 P:=Kept.of_grown hs.2 HK.out (fun k_ e_=> .inl (by injection e_ with e_;rw [← e_];exact HPG.out));have hl8:x5 < (((xs.set x5.toNat ⟨x1,(rd_T73 xs x5).f1,(rd_T73 xs x5).f2⟩:List S73).length:Nat):Int):=(by rw [List.length_set];exact HC3.out);obtain ⟨oki,Ai,ci,hx0_,hx1,hx2_,hfr_,hRi,hoki,hs1_,hs2_,hback⟩:=rule_elem hs.1 x5 C4.out HLT.out;clear hx0_ hx2_ hfr_ hs1_ hs2_;rw [rd_T_set C4.out HC3.out] at hx1 hRi hback;simp only [List.set_set] at hback;have HR:=yam hRi;have HOK:=yam hoki;have HBK:=yam hback;have HB8:=yam hb8;have HK8:=yam hk8;clear hs hb8 hk8 hl8 hRi hoki hback hw hx0 hf0 HSET HB HK HO)
   | (refine goesL_ (some 25) rfl rfl Try.func14 (by kernel_rfl) rfl #[.slice Ai (rd_T73 xs x5).f1.length ci,.int .i64 (wrap64 (x1 + 1))] rfl yma ?_;(with_reducible refine (laws_markIntS.calls k1 oki _ (rd_T73 xs x5).f1 (wrap64 (x1 + 1)) t1 t2 w0 w8 HB8.out HR.out HM.out).mono ?_);rintro e w9 ⟨rfl,hR9,hb9,hk9⟩;refine ⟨_,rfl,?_⟩;have hs9:=HBK.out w9 _ t2 hk9 hR9;have HK9:=yam (Kept.then_ HK8.out hk9 (fun k_ h_=> .inl (HOK.out k_ h_).1));obtain ⟨oki9,Ai9,ci9,hx0_,hx1_,hx2,hfr2,hr_,hk_,hs1_,hset2,hs2_⟩:=rule_elem hs9 x5 C4.out HLT.out;clear hx0_ hx1_ hr_ hk_ hs1_ hs2_;have hf2:=hfr2 2;clear hfr2;have HSET:=yam (hset2 t1);clear hset2;rw [rd_T_set C4.out HC3.out] at HSET;simp only [List.set_set] at HSET;have HB9:=yam hb9;clear hs9 hR9 hb9 hk9 HBK HR HOK HB8 HK8 hx1)
   | ((with_reducible refine gate_store (t:=3) (p:=30) rfl ?_);refine store_event (t:=3) (p:=30) (v:=?vo2) (w1:=w9.setCell ⟨g,x5.toNat * 3 + 2,none⟩ (.int .i64 t1)) ?hg ?ho ?hn ?hr ?_;(case ho=>rfl);(case hg=>rfl);(case hn=>rfl);(case hr=>first|(go_simp;done)|(go_simp;rfl));intro w10 hw;have hs:=HSET.out;rw [← hw] at hs;have HB10:Aside0 (Below w0.heap.size w0 w10):=⟨by rw [hw];exact below_set HB9.out GB.out⟩;have HK10:=yam (Kept.of_grown hs.2 HK9.out (fun k_ e_=> .inl (by injection e_ with e_;rw [← e_];exact HPG.out)));have HO10:=yam hs.1;clear hs hw hx2 hf2 HSET HB9 HK9))
  go_roundg k1
  case measure=>omega
  case rel=>exact ⟨_,wrap64 (t1 + 1),wrap64 (x5 + 1),rfl,rfl,HA,⟨by rw [List.length_set];exact HL.out⟩,HO10,HK10,HB10⟩
def laws_markPuzzle.f (k:Nat)(_a0_0:Int)(l0_1:List Int)(l0_2:List S73)(a1:Int):Option (Int × List Int × List S73):=(laws_markIntS.f k l0_1 a1).bind fun t=>(laws_markRuleS.f k l0_2 t.1).bind fun u=>some (u.1,t.2,u.2)
theorem laws_markPuzzle.calls (k:Nat)(a0_0:Int)(P Q:Nat→Prop)(A0_1:Option Addr)(c0_1:Nat)(l0_1:List Int)(A0_2:Option Addr)(c0_2:Nat)(l0_2:List S73)(a1:Int)(r1:Int)(r2:List Int)(r3:List S73)(w0 w:World)(hB:Below w0.heap.size w0 w)(hPQ:∀ k_,P k_→¬ Q k_)(ho1:Kd.R (Kd.int .i64) 3 w w0.heap.size P (.slice A0_1 l0_1.length c0_1) l0_1)(ho2:Kd.S k73 73 w w0.heap.size Q (.slice A0_2 l0_2.length c0_2) l0_2)(h:laws_markPuzzle.f k a0_0 l0_1 l0_2 a1=some (r1,r2,r3)) :
  Calls Try.prog 28 #[.agg #[.int .i64 a0_0,.slice A0_1 l0_1.length c0_1,.slice A0_2 l0_2.length c0_2],.int .i64 a1] w fun e w'=>e= .returned (.int .i64 r1)∧Kd.R (Kd.int .i64) 3 w' w0.heap.size P (.slice A0_1 l0_1.length c0_1) r2∧Kd.S k73 73 w' w0.heap.size Q (.slice A0_2 l0_2.length c0_2) r3∧Below w0.heap.size w0 w'∧Kept w w' (fun k_=>P k_∨Q k_):=by
 unfold laws_markPuzzle.f at h
 obtain ⟨⟨t1,t2⟩,hM,h2⟩:=Option.bind_eq_some_iff.1 h
 obtain ⟨⟨u1,u2⟩,hN,h3⟩:=Option.bind_eq_some_iff.1 h2
 simp only [Option.some.injEq,Prod.mk.injEq] at h3
 obtain ⟨rfl,rfl,rfl⟩:=h3
 have HM:=yam hM
 have HN:=yam hN
 have HPQ:=yam hPQ
 have HP:=yam ho1.1
 have HO1:=yam ho1
 have HO2:=yam ho2
 have HB:=yam hB
 clear h h2 hM hN hPQ ho1 ho2 hB
 go_enter Try.func28,Try.ntmps28
 go_wp2_with (first
  | (refine ybe 2 #[.int .i64 a0_0,.slice A0_1 l0_1.length c0_1,.slice A0_2 l0_2.length c0_2] 37 ?_;intro gb hg w3 hbox hb;have HBX:=yam hbox;have HGB:=yam hg;have hcz1:w3.cell? ⟨gb,1,none⟩=some (.slice A0_1 l0_1.length c0_1):=(blk_cell hbox 1).trans rfl;have hcz2:w3.cell? ⟨gb,2,none⟩=some (.slice A0_2 l0_2.length c0_2):=(blk_cell hbox 2).trans rfl;have HO1_:=yam (Kd.R_below HO1.out hb);have HO2_:=yam (Kd.S_below HO2.out hb);have HB_:=yam (below_step HB.out hb);have HK:=yam (Kept.of_below hb (fun k_=>P k_∨Q k_));have HL1:=yam (Kd.R_lt HO1.out);have HL2:=yam (Kd.S_bound HO2.out);clear HO1 HO2 HB hg hbox hb)
  | (refine goesL_ (some 8) rfl rfl Try.func14 (by kernel_rfl) rfl #[.slice A0_1 l0_1.length c0_1,.int .i64 a1] rfl yma ?_;(with_reducible refine (laws_markIntS.calls k (fun k_=>some k_=(Value.slice A0_1 l0_1.length c0_1).ownBlock) _ l0_1 a1 t1 t2 w0 w3 HB_.out (Kd.R_tight rfl HO1_.out) HM.out).mono ?_);rintro e w4 ⟨rfl,hR4,hb4,hk4⟩;refine ⟨_,rfl,?_⟩;have hne:gb≠gb∨¬ some gb=(Value.slice A0_1 l0_1.length c0_1).ownBlock:= .inr (fun e_=>by have:=HL1.out gb e_.symm;have:=HGB.out;omega);have hbx4:=blk_kept HBX.out hk4 (hne.resolve_left (fun h_=>h_ rfl));have hcz2:w4.cell? ⟨gb,2,none⟩=some (.slice A0_2 l0_2.length c0_2):=(blk_cell hbx4 2).trans rfl;have HR4:=yam (Kd.R_tight rfl hR4);have HS4:=yam (Kd.S_kept HO2_.out hk4 (fun k_ hq_ hp_=>HPQ.out k_ (HP.out k_ hp_.symm) hq_));have HB4:=yam hb4;have HK4:=yam (Kept.then_ HK.out hk4 (fun k_ h_=> .inl (.inl (HP.out k_ h_.symm))));clear hne hbx4 hR4 hb4 hk4 HK HB_ HO1_ HO2_ HBX HGB HL1 HL2 hcz1)
  | (refine goesL_ (some 12) rfl rfl Try.func27 (by kernel_rfl) rfl #[.slice A0_2 l0_2.length c0_2,.int .i64 t1] rfl yma ?_;(with_reducible refine (laws_markRuleS.calls k Q A0_2 c0_2 l0_2 t1 u1 u2 w0 w4 HB4.out HS4.out HN.out).mono ?_);rintro e w5 ⟨rfl,hS5,hb5,hk5⟩;refine ⟨_,rfl,?_⟩;have HR5:=yam (Kd.R_kept HR4.out hk5 (fun k_ hp_ hq_=>HPQ.out k_ (HP.out k_ hp_.symm) hq_));have HS5:=yam hS5;have HB5:=yam hb5;have HK5:=yam (Kept.then_ HK4.out hk5 (fun k_ h_=> .inl (.inr h_)));clear hS5 hb5 hk5 HR4 HS4 HB4 HK4 hcz2))
 go_ret
 exact ⟨rfl,Kd.R_mono HR5.out (fun k_ h_=>HP.out k_ h_.symm),HS5.out,HB5.out,HK5.out⟩
def laws_heldIntS.l0:Nat→List Int→Int→Int→Option (Int)
 | 0,_,_,_=>none
 | k + 1,x0,x1,x5=>if x5 < (x0.length:Int) then (if 0≤x5 then (if (rd x0 x5)=x1 then (laws_heldIntS.l0 k x0 (wrap64 (x1 + 1)) (wrap64 (x5 + 1))) else (some (-1))) else (none)) else (some x1)
def laws_heldIntS.f (k:Nat)(l0:List Int)(a1:Int):Option (Int):=laws_heldIntS.l0 k l0 a1 0
theorem laws_heldIntS.calls (k:Nat)(A0:Option Addr)(c0:Nat)(l0:List Int)(a1:Int)(r:Int)(w:World)(hr0:Kd.C (Kd.int .i64) w A0 l0.length l0)(hc0:l0.length≤c0)(h:laws_heldIntS.f k l0 a1=some r) :
  Calls Try.prog 15 #[.slice A0 l0.length c0,.int .i64 a1] w fun e w'=>e= .returned (.int .i64 r)∧Drawn0 w w':=by
 have HR0:=yam hr0
 have HC0:=yam hc0
 clear hr0 hc0
 unfold laws_heldIntS.f at h
 have H:=h
 clear h
 replace H:=yam H
 go_enter Try.func15,Try.ntmps15
 go_wp2
 go_loopg [1,5] k (fun kq v1 v5 w'=>∃ (x1_1:Int) (x5_1:Int),v1= .int .i64 x1_1∧v5= .int .i64 x5_1∧Aside0 (laws_heldIntS.l0 kq l0 x1_1 x5_1=some r)∧Aside0 (kq≤k)∧Drawn0 w w')
 case atStart=>exact ⟨(a1),(0),yeq,yeq,H,⟨Nat.le_refl _⟩,by repeat (first|exact Drawn0.refl _|apply Drawn0.step)⟩
 case round =>
  clear H
  obtain ⟨x1_1,x5_1,rfl,rfl,HA,HK1,⟨m1,rfl⟩⟩:=hrel
  rcases gk with _|k1
  ·exact absurd HA.out (by simp [laws_heldIntS.l0])
  obtain ⟨H⟩:=HA
  simp only [laws_heldIntS.l0] at H
  replace H:=yis H;obtain ⟨c3b0,H⟩ | ⟨c3b0,H⟩:=H
  rotate_left
  ·obtain rfl:=ysi H
   go_wp2
   go_ret
   exact ⟨yeq,by repeat (first|exact Drawn0.refl _|apply Drawn0.step)⟩
  replace H:=yif H;obtain ⟨c4b0,H⟩:=H
  replace H:=yit H;obtain ⟨c5,H⟩ | ⟨c5,H⟩:=H
  rotate_left
  ·have c5b0:((rd l0 x5_1) == x1_1)=false:=beq_eq_false_iff_ne.mpr c5
   have c5b1:((rd l0 x5_1) != x1_1)=true:=bne_iff_ne.mpr c5
   obtain rfl:=ysi H
   obtain ⟨ad204,e204,hx204_0,p204,q204⟩:=yat HR0.out x5_1
   cases e204
   go_wp2
   go_ret
   exact ⟨yeq,by repeat (first|exact Drawn0.refl _|apply Drawn0.step)⟩
  have c5b0:((rd l0 x5_1) == x1_1)=true:=beq_iff_eq.mpr c5
  have c5b1:((rd l0 x5_1) != x1_1)=false:=bne_eq_false_iff_eq.mpr c5
  clear c5
  replace H:=yam H
  obtain ⟨ad204,e204,hx204_0,p204,q204⟩:=yat HR0.out x5_1
  cases e204
  go_wp2
  go_roundg k1
  case measure=>have:=HK1.out;omega
  case rel=>exact ⟨(wrap64 (x1_1 + 1)),(wrap64 (x5_1 + 1)),yeq,yeq,H,⟨by have:=HK1.out;omega⟩,by repeat (first|exact Drawn0.refl _|apply Drawn0.step)⟩
def laws_heldRuleS.l0:Nat→List (S73)→Int→Int→Option (Int)
 | 0,_,_,_=>none
 | k + 1,x0,x1,x5=>if x5 < (x0.length:Int) then (if 0≤x5 then (if ((rd_T73 x0 x5).f0)=x1 then ((laws_heldIntS.f k ((rd_T73 x0 x5).f1) (wrap64 (x1 + 1))).bind fun t520=>(if t520 < 0 then (some (-1)) else (if ((rd_T73 x0 x5).f2)=t520 then (laws_heldRuleS.l0 k x0 (wrap64 (t520 + 1)) (wrap64 (x5 + 1))) else (some (-1))))) else (some (-1))) else (none)) else (some x1)
def laws_heldRuleS.f (k:Nat)(l0:List (S73))(a1:Int):Option (Int):=laws_heldRuleS.l0 k l0 a1 0
theorem laws_heldRuleS.calls (k:Nat)(A0:Option Addr)(c0:Nat)(l0:List (S73))(a1:Int)(r:Int)(w:World)(hr0:Kd.C k73 w A0 l0.length l0)(hc0:l0.length≤c0)(h:laws_heldRuleS.f k l0 a1=some r) :
  Calls Try.prog 60 #[.slice A0 l0.length c0,.int .i64 a1] w fun e w'=>e= .returned (.int .i64 r)∧Drawn0 w w':=by
 have HR0:=yam hr0
 have HC0:=yam hc0
 clear hr0 hc0
 unfold laws_heldRuleS.f at h
 have H:=h
 clear h
 replace H:=yam H
 go_enter Try.func60,Try.ntmps60
 go_wp2
 go_loopg [1,5] k (fun kq v1 v5 w'=>∃ (x1_1:Int) (x5_1:Int),v1= .int .i64 x1_1∧v5= .int .i64 x5_1∧Aside0 (laws_heldRuleS.l0 kq l0 x1_1 x5_1=some r)∧Aside0 (kq≤k)∧Drawn0 w w')
 case atStart=>exact ⟨(a1),(0),yeq,yeq,H,⟨Nat.le_refl _⟩,by repeat (first|exact Drawn0.refl _|apply Drawn0.step)⟩
 case round =>
  clear H
  obtain ⟨x1_1,x5_1,rfl,rfl,HA,HK1,⟨m1,rfl⟩⟩:=hrel
  rcases gk with _|k1
  ·exact absurd HA.out (by simp [laws_heldRuleS.l0])
  obtain ⟨H⟩:=HA
  simp only [laws_heldRuleS.l0] at H
  replace H:=yis H;obtain ⟨c3b0,H⟩ | ⟨c3b0,H⟩:=H
  rotate_left
  ·obtain rfl:=ysi H
   go_wp2
   go_ret
   exact ⟨yeq,by repeat (first|exact Drawn0.refl _|apply Drawn0.step)⟩
  replace H:=yif H;obtain ⟨c4b0,H⟩:=H
  replace H:=yit H;obtain ⟨c5,H⟩ | ⟨c5,H⟩:=H
  rotate_left
  ·have c5b0:(((rd_T73 l0 x5_1).f0) == x1_1)=false:=beq_eq_false_iff_ne.mpr c5
   have c5b1:(((rd_T73 l0 x5_1).f0) != x1_1)=true:=bne_iff_ne.mpr c5
   obtain rfl:=ysi H
   have p518:0≤(x5_1:Int):=ydt
   have q518:x5_1 < (l0.length:Int):=ydt
   obtain ⟨ad518,A518_1,c518_1,e518,hx518_0,hx518_1,hx518_2,hl518_1,hi518_1⟩:=at_T73 HR0.out x5_1 p518 q518
   cases e518
   have HR518_1:=yam hi518_1
   have HC518_1:=yam hl518_1
   clear hi518_1 hl518_1
   replace p518:=eq_true p518
   replace q518:=eq_true q518
   go_wp2
   go_ret
   exact ⟨yeq,by repeat (first|exact Drawn0.refl _|apply Drawn0.step)⟩
  have c5b0:(((rd_T73 l0 x5_1).f0) == x1_1)=true:=beq_iff_eq.mpr c5
  have c5b1:(((rd_T73 l0 x5_1).f0) != x1_1)=false:=bne_eq_false_iff_eq.mpr c5
  clear c5
  replace H:=ybi H;obtain ⟨t520,A6,H⟩:=H
  try dsimp only at H
  replace H:=yis H;obtain ⟨c7b0,H⟩ | ⟨c7b0,H⟩:=H
  ·obtain rfl:=ysi H
   have p518:0≤(x5_1:Int):=ydt
   have q518:x5_1 < (l0.length:Int):=ydt
   obtain ⟨ad518,A518_1,c518_1,e518,hx518_0,hx518_1,hx518_2,hl518_1,hi518_1⟩:=at_T73 HR0.out x5_1 p518 q518
   cases e518
   have HR518_1:=yam hi518_1
   have HC518_1:=yam hl518_1
   clear hi518_1 hl518_1
   replace p518:=eq_true p518
   replace q518:=eq_true q518
   have p519:0≤(x5_1:Int):=ydt
   have q519:x5_1 < (l0.length:Int):=ydt
   obtain ⟨ad519,A519_1,c519_1,e519,hx519_0,hx519_1,hx519_2,hl519_1,hi519_1⟩:=at_T73 HR0.out x5_1 p519 q519
   obtain rfl:ad518=ad519:=(by injection e519)
   have HR519_1:=yam hi519_1
   have HC519_1:=yam hl519_1
   clear hi519_1 hl519_1
   replace p519:=eq_true p519
   replace q519:=eq_true q519
   have ea_:=Option.some.inj (hx518_1.symm.trans hx519_1)
   injection ea_ with ea_ en_ ec_
   subst ea_
   subst ec_
   clear en_
   go_wp2_with (first|(refine goesL_ (some 27) rfl rfl Try.func15 (by kernel_rfl) rfl #[.slice A518_1 ((rd_T73 l0 x5_1).f1).length c518_1,.int .i64 (wrap64 (x1_1 + 1))] rfl ymd ?_;(with_reducible refine (laws_heldIntS.calls k1 _ _ ((rd_T73 l0 x5_1).f1) (wrap64 (x1_1 + 1)) t520 _ ?_ ?_ A6.out).mono ?_);exact Kd.Cz (HR519_1.out);exact HC519_1.out;rintro e w' ⟨rfl,⟨nd,rfl⟩⟩;refine ⟨_,rfl,?_⟩))
   go_ret
   exact ⟨yeq,by repeat (first|exact Drawn0.refl _|apply Drawn0.step)⟩
  replace H:=yit H;obtain ⟨c8,H⟩ | ⟨c8,H⟩:=H
  rotate_left
  ·have c8b0:(((rd_T73 l0 x5_1).f2) == t520)=false:=beq_eq_false_iff_ne.mpr c8
   have c8b1:(((rd_T73 l0 x5_1).f2) != t520)=true:=bne_iff_ne.mpr c8
   obtain rfl:=ysi H
   have p518:0≤(x5_1:Int):=ydt
   have q518:x5_1 < (l0.length:Int):=ydt
   obtain ⟨ad518,A518_1,c518_1,e518,hx518_0,hx518_1,hx518_2,hl518_1,hi518_1⟩:=at_T73 HR0.out x5_1 p518 q518
   cases e518
   have HR518_1:=yam hi518_1
   have HC518_1:=yam hl518_1
   clear hi518_1 hl518_1
   replace p518:=eq_true p518
   replace q518:=eq_true q518
   have p519:0≤(x5_1:Int):=ydt
   have q519:x5_1 < (l0.length:Int):=ydt
   obtain ⟨ad519,A519_1,c519_1,e519,hx519_0,hx519_1,hx519_2,hl519_1,hi519_1⟩:=at_T73 HR0.out x5_1 p519 q519
   obtain rfl:ad518=ad519:=(by injection e519)
   have HR519_1:=yam hi519_1
   have HC519_1:=yam hl519_1
   clear hi519_1 hl519_1
   replace p519:=eq_true p519
   replace q519:=eq_true q519
   have ea_:=Option.some.inj (hx518_1.symm.trans hx519_1)
   injection ea_ with ea_ en_ ec_
   subst ea_
   subst ec_
   clear en_
   go_wp2_with (first|(refine goesL_ (some 27) rfl rfl Try.func15 (by kernel_rfl) rfl #[.slice A518_1 ((rd_T73 l0 x5_1).f1).length c518_1,.int .i64 (wrap64 (x1_1 + 1))] rfl ymd ?_;(with_reducible refine (laws_heldIntS.calls k1 _ _ ((rd_T73 l0 x5_1).f1) (wrap64 (x1_1 + 1)) t520 _ ?_ ?_ A6.out).mono ?_);exact Kd.Cz (HR519_1.out);exact HC519_1.out;rintro e w' ⟨rfl,⟨nd,rfl⟩⟩;refine ⟨_,rfl,?_⟩;have p521:0≤(x5_1:Int):=ydt;have q521:x5_1 < (l0.length:Int):=ydt;obtain ⟨ad521,A521_1,c521_1,e521,hx521_0,hx521_1,hx521_2,hl521_1,hi521_1⟩:=at_T73 HR0.out x5_1 p521 q521;obtain rfl:ad518=ad521:=(by injection e521);have HR521_1:=yam hi521_1;have HC521_1:=yam hl521_1;clear hi521_1 hl521_1;replace p521:=eq_true p521;replace q521:=eq_true q521;have ea_:=Option.some.inj (hx518_1.symm.trans hx521_1);injection ea_ with ea_ en_ ec_;subst ea_;subst ec_;clear en_))
   go_ret
   exact ⟨yeq,by repeat (first|exact Drawn0.refl _|apply Drawn0.step)⟩
  have c8b0:(((rd_T73 l0 x5_1).f2) == t520)=true:=beq_iff_eq.mpr c8
  have c8b1:(((rd_T73 l0 x5_1).f2) != t520)=false:=bne_eq_false_iff_eq.mpr c8
  clear c8
  replace H:=yam H
  have p518:0≤(x5_1:Int):=ydt
  have q518:x5_1 < (l0.length:Int):=ydt
  obtain ⟨ad518,A518_1,c518_1,e518,hx518_0,hx518_1,hx518_2,hl518_1,hi518_1⟩:=at_T73 HR0.out x5_1 p518 q518
  cases e518
  have HR518_1:=yam hi518_1
  have HC518_1:=yam hl518_1
  clear hi518_1 hl518_1
  replace p518:=eq_true p518
  replace q518:=eq_true q518
  have p519:0≤(x5_1:Int):=ydt
  have q519:x5_1 < (l0.length:Int):=ydt
  obtain ⟨ad519,A519_1,c519_1,e519,hx519_0,hx519_1,hx519_2,hl519_1,hi519_1⟩:=at_T73 HR0.out x5_1 p519 q519
  obtain rfl:ad518=ad519:=(by injection e519)
  have HR519_1:=yam hi519_1
  have HC519_1:=yam hl519_1
  clear hi519_1 hl519_1
  replace p519:=eq_true p519
  replace q519:=eq_true q519
  have ea_:=Option.some.inj (hx518_1.symm.trans hx519_1)
  injection ea_ with ea_ en_ ec_
  subst ea_
  subst ec_
  clear en_
  go_wp2_with (first|(refine goesL_ (some 27) rfl rfl Try.func15 (by kernel_rfl) rfl #[.slice A518_1 ((rd_T73 l0 x5_1).f1).length c518_1,.int .i64 (wrap64 (x1_1 + 1))] rfl ymd ?_;(with_reducible refine (laws_heldIntS.calls k1 _ _ ((rd_T73 l0 x5_1).f1) (wrap64 (x1_1 + 1)) t520 _ ?_ ?_ A6.out).mono ?_);exact Kd.Cz (HR519_1.out);exact HC519_1.out;rintro e w' ⟨rfl,⟨nd,rfl⟩⟩;refine ⟨_,rfl,?_⟩;have p521:0≤(x5_1:Int):=ydt;have q521:x5_1 < (l0.length:Int):=ydt;obtain ⟨ad521,A521_1,c521_1,e521,hx521_0,hx521_1,hx521_2,hl521_1,hi521_1⟩:=at_T73 HR0.out x5_1 p521 q521;obtain rfl:ad518=ad521:=(by injection e521);have HR521_1:=yam hi521_1;have HC521_1:=yam hl521_1;clear hi521_1 hl521_1;replace p521:=eq_true p521;replace q521:=eq_true q521;have ea_:=Option.some.inj (hx518_1.symm.trans hx521_1);injection ea_ with ea_ en_ ec_;subst ea_;subst ec_;clear en_))
  go_roundg k1
  case measure=>have:=HK1.out;omega
  case rel=>exact ⟨(wrap64 (t520 + 1)),(wrap64 (x5_1 + 1)),yeq,yeq,H,⟨by have:=HK1.out;omega⟩,by repeat (first|exact Drawn0.refl _|apply Drawn0.step)⟩
def laws_heldPuzzle.f (k:Nat)(a0_0:Int)(l0_1:List Int)(l0_2:List (S73))(a1:Int):Option (Int):=(laws_heldIntS.f k l0_1 a1).bind fun t523=>(if t523 < 0 then (some (-1)) else ((laws_heldRuleS.f k l0_2 t523).bind fun t524=>(if t524 < 0 then (some (-1)) else (some t524))))
theorem laws_heldPuzzle.calls (k:Nat)(a0_0:Int)(A0_1:Option Addr)(c0_1:Nat)(l0_1:List Int)(A0_2:Option Addr)(c0_2:Nat)(l0_2:List (S73))(a1:Int)(r:Int)(w:World)(hr0_1:Kd.C (Kd.int .i64) w A0_1 l0_1.length l0_1)(hc0_1:l0_1.length≤c0_1)(hr0_2:Kd.C k73 w A0_2 l0_2.length l0_2)(hc0_2:l0_2.length≤c0_2)(h:laws_heldPuzzle.f k a0_0 l0_1 l0_2 a1=some r) :
  Calls Try.prog 29 #[.agg #[.int .i64 a0_0,.slice A0_1 l0_1.length c0_1,.slice A0_2 l0_2.length c0_2],.int .i64 a1] w fun e w'=>e= .returned (.int .i64 r)∧Below w.heap.size w w':=by
 have hu37:=Try.underlying37
 have HR0_1:=yam hr0_1
 have HC0_1:=yam hc0_1
 clear hr0_1 hc0_1
 have HR0_2:=yam hr0_2
 have HC0_2:=yam hc0_2
 clear hr0_2 hc0_2
 have HB:=yam (Below.refl w.heap.size w)
 unfold laws_heldPuzzle.f at h
 have H:=h
 clear h
 replace H:=ybi H;obtain ⟨t523,A3,H⟩:=H
 try dsimp only at H
 replace H:=yis H;obtain ⟨c4b0,H⟩ | ⟨c4b0,H⟩:=H
 ·obtain rfl:=ysi H
  go_enter Try.func29,Try.ntmps29
  go_wp2_with (first|(refine ybe 2 #[.int .i64 a0_0,.slice A0_1 l0_1.length c0_1,.slice A0_2 l0_2.length c0_2] 37 ?_;intro gb522 hg w5 hbox hb;have BK522:=yam (hbox);have GW522:=yam ((by rw [hg];exact (below_size (yez HB.out)):w.heap.size≤gb522));replace HB:=yam (below_step (yez HB.out) hb);have GE522:=GW522;clear hb hbox hg;obtain ⟨hcz6_0,hcz6_1,hcz6_2,hfz6_0,hfz6_1,hfz6_2⟩:=ybc BK522.out)|(refine goesL_ (some 8) rfl rfl Try.func15 (by kernel_rfl) rfl #[.slice A0_1 l0_1.length c0_1,.int .i64 a1] rfl ymd ?_;(with_reducible refine (laws_heldIntS.calls k _ _ l0_1 a1 t523 _ ?_ ?_ A3.out).mono ?_);exact Kd.Cz ((Kd.C_below HR0_1.out HB.out));exact HC0_1.out;rintro e w' ⟨rfl,⟨nd,rfl⟩⟩;refine ⟨_,rfl,?_⟩))
  go_ret
  exact ⟨yer,yhb⟩
 replace H:=ybi H;obtain ⟨t524,A7,H⟩:=H
 try dsimp only at H
 replace H:=yis H;obtain ⟨c8b0,H⟩ | ⟨c8b0,H⟩:=H
 ·obtain rfl:=ysi H
  go_enter Try.func29,Try.ntmps29
  go_wp2_with (first|(refine ybe 2 #[.int .i64 a0_0,.slice A0_1 l0_1.length c0_1,.slice A0_2 l0_2.length c0_2] 37 ?_;intro gb522 hg w9 hbox hb;have BK522:=yam (hbox);have GW522:=yam ((by rw [hg];exact (below_size (yez HB.out)):w.heap.size≤gb522));replace HB:=yam (below_step (yez HB.out) hb);have GE522:=GW522;clear hb hbox hg;obtain ⟨hcz10_0,hcz10_1,hcz10_2,hfz10_0,hfz10_1,hfz10_2⟩:=ybc BK522.out)|(refine goesL_ (some 8) rfl rfl Try.func15 (by kernel_rfl) rfl #[.slice A0_1 l0_1.length c0_1,.int .i64 a1] rfl ymd ?_;(with_reducible refine (laws_heldIntS.calls k _ _ l0_1 a1 t523 _ ?_ ?_ A3.out).mono ?_);exact Kd.Cz ((Kd.C_below HR0_1.out HB.out));exact HC0_1.out;rintro e w' ⟨rfl,⟨nd,rfl⟩⟩;refine ⟨_,rfl,?_⟩)|(refine goesL_ (some 14) rfl rfl Try.func60 (by kernel_rfl) rfl #[.slice A0_2 l0_2.length c0_2,.int .i64 t523] rfl ymd ?_;(with_reducible refine (laws_heldRuleS.calls k _ _ l0_2 t523 t524 _ ?side1 ?side2 A7.out).mono ?_);(case side1=>repeat (first|exact (Kd.C_below HR0_2.out yhb)|(with_reducible refine Kd.C_alloc ?_ _)|(with_reducible refine Kd.C_drewN ?_ _)|(with_reducible refine Kd.C_drew ?_)));(case side2=>exact HC0_2.out);rintro e w' ⟨rfl,⟨nd,rfl⟩⟩;refine ⟨_,rfl,?_⟩))
  go_ret
  exact ⟨yer,yhb⟩
 obtain rfl:=ysi H
 go_enter Try.func29,Try.ntmps29
 go_wp2_with (first|(refine ybe 2 #[.int .i64 a0_0,.slice A0_1 l0_1.length c0_1,.slice A0_2 l0_2.length c0_2] 37 ?_;intro gb522 hg w11 hbox hb;have BK522:=yam (hbox);have GW522:=yam ((by rw [hg];exact (below_size (yez HB.out)):w.heap.size≤gb522));replace HB:=yam (below_step (yez HB.out) hb);have GE522:=GW522;clear hb hbox hg;obtain ⟨hcz12_0,hcz12_1,hcz12_2,hfz12_0,hfz12_1,hfz12_2⟩:=ybc BK522.out)|(refine goesL_ (some 8) rfl rfl Try.func15 (by kernel_rfl) rfl #[.slice A0_1 l0_1.length c0_1,.int .i64 a1] rfl ymd ?_;(with_reducible refine (laws_heldIntS.calls k _ _ l0_1 a1 t523 _ ?_ ?_ A3.out).mono ?_);exact Kd.Cz ((Kd.C_below HR0_1.out HB.out));exact HC0_1.out;rintro e w' ⟨rfl,⟨nd,rfl⟩⟩;refine ⟨_,rfl,?_⟩)|(refine goesL_ (some 14) rfl rfl Try.func60 (by kernel_rfl) rfl #[.slice A0_2 l0_2.length c0_2,.int .i64 t523] rfl ymd ?_;(with_reducible refine (laws_heldRuleS.calls k _ _ l0_2 t523 t524 _ ?side1 ?side2 A7.out).mono ?_);(case side1=>repeat (first|exact (Kd.C_below HR0_2.out yhb)|(with_reducible refine Kd.C_alloc ?_ _)|(with_reducible refine Kd.C_drewN ?_ _)|(with_reducible refine Kd.C_drew ?_)));(case side2=>exact HC0_2.out);rintro e w' ⟨rfl,⟨nd,rfl⟩⟩;refine ⟨_,rfl,?_⟩))
 go_ret
 exact ⟨yer,yhb⟩
def laws_szIntS.f (l0:List Int)(a1:Int):Option (Int):=if (wrap64 (a1 - (l0.length:Int))) < 0 then (some (-1)) else (some (wrap64 (a1 - (l0.length:Int))))
theorem laws_szIntS.calls (A0:Option Addr)(c0:Nat)(l0:List Int)(a1:Int)(r:Int)(w:World)(hr0:Kd.C (Kd.int .i64) w A0 l0.length l0)(hc0:l0.length≤c0)(h:laws_szIntS.f l0 a1=some r) :
  Calls Try.prog 61 #[.slice A0 l0.length c0,.int .i64 a1] w fun e w'=>e= .returned (.int .i64 r)∧Drawn0 w w':=by
 have HR0:=yam hr0
 have HC0:=yam hc0
 clear hr0 hc0
 unfold laws_szIntS.f at h
 have H:=h
 clear h
 replace H:=yis H;obtain ⟨c3b0,H⟩ | ⟨c3b0,H⟩:=H
 ·obtain rfl:=ysi H
  go_enter Try.func61,Try.ntmps61
  go_wp2
  go_ret
  exact ⟨yeq,by repeat (first|exact Drawn0.refl _|apply Drawn0.step)⟩
 obtain rfl:=ysi H
 go_enter Try.func61,Try.ntmps61
 go_wp2
 go_ret
 exact ⟨yeq,by repeat (first|exact Drawn0.refl _|apply Drawn0.step)⟩
def laws_szRule.f (a0_0:Int)(l0_1:List Int)(a0_2:Int)(a1:Int):Option (Int):=(laws_szIntS.f l0_1 a1).bind fun t296=>(if t296 < 0 then (some (-1)) else (some t296))
theorem laws_szRule.calls (a0_0:Int)(A0_1:Option Addr)(c0_1:Nat)(l0_1:List Int)(a0_2:Int)(a1:Int)(r:Int)(w:World)(hr0_1:Kd.C (Kd.int .i64) w A0_1 l0_1.length l0_1)(hc0_1:l0_1.length≤c0_1)(h:laws_szRule.f a0_0 l0_1 a0_2 a1=some r) :
  Calls Try.prog 53 #[.agg #[.int .i64 a0_0,.slice A0_1 l0_1.length c0_1,.int .i64 a0_2],.int .i64 a1] w fun e w'=>e= .returned (.int .i64 r)∧Below w.heap.size w w':=by
 have hu70:=Try.underlying70
 have HR0_1:=yam hr0_1
 have HC0_1:=yam hc0_1
 clear hr0_1 hc0_1
 have HB:=yam (Below.refl w.heap.size w)
 unfold laws_szRule.f at h
 have H:=h
 clear h
 replace H:=ybi H;obtain ⟨t296,A3,H⟩:=H
 try dsimp only at H
 replace H:=yis H;obtain ⟨c4b0,H⟩ | ⟨c4b0,H⟩:=H
 ·obtain rfl:=ysi H
  go_enter Try.func53,Try.ntmps53
  go_wp2_with (first|(refine ybe 2 #[.int .i64 a0_0,.slice A0_1 l0_1.length c0_1,.int .i64 a0_2] 70 ?_;intro gb295 hg w5 hbox hb;have BK295:=yam (hbox);have GW295:=yam ((by rw [hg];exact (below_size (yez HB.out)):w.heap.size≤gb295));replace HB:=yam (below_step (yez HB.out) hb);have GE295:=GW295;clear hb hbox hg;obtain ⟨hcz6_0,hcz6_1,hcz6_2,hfz6_0,hfz6_1,hfz6_2⟩:=ybc BK295.out)|(refine goesL_ (some 8) rfl rfl Try.func61 (by kernel_rfl) rfl #[.slice A0_1 l0_1.length c0_1,.int .i64 a1] rfl ymd ?_;(with_reducible refine (laws_szIntS.calls _ _ l0_1 a1 t296 _ ?_ ?_ A3.out).mono ?_);exact Kd.Cz ((Kd.C_below HR0_1.out HB.out));exact HC0_1.out;rintro e w' ⟨rfl,⟨nd,rfl⟩⟩;refine ⟨_,rfl,?_⟩))
  go_ret
  exact ⟨yer,yhb⟩
 obtain rfl:=ysi H
 go_enter Try.func53,Try.ntmps53
 go_wp2_with (first|(refine ybe 2 #[.int .i64 a0_0,.slice A0_1 l0_1.length c0_1,.int .i64 a0_2] 70 ?_;intro gb295 hg w7 hbox hb;have BK295:=yam (hbox);have GW295:=yam ((by rw [hg];exact (below_size (yez HB.out)):w.heap.size≤gb295));replace HB:=yam (below_step (yez HB.out) hb);have GE295:=GW295;clear hb hbox hg;obtain ⟨hcz8_0,hcz8_1,hcz8_2,hfz8_0,hfz8_1,hfz8_2⟩:=ybc BK295.out)|(refine goesL_ (some 8) rfl rfl Try.func61 (by kernel_rfl) rfl #[.slice A0_1 l0_1.length c0_1,.int .i64 a1] rfl ymd ?_;(with_reducible refine (laws_szIntS.calls _ _ l0_1 a1 t296 _ ?_ ?_ A3.out).mono ?_);exact Kd.Cz ((Kd.C_below HR0_1.out HB.out));exact HC0_1.out;rintro e w' ⟨rfl,⟨nd,rfl⟩⟩;refine ⟨_,rfl,?_⟩))
 go_ret
 exact ⟨yer,yhb⟩
def laws_szRuleS.l0:Nat→List (S70)→Int→Int→Option (Int)
 | 0,_,_,_=>none
 | k + 1,x0,x1,x5=>if x5 < (x0.length:Int) then (if 0≤x5 then ((laws_szRule.f ((rd_T70 x0 x5).f0) ((rd_T70 x0 x5).f1) ((rd_T70 x0 x5).f2) x1).bind fun t298=>(if t298 < 0 then (some (-1)) else (laws_szRuleS.l0 k x0 t298 (wrap64 (x5 + 1))))) else (none)) else (some x1)
def laws_szRuleS.f (k:Nat)(l0:List (S70))(a1:Int):Option (Int):=if (wrap64 (a1 - (l0.length:Int))) < 0 then (some (-1)) else (laws_szRuleS.l0 k l0 (wrap64 (a1 - (l0.length:Int))) 0)
theorem laws_szRuleS.calls (k:Nat)(A0:Option Addr)(c0:Nat)(l0:List (S70))(a1:Int)(r:Int)(w:World)(hr0:Kd.C k70 w A0 l0.length l0)(hc0:l0.length≤c0)(h:laws_szRuleS.f k l0 a1=some r) :
  Calls Try.prog 20 #[.slice A0 l0.length c0,.int .i64 a1] w fun e w'=>e= .returned (.int .i64 r)∧Below w.heap.size w w':=by
 have hu70:=Try.underlying70
 have HR0:=yam hr0
 have HC0:=yam hc0
 clear hr0 hc0
 have HB:=yam (Below.refl w.heap.size w)
 unfold laws_szRuleS.f at h
 have H:=h
 clear h
 replace H:=yis H;obtain ⟨c3b0,H⟩ | ⟨c3b0,H⟩:=H
 ·obtain rfl:=ysi H
  go_enter Try.func20,Try.ntmps20
  go_wp2
  go_ret
  exact ⟨yer,yhb⟩
 replace H:=yam H
 go_enter Try.func20,Try.ntmps20
 go_wp2
 go_loopg [1,5] k (fun kq v1 v5 w'=>∃ (x1_1:Int) (x5_1:Int),v1= .int .i64 x1_1∧v5= .int .i64 x5_1∧Aside0 (laws_szRuleS.l0 kq l0 x1_1 x5_1=some r)∧Aside0 (kq≤k)∧Aside0 (Below w.heap.size w w'))
 case atStart=>exact ⟨(wrap64 (a1 - (l0.length:Int))),(0),yeq,yeq,H,⟨Nat.le_refl _⟩,⟨yhb⟩⟩
 case round =>
  clear H
  try clear c3b0
  obtain ⟨x1_1,x5_1,rfl,rfl,HA,HK1,HB⟩:=hrel
  rcases gk with _|k1
  ·exact absurd HA.out (by simp [laws_szRuleS.l0])
  obtain ⟨H⟩:=HA
  simp only [laws_szRuleS.l0] at H
  replace H:=yis H;obtain ⟨c4b0,H⟩ | ⟨c4b0,H⟩:=H
  rotate_left
  ·obtain rfl:=ysi H
   go_wp2
   go_ret
   exact ⟨yer,yhb⟩
  replace H:=yif H;obtain ⟨c5b0,H⟩:=H
  replace H:=ybi H;obtain ⟨t298,A6,H⟩:=H
  try dsimp only at H
  replace H:=yis H;obtain ⟨c7b0,H⟩ | ⟨c7b0,H⟩:=H
  ·obtain rfl:=ysi H
   have p297:0≤(x5_1:Int):=ydt
   have q297:x5_1 < (l0.length:Int):=ydt
   obtain ⟨ad297,A297_1,c297_1,e297,hx297_0,hx297_1,hx297_2,hl297_1,hi297_1⟩:=at_T70 HR0.out x5_1 p297 q297
   cases e297
   replace hx297_0:=ybx HB.out hx297_0
   replace hx297_1:=ybx HB.out hx297_1
   replace hx297_2:=ybx HB.out hx297_2
   have HR297_1:=yam hi297_1
   have HC297_1:=yam hl297_1
   clear hi297_1 hl297_1
   replace p297:=eq_true p297
   replace q297:=eq_true q297
   go_wp2_with (first|(refine goesL_ (some 23) rfl rfl Try.func53 (by kernel_rfl) rfl #[.agg #[.int .i64 ((rd_T70 l0 x5_1).f0),.slice A297_1 ((rd_T70 l0 x5_1).f1).length c297_1,.int .i64 ((rd_T70 l0 x5_1).f2)],.int .i64 x1_1] rfl ymd ?_;(with_reducible refine (laws_szRule.calls ((rd_T70 l0 x5_1).f0) _ _ ((rd_T70 l0 x5_1).f1) ((rd_T70 l0 x5_1).f2) x1_1 t298 _ ?_ ?_ A6.out).mono ?_);exact Kd.Cz ((Kd.C_below HR297_1.out HB.out));exact HC297_1.out;rintro e w8 ⟨rfl,hb⟩;refine ⟨_,rfl,?_⟩;replace HB:=yam (below_step (yez HB.out) hb);(try clear hb)))
   go_ret
   exact ⟨yer,yhb⟩
  replace H:=yam H
  have p297:0≤(x5_1:Int):=ydt
  have q297:x5_1 < (l0.length:Int):=ydt
  obtain ⟨ad297,A297_1,c297_1,e297,hx297_0,hx297_1,hx297_2,hl297_1,hi297_1⟩:=at_T70 HR0.out x5_1 p297 q297
  cases e297
  replace hx297_0:=ybx HB.out hx297_0
  replace hx297_1:=ybx HB.out hx297_1
  replace hx297_2:=ybx HB.out hx297_2
  have HR297_1:=yam hi297_1
  have HC297_1:=yam hl297_1
  clear hi297_1 hl297_1
  replace p297:=eq_true p297
  replace q297:=eq_true q297
  go_wp2_with (first|(refine goesL_ (some 23) rfl rfl Try.func53 (by kernel_rfl) rfl #[.agg #[.int .i64 ((rd_T70 l0 x5_1).f0),.slice A297_1 ((rd_T70 l0 x5_1).f1).length c297_1,.int .i64 ((rd_T70 l0 x5_1).f2)],.int .i64 x1_1] rfl ymd ?_;(with_reducible refine (laws_szRule.calls ((rd_T70 l0 x5_1).f0) _ _ ((rd_T70 l0 x5_1).f1) ((rd_T70 l0 x5_1).f2) x1_1 t298 _ ?_ ?_ A6.out).mono ?_);exact Kd.Cz ((Kd.C_below HR297_1.out HB.out));exact HC297_1.out;rintro e w9 ⟨rfl,hb⟩;refine ⟨_,rfl,?_⟩;replace HB:=yam (below_step (yez HB.out) hb);(try clear hb)))
  go_roundg k1
  case measure=>have:=HK1.out;omega
  case rel=>exact ⟨(t298),(wrap64 (x5_1 + 1)),yeq,yeq,H,⟨by have:=HK1.out;omega⟩,⟨yhb⟩⟩
def laws_szPuzzle.f (k:Nat)(a0_0:Int)(l0_1:List Int)(l0_2:List (S70))(a1:Int):Option (Int):=(laws_szIntS.f l0_1 a1).bind fun t526=>(if t526 < 0 then (some (-1)) else ((laws_szRuleS.f k l0_2 t526).bind fun t527=>(if t527 < 0 then (some (-1)) else (some t527))))
theorem laws_szPuzzle.calls (k:Nat)(a0_0:Int)(A0_1:Option Addr)(c0_1:Nat)(l0_1:List Int)(A0_2:Option Addr)(c0_2:Nat)(l0_2:List (S70))(a1:Int)(r:Int)(w:World)(hr0_1:Kd.C (Kd.int .i64) w A0_1 l0_1.length l0_1)(hc0_1:l0_1.length≤c0_1)(hr0_2:Kd.C k70 w A0_2 l0_2.length l0_2)(hc0_2:l0_2.length≤c0_2)(h:laws_szPuzzle.f k a0_0 l0_1 l0_2 a1=some r) :
  Calls Try.prog 30 #[.agg #[.int .i64 a0_0,.slice A0_1 l0_1.length c0_1,.slice A0_2 l0_2.length c0_2],.int .i64 a1] w fun e w'=>e= .returned (.int .i64 r)∧Below w.heap.size w w':=by
 have hu48:=Try.underlying48
 have HR0_1:=yam hr0_1
 have HC0_1:=yam hc0_1
 clear hr0_1 hc0_1
 have HR0_2:=yam hr0_2
 have HC0_2:=yam hc0_2
 clear hr0_2 hc0_2
 have HB:=yam (Below.refl w.heap.size w)
 unfold laws_szPuzzle.f at h
 have H:=h
 clear h
 replace H:=ybi H;obtain ⟨t526,A3,H⟩:=H
 try dsimp only at H
 replace H:=yis H;obtain ⟨c4b0,H⟩ | ⟨c4b0,H⟩:=H
 ·obtain rfl:=ysi H
  go_enter Try.func30,Try.ntmps30
  go_wp2_with (first|(refine ybe 2 #[.int .i64 a0_0,.slice A0_1 l0_1.length c0_1,.slice A0_2 l0_2.length c0_2] 48 ?_;intro gb525 hg w5 hbox hb;have BK525:=yam (hbox);have GW525:=yam ((by rw [hg];exact (below_size (yez HB.out)):w.heap.size≤gb525));replace HB:=yam (below_step (yez HB.out) hb);have GE525:=GW525;clear hb hbox hg;obtain ⟨hcz6_0,hcz6_1,hcz6_2,hfz6_0,hfz6_1,hfz6_2⟩:=ybc BK525.out)|(refine goesL_ (some 8) rfl rfl Try.func61 (by kernel_rfl) rfl #[.slice A0_1 l0_1.length c0_1,.int .i64 a1] rfl ymd ?_;(with_reducible refine (laws_szIntS.calls _ _ l0_1 a1 t526 _ ?_ ?_ A3.out).mono ?_);exact Kd.Cz ((Kd.C_below HR0_1.out HB.out));exact HC0_1.out;rintro e w' ⟨rfl,⟨nd,rfl⟩⟩;refine ⟨_,rfl,?_⟩))
  go_ret
  exact ⟨yer,yhb⟩
 replace H:=ybi H;obtain ⟨t527,A7,H⟩:=H
 try dsimp only at H
 replace H:=yis H;obtain ⟨c8b0,H⟩ | ⟨c8b0,H⟩:=H
 ·obtain rfl:=ysi H
  go_enter Try.func30,Try.ntmps30
  go_wp2_with (first|(refine ybe 2 #[.int .i64 a0_0,.slice A0_1 l0_1.length c0_1,.slice A0_2 l0_2.length c0_2] 48 ?_;intro gb525 hg w9 hbox hb;have BK525:=yam (hbox);have GW525:=yam ((by rw [hg];exact (below_size (yez HB.out)):w.heap.size≤gb525));replace HB:=yam (below_step (yez HB.out) hb);have GE525:=GW525;clear hb hbox hg;obtain ⟨hcz10_0,hcz10_1,hcz10_2,hfz10_0,hfz10_1,hfz10_2⟩:=ybc BK525.out)|(refine goesL_ (some 8) rfl rfl Try.func61 (by kernel_rfl) rfl #[.slice A0_1 l0_1.length c0_1,.int .i64 a1] rfl ymd ?_;(with_reducible refine (laws_szIntS.calls _ _ l0_1 a1 t526 _ ?_ ?_ A3.out).mono ?_);exact Kd.Cz ((Kd.C_below HR0_1.out HB.out));exact HC0_1.out;rintro e w' ⟨rfl,⟨nd,rfl⟩⟩;refine ⟨_,rfl,?_⟩)|(refine goesL_ (some 14) rfl rfl Try.func20 (by kernel_rfl) rfl #[.slice A0_2 l0_2.length c0_2,.int .i64 t526] rfl ymd ?_;(with_reducible refine (laws_szRuleS.calls k _ _ l0_2 t526 t527 _ ?side1 ?side2 A7.out).mono ?_);(case side1=>repeat (first|exact (Kd.C_below HR0_2.out yhb)|(with_reducible refine Kd.C_alloc ?_ _)|(with_reducible refine Kd.C_drewN ?_ _)|(with_reducible refine Kd.C_drew ?_)));(case side2=>exact HC0_2.out);rintro e w11 ⟨rfl,hb⟩;refine ⟨_,rfl,?_⟩;replace BK525:=yam (ybb BK525.out hb);replace HB:=yam (below_step yhb hb);(try clear hb)))
  go_ret
  exact ⟨yer,yhb⟩
 obtain rfl:=ysi H
 go_enter Try.func30,Try.ntmps30
 go_wp2_with (first|(refine ybe 2 #[.int .i64 a0_0,.slice A0_1 l0_1.length c0_1,.slice A0_2 l0_2.length c0_2] 48 ?_;intro gb525 hg w12 hbox hb;have BK525:=yam (hbox);have GW525:=yam ((by rw [hg];exact (below_size (yez HB.out)):w.heap.size≤gb525));replace HB:=yam (below_step (yez HB.out) hb);have GE525:=GW525;clear hb hbox hg;obtain ⟨hcz13_0,hcz13_1,hcz13_2,hfz13_0,hfz13_1,hfz13_2⟩:=ybc BK525.out)|(refine goesL_ (some 8) rfl rfl Try.func61 (by kernel_rfl) rfl #[.slice A0_1 l0_1.length c0_1,.int .i64 a1] rfl ymd ?_;(with_reducible refine (laws_szIntS.calls _ _ l0_1 a1 t526 _ ?_ ?_ A3.out).mono ?_);exact Kd.Cz ((Kd.C_below HR0_1.out HB.out));exact HC0_1.out;rintro e w' ⟨rfl,⟨nd,rfl⟩⟩;refine ⟨_,rfl,?_⟩)|(refine goesL_ (some 14) rfl rfl Try.func20 (by kernel_rfl) rfl #[.slice A0_2 l0_2.length c0_2,.int .i64 t526] rfl ymd ?_;(with_reducible refine (laws_szRuleS.calls k _ _ l0_2 t526 t527 _ ?side1 ?side2 A7.out).mono ?_);(case side1=>repeat (first|exact (Kd.C_below HR0_2.out yhb)|(with_reducible refine Kd.C_alloc ?_ _)|(with_reducible refine Kd.C_drewN ?_ _)|(with_reducible refine Kd.C_drew ?_)));(case side2=>exact HC0_2.out);rintro e w14 ⟨rfl,hb⟩;refine ⟨_,rfl,?_⟩;replace BK525:=yam (ybb BK525.out hb);replace HB:=yam (below_step yhb hb);(try clear hb)))
 go_ret
 exact ⟨yer,yhb⟩
def laws_toIntS.l0:Nat→List Int→List Int→Int→Option (List Int)
 | 0,_,_,_=>none
 | k + 1,x0,x3,x4=>if x4 < (x0.length:Int) then (if 0≤x4 then (if x4 < (x3.length:Int) then (laws_toIntS.l0 k x0 (x3.set (x4:Int).toNat (rd x0 x4)) (wrap64 (x4 + 1))) else (none)) else (none)) else (some x3)
def laws_toIntS.f (k:Nat)(l0:List Int):Option (List Int):=if 0≤(l0.length:Int) then (if ((l0.length:Int):Int).toNat≤35184372088832 then (laws_toIntS.l0 k l0 (List.replicate ((l0.length:Int):Int).toNat 0) 0) else (none)) else (none)
theorem laws_toIntS.calls (k:Nat)(A0:Option Addr)(c0:Nat)(l0:List Int)(r:List Int)(w:World)(hr0:Kd.C (Kd.int .i64) w A0 l0.length l0)(hc0:l0.length≤c0)(h:laws_toIntS.f k l0=some r) :
  Calls Try.prog 22 #[.slice A0 l0.length c0] w fun e w'=>∃ v0_:Value,e= .returned (v0_)∧Kd.R (Kd.int .i64) 3 w' w.heap.size (fun _=>True) v0_ r∧Below w.heap.size w w':=by
 have HR0:=yam hr0
 have HC0:=yam hc0
 clear hr0 hc0
 have HB:=yam (Below.refl w.heap.size w)
 unfold laws_toIntS.f at h
 have H:=h
 clear h
 replace H:=yit H;obtain ⟨c2,H⟩ | ⟨c2,H⟩:=H
 rotate_left
 ·exact absurd H (by simp)
 have c2b0:=eq_true c2
 have c2b1:decide (0≤(l0.length:Int))=true:=decide_eq_true c2
 clear c2
 replace H:=yig H;obtain ⟨c3,H⟩:=H
 have c3b0:=eq_true c3
 have c3b1:decide (((l0.length:Int):Int).toNat≤35184372088832)=true:=decide_eq_true c3
 clear c3
 obtain ⟨y448,Ny448⟩:∃ y_:List Int,Aside0 (y_=(List.replicate ((l0.length:Int):Int).toNat 0)):=⟨_,⟨rfl⟩⟩
 replace H:(laws_toIntS.l0 k l0 y448 0)=some r:=yhn Ny448.out H
 replace H:=yam H
 go_enter Try.func22,Try.ntmps22
 go_wp2_with (first|((with_reducible refine gate_dst (N:=7) rfl ?_);refine Kd.R_make (Kd.int .i64) _ 3 rfl (N:=7) rfl 22 _ _ rfl (l0.length:Int) rfl rfl Try.underlying22 (.int .i64 0) 8 info3 rfl (by decide) (by omega) 0 (ok:=fun _=>True) (okp:=fun _=>True) rfl (fun _ hk=>hk) trivial (ydt) (Nat.le_trans (Nat.mul_le_mul_right _ (ydt:(l0.length:Int).toNat≤35184372088832)) (by omega)) (Below.refl _ _) (Nat.le_refl _) ?_;intro v449 w4 ho5 hb hg_ hnew_;clear hg_ hnew_;(first|rw [← Ny448.out] at ho5|(simp only [Int.reduceToNat] at ho5;rw [← Ny448.out] at ho5));have HO450:=yam (Kd.R_lower ho5 (below_size (yez HB.out)));replace HB:=yam (below_step (yez HB.out) hb);clear hb ho5))
 go_loopg [4] k (fun kq v4 w'=>∃ (x3_1:List Int) (x4_1:Int),v4= .int .i64 x4_1∧Aside0 (laws_toIntS.l0 kq l0 x3_1 x4_1=some r)∧Aside0 (kq≤k)∧Aside0 (Kd.R (Kd.int .i64) 3 w' w.heap.size (fun _=>True) v449 x3_1)∧Aside0 (Below w.heap.size w w'))
 case atStart=>exact ⟨(y448),(0),yeq,H,⟨Nat.le_refl _⟩,⟨yka HO450.out⟩,⟨yhb⟩⟩
 case round =>
  clear H
  try clear c2b0
  try clear c2b1
  try clear c3b0
  try clear c3b1
  obtain ⟨x3_1,x4_1,rfl,HA,HK1,HO_3,HB⟩:=hrel
  rcases gk with _|k1
  ·exact absurd HA.out (by simp [laws_toIntS.l0])
  obtain ⟨H⟩:=HA
  simp only [laws_toIntS.l0] at H
  replace H:=yis H;obtain ⟨c6b0,H⟩ | ⟨c6b0,H⟩:=H
  rotate_left
  ·obtain rfl:=ysi H
   go_wp2
   go_ret
   exact ⟨_,yer,yka HO_3.out,yhb⟩
  replace H:=yif H;obtain ⟨c7b0,H⟩:=H
  replace H:=yif H;obtain ⟨c8b0,H⟩:=H
  obtain ⟨y452,Ny452⟩:∃ y_:List Int,Aside0 (y_=(x3_1.set (x4_1:Int).toNat (rd l0 x4_1))):=⟨_,⟨rfl⟩⟩
  replace H:(laws_toIntS.l0 k1 l0 y452 (wrap64 (x4_1 + 1)))=some r:=yhn Ny452.out H
  replace H:=yam H
  obtain ⟨ad451,e451,hx451_0,p451,q451⟩:=yat HR0.out x4_1
  cases e451
  replace hx451_0:=ybx HB.out hx451_0
  have p9:0≤(x4_1:Int):=ydt
  have q9:(x4_1:Int) < ((x3_1.length:Int):Int):=ydt
  obtain ⟨go9,co9,eo9,gb9,gl9,cl9,HG9⟩:=Kd.R_form HO_3.out (by omega)
  (first|cases eo9|(injection eo9 with ea_ en_ ec_;(first|subst ea_|(injection ea_ with ea_;subst ea_));subst ec_;clear en_))
  have GB9:=yam gb9
  have GG9:=yam HG9
  clear gb9 gl9 HG9
  obtain ⟨hx9_0,hf9_0⟩:=Kd.R_celln 0 HO_3.out (x4_1:Int) p9 q9
  replace p9:=eq_true p9
  replace q9:=eq_true q9
  have HP10:=Kd.R_putg HO_3.out (x4_1:Int) (rd l0 x4_1)
  go_wp2_with (first|((with_reducible refine gate_store (t:=3) (p:=20) rfl ?_);refine store_event (t:=3) (p:=20) (v:=?vo_w11) (w1:=(wr.setCell ⟨go9,(x4_1:Int).toNat,none⟩ (.int .i64 (rd l0 x4_1)))) ?hg ?ho ?hn ?hr ?_;(case ho=>rfl);(case hg=>rfl);(case hn=>rfl);(case hr=>first|(go_simp;done)|(go_simp;rfl));intro w11 hw;have hg:wr.grownBy w11 (some go9):=(by rw [hw];exact HP10.2);have hp_:Kd.R (Kd.int .i64) 3 w11 w.heap.size (fun _=>True) (.slice (some ⟨go9,0,none⟩) x3_1.length co9) y452:=(by rw [hw,Ny452.out];exact HP10.1);clear HP10;replace HO_3:=yam (hp_);replace HB:=yam ((by rw [hw];exact below_set (HB.out) GB9.out:Below w.heap.size w w11));clear hg hw hp_))
  go_roundg k1
  case measure=>have:=HK1.out;omega
  case rel=>exact ⟨(y452),(wrap64 (x4_1 + 1)),yeq,H,⟨by have:=HK1.out;omega⟩,⟨yka HO_3.out⟩,⟨yhb⟩⟩
def laws_toRule.f (k:Nat)(a0_0:Int)(l0_1:List Int)(a0_2:Int):Option (Int × List Int × Int):=(laws_toIntS.f k l0_1).bind fun t456=>(some (a0_0,t456,a0_2))
theorem laws_toRule.calls (k:Nat)(a0_0:Int)(A0_1:Option Addr)(c0_1:Nat)(l0_1:List Int)(a0_2:Int)(r1:Int)(r2:List Int)(r3:Int)(w:World)(hr0_1:Kd.C (Kd.int .i64) w A0_1 l0_1.length l0_1)(hc0_1:l0_1.length≤c0_1)(h:laws_toRule.f k a0_0 l0_1 a0_2=some (r1,r2,r3)) :
  Calls Try.prog 56 #[.agg #[.int .i64 a0_0,.slice A0_1 l0_1.length c0_1,.int .i64 a0_2]] w fun e w'=>∃ v1_:Value,e= .returned (.agg #[.int .i64 r1,v1_,.int .i64 r3])∧Kd.R (Kd.int .i64) 3 w' w.heap.size (fun _=>True) v1_ r2∧Below w.heap.size w w':=by
 have hu70:=Try.underlying70
 have hu73:=Try.underlying73
 have HR0_1:=yam hr0_1
 have HC0_1:=yam hc0_1
 clear hr0_1 hc0_1
 have HB:=yam (Below.refl w.heap.size w)
 unfold laws_toRule.f at h
 have H:=h
 clear h
 replace H:=ybi H;obtain ⟨t456,A2,H⟩:=H
 replace H:(some (a0_0,t456,a0_2))=some (r1,r2,r3):=H
 simp only [Option.some.injEq,Prod.mk.injEq] at H
 obtain ⟨rfl,rfl,rfl⟩:=H
 go_enter Try.func56,Try.ntmps56
 go_wp2_with (first|(refine ybe 1 #[.int .i64 a0_0,.slice A0_1 l0_1.length c0_1,.int .i64 a0_2] 70 ?_;intro gb453 hg w3 hbox hb;have BK453:=yam (hbox);have GW453:=yam ((by rw [hg];exact (below_size (yez HB.out)):w.heap.size≤gb453));replace HB:=yam (below_step (yez HB.out) hb);have GE453:=GW453;clear hb hbox hg)|(refine ybe 2 #[.int .i64 0,.slice none 0 0,.int .i64 0] 73 ?_;intro gb454 hg w4 hbox hb;have BK454:=yam (hbox);have GW454:=yam ((by rw [hg];exact (below_size yhb):w.heap.size≤gb454));replace HB:=yam (below_step yhb hb);have GE454:=GW454;have NB453_454:=yam ((by rw [hg];exact Nat.ne_of_lt (blk_lt (g:=gb453) (o:= .cells #[.int .i64 a0_0,.slice A0_1 l0_1.length c0_1,.int .i64 a0_2] 70 (0,0)) (ybz BK453.out)):gb453≠gb454));have NB454_453:=yam ((by rw [hg];exact Nat.ne_of_gt (blk_lt (g:=gb453) (o:= .cells #[.int .i64 a0_0,.slice A0_1 l0_1.length c0_1,.int .i64 a0_2] 70 (0,0)) (ybz BK453.out)):gb454≠gb453));replace BK453:=yam (ybb BK453.out hb);clear hb hbox hg)|(refine ybe 3 #[.int .i64 0,.slice none 0 0,.int .i64 0] 73 ?_;intro gb455 hg w5 hbox hb;have BK455:=yam (hbox);have GW455:=yam ((by rw [hg];exact (below_size yhb):w.heap.size≤gb455));replace HB:=yam (below_step yhb hb);have GE455:=GW455;have NB453_455:=yam ((by rw [hg];exact Nat.ne_of_lt (blk_lt (g:=gb453) (o:= .cells #[.int .i64 a0_0,.slice A0_1 l0_1.length c0_1,.int .i64 a0_2] 70 (0,0)) (ybz BK453.out)):gb453≠gb455));have NB455_453:=yam ((by rw [hg];exact Nat.ne_of_gt (blk_lt (g:=gb453) (o:= .cells #[.int .i64 a0_0,.slice A0_1 l0_1.length c0_1,.int .i64 a0_2] 70 (0,0)) (ybz BK453.out)):gb455≠gb453));replace BK453:=yam (ybb BK453.out hb);have NB454_455:=yam ((by rw [hg];exact Nat.ne_of_lt (blk_lt (g:=gb454) (o:= .cells #[.int .i64 0,.slice none 0 0,.int .i64 0] 73 (0,0)) (ybz BK454.out)):gb454≠gb455));have NB455_454:=yam ((by rw [hg];exact Nat.ne_of_gt (blk_lt (g:=gb454) (o:= .cells #[.int .i64 0,.slice none 0 0,.int .i64 0] 73 (0,0)) (ybz BK454.out)):gb455≠gb454));replace BK454:=yam (ybb BK454.out hb);clear hb hbox hg;have hnb6:=NB453_454.out;have hnc6:=NB454_453.out;have hnb7:=NB453_455.out;have hnc7:=NB455_453.out;obtain ⟨hcz8_0,hcz8_1,hcz8_2,hfz8_0,hfz8_1,hfz8_2⟩:=ybc BK453.out;have hnb9:=NB455_454.out;have hnc9:=NB454_455.out;obtain ⟨hcz10_0,hcz10_1,hcz10_2,hfz10_0,hfz10_1,hfz10_2⟩:=ybc BK455.out)|(refine goesL_ (some 9) rfl rfl Try.func22 (by kernel_rfl) rfl #[.slice A0_1 l0_1.length c0_1] rfl ymd ?_;(with_reducible refine (laws_toIntS.calls k _ _ l0_1 t456 _ ?_ ?_ A2.out).mono ?_);exact Kd.C_below HR0_1.out yhb;exact HC0_1.out;rintro e w11 ⟨v457,rfl,ho0,hb⟩;refine ⟨_,rfl,?_⟩;have HO458:=yam (Kd.R_lower ho0 (below_size yhb));replace BK453:=yam (blk_below (g:=gb453) (o:= .cells #[.int .i64 a0_0,.slice A0_1 l0_1.length c0_1,.int .i64 a0_2] 70 (0,0)) (by (with_reducible repeat (first|refine ybn ?_ _|refine ybd ?_|refine yba ?_ _));refine blk_far ?_ NB453_455.out _;(with_reducible repeat (first|refine ybn ?_ _|refine ybd ?_|refine yba ?_ _));exact BK453.out) hb);replace BK454:=yam (blk_below (g:=gb454) (o:= .cells #[.int .i64 0,.slice none 0 0,.int .i64 0] 73 (0,0)) (by (with_reducible repeat (first|refine ybn ?_ _|refine ybd ?_|refine yba ?_ _));refine blk_far ?_ NB454_455.out _;(with_reducible repeat (first|refine ybn ?_ _|refine ybd ?_|refine yba ?_ _));exact BK454.out) hb);replace BK455:=yam (blk_below (g:=gb455) (o:= .cells #[.int .i64 a0_0,.slice none 0 0,.int .i64 0] 73 (0,0)) (by (with_reducible repeat (first|refine ybn ?_ _|refine ybd ?_|refine yba ?_ _));refine blk_put (cs:= #[.int .i64 0,.slice none 0 0,.int .i64 0]) ?_ 0 _ rfl;(with_reducible repeat (first|refine ybn ?_ _|refine ybd ?_|refine yba ?_ _));exact BK455.out) hb);replace HB:=yam (below_step yhb hb);(try clear hb);(try clear ho0);obtain ⟨Ao12,co12,eo12⟩:=Kd.R_slice HO458.out;subst eo12;obtain ⟨hcz13_0,hcz13_1,hcz13_2,hfz13_0,hfz13_1,hfz13_2⟩:=ybc BK455.out;obtain ⟨hcz14_0,hcz14_1,hcz14_2,hfz14_0,hfz14_1,hfz14_2⟩:=ybc BK453.out;obtain ⟨hcz15_0,hcz15_1,hcz15_2,hfz15_0,hfz15_1,hfz15_2⟩:=ybc BK454.out))
 refine bodyPost_ret (results_cell_row rfl _ _ gb454 73 #[.int .i64 a0_0,.slice Ao12 t456.length co12,.int .i64 a0_2] (0,0) _ rfl (by (with_reducible repeat (first|refine ybn ?_ _|refine ybd ?_|refine yba ?_ _));refine blk_put (cs:= #[.int .i64 a0_0,.slice Ao12 t456.length co12,.int .i64 0]) ?_ 2 _ rfl;(with_reducible repeat (first|refine ybn ?_ _|refine ybd ?_|refine yba ?_ _));refine blk_put (cs:= #[.int .i64 a0_0,.slice none 0 0,.int .i64 0]) ?_ 1 _ rfl;(with_reducible repeat (first|refine ybn ?_ _|refine ybd ?_|refine yba ?_ _));refine blk_put (cs:= #[.int .i64 0,.slice none 0 0,.int .i64 0]) ?_ 0 _ rfl;(with_reducible repeat (first|refine ybn ?_ _|refine ybd ?_|refine yba ?_ _));refine blk_far ?_ NB454_455.out _;(with_reducible repeat (first|refine ybn ?_ _|refine ybd ?_|refine yba ?_ _));refine blk_far ?_ NB454_455.out _;(with_reducible repeat (first|refine ybn ?_ _|refine ybd ?_|refine yba ?_ _));exact BK454.out) Try.underlying73 rfl (by kernel_rfl)) rfl ?_
 exact ⟨_,yer,by (with_reducible repeat (first|apply Kd.Ya|apply Kd.Yn|apply Kd.Yd));exact Kd.R_mono (Kd.R_far (p:=⟨gb454,2,none⟩) (Kd.R_far (p:=⟨gb454,1,none⟩) (Kd.R_far (p:=⟨gb454,0,none⟩) (Kd.R_far (p:=⟨gb455,2,none⟩) (Kd.R_far (p:=⟨gb455,1,none⟩) (Kd.R_types (Kd.R_types HO458.out BK455.out (by decide)) BK454.out (by decide)) (fun _ hk=>hk.1.2) (.slice Ao12 t456.length co12)) (fun _ hk=>hk.1.2) (.int .i64 a0_2)) (fun _ hk=>hk.2) (.int .i64 a0_0)) (fun _ hk=>hk.2) (.slice Ao12 t456.length co12)) (fun _ hk=>hk.2) (.int .i64 a0_2)) (fun _ hk=>trivial),yhb⟩
def laws_toRuleS.l0:Nat→List (S70)→List (S73)→Int→Option ((List (S73)))
 | 0,_,_,_=>none
 | k + 1,x0,x3,x4=>if x4 < (x0.length:Int) then (if 0≤x4 then ((laws_toRule.f k ((rd_T70 x0 x4).f0) ((rd_T70 x0 x4).f1) ((rd_T70 x0 x4).f2)).bind fun bt463=>(if x4 < (x3.length:Int) then (laws_toRuleS.l0 k x0 (x3.set (x4:Int).toNat (⟨bt463.1,bt463.2.1,bt463.2.2⟩:S73)) (wrap64 (x4 + 1))) else (none))) else (none)) else (some x3)
def laws_toRuleS.f (k:Nat)(l0:List (S70)):Option ((List (S73))):=if 0≤(l0.length:Int) then (if ((l0.length:Int):Int).toNat≤7036874417766 then (laws_toRuleS.l0 k l0 (List.replicate ((l0.length:Int):Int).toNat z73) 0) else (none)) else (none)
theorem laws_toRuleS.calls (k:Nat)(A0:Option Addr)(c0:Nat)(l0:List (S70))(r:List (S73))(w:World)(hr0:Kd.C k70 w A0 l0.length l0)(hc0:l0.length≤c0)(h:laws_toRuleS.f k l0=some r) :
  Calls Try.prog 23 #[.slice A0 l0.length c0] w fun e w'=>∃ v0_:Value,e= .returned (v0_)∧Kd.S k73 73 w' w.heap.size (fun _=>True) v0_ r∧Below w.heap.size w w':=by
 have hu70:=Try.underlying70
 have hu73:=Try.underlying73
 have HR0:=yam hr0
 have HC0:=yam hc0
 clear hr0 hc0
 have HB:=yam (Below.refl w.heap.size w)
 unfold laws_toRuleS.f at h
 have H:=h
 clear h
 replace H:=yit H;obtain ⟨c2,H⟩ | ⟨c2,H⟩:=H
 rotate_left
 ·exact absurd H (by simp)
 have c2b0:=eq_true c2
 have c2b1:decide (0≤(l0.length:Int))=true:=decide_eq_true c2
 clear c2
 replace H:=yig H;obtain ⟨c3,H⟩:=H
 have c3b0:=eq_true c3
 have c3b1:decide (((l0.length:Int):Int).toNat≤7036874417766)=true:=decide_eq_true c3
 clear c3
 obtain ⟨y459,Ny459⟩:∃ y_:List (S73),Aside0 (y_=(List.replicate ((l0.length:Int):Int).toNat z73)):=⟨_,⟨rfl⟩⟩
 replace H:(laws_toRuleS.l0 k l0 y459 0)=some r:=yhn Ny459.out H
 replace H:=yam H
 go_enter Try.func23,Try.ntmps23
 go_wp2_with (first|((with_reducible refine gate_dst (N:=7) rfl ?_);refine Kd.S_make k73 _ 73 rfl (N:=7) rfl 35 _ _ rfl (l0.length:Int) rfl rfl Try.underlying35 (.agg #[(.int .i64 0),(.slice none 0 0),(.int .i64 0)]) 40 info73 rfl (by decide) (by omega) z73 (ok:=fun _=>True) (okp:=fun _=>True) (k73_mkM _ _ _ z73 (Kd.R_nil _ _ _ _ _)) (fun _ hk=>hk) trivial (ydt) (Nat.le_trans (Nat.mul_le_mul_right _ (ydt:(l0.length:Int).toNat≤7036874417766)) (by omega)) (Below.refl _ _) (Nat.le_refl _) ?_;intro v460 w4 ho5 hb hg_ hnew_;clear hg_ hnew_;(first|rw [← Ny459.out] at ho5|(simp only [Int.reduceToNat] at ho5;rw [← Ny459.out] at ho5));have HO461:=yam (Kd.S_lower ho5 (below_size (yez HB.out)));replace HB:=yam (below_step (yez HB.out) hb);clear hb ho5))
 go_loopg [4] k (fun kq v4 w'=>∃ (x3_1:List (S73)) (x4_1:Int),v4= .int .i64 x4_1∧Aside0 (laws_toRuleS.l0 kq l0 x3_1 x4_1=some r)∧Aside0 (kq≤k)∧Aside0 (Kd.S k73 73 w' w.heap.size (fun _=>True) v460 x3_1)∧Aside0 (Below w.heap.size w w'))
 case atStart=>exact ⟨(y459),(0),yeq,H,⟨Nat.le_refl _⟩,⟨by (with_reducible repeat (first|apply Kd.S_alloc|apply Kd.S_drewN|apply Kd.S_drew));exact HO461.out⟩,⟨yhb⟩⟩
 case round =>
  clear H
  try clear c2b0
  try clear c2b1
  try clear c3b0
  try clear c3b1
  obtain ⟨x3_1,x4_1,rfl,HA,HK1,HO_3,HB⟩:=hrel
  rcases gk with _|k1
  ·exact absurd HA.out (by simp [laws_toRuleS.l0])
  obtain ⟨H⟩:=HA
  simp only [laws_toRuleS.l0] at H
  replace H:=yis H;obtain ⟨c6b0,H⟩ | ⟨c6b0,H⟩:=H
  rotate_left
  ·obtain rfl:=ysi H
   go_wp2
   go_ret
   exact ⟨_,yer,by (with_reducible repeat (first|apply Kd.S_alloc|apply Kd.S_drewN|apply Kd.S_drew));exact HO_3.out,yhb⟩
  replace H:=yif H;obtain ⟨c7b0,H⟩:=H
  replace H:=ybi H;obtain ⟨⟨t463,t464,t467⟩,A8,H⟩:=H
  try dsimp only at H
  replace H:=yif H;obtain ⟨c9b0,H⟩:=H
  obtain ⟨y468,Ny468⟩:∃ y_:List (S73),Aside0 (y_=(x3_1.set (x4_1:Int).toNat (⟨t463,t464,t467⟩:S73))):=⟨_,⟨rfl⟩⟩
  replace H:(laws_toRuleS.l0 k1 l0 y468 (wrap64 (x4_1 + 1)))=some r:=yhn Ny468.out H
  replace H:=yam H
  have p462:0≤(x4_1:Int):=ydt
  have q462:x4_1 < (l0.length:Int):=ydt
  obtain ⟨ad462,A462_1,c462_1,e462,hx462_0,hx462_1,hx462_2,hl462_1,hi462_1⟩:=at_T70 HR0.out x4_1 p462 q462
  cases e462
  replace hx462_0:=ybx HB.out hx462_0
  replace hx462_1:=ybx HB.out hx462_1
  replace hx462_2:=ybx HB.out hx462_2
  have HR462_1:=yam hi462_1
  have HC462_1:=yam hl462_1
  clear hi462_1 hl462_1
  replace p462:=eq_true p462
  replace q462:=eq_true q462
  go_wp2_with (first|(refine goesL_ (some 20) rfl rfl Try.func56 (by kernel_rfl) rfl #[.agg #[.int .i64 ((rd_T70 l0 x4_1).f0),.slice A462_1 ((rd_T70 l0 x4_1).f1).length c462_1,.int .i64 ((rd_T70 l0 x4_1).f2)]] rfl ymd ?_;(with_reducible refine (laws_toRule.calls k1 ((rd_T70 l0 x4_1).f0) _ _ ((rd_T70 l0 x4_1).f1) ((rd_T70 l0 x4_1).f2) t463 t464 t467 _ ?_ ?_ A8.out).mono ?_);exact Kd.Cz ((Kd.C_below HR462_1.out HB.out));exact HC462_1.out;rintro e w11 ⟨v465,rfl,ho0,hb⟩;obtain ⟨Aq_v465,cq_v465,eq_v465⟩:=Kd.R_slice ho0;subst eq_v465;refine ⟨_,rfl,?_⟩;replace HO_3:=yam (Kd.S_elder' (by (with_reducible repeat (first|apply Kd.S_alloc|apply Kd.S_drewN|apply Kd.S_drew));exact HO_3.out) (Kd.Yb ho0) hb);have HO466:=yam (Kd.R_lower ho0 (below_size (yez HB.out)));replace HB:=yam (below_step (yez HB.out) hb);(try clear hb);(try clear ho0);have p10:0≤(x4_1:Int):=ydt;have q10:(x4_1:Int) < ((x3_1.length:Int):Int):=ydt;obtain ⟨go10,co10,eo10,gb10,gl10,cl10,HG10⟩:=Kd.S_form HO_3.out (by omega);(first|cases eo10|(injection eo10 with ea_ en_ ec_;(first|subst ea_|(injection ea_ with ea_;subst ea_));subst ec_;clear en_));have GB10:=yam gb10;have GG10:=yam HG10;clear gb10 gl10 HG10;obtain ⟨_,ce10,hcl10,hM10,hcc10,hfr10,_,_⟩:=Kd.S_elem HO_3.out z73 (x4_1:Int) p10 q10;obtain ⟨ve10_1,rfl,ge10_1⟩:=k73_openM hM10;have hx10_0:w11.cell? ⟨go10,(x4_1:Int).toNat * 3,none⟩=some (.int .i64 ((rd_T73 x3_1 x4_1).f0)):=hcc10 0 _ rfl;have hx10_1:w11.cell? ⟨go10,(x4_1:Int).toNat * 3 + 1,none⟩=some (ve10_1):=hcc10 1 _ rfl;have hx10_2:w11.cell? ⟨go10,(x4_1:Int).toNat * 3 + 2,none⟩=some (.int .i64 ((rd_T73 x3_1 x4_1).f2)):=hcc10 2 _ rfl;have hf10_0:w11.frozen? ⟨go10,(x4_1:Int).toNat * 3,none⟩=false:=hfr10 0;have hf10_1:w11.frozen? ⟨go10,(x4_1:Int).toNat * 3 + 1,none⟩=false:=hfr10 1;have hf10_2:w11.frozen? ⟨go10,(x4_1:Int).toNat * 3 + 2,none⟩=false:=hfr10 2;clear hcl10 hcc10 hfr10 hM10;replace p10:=eq_true p10;replace q10:=eq_true q10;have n_:=yam (Kd.S_mono (ok':=(fun k_=>some k_≠((.slice Aq_v465 (t464).length cq_v465):Value).ownBlock)) HO_3.out (fun k_ hk=>hk.2));clear HO_3;have HO_3:=n_;clear n_;have HX12:=yam (show Kd.S k73 73 w11 w.heap.size (fun k_=>((fun _=>True)) k_∧¬ ((fun k_=>some k_=((.slice Aq_v465 (t464).length cq_v465):Value).ownBlock)) k_) (.slice (some ⟨go10,0,none⟩) x3_1.length co10) x3_1 from (by (with_reducible repeat (first|apply Kd.S_alloc|apply Kd.S_drewN|apply Kd.S_drew));exact Kd.S_mono HO_3.out (fun k_ hk=>⟨trivial,fun e_=>hk e_⟩)));obtain ⟨oki12,ce12,hcl12,hM12,hcc12,hfr12,hoki12,hH12⟩:=Kd.S_elem HX12.out z73 (x4_1:Int) (ydt) (by have h_:(x4_1:Int) < ((x3_1.length:Int):Int):=ydt;first|exact h_|(have e_:=(Kd.S_reads' HO_3.out).1;omega)|simpa using h_);obtain ⟨ve12_1,rfl,ge12_1⟩:=k73_openM hM12;have HP12:=Kd.S_seg hH12 (ydt) (by have h_:(x4_1:Int) < ((x3_1.length:Int):Int):=ydt;first|exact h_|(have e_:=(Kd.S_reads' HO_3.out).1;omega)|simpa using h_) (seg:=[.int .i64 t463,(.slice Aq_v465 (t464).length cq_v465),.int .i64 t467]) (j:=0) (show 3≤3 from by decide) (x':=(⟨t463,t464,t467⟩:S73)) (k73_mkM _ _ _ (⟨t463,t464,t467⟩:S73) (Kd.R_mono (Kd.R_tight rfl (Kd.R_mono (ok':=fun k_=>((fun _=>True)) k_∧k_≠go10) (Kd.R_apart' (HO466.out) (Kd.S_typed HO_3.out) (by decide)) (fun k_ hk=>⟨trivial,fun e_=>(hk.2) (by rw [e_];rfl)⟩))) (fun _ h_=>Or.inr (h_)))) (fun _ hk=>hk) (fun k_ hk_=>((Kd.R_mono (ok':=fun k_=>((fun _=>True)) k_∧k_≠go10) (Kd.R_apart' (HO466.out) (Kd.S_typed HO_3.out) (by decide)) (fun k_ hk=>⟨trivial,fun e_=>(hk.2) (by rw [e_];rfl)⟩))).1 k_ hk_.symm);have hx12_0:=hcc12 0 _ rfl;(try simp only [show (k73).sz=3 from rfl,Nat.mul_one,Nat.add_zero] at hx12_0);have hf12_0:=hfr12 0;(try simp only [show (k73).sz=3 from rfl,Nat.mul_one,Nat.add_zero] at hf12_0);have hx12_1:=hcc12 1 _ rfl;(try simp only [show (k73).sz=3 from rfl,Nat.mul_one,Nat.add_zero] at hx12_1);have hf12_1:=hfr12 1;(try simp only [show (k73).sz=3 from rfl,Nat.mul_one,Nat.add_zero] at hf12_1);have hx12_2:=hcc12 2 _ rfl;(try simp only [show (k73).sz=3 from rfl,Nat.mul_one,Nat.add_zero] at hx12_2);have hf12_2:=hfr12 2;(try simp only [show (k73).sz=3 from rfl,Nat.mul_one,Nat.add_zero] at hf12_2);clear hcl12 hcc12 hfr12 hM12 hoki12 hH12)|((with_reducible refine gate_store (t:=73) (p:=21) rfl ?_);refine store_event (t:=73) (p:=21) (v:=?vo_w13) (w1:=(((w11.setCell ⟨go10,(x4_1:Int).toNat * 3,none⟩ (.int .i64 t463)).setCell ⟨go10,(x4_1:Int).toNat * 3 + 1,none⟩ ((.slice Aq_v465 (t464).length cq_v465))).setCell ⟨go10,(x4_1:Int).toNat * 3 + 2,none⟩ (.int .i64 t467))) ?hg ?ho ?hn ?hr ?_;(case ho=>rfl);(case hg=>rfl);(case hn=>rfl);(case hr=>first|(go_simp;done)|(go_simp;rfl));intro w13 hw;have hg:w11.grownBy w13 (some go10):=(by rw [hw];exact HP12.2);have hp_:Kd.S k73 73 w13 w.heap.size (fun _=>True) (.slice (some ⟨go10,0,none⟩) x3_1.length co10) y468:=(by rw [hw,Ny468.out];exact HP12.1);clear HP12;replace HO_3:=yam (hp_);replace HB:=yam ((by rw [hw];exact below_set (below_set (below_set (HB.out) GB10.out) GB10.out) GB10.out:Below w.heap.size w w13));clear HO466;clear hg hw hp_))
  go_roundg k1
  case measure=>have:=HK1.out;omega
  case rel=>exact ⟨(y468),(wrap64 (x4_1 + 1)),yeq,H,⟨by have:=HK1.out;omega⟩,⟨by (with_reducible repeat (first|apply Kd.S_alloc|apply Kd.S_drewN|apply Kd.S_drew));exact HO_3.out⟩,⟨yhb⟩⟩
def laws_toPuzzle.f (k:Nat)(a0_0:Int)(l0_1:List Int)(l0_2:List (S70)):Option (Int × List Int × (List (S73))):=(laws_toIntS.f k l0_1).bind fun t537=>((laws_toRuleS.f k l0_2).bind fun t540=>(some (a0_0,t537,t540)))
theorem laws_toPuzzle.calls (k:Nat)(a0_0:Int)(A0_1:Option Addr)(c0_1:Nat)(l0_1:List Int)(A0_2:Option Addr)(c0_2:Nat)(l0_2:List (S70))(r1:Int)(r2:List Int)(r3:List (S73))(w:World)(hr0_1:Kd.C (Kd.int .i64) w A0_1 l0_1.length l0_1)(hc0_1:l0_1.length≤c0_1)(hr0_2:Kd.C k70 w A0_2 l0_2.length l0_2)(hc0_2:l0_2.length≤c0_2)(h:laws_toPuzzle.f k a0_0 l0_1 l0_2=some (r1,r2,r3)) :
  Calls Try.prog 32 #[.agg #[.int .i64 a0_0,.slice A0_1 l0_1.length c0_1,.slice A0_2 l0_2.length c0_2]] w fun e w'=>∃ v1_ v2_:Value,e= .returned (.agg #[.int .i64 r1,v1_,v2_])∧Kd.R (Kd.int .i64) 3 w' w.heap.size (fun _=>True) v1_ r2∧Kd.S k73 73 w' w.heap.size (fun k_=>some k_≠(v1_:Value).ownBlock) v2_ r3∧Below w.heap.size w w':=by
 have hu48:=Try.underlying48
 have hu37:=Try.underlying37
 have HR0_1:=yam hr0_1
 have HC0_1:=yam hc0_1
 clear hr0_1 hc0_1
 have HR0_2:=yam hr0_2
 have HC0_2:=yam hc0_2
 clear hr0_2 hc0_2
 have HB:=yam (Below.refl w.heap.size w)
 unfold laws_toPuzzle.f at h
 have H:=h
 clear h
 replace H:=ybi H;obtain ⟨t537,A2,H⟩:=H
 replace H:((laws_toRuleS.f k l0_2).bind fun t540=>(some (a0_0,t537,t540)))=some (r1,r2,r3):=H
 replace H:=ybi H;obtain ⟨t540,A3,H⟩:=H
 replace H:(some (a0_0,t537,t540))=some (r1,r2,r3):=H
 simp only [Option.some.injEq,Prod.mk.injEq] at H
 obtain ⟨rfl,rfl,rfl⟩:=H
 go_enter Try.func32,Try.ntmps32
 go_wp2_with (first|(refine ybe 1 #[.int .i64 a0_0,.slice A0_1 l0_1.length c0_1,.slice A0_2 l0_2.length c0_2] 48 ?_;intro gb534 hg w4 hbox hb;have BK534:=yam (hbox);have GW534:=yam ((by rw [hg];exact (below_size (yez HB.out)):w.heap.size≤gb534));replace HB:=yam (below_step (yez HB.out) hb);have GE534:=GW534;clear hb hbox hg)|(refine ybe 2 #[.int .i64 0,.slice none 0 0,.slice none 0 0] 37 ?_;intro gb535 hg w5 hbox hb;have BK535:=yam (hbox);have GW535:=yam ((by rw [hg];exact (below_size yhb):w.heap.size≤gb535));replace HB:=yam (below_step yhb hb);have GE535:=GW535;have NB534_535:=yam ((by rw [hg];exact Nat.ne_of_lt (blk_lt (g:=gb534) (o:= .cells #[.int .i64 a0_0,.slice A0_1 l0_1.length c0_1,.slice A0_2 l0_2.length c0_2] 48 (0,0)) (ybz BK534.out)):gb534≠gb535));have NB535_534:=yam ((by rw [hg];exact Nat.ne_of_gt (blk_lt (g:=gb534) (o:= .cells #[.int .i64 a0_0,.slice A0_1 l0_1.length c0_1,.slice A0_2 l0_2.length c0_2] 48 (0,0)) (ybz BK534.out)):gb535≠gb534));replace BK534:=yam (ybb BK534.out hb);clear hb hbox hg)|(refine ybe 3 #[.int .i64 0,.slice none 0 0,.slice none 0 0] 37 ?_;intro gb536 hg w6 hbox hb;have BK536:=yam (hbox);have GW536:=yam ((by rw [hg];exact (below_size yhb):w.heap.size≤gb536));replace HB:=yam (below_step yhb hb);have GE536:=GW536;have NB534_536:=yam ((by rw [hg];exact Nat.ne_of_lt (blk_lt (g:=gb534) (o:= .cells #[.int .i64 a0_0,.slice A0_1 l0_1.length c0_1,.slice A0_2 l0_2.length c0_2] 48 (0,0)) (ybz BK534.out)):gb534≠gb536));have NB536_534:=yam ((by rw [hg];exact Nat.ne_of_gt (blk_lt (g:=gb534) (o:= .cells #[.int .i64 a0_0,.slice A0_1 l0_1.length c0_1,.slice A0_2 l0_2.length c0_2] 48 (0,0)) (ybz BK534.out)):gb536≠gb534));replace BK534:=yam (ybb BK534.out hb);have NB535_536:=yam ((by rw [hg];exact Nat.ne_of_lt (blk_lt (g:=gb535) (o:= .cells #[.int .i64 0,.slice none 0 0,.slice none 0 0] 37 (0,0)) (ybz BK535.out)):gb535≠gb536));have NB536_535:=yam ((by rw [hg];exact Nat.ne_of_gt (blk_lt (g:=gb535) (o:= .cells #[.int .i64 0,.slice none 0 0,.slice none 0 0] 37 (0,0)) (ybz BK535.out)):gb536≠gb535));replace BK535:=yam (ybb BK535.out hb);clear hb hbox hg;have hnb7:=NB534_535.out;have hnc7:=NB535_534.out;have hnb8:=NB534_536.out;have hnc8:=NB536_534.out;obtain ⟨hcz9_0,hcz9_1,hcz9_2,hfz9_0,hfz9_1,hfz9_2⟩:=ybc BK534.out;have hnb10:=NB536_535.out;have hnc10:=NB535_536.out;obtain ⟨hcz11_0,hcz11_1,hcz11_2,hfz11_0,hfz11_1,hfz11_2⟩:=ybc BK536.out)|(refine goesL_ (some 9) rfl rfl Try.func22 (by kernel_rfl) rfl #[.slice A0_1 l0_1.length c0_1] rfl ymd ?_;(with_reducible refine (laws_toIntS.calls k _ _ l0_1 t537 _ ?_ ?_ A2.out).mono ?_);exact Kd.C_below HR0_1.out yhb;exact HC0_1.out;rintro e w12 ⟨v538,rfl,ho0,hb⟩;refine ⟨_,rfl,?_⟩;have HO539:=yam (Kd.R_lower ho0 (below_size yhb));replace BK534:=yam (blk_below (g:=gb534) (o:= .cells #[.int .i64 a0_0,.slice A0_1 l0_1.length c0_1,.slice A0_2 l0_2.length c0_2] 48 (0,0)) (by (with_reducible repeat (first|refine ybn ?_ _|refine ybd ?_|refine yba ?_ _));refine blk_far ?_ NB534_536.out _;(with_reducible repeat (first|refine ybn ?_ _|refine ybd ?_|refine yba ?_ _));exact BK534.out) hb);replace BK535:=yam (blk_below (g:=gb535) (o:= .cells #[.int .i64 0,.slice none 0 0,.slice none 0 0] 37 (0,0)) (by (with_reducible repeat (first|refine ybn ?_ _|refine ybd ?_|refine yba ?_ _));refine blk_far ?_ NB535_536.out _;(with_reducible repeat (first|refine ybn ?_ _|refine ybd ?_|refine yba ?_ _));exact BK535.out) hb);replace BK536:=yam (blk_below (g:=gb536) (o:= .cells #[.int .i64 a0_0,.slice none 0 0,.slice none 0 0] 37 (0,0)) (by (with_reducible repeat (first|refine ybn ?_ _|refine ybd ?_|refine yba ?_ _));refine blk_put (cs:= #[.int .i64 0,.slice none 0 0,.slice none 0 0]) ?_ 0 _ rfl;(with_reducible repeat (first|refine ybn ?_ _|refine ybd ?_|refine yba ?_ _));exact BK536.out) hb);replace HB:=yam (below_step yhb hb);(try clear hb);(try clear ho0);obtain ⟨Ao13,co13,eo13⟩:=Kd.R_slice HO539.out;subst eo13;obtain ⟨hcz14_0,hcz14_1,hcz14_2,hfz14_0,hfz14_1,hfz14_2⟩:=ybc BK536.out;obtain ⟨hcz15_0,hcz15_1,hcz15_2,hfz15_0,hfz15_1,hfz15_2⟩:=ybc BK534.out)|(refine goesL_ (some 13) rfl rfl Try.func23 (by kernel_rfl) rfl #[.slice A0_2 l0_2.length c0_2] rfl ymd ?_;(with_reducible refine (laws_toRuleS.calls k _ _ l0_2 t540 _ ?_ ?_ A3.out).mono ?_);exact Kd.C_below HR0_2.out yhb;exact HC0_2.out;rintro e w16 ⟨v541,rfl,ho0,hb⟩;refine ⟨_,rfl,?_⟩;have HO542:=yam (Kd.S_lower (Kd.S_new' ho0 (Kd.R_lt (by (with_reducible repeat (first|apply Kd.Ya|apply Kd.Yn|apply Kd.Yd));exact (Kd.R_mono (Kd.R_far (p:=⟨gb536,1,none⟩) (Kd.R_types HO539.out BK536.out (by decide)) (fun _ hk=>hk.2) (.slice Ao13 t537.length co13)) (fun _ h_=>h_.1))))) (below_size yhb));replace HO539:=yam (Kd.R_below (by (with_reducible repeat (first|apply Kd.Ya|apply Kd.Yn|apply Kd.Yd));exact (Kd.R_mono (Kd.R_far (p:=⟨gb536,1,none⟩) (Kd.R_types HO539.out BK536.out (by decide)) (fun _ hk=>hk.2) (.slice Ao13 t537.length co13)) (fun _ h_=>h_.1))) hb);replace BK534:=yam (blk_below (g:=gb534) (o:= .cells #[.int .i64 a0_0,.slice A0_1 l0_1.length c0_1,.slice A0_2 l0_2.length c0_2] 48 (0,0)) (by (with_reducible repeat (first|refine ybn ?_ _|refine ybd ?_|refine yba ?_ _));refine blk_far ?_ NB534_536.out _;(with_reducible repeat (first|refine ybn ?_ _|refine ybd ?_|refine yba ?_ _));exact BK534.out) hb);replace BK535:=yam (blk_below (g:=gb535) (o:= .cells #[.int .i64 0,.slice none 0 0,.slice none 0 0] 37 (0,0)) (by (with_reducible repeat (first|refine ybn ?_ _|refine ybd ?_|refine yba ?_ _));refine blk_far ?_ NB535_536.out _;(with_reducible repeat (first|refine ybn ?_ _|refine ybd ?_|refine yba ?_ _));exact BK535.out) hb);replace BK536:=yam (blk_below (g:=gb536) (o:= .cells #[.int .i64 a0_0,.slice Ao13 t537.length co13,.slice none 0 0] 37 (0,0)) (by (with_reducible repeat (first|refine ybn ?_ _|refine ybd ?_|refine yba ?_ _));refine blk_put (cs:= #[.int .i64 a0_0,.slice none 0 0,.slice none 0 0]) ?_ 1 _ rfl;(with_reducible repeat (first|refine ybn ?_ _|refine ybd ?_|refine yba ?_ _));exact BK536.out) hb);replace HB:=yam (below_step yhb hb);(try clear hb);(try clear hk);(try clear ho0);obtain ⟨Ao17,co17,eo17⟩:=Kd.S_slice HO542.out;subst eo17;obtain ⟨hcz18_0,hcz18_1,hcz18_2,hfz18_0,hfz18_1,hfz18_2⟩:=ybc BK536.out;obtain ⟨hcz19_0,hcz19_1,hcz19_2,hfz19_0,hfz19_1,hfz19_2⟩:=ybc BK535.out))
 refine bodyPost_ret (results_cell_row rfl _ _ gb535 37 #[.int .i64 a0_0,.slice Ao13 t537.length co13,.slice Ao17 t540.length co17] (0,0) _ rfl (by (with_reducible repeat (first|refine ybn ?_ _|refine ybd ?_|refine yba ?_ _));refine blk_put (cs:= #[.int .i64 a0_0,.slice Ao13 t537.length co13,.slice none 0 0]) ?_ 2 _ rfl;(with_reducible repeat (first|refine ybn ?_ _|refine ybd ?_|refine yba ?_ _));refine blk_put (cs:= #[.int .i64 a0_0,.slice none 0 0,.slice none 0 0]) ?_ 1 _ rfl;(with_reducible repeat (first|refine ybn ?_ _|refine ybd ?_|refine yba ?_ _));refine blk_put (cs:= #[.int .i64 0,.slice none 0 0,.slice none 0 0]) ?_ 0 _ rfl;(with_reducible repeat (first|refine ybn ?_ _|refine ybd ?_|refine yba ?_ _));refine blk_far ?_ NB535_536.out _;(with_reducible repeat (first|refine ybn ?_ _|refine ybd ?_|refine yba ?_ _));exact BK535.out) Try.underlying37 rfl (by kernel_rfl)) rfl ?_
 exact ⟨_,_,yer,by (with_reducible repeat (first|apply Kd.Ya|apply Kd.Yn|apply Kd.Yd));exact Kd.R_mono (Kd.R_far (p:=⟨gb535,2,none⟩) (Kd.R_far (p:=⟨gb535,1,none⟩) (Kd.R_far (p:=⟨gb535,0,none⟩) (Kd.R_far (p:=⟨gb536,2,none⟩) (Kd.R_types (Kd.R_types HO539.out BK536.out (by decide)) BK535.out (by decide)) (fun _ hk=>hk.1.2) (.slice Ao17 t540.length co17)) (fun _ hk=>hk.2) (.int .i64 a0_0)) (fun _ hk=>hk.2) (.slice Ao13 t537.length co13)) (fun _ hk=>hk.2) (.slice Ao17 t540.length co17)) (fun _ hk=>trivial),by (with_reducible repeat (first|apply Kd.S_alloc|apply Kd.S_drewN|apply Kd.S_drew));exact Kd.S_mono (Kd.S_far (p:=⟨gb535,2,none⟩) (Kd.S_far (p:=⟨gb535,1,none⟩) (Kd.S_far (p:=⟨gb535,0,none⟩) (Kd.S_far (p:=⟨gb536,2,none⟩) (Kd.S_types (Kd.S_types HO542.out BK536.out (by decide)) BK535.out (by decide)) (fun _ hk=>hk.1.2) (.slice Ao17 t540.length co17)) (fun _ hk=>hk.2) (.int .i64 a0_0)) (fun _ hk=>hk.2) (.slice Ao13 t537.length co13)) (fun _ hk=>hk.2) (.slice Ao17 t540.length co17)) (fun _ hk=>hk.1.1.2),yhb⟩
def spec_l1In.f (a0:Int)(a1:Int)(a2:Int):Option (Bool):=if a0 ≥ a1 then (some (decide (a0≤a2))) else (some false)
theorem spec_l1In.calls (a0:Int)(a1:Int)(a2:Int)(r:Bool)(w:World)(h:spec_l1In.f a0 a1 a2=some r) :
  Calls Try.prog 42 #[.int .i64 a0,.int .i64 a1,.int .i64 a2] w fun e w'=>e= .returned (.bool r)∧Drawn0 w w':=by
 unfold spec_l1In.f at h
 have H:=h
 clear h
 replace H:=yis H;obtain ⟨c4b0,H⟩ | ⟨c4b0,H⟩:=H
 ·obtain rfl:=ysi H
  go_enter Try.func42,Try.ntmps42
  go_wp2
  go_ret
  exact ⟨yeq,by repeat (first|exact Drawn0.refl _|apply Drawn0.step)⟩
 obtain rfl:=ysi H
 go_enter Try.func42,Try.ntmps42
 go_wp2
 go_ret
 exact ⟨yeq,by repeat (first|exact Drawn0.refl _|apply Drawn0.step)⟩
end Go.Proofs.Ytmjbnghhfadapaa.P
