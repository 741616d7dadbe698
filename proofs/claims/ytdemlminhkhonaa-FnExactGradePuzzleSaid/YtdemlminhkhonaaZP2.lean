/- The machine's side: each Go function as a plain Lean function and the proof that the machine's call does what that function says; written by this session's own program over the kit's print. -/
import Derived.Test.YtdemlminhkhonaaZP1
namespace Go.Proofs.Ytdemlminhkhonaa.P
set_option maxHeartbeats 8000000
set_option maxRecDepth 100000
open Go.RowKit Go.Proofs.YtdemlminhkhonaaW.PrintWords Go.Proofs.YtdemlminhkhonaaW.PrintLast Go.Proofs.YtdemlminhkhonaaW.PrintMore
attribute [local go_sem] max2_int min2_int max_two min_two max_three min_three max_four min_four   -- for this text's walks alone
set_option linter.unusedVariables false
set_option linter.unusedSimpArgs false
def spec_MasksValid.l0:Nat→List Int→Int→Int→Option (Bool)
 | 0,_,_,_=>none
 | k + 1,x0,x1,x5=>if x5 < (x0.length:Int) then (if 0≤x5 then (if 0≤(wrap64 ((Go.bits .and .i64 x1 7) + 1)) then ((spec_l1In.f (rd x0 x5) 0 (wrap64 ((shl .i64 1 (wrap64 ((Go.bits .and .i64 x1 7) + 1))) - 2))).bind fun t124=>(if t124=true then (if (Int.tmod (rd x0 x5) 2)=0 then (spec_MasksValid.l0 k x0 x1 (wrap64 (x5 + 1))) else (some false)) else (some false))) else (none)) else (none)) else ((spec_l1In.f x1 2 4).bind fun t126=>(if t126=true then (some ((x0.length:Int) == (wrap64 (x1 * x1)))) else (some false)))
def spec_MasksValid.f (k:Nat)(l0:List Int)(a1:Int):Option (Bool):=spec_MasksValid.l0 k l0 a1 0
theorem spec_MasksValid.calls (k:Nat)(A0:Option Addr)(c0:Nat)(l0:List Int)(a1:Int)(r:Bool)(w:World)(hr0:Kd.C (Kd.int .i64) w A0 l0.length l0)(hc0:l0.length≤c0)(h:spec_MasksValid.f k l0 a1=some r) :
  Calls Try.prog 53 #[.slice A0 l0.length c0,.int .i64 a1] w fun e w'=>e= .returned (.bool r)∧Drawn0 w w':=by
 have HR0:=yam hr0
 have HC0:=yam hc0
 clear hr0 hc0
 unfold spec_MasksValid.f at h
 have H:=h
 clear h
 replace H:=yam H
 go_enter Try.func53,Try.ntmps53
 go_wp2
 repeat (go_quiet (fail);try go_wp2)
 go_loopg [5] k (fun kq v5 w'=>∃ (x5_1:Int),v5= .int .i64 x5_1∧Aside0 (spec_MasksValid.l0 kq l0 a1 x5_1=some r)∧Aside0 (kq≤k)∧Drawn0 w w')
 case atStart=>exact ⟨(0),yeq,H,⟨Nat.le_refl _⟩,by repeat (first|exact Drawn0.refl _|apply Drawn0.step)⟩
 case round =>
  clear H
  obtain ⟨x5_1,rfl,HA,HK1,⟨m1,rfl⟩⟩:=hrel
  rcases gk with _|k1
  ·exact absurd HA.out (by simp [spec_MasksValid.l0])
  obtain ⟨H⟩:=HA
  simp only [spec_MasksValid.l0] at H
  replace H:=yis H;obtain ⟨c3b0,H⟩ | ⟨c3b0,H⟩:=H
  rotate_left
  ·replace H:=ybi H;obtain ⟨t126,A11,H⟩:=H
   try dsimp only at H
   cases t126
   rotate_left
   ·replace H:=ytt H
    obtain rfl:=ysi H
    go_wp2_with (first|(go_at_call 39;(with_reducible refine (spec_l1In.calls a1 2 4 true _ A11.out).mono ?_);rintro e w' ⟨rfl,⟨nd,rfl⟩⟩;(try first|exact ⟨rfl,_,World.drewN_drewN _ _ _⟩|exact ⟨rfl,_,Eq.trans (World.drewN_drewN _ _ _) (congrArg (World.drewN _) (Nat.add_assoc _ _ _))⟩)))
    repeat (go_quiet (first|(go_at_call 39;(with_reducible refine (spec_l1In.calls a1 2 4 true _ A11.out).mono ?_);rintro e w' ⟨rfl,⟨nd,rfl⟩⟩;(try first|exact ⟨rfl,_,World.drewN_drewN _ _ _⟩|exact ⟨rfl,_,Eq.trans (World.drewN_drewN _ _ _) (congrArg (World.drewN _) (Nat.add_assoc _ _ _))⟩)));try go_wp2_with (first|(go_at_call 39;(with_reducible refine (spec_l1In.calls a1 2 4 true _ A11.out).mono ?_);rintro e w' ⟨rfl,⟨nd,rfl⟩⟩;(try first|exact ⟨rfl,_,World.drewN_drewN _ _ _⟩|exact ⟨rfl,_,Eq.trans (World.drewN_drewN _ _ _) (congrArg (World.drewN _) (Nat.add_assoc _ _ _))⟩))))
    go_ret
    exact ⟨yeq,by repeat (first|exact Drawn0.refl _|apply Drawn0.step)⟩
   replace H:=yff H
   obtain rfl:=ysi H
   go_wp2_with (first|(go_at_call 39;(with_reducible refine (spec_l1In.calls a1 2 4 false _ A11.out).mono ?_);rintro e w' ⟨rfl,⟨nd,rfl⟩⟩;(try first|exact ⟨rfl,_,World.drewN_drewN _ _ _⟩|exact ⟨rfl,_,Eq.trans (World.drewN_drewN _ _ _) (congrArg (World.drewN _) (Nat.add_assoc _ _ _))⟩)))
   repeat (go_quiet (first|(go_at_call 39;(with_reducible refine (spec_l1In.calls a1 2 4 false _ A11.out).mono ?_);rintro e w' ⟨rfl,⟨nd,rfl⟩⟩;(try first|exact ⟨rfl,_,World.drewN_drewN _ _ _⟩|exact ⟨rfl,_,Eq.trans (World.drewN_drewN _ _ _) (congrArg (World.drewN _) (Nat.add_assoc _ _ _))⟩)));try go_wp2_with (first|(go_at_call 39;(with_reducible refine (spec_l1In.calls a1 2 4 false _ A11.out).mono ?_);rintro e w' ⟨rfl,⟨nd,rfl⟩⟩;(try first|exact ⟨rfl,_,World.drewN_drewN _ _ _⟩|exact ⟨rfl,_,Eq.trans (World.drewN_drewN _ _ _) (congrArg (World.drewN _) (Nat.add_assoc _ _ _))⟩))))
   go_ret
   exact ⟨yeq,by repeat (first|exact Drawn0.refl _|apply Drawn0.step)⟩
  replace H:=yif H;obtain ⟨c4b0,H⟩:=H
  obtain ⟨ji5,hji5⟩:∃ j_:Int,(wrap64 ((Go.bits .and .i64 a1 7) + 1))=j_:=⟨_,rfl⟩
  replace H:(if 0≤(ji5) then ((spec_l1In.f (rd l0 x5_1) 0 (wrap64 ((shl .i64 1 (ji5)) - 2))).bind fun t124=>(if t124=true then (if (Int.tmod (rd l0 x5_1) 2)=0 then (spec_MasksValid.l0 k1 l0 a1 (wrap64 (x5_1 + 1))) else (some false)) else (some false))) else (none))=some r:=by first|(rw [hji5] at H;exact H)|(simp only [hji5] at H ⊢;exact H)
  have hji5w:(IntKind.i64.wrap ((Go.bits .and .i64 a1 7) + 1))=ji5:=(i64_w _).trans hji5
  replace H:=yig H;obtain ⟨c6,H⟩:=H
  have c6b0:=eq_true c6
  have c6b1:decide (0≤(ji5))=true:=decide_eq_true c6
  clear c6
  obtain ⟨ji7,hji7⟩:∃ j_:Int,(shl .i64 1 (ji5))=j_:=⟨_,rfl⟩
  replace H:((spec_l1In.f (rd l0 x5_1) 0 (wrap64 ((ji7) - 2))).bind fun t124=>(if t124=true then (if (Int.tmod (rd l0 x5_1) 2)=0 then (spec_MasksValid.l0 k1 l0 a1 (wrap64 (x5_1 + 1))) else (some false)) else (some false)))=some r:=by first|(rw [hji7] at H;exact H)|(simp only [hji7] at H ⊢;exact H)
  have hji7_:(IntKind.i64.wrap (1 * 2 ^ min (ji5).toNat 64))=ji7:=hji7
  have hji7z:(ji5)≤64→(IntKind.i64.wrap (1 * 2 ^ (ji5).toNat))=ji7:=shl_small hji7
  have hji7u:(IntKind.i64.wrap (2 ^ min (ji5).toNat 64))=ji7:=by have h_:=hji7_;rw [Int.one_mul] at h_;exact h_
  have hji7v:(ji5)≤64→(IntKind.i64.wrap (2 ^ (ji5).toNat))=ji7:=fun hle_=>by have h_:=hji7z hle_;rw [Int.one_mul] at h_;exact h_
  have hji7y:(wrap64 (1 * 2 ^ min (ji5).toNat 64))=ji7:=(i64_w _).symm.trans hji7_
  have hji7x:(ji5)≤64→(wrap64 (1 * 2 ^ (ji5).toNat))=ji7:=fun h_=>(i64_w _).symm.trans (hji7z h_)
  replace H:=ybi H;obtain ⟨t124,A8,H⟩:=H
  try dsimp only at H
  cases t124
  ·replace H:=yff H
   obtain rfl:=ysi H
   obtain ⟨ad123,e123,hx123_0,p123,q123⟩:=yat HR0.out x5_1
   cases e123
   have hwq0_:IntKind.i64.wrap ((ji7) - 2)=wrap64 ((ji7) - 2):=i64_w _
   go_wp2_with (first|(go_at_call 39;(with_reducible refine (spec_l1In.calls (rd l0 x5_1) 0 (wrap64 ((ji7) - 2)) false _ A8.out).mono ?_);rintro e w' ⟨rfl,⟨nd,rfl⟩⟩;(try first|exact ⟨rfl,_,World.drewN_drewN _ _ _⟩|exact ⟨rfl,_,Eq.trans (World.drewN_drewN _ _ _) (congrArg (World.drewN _) (Nat.add_assoc _ _ _))⟩)))
   repeat (go_quiet (first|(go_at_call 39;(with_reducible refine (spec_l1In.calls (rd l0 x5_1) 0 (wrap64 ((ji7) - 2)) false _ A8.out).mono ?_);rintro e w' ⟨rfl,⟨nd,rfl⟩⟩;(try first|exact ⟨rfl,_,World.drewN_drewN _ _ _⟩|exact ⟨rfl,_,Eq.trans (World.drewN_drewN _ _ _) (congrArg (World.drewN _) (Nat.add_assoc _ _ _))⟩)));try go_wp2_with (first|(go_at_call 39;(with_reducible refine (spec_l1In.calls (rd l0 x5_1) 0 (wrap64 ((ji7) - 2)) false _ A8.out).mono ?_);rintro e w' ⟨rfl,⟨nd,rfl⟩⟩;(try first|exact ⟨rfl,_,World.drewN_drewN _ _ _⟩|exact ⟨rfl,_,Eq.trans (World.drewN_drewN _ _ _) (congrArg (World.drewN _) (Nat.add_assoc _ _ _))⟩))))
   go_ret
   exact ⟨by first|rfl|(simp;done)|(simp only [← hji5,← hji7] <;> (first|rfl|simp))|(simp [*];done),by repeat (first|exact Drawn0.refl _|apply Drawn0.step)⟩
  replace H:=ytt H
  replace H:=yit H;obtain ⟨c10,H⟩ | ⟨c10,H⟩:=H
  rotate_left
  ·have c10b0:((Int.tmod (rd l0 x5_1) 2) == 0)=false:=beq_eq_false_iff_ne.mpr c10
   have c10b1:((Int.tmod (rd l0 x5_1) 2) != 0)=true:=bne_iff_ne.mpr c10
   obtain rfl:=ysi H
   obtain ⟨ad123,e123,hx123_0,p123,q123⟩:=yat HR0.out x5_1
   cases e123
   have hwq0_:IntKind.i64.wrap ((ji7) - 2)=wrap64 ((ji7) - 2):=i64_w _
   go_wp2_with (first|(go_at_call 39;(with_reducible refine (spec_l1In.calls (rd l0 x5_1) 0 (wrap64 ((ji7) - 2)) true _ A8.out).mono ?_);rintro e w' ⟨rfl,⟨nd,rfl⟩⟩;(try first|exact ⟨rfl,_,World.drewN_drewN _ _ _⟩|exact ⟨rfl,_,Eq.trans (World.drewN_drewN _ _ _) (congrArg (World.drewN _) (Nat.add_assoc _ _ _))⟩);have p125:0≤(x5_1:Int):=ydt;have q125:x5_1 < (l0.length:Int):=ydt;obtain ⟨ad125,e125,hx125_0⟩:=Kd.at_int HR0.out x5_1 p125 q125;obtain rfl:ad123=ad125:=(by injection e125);replace p125:=eq_true p125;replace q125:=eq_true q125))
   repeat (go_quiet (first|(go_at_call 39;(with_reducible refine (spec_l1In.calls (rd l0 x5_1) 0 (wrap64 ((ji7) - 2)) true _ A8.out).mono ?_);rintro e w' ⟨rfl,⟨nd,rfl⟩⟩;(try first|exact ⟨rfl,_,World.drewN_drewN _ _ _⟩|exact ⟨rfl,_,Eq.trans (World.drewN_drewN _ _ _) (congrArg (World.drewN _) (Nat.add_assoc _ _ _))⟩);have p125:0≤(x5_1:Int):=ydt;have q125:x5_1 < (l0.length:Int):=ydt;obtain ⟨ad125,e125,hx125_0⟩:=Kd.at_int HR0.out x5_1 p125 q125;obtain rfl:ad123=ad125:=(by injection e125);replace p125:=eq_true p125;replace q125:=eq_true q125));try go_wp2_with (first|(go_at_call 39;(with_reducible refine (spec_l1In.calls (rd l0 x5_1) 0 (wrap64 ((ji7) - 2)) true _ A8.out).mono ?_);rintro e w' ⟨rfl,⟨nd,rfl⟩⟩;(try first|exact ⟨rfl,_,World.drewN_drewN _ _ _⟩|exact ⟨rfl,_,Eq.trans (World.drewN_drewN _ _ _) (congrArg (World.drewN _) (Nat.add_assoc _ _ _))⟩);have p125:0≤(x5_1:Int):=ydt;have q125:x5_1 < (l0.length:Int):=ydt;obtain ⟨ad125,e125,hx125_0⟩:=Kd.at_int HR0.out x5_1 p125 q125;obtain rfl:ad123=ad125:=(by injection e125);replace p125:=eq_true p125;replace q125:=eq_true q125)))
   go_ret
   exact ⟨by first|rfl|(simp;done)|(simp only [← hji5,← hji7] <;> (first|rfl|simp))|(simp [*];done),by repeat (first|exact Drawn0.refl _|apply Drawn0.step)⟩
  have c10b0:((Int.tmod (rd l0 x5_1) 2) == 0)=true:=beq_iff_eq.mpr c10
  have c10b1:((Int.tmod (rd l0 x5_1) 2) != 0)=false:=bne_eq_false_iff_eq.mpr c10
  clear c10
  replace H:=yam H
  obtain ⟨ad123,e123,hx123_0,p123,q123⟩:=yat HR0.out x5_1
  cases e123
  have hwq0_:IntKind.i64.wrap ((ji7) - 2)=wrap64 ((ji7) - 2):=i64_w _
  go_wp2_with (first|(go_at_call 39;(with_reducible refine (spec_l1In.calls (rd l0 x5_1) 0 (wrap64 ((ji7) - 2)) true _ A8.out).mono ?_);rintro e w' ⟨rfl,⟨nd,rfl⟩⟩;(try first|exact ⟨rfl,_,World.drewN_drewN _ _ _⟩|exact ⟨rfl,_,Eq.trans (World.drewN_drewN _ _ _) (congrArg (World.drewN _) (Nat.add_assoc _ _ _))⟩);have p125:0≤(x5_1:Int):=ydt;have q125:x5_1 < (l0.length:Int):=ydt;obtain ⟨ad125,e125,hx125_0⟩:=Kd.at_int HR0.out x5_1 p125 q125;obtain rfl:ad123=ad125:=(by injection e125);replace p125:=eq_true p125;replace q125:=eq_true q125))
  repeat (go_quiet (first|(go_at_call 39;(with_reducible refine (spec_l1In.calls (rd l0 x5_1) 0 (wrap64 ((ji7) - 2)) true _ A8.out).mono ?_);rintro e w' ⟨rfl,⟨nd,rfl⟩⟩;(try first|exact ⟨rfl,_,World.drewN_drewN _ _ _⟩|exact ⟨rfl,_,Eq.trans (World.drewN_drewN _ _ _) (congrArg (World.drewN _) (Nat.add_assoc _ _ _))⟩);have p125:0≤(x5_1:Int):=ydt;have q125:x5_1 < (l0.length:Int):=ydt;obtain ⟨ad125,e125,hx125_0⟩:=Kd.at_int HR0.out x5_1 p125 q125;obtain rfl:ad123=ad125:=(by injection e125);replace p125:=eq_true p125;replace q125:=eq_true q125));try go_wp2_with (first|(go_at_call 39;(with_reducible refine (spec_l1In.calls (rd l0 x5_1) 0 (wrap64 ((ji7) - 2)) true _ A8.out).mono ?_);rintro e w' ⟨rfl,⟨nd,rfl⟩⟩;(try first|exact ⟨rfl,_,World.drewN_drewN _ _ _⟩|exact ⟨rfl,_,Eq.trans (World.drewN_drewN _ _ _) (congrArg (World.drewN _) (Nat.add_assoc _ _ _))⟩);have p125:0≤(x5_1:Int):=ydt;have q125:x5_1 < (l0.length:Int):=ydt;obtain ⟨ad125,e125,hx125_0⟩:=Kd.at_int HR0.out x5_1 p125 q125;obtain rfl:ad123=ad125:=(by injection e125);replace p125:=eq_true p125;replace q125:=eq_true q125)))
  go_roundg k1
  case measure=>have:=HK1.out;omega
  case rel=>exact ⟨(wrap64 (x5_1 + 1)),yeq,H,⟨by have:=HK1.out;omega⟩,by repeat (first|exact Drawn0.refl _|apply Drawn0.step)⟩
def spec_l6Copy.f (l0:List Int):Option (List Int):=(some (([]:List Int):List Int)).bind fun y127=>(if y127.length + l0.length < 17592186044416 then (some (y127 ++ l0)) else (none))
theorem spec_l6Copy.calls (A0:Option Addr)(c0:Nat)(l0:List Int)(r:List Int)(w:World)(hr0:Kd.C (Kd.int .i64) w A0 l0.length l0)(hc0:l0.length≤c0)(h:spec_l6Copy.f l0=some r) :
  Calls Try.prog 62 #[.slice A0 l0.length c0] w fun e w'=>∃ v0_:Value,e= .returned (v0_)∧Kd.R (Kd.int .i64) 3 w' w.heap.size (fun _=>True) v0_ r∧Below w.heap.size w w':=by
 have HR0:=yam hr0
 have HC0:=yam hc0
 clear hr0 hc0
 have HB:=yam (Below.refl w.heap.size w)
 unfold spec_l6Copy.f at h
 have H:=h
 clear h
 obtain ⟨y127,Ny127⟩:∃ y_:List Int,Aside0 (y_=(([]:List Int))):=⟨_,⟨rfl⟩⟩
 replace H:(if y127.length + l0.length < 17592186044416 then (some (y127 ++ l0)) else (none))=some r:=yhn Ny127.out H
 replace H:=yit H;obtain ⟨c2,H⟩ | ⟨c2,H⟩:=H
 rotate_left
 ·exact absurd H (by simp)
 have LMc2:=yam c2
 clear c2
 obtain ⟨y130,Ny130⟩:∃ y_:List Int,Aside0 (y_=(y127 ++ l0)):=⟨_,⟨rfl⟩⟩
 replace H:(some y130)=some r:=yhn Ny130.out H
 obtain rfl:=ysi H
 go_enter Try.func62,Try.ntmps62
 go_wp2_with (first|((with_reducible refine gate_dst (N:=3) rfl ?_);refine Kd.R_lit (Kd.int .i64) _ 3 ?hg (N:=3) ?hd (xs:=([]:List Int)) (inner:=[]) (ok:=fun _=>True) (okp:=fun _=>True) ?hr ?hp (fun _ hk=>hk) trivial (Below.refl _ _) (Nat.le_refl _) (by simp) ?_;(case hd=>rfl);(case hg=>rfl);(case hr=>first|(go_simp;done)|(go_simp;rfl));(case hp=>exact (Reps.none _ _));intro v128 w3 ho4 hb hg_ hnew_;clear hg_ hnew_;(first|rw [← Ny127.out] at ho4|(simp only [Int.reduceToNat] at ho4;rw [← Ny127.out] at ho4));have HO129:=yam (Kd.R_lower ho4 (below_size (yez HB.out)));replace HB:=yam (below_step (yez HB.out) hb);clear hb ho4)|((with_reducible refine gate_builtin (b:= .append) (xs:= #[.tmp 3,.tmp 4]) rfl ?_);at_builtin;refine Kd.R_append_rows (Kd.int .i64) (w0:=w) w.heap.size rfl (.tmp 3) (.tmp 4) 22 3 (.int .i64 0) 8 rfl Try.underlying22 info3 rfl (by decide) (by omega) v128 y127 l0 _ _ _ (fun _=>True) (fun _=>False) rfl rfl ?aO ?aR (fun _ _ h=>h) (fun _ h=>h.elim) ?aF ?aB ?aS ?aL ?_;(case aR=>exact Kd.Cz ((Kd.C_below HR0.out HB.out)));(case aB=>exact (yez HB.out));(case aF=>exact (fun _ _=>trivial));(case aO=>exact (Kd.Yz HO129.out));(case aS=>exact (below_size (yez HB.out)));(case aL=>have:=LMc2.out;omega);intro v131 w5 ho hb hg hat;rw [← Ny130.out] at ho;replace HB:=yam (hb);have HO132:=yam (ho);clear HO129;clear ho hb hg hat))
 go_ret
 exact ⟨_,yer,yka HO132.out,yhb⟩
mutual
def spec_MaskValues.l0:Nat→Int→List Int→Int→Option (List Int)
 | 0,_,_,_=>none
 | k + 1,x0,x3,x4=>if x4≤4 then ((spec_l1In.f x0 0 30).bind fun t136=>(if t136=true then (spec_MaskValues.j1 k x0 x3 x4 ((Int.tmod x0 2) == 0)) else (spec_MaskValues.j1 k x0 x3 x4 false))) else (spec_MaskValues.j1 k x0 x3 x4 false)
def spec_MaskValues.j1:Nat→Int→List Int→Int→Bool→Option (List Int)
 | 0,_,_,_,_=>none
 | k + 1,x0,x3,x4,x16=>if x16=true then (if 0≤x4 then (if (Int.tmod (shr .i64 x0 x4) 2)=1 then (if x3.length < 17592186044416 then (spec_MaskValues.l0 k x0 (x3 ++ [x4]) (wrap64 (x4 + 1))) else (none)) else (spec_MaskValues.l0 k x0 x3 (wrap64 (x4 + 1)))) else (none)) else (some x3)
end
def spec_MaskValues.f (k:Nat)(a0:Int):Option (List Int):=spec_MaskValues.l0 k a0 (([]:List Int)) 1
theorem spec_MaskValues.mono_l:∀ k,(∀ y0 y1 y2,LeO (spec_MaskValues.l0 k y0 y1 y2) (spec_MaskValues.l0 (k + 1) y0 y1 y2))∧(∀ y0 y1 y2 y3,LeO (spec_MaskValues.j1 k y0 y1 y2 y3) (spec_MaskValues.j1 (k + 1) y0 y1 y2 y3))
 | 0=>⟨fun _ _ _ r h=>by simp [spec_MaskValues.l0] at h,fun _ _ _ _ r h=>by simp [spec_MaskValues.j1] at h⟩
 | k + 1=>by
  obtain ⟨ih0,ih1⟩:=spec_MaskValues.mono_l k
  refine ⟨?_,?_⟩
  ·intro y0 y1 y2
   unfold spec_MaskValues.l0
   repeat' first
   | (with_reducible exact ih0 _ _ _)
   | (with_reducible exact ih1 _ _ _ _)
   | (with_reducible exact LeO.refl _)
   | (with_reducible exact LeO.none _)
   | (with_reducible refine LeO.ite ?_ ?_)
   | (with_reducible refine LeO.bind ?_ (fun _=>?_))
   | exact ih0 _ _ _
   | exact ih1 _ _ _ _
   | exact LeO.none _
   | refine LeO.ite ?_ ?_
   | refine LeO.bind ?_ (fun _=>?_)
  ·intro y0 y1 y2 y3
   unfold spec_MaskValues.j1
   repeat' first
   | (with_reducible exact ih0 _ _ _)
   | (with_reducible exact ih1 _ _ _ _)
   | (with_reducible exact LeO.refl _)
   | (with_reducible exact LeO.none _)
   | (with_reducible refine LeO.ite ?_ ?_)
   | (with_reducible refine LeO.bind ?_ (fun _=>?_))
   | exact ih0 _ _ _
   | exact ih1 _ _ _ _
   | exact LeO.none _
   | refine LeO.ite ?_ ?_
   | refine LeO.bind ?_ (fun _=>?_)
theorem spec_MaskValues.mono:∀ a0 k,LeO (spec_MaskValues.f k a0) (spec_MaskValues.f (k + 1) a0):=by
 intro a0 k
 obtain ⟨ih0,ih1⟩:=spec_MaskValues.mono_l k
 unfold spec_MaskValues.f
 repeat' first
   | (with_reducible exact ih0 _ _ _)
   | (with_reducible exact ih1 _ _ _ _)
   | (with_reducible exact LeO.refl _)
   | (with_reducible exact LeO.none _)
   | (with_reducible refine LeO.ite ?_ ?_)
   | (with_reducible refine LeO.bind ?_ (fun _=>?_))
   | exact ih0 _ _ _
   | exact ih1 _ _ _ _
   | exact LeO.none _
   | refine LeO.ite ?_ ?_
   | refine LeO.bind ?_ (fun _=>?_)
theorem spec_MaskValues.calls (k:Nat)(a0:Int)(r:List Int)(w:World)(h:spec_MaskValues.f k a0=some r) :
  Calls Try.prog 72 #[.int .i64 a0] w fun e w'=>∃ v0_:Value,e= .returned (v0_)∧Kd.R (Kd.int .i64) 3 w' w.heap.size (fun _=>True) v0_ r∧Below w.heap.size w w':=by
 have HB:=yam (Below.refl w.heap.size w)
 unfold spec_MaskValues.f at h
 have H:=h
 clear h
 obtain ⟨y133,Ny133⟩:∃ y_:List Int,Aside0 (y_=(([]:List Int))):=⟨_,⟨rfl⟩⟩
 replace H:(spec_MaskValues.l0 k a0 y133 1)=some r:=yhn Ny133.out H
 replace H:=yam H
 go_enter Try.func72,Try.ntmps72
 go_wp2_with (first|((with_reducible refine gate_dst (N:=5) rfl ?_);refine Kd.R_lit (Kd.int .i64) _ 3 ?hg (N:=5) ?hd (xs:=([]:List Int)) (inner:=[]) (ok:=fun _=>True) (okp:=fun _=>True) ?hr ?hp (fun _ hk=>hk) trivial (Below.refl _ _) (Nat.le_refl _) (by simp) ?_;(case hd=>rfl);(case hg=>rfl);(case hr=>first|(go_simp;done)|(go_simp;rfl));(case hp=>exact (Reps.none _ _));intro v134 w2 ho3 hb hg_ hnew_;clear hg_ hnew_;(first|rw [← Ny133.out] at ho3|(simp only [Int.reduceToNat] at ho3;rw [← Ny133.out] at ho3));have HO135:=yam (Kd.R_lower ho3 (below_size (yez HB.out)));replace HB:=yam (below_step (yez HB.out) hb);clear hb ho3))
 go_loopg [3,4] k (fun kq v3 v4 w'=>∃ (x3_1:List Int) (x4_1:Int),v4= .int .i64 x4_1∧Aside0 (spec_MaskValues.l0 kq a0 x3_1 x4_1=some r)∧Aside0 (kq≤k)∧Aside0 (Kd.R (Kd.int .i64) 3 w' w.heap.size (fun _=>True) v3 x3_1)∧Aside0 (Below w.heap.size w w'))
 case atStart=>exact ⟨(y133),(1),yeq,H,⟨Nat.le_refl _⟩,⟨yka HO135.out⟩,⟨yhb⟩⟩
 case round =>
  clear H
  obtain ⟨x3_1,x4_1,rfl,HA,HK1,HO_3,HB⟩:=hrel
  rcases gk with _|k1
  ·exact absurd HA.out (by simp [spec_MaskValues.l0])
  obtain ⟨H⟩:=HA
  simp only [spec_MaskValues.l0] at H
  have HC4:=yam H
  clear H
  go_upto_region 3 with (fail)
  go_cut [16] (fun v16 wc=>∃ (kq:Nat) (x16_3:Bool),v16= .bool x16_3∧Aside0 (spec_MaskValues.j1 kq a0 x3_1 x4_1 x16_3=some r)∧Aside0 (kq≤k1)∧Aside0 (Kd.R (Kd.int .i64) 3 wc w.heap.size (fun _=>True) u3 x3_1)∧Aside0 (Below w.heap.size w wc))
  case first =>
   have H:=HC4.out
   clear HC4
   replace H:=yis H;obtain ⟨c5b0,H⟩ | ⟨c5b0,H⟩:=H
   rotate_left
   ·(first|rw [c5b0]|(simp only [i64_w,i32_w];rw [c5b0])|skip)
    replace H:=yam H
    go_wp2
    go_meet
    case rel=>exact ⟨_,(false),yeq,H,⟨by have:=HK1.out;first|omega|exact Nat.le_refl _⟩,⟨yka HO_3.out⟩,⟨yhb⟩⟩
   (first|rw [c5b0]|(simp only [i64_w,i32_w];rw [c5b0])|skip)
   replace H:=ybi H;obtain ⟨t136,A6,H⟩:=H
   try dsimp only at H
   cases t136
   rotate_left
   ·replace H:=ytt H
    replace H:=yam H
    go_wp2_with (first|(go_at_call 39;(with_reducible refine (spec_l1In.calls a0 0 30 true _ A6.out).mono ?_);rintro e w' ⟨rfl,⟨nd,rfl⟩⟩))
    go_meet
    case rel=>exact ⟨_,(((Int.tmod a0 2) == 0)),yeq,H,⟨by have:=HK1.out;first|omega|exact Nat.le_refl _⟩,⟨yka HO_3.out⟩,⟨yhb⟩⟩
   replace H:=yff H
   replace H:=yam H
   go_wp2_with (first|(go_at_call 39;(with_reducible refine (spec_l1In.calls a0 0 30 false _ A6.out).mono ?_);rintro e w' ⟨rfl,⟨nd,rfl⟩⟩))
   go_meet
   case rel=>exact ⟨_,(false),yeq,H,⟨by have:=HK1.out;first|omega|exact Nat.le_refl _⟩,⟨yka HO_3.out⟩,⟨yhb⟩⟩
  case rest =>
   clear HC4
   obtain ⟨kq,x16_3,rfl,HA,HJ3,HO_3,HB⟩:=hcut
   rcases kq with _|kj3
   ·exact absurd HA.out (by simp [spec_MaskValues.j1])
   obtain ⟨H⟩:=HA
   simp only [spec_MaskValues.j1] at H
   cases x16_3
   ·replace H:=yff H
    obtain rfl:=ysi H
    go_wp2
    go_ret
    exact ⟨_,yer,yka HO_3.out,yhb⟩
   replace H:=ytt H
   replace H:=yig H;obtain ⟨c9,H⟩:=H
   have c9b0:=eq_true c9
   have c9b1:decide (0≤x4_1)=true:=decide_eq_true c9
   clear c9
   obtain ⟨ji10,hji10⟩:∃ j_:Int,(shr .i64 a0 x4_1)=j_:=⟨_,rfl⟩
   replace H:(if (Int.tmod (ji10) 2)=1 then (if x3_1.length < 17592186044416 then (spec_MaskValues.l0 kj3 a0 (x3_1 ++ [x4_1]) (wrap64 (x4_1 + 1))) else (none)) else (spec_MaskValues.l0 kj3 a0 x3_1 (wrap64 (x4_1 + 1))))=some r:=by first|(rw [hji10] at H;exact H)|(simp only [hji10] at H ⊢;exact H)
   have hji10_:(a0 / 2 ^ min x4_1.toNat 64)=ji10:=hji10
   have hji10z:x4_1≤64→(a0 / 2 ^ x4_1.toNat)=ji10:=shr_small hji10
   replace H:=yit H;obtain ⟨c11,H⟩ | ⟨c11,H⟩:=H
   rotate_left
   ·have c11b0:((Int.tmod (ji10) 2) == 1)=false:=beq_eq_false_iff_ne.mpr c11
    have c11b1:((Int.tmod (ji10) 2) != 1)=true:=bne_iff_ne.mpr c11
    replace H:=yam H
    go_wp2
    go_roundg kj3
    case measure=>have:=HK1.out;have:=HJ3.out;omega
    case rel=>exact ⟨(x3_1),(wrap64 (x4_1 + 1)),yeq,H,⟨by have:=HK1.out;have:=HJ3.out;omega⟩,⟨yka HO_3.out⟩,⟨yhb⟩⟩
   have c11b0:((Int.tmod (ji10) 2) == 1)=true:=beq_iff_eq.mpr c11
   have c11b1:((Int.tmod (ji10) 2) != 1)=false:=bne_eq_false_iff_eq.mpr c11
   clear c11
   replace H:=yig H;obtain ⟨c12,H⟩:=H
   have LMc12:=yam c12
   clear c12
   obtain ⟨y137,Ny137⟩:∃ y_:List Int,Aside0 (y_=(x3_1 ++ [x4_1])):=⟨_,⟨rfl⟩⟩
   replace H:(spec_MaskValues.l0 kj3 a0 y137 (wrap64 (x4_1 + 1)))=some r:=yhn Ny137.out H
   replace H:=yam H
   go_wp2_with (first|((with_reducible refine gate_builtin (b:= .append) (xs:= #[.tmp 24,.tmp 26]) rfl ?_);at_builtin;refine Kd.R_append (Kd.int .i64) (w0:=w) w.heap.size rfl (.tmp 24) (.tmp 26) 22 3 (.int .i64 0) 8 rfl Try.underlying22 info3 rfl (by decide) (by omega) u3 x3_1 x4_1 [.int .i64 x4_1] (fun _=>True) (fun _=>False) rfl rfl ?aP (fun _ hk=>hk.elim) ?aF ?aO ?aB ?aS ?aL ?_;(case aP=>exact rfl);(case aB=>exact (yez HB.out));(case aF=>exact (fun _ _=>trivial));(case aO=>exact (Kd.Yz HO_3.out));(case aS=>exact (below_size (yez HB.out)));(case aL=>have:=LMc12.out;omega);intro v138 w13 ho hb hg hat;rw [← Ny137.out] at ho;replace HB:=yam (hb);have HO139:=yam (ho);clear HO_3;clear ho hb hg hat))
   go_roundg kj3
   case measure=>have:=HK1.out;have:=HJ3.out;omega
   case rel=>exact ⟨(y137),(wrap64 (x4_1 + 1)),yeq,H,⟨by have:=HK1.out;have:=HJ3.out;omega⟩,⟨yka HO139.out⟩,⟨yhb⟩⟩
mutual
def spec_NarrowSingles.l0:Nat→List Int→Int→List Int→Int→Option (List Int)
 | 0,_,_,_,_=>none
 | k + 1,x0,x1,x5,x6=>if x6 < (x0.length:Int) then (if 0≤x6 then ((spec_MaskValues.f k (rd x0 x6)).bind fun t148=>(if (t148.length:Int)=1 then (spec_NarrowSingles.l1 k x0 x1 x5 x6 0) else (spec_NarrowSingles.l0 k x0 x1 x5 (wrap64 (x6 + 1))))) else (none)) else (some x5)
def spec_NarrowSingles.l1:Nat→List Int→Int→List Int→Int→Int→Option (List Int)
 | 0,_,_,_,_,_=>none
 | k + 1,x0,x1,x5,x6,x7=>if x7 < (x0.length:Int) then (if x7=x6 then (spec_NarrowSingles.l1 k x0 x1 x5 x6 (wrap64 (x7 + 1))) else (if x1=0 then (none) else (if (wrap64 (Int.tdiv x7 x1))=(wrap64 (Int.tdiv x6 x1)) then (if 0≤x7 then (if x7 < (x5.length:Int) then (if 0≤x6 then (if x6 < (x0.length:Int) then (spec_NarrowSingles.l1 k x0 x1 (x5.set (x7:Int).toNat (Go.bits .andNot .i64 (rd x5 x7) (rd x0 x6))) x6 (wrap64 (x7 + 1))) else (none)) else (none)) else (none)) else (none)) else (if (Int.tmod x7 x1)=(Int.tmod x6 x1) then (if 0≤x7 then (if x7 < (x5.length:Int) then (if 0≤x6 then (if x6 < (x0.length:Int) then (spec_NarrowSingles.l1 k x0 x1 (x5.set (x7:Int).toNat (Go.bits .andNot .i64 (rd x5 x7) (rd x0 x6))) x6 (wrap64 (x7 + 1))) else (none)) else (none)) else (none)) else (none)) else (spec_NarrowSingles.l1 k x0 x1 x5 x6 (wrap64 (x7 + 1))))))) else (spec_NarrowSingles.l0 k x0 x1 x5 (wrap64 (x6 + 1)))
end
def spec_NarrowSingles.f (k:Nat)(l0:List Int)(a1:Int):Option (List Int):=(spec_MasksValid.f k l0 a1).bind fun t140=>(if t140=true then ((spec_l6Copy.f l0).bind fun t144=>(spec_NarrowSingles.l0 k l0 a1 t144 0)) else (some (([]:List Int))))
def spec_NarrowSingles.T11:Bool × List (List Nat × List Nat):=(true,[([],[]),([],[]),([0,1],[0,1]),([2],[2]),([3],[3]),([3],[3]),([4,5,3],[3,4,5]),([3],[3]),([3],[3]),([7,8,3],[3,7,8]),([6,9,3],[3,6,9]),([10,3,3],[3,10]),([11],[11]),([11],[11]),([12,13,11],[11,12,13]),([11],[11]),([11],[11]),([15,16,11],[11,15,16]),([14,17,11],[11,14,17]),([11,18,3],[3,11,18]),([3,19],[3,19])])
def spec_NarrowSingles.B11:List Nat:=[0,0,3,7,15,15,63,15,15,399,1023,2047,4095,4095,16383,4095,4095,102399,262143,524287,1048575]
theorem spec_NarrowSingles.tab11:rtab .any (opsOf Try.f54 11)=spec_NarrowSingles.T11:=by kernel_rfl
theorem spec_NarrowSingles.bits11:waitsOk spec_NarrowSingles.T11.2 spec_NarrowSingles.B11=true:=by kernel_rfl
def spec_NarrowSingles.T12:Bool × List (List Nat × List Nat):=(true,[([],[]),([],[]),([],[]),([],[]),([2,3],[2,3]),([4],[4]),([],[]),([],[]),([6,7],[6,7]),([8],[8]),([5,9],[5,9]),([0,1,0,1,2,3,4,5,6,7,8,9,10],[0,1]),([11,10,0,1,2,3,4,5,6,7,8,9,10],[10,11])])
def spec_NarrowSingles.B12:List Nat:=[0,0,0,0,12,28,0,0,192,448,1020,2047,4095]
theorem spec_NarrowSingles.tab12:rtab .any (opsOf Try.f54 12)=spec_NarrowSingles.T12:=by kernel_rfl
theorem spec_NarrowSingles.bits12:waitsOk spec_NarrowSingles.T12.2 spec_NarrowSingles.B12=true:=by kernel_rfl
theorem spec_NarrowSingles.calls (k:Nat)(A0:Option Addr)(c0:Nat)(l0:List Int)(a1:Int)(r:List Int)(w:World)(hr0:Kd.C (Kd.int .i64) w A0 l0.length l0)(hc0:l0.length≤c0)(h:spec_NarrowSingles.f k l0 a1=some r) :
  Calls Try.prog 54 #[.slice A0 l0.length c0,.int .i64 a1] w fun e w'=>∃ v0_:Value,e= .returned (v0_)∧Kd.R (Kd.int .i64) 3 w' w.heap.size (fun _=>True) v0_ r∧Below w.heap.size w w':=by
 have HR0:=yam hr0
 have HC0:=yam hc0
 clear hr0 hc0
 have HB:=yam (Below.refl w.heap.size w)
 unfold spec_NarrowSingles.f at h
 have H:=h
 clear h
 replace H:=ybi H;obtain ⟨t140,A3,H⟩:=H
 try dsimp only at H
 cases t140
 ·replace H:=yff H
  obtain ⟨y141,Ny141⟩:∃ y_:List Int,Aside0 (y_=(([]:List Int))):=⟨_,⟨rfl⟩⟩
  replace H:(some y141)=some r:=yhn Ny141.out H
  obtain rfl:=ysi H
  go_enter Try.func54,Try.ntmps54
  go_wp2_with (first|(refine goesL_ (some 10) rfl rfl Try.func53 (by kernel_rfl) rfl #[.slice A0 l0.length c0,.int .i64 a1] rfl ymd ?_;(with_reducible refine (spec_MasksValid.calls k _ _ l0 a1 false _ ?_ ?_ A3.out).mono ?_);exact Kd.Cz (HR0.out);exact HC0.out;rintro e w' ⟨rfl,⟨nd,rfl⟩⟩;refine ⟨_,rfl,?_⟩)|((with_reducible refine gate_dst (N:=12) rfl ?_);refine Kd.R_lit (Kd.int .i64) _ 3 ?hg (N:=12) ?hd (xs:=([]:List Int)) (inner:=[]) (ok:=fun _=>True) (okp:=fun _=>True) ?hr ?hp (fun _ hk=>hk) trivial (Below.refl _ _) (Nat.le_refl _) (by simp) ?_;(case hd=>rfl);(case hg=>rfl);(case hr=>first|(go_simp;done)|(go_simp;rfl));(case hp=>exact (Reps.none _ _));intro v142 w40 ho41 hb hg_ hnew_;clear hg_ hnew_;(first|rw [← Ny141.out] at ho41|(simp only [Int.reduceToNat] at ho41;rw [← Ny141.out] at ho41));have HO143:=yam (Kd.R_lower ho41 (below_size (yez HB.out)));replace HB:=yam (below_step (yez HB.out) hb);clear hb ho41))
  go_ret
  exact ⟨_,yer,yka HO143.out,yhb⟩
 replace H:=ytt H
 replace H:=ybi H;obtain ⟨t144,A5,H⟩:=H
 try dsimp only at H
 replace H:=yam H
 go_enter Try.func54,Try.ntmps54
 go_wp2_with (first|(refine goesL_ (some 10) rfl rfl Try.func53 (by kernel_rfl) rfl #[.slice A0 l0.length c0,.int .i64 a1] rfl ymd ?_;(with_reducible refine (spec_MasksValid.calls k _ _ l0 a1 true _ ?_ ?_ A3.out).mono ?_);exact Kd.Cz (HR0.out);exact HC0.out;rintro e w' ⟨rfl,⟨nd,rfl⟩⟩;refine ⟨_,rfl,?_⟩)|(refine goesL_ (some 14) rfl rfl Try.func62 (by kernel_rfl) rfl #[.slice A0 l0.length c0] rfl ymd ?_;(with_reducible refine (spec_l6Copy.calls _ _ l0 t144 _ ?_ ?_ A5.out).mono ?_);exact Kd.Cz (HR0.out);exact HC0.out;rintro e w6 ⟨v145,rfl,ho0,hb⟩;refine ⟨_,rfl,?_⟩;have HO146:=yam (Kd.R_lower ho0 (below_size (yez HB.out)));replace HB:=yam (below_step (yez HB.out) hb);(try clear hb);(try clear ho0)))
 go_loopg [6] k (fun kq v6 w'=>∃ (x5_1:List Int) (x6_1:Int),v6= .int .i64 x6_1∧Aside0 (spec_NarrowSingles.l0 kq l0 a1 x5_1 x6_1=some r)∧Aside0 (kq≤k)∧Aside0 (Kd.R (Kd.int .i64) 3 w' w.heap.size (fun _=>True) v145 x5_1)∧Aside0 (Below w.heap.size w w'))
 case atStart=>exact ⟨(t144),(0),yeq,H,⟨Nat.le_refl _⟩,⟨yka HO146.out⟩,⟨yhb⟩⟩
 case round =>
  clear H
  obtain ⟨x5_1,x6_1,rfl,HA,HK1,HO_5,HB⟩:=hrel
  rcases gk with _|k1
  ·exact absurd HA.out (by simp [spec_NarrowSingles.l0])
  obtain ⟨H⟩:=HA
  simp only [spec_NarrowSingles.l0] at H
  replace H:=yis H;obtain ⟨c7b0,H⟩ | ⟨c7b0,H⟩:=H
  rotate_left
  ·obtain rfl:=ysi H
   go_wp2
   go_ret
   exact ⟨_,yer,yka HO_5.out,yhb⟩
  replace H:=yif H;obtain ⟨c8b0,H⟩:=H
  replace H:=ybi H;obtain ⟨t148,A9,H⟩:=H
  try dsimp only at H
  replace H:=yit H;obtain ⟨c10,H⟩ | ⟨c10,H⟩:=H
  rotate_left
  ·have c10b0:((t148.length:Int) == 1)=false:=beq_eq_false_iff_ne.mpr c10
   have c10b1:((t148.length:Int) != 1)=true:=bne_iff_ne.mpr c10
   replace H:=yam H
   obtain ⟨ad147,e147,hx147_0,p147,q147⟩:=yat HR0.out x6_1
   cases e147
   replace hx147_0:=ybx HB.out hx147_0
   go_wp2_with (first|(refine goesL_ (some 25) rfl rfl Try.func72 (by kernel_rfl) rfl #[.int .i64 (rd l0 x6_1)] rfl ymd ?_;(with_reducible refine (spec_MaskValues.calls k1 (rd l0 x6_1) t148 _ A9.out).mono ?_);rintro e w38 ⟨v149,rfl,ho0,hb⟩;refine ⟨_,rfl,?_⟩;have HO150:=yam (Kd.R_lower (Kd.Yw ho0 (Kd.R_lt (Kd.Yz HO_5.out))) (below_size (yez HB.out)));replace HO_5:=yam (Kd.Ye (Kd.Yz HO_5.out) (Kd.Yb ho0) hb);replace HB:=yam (below_step (yez HB.out) hb);(try clear hb);(try clear ho0);obtain ⟨Ao39,co39,eo39⟩:=Kd.R_slice HO150.out;subst eo39))
   go_roundg k1
   case measure=>have:=HK1.out;omega
   case rel=>exact ⟨(x5_1),(wrap64 (x6_1 + 1)),yeq,H,⟨by have:=HK1.out;omega⟩,⟨by (with_reducible repeat (first|apply Kd.Ya|apply Kd.Yn|apply Kd.Yd));exact Kd.R_mono HO_5.out (fun _ hk=>trivial)⟩,⟨yhb⟩⟩
  have c10b0:((t148.length:Int) == 1)=true:=beq_iff_eq.mpr c10
  have c10b1:((t148.length:Int) != 1)=false:=bne_eq_false_iff_eq.mpr c10
  clear c10
  replace H:=yam H
  obtain ⟨ad147,e147,hx147_0,p147,q147⟩:=yat HR0.out x6_1
  cases e147
  replace hx147_0:=ybx HB.out hx147_0
  go_wp2_with (first|(refine goesL_ (some 25) rfl rfl Try.func72 (by kernel_rfl) rfl #[.int .i64 (rd l0 x6_1)] rfl ymd ?_;(with_reducible refine (spec_MaskValues.calls k1 (rd l0 x6_1) t148 _ A9.out).mono ?_);rintro e w11 ⟨v149,rfl,ho0,hb⟩;refine ⟨_,rfl,?_⟩;have HO150:=yam (Kd.R_lower (Kd.Yw ho0 (Kd.R_lt (Kd.Yz HO_5.out))) (below_size (yez HB.out)));replace HO_5:=yam (Kd.Ye (Kd.Yz HO_5.out) (Kd.Yb ho0) hb);replace HB:=yam (below_step (yez HB.out) hb);(try clear hb);(try clear ho0);obtain ⟨Ao12,co12,eo12⟩:=Kd.R_slice HO150.out;subst eo12))
  go_loopg [7] k1 (fun kq v7 w'=>∃ (x5_2:List Int) (x7_2:Int),v7= .int .i64 x7_2∧Aside0 (spec_NarrowSingles.l1 kq l0 a1 x5_2 x6_1 x7_2=some r)∧Aside0 (kq≤k1)∧Aside0 (Kd.R (Kd.int .i64) 3 w' w.heap.size (fun _=>True) v145 x5_2)∧Aside0 (Below w.heap.size w w'))
  case atStart=>exact ⟨(x5_1),(0),yeq,H,⟨Nat.le_refl _⟩,⟨by (with_reducible repeat (first|apply Kd.Ya|apply Kd.Yn|apply Kd.Yd));exact Kd.R_mono HO_5.out (fun _ hk=>trivial)⟩,⟨yhb⟩⟩
  case round =>
   clear H
   try clear c7b0
   try clear c8b0
   try clear c10b0
   try clear c10b1
   try clear hx147_0
   try clear p147
   try clear q147
   obtain ⟨x5_2,x7_2,rfl,HA,HK2,HO_5,HB⟩:=hrel
   rcases gk with _|k2
   ·exact absurd HA.out (by simp [spec_NarrowSingles.l1])
   obtain ⟨H⟩:=HA
   simp only [spec_NarrowSingles.l1] at H
   replace H:=yis H;obtain ⟨c13b0,H⟩ | ⟨c13b0,H⟩:=H
   rotate_left
   ·replace H:=yam H
    go_wp2
    go_roundg k2
    case measure=>have:=HK1.out;have:=HK2.out;omega
    case rel=>exact ⟨(x5_2),(wrap64 (x6_1 + 1)),yeq,H,⟨by have:=HK1.out;have:=HK2.out;omega⟩,⟨yka HO_5.out⟩,⟨yhb⟩⟩
   replace H:=yit H;obtain ⟨c14,H⟩ | ⟨c14,H⟩:=H
   ·have c14b0:(x7_2 == x6_1)=true:=beq_iff_eq.mpr c14
    have c14b1:(x7_2 != x6_1)=false:=bne_eq_false_iff_eq.mpr c14
    clear c14
    replace H:=yam H
    try go_wp2
    replace HO_5:=yam (Kd.Yd HO_5.out)
    replace HB:=yam (yed HB.out)
    refine start_ (n:=21) (S:=fun w'=>True) (ds:=[]) (yvb 21 0) (by kernel_rfl) rfl rfl trivial (fun hHeld=>?_);refine with_tabW spec_NarrowSingles.tab11 spec_NarrowSingles.bits11 (fun HT_ HW_=>?_)
    generalize wr.drew=w15 at HO_5 HB hHeld ⊢
    refine yvp 0 34 (yvb 21 1) HT_.out ?_
    refine yvp 1 35 (yvb 21 3) HT_.out ?_
    refine yvp 2 36 (yvb 21 7) HT_.out ?_
    refine yvp 3 37 (yvb 21 15) HT_.out ?_
    refine yvu 4 38 (yvb 21 31) HT_.out ?_
    refine yvu 5 39 (yvb 21 63) HT_.out ?_
    refine yvu 6 40 (yvb 21 127) HT_.out ?_
    refine yvu 7 41 (yvb 21 255) HT_.out ?_
    refine yvu 8 42 (yvb 21 511) HT_.out ?_
    refine yvu 9 43 (yvb 21 1023) HT_.out ?_
    refine yvu 10 44 (yvb 21 2047) HT_.out ?_
    refine yvu 11 45 (yvb 21 4095) HT_.out ?_
    refine yvu 12 46 (yvb 21 8191) HT_.out ?_
    refine yvu 13 47 (yvb 21 16383) HT_.out ?_
    refine yvu 14 48 (yvb 21 32767) HT_.out ?_
    refine yvu 15 49 (yvb 21 65535) HT_.out ?_
    refine yvu 16 50 (yvb 21 131071) HT_.out ?_
    refine yvu 17 51 (yvb 21 262143) HT_.out ?_
    refine yvu 18 52 (yvb 21 524287) HT_.out ?_
    refine yvu 19 53 (yvb 21 1048575) HT_.out ?_
    refine yvp 20 54 (yvb 21 2097151) HT_.out ?_
    refine done_ (done_of HT_.out (by kernel_rfl)) ?_
    try go_wp2
    go_roundg k2
    case measure=>have:=HK1.out;have:=HK2.out;omega
    case rel=>exact ⟨(x5_2),(wrap64 (x7_2 + 1)),yeq,H,⟨by have:=HK1.out;have:=HK2.out;omega⟩,⟨yka HO_5.out⟩,⟨yhb⟩⟩
   have c14b0:(x7_2 == x6_1)=false:=beq_eq_false_iff_ne.mpr c14
   have c14b1:(x7_2 != x6_1)=true:=bne_iff_ne.mpr c14
   replace H:=yit H;obtain ⟨c16,H⟩ | ⟨c16,H⟩:=H
   ·exact absurd H (by simp)
   have c16b0:(a1 == 0)=false:=beq_eq_false_iff_ne.mpr c16
   have c16b1:(a1 != 0)=true:=bne_iff_ne.mpr c16
   replace H:=yit H;obtain ⟨c17,H⟩ | ⟨c17,H⟩:=H
   ·have c17b0:((wrap64 (Int.tdiv x7_2 a1)) == (wrap64 (Int.tdiv x6_1 a1)))=true:=beq_iff_eq.mpr c17
    have c17b1:((wrap64 (Int.tdiv x7_2 a1)) != (wrap64 (Int.tdiv x6_1 a1)))=false:=bne_eq_false_iff_eq.mpr c17
    clear c17
    replace H:=yif H;obtain ⟨c18b0,H⟩:=H
    replace H:=yif H;obtain ⟨c19b0,H⟩:=H
    replace H:=yif H;obtain ⟨c20b0,H⟩:=H
    replace H:=yif H;obtain ⟨c21b0,H⟩:=H
    obtain ⟨y153,Ny153⟩:∃ y_:List Int,Aside0 (y_=(x5_2.set (x7_2:Int).toNat (Go.bits .andNot .i64 (rd x5_2 x7_2) (rd l0 x6_1)))):=⟨_,⟨rfl⟩⟩
    replace H:(spec_NarrowSingles.l1 k2 l0 a1 y153 x6_1 (wrap64 (x7_2 + 1)))=some r:=yhn Ny153.out H
    replace H:=yam H
    try go_wp2
    replace HO_5:=yam (Kd.Yd HO_5.out)
    replace HB:=yam (yed HB.out)
    refine start_ (n:=21) (S:=fun w'=>True) (ds:=[]) (yvb 21 0) (by kernel_rfl) rfl rfl trivial (fun hHeld=>?_);refine with_tabW spec_NarrowSingles.tab11 spec_NarrowSingles.bits11 (fun HT_ HW_=>?_)
    generalize wr.drew=w23 at HO_5 HB hHeld ⊢
    refine yvp 0 34 (yvb 21 1) HT_.out ?_
    refine yvp 1 35 (yvb 21 3) HT_.out ?_
    refine yvp 2 36 (yvb 21 7) HT_.out ?_
    refine yvp 3 37 (yvb 21 15) HT_.out ?_
    refine yvp 4 38 (yvb 21 31) HT_.out ?_
    refine yvp 5 39 (yvb 21 63) HT_.out ?_
    refine yvp 6 40 (yvb 21 127) HT_.out ?_
    refine yvp 7 41 (yvb 21 255) HT_.out ?_
    refine yvp 8 42 (yvb 21 511) HT_.out ?_
    refine yvp 9 43 (yvb 21 1023) HT_.out ?_
    refine yvp 10 44 (yvb 21 2047) HT_.out ?_
    refine yvp 11 45 (yvb 21 4095) HT_.out ?_
    refine yvu 12 46 (yvb 21 8191) HT_.out ?_
    refine yvu 13 47 (yvb 21 16383) HT_.out ?_
    refine yvu 14 48 (yvb 21 32767) HT_.out ?_
    refine yvu 15 49 (yvb 21 65535) HT_.out ?_
    refine yvu 16 50 (yvb 21 131071) HT_.out ?_
    refine yvu 17 51 (yvb 21 262143) HT_.out ?_
    refine yvu 18 52 (yvb 21 524287) HT_.out ?_
    refine yvp 19 53 (yvb 21 1048575) HT_.out ?_
    refine yvp 20 54 (yvb 21 2097151) HT_.out ?_
    refine done_ (done_of HT_.out (by kernel_rfl)) ?_
    try go_wp2
    replace HO_5:=yam (Kd.Yd HO_5.out)
    replace HB:=yam (yed HB.out)
    obtain ⟨Ao25,co25,eo25⟩:=Kd.R_slice HO_5.out
    (first|subst eo25|(injection eo25 with f1_ f2_ f3_;have f4_:=f1_.symm;have f5_:=f3_.symm;clear f1_ f2_ f3_;subst f4_;subst f5_))
    obtain ⟨ad151,e151,hx151_0,p151,q151⟩:=yat (Kd.Yr HO_5.out).2.2 x7_2
    cases e151
    obtain ⟨ad152,e152,hx152_0,p152,q152⟩:=yat HR0.out x6_1
    have hw152_0:=hx152_0
    obtain rfl:ad147=ad152:=(by injection e152)
    replace hx152_0:=ybx HB.out hx152_0
    have p22:0≤(x7_2:Int):=ydt
    have q22:(x7_2:Int) < ((x5_2.length:Int):Int):=ydt
    obtain ⟨go22,co22,eo22,gb22,gl22,cl22,HG22⟩:=Kd.R_form HO_5.out (by omega)
    (first|cases eo22|(injection eo22 with ea_ en_ ec_;(first|subst ea_|(injection ea_ with ea_;subst ea_));subst ec_;clear en_))
    have GB22:=yam gb22
    have GG22:=yam HG22
    clear gb22 gl22 HG22
    (first|simp only [add_plain] at hx151_0|skip)
    obtain ⟨hx22_0,hf22_0⟩:=Kd.R_celln 0 HO_5.out (x7_2:Int) p22 q22
    replace p22:=eq_true p22
    replace q22:=eq_true q22
    have HP26:=Kd.R_putn HO_5.out (x7_2:Int) (Go.bits .andNot .i64 (rd x5_2 x7_2) (rd l0 x6_1))
    rw [← Ny153.out] at HP26
    have HQ26:=yam HP26
    clear HP26
    refine start_ (n:=13) (S:=fun w'=>w'.cell? ⟨go22,(x7_2).toNat,none⟩=some (.int .i64 (rd x5_2 x7_2))∧w'.cell? (ad147.add (x6_1).toNat)=some (.int .i64 (rd l0 x6_1))) (ds:=[12]) (yvb 13 0) (by kernel_rfl) rfl rfl ⟨hx151_0,((HB.out.cell (World.block_lt_of_cell? w _ hw152_0)).trans hw152_0)⟩ (fun hHeld=>?_);refine with_tabW spec_NarrowSingles.tab12 spec_NarrowSingles.bits12 (fun HT_ HW_=>?_)
    generalize w23.drew=w24 at HO_5 HB GG22 HQ26 hf22_0 hx151_0 hx152_0 hx22_0 hHeld ⊢
    refine yvp 0 55 (yvb 13 1) HT_.out ?_
    refine yvp 1 56 (yvb 13 3) HT_.out ?_
    refine yvp 2 57 (yvb 13 7) HT_.out ?_
    refine yvp 3 58 (yvb 13 15) HT_.out ?_
    refine yvp 4 59 (yvb 13 31) HT_.out ?_
    refine yvp 6 61 (yvb 13 95) HT_.out ?_
    refine yvp 7 62 (yvb 13 223) HT_.out ?_
    refine yvp 8 63 (yvb 13 479) HT_.out ?_
    refine yvt 5 60 (yvb 13 511) HT_.out HW_.out hHeld ?_
    refine yvt 9 64 (yvb 13 1023) HT_.out HW_.out hHeld ?_
    refine yvp 10 65 (yvb 13 2047) HT_.out ?_
    refine yvp 11 66 (yvb 13 4095) HT_.out ?_
    refine last_ (i:=12) (N:=none) (yvb 13 8191) rfl rfl (one_of HT_.out (by kernel_rfl)) (by decide) (fun K hK=>?_)
    refine skip_ (w1:=?_) (by rfl) rfl ?_ ?_
    rotate_left
    ·go_simp
     rfl
    refine hK.out _ _ ?_
    clear hK K
    refine done_ (done_of HT_.out (by kernel_rfl)) ?_
    try go_wp2
    go_roundg k2
    case measure=>have:=HK1.out;have:=HK2.out;omega
    case rel=>exact ⟨(y153),(wrap64 (x7_2 + 1)),yeq,H,⟨by have:=HK1.out;have:=HK2.out;omega⟩,⟨yka HQ26.out⟩,⟨yhb⟩⟩
   have c17b0:((wrap64 (Int.tdiv x7_2 a1)) == (wrap64 (Int.tdiv x6_1 a1)))=false:=beq_eq_false_iff_ne.mpr c17
   have c17b1:((wrap64 (Int.tdiv x7_2 a1)) != (wrap64 (Int.tdiv x6_1 a1)))=true:=bne_iff_ne.mpr c17
   replace H:=yit H;obtain ⟨c27,H⟩ | ⟨c27,H⟩:=H
   rotate_left
   ·have c27b0:((Int.tmod x7_2 a1) == (Int.tmod x6_1 a1))=false:=beq_eq_false_iff_ne.mpr c27
    have c27b1:((Int.tmod x7_2 a1) != (Int.tmod x6_1 a1))=true:=bne_iff_ne.mpr c27
    replace H:=yam H
    try go_wp2
    replace HO_5:=yam (Kd.Yd HO_5.out)
    replace HB:=yam (yed HB.out)
    refine start_ (n:=21) (S:=fun w'=>True) (ds:=[]) (yvb 21 0) (by kernel_rfl) rfl rfl trivial (fun hHeld=>?_);refine with_tabW spec_NarrowSingles.tab11 spec_NarrowSingles.bits11 (fun HT_ HW_=>?_)
    generalize wr.drew=w37 at HO_5 HB hHeld ⊢
    refine yvp 0 34 (yvb 21 1) HT_.out ?_
    refine yvp 1 35 (yvb 21 3) HT_.out ?_
    refine yvp 2 36 (yvb 21 7) HT_.out ?_
    refine yvp 3 37 (yvb 21 15) HT_.out ?_
    refine yvp 4 38 (yvb 21 31) HT_.out ?_
    refine yvp 5 39 (yvb 21 63) HT_.out ?_
    refine yvp 6 40 (yvb 21 127) HT_.out ?_
    refine yvp 7 41 (yvb 21 255) HT_.out ?_
    refine yvp 8 42 (yvb 21 511) HT_.out ?_
    refine yvp 9 43 (yvb 21 1023) HT_.out ?_
    refine yvp 10 44 (yvb 21 2047) HT_.out ?_
    refine yvp 11 45 (yvb 21 4095) HT_.out ?_
    refine yvp 12 46 (yvb 21 8191) HT_.out ?_
    refine yvp 13 47 (yvb 21 16383) HT_.out ?_
    refine yvp 14 48 (yvb 21 32767) HT_.out ?_
    refine yvp 15 49 (yvb 21 65535) HT_.out ?_
    refine yvp 16 50 (yvb 21 131071) HT_.out ?_
    refine yvp 17 51 (yvb 21 262143) HT_.out ?_
    refine yvp 18 52 (yvb 21 524287) HT_.out ?_
    refine yvp 19 53 (yvb 21 1048575) HT_.out ?_
    refine yvp 20 54 (yvb 21 2097151) HT_.out ?_
    refine done_ (done_of HT_.out (by kernel_rfl)) ?_
    try go_wp2
    go_roundg k2
    case measure=>have:=HK1.out;have:=HK2.out;omega
    case rel=>exact ⟨(x5_2),(wrap64 (x7_2 + 1)),yeq,H,⟨by have:=HK1.out;have:=HK2.out;omega⟩,⟨yka HO_5.out⟩,⟨yhb⟩⟩
   have c27b0:((Int.tmod x7_2 a1) == (Int.tmod x6_1 a1))=true:=beq_iff_eq.mpr c27
   have c27b1:((Int.tmod x7_2 a1) != (Int.tmod x6_1 a1))=false:=bne_eq_false_iff_eq.mpr c27
   clear c27
   replace H:=yif H;obtain ⟨c28b0,H⟩:=H
   replace H:=yif H;obtain ⟨c29b0,H⟩:=H
   replace H:=yif H;obtain ⟨c30b0,H⟩:=H
   replace H:=yif H;obtain ⟨c31b0,H⟩:=H
   obtain ⟨y156,Ny156⟩:∃ y_:List Int,Aside0 (y_=(x5_2.set (x7_2:Int).toNat (Go.bits .andNot .i64 (rd x5_2 x7_2) (rd l0 x6_1)))):=⟨_,⟨rfl⟩⟩
   replace H:(spec_NarrowSingles.l1 k2 l0 a1 y156 x6_1 (wrap64 (x7_2 + 1)))=some r:=yhn Ny156.out H
   replace H:=yam H
   try go_wp2
   replace HO_5:=yam (Kd.Yd HO_5.out)
   replace HB:=yam (yed HB.out)
   refine start_ (n:=21) (S:=fun w'=>True) (ds:=[]) (yvb 21 0) (by kernel_rfl) rfl rfl trivial (fun hHeld=>?_);refine with_tabW spec_NarrowSingles.tab11 spec_NarrowSingles.bits11 (fun HT_ HW_=>?_)
   generalize wr.drew=w33 at HO_5 HB hHeld ⊢
   refine yvp 0 34 (yvb 21 1) HT_.out ?_
   refine yvp 1 35 (yvb 21 3) HT_.out ?_
   refine yvp 2 36 (yvb 21 7) HT_.out ?_
   refine yvp 3 37 (yvb 21 15) HT_.out ?_
   refine yvp 4 38 (yvb 21 31) HT_.out ?_
   refine yvp 5 39 (yvb 21 63) HT_.out ?_
   refine yvp 6 40 (yvb 21 127) HT_.out ?_
   refine yvp 7 41 (yvb 21 255) HT_.out ?_
   refine yvp 8 42 (yvb 21 511) HT_.out ?_
   refine yvp 9 43 (yvb 21 1023) HT_.out ?_
   refine yvp 10 44 (yvb 21 2047) HT_.out ?_
   refine yvp 11 45 (yvb 21 4095) HT_.out ?_
   refine yvp 12 46 (yvb 21 8191) HT_.out ?_
   refine yvp 13 47 (yvb 21 16383) HT_.out ?_
   refine yvp 14 48 (yvb 21 32767) HT_.out ?_
   refine yvp 15 49 (yvb 21 65535) HT_.out ?_
   refine yvp 16 50 (yvb 21 131071) HT_.out ?_
   refine yvp 17 51 (yvb 21 262143) HT_.out ?_
   refine yvp 18 52 (yvb 21 524287) HT_.out ?_
   refine yvp 19 53 (yvb 21 1048575) HT_.out ?_
   refine yvp 20 54 (yvb 21 2097151) HT_.out ?_
   refine done_ (done_of HT_.out (by kernel_rfl)) ?_
   try go_wp2
   replace HO_5:=yam (Kd.Yd HO_5.out)
   replace HB:=yam (yed HB.out)
   obtain ⟨Ao35,co35,eo35⟩:=Kd.R_slice HO_5.out
   (first|subst eo35|(injection eo35 with f1_ f2_ f3_;have f4_:=f1_.symm;have f5_:=f3_.symm;clear f1_ f2_ f3_;subst f4_;subst f5_))
   obtain ⟨ad154,e154,hx154_0,p154,q154⟩:=yat (Kd.Yr HO_5.out).2.2 x7_2
   cases e154
   obtain ⟨ad155,e155,hx155_0,p155,q155⟩:=yat HR0.out x6_1
   have hw155_0:=hx155_0
   obtain rfl:ad147=ad155:=(by injection e155)
   replace hx155_0:=ybx HB.out hx155_0
   have p32:0≤(x7_2:Int):=ydt
   have q32:(x7_2:Int) < ((x5_2.length:Int):Int):=ydt
   obtain ⟨go32,co32,eo32,gb32,gl32,cl32,HG32⟩:=Kd.R_form HO_5.out (by omega)
   (first|cases eo32|(injection eo32 with ea_ en_ ec_;(first|subst ea_|(injection ea_ with ea_;subst ea_));subst ec_;clear en_))
   have GB32:=yam gb32
   have GG32:=yam HG32
   clear gb32 gl32 HG32
   (first|simp only [add_plain] at hx154_0|skip)
   obtain ⟨hx32_0,hf32_0⟩:=Kd.R_celln 0 HO_5.out (x7_2:Int) p32 q32
   replace p32:=eq_true p32
   replace q32:=eq_true q32
   have HP36:=Kd.R_putn HO_5.out (x7_2:Int) (Go.bits .andNot .i64 (rd x5_2 x7_2) (rd l0 x6_1))
   rw [← Ny156.out] at HP36
   have HQ36:=yam HP36
   clear HP36
   refine start_ (n:=13) (S:=fun w'=>w'.cell? ⟨go32,(x7_2).toNat,none⟩=some (.int .i64 (rd x5_2 x7_2))∧w'.cell? (ad147.add (x6_1).toNat)=some (.int .i64 (rd l0 x6_1))) (ds:=[12]) (yvb 13 0) (by kernel_rfl) rfl rfl ⟨hx154_0,((HB.out.cell (World.block_lt_of_cell? w _ hw155_0)).trans hw155_0)⟩ (fun hHeld=>?_);refine with_tabW spec_NarrowSingles.tab12 spec_NarrowSingles.bits12 (fun HT_ HW_=>?_)
   generalize w33.drew=w34 at HO_5 HB GG32 HQ36 hf32_0 hx154_0 hx155_0 hx32_0 hHeld ⊢
   refine yvp 0 55 (yvb 13 1) HT_.out ?_
   refine yvp 1 56 (yvb 13 3) HT_.out ?_
   refine yvp 2 57 (yvb 13 7) HT_.out ?_
   refine yvp 3 58 (yvb 13 15) HT_.out ?_
   refine yvp 4 59 (yvb 13 31) HT_.out ?_
   refine yvp 6 61 (yvb 13 95) HT_.out ?_
   refine yvp 7 62 (yvb 13 223) HT_.out ?_
   refine yvp 8 63 (yvb 13 479) HT_.out ?_
   refine yvt 5 60 (yvb 13 511) HT_.out HW_.out hHeld ?_
   refine yvt 9 64 (yvb 13 1023) HT_.out HW_.out hHeld ?_
   refine yvp 10 65 (yvb 13 2047) HT_.out ?_
   refine yvp 11 66 (yvb 13 4095) HT_.out ?_
   refine last_ (i:=12) (N:=none) (yvb 13 8191) rfl rfl (one_of HT_.out (by kernel_rfl)) (by decide) (fun K hK=>?_)
   refine skip_ (w1:=?_) (by rfl) rfl ?_ ?_
   rotate_left
   ·go_simp
    rfl
   refine hK.out _ _ ?_
   clear hK K
   refine done_ (done_of HT_.out (by kernel_rfl)) ?_
   try go_wp2
   go_roundg k2
   case measure=>have:=HK1.out;have:=HK2.out;omega
   case rel=>exact ⟨(y156),(wrap64 (x7_2 + 1)),yeq,H,⟨by have:=HK1.out;have:=HK2.out;omega⟩,⟨yka HQ36.out⟩,⟨yhb⟩⟩
mutual
def spec_LineCells.l0:Nat→Int→Int→List Int→Int→Option (List Int)
 | 0,_,_,_,_=>none
 | k + 1,x0,x1,x5,x6=>if x6 < x0 then ((spec_l1In.f x0 2 4).bind fun t160=>(if t160=true then ((spec_l1In.f x1 0 (wrap64 ((wrap64 (2 * x0)) - 1))).bind fun t161=>(spec_LineCells.j1 k x0 x1 x5 x6 t161)) else (spec_LineCells.j1 k x0 x1 x5 x6 false))) else (spec_LineCells.j1 k x0 x1 x5 x6 false)
def spec_LineCells.j1:Nat→Int→Int→List Int→Int→Bool→Option (List Int)
 | 0,_,_,_,_,_=>none
 | k + 1,x0,x1,x5,x6,x21=>if x21=true then (if x1 < x0 then (if x5.length < 17592186044416 then (spec_LineCells.l0 k x0 x1 (x5 ++ [wrap64 ((wrap64 (x1 * x0)) + x6)]) (wrap64 (x6 + 1))) else (none)) else (if x5.length < 17592186044416 then (spec_LineCells.l0 k x0 x1 (x5 ++ [wrap64 ((wrap64 ((wrap64 (x6 * x0)) + x1)) - x0)]) (wrap64 (x6 + 1))) else (none))) else (some x5)
end
def spec_LineCells.f (k:Nat)(a0:Int)(a1:Int):Option (List Int):=spec_LineCells.l0 k a0 a1 (([]:List Int)) 0
theorem spec_LineCells.mono_l:∀ k,(∀ y0 y1 y2 y3,LeO (spec_LineCells.l0 k y0 y1 y2 y3) (spec_LineCells.l0 (k + 1) y0 y1 y2 y3))∧(∀ y0 y1 y2 y3 y4,LeO (spec_LineCells.j1 k y0 y1 y2 y3 y4) (spec_LineCells.j1 (k + 1) y0 y1 y2 y3 y4))
 | 0=>⟨fun _ _ _ _ r h=>by simp [spec_LineCells.l0] at h,fun _ _ _ _ _ r h=>by simp [spec_LineCells.j1] at h⟩
 | k + 1=>by
  obtain ⟨ih0,ih1⟩:=spec_LineCells.mono_l k
  refine ⟨?_,?_⟩
  ·intro y0 y1 y2 y3
   unfold spec_LineCells.l0
   repeat' first
   | (with_reducible exact ih0 _ _ _ _)
   | (with_reducible exact ih1 _ _ _ _ _)
   | (with_reducible exact LeO.refl _)
   | (with_reducible exact LeO.none _)
   | (with_reducible refine LeO.ite ?_ ?_)
   | (with_reducible refine LeO.bind ?_ (fun _=>?_))
   | exact ih0 _ _ _ _
   | exact ih1 _ _ _ _ _
   | exact LeO.none _
   | refine LeO.ite ?_ ?_
   | refine LeO.bind ?_ (fun _=>?_)
  ·intro y0 y1 y2 y3 y4
   unfold spec_LineCells.j1
   repeat' first
   | (with_reducible exact ih0 _ _ _ _)
   | (with_reducible exact ih1 _ _ _ _ _)
   | (with_reducible exact LeO.refl _)
   | (with_reducible exact LeO.none _)
   | (with_reducible refine LeO.ite ?_ ?_)
   | (with_reducible refine LeO.bind ?_ (fun _=>?_))
   | exact ih0 _ _ _ _
   | exact ih1 _ _ _ _ _
   | exact LeO.none _
   | refine LeO.ite ?_ ?_
   | refine LeO.bind ?_ (fun _=>?_)
theorem spec_LineCells.mono:∀ a0 a1 k,LeO (spec_LineCells.f k a0 a1) (spec_LineCells.f (k + 1) a0 a1):=by
 intro a0 a1 k
 obtain ⟨ih0,ih1⟩:=spec_LineCells.mono_l k
 unfold spec_LineCells.f
 repeat' first
   | (with_reducible exact ih0 _ _ _ _)
   | (with_reducible exact ih1 _ _ _ _ _)
   | (with_reducible exact LeO.refl _)
   | (with_reducible exact LeO.none _)
   | (with_reducible refine LeO.ite ?_ ?_)
   | (with_reducible refine LeO.bind ?_ (fun _=>?_))
   | exact ih0 _ _ _ _
   | exact ih1 _ _ _ _ _
   | exact LeO.none _
   | refine LeO.ite ?_ ?_
   | refine LeO.bind ?_ (fun _=>?_)
theorem spec_LineCells.calls (k:Nat)(a0:Int)(a1:Int)(r:List Int)(w:World)(h:spec_LineCells.f k a0 a1=some r) :
  Calls Try.prog 80 #[.int .i64 a0,.int .i64 a1] w fun e w'=>∃ v0_:Value,e= .returned (v0_)∧Kd.R (Kd.int .i64) 3 w' w.heap.size (fun _=>True) v0_ r∧Below w.heap.size w w':=by
 have HB:=yam (Below.refl w.heap.size w)
 unfold spec_LineCells.f at h
 have H:=h
 clear h
 obtain ⟨y157,Ny157⟩:∃ y_:List Int,Aside0 (y_=(([]:List Int))):=⟨_,⟨rfl⟩⟩
 replace H:(spec_LineCells.l0 k a0 a1 y157 0)=some r:=yhn Ny157.out H
 replace H:=yam H
 go_enter Try.func80,Try.ntmps80
 go_wp2_with (first|((with_reducible refine gate_dst (N:=7) rfl ?_);refine Kd.R_lit (Kd.int .i64) _ 3 ?hg (N:=7) ?hd (xs:=([]:List Int)) (inner:=[]) (ok:=fun _=>True) (okp:=fun _=>True) ?hr ?hp (fun _ hk=>hk) trivial (Below.refl _ _) (Nat.le_refl _) (by simp) ?_;(case hd=>rfl);(case hg=>rfl);(case hr=>first|(go_simp;done)|(go_simp;rfl));(case hp=>exact (Reps.none _ _));intro v158 w3 ho4 hb hg_ hnew_;clear hg_ hnew_;(first|rw [← Ny157.out] at ho4|(simp only [Int.reduceToNat] at ho4;rw [← Ny157.out] at ho4));have HO159:=yam (Kd.R_lower ho4 (below_size (yez HB.out)));replace HB:=yam (below_step (yez HB.out) hb);clear hb ho4))
 go_loopg [5,6] k (fun kq v5 v6 w'=>∃ (x5_1:List Int) (x6_1:Int),v6= .int .i64 x6_1∧Aside0 (spec_LineCells.l0 kq a0 a1 x5_1 x6_1=some r)∧Aside0 (kq≤k)∧Aside0 (Kd.R (Kd.int .i64) 3 w' w.heap.size (fun _=>True) v5 x5_1)∧Aside0 (Below w.heap.size w w'))
 case atStart=>exact ⟨(y157),(0),yeq,H,⟨Nat.le_refl _⟩,⟨yka HO159.out⟩,⟨yhb⟩⟩
 case round =>
  clear H
  obtain ⟨x5_1,x6_1,rfl,HA,HK1,HO_5,HB⟩:=hrel
  rcases gk with _|k1
  ·exact absurd HA.out (by simp [spec_LineCells.l0])
  obtain ⟨H⟩:=HA
  simp only [spec_LineCells.l0] at H
  have HC5:=yam H
  clear H
  go_upto_region 3 with (fail)
  go_cut [21] (fun v21 wc=>∃ (kq:Nat) (x21_4:Bool),v21= .bool x21_4∧Aside0 (spec_LineCells.j1 kq a0 a1 x5_1 x6_1 x21_4=some r)∧Aside0 (kq≤k1)∧Aside0 (Kd.R (Kd.int .i64) 3 wc w.heap.size (fun _=>True) u5 x5_1)∧Aside0 (Below w.heap.size w wc))
  case first =>
   have H:=HC5.out
   clear HC5
   replace H:=yis H;obtain ⟨c6b0,H⟩ | ⟨c6b0,H⟩:=H
   rotate_left
   ·(first|rw [c6b0]|(simp only [i64_w,i32_w];rw [c6b0])|skip)
    replace H:=yam H
    go_wp2
    go_meet
    case rel=>exact ⟨_,(false),yeq,H,⟨by have:=HK1.out;first|omega|exact Nat.le_refl _⟩,⟨yka HO_5.out⟩,⟨yhb⟩⟩
   (first|rw [c6b0]|(simp only [i64_w,i32_w];rw [c6b0])|skip)
   replace H:=ybi H;obtain ⟨t160,A7,H⟩:=H
   try dsimp only at H
   cases t160
   ·replace H:=yff H
    replace H:=yam H
    go_wp2_with (first|(go_at_call 39;(with_reducible refine (spec_l1In.calls a0 2 4 false _ A7.out).mono ?_);rintro e w' ⟨rfl,⟨nd,rfl⟩⟩))
    go_meet
    case rel=>exact ⟨_,(false),yeq,H,⟨by have:=HK1.out;first|omega|exact Nat.le_refl _⟩,⟨yka HO_5.out⟩,⟨yhb⟩⟩
   replace H:=ytt H
   replace H:=ybi H;obtain ⟨t161,A9,H⟩:=H
   try dsimp only at H
   replace H:=yam H
   go_wp2_with (first|(go_at_call 39;(with_reducible refine (spec_l1In.calls a0 2 4 true _ A7.out).mono ?_);rintro e w' ⟨rfl,⟨nd,rfl⟩⟩)|(go_at_call 39;(with_reducible refine (spec_l1In.calls a1 0 (wrap64 ((wrap64 (2 * a0)) - 1)) t161 _ A9.out).mono ?_);rintro e w' ⟨rfl,⟨nd,rfl⟩⟩))
   go_meet
   case rel=>exact ⟨_,(t161),yeq,H,⟨by have:=HK1.out;first|omega|exact Nat.le_refl _⟩,⟨yka HO_5.out⟩,⟨yhb⟩⟩
  case rest =>
   clear HC5
   obtain ⟨kq,x21_4,rfl,HA,HJ4,HO_5,HB⟩:=hcut
   rcases kq with _|kj4
   ·exact absurd HA.out (by simp [spec_LineCells.j1])
   obtain ⟨H⟩:=HA
   simp only [spec_LineCells.j1] at H
   cases x21_4
   ·replace H:=yff H
    obtain rfl:=ysi H
    go_wp2
    go_ret
    exact ⟨_,yer,yka HO_5.out,yhb⟩
   replace H:=ytt H
   replace H:=yis H;obtain ⟨c11b0,H⟩ | ⟨c11b0,H⟩:=H
   ·replace H:=yig H;obtain ⟨c12,H⟩:=H
    have LMc12:=yam c12
    clear c12
    obtain ⟨y162,Ny162⟩:∃ y_:List Int,Aside0 (y_=(x5_1 ++ [wrap64 ((wrap64 (a1 * a0)) + x6_1)])):=⟨_,⟨rfl⟩⟩
    replace H:(spec_LineCells.l0 kj4 a0 a1 y162 (wrap64 (x6_1 + 1)))=some r:=yhn Ny162.out H
    replace H:=yam H
    go_wp2_with (first|((with_reducible refine gate_builtin (b:= .append) (xs:= #[.tmp 27,.tmp 33]) rfl ?_);at_builtin;refine Kd.R_append (Kd.int .i64) (w0:=w) w.heap.size rfl (.tmp 27) (.tmp 33) 22 3 (.int .i64 0) 8 rfl Try.underlying22 info3 rfl (by decide) (by omega) u5 x5_1 (wrap64 ((wrap64 (a1 * a0)) + x6_1)) [.int .i64 (wrap64 ((wrap64 (a1 * a0)) + x6_1))] (fun _=>True) (fun _=>False) rfl rfl ?aP (fun _ hk=>hk.elim) ?aF ?aO ?aB ?aS ?aL ?_;(case aP=>exact rfl);(case aB=>exact (yez HB.out));(case aF=>exact (fun _ _=>trivial));(case aO=>exact (Kd.Yz HO_5.out));(case aS=>exact (below_size (yez HB.out)));(case aL=>have:=LMc12.out;omega);intro v163 w13 ho hb hg hat;rw [← Ny162.out] at ho;replace HB:=yam (hb);have HO164:=yam (ho);clear HO_5;clear ho hb hg hat))
    go_roundg kj4
    case measure=>have:=HK1.out;have:=HJ4.out;omega
    case rel=>exact ⟨(y162),(wrap64 (x6_1 + 1)),yeq,H,⟨by have:=HK1.out;have:=HJ4.out;omega⟩,⟨yka HO164.out⟩,⟨yhb⟩⟩
   replace H:=yig H;obtain ⟨c14,H⟩:=H
   have LMc14:=yam c14
   clear c14
   obtain ⟨y165,Ny165⟩:∃ y_:List Int,Aside0 (y_=(x5_1 ++ [wrap64 ((wrap64 ((wrap64 (x6_1 * a0)) + a1)) - a0)])):=⟨_,⟨rfl⟩⟩
   replace H:(spec_LineCells.l0 kj4 a0 a1 y165 (wrap64 (x6_1 + 1)))=some r:=yhn Ny165.out H
   replace H:=yam H
   go_wp2_with (first|((with_reducible refine gate_builtin (b:= .append) (xs:= #[.tmp 35,.tmp 43]) rfl ?_);at_builtin;refine Kd.R_append (Kd.int .i64) (w0:=w) w.heap.size rfl (.tmp 35) (.tmp 43) 22 3 (.int .i64 0) 8 rfl Try.underlying22 info3 rfl (by decide) (by omega) u5 x5_1 (wrap64 ((wrap64 ((wrap64 (x6_1 * a0)) + a1)) - a0)) [.int .i64 (wrap64 ((wrap64 ((wrap64 (x6_1 * a0)) + a1)) - a0))] (fun _=>True) (fun _=>False) rfl rfl ?aP (fun _ hk=>hk.elim) ?aF ?aO ?aB ?aS ?aL ?_;(case aP=>exact rfl);(case aB=>exact (yez HB.out));(case aF=>exact (fun _ _=>trivial));(case aO=>exact (Kd.Yz HO_5.out));(case aS=>exact (below_size (yez HB.out)));(case aL=>have:=LMc14.out;omega);intro v166 w15 ho hb hg hat;rw [← Ny165.out] at ho;replace HB:=yam (hb);have HO167:=yam (ho);clear HO_5;clear ho hb hg hat))
   go_roundg kj4
   case measure=>have:=HK1.out;have:=HJ4.out;omega
   case rel=>exact ⟨(y165),(wrap64 (x6_1 + 1)),yeq,H,⟨by have:=HK1.out;have:=HJ4.out;omega⟩,⟨yka HO167.out⟩,⟨yhb⟩⟩
mutual
def spec_NarrowHidden.l0:Nat→List Int→Int→List Int→Int→Option (List Int)
 | 0,_,_,_,_=>none
 | k + 1,x0,x1,x5,x6=>if x6 < (wrap64 (2 * x1)) then ((spec_LineCells.f k x1 x6).bind fun t175=>(spec_NarrowHidden.l1 k x0 x1 x5 x6 t175 1)) else (some x5)
def spec_NarrowHidden.l1:Nat→List Int→Int→List Int→Int→List Int→Int→Option (List Int)
 | 0,_,_,_,_,_,_=>none
 | k + 1,x0,x1,x5,x6,x7,x8=>if x8≤x1 then (spec_NarrowHidden.l2 k x0 x1 x5 x6 x7 x8 0 0 0) else (spec_NarrowHidden.l0 k x0 x1 x5 (wrap64 (x6 + 1)))
def spec_NarrowHidden.l2:Nat→List Int→Int→List Int→Int→List Int→Int→Int→Int→Int→Option (List Int)
 | 0,_,_,_,_,_,_,_,_,_=>none
 | k + 1,x0,x1,x5,x6,x7,x8,x9,x10,x11=>if x11 < (x7.length:Int) then (if 0≤x11 then (if 0≤(rd x7 x11) then (if (rd x7 x11) < (x0.length:Int) then (if 0≤x8 then (if (Int.tmod (shr .i64 (rd x0 (rd x7 x11)) x8) 2)=1 then (spec_NarrowHidden.l2 k x0 x1 x5 x6 x7 x8 (wrap64 (x9 + 1)) (rd x7 x11) (wrap64 (x11 + 1))) else (spec_NarrowHidden.l2 k x0 x1 x5 x6 x7 x8 x9 x10 (wrap64 (x11 + 1)))) else (none)) else (none)) else (none)) else (none)) else (if x9=1 then (if 0≤x10 then (if x10 < (x5.length:Int) then (if 0≤x8 then (spec_NarrowHidden.l1 k x0 x1 (x5.set (x10:Int).toNat (Go.bits .and .i64 (rd x5 x10) (shl .i64 1 x8))) x6 x7 (wrap64 (x8 + 1))) else (none)) else (none)) else (none)) else (spec_NarrowHidden.l1 k x0 x1 x5 x6 x7 (wrap64 (x8 + 1))))
end
def spec_NarrowHidden.f (k:Nat)(l0:List Int)(a1:Int):Option (List Int):=(spec_MasksValid.f k l0 a1).bind fun t168=>(if t168=true then ((spec_l6Copy.f l0).bind fun t172=>(spec_NarrowHidden.l0 k l0 a1 t172 0)) else (some (([]:List Int))))
def spec_NarrowHidden.T20:Bool × List (List Nat × List Nat):=(true,[([],[]),([],[]),([],[]),([],[]),([2,3],[2,3]),([4],[4]),([],[]),([6],[6]),([5,7],[5,7]),([0,1,0,1,2,3,4,5,6,7,8],[0,1]),([9,8,0,1,2,3,4,5,6,7,8],[8,9])])
def spec_NarrowHidden.B20:List Nat:=[0,0,0,0,12,28,0,64,252,511,1023]
theorem spec_NarrowHidden.tab20:rtab .any (opsOf Try.f55 20)=spec_NarrowHidden.T20:=by kernel_rfl
theorem spec_NarrowHidden.bits20:waitsOk spec_NarrowHidden.T20.2 spec_NarrowHidden.B20=true:=by kernel_rfl
theorem spec_NarrowHidden.calls (k:Nat)(A0:Option Addr)(c0:Nat)(l0:List Int)(a1:Int)(r:List Int)(w:World)(hr0:Kd.C (Kd.int .i64) w A0 l0.length l0)(hc0:l0.length≤c0)(h:spec_NarrowHidden.f k l0 a1=some r) :
  Calls Try.prog 55 #[.slice A0 l0.length c0,.int .i64 a1] w fun e w'=>∃ v0_:Value,e= .returned (v0_)∧Kd.R (Kd.int .i64) 3 w' w.heap.size (fun _=>True) v0_ r∧Below w.heap.size w w':=by
 have HR0:=yam hr0
 have HC0:=yam hc0
 clear hr0 hc0
 have HB:=yam (Below.refl w.heap.size w)
 unfold spec_NarrowHidden.f at h
 have H:=h
 clear h
 replace H:=ybi H;obtain ⟨t168,A3,H⟩:=H
 try dsimp only at H
 cases t168
 ·replace H:=yff H
  obtain ⟨y169,Ny169⟩:∃ y_:List Int,Aside0 (y_=(([]:List Int))):=⟨_,⟨rfl⟩⟩
  replace H:(some y169)=some r:=yhn Ny169.out H
  obtain rfl:=ysi H
  go_enter Try.func55,Try.ntmps55
  go_wp2_with (first|(refine goesL_ (some 14) rfl rfl Try.func53 (by kernel_rfl) rfl #[.slice A0 l0.length c0,.int .i64 a1] rfl ymd ?_;(with_reducible refine (spec_MasksValid.calls k _ _ l0 a1 false _ ?_ ?_ A3.out).mono ?_);exact Kd.Cz (HR0.out);exact HC0.out;rintro e w' ⟨rfl,⟨nd,rfl⟩⟩;refine ⟨_,rfl,?_⟩)|((with_reducible refine gate_dst (N:=16) rfl ?_);refine Kd.R_lit (Kd.int .i64) _ 3 ?hg (N:=16) ?hd (xs:=([]:List Int)) (inner:=[]) (ok:=fun _=>True) (okp:=fun _=>True) ?hr ?hp (fun _ hk=>hk) trivial (Below.refl _ _) (Nat.le_refl _) (by simp) ?_;(case hd=>rfl);(case hg=>rfl);(case hr=>first|(go_simp;done)|(go_simp;rfl));(case hp=>exact (Reps.none _ _));intro v170 w31 ho32 hb hg_ hnew_;clear hg_ hnew_;(first|rw [← Ny169.out] at ho32|(simp only [Int.reduceToNat] at ho32;rw [← Ny169.out] at ho32));have HO171:=yam (Kd.R_lower ho32 (below_size (yez HB.out)));replace HB:=yam (below_step (yez HB.out) hb);clear hb ho32))
  go_ret
  exact ⟨_,yer,yka HO171.out,yhb⟩
 replace H:=ytt H
 replace H:=ybi H;obtain ⟨t172,A5,H⟩:=H
 try dsimp only at H
 replace H:=yam H
 go_enter Try.func55,Try.ntmps55
 go_wp2_with (first|(refine goesL_ (some 14) rfl rfl Try.func53 (by kernel_rfl) rfl #[.slice A0 l0.length c0,.int .i64 a1] rfl ymd ?_;(with_reducible refine (spec_MasksValid.calls k _ _ l0 a1 true _ ?_ ?_ A3.out).mono ?_);exact Kd.Cz (HR0.out);exact HC0.out;rintro e w' ⟨rfl,⟨nd,rfl⟩⟩;refine ⟨_,rfl,?_⟩)|(refine goesL_ (some 18) rfl rfl Try.func62 (by kernel_rfl) rfl #[.slice A0 l0.length c0] rfl ymd ?_;(with_reducible refine (spec_l6Copy.calls _ _ l0 t172 _ ?_ ?_ A5.out).mono ?_);exact Kd.Cz (HR0.out);exact HC0.out;rintro e w6 ⟨v173,rfl,ho0,hb⟩;refine ⟨_,rfl,?_⟩;have HO174:=yam (Kd.R_lower ho0 (below_size (yez HB.out)));replace HB:=yam (below_step (yez HB.out) hb);(try clear hb);(try clear ho0)))
 go_loopg [6] k (fun kq v6 w'=>∃ (x5_1:List Int) (x6_1:Int),v6= .int .i64 x6_1∧Aside0 (spec_NarrowHidden.l0 kq l0 a1 x5_1 x6_1=some r)∧Aside0 (kq≤k)∧Aside0 (Kd.R (Kd.int .i64) 3 w' w.heap.size (fun _=>True) v173 x5_1)∧Aside0 (Below w.heap.size w w'))
 case atStart=>exact ⟨(t172),(0),yeq,H,⟨Nat.le_refl _⟩,⟨yka HO174.out⟩,⟨yhb⟩⟩
 case round =>
  clear H
  obtain ⟨x5_1,x6_1,rfl,HA,HK1,HO_5,HB⟩:=hrel
  rcases gk with _|k1
  ·exact absurd HA.out (by simp [spec_NarrowHidden.l0])
  obtain ⟨H⟩:=HA
  simp only [spec_NarrowHidden.l0] at H
  replace H:=yis H;obtain ⟨c7b0,H⟩ | ⟨c7b0,H⟩:=H
  rotate_left
  ·obtain rfl:=ysi H
   go_wp2
   go_ret
   exact ⟨_,yer,yka HO_5.out,yhb⟩
  replace H:=ybi H;obtain ⟨t175,A8,H⟩:=H
  try dsimp only at H
  replace H:=yam H
  go_wp2_with (first|(refine goesL_ (some 27) rfl rfl Try.func80 (by kernel_rfl) rfl #[.int .i64 a1,.int .i64 x6_1] rfl ymd ?_;(with_reducible refine (spec_LineCells.calls k1 a1 x6_1 t175 _ A8.out).mono ?_);rintro e w9 ⟨v176,rfl,ho0,hb⟩;refine ⟨_,rfl,?_⟩;have HO177:=yam (Kd.R_lower (Kd.Yw ho0 (Kd.R_lt (Kd.Yz HO_5.out))) (below_size (yez HB.out)));replace HO_5:=yam (Kd.Ye (Kd.Yz HO_5.out) (Kd.Yb ho0) hb);replace HB:=yam (below_step (yez HB.out) hb);(try clear hb);(try clear ho0)))
  go_loopg [8] k1 (fun kq v8 w'=>∃ (x5_2:List Int) (x8_2:Int),v8= .int .i64 x8_2∧Aside0 (spec_NarrowHidden.l1 kq l0 a1 x5_2 x6_1 t175 x8_2=some r)∧Aside0 (kq≤k1)∧Aside0 (Kd.R (Kd.int .i64) 3 w' w.heap.size (fun k_=>some k_≠(v176:Value).ownBlock) v173 x5_2)∧Aside0 (Kd.R (Kd.int .i64) 3 w' w.heap.size (fun k_=>some k_≠(v173:Value).ownBlock) v176 t175)∧Aside0 (Below w.heap.size w w'))
  case atStart=>exact ⟨(x5_1),(1),yeq,H,⟨Nat.le_refl _⟩,⟨by (with_reducible repeat (first|apply Kd.Ya|apply Kd.Yn|apply Kd.Yd));exact Kd.R_mono HO_5.out (fun _ hk=>hk.2)⟩,⟨by (with_reducible repeat (first|apply Kd.Ya|apply Kd.Yn|apply Kd.Yd));exact Kd.R_mono HO177.out (fun _ hk=>hk.2)⟩,⟨yhb⟩⟩
  case round =>
   clear H
   try clear c7b0
   obtain ⟨x5_2,x8_2,rfl,HA,HK2,HO_5,HO_7,HB⟩:=hrel
   rcases gk with _|k2
   ·exact absurd HA.out (by simp [spec_NarrowHidden.l1])
   obtain ⟨H⟩:=HA
   simp only [spec_NarrowHidden.l1] at H
   replace H:=yis H;obtain ⟨c10b0,H⟩ | ⟨c10b0,H⟩:=H
   rotate_left
   ·replace H:=yam H
    go_wp2
    go_roundg k2
    case measure=>have:=HK1.out;have:=HK2.out;omega
    case rel=>exact ⟨(x5_2),(wrap64 (x6_1 + 1)),yeq,H,⟨by have:=HK1.out;have:=HK2.out;omega⟩,⟨by (with_reducible repeat (first|apply Kd.Ya|apply Kd.Yn|apply Kd.Yd));exact Kd.R_mono HO_5.out (fun _ hk=>trivial)⟩,⟨yhb⟩⟩
   replace H:=yam H
   go_wp2
   go_loopg [9,10,11] k2 (fun kq v9 v10 v11 w'=>∃ (x9_3:Int) (x10_3:Int) (x11_3:Int),v9= .int .i64 x9_3∧v10= .int .i64 x10_3∧v11= .int .i64 x11_3∧Aside0 (spec_NarrowHidden.l2 kq l0 a1 x5_2 x6_1 t175 x8_2 x9_3 x10_3 x11_3=some r)∧Aside0 (kq≤k2)∧Aside0 (Kd.R (Kd.int .i64) 3 w' w.heap.size (fun k_=>some k_≠(v176:Value).ownBlock) v173 x5_2)∧Aside0 (Kd.R (Kd.int .i64) 3 w' w.heap.size (fun k_=>some k_≠(v173:Value).ownBlock) v176 t175)∧Aside0 (Below w.heap.size w w'))
   case atStart=>exact ⟨(0),(0),(0),yeq,yeq,yeq,H,⟨Nat.le_refl _⟩,⟨yka HO_5.out⟩,⟨yka HO_7.out⟩,⟨yhb⟩⟩
   case round =>
    clear H
    try clear c10b0
    obtain ⟨x9_3,x10_3,x11_3,rfl,rfl,rfl,HA,HK3,HO_5,HO_7,HB⟩:=hrel
    rcases gk with _|k3
    ·exact absurd HA.out (by simp [spec_NarrowHidden.l2])
    obtain ⟨H⟩:=HA
    simp only [spec_NarrowHidden.l2] at H
    replace H:=yis H;obtain ⟨c11b0,H⟩ | ⟨c11b0,H⟩:=H
    ·replace H:=yif H;obtain ⟨c12b0,H⟩:=H
     replace H:=yif H;obtain ⟨c13b0,H⟩:=H
     replace H:=yif H;obtain ⟨c14b0,H⟩:=H
     replace H:=yig H;obtain ⟨c15,H⟩:=H
     have c15b0:=eq_true c15
     have c15b1:decide (0≤x8_2)=true:=decide_eq_true c15
     clear c15
     obtain ⟨ji16,hji16⟩:∃ j_:Int,(shr .i64 (rd l0 (rd t175 x11_3)) x8_2)=j_:=⟨_,rfl⟩
     replace H:(if (Int.tmod (ji16) 2)=1 then (spec_NarrowHidden.l2 k3 l0 a1 x5_2 x6_1 t175 x8_2 (wrap64 (x9_3 + 1)) (rd t175 x11_3) (wrap64 (x11_3 + 1))) else (spec_NarrowHidden.l2 k3 l0 a1 x5_2 x6_1 t175 x8_2 x9_3 x10_3 (wrap64 (x11_3 + 1))))=some r:=by first|(rw [hji16] at H;exact H)|(simp only [hji16] at H ⊢;exact H)
     have hji16_:((rd l0 (rd t175 x11_3)) / 2 ^ min x8_2.toNat 64)=ji16:=hji16
     have hji16z:x8_2≤64→((rd l0 (rd t175 x11_3)) / 2 ^ x8_2.toNat)=ji16:=shr_small hji16
     replace H:=yit H;obtain ⟨c17,H⟩ | ⟨c17,H⟩:=H
     rotate_left
     ·have c17b0:((Int.tmod (ji16) 2) == 1)=false:=beq_eq_false_iff_ne.mpr c17
      have c17b1:((Int.tmod (ji16) 2) != 1)=true:=bne_iff_ne.mpr c17
      replace H:=yam H
      obtain ⟨Ao19,co19,eo19⟩:=Kd.R_slice HO_7.out
      subst eo19
      obtain ⟨ad178,e178,hx178_0,p178,q178⟩:=yat (Kd.Yr HO_7.out).2.2 x11_3
      cases e178
      obtain ⟨ad179,e179,hx179_0,p179,q179⟩:=yat HR0.out (rd t175 x11_3)
      cases e179
      replace hx179_0:=ybx HB.out hx179_0
      go_wp2
      go_roundg k3
      case measure=>have:=HK1.out;have:=HK2.out;have:=HK3.out;omega
      case rel=>exact ⟨(x9_3),(x10_3),(wrap64 (x11_3 + 1)),yeq,yeq,yeq,H,⟨by have:=HK1.out;have:=HK2.out;have:=HK3.out;omega⟩,⟨yka HO_5.out⟩,⟨yka HO_7.out⟩,⟨yhb⟩⟩
     have c17b0:((Int.tmod (ji16) 2) == 1)=true:=beq_iff_eq.mpr c17
     have c17b1:((Int.tmod (ji16) 2) != 1)=false:=bne_eq_false_iff_eq.mpr c17
     clear c17
     replace H:=yam H
     obtain ⟨Ao18,co18,eo18⟩:=Kd.R_slice HO_7.out
     subst eo18
     obtain ⟨ad178,e178,hx178_0,p178,q178⟩:=yat (Kd.Yr HO_7.out).2.2 x11_3
     cases e178
     obtain ⟨ad179,e179,hx179_0,p179,q179⟩:=yat HR0.out (rd t175 x11_3)
     cases e179
     replace hx179_0:=ybx HB.out hx179_0
     obtain ⟨ad180,e180,hx180_0,p180,q180⟩:=yat (Kd.Yr HO_7.out).2.2 x11_3
     obtain rfl:ad178=ad180:=(by injection e180)
     go_wp2
     go_roundg k3
     case measure=>have:=HK1.out;have:=HK2.out;have:=HK3.out;omega
     case rel=>exact ⟨(wrap64 (x9_3 + 1)),(rd t175 x11_3),(wrap64 (x11_3 + 1)),yeq,yeq,yeq,H,⟨by have:=HK1.out;have:=HK2.out;have:=HK3.out;omega⟩,⟨yka HO_5.out⟩,⟨yka HO_7.out⟩,⟨yhb⟩⟩
    replace H:=yit H;obtain ⟨c20,H⟩ | ⟨c20,H⟩:=H
    rotate_left
    ·have c20b0:(x9_3 == 1)=false:=beq_eq_false_iff_ne.mpr c20
     have c20b1:(x9_3 != 1)=true:=bne_iff_ne.mpr c20
     replace H:=yam H
     obtain ⟨Ao30,co30,eo30⟩:=Kd.R_slice HO_7.out
     subst eo30
     go_wp2
     go_roundg k3
     case measure=>have:=HK1.out;have:=HK2.out;have:=HK3.out;omega
     case rel=>exact ⟨(x5_2),(wrap64 (x8_2 + 1)),yeq,H,⟨by have:=HK1.out;have:=HK2.out;have:=HK3.out;omega⟩,⟨yka HO_5.out⟩,⟨yka HO_7.out⟩,⟨yhb⟩⟩
    have c20b0:(x9_3 == 1)=true:=beq_iff_eq.mpr c20
    have c20b1:(x9_3 != 1)=false:=bne_eq_false_iff_eq.mpr c20
    clear c20
    replace H:=yif H;obtain ⟨c21b0,H⟩:=H
    replace H:=yif H;obtain ⟨c22b0,H⟩:=H
    replace H:=yig H;obtain ⟨c23,H⟩:=H
    have c23b0:=eq_true c23
    have c23b1:decide (0≤x8_2)=true:=decide_eq_true c23
    clear c23
    obtain ⟨ji24,hji24⟩:∃ j_:Int,(shl .i64 1 x8_2)=j_:=⟨_,rfl⟩
    replace H:(spec_NarrowHidden.l1 k3 l0 a1 (x5_2.set (x10_3:Int).toNat (Go.bits .and .i64 (rd x5_2 x10_3) (ji24))) x6_1 t175 (wrap64 (x8_2 + 1)))=some r:=by first|(rw [hji24] at H;exact H)|(simp only [hji24] at H ⊢;exact H)
    have hji24_:(IntKind.i64.wrap (1 * 2 ^ min x8_2.toNat 64))=ji24:=hji24
    have hji24z:x8_2≤64→(IntKind.i64.wrap (1 * 2 ^ x8_2.toNat))=ji24:=shl_small hji24
    have hji24u:(IntKind.i64.wrap (2 ^ min x8_2.toNat 64))=ji24:=by have h_:=hji24_;rw [Int.one_mul] at h_;exact h_
    have hji24v:x8_2≤64→(IntKind.i64.wrap (2 ^ x8_2.toNat))=ji24:=fun hle_=>by have h_:=hji24z hle_;rw [Int.one_mul] at h_;exact h_
    have hji24y:(wrap64 (1 * 2 ^ min x8_2.toNat 64))=ji24:=(i64_w _).symm.trans hji24_
    have hji24x:x8_2≤64→(wrap64 (1 * 2 ^ x8_2.toNat))=ji24:=fun h_=>(i64_w _).symm.trans (hji24z h_)
    obtain ⟨y182,Ny182⟩:∃ y_:List Int,Aside0 (y_=(x5_2.set (x10_3:Int).toNat (Go.bits .and .i64 (rd x5_2 x10_3) (ji24)))):=⟨_,⟨rfl⟩⟩
    replace H:(spec_NarrowHidden.l1 k3 l0 a1 y182 x6_1 t175 (wrap64 (x8_2 + 1)))=some r:=yhn Ny182.out H
    replace H:=yam H
    obtain ⟨Ao26,co26,eo26⟩:=Kd.R_slice HO_7.out
    subst eo26
    try go_wp2
    replace HO_5:=yam (Kd.Yd HO_5.out)
    replace HO_7:=yam (Kd.Yd HO_7.out)
    replace HB:=yam (yed HB.out)
    obtain ⟨Ao28,co28,eo28⟩:=Kd.R_slice HO_5.out
    (first|subst eo28|(injection eo28 with f1_ f2_ f3_;have f4_:=f1_.symm;have f5_:=f3_.symm;clear f1_ f2_ f3_;subst f4_;subst f5_))
    obtain ⟨ad181,e181,hx181_0,p181,q181⟩:=yat (Kd.Yr HO_5.out).2.2 x10_3
    cases e181
    have p25:0≤(x10_3:Int):=ydt
    have q25:(x10_3:Int) < ((x5_2.length:Int):Int):=ydt
    obtain ⟨go25,co25,eo25,gb25,gl25,cl25,HG25⟩:=Kd.R_form HO_5.out (by omega)
    (first|cases eo25|(injection eo25 with ea_ en_ ec_;(first|subst ea_|(injection ea_ with ea_;subst ea_));subst ec_;clear en_))
    have GB25:=yam gb25
    have GG25:=yam HG25
    clear gb25 gl25 HG25
    (first|simp only [add_plain] at hx181_0|skip)
    obtain ⟨hx25_0,hf25_0⟩:=Kd.R_celln 0 HO_5.out (x10_3:Int) p25 q25
    replace p25:=eq_true p25
    replace q25:=eq_true q25
    have HP29:=Kd.R_putn HO_5.out (x10_3:Int) (Go.bits .and .i64 (rd x5_2 x10_3) (ji24))
    rw [← Ny182.out] at HP29
    have HQ29:=yam HP29
    clear HP29
    refine start_ (n:=11) (S:=fun w'=>w'.cell? ⟨go25,(x10_3).toNat,none⟩=some (.int .i64 (rd x5_2 x10_3))) (ds:=[10]) (yvb 11 0) (by kernel_rfl) rfl rfl (hx181_0) (fun hHeld=>?_);refine with_tabW spec_NarrowHidden.tab20 spec_NarrowHidden.bits20 (fun HT_ HW_=>?_)
    generalize wr.drew=w27 at HO_5 HO_7 HB GG25 HQ29 hf25_0 hx181_0 hx25_0 hHeld ⊢
    refine yvp 0 58 (yvb 11 1) HT_.out ?_
    refine yvp 1 59 (yvb 11 3) HT_.out ?_
    refine yvp 2 60 (yvb 11 7) HT_.out ?_
    refine yvp 3 61 (yvb 11 15) HT_.out ?_
    refine yvp 4 62 (yvb 11 31) HT_.out ?_
    refine yvp 6 64 (yvb 11 95) HT_.out ?_
    refine yvp 7 65 (yvb 11 223) HT_.out ?_
    refine yvt 5 63 (yvb 11 255) HT_.out HW_.out hHeld ?_
    refine yvp 8 66 (yvb 11 511) HT_.out ?_
    refine yvp 9 67 (yvb 11 1023) HT_.out ?_
    refine last_ (i:=10) (N:=none) (yvb 11 2047) rfl rfl (one_of HT_.out (by kernel_rfl)) (by decide) (fun K hK=>?_)
    refine skip_ (w1:=?_) (by rfl) rfl ?_ ?_
    rotate_left
    ·go_simp
     rfl
    refine hK.out _ _ ?_
    clear hK K
    refine done_ (done_of HT_.out (by kernel_rfl)) ?_
    try go_wp2
    go_roundg k3
    case measure=>have:=HK1.out;have:=HK2.out;have:=HK3.out;omega
    case rel=>exact ⟨(y182),(wrap64 (x8_2 + 1)),yeq,H,⟨by have:=HK1.out;have:=HK2.out;have:=HK3.out;omega⟩,⟨yka HQ29.out⟩,⟨by (with_reducible repeat (first|apply Kd.Ya|apply Kd.Yn|apply Kd.Yd));exact Kd.R_mono (Kd.R_far (p:=⟨go25,(x10_3:Int).toNat,none⟩) (Kd.R_mono HO_7.out (fun k_ hk=>(⟨hk,fun e_=>hk (by rw [e_];rfl)⟩:_∧k_≠go25))) (fun _ hk=>hk.2) (.int .i64 (Go.bits .and .i64 (rd x5_2 x10_3) (ji24)))) (fun _ hk=>hk.1)⟩,⟨yhb⟩⟩
mutual
def spec_NarrowPairs.l0:Nat→List Int→Int→List Int→Int→Option (List Int)
 | 0,_,_,_,_=>none
 | k + 1,x0,x1,x5,x6=>if x6 < (wrap64 (2 * x1)) then ((spec_LineCells.f k x1 x6).bind fun t190=>(spec_NarrowPairs.l1 k x0 x1 x5 x6 t190 0)) else (some x5)
def spec_NarrowPairs.l1:Nat→List Int→Int→List Int→Int→List Int→Int→Option (List Int)
 | 0,_,_,_,_,_,_=>none
 | k + 1,x0,x1,x5,x6,x7,x8=>if x8 < x1 then (spec_NarrowPairs.l2 k x0 x1 x5 x6 x7 x8 0) else (spec_NarrowPairs.l0 k x0 x1 x5 (wrap64 (x6 + 1)))
def spec_NarrowPairs.l2:Nat→List Int→Int→List Int→Int→List Int→Int→Int→Option (List Int)
 | 0,_,_,_,_,_,_,_=>none
 | k + 1,x0,x1,x5,x6,x7,x8,x9=>if x9 < x8 then (if 0≤x8 then (if x8 < (x7.length:Int) then (if 0≤(rd x7 x8) then (if (rd x7 x8) < (x0.length:Int) then (if 0≤x9 then (if x9 < (x7.length:Int) then (if 0≤(rd x7 x9) then (if (rd x7 x9) < (x0.length:Int) then (if (rd x0 (rd x7 x8))=(rd x0 (rd x7 x9)) then ((spec_MaskValues.f k (rd x0 (rd x7 x8))).bind fun t197=>(spec_NarrowPairs.j3 k x0 x1 x5 x6 x7 x8 x9 (rd x0 (rd x7 x8)) ((t197.length:Int) != 2))) else (spec_NarrowPairs.j3 k x0 x1 x5 x6 x7 x8 x9 (rd x0 (rd x7 x8)) true)) else (none)) else (none)) else (none)) else (none)) else (none)) else (none)) else (none)) else (none)) else (spec_NarrowPairs.l1 k x0 x1 x5 x6 x7 (wrap64 (x8 + 1)))
def spec_NarrowPairs.j3:Nat→List Int→Int→List Int→Int→List Int→Int→Int→Int→Bool→Option (List Int)
 | 0,_,_,_,_,_,_,_,_,_=>none
 | k + 1,x0,x1,x5,x6,x7,x8,x9,x10,x59=>if x59=true then (spec_NarrowPairs.l2 k x0 x1 x5 x6 x7 x8 (wrap64 (x9 + 1))) else (spec_NarrowPairs.l3 k x0 x1 x5 x6 x7 x8 x9 x10 0)
def spec_NarrowPairs.l3:Nat→List Int→Int→List Int→Int→List Int→Int→Int→Int→Int→Option (List Int)
 | 0,_,_,_,_,_,_,_,_,_=>none
 | k + 1,x0,x1,x5,x6,x7,x8,x9,x10,x11=>if x11 < x1 then (if x11=x8 then (spec_NarrowPairs.l3 k x0 x1 x5 x6 x7 x8 x9 x10 (wrap64 (x11 + 1))) else (if x11=x9 then (spec_NarrowPairs.l3 k x0 x1 x5 x6 x7 x8 x9 x10 (wrap64 (x11 + 1))) else (if 0≤x11 then (if x11 < (x7.length:Int) then (if 0≤(rd x7 x11) then (if (rd x7 x11) < (x5.length:Int) then (spec_NarrowPairs.l3 k x0 x1 (x5.set ((rd x7 x11):Int).toNat (Go.bits .andNot .i64 (rd x5 (rd x7 x11)) x10)) x6 x7 x8 x9 x10 (wrap64 (x11 + 1))) else (none)) else (none)) else (none)) else (none)))) else (spec_NarrowPairs.l2 k x0 x1 x5 x6 x7 x8 (wrap64 (x9 + 1)))
end
def spec_NarrowPairs.f (k:Nat)(l0:List Int)(a1:Int):Option (List Int):=(spec_MasksValid.f k l0 a1).bind fun t183=>(if t183=true then ((spec_l6Copy.f l0).bind fun t187=>(spec_NarrowPairs.l0 k l0 a1 t187 0)) else (some (([]:List Int))))
def spec_NarrowPairs.T20:Bool × List (List Nat × List Nat):=(true,[([],[]),([],[]),([],[]),([1,2],[1,2]),([3],[3]),([],[]),([],[]),([],[]),([6,7],[6,7]),([8],[8]),([5,9],[5,9]),([10],[10]),([],[]),([11,12],[11,12]),([0,4,0,1,2,3,4,5,6,7,8,9,10,11,12,13],[0,4]),([14,13,0,1,2,3,4,5,6,7,8,9,10,11,12,13],[13,14])])
def spec_NarrowPairs.B20:List Nat:=[0,0,0,6,14,0,0,0,192,448,992,2016,0,8160,16383,32767]
theorem spec_NarrowPairs.tab20:rtab .any (opsOf Try.f56 20)=spec_NarrowPairs.T20:=by kernel_rfl
theorem spec_NarrowPairs.bits20:waitsOk spec_NarrowPairs.T20.2 spec_NarrowPairs.B20=true:=by kernel_rfl
theorem spec_NarrowPairs.calls (k:Nat)(A0:Option Addr)(c0:Nat)(l0:List Int)(a1:Int)(r:List Int)(w:World)(hr0:Kd.C (Kd.int .i64) w A0 l0.length l0)(hc0:l0.length≤c0)(h:spec_NarrowPairs.f k l0 a1=some r) :
  Calls Try.prog 56 #[.slice A0 l0.length c0,.int .i64 a1] w fun e w'=>∃ v0_:Value,e= .returned (v0_)∧Kd.R (Kd.int .i64) 3 w' w.heap.size (fun _=>True) v0_ r∧Below w.heap.size w w':=by
 have HR0:=yam hr0
 have HC0:=yam hc0
 clear hr0 hc0
 have HB:=yam (Below.refl w.heap.size w)
 unfold spec_NarrowPairs.f at h
 have H:=h
 clear h
 replace H:=ybi H;obtain ⟨t183,A3,H⟩:=H
 try dsimp only at H
 cases t183
 ·replace H:=yff H
  obtain ⟨y184,Ny184⟩:∃ y_:List Int,Aside0 (y_=(([]:List Int))):=⟨_,⟨rfl⟩⟩
  replace H:(some y184)=some r:=yhn Ny184.out H
  obtain rfl:=ysi H
  go_enter Try.func56,Try.ntmps56
  go_wp2_with (first|(refine goesL_ (some 14) rfl rfl Try.func53 (by kernel_rfl) rfl #[.slice A0 l0.length c0,.int .i64 a1] rfl ymd ?_;(with_reducible refine (spec_MasksValid.calls k _ _ l0 a1 false _ ?_ ?_ A3.out).mono ?_);exact Kd.Cz (HR0.out);exact HC0.out;rintro e w' ⟨rfl,⟨nd,rfl⟩⟩;refine ⟨_,rfl,?_⟩)|((with_reducible refine gate_dst (N:=16) rfl ?_);(try (refine gate_guard (by rfl) ?_;dsimp only));refine Kd.R_lit (Kd.int .i64) _ 3 ?hg (N:=16) ?hd (xs:=([]:List Int)) (inner:=[]) (ok:=fun _=>True) (okp:=fun _=>True) ?hr ?hp (fun _ hk=>hk) trivial (Below.refl _ _) (Nat.le_refl _) (by simp) ?_;(case hd=>rfl);(case hg=>rfl);(case hr=>first|(go_simp;done)|(go_simp;rfl));(case hp=>exact (Reps.none _ _));intro v185 w38 ho39 hb hg_ hnew_;clear hg_ hnew_;(first|rw [← Ny184.out] at ho39|(simp only [Int.reduceToNat] at ho39;rw [← Ny184.out] at ho39));have HO186:=yam (Kd.R_lower ho39 (below_size (yez HB.out)));replace HB:=yam (below_step (yez HB.out) hb);clear hb ho39))
  go_ret
  exact ⟨_,yer,yka HO186.out,yhb⟩
 replace H:=ytt H
 replace H:=ybi H;obtain ⟨t187,A5,H⟩:=H
 try dsimp only at H
 replace H:=yam H
 go_enter Try.func56,Try.ntmps56
 go_wp2_with (first|(refine goesL_ (some 14) rfl rfl Try.func53 (by kernel_rfl) rfl #[.slice A0 l0.length c0,.int .i64 a1] rfl ymd ?_;(with_reducible refine (spec_MasksValid.calls k _ _ l0 a1 true _ ?_ ?_ A3.out).mono ?_);exact Kd.Cz (HR0.out);exact HC0.out;rintro e w' ⟨rfl,⟨nd,rfl⟩⟩;refine ⟨_,rfl,?_⟩)|(refine goesL_ (some 18) rfl rfl Try.func62 (by kernel_rfl) rfl #[.slice A0 l0.length c0] rfl ymd ?_;(with_reducible refine (spec_l6Copy.calls _ _ l0 t187 _ ?_ ?_ A5.out).mono ?_);exact Kd.Cz (HR0.out);exact HC0.out;rintro e w6 ⟨v188,rfl,ho0,hb⟩;refine ⟨_,rfl,?_⟩;have HO189:=yam (Kd.R_lower ho0 (below_size (yez HB.out)));replace HB:=yam (below_step (yez HB.out) hb);(try clear hb);(try clear ho0)))
 go_loopg [6] k (fun kq v6 w'=>∃ (x5_1:List Int) (x6_1:Int),v6= .int .i64 x6_1∧Aside0 (spec_NarrowPairs.l0 kq l0 a1 x5_1 x6_1=some r)∧Aside0 (kq≤k)∧Aside0 (Kd.R (Kd.int .i64) 3 w' w.heap.size (fun _=>True) v188 x5_1)∧Aside0 (Below w.heap.size w w'))
 case atStart=>exact ⟨(t187),(0),yeq,H,⟨Nat.le_refl _⟩,⟨yka HO189.out⟩,⟨yhb⟩⟩
 case round =>
  clear H
  obtain ⟨x5_1,x6_1,rfl,HA,HK1,HO_5,HB⟩:=hrel
  rcases gk with _|k1
  ·exact absurd HA.out (by simp [spec_NarrowPairs.l0])
  obtain ⟨H⟩:=HA
  simp only [spec_NarrowPairs.l0] at H
  replace H:=yis H;obtain ⟨c7b0,H⟩ | ⟨c7b0,H⟩:=H
  rotate_left
  ·obtain rfl:=ysi H
   go_wp2
   go_ret
   exact ⟨_,yer,yka HO_5.out,yhb⟩
  replace H:=ybi H;obtain ⟨t190,A8,H⟩:=H
  try dsimp only at H
  replace H:=yam H
  go_wp2_with (first|(refine goesL_ (some 27) rfl rfl Try.func80 (by kernel_rfl) rfl #[.int .i64 a1,.int .i64 x6_1] rfl ymd ?_;(with_reducible refine (spec_LineCells.calls k1 a1 x6_1 t190 _ A8.out).mono ?_);rintro e w9 ⟨v191,rfl,ho0,hb⟩;refine ⟨_,rfl,?_⟩;have HO192:=yam (Kd.R_lower (Kd.Yw ho0 (Kd.R_lt (Kd.Yz HO_5.out))) (below_size (yez HB.out)));replace HO_5:=yam (Kd.Ye (Kd.Yz HO_5.out) (Kd.Yb ho0) hb);replace HB:=yam (below_step (yez HB.out) hb);(try clear hb);(try clear ho0)))
  go_loopg [8] k1 (fun kq v8 w'=>∃ (x5_2:List Int) (x8_2:Int),v8= .int .i64 x8_2∧Aside0 (spec_NarrowPairs.l1 kq l0 a1 x5_2 x6_1 t190 x8_2=some r)∧Aside0 (kq≤k1)∧Aside0 (Kd.R (Kd.int .i64) 3 w' w.heap.size (fun k_=>some k_≠(v191:Value).ownBlock) v188 x5_2)∧Aside0 (Kd.R (Kd.int .i64) 3 w' w.heap.size (fun k_=>some k_≠(v188:Value).ownBlock) v191 t190)∧Aside0 (Below w.heap.size w w'))
  case atStart=>exact ⟨(x5_1),(0),yeq,H,⟨Nat.le_refl _⟩,⟨by (with_reducible repeat (first|apply Kd.Ya|apply Kd.Yn|apply Kd.Yd));exact Kd.R_mono HO_5.out (fun _ hk=>hk.2)⟩,⟨by (with_reducible repeat (first|apply Kd.Ya|apply Kd.Yn|apply Kd.Yd));exact Kd.R_mono HO192.out (fun _ hk=>hk.2)⟩,⟨yhb⟩⟩
  case round =>
   clear H
   try clear c7b0
   obtain ⟨x5_2,x8_2,rfl,HA,HK2,HO_5,HO_7,HB⟩:=hrel
   rcases gk with _|k2
   ·exact absurd HA.out (by simp [spec_NarrowPairs.l1])
   obtain ⟨H⟩:=HA
   simp only [spec_NarrowPairs.l1] at H
   replace H:=yis H;obtain ⟨c10b0,H⟩ | ⟨c10b0,H⟩:=H
   rotate_left
   ·replace H:=yam H
    go_wp2
    go_roundg k2
    case measure=>have:=HK1.out;have:=HK2.out;omega
    case rel=>exact ⟨(x5_2),(wrap64 (x6_1 + 1)),yeq,H,⟨by have:=HK1.out;have:=HK2.out;omega⟩,⟨by (with_reducible repeat (first|apply Kd.Ya|apply Kd.Yn|apply Kd.Yd));exact Kd.R_mono HO_5.out (fun _ hk=>trivial)⟩,⟨yhb⟩⟩
   replace H:=yam H
   go_wp2
   go_loopg [9] k2 (fun kq v9 w'=>∃ (x5_3:List Int) (x9_3:Int),v9= .int .i64 x9_3∧Aside0 (spec_NarrowPairs.l2 kq l0 a1 x5_3 x6_1 t190 x8_2 x9_3=some r)∧Aside0 (kq≤k2)∧Aside0 (Kd.R (Kd.int .i64) 3 w' w.heap.size (fun k_=>some k_≠(v191:Value).ownBlock) v188 x5_3)∧Aside0 (Kd.R (Kd.int .i64) 3 w' w.heap.size (fun k_=>some k_≠(v188:Value).ownBlock) v191 t190)∧Aside0 (Below w.heap.size w w'))
   case atStart=>exact ⟨(x5_2),(0),yeq,H,⟨Nat.le_refl _⟩,⟨yka HO_5.out⟩,⟨yka HO_7.out⟩,⟨yhb⟩⟩
   case round =>
    clear H
    try clear c10b0
    obtain ⟨x5_3,x9_3,rfl,HA,HK3,HO_5,HO_7,HB⟩:=hrel
    rcases gk with _|k3
    ·exact absurd HA.out (by simp [spec_NarrowPairs.l2])
    obtain ⟨H⟩:=HA
    simp only [spec_NarrowPairs.l2] at H
    replace H:=yis H;obtain ⟨c11b0,H⟩ | ⟨c11b0,H⟩:=H
    rotate_left
    ·replace H:=yam H
     go_wp2
     go_roundg k3
     case measure=>have:=HK1.out;have:=HK2.out;have:=HK3.out;omega
     case rel=>exact ⟨(x5_3),(wrap64 (x8_2 + 1)),yeq,H,⟨by have:=HK1.out;have:=HK2.out;have:=HK3.out;omega⟩,⟨yka HO_5.out⟩,⟨yka HO_7.out⟩,⟨yhb⟩⟩
    replace H:=yif H;obtain ⟨c12b0,H⟩:=H
    replace H:=yif H;obtain ⟨c13b0,H⟩:=H
    replace H:=yif H;obtain ⟨c14b0,H⟩:=H
    replace H:=yif H;obtain ⟨c15b0,H⟩:=H
    have HC16:=yam H
    clear H
    obtain ⟨Ao17,co17,eo17⟩:=Kd.R_slice HO_7.out
    subst eo17
    obtain ⟨ad193,e193,hx193_0,p193,q193⟩:=yat (Kd.Yr HO_7.out).2.2 x8_2
    cases e193
    obtain ⟨ad194,e194,hx194_0,p194,q194⟩:=yat HR0.out (rd t190 x8_2)
    cases e194
    replace hx194_0:=ybx HB.out hx194_0
    go_upto_region 15 with (fail)
    go_cut [59] (fun v59 wc=>∃ (kq:Nat) (x59_15:Bool),v59= .bool x59_15∧Aside0 (spec_NarrowPairs.j3 kq l0 a1 x5_3 x6_1 t190 x8_2 x9_3 (rd l0 (rd t190 x8_2)) x59_15=some r)∧Aside0 (kq≤k3)∧Aside0 (Kd.R (Kd.int .i64) 3 wc w.heap.size (fun k_=>some k_≠((.slice (some ad193) t190.length co17):Value).ownBlock) v188 x5_3)∧Aside0 (Kd.R (Kd.int .i64) 3 wc w.heap.size (fun k_=>some k_≠(v188:Value).ownBlock) (.slice (some ad193) t190.length co17) t190)∧Aside0 (Below w.heap.size w wc))
    case first =>
     have H:=HC16.out
     clear HC16
     replace H:=yif H;obtain ⟨c18b0,H⟩:=H
     (first|rw [c18b0]|(simp only [i64_w,i32_w];rw [c18b0])|skip)
     replace H:=yif H;obtain ⟨c19b0,H⟩:=H
     replace H:=yif H;obtain ⟨c20b0,H⟩:=H
     replace H:=yif H;obtain ⟨c21b0,H⟩:=H
     replace H:=yit H;obtain ⟨c22,H⟩ | ⟨c22,H⟩:=H
     rotate_left
     ·have c22b0:((rd l0 (rd t190 x8_2)) == (rd l0 (rd t190 x9_3)))=false:=beq_eq_false_iff_ne.mpr c22
      have c22b1:((rd l0 (rd t190 x8_2)) != (rd l0 (rd t190 x9_3)))=true:=bne_iff_ne.mpr c22
      replace H:=yam H
      obtain ⟨ad195,e195,hx195_0,p195,q195⟩:=yat (Kd.Yr HO_7.out).2.2 x9_3
      obtain rfl:ad193=ad195:=(by injection e195)
      obtain ⟨ad196,e196,hx196_0,p196,q196⟩:=yat HR0.out (rd t190 x9_3)
      obtain rfl:ad194=ad196:=(by injection e196)
      replace hx196_0:=ybx HB.out hx196_0
      go_wp2
      go_meet
      case rel=>exact ⟨_,(true),yeq,H,⟨by have:=HK1.out;have:=HK2.out;have:=HK3.out;first|omega|exact Nat.le_refl _⟩,⟨yka HO_5.out⟩,⟨yka HO_7.out⟩,⟨yhb⟩⟩
     have c22b0:((rd l0 (rd t190 x8_2)) == (rd l0 (rd t190 x9_3)))=true:=beq_iff_eq.mpr c22
     have c22b1:((rd l0 (rd t190 x8_2)) != (rd l0 (rd t190 x9_3)))=false:=bne_eq_false_iff_eq.mpr c22
     clear c22
     replace H:=ybi H;obtain ⟨t197,A23,H⟩:=H
     try dsimp only at H
     replace H:=yam H
     obtain ⟨ad195,e195,hx195_0,p195,q195⟩:=yat (Kd.Yr HO_7.out).2.2 x9_3
     obtain rfl:ad193=ad195:=(by injection e195)
     obtain ⟨ad196,e196,hx196_0,p196,q196⟩:=yat HR0.out (rd t190 x9_3)
     obtain rfl:ad194=ad196:=(by injection e196)
     replace hx196_0:=ybx HB.out hx196_0
     go_wp2_with (first|(go_at_call 72;(with_reducible refine (spec_MaskValues.calls k3 (rd l0 (rd t190 x8_2)) t197 _ A23.out).mono ?_);rintro e w24 ⟨v198,rfl,ho0,hb⟩;have HO199:=yam (Kd.R_lower (Kd.Yw (Kd.Yw ho0 (Kd.R_lt (Kd.Yz HO_5.out))) (Kd.R_lt (Kd.Yz HO_7.out))) (below_size (yez HB.out)));replace HO_5:=yam (Kd.Ye (Kd.Yz HO_5.out) (Kd.Yb ho0) hb);replace HO_7:=yam (Kd.Ye (Kd.Yz HO_7.out) (Kd.Yb ho0) hb);replace HB:=yam (below_step (yez HB.out) hb);(try clear hb);(try clear ho0);obtain ⟨Ao25,co25,eo25⟩:=Kd.R_slice HO199.out;subst eo25))
     go_meet
     case rel=>exact ⟨_,(((t197.length:Int) != 2)),yeq,H,⟨by have:=HK1.out;have:=HK2.out;have:=HK3.out;first|omega|exact Nat.le_refl _⟩,⟨by (with_reducible repeat (first|apply Kd.Ya|apply Kd.Yn|apply Kd.Yd));exact Kd.R_mono HO_5.out (fun _ hk=>hk.1)⟩,⟨by (with_reducible repeat (first|apply Kd.Ya|apply Kd.Yn|apply Kd.Yd));exact Kd.R_mono HO_7.out (fun _ hk=>hk.1)⟩,⟨yhb⟩⟩
    case rest =>
     clear HC16
     try clear c11b0
     try clear c12b0
     try clear c13b0
     try clear c14b0
     try clear c15b0
     try clear hx193_0
     try clear hx194_0
     try clear p193
     try clear p194
     try clear q193
     try clear q194
     obtain ⟨kq,x59_15,rfl,HA,HJ15,HO_5,HO_7,HB⟩:=hcut
     rcases kq with _|kj15
     ·exact absurd HA.out (by simp [spec_NarrowPairs.j3])
     obtain ⟨H⟩:=HA
     simp only [spec_NarrowPairs.j3] at H
     cases x59_15
     rotate_left
     ·replace H:=ytt H
      replace H:=yam H
      go_wp2
      go_roundg kj15
      case measure=>have:=HK1.out;have:=HK2.out;have:=HK3.out;have:=HJ15.out;omega
      case rel=>exact ⟨(x5_3),(wrap64 (x9_3 + 1)),yeq,H,⟨by have:=HK1.out;have:=HK2.out;have:=HK3.out;have:=HJ15.out;omega⟩,⟨yka HO_5.out⟩,⟨yka HO_7.out⟩,⟨yhb⟩⟩
     replace H:=yff H
     replace H:=yam H
     go_wp2
     go_loopg [11] kj15 (fun kq v11 w'=>∃ (x5_5:List Int) (x11_5:Int),v11= .int .i64 x11_5∧Aside0 (spec_NarrowPairs.l3 kq l0 a1 x5_5 x6_1 t190 x8_2 x9_3 (rd l0 (rd t190 x8_2)) x11_5=some r)∧Aside0 (kq≤kj15)∧Aside0 (Kd.R (Kd.int .i64) 3 w' w.heap.size (fun k_=>some k_≠((.slice (some ad193) t190.length co17):Value).ownBlock) v188 x5_5)∧Aside0 (Kd.R (Kd.int .i64) 3 w' w.heap.size (fun k_=>some k_≠(v188:Value).ownBlock) (.slice (some ad193) t190.length co17) t190)∧Aside0 (Below w.heap.size w w'))
     case atStart=>exact ⟨(x5_3),(0),yeq,H,⟨Nat.le_refl _⟩,⟨yka HO_5.out⟩,⟨yka HO_7.out⟩,⟨yhb⟩⟩
     case round =>
      clear H
      obtain ⟨x5_5,x11_5,rfl,HA,HK5,HO_5,HO_7,HB⟩:=hrel
      rcases gk with _|k5
      ·exact absurd HA.out (by simp [spec_NarrowPairs.l3])
      obtain ⟨H⟩:=HA
      simp only [spec_NarrowPairs.l3] at H
      replace H:=yis H;obtain ⟨c27b0,H⟩ | ⟨c27b0,H⟩:=H
      rotate_left
      ·replace H:=yam H
       go_wp2
       go_roundg k5
       case measure=>have:=HK1.out;have:=HK2.out;have:=HK3.out;have:=HJ15.out;have:=HK5.out;omega
       case rel=>exact ⟨(x5_5),(wrap64 (x9_3 + 1)),yeq,H,⟨by have:=HK1.out;have:=HK2.out;have:=HK3.out;have:=HJ15.out;have:=HK5.out;omega⟩,⟨yka HO_5.out⟩,⟨yka HO_7.out⟩,⟨yhb⟩⟩
      replace H:=yit H;obtain ⟨c28,H⟩ | ⟨c28,H⟩:=H
      ·have c28b0:(x11_5 == x8_2)=true:=beq_iff_eq.mpr c28
       have c28b1:(x11_5 != x8_2)=false:=bne_eq_false_iff_eq.mpr c28
       clear c28
       replace H:=yam H
       go_wp2
       go_roundg k5
       case measure=>have:=HK1.out;have:=HK2.out;have:=HK3.out;have:=HJ15.out;have:=HK5.out;omega
       case rel=>exact ⟨(x5_5),(wrap64 (x11_5 + 1)),yeq,H,⟨by have:=HK1.out;have:=HK2.out;have:=HK3.out;have:=HJ15.out;have:=HK5.out;omega⟩,⟨yka HO_5.out⟩,⟨yka HO_7.out⟩,⟨yhb⟩⟩
      have c28b0:(x11_5 == x8_2)=false:=beq_eq_false_iff_ne.mpr c28
      have c28b1:(x11_5 != x8_2)=true:=bne_iff_ne.mpr c28
      replace H:=yit H;obtain ⟨c29,H⟩ | ⟨c29,H⟩:=H
      ·have c29b0:(x11_5 == x9_3)=true:=beq_iff_eq.mpr c29
       have c29b1:(x11_5 != x9_3)=false:=bne_eq_false_iff_eq.mpr c29
       clear c29
       replace H:=yam H
       go_wp2
       go_roundg k5
       case measure=>have:=HK1.out;have:=HK2.out;have:=HK3.out;have:=HJ15.out;have:=HK5.out;omega
       case rel=>exact ⟨(x5_5),(wrap64 (x11_5 + 1)),yeq,H,⟨by have:=HK1.out;have:=HK2.out;have:=HK3.out;have:=HJ15.out;have:=HK5.out;omega⟩,⟨yka HO_5.out⟩,⟨yka HO_7.out⟩,⟨yhb⟩⟩
      have c29b0:(x11_5 == x9_3)=false:=beq_eq_false_iff_ne.mpr c29
      have c29b1:(x11_5 != x9_3)=true:=bne_iff_ne.mpr c29
      replace H:=yif H;obtain ⟨c30b0,H⟩:=H
      replace H:=yif H;obtain ⟨c31b0,H⟩:=H
      replace H:=yif H;obtain ⟨c32b0,H⟩:=H
      replace H:=yif H;obtain ⟨c33b0,H⟩:=H
      obtain ⟨y203,Ny203⟩:∃ y_:List Int,Aside0 (y_=(x5_5.set ((rd t190 x11_5):Int).toNat (Go.bits .andNot .i64 (rd x5_5 (rd t190 x11_5)) (rd l0 (rd t190 x8_2))))):=⟨_,⟨rfl⟩⟩
      replace H:(spec_NarrowPairs.l3 k5 l0 a1 y203 x6_1 t190 x8_2 x9_3 (rd l0 (rd t190 x8_2)) (wrap64 (x11_5 + 1)))=some r:=yhn Ny203.out H
      replace H:=yam H
      try go_wp2
      replace HO_5:=yam (Kd.Yd HO_5.out)
      replace HO_7:=yam (Kd.Yd HO_7.out)
      replace HB:=yam (yed HB.out)
      obtain ⟨ad200,e200,hx200_0,p200,q200⟩:=yat (Kd.Yr HO_7.out).2.2 x11_5
      obtain rfl:ad193=ad200:=(by injection e200)
      obtain ⟨ad201,e201,hx201_0,p201,q201⟩:=yat (Kd.Yr HO_7.out).2.2 x11_5
      obtain rfl:ad193=ad201:=(by injection e201)
      obtain ⟨Ao36,co36,eo36⟩:=Kd.R_slice HO_5.out
      (first|subst eo36|(injection eo36 with f1_ f2_ f3_;have f4_:=f1_.symm;have f5_:=f3_.symm;clear f1_ f2_ f3_;subst f4_;subst f5_))
      obtain ⟨ad202,e202,hx202_0,p202,q202⟩:=yat (Kd.Yr HO_5.out).2.2 (rd t190 x11_5)
      cases e202
      have p34:0≤((rd t190 x11_5):Int):=ydt
      have q34:((rd t190 x11_5):Int) < ((x5_5.length:Int):Int):=ydt
      obtain ⟨go34,co34,eo34,gb34,gl34,cl34,HG34⟩:=Kd.R_form HO_5.out (by omega)
      (first|cases eo34|(injection eo34 with ea_ en_ ec_;(first|subst ea_|(injection ea_ with ea_;subst ea_));subst ec_;clear en_))
      have GB34:=yam gb34
      have GG34:=yam HG34
      clear gb34 gl34 HG34
      (first|simp only [add_plain] at hx202_0|skip)
      obtain ⟨hx34_0,hf34_0⟩:=Kd.R_celln 0 HO_5.out ((rd t190 x11_5):Int) p34 q34
      replace p34:=eq_true p34
      replace q34:=eq_true q34
      have HP37:=Kd.R_putn HO_5.out ((rd t190 x11_5):Int) (Go.bits .andNot .i64 (rd x5_5 (rd t190 x11_5)) (rd l0 (rd t190 x8_2)))
      rw [← Ny203.out] at HP37
      have HQ37:=yam HP37
      clear HP37
      refine start_ (n:=16) (S:=fun w'=>w'.cell? (ad193.add (x11_5).toNat)=some (.int .i64 (rd t190 x11_5))∧w'.cell? (ad193.add (x11_5).toNat)=some (.int .i64 (rd t190 x11_5))∧w'.cell? ⟨go34,((rd t190 x11_5)).toNat,none⟩=some (.int .i64 (rd x5_5 (rd t190 x11_5)))) (ds:=[15]) (yvb 16 0) (by kernel_rfl) rfl rfl ⟨hx200_0,hx201_0,hx202_0⟩ (fun hHeld=>?_);refine with_tabW spec_NarrowPairs.tab20 spec_NarrowPairs.bits20 (fun HT_ HW_=>?_)
      generalize wr.drew=w35 at HO_5 HO_7 HB GG34 HQ37 hf34_0 hx200_0 hx201_0 hx202_0 hx34_0 hHeld ⊢
      refine yvp 0 73 (yvb 16 1) HT_.out ?_
      refine yvp 1 74 (yvb 16 3) HT_.out ?_
      refine yvp 2 75 (yvb 16 7) HT_.out ?_
      refine yvp 3 76 (yvb 16 15) HT_.out ?_
      refine yvp 5 78 (yvb 16 47) HT_.out ?_
      refine yvp 6 79 (yvb 16 111) HT_.out ?_
      refine yvp 7 80 (yvb 16 239) HT_.out ?_
      refine yvp 8 81 (yvb 16 495) HT_.out ?_
      refine yvp 12 85 (yvb 16 4591) HT_.out ?_
      refine yvt 4 77 (yvb 16 4607) HT_.out HW_.out hHeld ?_
      refine yvt 9 82 (yvb 16 5119) HT_.out HW_.out hHeld ?_
      refine yvp 10 83 (yvb 16 6143) HT_.out ?_
      refine yvt 11 84 (yvb 16 8191) HT_.out HW_.out hHeld ?_
      refine yvp 13 86 (yvb 16 16383) HT_.out ?_
      refine yvp 14 87 (yvb 16 32767) HT_.out ?_
      refine last_ (i:=15) (N:=none) (yvb 16 65535) rfl rfl (one_of HT_.out (by kernel_rfl)) (by decide) (fun K hK=>?_)
      refine skip_ (w1:=?_) (by rfl) rfl ?_ ?_
      rotate_left
      ·go_simp
       rfl
      refine hK.out _ _ ?_
      clear hK K
      refine done_ (done_of HT_.out (by kernel_rfl)) ?_
      try go_wp2
      go_roundg k5
      case measure=>have:=HK1.out;have:=HK2.out;have:=HK3.out;have:=HJ15.out;have:=HK5.out;omega
      case rel=>exact ⟨(y203),(wrap64 (x11_5 + 1)),yeq,H,⟨by have:=HK1.out;have:=HK2.out;have:=HK3.out;have:=HJ15.out;have:=HK5.out;omega⟩,⟨yka HQ37.out⟩,⟨by (with_reducible repeat (first|apply Kd.Ya|apply Kd.Yn|apply Kd.Yd));exact Kd.R_mono (Kd.R_far (p:=⟨go34,((rd t190 x11_5):Int).toNat,none⟩) (Kd.R_mono HO_7.out (fun k_ hk=>(⟨hk,fun e_=>hk (by rw [e_];rfl)⟩:_∧k_≠go34))) (fun _ hk=>hk.2) (.int .i64 (Go.bits .andNot .i64 (rd x5_5 (rd t190 x11_5)) (rd l0 (rd t190 x8_2))))) (fun _ hk=>hk.1)⟩,⟨yhb⟩⟩
mutual
def spec_l4Holds.l0:Nat→List Int→Int→Int→Bool→Int→Int→List Int→Int→Option (Bool)
 | 0,_,_,_,_,_,_,_,_=>none
 | k + 1,x1,x5,x6,x7,x8,x205000,x205001,x205002=>if x8 < (x1.length:Int) then (if 0≤x8 then (spec_l4Holds.l1 k x1 (wrap64 (x5 + (rd x1 x8))) (wrap64 (x6 * (rd x1 x8))) x7 x8 0 x205000 x205001 x205002) else (none)) else (if x205000=1 then (some x7) else (if x205000=2 then (some (x5 == x205002)) else (if x205000=3 then (some (x6 == x205002)) else (if x205000=4 then (if 0 < (x1.length:Int) then (if 1 < (x1.length:Int) then (some (decide ((rd x1 0) < (rd x1 1)))) else (none)) else (none)) else (if 0 < (x1.length:Int) then (if 1 < (x1.length:Int) then (some ((mx (wrap64 ((rd x1 0) - (rd x1 1))) (wrap64 (-(wrap64 ((rd x1 0) - (rd x1 1)))))) == x205002)) else (none)) else (none))))))
def spec_l4Holds.l1:Nat→List Int→Int→Int→Bool→Int→Int→Int→List Int→Int→Option (Bool)
 | 0,_,_,_,_,_,_,_,_,_=>none
 | k + 1,x1,x5,x6,x7,x8,x9,x205000,x205001,x205002=>if x9 < x8 then (if x7=true then (if 0≤x9 then (if x9 < (x1.length:Int) then (if 0≤x8 then (if x8 < (x1.length:Int) then (spec_l4Holds.l1 k x1 x5 x6 ((rd x1 x9) != (rd x1 x8)) x8 (wrap64 (x9 + 1)) x205000 x205001 x205002) else (none)) else (none)) else (none)) else (none)) else (spec_l4Holds.l1 k x1 x5 x6 false x8 (wrap64 (x9 + 1)) x205000 x205001 x205002)) else (spec_l4Holds.l0 k x1 x5 x6 x7 (wrap64 (x8 + 1)) x205000 x205001 x205002)
end
def spec_l4Holds.f (k:Nat)(a0_0:Int)(l0_1:List Int)(a0_2:Int)(l1:List Int):Option (Bool):=spec_l4Holds.l0 k l1 0 1 true 0 a0_0 l0_1 a0_2
theorem spec_l4Holds.calls (k:Nat)(a0_0:Int)(A0_1:Option Addr)(c0_1:Nat)(l0_1:List Int)(a0_2:Int)(A1:Option Addr)(c1:Nat)(l1:List Int)(r:Bool)(w:World)(hr0_1:Kd.C (Kd.int .i64) w A0_1 l0_1.length l0_1)(hc0_1:l0_1.length≤c0_1)(hr1:Kd.C (Kd.int .i64) w A1 l1.length l1)(hc1:l1.length≤c1)(h:spec_l4Holds.f k a0_0 l0_1 a0_2 l1=some r) :
  Calls Try.prog 97 #[.agg #[.int .i64 a0_0,.slice A0_1 l0_1.length c0_1,.int .i64 a0_2],.slice A1 l1.length c1] w fun e w'=>e= .returned (.bool r)∧Below w.heap.size w w':=by
 have hu67:=Try.underlying67
 have HR0_1:=yam hr0_1
 have HC0_1:=yam hc0_1
 clear hr0_1 hc0_1
 have HR1:=yam hr1
 have HC1:=yam hc1
 clear hr1 hc1
 have HB:=yam (Below.refl w.heap.size w)
 unfold spec_l4Holds.f at h
 have H:=h
 clear h
 replace H:=yam H
 go_enter Try.func97,Try.ntmps97
 go_wp2_with (first|(refine ybe 2 #[.int .i64 a0_0,.slice A0_1 l0_1.length c0_1,.int .i64 a0_2] 67 ?_;intro gb204 hg w3 hbox hb;have BK204:=yam (hbox);have GW204:=yam ((by rw [hg];exact (below_size (yez HB.out)):w.heap.size≤gb204));replace HB:=yam (below_step (yez HB.out) hb);have GE204:=GW204;clear hb hbox hg))
 repeat (go_quiet (first|(refine ybe 2 #[.int .i64 a0_0,.slice A0_1 l0_1.length c0_1,.int .i64 a0_2] 67 ?_;intro gb204 hg w3 hbox hb;have BK204:=yam (hbox);have GW204:=yam ((by rw [hg];exact (below_size (yez HB.out)):w.heap.size≤gb204));replace HB:=yam (below_step (yez HB.out) hb);have GE204:=GW204;clear hb hbox hg));try go_wp2_with (first|(refine ybe 2 #[.int .i64 a0_0,.slice A0_1 l0_1.length c0_1,.int .i64 a0_2] 67 ?_;intro gb204 hg w3 hbox hb;have BK204:=yam (hbox);have GW204:=yam ((by rw [hg];exact (below_size (yez HB.out)):w.heap.size≤gb204));replace HB:=yam (below_step (yez HB.out) hb);have GE204:=GW204;clear hb hbox hg)))
 go_loopg [5,6,7,8] k (fun kq v5 v6 v7 v8 w'=>∃ (x5_1:Int) (x6_1:Int) (x7_1:Bool) (x8_1:Int),v5= .int .i64 x5_1∧v6= .int .i64 x6_1∧v7= .bool x7_1∧v8= .int .i64 x8_1∧Aside0 (spec_l4Holds.l0 kq l1 x5_1 x6_1 x7_1 x8_1 a0_0 l0_1 a0_2=some r)∧Aside0 (kq≤k)∧Aside0 (w'.heap[gb204]?=some (.cells #[.int .i64 a0_0,(.slice A0_1 l0_1.length c0_1),.int .i64 a0_2] 67 (0,0)))∧Aside0 (Below w.heap.size w w'))
 case atStart=>exact ⟨(0),(1),(true),(0),yeq,yeq,yeq,yeq,H,⟨Nat.le_refl _⟩,⟨ybk BK204.out⟩,⟨yhb⟩⟩
 case round =>
  clear H
  try clear c1
  obtain ⟨x5_1,x6_1,x7_1,x8_1,rfl,rfl,rfl,rfl,HA,HK1,BK204,HB⟩:=hrel
  rcases gk with _|k1
  ·exact absurd HA.out (by simp [spec_l4Holds.l0])
  obtain ⟨H⟩:=HA
  simp only [spec_l4Holds.l0] at H
  replace H:=yis H;obtain ⟨c4b0,H⟩ | ⟨c4b0,H⟩:=H
  ·replace H:=yif H;obtain ⟨c5b0,H⟩:=H
   replace H:=yam H
   obtain ⟨ad205,e205,hx205_0,p205,q205⟩:=yat HR1.out x8_1
   cases e205
   replace hx205_0:=ybx HB.out hx205_0
   obtain ⟨ad206,e206,hx206_0,p206,q206⟩:=yat HR1.out x8_1
   obtain rfl:ad205=ad206:=(by injection e206)
   replace hx206_0:=ybx HB.out hx206_0
   go_wp2
   repeat (go_quiet (fail);try go_wp2)
   go_loopg [7,9] k1 (fun kq v7 v9 w'=>∃ (x7_2:Bool) (x9_2:Int),v7= .bool x7_2∧v9= .int .i64 x9_2∧Aside0 (spec_l4Holds.l1 kq l1 (wrap64 (x5_1 + (rd l1 x8_1))) (wrap64 (x6_1 * (rd l1 x8_1))) x7_2 x8_1 x9_2 a0_0 l0_1 a0_2=some r)∧Aside0 (kq≤k1)∧Aside0 (w'.heap[gb204]?=some (.cells #[.int .i64 a0_0,(.slice A0_1 l0_1.length c0_1),.int .i64 a0_2] 67 (0,0)))∧Aside0 (Below w.heap.size w w'))
   case atStart=>exact ⟨(x7_1),(0),yeq,yeq,H,⟨Nat.le_refl _⟩,⟨ybk BK204.out⟩,⟨yhb⟩⟩
   case round =>
    clear H
    try clear c4b0
    try clear c5b0
    try clear hx205_0
    try clear hx206_0
    try clear p205
    try clear p206
    try clear q205
    try clear q206
    obtain ⟨x7_2,x9_2,rfl,rfl,HA,HK2,BK204,HB⟩:=hrel
    rcases gk with _|k2
    ·exact absurd HA.out (by simp [spec_l4Holds.l1])
    obtain ⟨H⟩:=HA
    simp only [spec_l4Holds.l1] at H
    replace H:=yis H;obtain ⟨c6b0,H⟩ | ⟨c6b0,H⟩:=H
    rotate_left
    ·replace H:=yam H
     go_wp2
     repeat (go_quiet (fail);try go_wp2)
     go_roundg k2
     case measure=>have:=HK1.out;have:=HK2.out;omega
     case rel=>exact ⟨((wrap64 (x5_1 + (rd l1 x8_1)))),((wrap64 (x6_1 * (rd l1 x8_1)))),(x7_2),(wrap64 (x8_1 + 1)),yeq,yeq,yeq,yeq,H,⟨by have:=HK1.out;have:=HK2.out;omega⟩,⟨ybk BK204.out⟩,⟨yhb⟩⟩
    cases x7_2
    ·replace H:=yff H
     replace H:=yam H
     go_wp2
     repeat (go_quiet (fail);try go_wp2)
     go_roundg k2
     case measure=>have:=HK1.out;have:=HK2.out;omega
     case rel=>exact ⟨(false),(wrap64 (x9_2 + 1)),yeq,yeq,H,⟨by have:=HK1.out;have:=HK2.out;omega⟩,⟨ybk BK204.out⟩,⟨yhb⟩⟩
    replace H:=ytt H
    replace H:=yif H;obtain ⟨c8b0,H⟩:=H
    replace H:=yif H;obtain ⟨c9b0,H⟩:=H
    replace H:=yif H;obtain ⟨c10b0,H⟩:=H
    replace H:=yif H;obtain ⟨c11b0,H⟩:=H
    replace H:=yam H
    obtain ⟨ad207,e207,hx207_0,p207,q207⟩:=yat HR1.out x9_2
    obtain rfl:ad205=ad207:=(by injection e207)
    replace hx207_0:=ybx HB.out hx207_0
    obtain ⟨ad208,e208,hx208_0,p208,q208⟩:=yat HR1.out x8_1
    obtain rfl:ad205=ad208:=(by injection e208)
    replace hx208_0:=ybx HB.out hx208_0
    go_wp2
    repeat (go_quiet (fail);try go_wp2)
    go_roundg k2
    case measure=>have:=HK1.out;have:=HK2.out;omega
    case rel=>exact ⟨(((rd l1 x9_2) != (rd l1 x8_1))),(wrap64 (x9_2 + 1)),yeq,yeq,H,⟨by have:=HK1.out;have:=HK2.out;omega⟩,⟨ybk BK204.out⟩,⟨yhb⟩⟩
  replace H:=yit H;obtain ⟨c12,H⟩ | ⟨c12,H⟩:=H
  ·have c12b0:(a0_0 == 1)=true:=beq_iff_eq.mpr c12
   have c12b1:(a0_0 != 1)=false:=bne_eq_false_iff_eq.mpr c12
   clear c12
   obtain rfl:=ysi H
   obtain ⟨hcz13_0,hcz13_1,hcz13_2,hfz13_0,hfz13_1,hfz13_2⟩:=ybc BK204.out
   go_wp2
   repeat (go_quiet (fail);try go_wp2)
   go_ret
   exact ⟨yer,yhb⟩
  have c12b0:(a0_0 == 1)=false:=beq_eq_false_iff_ne.mpr c12
  have c12b1:(a0_0 != 1)=true:=bne_iff_ne.mpr c12
  replace H:=yit H;obtain ⟨c14,H⟩ | ⟨c14,H⟩:=H
  ·have c14b0:(a0_0 == 2)=true:=beq_iff_eq.mpr c14
   have c14b1:(a0_0 != 2)=false:=bne_eq_false_iff_eq.mpr c14
   clear c14
   obtain rfl:=ysi H
   obtain ⟨hcz15_0,hcz15_1,hcz15_2,hfz15_0,hfz15_1,hfz15_2⟩:=ybc BK204.out
   go_wp2
   repeat (go_quiet (fail);try go_wp2)
   go_ret
   exact ⟨yer,yhb⟩
  have c14b0:(a0_0 == 2)=false:=beq_eq_false_iff_ne.mpr c14
  have c14b1:(a0_0 != 2)=true:=bne_iff_ne.mpr c14
  replace H:=yit H;obtain ⟨c16,H⟩ | ⟨c16,H⟩:=H
  ·have c16b0:(a0_0 == 3)=true:=beq_iff_eq.mpr c16
   have c16b1:(a0_0 != 3)=false:=bne_eq_false_iff_eq.mpr c16
   clear c16
   obtain rfl:=ysi H
   obtain ⟨hcz17_0,hcz17_1,hcz17_2,hfz17_0,hfz17_1,hfz17_2⟩:=ybc BK204.out
   go_wp2
   repeat (go_quiet (fail);try go_wp2)
   go_ret
   exact ⟨yer,yhb⟩
  have c16b0:(a0_0 == 3)=false:=beq_eq_false_iff_ne.mpr c16
  have c16b1:(a0_0 != 3)=true:=bne_iff_ne.mpr c16
  replace H:=yit H;obtain ⟨c18,H⟩ | ⟨c18,H⟩:=H
  ·have c18b0:(a0_0 == 4)=true:=beq_iff_eq.mpr c18
   have c18b1:(a0_0 != 4)=false:=bne_eq_false_iff_eq.mpr c18
   clear c18
   replace H:=yig H;obtain ⟨c19,H⟩:=H
   have c19b0:decide (0 < (l1.length:Int))=true:=decide_eq_true c19
   have c19b1:decide (0 < l1.length)=true:=decide_eq_true (by omega)
   clear c19
   replace H:=yig H;obtain ⟨c20,H⟩:=H
   have c20b0:decide (1 < (l1.length:Int))=true:=decide_eq_true c20
   have c20b1:decide (1 < l1.length)=true:=decide_eq_true (by omega)
   clear c20
   obtain rfl:=ysi H
   obtain ⟨hcz21_0,hcz21_1,hcz21_2,hfz21_0,hfz21_1,hfz21_2⟩:=ybc BK204.out
   have p209:0≤(0:Int):=(by omega)
   have q209:0 < (l1.length:Int):=ydt
   obtain ⟨ad209,e209,hx209_0⟩:=Kd.at_int HR1.out 0 p209 q209
   cases e209
   have qi209:(0 < l1.length)=True:=eq_true (by omega)
   (try rw [show ((0:Int)).toNat=0 from rfl] at hx209_0)
   (try rw [Addr.add_zero'] at hx209_0)
   replace hx209_0:=ybx HB.out hx209_0
   replace p209:=eq_true p209
   replace q209:=eq_true q209
   have p210:0≤(1:Int):=(by omega)
   have q210:1 < (l1.length:Int):=ydt
   obtain ⟨ad210,e210,hx210_0⟩:=Kd.at_int HR1.out 1 p210 q210
   obtain rfl:ad209=ad210:=(by injection e210)
   (try simp only [show (1:Int).toNat=1 from rfl,Nat.reduceMul,Nat.reduceEqDiff,Go.Addr.add,↓reduceIte] at hx210_0)
   have qi210:(1 < l1.length)=True:=eq_true (by omega)
   (try rw [show ((1:Int)).toNat=1 from rfl] at hx210_0)
   replace hx210_0:=ybx HB.out hx210_0
   replace p210:=eq_true p210
   replace q210:=eq_true q210
   go_wp2
   repeat (go_quiet (fail);try go_wp2)
   go_ret
   exact ⟨yer,yhb⟩
  have c18b0:(a0_0 == 4)=false:=beq_eq_false_iff_ne.mpr c18
  have c18b1:(a0_0 != 4)=true:=bne_iff_ne.mpr c18
  replace H:=yit H;obtain ⟨c22,H⟩ | ⟨c22,H⟩:=H
  rotate_left
  ·exact absurd H (by simp)
  have c22b0:decide (0 < (l1.length:Int))=true:=decide_eq_true c22
  have c22b1:decide (0 < l1.length)=true:=decide_eq_true (by omega)
  clear c22
  replace H:=yig H;obtain ⟨c23,H⟩:=H
  have c23b0:decide (1 < (l1.length:Int))=true:=decide_eq_true c23
  have c23b1:decide (1 < l1.length)=true:=decide_eq_true (by omega)
  clear c23
  obtain ⟨ji24,hji24⟩:∃ j_:Int,(mx (wrap64 ((rd l1 0) - (rd l1 1))) (wrap64 (-(wrap64 ((rd l1 0) - (rd l1 1))))))=j_:=⟨_,rfl⟩
  replace H:(some ((ji24) == a0_2))=some r:=by first|(rw [hji24] at H;exact H)|(simp only [hji24] at H ⊢;exact H)
  have hji24_:(if (wrap64 ((rd l1 0) - (rd l1 1))) < (wrap64 (-(wrap64 ((rd l1 0) - (rd l1 1))))) then (wrap64 (-(wrap64 ((rd l1 0) - (rd l1 1))))) else (wrap64 ((rd l1 0) - (rd l1 1))))=ji24:=hji24
  obtain rfl:=ysi H
  obtain ⟨hcz25_0,hcz25_1,hcz25_2,hfz25_0,hfz25_1,hfz25_2⟩:=ybc BK204.out
  have p211:0≤(0:Int):=(by omega)
  have q211:0 < (l1.length:Int):=ydt
  obtain ⟨ad211,e211,hx211_0⟩:=Kd.at_int HR1.out 0 p211 q211
  cases e211
  have qi211:(0 < l1.length)=True:=eq_true (by omega)
  (try rw [show ((0:Int)).toNat=0 from rfl] at hx211_0)
  (try rw [Addr.add_zero'] at hx211_0)
  replace hx211_0:=ybx HB.out hx211_0
  replace p211:=eq_true p211
  replace q211:=eq_true q211
  have p212:0≤(1:Int):=(by omega)
  have q212:1 < (l1.length:Int):=ydt
  obtain ⟨ad212,e212,hx212_0⟩:=Kd.at_int HR1.out 1 p212 q212
  obtain rfl:ad211=ad212:=(by injection e212)
  (try simp only [show (1:Int).toNat=1 from rfl,Nat.reduceMul,Nat.reduceEqDiff,Go.Addr.add,↓reduceIte] at hx212_0)
  have qi212:(1 < l1.length)=True:=eq_true (by omega)
  (try rw [show ((1:Int)).toNat=1 from rfl] at hx212_0)
  replace hx212_0:=ybx HB.out hx212_0
  replace p212:=eq_true p212
  replace q212:=eq_true q212
  go_wp2
  repeat (go_quiet (fail);try go_wp2)
  go_ret
  exact ⟨by first|rfl|(simp [errW_none,errW_some] <;> rfl)|(simp only [← hji24];first|rfl|(simp [errW_none,errW_some] <;> rfl))|(simp [*,errW_none,errW_some] <;> rfl),yhb⟩
end Go.Proofs.Ytdemlminhkhonaa.P
