/- The machine's side: each Go function as a plain Lean function and the proof that the machine's call does what that function says; written by this session's own program over the kit's print. -/
import Derived.Test.YtmjbnghhfadapaaZP1
namespace Go.Proofs.Ytmjbnghhfadapaa.P
set_option maxHeartbeats 8000000
set_option maxRecDepth 100000
open Go.RowKit Go.Proofs.YtmjbnghhfadapaaW.PrintWords Go.Proofs.YtmjbnghhfadapaaW.PrintLast Go.Proofs.YtmjbnghhfadapaaW.PrintMore
attribute [local go_sem] max2_int min2_int max_two min_two max_three min_three max_four min_four   -- for this text's walks alone
set_option linter.unusedVariables false
set_option linter.unusedSimpArgs false
mutual
def spec_RuleValid.l0:Nat→Int→Int→Int→List Int→Int→Option (Bool)
 | 0,_,_,_,_,_=>none
 | k + 1,x1,x5,x321000,x321001,x321002=>if x5 < (x321001.length:Int) then (if 0≤x5 then ((spec_l1In.f (rd x321001 x5) 0 (wrap64 ((wrap64 (x1 * x1)) - 1))).bind fun t322=>(if t322=true then (spec_RuleValid.l1 k x1 x5 0 x321000 x321001 x321002) else (some false))) else (none)) else ((spec_l1In.f x1 2 4).bind fun t325=>(if t325=true then (spec_RuleValid.j2 k x1 (x321001.length:Int) (decide ((x321001.length:Int) > 4)) x321000 x321001 x321002) else (spec_RuleValid.j2 k x1 (x321001.length:Int) true x321000 x321001 x321002)))
def spec_RuleValid.l1:Nat→Int→Int→Int→Int→List Int→Int→Option (Bool)
 | 0,_,_,_,_,_,_=>none
 | k + 1,x1,x5,x6,x321000,x321001,x321002=>if x6 < x5 then (if 0≤x6 then (if x6 < (x321001.length:Int) then (if 0≤x5 then (if x5 < (x321001.length:Int) then (if (rd x321001 x6)=(rd x321001 x5) then (some false) else (spec_RuleValid.l1 k x1 x5 (wrap64 (x6 + 1)) x321000 x321001 x321002)) else (none)) else (none)) else (none)) else (none)) else (spec_RuleValid.l0 k x1 (wrap64 (x5 + 1)) x321000 x321001 x321002)
def spec_RuleValid.j2:Nat→Int→Int→Bool→Int→List Int→Int→Option (Bool)
 | 0,_,_,_,_,_,_=>none
 | k + 1,x1,x7,x51,x321000,x321001,x321002=>if x51=true then (some false) else (if x321000=1 then (if x7 ≥ 2 then (some (x321002 == 0)) else (some false)) else (if x321000=2 then (spec_RuleValid.j3 k x1 x7 x321000 (x321000 == 2) x321000 x321001 x321002) else (spec_RuleValid.j3 k x1 x7 x321000 (x321000 == 3) x321000 x321001 x321002)))
def spec_RuleValid.j3:Nat→Int→Int→Int→Bool→Int→List Int→Int→Option (Bool)
 | 0,_,_,_,_,_,_,_=>none
 | k + 1,x1,x7,x53,x63,x321000,x321001,x321002=>if x63=true then (if x7 ≥ 1 then ((spec_l1In.f x321002 1 (wrap64 ((wrap64 ((wrap64 (x1 * x1)) * x1)) * x1))).bind fun t326=>(some t326)) else (some false)) else (if x53=4 then (if x7=2 then (some (x321002 == 0)) else (some false)) else (if x53=5 then (if x7=2 then ((spec_l1In.f x321002 0 (wrap64 (x1 - 1))).bind fun t327=>(some t327)) else (some false)) else (some false)))
end
def spec_RuleValid.f (k:Nat)(a0_0:Int)(l0_1:List Int)(a0_2:Int)(a1:Int):Option (Bool):=spec_RuleValid.l0 k a1 0 a0_0 l0_1 a0_2
theorem spec_RuleValid.calls (k:Nat)(a0_0:Int)(A0_1:Option Addr)(c0_1:Nat)(l0_1:List Int)(a0_2:Int)(a1:Int)(r:Bool)(w:World)(hr0_1:Kd.C (Kd.int .i64) w A0_1 l0_1.length l0_1)(hc0_1:l0_1.length≤c0_1)(h:spec_RuleValid.f k a0_0 l0_1 a0_2 a1=some r) :
  Calls Try.prog 83 #[.agg #[.int .i64 a0_0,.slice A0_1 l0_1.length c0_1,.int .i64 a0_2],.int .i64 a1] w fun e w'=>e= .returned (.bool r)∧Below w.heap.size w w':=by
 have hu73:=Try.underlying73
 have HR0_1:=yam hr0_1
 have HC0_1:=yam hc0_1
 clear hr0_1 hc0_1
 have HB:=yam (Below.refl w.heap.size w)
 unfold spec_RuleValid.f at h
 have H:=h
 clear h
 replace H:=yam H
 go_enter Try.func83,Try.ntmps83
 go_wp2_with (first|(refine ybe 2 #[.int .i64 a0_0,.slice A0_1 l0_1.length c0_1,.int .i64 a0_2] 73 ?_;intro gb320 hg w3 hbox hb;have BK320:=yam (hbox);have GW320:=yam ((by rw [hg];exact (below_size (yez HB.out)):w.heap.size≤gb320));replace HB:=yam (below_step (yez HB.out) hb);have GE320:=GW320;clear hb hbox hg))
 repeat (go_quiet (first|(refine ybe 2 #[.int .i64 a0_0,.slice A0_1 l0_1.length c0_1,.int .i64 a0_2] 73 ?_;intro gb320 hg w3 hbox hb;have BK320:=yam (hbox);have GW320:=yam ((by rw [hg];exact (below_size (yez HB.out)):w.heap.size≤gb320));replace HB:=yam (below_step (yez HB.out) hb);have GE320:=GW320;clear hb hbox hg));try go_wp2_with (first|(refine ybe 2 #[.int .i64 a0_0,.slice A0_1 l0_1.length c0_1,.int .i64 a0_2] 73 ?_;intro gb320 hg w3 hbox hb;have BK320:=yam (hbox);have GW320:=yam ((by rw [hg];exact (below_size (yez HB.out)):w.heap.size≤gb320));replace HB:=yam (below_step (yez HB.out) hb);have GE320:=GW320;clear hb hbox hg)))
 go_loopg [5] k (fun kq v5 w'=>∃ (x5_1:Int),v5= .int .i64 x5_1∧Aside0 (spec_RuleValid.l0 kq a1 x5_1 a0_0 l0_1 a0_2=some r)∧Aside0 (kq≤k)∧Aside0 (w'.heap[gb320]?=some (.cells #[.int .i64 a0_0,(.slice A0_1 l0_1.length c0_1),.int .i64 a0_2] 73 (0,0)))∧Aside0 (Below w.heap.size w w'))
 case atStart=>exact ⟨(0),yeq,H,⟨Nat.le_refl _⟩,⟨ybk BK320.out⟩,⟨yhb⟩⟩
 case round =>
  clear H
  obtain ⟨x5_1,rfl,HA,HK1,BK320,HB⟩:=hrel
  rcases gk with _|k1
  ·exact absurd HA.out (by simp [spec_RuleValid.l0])
  obtain ⟨H⟩:=HA
  simp only [spec_RuleValid.l0] at H
  replace H:=yis H;obtain ⟨c4b0,H⟩ | ⟨c4b0,H⟩:=H
  ·replace H:=yif H;obtain ⟨c5b0,H⟩:=H
   replace H:=ybi H;obtain ⟨t322,A6,H⟩:=H
   try dsimp only at H
   cases t322
   ·replace H:=yff H
    obtain rfl:=ysi H
    obtain ⟨hcz17_0,hcz17_1,hcz17_2,hfz17_0,hfz17_1,hfz17_2⟩:=ybc BK320.out
    obtain ⟨ad321,e321,hx321_0,p321,q321⟩:=yat HR0_1.out x5_1
    cases e321
    replace hx321_0:=ybx HB.out hx321_0
    have hwq0_:IntKind.i64.wrap (a1 * a1)=wrap64 (a1 * a1):=i64_w _
    have hwq1_:IntKind.i64.wrap ((wrap64 (a1 * a1)) - 1)=wrap64 ((wrap64 (a1 * a1)) - 1):=i64_w _
    go_wp2_with (first|(go_at_call 42;(with_reducible refine (spec_l1In.calls (rd l0_1 x5_1) 0 (wrap64 ((wrap64 (a1 * a1)) - 1)) false _ A6.out).mono ?_);rintro e w' ⟨rfl,⟨nd,rfl⟩⟩;(try first|exact ⟨rfl,_,World.drewN_drewN _ _ _⟩|exact ⟨rfl,_,Eq.trans (World.drewN_drewN _ _ _) (congrArg (World.drewN _) (Nat.add_assoc _ _ _))⟩)))
    repeat (go_quiet (first|(go_at_call 42;(with_reducible refine (spec_l1In.calls (rd l0_1 x5_1) 0 (wrap64 ((wrap64 (a1 * a1)) - 1)) false _ A6.out).mono ?_);rintro e w' ⟨rfl,⟨nd,rfl⟩⟩;(try first|exact ⟨rfl,_,World.drewN_drewN _ _ _⟩|exact ⟨rfl,_,Eq.trans (World.drewN_drewN _ _ _) (congrArg (World.drewN _) (Nat.add_assoc _ _ _))⟩)));try go_wp2_with (first|(go_at_call 42;(with_reducible refine (spec_l1In.calls (rd l0_1 x5_1) 0 (wrap64 ((wrap64 (a1 * a1)) - 1)) false _ A6.out).mono ?_);rintro e w' ⟨rfl,⟨nd,rfl⟩⟩;(try first|exact ⟨rfl,_,World.drewN_drewN _ _ _⟩|exact ⟨rfl,_,Eq.trans (World.drewN_drewN _ _ _) (congrArg (World.drewN _) (Nat.add_assoc _ _ _))⟩))))
    go_ret
    exact ⟨yer,yhb⟩
   replace H:=ytt H
   replace H:=yam H
   obtain ⟨hcz8_0,hcz8_1,hcz8_2,hfz8_0,hfz8_1,hfz8_2⟩:=ybc BK320.out
   obtain ⟨ad321,e321,hx321_0,p321,q321⟩:=yat HR0_1.out x5_1
   cases e321
   replace hx321_0:=ybx HB.out hx321_0
   have hwq0_:IntKind.i64.wrap (a1 * a1)=wrap64 (a1 * a1):=i64_w _
   have hwq1_:IntKind.i64.wrap ((wrap64 (a1 * a1)) - 1)=wrap64 ((wrap64 (a1 * a1)) - 1):=i64_w _
   go_wp2_with (first|(go_at_call 42;(with_reducible refine (spec_l1In.calls (rd l0_1 x5_1) 0 (wrap64 ((wrap64 (a1 * a1)) - 1)) true _ A6.out).mono ?_);rintro e w' ⟨rfl,⟨nd,rfl⟩⟩;(try first|exact ⟨rfl,_,World.drewN_drewN _ _ _⟩|exact ⟨rfl,_,Eq.trans (World.drewN_drewN _ _ _) (congrArg (World.drewN _) (Nat.add_assoc _ _ _))⟩)))
   repeat (go_quiet (first|(go_at_call 42;(with_reducible refine (spec_l1In.calls (rd l0_1 x5_1) 0 (wrap64 ((wrap64 (a1 * a1)) - 1)) true _ A6.out).mono ?_);rintro e w' ⟨rfl,⟨nd,rfl⟩⟩;(try first|exact ⟨rfl,_,World.drewN_drewN _ _ _⟩|exact ⟨rfl,_,Eq.trans (World.drewN_drewN _ _ _) (congrArg (World.drewN _) (Nat.add_assoc _ _ _))⟩)));try go_wp2_with (first|(go_at_call 42;(with_reducible refine (spec_l1In.calls (rd l0_1 x5_1) 0 (wrap64 ((wrap64 (a1 * a1)) - 1)) true _ A6.out).mono ?_);rintro e w' ⟨rfl,⟨nd,rfl⟩⟩;(try first|exact ⟨rfl,_,World.drewN_drewN _ _ _⟩|exact ⟨rfl,_,Eq.trans (World.drewN_drewN _ _ _) (congrArg (World.drewN _) (Nat.add_assoc _ _ _))⟩))))
   go_loopg [6] k1 (fun kq v6 w'=>∃ (x6_2:Int),v6= .int .i64 x6_2∧Aside0 (spec_RuleValid.l1 kq a1 x5_1 x6_2 a0_0 l0_1 a0_2=some r)∧Aside0 (kq≤k1)∧Aside0 (w'.heap[gb320]?=some (.cells #[.int .i64 a0_0,(.slice (some ad321) l0_1.length c0_1),.int .i64 a0_2] 73 (0,0)))∧Aside0 (Below w.heap.size w w'))
   case atStart=>exact ⟨(0),yeq,H,⟨Nat.le_refl _⟩,⟨ybk BK320.out⟩,⟨yhb⟩⟩
   case round =>
    clear H
    try clear c4b0
    try clear c5b0
    try clear hcz8_0
    try clear hcz8_1
    try clear hcz8_2
    try clear hfz8_0
    try clear hfz8_1
    try clear hfz8_2
    try clear hx321_0
    try clear p321
    try clear q321
    obtain ⟨x6_2,rfl,HA,HK2,BK320,HB⟩:=hrel
    rcases gk with _|k2
    ·exact absurd HA.out (by simp [spec_RuleValid.l1])
    obtain ⟨H⟩:=HA
    simp only [spec_RuleValid.l1] at H
    replace H:=yis H;obtain ⟨c9b0,H⟩ | ⟨c9b0,H⟩:=H
    rotate_left
    ·replace H:=yam H
     go_wp2
     repeat (go_quiet (fail);try go_wp2)
     go_roundg k2
     case measure=>have:=HK1.out;have:=HK2.out;omega
     case rel=>exact ⟨(wrap64 (x5_1 + 1)),yeq,H,⟨by have:=HK1.out;have:=HK2.out;omega⟩,⟨ybk BK320.out⟩,⟨yhb⟩⟩
    replace H:=yif H;obtain ⟨c10b0,H⟩:=H
    replace H:=yif H;obtain ⟨c11b0,H⟩:=H
    replace H:=yif H;obtain ⟨c12b0,H⟩:=H
    replace H:=yif H;obtain ⟨c13b0,H⟩:=H
    replace H:=yit H;obtain ⟨c14,H⟩ | ⟨c14,H⟩:=H
    ·have c14b0:((rd l0_1 x6_2) == (rd l0_1 x5_1))=true:=beq_iff_eq.mpr c14
     have c14b1:((rd l0_1 x6_2) != (rd l0_1 x5_1))=false:=bne_eq_false_iff_eq.mpr c14
     clear c14
     obtain rfl:=ysi H
     obtain ⟨hcz15_0,hcz15_1,hcz15_2,hfz15_0,hfz15_1,hfz15_2⟩:=ybc BK320.out
     obtain ⟨ad323,e323,hx323_0,p323,q323⟩:=yat HR0_1.out x6_2
     obtain rfl:ad321=ad323:=(by injection e323)
     replace hx323_0:=ybx HB.out hx323_0
     obtain ⟨ad324,e324,hx324_0,p324,q324⟩:=yat HR0_1.out x5_1
     obtain rfl:ad321=ad324:=(by injection e324)
     replace hx324_0:=ybx HB.out hx324_0
     go_wp2
     repeat (go_quiet (fail);try go_wp2)
     go_ret
     exact ⟨yer,yhb⟩
    have c14b0:((rd l0_1 x6_2) == (rd l0_1 x5_1))=false:=beq_eq_false_iff_ne.mpr c14
    have c14b1:((rd l0_1 x6_2) != (rd l0_1 x5_1))=true:=bne_iff_ne.mpr c14
    replace H:=yam H
    obtain ⟨hcz16_0,hcz16_1,hcz16_2,hfz16_0,hfz16_1,hfz16_2⟩:=ybc BK320.out
    obtain ⟨ad323,e323,hx323_0,p323,q323⟩:=yat HR0_1.out x6_2
    obtain rfl:ad321=ad323:=(by injection e323)
    replace hx323_0:=ybx HB.out hx323_0
    obtain ⟨ad324,e324,hx324_0,p324,q324⟩:=yat HR0_1.out x5_1
    obtain rfl:ad321=ad324:=(by injection e324)
    replace hx324_0:=ybx HB.out hx324_0
    go_wp2
    repeat (go_quiet (fail);try go_wp2)
    go_roundg k2
    case measure=>have:=HK1.out;have:=HK2.out;omega
    case rel=>exact ⟨(wrap64 (x6_2 + 1)),yeq,H,⟨by have:=HK1.out;have:=HK2.out;omega⟩,⟨ybk BK320.out⟩,⟨yhb⟩⟩
  have HC18:=yam H
  clear H
  obtain ⟨hcz19_0,hcz19_1,hcz19_2,hfz19_0,hfz19_1,hfz19_2⟩:=ybc BK320.out
  go_upto_region 12 with (fail)
  repeat (go_quiet (fail);go_upto_region 12 with (fail))
  go_cut [51] (fun v51 wc=>∃ (kq:Nat) (x51_17:Bool),v51= .bool x51_17∧Aside0 (spec_RuleValid.j2 kq a1 (l0_1.length:Int) x51_17 a0_0 l0_1 a0_2=some r)∧Aside0 (kq≤k1)∧Aside0 (wc.heap[gb320]?=some (.cells #[.int .i64 a0_0,(.slice A0_1 l0_1.length c0_1),.int .i64 a0_2] 73 (0,0)))∧Aside0 (Below w.heap.size w wc))
  case first =>
   have H:=HC18.out
   clear HC18
   replace H:=ybi H;obtain ⟨t325,A20,H⟩:=H
   try dsimp only at H
   cases t325
   rotate_left
   ·replace H:=ytt H
    replace H:=yam H
    go_wp2_with (first|(go_at_call 42;(with_reducible refine (spec_l1In.calls a1 2 4 true _ A20.out).mono ?_);rintro e w' ⟨rfl,⟨nd,rfl⟩⟩;(try first|exact ⟨rfl,_,World.drewN_drewN _ _ _⟩|exact ⟨rfl,_,Eq.trans (World.drewN_drewN _ _ _) (congrArg (World.drewN _) (Nat.add_assoc _ _ _))⟩)))
    repeat (go_quiet (first|(go_at_call 42;(with_reducible refine (spec_l1In.calls a1 2 4 true _ A20.out).mono ?_);rintro e w' ⟨rfl,⟨nd,rfl⟩⟩;(try first|exact ⟨rfl,_,World.drewN_drewN _ _ _⟩|exact ⟨rfl,_,Eq.trans (World.drewN_drewN _ _ _) (congrArg (World.drewN _) (Nat.add_assoc _ _ _))⟩)));try go_wp2_with (first|(go_at_call 42;(with_reducible refine (spec_l1In.calls a1 2 4 true _ A20.out).mono ?_);rintro e w' ⟨rfl,⟨nd,rfl⟩⟩;(try first|exact ⟨rfl,_,World.drewN_drewN _ _ _⟩|exact ⟨rfl,_,Eq.trans (World.drewN_drewN _ _ _) (congrArg (World.drewN _) (Nat.add_assoc _ _ _))⟩))))
    go_meet
    case rel=>exact ⟨_,(decide ((l0_1.length:Int) > 4)),yeq,H,⟨by have:=HK1.out;first|omega|exact Nat.le_refl _⟩,⟨ybk BK320.out⟩,⟨yhb⟩⟩
   replace H:=yff H
   replace H:=yam H
   go_wp2_with (first|(go_at_call 42;(with_reducible refine (spec_l1In.calls a1 2 4 false _ A20.out).mono ?_);rintro e w' ⟨rfl,⟨nd,rfl⟩⟩;(try first|exact ⟨rfl,_,World.drewN_drewN _ _ _⟩|exact ⟨rfl,_,Eq.trans (World.drewN_drewN _ _ _) (congrArg (World.drewN _) (Nat.add_assoc _ _ _))⟩)))
   repeat (go_quiet (first|(go_at_call 42;(with_reducible refine (spec_l1In.calls a1 2 4 false _ A20.out).mono ?_);rintro e w' ⟨rfl,⟨nd,rfl⟩⟩;(try first|exact ⟨rfl,_,World.drewN_drewN _ _ _⟩|exact ⟨rfl,_,Eq.trans (World.drewN_drewN _ _ _) (congrArg (World.drewN _) (Nat.add_assoc _ _ _))⟩)));try go_wp2_with (first|(go_at_call 42;(with_reducible refine (spec_l1In.calls a1 2 4 false _ A20.out).mono ?_);rintro e w' ⟨rfl,⟨nd,rfl⟩⟩;(try first|exact ⟨rfl,_,World.drewN_drewN _ _ _⟩|exact ⟨rfl,_,Eq.trans (World.drewN_drewN _ _ _) (congrArg (World.drewN _) (Nat.add_assoc _ _ _))⟩))))
   go_meet
   case rel=>exact ⟨_,(true),yeq,H,⟨by have:=HK1.out;first|omega|exact Nat.le_refl _⟩,⟨ybk BK320.out⟩,⟨yhb⟩⟩
  case rest =>
   clear HC18
   try clear c4b0
   try clear hcz19_0
   try clear hcz19_1
   try clear hcz19_2
   try clear hfz19_0
   try clear hfz19_1
   try clear hfz19_2
   obtain ⟨kq,x51_17,rfl,HA,HJ17,BK320,HB⟩:=hcut
   rcases kq with _|kj17
   ·exact absurd HA.out (by simp [spec_RuleValid.j2])
   obtain ⟨H⟩:=HA
   simp only [spec_RuleValid.j2] at H
   cases x51_17
   rotate_left
   ·replace H:=ytt H
    obtain rfl:=ysi H
    go_wp2
    repeat (go_quiet (fail);try go_wp2)
    go_ret
    exact ⟨yer,yhb⟩
   replace H:=yff H
   replace H:=yit H;obtain ⟨c23,H⟩ | ⟨c23,H⟩:=H
   ·have c23b0:(a0_0 == 1)=true:=beq_iff_eq.mpr c23
    have c23b1:(a0_0 != 1)=false:=bne_eq_false_iff_eq.mpr c23
    clear c23
    replace H:=yit H;obtain ⟨c24,H⟩ | ⟨c24,H⟩:=H
    ·have c24b0:decide (2≤(l0_1.length:Int))=true:=decide_eq_true c24
     have c24b1:decide (2≤l0_1.length)=true:=decide_eq_true (by omega)
     clear c24
     obtain rfl:=ysi H
     obtain ⟨hcz25_0,hcz25_1,hcz25_2,hfz25_0,hfz25_1,hfz25_2⟩:=ybc BK320.out
     go_wp2
     repeat (go_quiet (fail);try go_wp2)
     go_ret
     exact ⟨yer,yhb⟩
    have c24b0:decide (2≤(l0_1.length:Int))=false:=decide_eq_false c24
    have c24b1:decide (2≤l0_1.length)=false:=decide_eq_false (by omega)
    clear c24
    obtain rfl:=ysi H
    obtain ⟨hcz26_0,hcz26_1,hcz26_2,hfz26_0,hfz26_1,hfz26_2⟩:=ybc BK320.out
    go_wp2
    repeat (go_quiet (fail);try go_wp2)
    go_ret
    exact ⟨yer,yhb⟩
   have c23b0:(a0_0 == 1)=false:=beq_eq_false_iff_ne.mpr c23
   have c23b1:(a0_0 != 1)=true:=bne_iff_ne.mpr c23
   have HC27:=yam H
   clear H
   obtain ⟨hcz28_0,hcz28_1,hcz28_2,hfz28_0,hfz28_1,hfz28_2⟩:=ybc BK320.out
   go_upto_if 63 with (fail)
   repeat (go_quiet (fail);go_upto_if 63 with (fail))
   go_cut [63] (fun v63 wc=>∃ (kq:Nat) (x63_26:Bool),v63= .bool x63_26∧Aside0 (spec_RuleValid.j3 kq a1 (l0_1.length:Int) a0_0 x63_26 a0_0 l0_1 a0_2=some r)∧Aside0 (kq≤kj17)∧Aside0 (wc.heap[gb320]?=some (.cells #[.int .i64 a0_0,(.slice A0_1 l0_1.length c0_1),.int .i64 a0_2] 73 (0,0)))∧Aside0 (Below w.heap.size w wc))
   case first =>
    have H:=HC27.out
    clear HC27
    replace H:=yit H;obtain ⟨c29,H⟩ | ⟨c29,H⟩:=H
    rotate_left
    ·have c29b0:(a0_0 == 2)=false:=beq_eq_false_iff_ne.mpr c29
     have c29b1:(a0_0 != 2)=true:=bne_iff_ne.mpr c29
     (first|rw [c29b0]|(simp only [i64_w,i32_w];rw [c29b0])|skip)
     replace H:=yam H
     go_wp2
     repeat (go_quiet (fail);try go_wp2)
     go_meet
     case rel=>exact ⟨_,((a0_0 == 3)),yeq,H,⟨by have:=HK1.out;have:=HJ17.out;first|omega|exact Nat.le_refl _⟩,⟨ybk BK320.out⟩,⟨yhb⟩⟩
    have c29b0:(a0_0 == 2)=true:=beq_iff_eq.mpr c29
    have c29b1:(a0_0 != 2)=false:=bne_eq_false_iff_eq.mpr c29
    clear c29
    (first|rw [c29b0]|(simp only [i64_w,i32_w];rw [c29b0])|skip)
    replace H:=yam H
    go_wp2
    repeat (go_quiet (fail);try go_wp2)
    go_meet
    case rel=>exact ⟨_,((a0_0 == 2)),yeq,H,⟨by have:=HK1.out;have:=HJ17.out;first|omega|exact Nat.le_refl _⟩,⟨ybk BK320.out⟩,⟨yhb⟩⟩
   case rest =>
    clear HC27
    try clear c23
    try clear c23b0
    try clear c23b1
    try clear hcz28_0
    try clear hcz28_1
    try clear hcz28_2
    try clear hfz28_0
    try clear hfz28_1
    try clear hfz28_2
    obtain ⟨kq,x63_26,rfl,HA,HJ26,BK320,HB⟩:=hcut
    rcases kq with _|kj26
    ·exact absurd HA.out (by simp [spec_RuleValid.j3])
    obtain ⟨H⟩:=HA
    simp only [spec_RuleValid.j3] at H
    cases x63_26
    rotate_left
    ·replace H:=ytt H
     replace H:=yit H;obtain ⟨c31,H⟩ | ⟨c31,H⟩:=H
     rotate_left
     ·have c31b0:decide (1≤(l0_1.length:Int))=false:=decide_eq_false c31
      have c31b1:decide (1≤l0_1.length)=false:=decide_eq_false (by omega)
      clear c31
      obtain rfl:=ysi H
      go_wp2
      repeat (go_quiet (fail);try go_wp2)
      go_ret
      exact ⟨yer,yhb⟩
     have c31b0:decide (1≤(l0_1.length:Int))=true:=decide_eq_true c31
     have c31b1:decide (1≤l0_1.length)=true:=decide_eq_true (by omega)
     clear c31
     replace H:=ybi H;obtain ⟨t326,A32,H⟩:=H
     try dsimp only at H
     obtain rfl:=ysi H
     obtain ⟨hcz33_0,hcz33_1,hcz33_2,hfz33_0,hfz33_1,hfz33_2⟩:=ybc BK320.out
     have hwq0_:IntKind.i64.wrap (a1 * a1)=wrap64 (a1 * a1):=i64_w _
     have hwq1_:IntKind.i64.wrap ((wrap64 (a1 * a1)) * a1)=wrap64 ((wrap64 (a1 * a1)) * a1):=i64_w _
     have hwq2_:IntKind.i64.wrap ((wrap64 ((wrap64 (a1 * a1)) * a1)) * a1)=wrap64 ((wrap64 ((wrap64 (a1 * a1)) * a1)) * a1):=i64_w _
     go_wp2_with (first|(go_at_call 42;(with_reducible refine (spec_l1In.calls a0_2 1 (wrap64 ((wrap64 ((wrap64 (a1 * a1)) * a1)) * a1)) t326 _ A32.out).mono ?_);rintro e w' ⟨rfl,⟨nd,rfl⟩⟩;(try first|exact ⟨rfl,_,World.drewN_drewN _ _ _⟩|exact ⟨rfl,_,Eq.trans (World.drewN_drewN _ _ _) (congrArg (World.drewN _) (Nat.add_assoc _ _ _))⟩)))
     repeat (go_quiet (first|(go_at_call 42;(with_reducible refine (spec_l1In.calls a0_2 1 (wrap64 ((wrap64 ((wrap64 (a1 * a1)) * a1)) * a1)) t326 _ A32.out).mono ?_);rintro e w' ⟨rfl,⟨nd,rfl⟩⟩;(try first|exact ⟨rfl,_,World.drewN_drewN _ _ _⟩|exact ⟨rfl,_,Eq.trans (World.drewN_drewN _ _ _) (congrArg (World.drewN _) (Nat.add_assoc _ _ _))⟩)));try go_wp2_with (first|(go_at_call 42;(with_reducible refine (spec_l1In.calls a0_2 1 (wrap64 ((wrap64 ((wrap64 (a1 * a1)) * a1)) * a1)) t326 _ A32.out).mono ?_);rintro e w' ⟨rfl,⟨nd,rfl⟩⟩;(try first|exact ⟨rfl,_,World.drewN_drewN _ _ _⟩|exact ⟨rfl,_,Eq.trans (World.drewN_drewN _ _ _) (congrArg (World.drewN _) (Nat.add_assoc _ _ _))⟩))))
     go_ret
     exact ⟨yer,yhb⟩
    replace H:=yff H
    replace H:=yit H;obtain ⟨c34,H⟩ | ⟨c34,H⟩:=H
    ·have c34b0:(a0_0 == 4)=true:=beq_iff_eq.mpr c34
     have c34b1:(a0_0 != 4)=false:=bne_eq_false_iff_eq.mpr c34
     clear c34
     replace H:=yit H;obtain ⟨c35,H⟩ | ⟨c35,H⟩:=H
     rotate_left
     ·have c35b0:((l0_1.length:Int) == 2)=false:=beq_eq_false_iff_ne.mpr c35
      have c35b1:((l0_1.length:Int) != 2)=true:=bne_iff_ne.mpr c35
      obtain rfl:=ysi H
      go_wp2
      repeat (go_quiet (fail);try go_wp2)
      go_ret
      exact ⟨yer,yhb⟩
     have c35b0:((l0_1.length:Int) == 2)=true:=beq_iff_eq.mpr c35
     have c35b1:((l0_1.length:Int) != 2)=false:=bne_eq_false_iff_eq.mpr c35
     clear c35
     obtain rfl:=ysi H
     obtain ⟨hcz36_0,hcz36_1,hcz36_2,hfz36_0,hfz36_1,hfz36_2⟩:=ybc BK320.out
     go_wp2
     repeat (go_quiet (fail);try go_wp2)
     go_ret
     exact ⟨yer,yhb⟩
    have c34b0:(a0_0 == 4)=false:=beq_eq_false_iff_ne.mpr c34
    have c34b1:(a0_0 != 4)=true:=bne_iff_ne.mpr c34
    replace H:=yit H;obtain ⟨c37,H⟩ | ⟨c37,H⟩:=H
    rotate_left
    ·have c37b0:(a0_0 == 5)=false:=beq_eq_false_iff_ne.mpr c37
     have c37b1:(a0_0 != 5)=true:=bne_iff_ne.mpr c37
     obtain rfl:=ysi H
     go_wp2
     repeat (go_quiet (fail);try go_wp2)
     go_ret
     exact ⟨yer,yhb⟩
    have c37b0:(a0_0 == 5)=true:=beq_iff_eq.mpr c37
    have c37b1:(a0_0 != 5)=false:=bne_eq_false_iff_eq.mpr c37
    clear c37
    replace H:=yit H;obtain ⟨c38,H⟩ | ⟨c38,H⟩:=H
    rotate_left
    ·have c38b0:((l0_1.length:Int) == 2)=false:=beq_eq_false_iff_ne.mpr c38
     have c38b1:((l0_1.length:Int) != 2)=true:=bne_iff_ne.mpr c38
     obtain rfl:=ysi H
     go_wp2
     repeat (go_quiet (fail);try go_wp2)
     go_ret
     exact ⟨yer,yhb⟩
    have c38b0:((l0_1.length:Int) == 2)=true:=beq_iff_eq.mpr c38
    have c38b1:((l0_1.length:Int) != 2)=false:=bne_eq_false_iff_eq.mpr c38
    clear c38
    replace H:=ybi H;obtain ⟨t327,A39,H⟩:=H
    try dsimp only at H
    obtain rfl:=ysi H
    obtain ⟨hcz40_0,hcz40_1,hcz40_2,hfz40_0,hfz40_1,hfz40_2⟩:=ybc BK320.out
    have hwq0_:IntKind.i64.wrap (a1 - 1)=wrap64 (a1 - 1):=i64_w _
    go_wp2_with (first|(go_at_call 42;(with_reducible refine (spec_l1In.calls a0_2 0 (wrap64 (a1 - 1)) t327 _ A39.out).mono ?_);rintro e w' ⟨rfl,⟨nd,rfl⟩⟩;(try first|exact ⟨rfl,_,World.drewN_drewN _ _ _⟩|exact ⟨rfl,_,Eq.trans (World.drewN_drewN _ _ _) (congrArg (World.drewN _) (Nat.add_assoc _ _ _))⟩)))
    repeat (go_quiet (first|(go_at_call 42;(with_reducible refine (spec_l1In.calls a0_2 0 (wrap64 (a1 - 1)) t327 _ A39.out).mono ?_);rintro e w' ⟨rfl,⟨nd,rfl⟩⟩;(try first|exact ⟨rfl,_,World.drewN_drewN _ _ _⟩|exact ⟨rfl,_,Eq.trans (World.drewN_drewN _ _ _) (congrArg (World.drewN _) (Nat.add_assoc _ _ _))⟩)));try go_wp2_with (first|(go_at_call 42;(with_reducible refine (spec_l1In.calls a0_2 0 (wrap64 (a1 - 1)) t327 _ A39.out).mono ?_);rintro e w' ⟨rfl,⟨nd,rfl⟩⟩;(try first|exact ⟨rfl,_,World.drewN_drewN _ _ _⟩|exact ⟨rfl,_,Eq.trans (World.drewN_drewN _ _ _) (congrArg (World.drewN _) (Nat.add_assoc _ _ _))⟩))))
    go_ret
    exact ⟨yer,yhb⟩
def spec_GridValid.l0:Nat→List Int→Int→Int→Option (Bool)
 | 0,_,_,_=>none
 | k + 1,x0,x1,x5=>if x5 < (x0.length:Int) then (if 0≤x5 then ((spec_l1In.f (rd x0 x5) 0 x1).bind fun t329=>(if t329=true then (spec_GridValid.l0 k x0 x1 (wrap64 (x5 + 1))) else (some false))) else (none)) else ((spec_l1In.f x1 2 4).bind fun t330=>(if t330=true then (some ((x0.length:Int) == (wrap64 (x1 * x1)))) else (some false)))
def spec_GridValid.f (k:Nat)(l0:List Int)(a1:Int):Option (Bool):=spec_GridValid.l0 k l0 a1 0
theorem spec_GridValid.calls (k:Nat)(A0:Option Addr)(c0:Nat)(l0:List Int)(a1:Int)(r:Bool)(w:World)(hr0:Kd.C (Kd.int .i64) w A0 l0.length l0)(hc0:l0.length≤c0)(h:spec_GridValid.f k l0 a1=some r) :
  Calls Try.prog 84 #[.slice A0 l0.length c0,.int .i64 a1] w fun e w'=>e= .returned (.bool r)∧Drawn0 w w':=by
 have HR0:=yam hr0
 have HC0:=yam hc0
 clear hr0 hc0
 unfold spec_GridValid.f at h
 have H:=h
 clear h
 replace H:=yam H
 go_enter Try.func84,Try.ntmps84
 go_wp2
 go_loopg [5] k (fun kq v5 w'=>∃ (x5_1:Int),v5= .int .i64 x5_1∧Aside0 (spec_GridValid.l0 kq l0 a1 x5_1=some r)∧Aside0 (kq≤k)∧Drawn0 w w')
 case atStart=>exact ⟨(0),yeq,H,⟨Nat.le_refl _⟩,by repeat (first|exact Drawn0.refl _|apply Drawn0.step)⟩
 case round =>
  clear H
  obtain ⟨x5_1,rfl,HA,HK1,⟨m1,rfl⟩⟩:=hrel
  rcases gk with _|k1
  ·exact absurd HA.out (by simp [spec_GridValid.l0])
  obtain ⟨H⟩:=HA
  simp only [spec_GridValid.l0] at H
  replace H:=yis H;obtain ⟨c3b0,H⟩ | ⟨c3b0,H⟩:=H
  rotate_left
  ·replace H:=ybi H;obtain ⟨t330,A7,H⟩:=H
   try dsimp only at H
   cases t330
   rotate_left
   ·replace H:=ytt H
    obtain rfl:=ysi H
    go_wp2_with (first|(refine goesL_ (some 20) rfl rfl Try.func42 (by kernel_rfl) rfl #[.int .i64 a1,.int .i64 2,.int .i64 4] rfl ymd ?_;(with_reducible refine (spec_l1In.calls a1 2 4 true _ A7.out).mono ?_);rintro e w' ⟨rfl,⟨nd,rfl⟩⟩;refine ⟨_,rfl,?_⟩))
    go_ret
    exact ⟨yeq,by repeat (first|exact Drawn0.refl _|apply Drawn0.step)⟩
   replace H:=yff H
   obtain rfl:=ysi H
   go_wp2_with (first|(refine goesL_ (some 20) rfl rfl Try.func42 (by kernel_rfl) rfl #[.int .i64 a1,.int .i64 2,.int .i64 4] rfl ymd ?_;(with_reducible refine (spec_l1In.calls a1 2 4 false _ A7.out).mono ?_);rintro e w' ⟨rfl,⟨nd,rfl⟩⟩;refine ⟨_,rfl,?_⟩))
   go_ret
   exact ⟨yeq,by repeat (first|exact Drawn0.refl _|apply Drawn0.step)⟩
  replace H:=yif H;obtain ⟨c4b0,H⟩:=H
  replace H:=ybi H;obtain ⟨t329,A5,H⟩:=H
  try dsimp only at H
  cases t329
  ·replace H:=yff H
   obtain rfl:=ysi H
   obtain ⟨ad328,e328,hx328_0,p328,q328⟩:=yat HR0.out x5_1
   cases e328
   go_wp2_with (first|(refine goesL_ (some 17) rfl rfl Try.func42 (by kernel_rfl) rfl #[.int .i64 (rd l0 x5_1),.int .i64 0,.int .i64 a1] rfl ymd ?_;(with_reducible refine (spec_l1In.calls (rd l0 x5_1) 0 a1 false _ A5.out).mono ?_);rintro e w' ⟨rfl,⟨nd,rfl⟩⟩;refine ⟨_,rfl,?_⟩))
   go_ret
   exact ⟨yeq,by repeat (first|exact Drawn0.refl _|apply Drawn0.step)⟩
  replace H:=ytt H
  replace H:=yam H
  obtain ⟨ad328,e328,hx328_0,p328,q328⟩:=yat HR0.out x5_1
  cases e328
  go_wp2_with (first|(refine goesL_ (some 17) rfl rfl Try.func42 (by kernel_rfl) rfl #[.int .i64 (rd l0 x5_1),.int .i64 0,.int .i64 a1] rfl ymd ?_;(with_reducible refine (spec_l1In.calls (rd l0 x5_1) 0 a1 true _ A5.out).mono ?_);rintro e w' ⟨rfl,⟨nd,rfl⟩⟩;refine ⟨_,rfl,?_⟩))
  go_roundg k1
  case measure=>have:=HK1.out;omega
  case rel=>exact ⟨(wrap64 (x5_1 + 1)),yeq,H,⟨by have:=HK1.out;omega⟩,by repeat (first|exact Drawn0.refl _|apply Drawn0.step)⟩
def spec_PuzzleValid.l0:Nat→Int→Int→List Int→List (S73)→Option (Bool)
 | 0,_,_,_,_=>none
 | k + 1,x3,x332000,x332001,x332002=>if x3 < (x332002.length:Int) then (if 0≤x3 then ((spec_RuleValid.f k ((rd_T73 x332002 x3).f0) ((rd_T73 x332002 x3).f1) ((rd_T73 x332002 x3).f2) x332000).bind fun t333=>(if t333=true then (spec_PuzzleValid.l0 k (wrap64 (x3 + 1)) x332000 x332001 x332002) else (some false))) else (none)) else ((spec_GridValid.f k x332001 x332000).bind fun t334=>(if t334=true then (some (decide ((x332002.length:Int)≤20))) else (some false)))
def spec_PuzzleValid.f (k:Nat)(a0_0:Int)(l0_1:List Int)(l0_2:List (S73)):Option (Bool):=spec_PuzzleValid.l0 k 0 a0_0 l0_1 l0_2
def spec_PuzzleValid.T4:Bool × List (List Nat × List Nat):=(true,[([],[]),([0],[0]),([],[]),([1,2],[1,2]),([3],[3]),([],[]),([5],[5]),([4,6],[4,6]),([7],[7])])
def spec_PuzzleValid.B4:List Nat:=[0,1,0,7,15,0,32,127,255]
theorem spec_PuzzleValid.tab4:rtab .any (opsOf Try.f62 4)=spec_PuzzleValid.T4:=by kernel_rfl
theorem spec_PuzzleValid.bits4:waitsOk spec_PuzzleValid.T4.2 spec_PuzzleValid.B4=true:=by kernel_rfl
theorem spec_PuzzleValid.calls (k:Nat)(a0_0:Int)(A0_1:Option Addr)(c0_1:Nat)(l0_1:List Int)(A0_2:Option Addr)(c0_2:Nat)(l0_2:List (S73))(r:Bool)(w:World)(hr0_1:Kd.C (Kd.int .i64) w A0_1 l0_1.length l0_1)(hc0_1:l0_1.length≤c0_1)(hr0_2:Kd.C k73 w A0_2 l0_2.length l0_2)(hc0_2:l0_2.length≤c0_2)(h:spec_PuzzleValid.f k a0_0 l0_1 l0_2=some r) :
  Calls Try.prog 62 #[.agg #[.int .i64 a0_0,.slice A0_1 l0_1.length c0_1,.slice A0_2 l0_2.length c0_2]] w fun e w'=>e= .returned (.bool r)∧Below w.heap.size w w':=by
 have hu37:=Try.underlying37
 have hu73:=Try.underlying73
 have HR0_1:=yam hr0_1
 have HC0_1:=yam hc0_1
 clear hr0_1 hc0_1
 have HR0_2:=yam hr0_2
 have HC0_2:=yam hc0_2
 clear hr0_2 hc0_2
 have HB:=yam (Below.refl w.heap.size w)
 unfold spec_PuzzleValid.f at h
 have H:=h
 clear h
 replace H:=yam H
 go_enter Try.func62,Try.ntmps62
 go_wp2_with (first|((with_reducible refine gate_dst (N:=1) rfl ?_);(try (refine gate_guard (by rfl) ?_;dsimp only));refine ybe 1 #[.int .i64 a0_0,.slice A0_1 l0_1.length c0_1,.slice A0_2 l0_2.length c0_2] 37 ?_;intro gb331 hg w2 hbox hb;have BK331:=yam (hbox);have GW331:=yam ((by rw [hg];exact (below_size (yez HB.out)):w.heap.size≤gb331));replace HB:=yam (below_step (yez HB.out) hb);have GE331:=GW331;clear hb hbox hg))
 go_loopg [3] k (fun kq v3 w'=>∃ (x3_1:Int),v3= .int .i64 x3_1∧Aside0 (spec_PuzzleValid.l0 kq x3_1 a0_0 l0_1 l0_2=some r)∧Aside0 (kq≤k)∧Aside0 (w'.heap[gb331]?=some (.cells #[.int .i64 a0_0,(.slice A0_1 l0_1.length c0_1),(.slice A0_2 l0_2.length c0_2)] 37 (0,0)))∧Aside0 (Below w.heap.size w w'))
 case atStart=>exact ⟨(0),yeq,H,⟨Nat.le_refl _⟩,⟨ybk BK331.out⟩,⟨yhb⟩⟩
 case round =>
  clear H
  obtain ⟨x3_1,rfl,HA,HK1,BK331,HB⟩:=hrel
  rcases gk with _|k1
  ·exact absurd HA.out (by simp [spec_PuzzleValid.l0])
  obtain ⟨H⟩:=HA
  simp only [spec_PuzzleValid.l0] at H
  replace H:=yis H;obtain ⟨c3b0,H⟩ | ⟨c3b0,H⟩:=H
  rotate_left
  ·replace H:=ybi H;obtain ⟨t334,A13,H⟩:=H
   try dsimp only at H
   cases t334
   rotate_left
   ·replace H:=ytt H
    obtain rfl:=ysi H
    obtain ⟨hcz15_0,hcz15_1,hcz15_2,hfz15_0,hfz15_1,hfz15_2⟩:=ybc BK331.out
    go_wp2_with (first|(refine goesL_ (some 24) rfl rfl Try.func84 (by kernel_rfl) rfl #[.slice A0_1 l0_1.length c0_1,.int .i64 a0_0] rfl ymd ?_;(with_reducible refine (spec_GridValid.calls k1 _ _ l0_1 a0_0 true _ ?_ ?_ A13.out).mono ?_);exact Kd.Cz ((Kd.C_below HR0_1.out HB.out));exact HC0_1.out;rintro e w' ⟨rfl,⟨nd,rfl⟩⟩;refine ⟨_,rfl,?_⟩))
    go_ret
    exact ⟨yer,yhb⟩
   replace H:=yff H
   obtain rfl:=ysi H
   obtain ⟨hcz16_0,hcz16_1,hcz16_2,hfz16_0,hfz16_1,hfz16_2⟩:=ybc BK331.out
   go_wp2_with (first|(refine goesL_ (some 24) rfl rfl Try.func84 (by kernel_rfl) rfl #[.slice A0_1 l0_1.length c0_1,.int .i64 a0_0] rfl ymd ?_;(with_reducible refine (spec_GridValid.calls k1 _ _ l0_1 a0_0 false _ ?_ ?_ A13.out).mono ?_);exact Kd.Cz ((Kd.C_below HR0_1.out HB.out));exact HC0_1.out;rintro e w' ⟨rfl,⟨nd,rfl⟩⟩;refine ⟨_,rfl,?_⟩))
   go_ret
   exact ⟨yer,yhb⟩
  replace H:=yif H;obtain ⟨c4b0,H⟩:=H
  replace H:=ybi H;obtain ⟨t333,A5,H⟩:=H
  try dsimp only at H
  cases t333
  ·replace H:=yff H
   obtain rfl:=ysi H
   obtain ⟨hcz10_0,hcz10_1,hcz10_2,hfz10_0,hfz10_1,hfz10_2⟩:=ybc BK331.out
   try go_wp2
   replace BK331:=yam (ybd BK331.out)
   replace HB:=yam (yed HB.out)
   have p332:0≤(x3_1:Int):=ydt
   have q332:x3_1 < (l0_2.length:Int):=ydt
   obtain ⟨ad332,A332_1,c332_1,e332,hx332_0,hx332_1,hx332_2,hl332_1,hi332_1⟩:=at_T73 HR0_2.out x3_1 p332 q332
   have hw332_2:=hx332_2
   have hw332_1:=hx332_1
   have hw332_0:=hx332_0
   cases e332
   replace hx332_0:=ybx HB.out hx332_0
   replace hx332_1:=ybx HB.out hx332_1
   replace hx332_2:=ybx HB.out hx332_2
   have HR332_1:=yam hi332_1
   have HC332_1:=yam hl332_1
   clear hi332_1 hl332_1
   replace p332:=eq_true p332
   replace q332:=eq_true q332
   refine start_ (n:=9) (S:=fun w'=>w'.cell? ⟨gb331,0,none⟩=some (.int .i64 a0_0)∧w'.cell? ⟨gb331,1,none⟩=some (.slice A0_1 l0_1.length c0_1)∧w'.cell? ⟨gb331,2,none⟩=some (.slice (some ad332) l0_2.length c0_2)∧w'.cell? (ad332.add ((x3_1).toNat * 3))=some (.int .i64 ((rd_T73 l0_2 x3_1).f0))∧w'.cell? ⟨(ad332.add ((x3_1).toNat * 3)).block,(ad332.add ((x3_1).toNat * 3)).off + 1,none⟩=some (.slice A332_1 ((rd_T73 l0_2 x3_1).f1).length c332_1)∧w'.cell? ⟨(ad332.add ((x3_1).toNat * 3)).block,(ad332.add ((x3_1).toNat * 3)).off + 2,none⟩=some (.int .i64 ((rd_T73 l0_2 x3_1).f2))) (ds:=[]) (yvb 9 0) (by kernel_rfl) rfl rfl ⟨(blk_cell BK331.out 0).trans rfl,(blk_cell BK331.out 1).trans rfl,(blk_cell BK331.out 2).trans rfl,((HB.out.cell (World.block_lt_of_cell? w _ hw332_0)).trans hw332_0),((HB.out.cell (World.block_lt_of_cell? w _ hw332_1)).trans hw332_1),((HB.out.cell (World.block_lt_of_cell? w _ hw332_2)).trans hw332_2)⟩ (fun hHeld=>?_);refine with_tabW spec_PuzzleValid.tab4 spec_PuzzleValid.bits4 (fun HT_ HW_=>?_)
   generalize wr.drew=w11 at BK331 HB HR332_1 hx332_0 hx332_1 hx332_2 hHeld ⊢
   refine yvp 0 11 (yvb 9 1) HT_.out ?_
   refine yvp 2 13 (yvb 9 5) HT_.out ?_
   refine yvp 5 16 (yvb 9 37) HT_.out ?_
   refine yvt 1 12 (yvb 9 39) HT_.out HW_.out hHeld ?_
   refine yvp 3 14 (yvb 9 47) HT_.out ?_
   refine yvt 4 15 (yvb 9 63) HT_.out HW_.out hHeld ?_
   refine yvt 6 17 (yvb 9 127) HT_.out HW_.out hHeld ?_
   refine one_ (i:=7) (N:=some 18) (yvb 9 255) rfl rfl (one_of HT_.out (by kernel_rfl)) (by decide) (fun K hK=>?_)
   refine goes_ Try.func83 (by kernel_rfl) rfl #[.agg #[.int .i64 ((rd_T73 l0_2 x3_1).f0),.slice A332_1 ((rd_T73 l0_2 x3_1).f1).length c332_1,.int .i64 ((rd_T73 l0_2 x3_1).f2)],.int .i64 a0_0] (by rfl) rfl rfl ymd ?_
   with_reducible refine (spec_RuleValid.calls k1 ((rd_T73 l0_2 x3_1).f0) _ _ ((rd_T73 l0_2 x3_1).f1) ((rd_T73 l0_2 x3_1).f2) a0_0 false _ ?_ ?_ A5.out).mono ?_
   exact Kd.Cz ((Kd.C_below HR332_1.out HB.out))
   exact HC332_1.out
   rintro e w12 ⟨rfl,hb⟩
   refine ⟨_,rfl,?_⟩
   replace BK331:=yam (ybb BK331.out hb)
   replace HB:=yam (below_step yhb hb)
   (try clear hb)
   (try clear hb2)
   (try clear hk)
   (try clear hi)
   refine hK.out _ _ ⟨(blk_cell BK331.out 0).trans rfl,(blk_cell BK331.out 1).trans rfl,(blk_cell BK331.out 2).trans rfl,((HB.out.cell (World.block_lt_of_cell? w _ hw332_0)).trans hw332_0),((HB.out.cell (World.block_lt_of_cell? w _ hw332_1)).trans hw332_1),((HB.out.cell (World.block_lt_of_cell? w _ hw332_2)).trans hw332_2)⟩ (fun hHeld=>?_)
   clear hK K
   refine norm_ (a':=?_) ?_ ?_
   rotate_left
   ·show Act.put _ (some 18) _=_
    simp only [Act.put,yps,i64_w,i32_w]
    rfl
   refine yvp 8 19 (yvb 9 511) HT_.out ?_
   refine done_ (done_of HT_.out (by kernel_rfl)) ?_
   try go_wp2
   go_ret
   exact ⟨yer,yhb⟩
  replace H:=ytt H
  replace H:=yam H
  obtain ⟨hcz7_0,hcz7_1,hcz7_2,hfz7_0,hfz7_1,hfz7_2⟩:=ybc BK331.out
  try go_wp2
  replace BK331:=yam (ybd BK331.out)
  replace HB:=yam (yed HB.out)
  have p332:0≤(x3_1:Int):=ydt
  have q332:x3_1 < (l0_2.length:Int):=ydt
  obtain ⟨ad332,A332_1,c332_1,e332,hx332_0,hx332_1,hx332_2,hl332_1,hi332_1⟩:=at_T73 HR0_2.out x3_1 p332 q332
  have hw332_2:=hx332_2
  have hw332_1:=hx332_1
  have hw332_0:=hx332_0
  cases e332
  replace hx332_0:=ybx HB.out hx332_0
  replace hx332_1:=ybx HB.out hx332_1
  replace hx332_2:=ybx HB.out hx332_2
  have HR332_1:=yam hi332_1
  have HC332_1:=yam hl332_1
  clear hi332_1 hl332_1
  replace p332:=eq_true p332
  replace q332:=eq_true q332
  refine start_ (n:=9) (S:=fun w'=>w'.cell? ⟨gb331,0,none⟩=some (.int .i64 a0_0)∧w'.cell? ⟨gb331,1,none⟩=some (.slice A0_1 l0_1.length c0_1)∧w'.cell? ⟨gb331,2,none⟩=some (.slice (some ad332) l0_2.length c0_2)∧w'.cell? (ad332.add ((x3_1).toNat * 3))=some (.int .i64 ((rd_T73 l0_2 x3_1).f0))∧w'.cell? ⟨(ad332.add ((x3_1).toNat * 3)).block,(ad332.add ((x3_1).toNat * 3)).off + 1,none⟩=some (.slice A332_1 ((rd_T73 l0_2 x3_1).f1).length c332_1)∧w'.cell? ⟨(ad332.add ((x3_1).toNat * 3)).block,(ad332.add ((x3_1).toNat * 3)).off + 2,none⟩=some (.int .i64 ((rd_T73 l0_2 x3_1).f2))) (ds:=[]) (yvb 9 0) (by kernel_rfl) rfl rfl ⟨(blk_cell BK331.out 0).trans rfl,(blk_cell BK331.out 1).trans rfl,(blk_cell BK331.out 2).trans rfl,((HB.out.cell (World.block_lt_of_cell? w _ hw332_0)).trans hw332_0),((HB.out.cell (World.block_lt_of_cell? w _ hw332_1)).trans hw332_1),((HB.out.cell (World.block_lt_of_cell? w _ hw332_2)).trans hw332_2)⟩ (fun hHeld=>?_);refine with_tabW spec_PuzzleValid.tab4 spec_PuzzleValid.bits4 (fun HT_ HW_=>?_)
  generalize wr.drew=w8 at BK331 HB HR332_1 hx332_0 hx332_1 hx332_2 hHeld ⊢
  refine yvp 0 11 (yvb 9 1) HT_.out ?_
  refine yvp 2 13 (yvb 9 5) HT_.out ?_
  refine yvp 5 16 (yvb 9 37) HT_.out ?_
  refine yvt 1 12 (yvb 9 39) HT_.out HW_.out hHeld ?_
  refine yvp 3 14 (yvb 9 47) HT_.out ?_
  refine yvt 4 15 (yvb 9 63) HT_.out HW_.out hHeld ?_
  refine yvt 6 17 (yvb 9 127) HT_.out HW_.out hHeld ?_
  refine one_ (i:=7) (N:=some 18) (yvb 9 255) rfl rfl (one_of HT_.out (by kernel_rfl)) (by decide) (fun K hK=>?_)
  refine goes_ Try.func83 (by kernel_rfl) rfl #[.agg #[.int .i64 ((rd_T73 l0_2 x3_1).f0),.slice A332_1 ((rd_T73 l0_2 x3_1).f1).length c332_1,.int .i64 ((rd_T73 l0_2 x3_1).f2)],.int .i64 a0_0] (by rfl) rfl rfl ymd ?_
  with_reducible refine (spec_RuleValid.calls k1 ((rd_T73 l0_2 x3_1).f0) _ _ ((rd_T73 l0_2 x3_1).f1) ((rd_T73 l0_2 x3_1).f2) a0_0 true _ ?_ ?_ A5.out).mono ?_
  exact Kd.Cz ((Kd.C_below HR332_1.out HB.out))
  exact HC332_1.out
  rintro e w9 ⟨rfl,hb⟩
  refine ⟨_,rfl,?_⟩
  replace BK331:=yam (ybb BK331.out hb)
  replace HB:=yam (below_step yhb hb)
  (try clear hb)
  (try clear hb2)
  (try clear hk)
  (try clear hi)
  refine hK.out _ _ ⟨(blk_cell BK331.out 0).trans rfl,(blk_cell BK331.out 1).trans rfl,(blk_cell BK331.out 2).trans rfl,((HB.out.cell (World.block_lt_of_cell? w _ hw332_0)).trans hw332_0),((HB.out.cell (World.block_lt_of_cell? w _ hw332_1)).trans hw332_1),((HB.out.cell (World.block_lt_of_cell? w _ hw332_2)).trans hw332_2)⟩ (fun hHeld=>?_)
  clear hK K
  refine norm_ (a':=?_) ?_ ?_
  rotate_left
  ·show Act.put _ (some 18) _=_
   simp only [Act.put,yps,i64_w,i32_w]
   rfl
  refine yvp 8 19 (yvb 9 511) HT_.out ?_
  refine done_ (done_of HT_.out (by kernel_rfl)) ?_
  try go_wp2
  go_roundg k1
  case measure=>have:=HK1.out;omega
  case rel=>exact ⟨(wrap64 (x3_1 + 1)),yeq,H,⟨by have:=HK1.out;omega⟩,⟨ybk BK331.out⟩,⟨yhb⟩⟩
mutual
def spec_LineCells.l0:Nat→Int→Int→List Int→Int→Option (List Int)
 | 0,_,_,_,_=>none
 | k + 1,x0,x1,x5,x6=>if x6 < x0 then ((spec_l1In.f x0 2 4).bind fun t104=>(if t104=true then ((spec_l1In.f x1 0 (wrap64 ((wrap64 (2 * x0)) - 1))).bind fun t105=>(spec_LineCells.j1 k x0 x1 x5 x6 t105)) else (spec_LineCells.j1 k x0 x1 x5 x6 false))) else (spec_LineCells.j1 k x0 x1 x5 x6 false)
def spec_LineCells.j1:Nat→Int→Int→List Int→Int→Bool→Option (List Int)
 | 0,_,_,_,_,_=>none
 | k + 1,x0,x1,x5,x6,x21=>if x21=true then (if x1 < x0 then (if x5.length < 17592186044416 then (spec_LineCells.l0 k x0 x1 (x5 ++ [wrap64 ((wrap64 (x1 * x0)) + x6)]) (wrap64 (x6 + 1))) else (none)) else (if x5.length < 17592186044416 then (spec_LineCells.l0 k x0 x1 (x5 ++ [wrap64 ((wrap64 ((wrap64 (x6 * x0)) + x1)) - x0)]) (wrap64 (x6 + 1))) else (none))) else (some x5)
end
def spec_LineCells.f (k:Nat)(a0:Int)(a1:Int):Option (List Int):=spec_LineCells.l0 k a0 a1 (([]:List Int)) 0
theorem spec_LineCells.mono_l:∀ k,(∀ y0 y1 y2 y3,LeO (spec_LineCells.l0 k y0 y1 y2 y3) (spec_LineCells.l0 (k + 1) y0 y1 y2 y3))∧(∀ y0 y1 y2 y3 y4,LeO (spec_LineCells.j1 k y0 y1 y2 y3 y4) (spec_LineCells.j1 (k + 1) y0 y1 y2 y3 y4))
 | 0=>⟨fun _ _ _ _ r h=>by simp [spec_LineCells.l0] at h,fun _ _ _ _ _ r h=>by simp [spec_LineCells.j1] at h⟩
 | k + 1=>by
  obtain ⟨ih0,ih1⟩:=spec_LineCells.mono_l k
  refine ⟨?_,?_⟩
  ·intro y0 y1 y2 y3
   unfold spec_LineCells.l0
   repeat' first
   | (with_reducible exact ih0 _ _ _ _)
   | (with_reducible exact ih1 _ _ _ _ _)
   | (with_reducible exact LeO.refl _)
   | (with_reducible exact LeO.none _)
   | (with_reducible refine LeO.ite ?_ ?_)
   | (with_reducible refine LeO.bind ?_ (fun _=>?_))
   | exact ih0 _ _ _ _
   | exact ih1 _ _ _ _ _
   | exact LeO.none _
   | refine LeO.ite ?_ ?_
   | refine LeO.bind ?_ (fun _=>?_)
  ·intro y0 y1 y2 y3 y4
   unfold spec_LineCells.j1
   repeat' first
   | (with_reducible exact ih0 _ _ _ _)
   | (with_reducible exact ih1 _ _ _ _ _)
   | (with_reducible exact LeO.refl _)
   | (with_reducible exact LeO.none _)
   | (with_reducible refine LeO.ite ?_ ?_)
   | (with_reducible refine LeO.bind ?_ (fun _=>?_))
   | exact ih0 _ _ _ _
   | exact ih1 _ _ _ _ _
   | exact LeO.none _
   | refine LeO.ite ?_ ?_
   | refine LeO.bind ?_ (fun _=>?_)
theorem spec_LineCells.mono:∀ a0 a1 k,LeO (spec_LineCells.f k a0 a1) (spec_LineCells.f (k + 1) a0 a1):=by
 intro a0 a1 k
 obtain ⟨ih0,ih1⟩:=spec_LineCells.mono_l k
 unfold spec_LineCells.f
 repeat' first
   | (with_reducible exact ih0 _ _ _ _)
   | (with_reducible exact ih1 _ _ _ _ _)
   | (with_reducible exact LeO.refl _)
   | (with_reducible exact LeO.none _)
   | (with_reducible refine LeO.ite ?_ ?_)
   | (with_reducible refine LeO.bind ?_ (fun _=>?_))
   | exact ih0 _ _ _ _
   | exact ih1 _ _ _ _ _
   | exact LeO.none _
   | refine LeO.ite ?_ ?_
   | refine LeO.bind ?_ (fun _=>?_)
theorem spec_LineCells.calls (k:Nat)(a0:Int)(a1:Int)(r:List Int)(w:World)(h:spec_LineCells.f k a0 a1=some r) :
  Calls Try.prog 87 #[.int .i64 a0,.int .i64 a1] w fun e w'=>∃ v0_:Value,e= .returned (v0_)∧Kd.R (Kd.int .i64) 3 w' w.heap.size (fun _=>True) v0_ r∧Below w.heap.size w w':=by
 have HB:=yam (Below.refl w.heap.size w)
 unfold spec_LineCells.f at h
 have H:=h
 clear h
 obtain ⟨y101,Ny101⟩:∃ y_:List Int,Aside0 (y_=(([]:List Int))):=⟨_,⟨rfl⟩⟩
 replace H:(spec_LineCells.l0 k a0 a1 y101 0)=some r:=yhn Ny101.out H
 replace H:=yam H
 go_enter Try.func87,Try.ntmps87
 go_wp2_with (first|((with_reducible refine gate_dst (N:=7) rfl ?_);refine Kd.R_lit (Kd.int .i64) _ 3 ?hg (N:=7) ?hd (xs:=([]:List Int)) (inner:=[]) (ok:=fun _=>True) (okp:=fun _=>True) ?hr ?hp (fun _ hk=>hk) trivial (Below.refl _ _) (Nat.le_refl _) (by simp) ?_;(case hd=>rfl);(case hg=>rfl);(case hr=>first|(go_simp;done)|(go_simp;rfl));(case hp=>exact (Reps.none _ _));intro v102 w3 ho4 hb hg_ hnew_;clear hg_ hnew_;(first|rw [← Ny101.out] at ho4|(simp only [Int.reduceToNat] at ho4;rw [← Ny101.out] at ho4));have HO103:=yam (Kd.R_lower ho4 (below_size (yez HB.out)));replace HB:=yam (below_step (yez HB.out) hb);clear hb ho4))
 go_loopg [5,6] k (fun kq v5 v6 w'=>∃ (x5_1:List Int) (x6_1:Int),v6= .int .i64 x6_1∧Aside0 (spec_LineCells.l0 kq a0 a1 x5_1 x6_1=some r)∧Aside0 (kq≤k)∧Aside0 (Kd.R (Kd.int .i64) 3 w' w.heap.size (fun _=>True) v5 x5_1)∧Aside0 (Below w.heap.size w w'))
 case atStart=>exact ⟨(y101),(0),yeq,H,⟨Nat.le_refl _⟩,⟨yka HO103.out⟩,⟨yhb⟩⟩
 case round =>
  clear H
  obtain ⟨x5_1,x6_1,rfl,HA,HK1,HO_5,HB⟩:=hrel
  rcases gk with _|k1
  ·exact absurd HA.out (by simp [spec_LineCells.l0])
  obtain ⟨H⟩:=HA
  simp only [spec_LineCells.l0] at H
  have HC5:=yam H
  clear H
  go_upto_region 3 with (fail)
  go_cut [21] (fun v21 wc=>∃ (kq:Nat) (x21_4:Bool),v21= .bool x21_4∧Aside0 (spec_LineCells.j1 kq a0 a1 x5_1 x6_1 x21_4=some r)∧Aside0 (kq≤k1)∧Aside0 (Kd.R (Kd.int .i64) 3 wc w.heap.size (fun _=>True) u5 x5_1)∧Aside0 (Below w.heap.size w wc))
  case first =>
   have H:=HC5.out
   clear HC5
   replace H:=yis H;obtain ⟨c6b0,H⟩ | ⟨c6b0,H⟩:=H
   rotate_left
   ·(first|rw [c6b0]|(simp only [i64_w,i32_w];rw [c6b0])|skip)
    replace H:=yam H
    go_wp2
    go_meet
    case rel=>exact ⟨_,(false),yeq,H,⟨by have:=HK1.out;first|omega|exact Nat.le_refl _⟩,⟨yka HO_5.out⟩,⟨yhb⟩⟩
   (first|rw [c6b0]|(simp only [i64_w,i32_w];rw [c6b0])|skip)
   replace H:=ybi H;obtain ⟨t104,A7,H⟩:=H
   try dsimp only at H
   cases t104
   ·replace H:=yff H
    replace H:=yam H
    go_wp2_with (first|(go_at_call 42;(with_reducible refine (spec_l1In.calls a0 2 4 false _ A7.out).mono ?_);rintro e w' ⟨rfl,⟨nd,rfl⟩⟩))
    go_meet
    case rel=>exact ⟨_,(false),yeq,H,⟨by have:=HK1.out;first|omega|exact Nat.le_refl _⟩,⟨yka HO_5.out⟩,⟨yhb⟩⟩
   replace H:=ytt H
   replace H:=ybi H;obtain ⟨t105,A9,H⟩:=H
   try dsimp only at H
   replace H:=yam H
   go_wp2_with (first|(go_at_call 42;(with_reducible refine (spec_l1In.calls a0 2 4 true _ A7.out).mono ?_);rintro e w' ⟨rfl,⟨nd,rfl⟩⟩)|(go_at_call 42;(with_reducible refine (spec_l1In.calls a1 0 (wrap64 ((wrap64 (2 * a0)) - 1)) t105 _ A9.out).mono ?_);rintro e w' ⟨rfl,⟨nd,rfl⟩⟩))
   go_meet
   case rel=>exact ⟨_,(t105),yeq,H,⟨by have:=HK1.out;first|omega|exact Nat.le_refl _⟩,⟨yka HO_5.out⟩,⟨yhb⟩⟩
  case rest =>
   clear HC5
   obtain ⟨kq,x21_4,rfl,HA,HJ4,HO_5,HB⟩:=hcut
   rcases kq with _|kj4
   ·exact absurd HA.out (by simp [spec_LineCells.j1])
   obtain ⟨H⟩:=HA
   simp only [spec_LineCells.j1] at H
   cases x21_4
   ·replace H:=yff H
    obtain rfl:=ysi H
    go_wp2
    go_ret
    exact ⟨_,yer,yka HO_5.out,yhb⟩
   replace H:=ytt H
   replace H:=yis H;obtain ⟨c11b0,H⟩ | ⟨c11b0,H⟩:=H
   ·replace H:=yig H;obtain ⟨c12,H⟩:=H
    have LMc12:=yam c12
    clear c12
    obtain ⟨y106,Ny106⟩:∃ y_:List Int,Aside0 (y_=(x5_1 ++ [wrap64 ((wrap64 (a1 * a0)) + x6_1)])):=⟨_,⟨rfl⟩⟩
    replace H:(spec_LineCells.l0 kj4 a0 a1 y106 (wrap64 (x6_1 + 1)))=some r:=yhn Ny106.out H
    replace H:=yam H
    go_wp2_with (first|((with_reducible refine gate_builtin (b:= .append) (xs:= #[.tmp 27,.tmp 33]) rfl ?_);at_builtin;refine Kd.R_append (Kd.int .i64) (w0:=w) w.heap.size rfl (.tmp 27) (.tmp 33) 22 3 (.int .i64 0) 8 rfl Try.underlying22 info3 rfl (by decide) (by omega) u5 x5_1 (wrap64 ((wrap64 (a1 * a0)) + x6_1)) [.int .i64 (wrap64 ((wrap64 (a1 * a0)) + x6_1))] (fun _=>True) (fun _=>False) rfl rfl ?aP (fun _ hk=>hk.elim) ?aF ?aO ?aB ?aS ?aL ?_;(case aP=>exact rfl);(case aB=>exact (yez HB.out));(case aF=>exact (fun _ _=>trivial));(case aO=>exact (Kd.Yz HO_5.out));(case aS=>exact (below_size (yez HB.out)));(case aL=>have:=LMc12.out;omega);intro v107 w13 ho hb hg hat;rw [← Ny106.out] at ho;replace HB:=yam (hb);have HO108:=yam (ho);clear HO_5;clear ho hb hg hat))
    go_roundg kj4
    case measure=>have:=HK1.out;have:=HJ4.out;omega
    case rel=>exact ⟨(y106),(wrap64 (x6_1 + 1)),yeq,H,⟨by have:=HK1.out;have:=HJ4.out;omega⟩,⟨yka HO108.out⟩,⟨yhb⟩⟩
   replace H:=yig H;obtain ⟨c14,H⟩:=H
   have LMc14:=yam c14
   clear c14
   obtain ⟨y109,Ny109⟩:∃ y_:List Int,Aside0 (y_=(x5_1 ++ [wrap64 ((wrap64 ((wrap64 (x6_1 * a0)) + a1)) - a0)])):=⟨_,⟨rfl⟩⟩
   replace H:(spec_LineCells.l0 kj4 a0 a1 y109 (wrap64 (x6_1 + 1)))=some r:=yhn Ny109.out H
   replace H:=yam H
   go_wp2_with (first|((with_reducible refine gate_builtin (b:= .append) (xs:= #[.tmp 35,.tmp 43]) rfl ?_);at_builtin;refine Kd.R_append (Kd.int .i64) (w0:=w) w.heap.size rfl (.tmp 35) (.tmp 43) 22 3 (.int .i64 0) 8 rfl Try.underlying22 info3 rfl (by decide) (by omega) u5 x5_1 (wrap64 ((wrap64 ((wrap64 (x6_1 * a0)) + a1)) - a0)) [.int .i64 (wrap64 ((wrap64 ((wrap64 (x6_1 * a0)) + a1)) - a0))] (fun _=>True) (fun _=>False) rfl rfl ?aP (fun _ hk=>hk.elim) ?aF ?aO ?aB ?aS ?aL ?_;(case aP=>exact rfl);(case aB=>exact (yez HB.out));(case aF=>exact (fun _ _=>trivial));(case aO=>exact (Kd.Yz HO_5.out));(case aS=>exact (below_size (yez HB.out)));(case aL=>have:=LMc14.out;omega);intro v110 w15 ho hb hg hat;rw [← Ny109.out] at ho;replace HB:=yam (hb);have HO111:=yam (ho);clear HO_5;clear ho hb hg hat))
   go_roundg kj4
   case measure=>have:=HK1.out;have:=HJ4.out;omega
   case rel=>exact ⟨(y109),(wrap64 (x6_1 + 1)),yeq,H,⟨by have:=HK1.out;have:=HJ4.out;omega⟩,⟨yka HO111.out⟩,⟨yhb⟩⟩
mutual
def spec_l2Clash.l0:Nat→List Int→Int→Int→Option (Bool)
 | 0,_,_,_=>none
 | k + 1,x0,x1,x5=>if x5 < (wrap64 (2 * x1)) then ((spec_LineCells.f k x1 x5).bind fun t112=>(spec_l2Clash.l1 k x0 x1 x5 t112 0 0)) else (some false)
def spec_l2Clash.l1:Nat→List Int→Int→Int→List Int→Int→Int→Option (Bool)
 | 0,_,_,_,_,_,_=>none
 | k + 1,x0,x1,x5,x6,x7,x8=>if x8 < (x6.length:Int) then (if 0≤x8 then (if 0≤(rd x6 x8) then (if (rd x6 x8) < (x0.length:Int) then (if (rd x0 (rd x6 x8)) > 0 then (if 0≤(rd x0 (rd x6 x8)) then (if (Int.tmod (shr .i64 x7 (rd x0 (rd x6 x8))) 2)=1 then (some true) else (spec_l2Clash.l1 k x0 x1 x5 x6 (Go.bits .or .i64 x7 (shl .i64 1 (rd x0 (rd x6 x8)))) (wrap64 (x8 + 1)))) else (none)) else (if 0≤(rd x0 (rd x6 x8)) then (spec_l2Clash.l1 k x0 x1 x5 x6 (Go.bits .or .i64 x7 (shl .i64 1 (rd x0 (rd x6 x8)))) (wrap64 (x8 + 1))) else (none))) else (none)) else (none)) else (none)) else (spec_l2Clash.l0 k x0 x1 (wrap64 (x5 + 1)))
end
def spec_l2Clash.f (k:Nat)(l0:List Int)(a1:Int):Option (Bool):=spec_l2Clash.l0 k l0 a1 0
theorem spec_l2Clash.calls (k:Nat)(A0:Option Addr)(c0:Nat)(l0:List Int)(a1:Int)(r:Bool)(w:World)(hr0:Kd.C (Kd.int .i64) w A0 l0.length l0)(hc0:l0.length≤c0)(h:spec_l2Clash.f k l0 a1=some r) :
  Calls Try.prog 71 #[.slice A0 l0.length c0,.int .i64 a1] w fun e w'=>e= .returned (.bool r)∧Below w.heap.size w w':=by
 have HR0:=yam hr0
 have HC0:=yam hc0
 clear hr0 hc0
 have HB:=yam (Below.refl w.heap.size w)
 unfold spec_l2Clash.f at h
 have H:=h
 clear h
 replace H:=yam H
 go_enter Try.func71,Try.ntmps71
 go_wp2
 go_loopg [5] k (fun kq v5 w'=>∃ (x5_1:Int),v5= .int .i64 x5_1∧Aside0 (spec_l2Clash.l0 kq l0 a1 x5_1=some r)∧Aside0 (kq≤k)∧Aside0 (Below w.heap.size w w'))
 case atStart=>exact ⟨(0),yeq,H,⟨Nat.le_refl _⟩,⟨yhb⟩⟩
 case round =>
  clear H
  obtain ⟨x5_1,rfl,HA,HK1,HB⟩:=hrel
  rcases gk with _|k1
  ·exact absurd HA.out (by simp [spec_l2Clash.l0])
  obtain ⟨H⟩:=HA
  simp only [spec_l2Clash.l0] at H
  replace H:=yis H;obtain ⟨c3b0,H⟩ | ⟨c3b0,H⟩:=H
  rotate_left
  ·obtain rfl:=ysi H
   go_wp2
   go_ret
   exact ⟨yer,yhb⟩
  replace H:=ybi H;obtain ⟨t112,A4,H⟩:=H
  try dsimp only at H
  replace H:=yam H
  go_wp2_with (first|(refine goesL_ (some 18) rfl rfl Try.func87 (by kernel_rfl) rfl #[.int .i64 a1,.int .i64 x5_1] rfl ymd ?_;(with_reducible refine (spec_LineCells.calls k1 a1 x5_1 t112 _ A4.out).mono ?_);rintro e w5 ⟨v113,rfl,ho0,hb⟩;refine ⟨_,rfl,?_⟩;have HO114:=yam (Kd.R_lower ho0 (below_size (yez HB.out)));replace HB:=yam (below_step (yez HB.out) hb);(try clear hb);(try clear ho0)))
  go_loopg [7,8] k1 (fun kq v7 v8 w'=>∃ (x7_2:Int) (x8_2:Int),v7= .int .i64 x7_2∧v8= .int .i64 x8_2∧Aside0 (spec_l2Clash.l1 kq l0 a1 x5_1 t112 x7_2 x8_2=some r)∧Aside0 (kq≤k1)∧Aside0 (Kd.R (Kd.int .i64) 3 w' w.heap.size (fun _=>True) v113 t112)∧Aside0 (Below w.heap.size w w'))
  case atStart=>exact ⟨(0),(0),yeq,yeq,H,⟨Nat.le_refl _⟩,⟨yka HO114.out⟩,⟨yhb⟩⟩
  case round =>
   clear H
   try clear c3b0
   obtain ⟨x7_2,x8_2,rfl,rfl,HA,HK2,HO_6,HB⟩:=hrel
   rcases gk with _|k2
   ·exact absurd HA.out (by simp [spec_l2Clash.l1])
   obtain ⟨H⟩:=HA
   simp only [spec_l2Clash.l1] at H
   replace H:=yis H;obtain ⟨c6b0,H⟩ | ⟨c6b0,H⟩:=H
   rotate_left
   ·replace H:=yam H
    obtain ⟨Ao21,co21,eo21⟩:=Kd.R_slice HO_6.out
    subst eo21
    go_wp2
    go_roundg k2
    case measure=>have:=HK1.out;have:=HK2.out;omega
    case rel=>exact ⟨(wrap64 (x5_1 + 1)),yeq,H,⟨by have:=HK1.out;have:=HK2.out;omega⟩,⟨yhb⟩⟩
   replace H:=yif H;obtain ⟨c7b0,H⟩:=H
   replace H:=yif H;obtain ⟨c8b0,H⟩:=H
   replace H:=yif H;obtain ⟨c9b0,H⟩:=H
   replace H:=yis H;obtain ⟨c10b0,H⟩ | ⟨c10b0,H⟩:=H
   rotate_left
   ·replace H:=yig H;obtain ⟨c18,H⟩:=H
    have c18b0:=eq_true c18
    have c18b1:decide (0≤(rd l0 (rd t112 x8_2)))=true:=decide_eq_true c18
    clear c18
    obtain ⟨ji19,hji19⟩:∃ j_:Int,(shl .i64 1 (rd l0 (rd t112 x8_2)))=j_:=⟨_,rfl⟩
    replace H:(spec_l2Clash.l1 k2 l0 a1 x5_1 t112 (Go.bits .or .i64 x7_2 (ji19)) (wrap64 (x8_2 + 1)))=some r:=by first|(rw [hji19] at H;exact H)|(simp only [hji19] at H ⊢;exact H)
    have hji19_:(IntKind.i64.wrap (1 * 2 ^ min (rd l0 (rd t112 x8_2)).toNat 64))=ji19:=hji19
    have hji19z:(rd l0 (rd t112 x8_2))≤64→(IntKind.i64.wrap (1 * 2 ^ (rd l0 (rd t112 x8_2)).toNat))=ji19:=shl_small hji19
    have hji19u:(IntKind.i64.wrap (2 ^ min (rd l0 (rd t112 x8_2)).toNat 64))=ji19:=by have h_:=hji19_;rw [Int.one_mul] at h_;exact h_
    have hji19v:(rd l0 (rd t112 x8_2))≤64→(IntKind.i64.wrap (2 ^ (rd l0 (rd t112 x8_2)).toNat))=ji19:=fun hle_=>by have h_:=hji19z hle_;rw [Int.one_mul] at h_;exact h_
    have hji19y:(wrap64 (1 * 2 ^ min (rd l0 (rd t112 x8_2)).toNat 64))=ji19:=(i64_w _).symm.trans hji19_
    have hji19x:(rd l0 (rd t112 x8_2))≤64→(wrap64 (1 * 2 ^ (rd l0 (rd t112 x8_2)).toNat))=ji19:=fun h_=>(i64_w _).symm.trans (hji19z h_)
    replace H:=yam H
    obtain ⟨Ao20,co20,eo20⟩:=Kd.R_slice HO_6.out
    subst eo20
    obtain ⟨ad115,e115,hx115_0,p115,q115⟩:=yat (Kd.Yr HO_6.out).2.2 x8_2
    cases e115
    obtain ⟨ad116,e116,hx116_0,p116,q116⟩:=yat HR0.out (rd t112 x8_2)
    cases e116
    replace hx116_0:=ybx HB.out hx116_0
    go_wp2
    go_roundg k2
    case measure=>have:=HK1.out;have:=HK2.out;omega
    case rel=>exact ⟨(Go.bits .or .i64 x7_2 (ji19)),(wrap64 (x8_2 + 1)),(by first|rfl|(simp;done)|(simp only [← hji19] <;> (first|rfl|simp))|(simp [*];done)),yeq,H,⟨by have:=HK1.out;have:=HK2.out;omega⟩,⟨yka HO_6.out⟩,⟨yhb⟩⟩
   replace H:=yig H;obtain ⟨c11,H⟩:=H
   have c11b0:=eq_true c11
   have c11b1:decide (0≤(rd l0 (rd t112 x8_2)))=true:=decide_eq_true c11
   clear c11
   obtain ⟨ji12,hji12⟩:∃ j_:Int,(shr .i64 x7_2 (rd l0 (rd t112 x8_2)))=j_:=⟨_,rfl⟩
   replace H:(if (Int.tmod (ji12) 2)=1 then (some true) else (spec_l2Clash.l1 k2 l0 a1 x5_1 t112 (Go.bits .or .i64 x7_2 (shl .i64 1 (rd l0 (rd t112 x8_2)))) (wrap64 (x8_2 + 1))))=some r:=by first|(rw [hji12] at H;exact H)|(simp only [hji12] at H ⊢;exact H)
   have hji12_:(x7_2 / 2 ^ min (rd l0 (rd t112 x8_2)).toNat 64)=ji12:=hji12
   have hji12z:(rd l0 (rd t112 x8_2))≤64→(x7_2 / 2 ^ (rd l0 (rd t112 x8_2)).toNat)=ji12:=shr_small hji12
   replace H:=yit H;obtain ⟨c13,H⟩ | ⟨c13,H⟩:=H
   ·have c13b0:((Int.tmod (ji12) 2) == 1)=true:=beq_iff_eq.mpr c13
    have c13b1:((Int.tmod (ji12) 2) != 1)=false:=bne_eq_false_iff_eq.mpr c13
    clear c13
    obtain rfl:=ysi H
    obtain ⟨Ao14,co14,eo14⟩:=Kd.R_slice HO_6.out
    subst eo14
    obtain ⟨ad115,e115,hx115_0,p115,q115⟩:=yat (Kd.Yr HO_6.out).2.2 x8_2
    cases e115
    obtain ⟨ad116,e116,hx116_0,p116,q116⟩:=yat HR0.out (rd t112 x8_2)
    cases e116
    replace hx116_0:=ybx HB.out hx116_0
    go_wp2
    go_ret
    exact ⟨by first|rfl|(simp [errW_none,errW_some] <;> rfl)|(simp only [← hji12];first|rfl|(simp [errW_none,errW_some] <;> rfl))|(simp [*,errW_none,errW_some] <;> rfl),yhb⟩
   have c13b0:((Int.tmod (ji12) 2) == 1)=false:=beq_eq_false_iff_ne.mpr c13
   have c13b1:((Int.tmod (ji12) 2) != 1)=true:=bne_iff_ne.mpr c13
   have c15b0:=eq_true (ydt:0≤(rd l0 (rd t112 x8_2)))
   obtain ⟨ji16,hji16⟩:∃ j_:Int,(shl .i64 1 (rd l0 (rd t112 x8_2)))=j_:=⟨_,rfl⟩
   replace H:(spec_l2Clash.l1 k2 l0 a1 x5_1 t112 (Go.bits .or .i64 x7_2 (ji16)) (wrap64 (x8_2 + 1)))=some r:=by first|(rw [hji16] at H;exact H)|(simp only [hji16] at H ⊢;exact H)
   have hji16_:(IntKind.i64.wrap (1 * 2 ^ min (rd l0 (rd t112 x8_2)).toNat 64))=ji16:=hji16
   have hji16z:(rd l0 (rd t112 x8_2))≤64→(IntKind.i64.wrap (1 * 2 ^ (rd l0 (rd t112 x8_2)).toNat))=ji16:=shl_small hji16
   have hji16u:(IntKind.i64.wrap (2 ^ min (rd l0 (rd t112 x8_2)).toNat 64))=ji16:=by have h_:=hji16_;rw [Int.one_mul] at h_;exact h_
   have hji16v:(rd l0 (rd t112 x8_2))≤64→(IntKind.i64.wrap (2 ^ (rd l0 (rd t112 x8_2)).toNat))=ji16:=fun hle_=>by have h_:=hji16z hle_;rw [Int.one_mul] at h_;exact h_
   have hji16y:(wrap64 (1 * 2 ^ min (rd l0 (rd t112 x8_2)).toNat 64))=ji16:=(i64_w _).symm.trans hji16_
   have hji16x:(rd l0 (rd t112 x8_2))≤64→(wrap64 (1 * 2 ^ (rd l0 (rd t112 x8_2)).toNat))=ji16:=fun h_=>(i64_w _).symm.trans (hji16z h_)
   replace H:=yam H
   obtain ⟨Ao17,co17,eo17⟩:=Kd.R_slice HO_6.out
   subst eo17
   obtain ⟨ad115,e115,hx115_0,p115,q115⟩:=yat (Kd.Yr HO_6.out).2.2 x8_2
   cases e115
   obtain ⟨ad116,e116,hx116_0,p116,q116⟩:=yat HR0.out (rd t112 x8_2)
   cases e116
   replace hx116_0:=ybx HB.out hx116_0
   go_wp2
   go_roundg k2
   case measure=>have:=HK1.out;have:=HK2.out;omega
   case rel=>exact ⟨(Go.bits .or .i64 x7_2 (ji16)),(wrap64 (x8_2 + 1)),(by first|rfl|(simp;done)|(simp only [← hji16] <;> (first|rfl|simp))|(simp [*];done)),yeq,H,⟨by have:=HK1.out;have:=HK2.out;omega⟩,⟨yka HO_6.out⟩,⟨yhb⟩⟩
def spec_MasksValid.l0:Nat→List Int→Int→Int→Option (Bool)
 | 0,_,_,_=>none
 | k + 1,x0,x1,x5=>if x5 < (x0.length:Int) then (if 0≤x5 then (if 0≤(wrap64 ((Go.bits .and .i64 x1 7) + 1)) then ((spec_l1In.f (rd x0 x5) 0 (wrap64 ((shl .i64 1 (wrap64 ((Go.bits .and .i64 x1 7) + 1))) - 2))).bind fun t336=>(if t336=true then (if (Int.tmod (rd x0 x5) 2)=0 then (spec_MasksValid.l0 k x0 x1 (wrap64 (x5 + 1))) else (some false)) else (some false))) else (none)) else (none)) else ((spec_l1In.f x1 2 4).bind fun t338=>(if t338=true then (some ((x0.length:Int) == (wrap64 (x1 * x1)))) else (some false)))
def spec_MasksValid.f (k:Nat)(l0:List Int)(a1:Int):Option (Bool):=spec_MasksValid.l0 k l0 a1 0
theorem spec_MasksValid.calls (k:Nat)(A0:Option Addr)(c0:Nat)(l0:List Int)(a1:Int)(r:Bool)(w:World)(hr0:Kd.C (Kd.int .i64) w A0 l0.length l0)(hc0:l0.length≤c0)(h:spec_MasksValid.f k l0 a1=some r) :
  Calls Try.prog 97 #[.slice A0 l0.length c0,.int .i64 a1] w fun e w'=>e= .returned (.bool r)∧Drawn0 w w':=by
 have HR0:=yam hr0
 have HC0:=yam hc0
 clear hr0 hc0
 unfold spec_MasksValid.f at h
 have H:=h
 clear h
 replace H:=yam H
 go_enter Try.func97,Try.ntmps97
 go_wp2
 repeat (go_quiet (fail);try go_wp2)
 go_loopg [5] k (fun kq v5 w'=>∃ (x5_1:Int),v5= .int .i64 x5_1∧Aside0 (spec_MasksValid.l0 kq l0 a1 x5_1=some r)∧Aside0 (kq≤k)∧Drawn0 w w')
 case atStart=>exact ⟨(0),yeq,H,⟨Nat.le_refl _⟩,by repeat (first|exact Drawn0.refl _|apply Drawn0.step)⟩
 case round =>
  clear H
  obtain ⟨x5_1,rfl,HA,HK1,⟨m1,rfl⟩⟩:=hrel
  rcases gk with _|k1
  ·exact absurd HA.out (by simp [spec_MasksValid.l0])
  obtain ⟨H⟩:=HA
  simp only [spec_MasksValid.l0] at H
  replace H:=yis H;obtain ⟨c3b0,H⟩ | ⟨c3b0,H⟩:=H
  rotate_left
  ·replace H:=ybi H;obtain ⟨t338,A11,H⟩:=H
   try dsimp only at H
   cases t338
   rotate_left
   ·replace H:=ytt H
    obtain rfl:=ysi H
    go_wp2_with (first|(go_at_call 42;(with_reducible refine (spec_l1In.calls a1 2 4 true _ A11.out).mono ?_);rintro e w' ⟨rfl,⟨nd,rfl⟩⟩;(try first|exact ⟨rfl,_,World.drewN_drewN _ _ _⟩|exact ⟨rfl,_,Eq.trans (World.drewN_drewN _ _ _) (congrArg (World.drewN _) (Nat.add_assoc _ _ _))⟩)))
    repeat (go_quiet (first|(go_at_call 42;(with_reducible refine (spec_l1In.calls a1 2 4 true _ A11.out).mono ?_);rintro e w' ⟨rfl,⟨nd,rfl⟩⟩;(try first|exact ⟨rfl,_,World.drewN_drewN _ _ _⟩|exact ⟨rfl,_,Eq.trans (World.drewN_drewN _ _ _) (congrArg (World.drewN _) (Nat.add_assoc _ _ _))⟩)));try go_wp2_with (first|(go_at_call 42;(with_reducible refine (spec_l1In.calls a1 2 4 true _ A11.out).mono ?_);rintro e w' ⟨rfl,⟨nd,rfl⟩⟩;(try first|exact ⟨rfl,_,World.drewN_drewN _ _ _⟩|exact ⟨rfl,_,Eq.trans (World.drewN_drewN _ _ _) (congrArg (World.drewN _) (Nat.add_assoc _ _ _))⟩))))
    go_ret
    exact ⟨yeq,by repeat (first|exact Drawn0.refl _|apply Drawn0.step)⟩
   replace H:=yff H
   obtain rfl:=ysi H
   go_wp2_with (first|(go_at_call 42;(with_reducible refine (spec_l1In.calls a1 2 4 false _ A11.out).mono ?_);rintro e w' ⟨rfl,⟨nd,rfl⟩⟩;(try first|exact ⟨rfl,_,World.drewN_drewN _ _ _⟩|exact ⟨rfl,_,Eq.trans (World.drewN_drewN _ _ _) (congrArg (World.drewN _) (Nat.add_assoc _ _ _))⟩)))
   repeat (go_quiet (first|(go_at_call 42;(with_reducible refine (spec_l1In.calls a1 2 4 false _ A11.out).mono ?_);rintro e w' ⟨rfl,⟨nd,rfl⟩⟩;(try first|exact ⟨rfl,_,World.drewN_drewN _ _ _⟩|exact ⟨rfl,_,Eq.trans (World.drewN_drewN _ _ _) (congrArg (World.drewN _) (Nat.add_assoc _ _ _))⟩)));try go_wp2_with (first|(go_at_call 42;(with_reducible refine (spec_l1In.calls a1 2 4 false _ A11.out).mono ?_);rintro e w' ⟨rfl,⟨nd,rfl⟩⟩;(try first|exact ⟨rfl,_,World.drewN_drewN _ _ _⟩|exact ⟨rfl,_,Eq.trans (World.drewN_drewN _ _ _) (congrArg (World.drewN _) (Nat.add_assoc _ _ _))⟩))))
   go_ret
   exact ⟨yeq,by repeat (first|exact Drawn0.refl _|apply Drawn0.step)⟩
  replace H:=yif H;obtain ⟨c4b0,H⟩:=H
  obtain ⟨ji5,hji5⟩:∃ j_:Int,(wrap64 ((Go.bits .and .i64 a1 7) + 1))=j_:=⟨_,rfl⟩
  replace H:(if 0≤(ji5) then ((spec_l1In.f (rd l0 x5_1) 0 (wrap64 ((shl .i64 1 (ji5)) - 2))).bind fun t336=>(if t336=true then (if (Int.tmod (rd l0 x5_1) 2)=0 then (spec_MasksValid.l0 k1 l0 a1 (wrap64 (x5_1 + 1))) else (some false)) else (some false))) else (none))=some r:=by first|(rw [hji5] at H;exact H)|(simp only [hji5] at H ⊢;exact H)
  have hji5w:(IntKind.i64.wrap ((Go.bits .and .i64 a1 7) + 1))=ji5:=(i64_w _).trans hji5
  replace H:=yig H;obtain ⟨c6,H⟩:=H
  have c6b0:=eq_true c6
  have c6b1:decide (0≤(ji5))=true:=decide_eq_true c6
  clear c6
  obtain ⟨ji7,hji7⟩:∃ j_:Int,(shl .i64 1 (ji5))=j_:=⟨_,rfl⟩
  replace H:((spec_l1In.f (rd l0 x5_1) 0 (wrap64 ((ji7) - 2))).bind fun t336=>(if t336=true then (if (Int.tmod (rd l0 x5_1) 2)=0 then (spec_MasksValid.l0 k1 l0 a1 (wrap64 (x5_1 + 1))) else (some false)) else (some false)))=some r:=by first|(rw [hji7] at H;exact H)|(simp only [hji7] at H ⊢;exact H)
  have hji7_:(IntKind.i64.wrap (1 * 2 ^ min (ji5).toNat 64))=ji7:=hji7
  have hji7z:(ji5)≤64→(IntKind.i64.wrap (1 * 2 ^ (ji5).toNat))=ji7:=shl_small hji7
  have hji7u:(IntKind.i64.wrap (2 ^ min (ji5).toNat 64))=ji7:=by have h_:=hji7_;rw [Int.one_mul] at h_;exact h_
  have hji7v:(ji5)≤64→(IntKind.i64.wrap (2 ^ (ji5).toNat))=ji7:=fun hle_=>by have h_:=hji7z hle_;rw [Int.one_mul] at h_;exact h_
  have hji7y:(wrap64 (1 * 2 ^ min (ji5).toNat 64))=ji7:=(i64_w _).symm.trans hji7_
  have hji7x:(ji5)≤64→(wrap64 (1 * 2 ^ (ji5).toNat))=ji7:=fun h_=>(i64_w _).symm.trans (hji7z h_)
  replace H:=ybi H;obtain ⟨t336,A8,H⟩:=H
  try dsimp only at H
  cases t336
  ·replace H:=yff H
   obtain rfl:=ysi H
   obtain ⟨ad335,e335,hx335_0,p335,q335⟩:=yat HR0.out x5_1
   cases e335
   have hwq0_:IntKind.i64.wrap ((ji7) - 2)=wrap64 ((ji7) - 2):=i64_w _
   go_wp2_with (first|(go_at_call 42;(with_reducible refine (spec_l1In.calls (rd l0 x5_1) 0 (wrap64 ((ji7) - 2)) false _ A8.out).mono ?_);rintro e w' ⟨rfl,⟨nd,rfl⟩⟩;(try first|exact ⟨rfl,_,World.drewN_drewN _ _ _⟩|exact ⟨rfl,_,Eq.trans (World.drewN_drewN _ _ _) (congrArg (World.drewN _) (Nat.add_assoc _ _ _))⟩)))
   repeat (go_quiet (first|(go_at_call 42;(with_reducible refine (spec_l1In.calls (rd l0 x5_1) 0 (wrap64 ((ji7) - 2)) false _ A8.out).mono ?_);rintro e w' ⟨rfl,⟨nd,rfl⟩⟩;(try first|exact ⟨rfl,_,World.drewN_drewN _ _ _⟩|exact ⟨rfl,_,Eq.trans (World.drewN_drewN _ _ _) (congrArg (World.drewN _) (Nat.add_assoc _ _ _))⟩)));try go_wp2_with (first|(go_at_call 42;(with_reducible refine (spec_l1In.calls (rd l0 x5_1) 0 (wrap64 ((ji7) - 2)) false _ A8.out).mono ?_);rintro e w' ⟨rfl,⟨nd,rfl⟩⟩;(try first|exact ⟨rfl,_,World.drewN_drewN _ _ _⟩|exact ⟨rfl,_,Eq.trans (World.drewN_drewN _ _ _) (congrArg (World.drewN _) (Nat.add_assoc _ _ _))⟩))))
   go_ret
   exact ⟨by first|rfl|(simp;done)|(simp only [← hji5,← hji7] <;> (first|rfl|simp))|(simp [*];done),by repeat (first|exact Drawn0.refl _|apply Drawn0.step)⟩
  replace H:=ytt H
  replace H:=yit H;obtain ⟨c10,H⟩ | ⟨c10,H⟩:=H
  rotate_left
  ·have c10b0:((Int.tmod (rd l0 x5_1) 2) == 0)=false:=beq_eq_false_iff_ne.mpr c10
   have c10b1:((Int.tmod (rd l0 x5_1) 2) != 0)=true:=bne_iff_ne.mpr c10
   obtain rfl:=ysi H
   obtain ⟨ad335,e335,hx335_0,p335,q335⟩:=yat HR0.out x5_1
   cases e335
   have hwq0_:IntKind.i64.wrap ((ji7) - 2)=wrap64 ((ji7) - 2):=i64_w _
   go_wp2_with (first|(go_at_call 42;(with_reducible refine (spec_l1In.calls (rd l0 x5_1) 0 (wrap64 ((ji7) - 2)) true _ A8.out).mono ?_);rintro e w' ⟨rfl,⟨nd,rfl⟩⟩;(try first|exact ⟨rfl,_,World.drewN_drewN _ _ _⟩|exact ⟨rfl,_,Eq.trans (World.drewN_drewN _ _ _) (congrArg (World.drewN _) (Nat.add_assoc _ _ _))⟩);have p337:0≤(x5_1:Int):=ydt;have q337:x5_1 < (l0.length:Int):=ydt;obtain ⟨ad337,e337,hx337_0⟩:=Kd.at_int HR0.out x5_1 p337 q337;obtain rfl:ad335=ad337:=(by injection e337);replace p337:=eq_true p337;replace q337:=eq_true q337))
   repeat (go_quiet (first|(go_at_call 42;(with_reducible refine (spec_l1In.calls (rd l0 x5_1) 0 (wrap64 ((ji7) - 2)) true _ A8.out).mono ?_);rintro e w' ⟨rfl,⟨nd,rfl⟩⟩;(try first|exact ⟨rfl,_,World.drewN_drewN _ _ _⟩|exact ⟨rfl,_,Eq.trans (World.drewN_drewN _ _ _) (congrArg (World.drewN _) (Nat.add_assoc _ _ _))⟩);have p337:0≤(x5_1:Int):=ydt;have q337:x5_1 < (l0.length:Int):=ydt;obtain ⟨ad337,e337,hx337_0⟩:=Kd.at_int HR0.out x5_1 p337 q337;obtain rfl:ad335=ad337:=(by injection e337);replace p337:=eq_true p337;replace q337:=eq_true q337));try go_wp2_with (first|(go_at_call 42;(with_reducible refine (spec_l1In.calls (rd l0 x5_1) 0 (wrap64 ((ji7) - 2)) true _ A8.out).mono ?_);rintro e w' ⟨rfl,⟨nd,rfl⟩⟩;(try first|exact ⟨rfl,_,World.drewN_drewN _ _ _⟩|exact ⟨rfl,_,Eq.trans (World.drewN_drewN _ _ _) (congrArg (World.drewN _) (Nat.add_assoc _ _ _))⟩);have p337:0≤(x5_1:Int):=ydt;have q337:x5_1 < (l0.length:Int):=ydt;obtain ⟨ad337,e337,hx337_0⟩:=Kd.at_int HR0.out x5_1 p337 q337;obtain rfl:ad335=ad337:=(by injection e337);replace p337:=eq_true p337;replace q337:=eq_true q337)))
   go_ret
   exact ⟨by first|rfl|(simp;done)|(simp only [← hji5,← hji7] <;> (first|rfl|simp))|(simp [*];done),by repeat (first|exact Drawn0.refl _|apply Drawn0.step)⟩
  have c10b0:((Int.tmod (rd l0 x5_1) 2) == 0)=true:=beq_iff_eq.mpr c10
  have c10b1:((Int.tmod (rd l0 x5_1) 2) != 0)=false:=bne_eq_false_iff_eq.mpr c10
  clear c10
  replace H:=yam H
  obtain ⟨ad335,e335,hx335_0,p335,q335⟩:=yat HR0.out x5_1
  cases e335
  have hwq0_:IntKind.i64.wrap ((ji7) - 2)=wrap64 ((ji7) - 2):=i64_w _
  go_wp2_with (first|(go_at_call 42;(with_reducible refine (spec_l1In.calls (rd l0 x5_1) 0 (wrap64 ((ji7) - 2)) true _ A8.out).mono ?_);rintro e w' ⟨rfl,⟨nd,rfl⟩⟩;(try first|exact ⟨rfl,_,World.drewN_drewN _ _ _⟩|exact ⟨rfl,_,Eq.trans (World.drewN_drewN _ _ _) (congrArg (World.drewN _) (Nat.add_assoc _ _ _))⟩);have p337:0≤(x5_1:Int):=ydt;have q337:x5_1 < (l0.length:Int):=ydt;obtain ⟨ad337,e337,hx337_0⟩:=Kd.at_int HR0.out x5_1 p337 q337;obtain rfl:ad335=ad337:=(by injection e337);replace p337:=eq_true p337;replace q337:=eq_true q337))
  repeat (go_quiet (first|(go_at_call 42;(with_reducible refine (spec_l1In.calls (rd l0 x5_1) 0 (wrap64 ((ji7) - 2)) true _ A8.out).mono ?_);rintro e w' ⟨rfl,⟨nd,rfl⟩⟩;(try first|exact ⟨rfl,_,World.drewN_drewN _ _ _⟩|exact ⟨rfl,_,Eq.trans (World.drewN_drewN _ _ _) (congrArg (World.drewN _) (Nat.add_assoc _ _ _))⟩);have p337:0≤(x5_1:Int):=ydt;have q337:x5_1 < (l0.length:Int):=ydt;obtain ⟨ad337,e337,hx337_0⟩:=Kd.at_int HR0.out x5_1 p337 q337;obtain rfl:ad335=ad337:=(by injection e337);replace p337:=eq_true p337;replace q337:=eq_true q337));try go_wp2_with (first|(go_at_call 42;(with_reducible refine (spec_l1In.calls (rd l0 x5_1) 0 (wrap64 ((ji7) - 2)) true _ A8.out).mono ?_);rintro e w' ⟨rfl,⟨nd,rfl⟩⟩;(try first|exact ⟨rfl,_,World.drewN_drewN _ _ _⟩|exact ⟨rfl,_,Eq.trans (World.drewN_drewN _ _ _) (congrArg (World.drewN _) (Nat.add_assoc _ _ _))⟩);have p337:0≤(x5_1:Int):=ydt;have q337:x5_1 < (l0.length:Int):=ydt;obtain ⟨ad337,e337,hx337_0⟩:=Kd.at_int HR0.out x5_1 p337 q337;obtain rfl:ad335=ad337:=(by injection e337);replace p337:=eq_true p337;replace q337:=eq_true q337)))
  go_roundg k1
  case measure=>have:=HK1.out;omega
  case rel=>exact ⟨(wrap64 (x5_1 + 1)),yeq,H,⟨by have:=HK1.out;omega⟩,by repeat (first|exact Drawn0.refl _|apply Drawn0.step)⟩
mutual
def spec_l4Holds.l0:Nat→List Int→Int→Int→Bool→Int→Int→List Int→Int→Option (Bool)
 | 0,_,_,_,_,_,_,_,_=>none
 | k + 1,x1,x5,x6,x7,x8,x340000,x340001,x340002=>if x8 < (x1.length:Int) then (if 0≤x8 then (spec_l4Holds.l1 k x1 (wrap64 (x5 + (rd x1 x8))) (wrap64 (x6 * (rd x1 x8))) x7 x8 0 x340000 x340001 x340002) else (none)) else (if x340000=1 then (some x7) else (if x340000=2 then (some (x5 == x340002)) else (if x340000=3 then (some (x6 == x340002)) else (if x340000=4 then (if 0 < (x1.length:Int) then (if 1 < (x1.length:Int) then (some (decide ((rd x1 0) < (rd x1 1)))) else (none)) else (none)) else (if 0 < (x1.length:Int) then (if 1 < (x1.length:Int) then (some ((mx (wrap64 ((rd x1 0) - (rd x1 1))) (wrap64 (-(wrap64 ((rd x1 0) - (rd x1 1)))))) == x340002)) else (none)) else (none))))))
def spec_l4Holds.l1:Nat→List Int→Int→Int→Bool→Int→Int→Int→List Int→Int→Option (Bool)
 | 0,_,_,_,_,_,_,_,_,_=>none
 | k + 1,x1,x5,x6,x7,x8,x9,x340000,x340001,x340002=>if x9 < x8 then (if x7=true then (if 0≤x9 then (if x9 < (x1.length:Int) then (if 0≤x8 then (if x8 < (x1.length:Int) then (spec_l4Holds.l1 k x1 x5 x6 ((rd x1 x9) != (rd x1 x8)) x8 (wrap64 (x9 + 1)) x340000 x340001 x340002) else (none)) else (none)) else (none)) else (none)) else (spec_l4Holds.l1 k x1 x5 x6 false x8 (wrap64 (x9 + 1)) x340000 x340001 x340002)) else (spec_l4Holds.l0 k x1 x5 x6 x7 (wrap64 (x8 + 1)) x340000 x340001 x340002)
end
def spec_l4Holds.f (k:Nat)(a0_0:Int)(l0_1:List Int)(a0_2:Int)(l1:List Int):Option (Bool):=spec_l4Holds.l0 k l1 0 1 true 0 a0_0 l0_1 a0_2
theorem spec_l4Holds.calls (k:Nat)(a0_0:Int)(A0_1:Option Addr)(c0_1:Nat)(l0_1:List Int)(a0_2:Int)(A1:Option Addr)(c1:Nat)(l1:List Int)(r:Bool)(w:World)(hr0_1:Kd.C (Kd.int .i64) w A0_1 l0_1.length l0_1)(hc0_1:l0_1.length≤c0_1)(hr1:Kd.C (Kd.int .i64) w A1 l1.length l1)(hc1:l1.length≤c1)(h:spec_l4Holds.f k a0_0 l0_1 a0_2 l1=some r) :
  Calls Try.prog 99 #[.agg #[.int .i64 a0_0,.slice A0_1 l0_1.length c0_1,.int .i64 a0_2],.slice A1 l1.length c1] w fun e w'=>e= .returned (.bool r)∧Below w.heap.size w w':=by
 have hu73:=Try.underlying73
 have HR0_1:=yam hr0_1
 have HC0_1:=yam hc0_1
 clear hr0_1 hc0_1
 have HR1:=yam hr1
 have HC1:=yam hc1
 clear hr1 hc1
 have HB:=yam (Below.refl w.heap.size w)
 unfold spec_l4Holds.f at h
 have H:=h
 clear h
 replace H:=yam H
 go_enter Try.func99,Try.ntmps99
 go_wp2_with (first|(refine ybe 2 #[.int .i64 a0_0,.slice A0_1 l0_1.length c0_1,.int .i64 a0_2] 73 ?_;intro gb339 hg w3 hbox hb;have BK339:=yam (hbox);have GW339:=yam ((by rw [hg];exact (below_size (yez HB.out)):w.heap.size≤gb339));replace HB:=yam (below_step (yez HB.out) hb);have GE339:=GW339;clear hb hbox hg))
 repeat (go_quiet (first|(refine ybe 2 #[.int .i64 a0_0,.slice A0_1 l0_1.length c0_1,.int .i64 a0_2] 73 ?_;intro gb339 hg w3 hbox hb;have BK339:=yam (hbox);have GW339:=yam ((by rw [hg];exact (below_size (yez HB.out)):w.heap.size≤gb339));replace HB:=yam (below_step (yez HB.out) hb);have GE339:=GW339;clear hb hbox hg));try go_wp2_with (first|(refine ybe 2 #[.int .i64 a0_0,.slice A0_1 l0_1.length c0_1,.int .i64 a0_2] 73 ?_;intro gb339 hg w3 hbox hb;have BK339:=yam (hbox);have GW339:=yam ((by rw [hg];exact (below_size (yez HB.out)):w.heap.size≤gb339));replace HB:=yam (below_step (yez HB.out) hb);have GE339:=GW339;clear hb hbox hg)))
 go_loopg [5,6,7,8] k (fun kq v5 v6 v7 v8 w'=>∃ (x5_1:Int) (x6_1:Int) (x7_1:Bool) (x8_1:Int),v5= .int .i64 x5_1∧v6= .int .i64 x6_1∧v7= .bool x7_1∧v8= .int .i64 x8_1∧Aside0 (spec_l4Holds.l0 kq l1 x5_1 x6_1 x7_1 x8_1 a0_0 l0_1 a0_2=some r)∧Aside0 (kq≤k)∧Aside0 (w'.heap[gb339]?=some (.cells #[.int .i64 a0_0,(.slice A0_1 l0_1.length c0_1),.int .i64 a0_2] 73 (0,0)))∧Aside0 (Below w.heap.size w w'))
 case atStart=>exact ⟨(0),(1),(true),(0),yeq,yeq,yeq,yeq,H,⟨Nat.le_refl _⟩,⟨ybk BK339.out⟩,⟨yhb⟩⟩
 case round =>
  clear H
  try clear c1
  obtain ⟨x5_1,x6_1,x7_1,x8_1,rfl,rfl,rfl,rfl,HA,HK1,BK339,HB⟩:=hrel
  rcases gk with _|k1
  ·exact absurd HA.out (by simp [spec_l4Holds.l0])
  obtain ⟨H⟩:=HA
  simp only [spec_l4Holds.l0] at H
  replace H:=yis H;obtain ⟨c4b0,H⟩ | ⟨c4b0,H⟩:=H
  ·replace H:=yif H;obtain ⟨c5b0,H⟩:=H
   replace H:=yam H
   obtain ⟨ad340,e340,hx340_0,p340,q340⟩:=yat HR1.out x8_1
   cases e340
   replace hx340_0:=ybx HB.out hx340_0
   obtain ⟨ad341,e341,hx341_0,p341,q341⟩:=yat HR1.out x8_1
   obtain rfl:ad340=ad341:=(by injection e341)
   replace hx341_0:=ybx HB.out hx341_0
   go_wp2
   repeat (go_quiet (fail);try go_wp2)
   go_loopg [7,9] k1 (fun kq v7 v9 w'=>∃ (x7_2:Bool) (x9_2:Int),v7= .bool x7_2∧v9= .int .i64 x9_2∧Aside0 (spec_l4Holds.l1 kq l1 (wrap64 (x5_1 + (rd l1 x8_1))) (wrap64 (x6_1 * (rd l1 x8_1))) x7_2 x8_1 x9_2 a0_0 l0_1 a0_2=some r)∧Aside0 (kq≤k1)∧Aside0 (w'.heap[gb339]?=some (.cells #[.int .i64 a0_0,(.slice A0_1 l0_1.length c0_1),.int .i64 a0_2] 73 (0,0)))∧Aside0 (Below w.heap.size w w'))
   case atStart=>exact ⟨(x7_1),(0),yeq,yeq,H,⟨Nat.le_refl _⟩,⟨ybk BK339.out⟩,⟨yhb⟩⟩
   case round =>
    clear H
    try clear c4b0
    try clear c5b0
    try clear hx340_0
    try clear hx341_0
    try clear p340
    try clear p341
    try clear q340
    try clear q341
    obtain ⟨x7_2,x9_2,rfl,rfl,HA,HK2,BK339,HB⟩:=hrel
    rcases gk with _|k2
    ·exact absurd HA.out (by simp [spec_l4Holds.l1])
    obtain ⟨H⟩:=HA
    simp only [spec_l4Holds.l1] at H
    replace H:=yis H;obtain ⟨c6b0,H⟩ | ⟨c6b0,H⟩:=H
    rotate_left
    ·replace H:=yam H
     go_wp2
     repeat (go_quiet (fail);try go_wp2)
     go_roundg k2
     case measure=>have:=HK1.out;have:=HK2.out;omega
     case rel=>exact ⟨((wrap64 (x5_1 + (rd l1 x8_1)))),((wrap64 (x6_1 * (rd l1 x8_1)))),(x7_2),(wrap64 (x8_1 + 1)),yeq,yeq,yeq,yeq,H,⟨by have:=HK1.out;have:=HK2.out;omega⟩,⟨ybk BK339.out⟩,⟨yhb⟩⟩
    cases x7_2
    ·replace H:=yff H
     replace H:=yam H
     go_wp2
     repeat (go_quiet (fail);try go_wp2)
     go_roundg k2
     case measure=>have:=HK1.out;have:=HK2.out;omega
     case rel=>exact ⟨(false),(wrap64 (x9_2 + 1)),yeq,yeq,H,⟨by have:=HK1.out;have:=HK2.out;omega⟩,⟨ybk BK339.out⟩,⟨yhb⟩⟩
    replace H:=ytt H
    replace H:=yif H;obtain ⟨c8b0,H⟩:=H
    replace H:=yif H;obtain ⟨c9b0,H⟩:=H
    replace H:=yif H;obtain ⟨c10b0,H⟩:=H
    replace H:=yif H;obtain ⟨c11b0,H⟩:=H
    replace H:=yam H
    obtain ⟨ad342,e342,hx342_0,p342,q342⟩:=yat HR1.out x9_2
    obtain rfl:ad340=ad342:=(by injection e342)
    replace hx342_0:=ybx HB.out hx342_0
    obtain ⟨ad343,e343,hx343_0,p343,q343⟩:=yat HR1.out x8_1
    obtain rfl:ad340=ad343:=(by injection e343)
    replace hx343_0:=ybx HB.out hx343_0
    go_wp2
    repeat (go_quiet (fail);try go_wp2)
    go_roundg k2
    case measure=>have:=HK1.out;have:=HK2.out;omega
    case rel=>exact ⟨(((rd l1 x9_2) != (rd l1 x8_1))),(wrap64 (x9_2 + 1)),yeq,yeq,H,⟨by have:=HK1.out;have:=HK2.out;omega⟩,⟨ybk BK339.out⟩,⟨yhb⟩⟩
  replace H:=yit H;obtain ⟨c12,H⟩ | ⟨c12,H⟩:=H
  ·have c12b0:(a0_0 == 1)=true:=beq_iff_eq.mpr c12
   have c12b1:(a0_0 != 1)=false:=bne_eq_false_iff_eq.mpr c12
   clear c12
   obtain rfl:=ysi H
   obtain ⟨hcz13_0,hcz13_1,hcz13_2,hfz13_0,hfz13_1,hfz13_2⟩:=ybc BK339.out
   go_wp2
   repeat (go_quiet (fail);try go_wp2)
   go_ret
   exact ⟨yer,yhb⟩
  have c12b0:(a0_0 == 1)=false:=beq_eq_false_iff_ne.mpr c12
  have c12b1:(a0_0 != 1)=true:=bne_iff_ne.mpr c12
  replace H:=yit H;obtain ⟨c14,H⟩ | ⟨c14,H⟩:=H
  ·have c14b0:(a0_0 == 2)=true:=beq_iff_eq.mpr c14
   have c14b1:(a0_0 != 2)=false:=bne_eq_false_iff_eq.mpr c14
   clear c14
   obtain rfl:=ysi H
   obtain ⟨hcz15_0,hcz15_1,hcz15_2,hfz15_0,hfz15_1,hfz15_2⟩:=ybc BK339.out
   go_wp2
   repeat (go_quiet (fail);try go_wp2)
   go_ret
   exact ⟨yer,yhb⟩
  have c14b0:(a0_0 == 2)=false:=beq_eq_false_iff_ne.mpr c14
  have c14b1:(a0_0 != 2)=true:=bne_iff_ne.mpr c14
  replace H:=yit H;obtain ⟨c16,H⟩ | ⟨c16,H⟩:=H
  ·have c16b0:(a0_0 == 3)=true:=beq_iff_eq.mpr c16
   have c16b1:(a0_0 != 3)=false:=bne_eq_false_iff_eq.mpr c16
   clear c16
   obtain rfl:=ysi H
   obtain ⟨hcz17_0,hcz17_1,hcz17_2,hfz17_0,hfz17_1,hfz17_2⟩:=ybc BK339.out
   go_wp2
   repeat (go_quiet (fail);try go_wp2)
   go_ret
   exact ⟨yer,yhb⟩
  have c16b0:(a0_0 == 3)=false:=beq_eq_false_iff_ne.mpr c16
  have c16b1:(a0_0 != 3)=true:=bne_iff_ne.mpr c16
  replace H:=yit H;obtain ⟨c18,H⟩ | ⟨c18,H⟩:=H
  ·have c18b0:(a0_0 == 4)=true:=beq_iff_eq.mpr c18
   have c18b1:(a0_0 != 4)=false:=bne_eq_false_iff_eq.mpr c18
   clear c18
   replace H:=yig H;obtain ⟨c19,H⟩:=H
   have c19b0:decide (0 < (l1.length:Int))=true:=decide_eq_true c19
   have c19b1:decide (0 < l1.length)=true:=decide_eq_true (by omega)
   clear c19
   replace H:=yig H;obtain ⟨c20,H⟩:=H
   have c20b0:decide (1 < (l1.length:Int))=true:=decide_eq_true c20
   have c20b1:decide (1 < l1.length)=true:=decide_eq_true (by omega)
   clear c20
   obtain rfl:=ysi H
   obtain ⟨hcz21_0,hcz21_1,hcz21_2,hfz21_0,hfz21_1,hfz21_2⟩:=ybc BK339.out
   have p344:0≤(0:Int):=(by omega)
   have q344:0 < (l1.length:Int):=ydt
   obtain ⟨ad344,e344,hx344_0⟩:=Kd.at_int HR1.out 0 p344 q344
   cases e344
   have qi344:(0 < l1.length)=True:=eq_true (by omega)
   (try rw [show ((0:Int)).toNat=0 from rfl] at hx344_0)
   (try rw [Addr.add_zero'] at hx344_0)
   replace hx344_0:=ybx HB.out hx344_0
   replace p344:=eq_true p344
   replace q344:=eq_true q344
   have p345:0≤(1:Int):=(by omega)
   have q345:1 < (l1.length:Int):=ydt
   obtain ⟨ad345,e345,hx345_0⟩:=Kd.at_int HR1.out 1 p345 q345
   obtain rfl:ad344=ad345:=(by injection e345)
   (try simp only [show (1:Int).toNat=1 from rfl,Nat.reduceMul,Nat.reduceEqDiff,Go.Addr.add,↓reduceIte] at hx345_0)
   have qi345:(1 < l1.length)=True:=eq_true (by omega)
   (try rw [show ((1:Int)).toNat=1 from rfl] at hx345_0)
   replace hx345_0:=ybx HB.out hx345_0
   replace p345:=eq_true p345
   replace q345:=eq_true q345
   go_wp2
   repeat (go_quiet (fail);try go_wp2)
   go_ret
   exact ⟨yer,yhb⟩
  have c18b0:(a0_0 == 4)=false:=beq_eq_false_iff_ne.mpr c18
  have c18b1:(a0_0 != 4)=true:=bne_iff_ne.mpr c18
  replace H:=yit H;obtain ⟨c22,H⟩ | ⟨c22,H⟩:=H
  rotate_left
  ·exact absurd H (by simp)
  have c22b0:decide (0 < (l1.length:Int))=true:=decide_eq_true c22
  have c22b1:decide (0 < l1.length)=true:=decide_eq_true (by omega)
  clear c22
  replace H:=yig H;obtain ⟨c23,H⟩:=H
  have c23b0:decide (1 < (l1.length:Int))=true:=decide_eq_true c23
  have c23b1:decide (1 < l1.length)=true:=decide_eq_true (by omega)
  clear c23
  obtain ⟨ji24,hji24⟩:∃ j_:Int,(mx (wrap64 ((rd l1 0) - (rd l1 1))) (wrap64 (-(wrap64 ((rd l1 0) - (rd l1 1))))))=j_:=⟨_,rfl⟩
  replace H:(some ((ji24) == a0_2))=some r:=by first|(rw [hji24] at H;exact H)|(simp only [hji24] at H ⊢;exact H)
  have hji24_:(if (wrap64 ((rd l1 0) - (rd l1 1))) < (wrap64 (-(wrap64 ((rd l1 0) - (rd l1 1))))) then (wrap64 (-(wrap64 ((rd l1 0) - (rd l1 1))))) else (wrap64 ((rd l1 0) - (rd l1 1))))=ji24:=hji24
  obtain rfl:=ysi H
  obtain ⟨hcz25_0,hcz25_1,hcz25_2,hfz25_0,hfz25_1,hfz25_2⟩:=ybc BK339.out
  have p346:0≤(0:Int):=(by omega)
  have q346:0 < (l1.length:Int):=ydt
  obtain ⟨ad346,e346,hx346_0⟩:=Kd.at_int HR1.out 0 p346 q346
  cases e346
  have qi346:(0 < l1.length)=True:=eq_true (by omega)
  (try rw [show ((0:Int)).toNat=0 from rfl] at hx346_0)
  (try rw [Addr.add_zero'] at hx346_0)
  replace hx346_0:=ybx HB.out hx346_0
  replace p346:=eq_true p346
  replace q346:=eq_true q346
  have p347:0≤(1:Int):=(by omega)
  have q347:1 < (l1.length:Int):=ydt
  obtain ⟨ad347,e347,hx347_0⟩:=Kd.at_int HR1.out 1 p347 q347
  obtain rfl:ad346=ad347:=(by injection e347)
  (try simp only [show (1:Int).toNat=1 from rfl,Nat.reduceMul,Nat.reduceEqDiff,Go.Addr.add,↓reduceIte] at hx347_0)
  have qi347:(1 < l1.length)=True:=eq_true (by omega)
  (try rw [show ((1:Int)).toNat=1 from rfl] at hx347_0)
  replace hx347_0:=ybx HB.out hx347_0
  replace p347:=eq_true p347
  replace q347:=eq_true q347
  go_wp2
  repeat (go_quiet (fail);try go_wp2)
  go_ret
  exact ⟨by first|rfl|(simp [errW_none,errW_some] <;> rfl)|(simp only [← hji24];first|rfl|(simp [errW_none,errW_some] <;> rfl))|(simp [*,errW_none,errW_some] <;> rfl),yhb⟩
mutual
def spec_MaskValues.l0:Nat→Int→List Int→Int→Option (List Int)
 | 0,_,_,_=>none
 | k + 1,x0,x3,x4=>if x4≤4 then ((spec_l1In.f x0 0 30).bind fun t351=>(if t351=true then (spec_MaskValues.j1 k x0 x3 x4 ((Int.tmod x0 2) == 0)) else (spec_MaskValues.j1 k x0 x3 x4 false))) else (spec_MaskValues.j1 k x0 x3 x4 false)
def spec_MaskValues.j1:Nat→Int→List Int→Int→Bool→Option (List Int)
 | 0,_,_,_,_=>none
 | k + 1,x0,x3,x4,x16=>if x16=true then (if 0≤x4 then (if (Int.tmod (shr .i64 x0 x4) 2)=1 then (if x3.length < 17592186044416 then (spec_MaskValues.l0 k x0 (x3 ++ [x4]) (wrap64 (x4 + 1))) else (none)) else (spec_MaskValues.l0 k x0 x3 (wrap64 (x4 + 1)))) else (none)) else (some x3)
end
def spec_MaskValues.f (k:Nat)(a0:Int):Option (List Int):=spec_MaskValues.l0 k a0 (([]:List Int)) 1
theorem spec_MaskValues.mono_l:∀ k,(∀ y0 y1 y2,LeO (spec_MaskValues.l0 k y0 y1 y2) (spec_MaskValues.l0 (k + 1) y0 y1 y2))∧(∀ y0 y1 y2 y3,LeO (spec_MaskValues.j1 k y0 y1 y2 y3) (spec_MaskValues.j1 (k + 1) y0 y1 y2 y3))
 | 0=>⟨fun _ _ _ r h=>by simp [spec_MaskValues.l0] at h,fun _ _ _ _ r h=>by simp [spec_MaskValues.j1] at h⟩
 | k + 1=>by
  obtain ⟨ih0,ih1⟩:=spec_MaskValues.mono_l k
  refine ⟨?_,?_⟩
  ·intro y0 y1 y2
   unfold spec_MaskValues.l0
   repeat' first
   | (with_reducible exact ih0 _ _ _)
   | (with_reducible exact ih1 _ _ _ _)
   | (with_reducible exact LeO.refl _)
   | (with_reducible exact LeO.none _)
   | (with_reducible refine LeO.ite ?_ ?_)
   | (with_reducible refine LeO.bind ?_ (fun _=>?_))
   | exact ih0 _ _ _
   | exact ih1 _ _ _ _
   | exact LeO.none _
   | refine LeO.ite ?_ ?_
   | refine LeO.bind ?_ (fun _=>?_)
  ·intro y0 y1 y2 y3
   unfold spec_MaskValues.j1
   repeat' first
   | (with_reducible exact ih0 _ _ _)
   | (with_reducible exact ih1 _ _ _ _)
   | (with_reducible exact LeO.refl _)
   | (with_reducible exact LeO.none _)
   | (with_reducible refine LeO.ite ?_ ?_)
   | (with_reducible refine LeO.bind ?_ (fun _=>?_))
   | exact ih0 _ _ _
   | exact ih1 _ _ _ _
   | exact LeO.none _
   | refine LeO.ite ?_ ?_
   | refine LeO.bind ?_ (fun _=>?_)
theorem spec_MaskValues.mono:∀ a0 k,LeO (spec_MaskValues.f k a0) (spec_MaskValues.f (k + 1) a0):=by
 intro a0 k
 obtain ⟨ih0,ih1⟩:=spec_MaskValues.mono_l k
 unfold spec_MaskValues.f
 repeat' first
   | (with_reducible exact ih0 _ _ _)
   | (with_reducible exact ih1 _ _ _ _)
   | (with_reducible exact LeO.refl _)
   | (with_reducible exact LeO.none _)
   | (with_reducible refine LeO.ite ?_ ?_)
   | (with_reducible refine LeO.bind ?_ (fun _=>?_))
   | exact ih0 _ _ _
   | exact ih1 _ _ _ _
   | exact LeO.none _
   | refine LeO.ite ?_ ?_
   | refine LeO.bind ?_ (fun _=>?_)
theorem spec_MaskValues.calls (k:Nat)(a0:Int)(r:List Int)(w:World)(h:spec_MaskValues.f k a0=some r) :
  Calls Try.prog 100 #[.int .i64 a0] w fun e w'=>∃ v0_:Value,e= .returned (v0_)∧Kd.R (Kd.int .i64) 3 w' w.heap.size (fun _=>True) v0_ r∧Below w.heap.size w w':=by
 have HB:=yam (Below.refl w.heap.size w)
 unfold spec_MaskValues.f at h
 have H:=h
 clear h
 obtain ⟨y348,Ny348⟩:∃ y_:List Int,Aside0 (y_=(([]:List Int))):=⟨_,⟨rfl⟩⟩
 replace H:(spec_MaskValues.l0 k a0 y348 1)=some r:=yhn Ny348.out H
 replace H:=yam H
 go_enter Try.func100,Try.ntmps100
 go_wp2_with (first|((with_reducible refine gate_dst (N:=5) rfl ?_);refine Kd.R_lit (Kd.int .i64) _ 3 ?hg (N:=5) ?hd (xs:=([]:List Int)) (inner:=[]) (ok:=fun _=>True) (okp:=fun _=>True) ?hr ?hp (fun _ hk=>hk) trivial (Below.refl _ _) (Nat.le_refl _) (by simp) ?_;(case hd=>rfl);(case hg=>rfl);(case hr=>first|(go_simp;done)|(go_simp;rfl));(case hp=>exact (Reps.none _ _));intro v349 w2 ho3 hb hg_ hnew_;clear hg_ hnew_;(first|rw [← Ny348.out] at ho3|(simp only [Int.reduceToNat] at ho3;rw [← Ny348.out] at ho3));have HO350:=yam (Kd.R_lower ho3 (below_size (yez HB.out)));replace HB:=yam (below_step (yez HB.out) hb);clear hb ho3))
 go_loopg [3,4] k (fun kq v3 v4 w'=>∃ (x3_1:List Int) (x4_1:Int),v4= .int .i64 x4_1∧Aside0 (spec_MaskValues.l0 kq a0 x3_1 x4_1=some r)∧Aside0 (kq≤k)∧Aside0 (Kd.R (Kd.int .i64) 3 w' w.heap.size (fun _=>True) v3 x3_1)∧Aside0 (Below w.heap.size w w'))
 case atStart=>exact ⟨(y348),(1),yeq,H,⟨Nat.le_refl _⟩,⟨yka HO350.out⟩,⟨yhb⟩⟩
 case round =>
  clear H
  obtain ⟨x3_1,x4_1,rfl,HA,HK1,HO_3,HB⟩:=hrel
  rcases gk with _|k1
  ·exact absurd HA.out (by simp [spec_MaskValues.l0])
  obtain ⟨H⟩:=HA
  simp only [spec_MaskValues.l0] at H
  have HC4:=yam H
  clear H
  go_upto_region 3 with (fail)
  go_cut [16] (fun v16 wc=>∃ (kq:Nat) (x16_3:Bool),v16= .bool x16_3∧Aside0 (spec_MaskValues.j1 kq a0 x3_1 x4_1 x16_3=some r)∧Aside0 (kq≤k1)∧Aside0 (Kd.R (Kd.int .i64) 3 wc w.heap.size (fun _=>True) u3 x3_1)∧Aside0 (Below w.heap.size w wc))
  case first =>
   have H:=HC4.out
   clear HC4
   replace H:=yis H;obtain ⟨c5b0,H⟩ | ⟨c5b0,H⟩:=H
   rotate_left
   ·(first|rw [c5b0]|(simp only [i64_w,i32_w];rw [c5b0])|skip)
    replace H:=yam H
    go_wp2
    go_meet
    case rel=>exact ⟨_,(false),yeq,H,⟨by have:=HK1.out;first|omega|exact Nat.le_refl _⟩,⟨yka HO_3.out⟩,⟨yhb⟩⟩
   (first|rw [c5b0]|(simp only [i64_w,i32_w];rw [c5b0])|skip)
   replace H:=ybi H;obtain ⟨t351,A6,H⟩:=H
   try dsimp only at H
   cases t351
   rotate_left
   ·replace H:=ytt H
    replace H:=yam H
    go_wp2_with (first|(go_at_call 42;(with_reducible refine (spec_l1In.calls a0 0 30 true _ A6.out).mono ?_);rintro e w' ⟨rfl,⟨nd,rfl⟩⟩))
    go_meet
    case rel=>exact ⟨_,(((Int.tmod a0 2) == 0)),yeq,H,⟨by have:=HK1.out;first|omega|exact Nat.le_refl _⟩,⟨yka HO_3.out⟩,⟨yhb⟩⟩
   replace H:=yff H
   replace H:=yam H
   go_wp2_with (first|(go_at_call 42;(with_reducible refine (spec_l1In.calls a0 0 30 false _ A6.out).mono ?_);rintro e w' ⟨rfl,⟨nd,rfl⟩⟩))
   go_meet
   case rel=>exact ⟨_,(false),yeq,H,⟨by have:=HK1.out;first|omega|exact Nat.le_refl _⟩,⟨yka HO_3.out⟩,⟨yhb⟩⟩
  case rest =>
   clear HC4
   obtain ⟨kq,x16_3,rfl,HA,HJ3,HO_3,HB⟩:=hcut
   rcases kq with _|kj3
   ·exact absurd HA.out (by simp [spec_MaskValues.j1])
   obtain ⟨H⟩:=HA
   simp only [spec_MaskValues.j1] at H
   cases x16_3
   ·replace H:=yff H
    obtain rfl:=ysi H
    go_wp2
    go_ret
    exact ⟨_,yer,yka HO_3.out,yhb⟩
   replace H:=ytt H
   replace H:=yig H;obtain ⟨c9,H⟩:=H
   have c9b0:=eq_true c9
   have c9b1:decide (0≤x4_1)=true:=decide_eq_true c9
   clear c9
   obtain ⟨ji10,hji10⟩:∃ j_:Int,(shr .i64 a0 x4_1)=j_:=⟨_,rfl⟩
   replace H:(if (Int.tmod (ji10) 2)=1 then (if x3_1.length < 17592186044416 then (spec_MaskValues.l0 kj3 a0 (x3_1 ++ [x4_1]) (wrap64 (x4_1 + 1))) else (none)) else (spec_MaskValues.l0 kj3 a0 x3_1 (wrap64 (x4_1 + 1))))=some r:=by first|(rw [hji10] at H;exact H)|(simp only [hji10] at H ⊢;exact H)
   have hji10_:(a0 / 2 ^ min x4_1.toNat 64)=ji10:=hji10
   have hji10z:x4_1≤64→(a0 / 2 ^ x4_1.toNat)=ji10:=shr_small hji10
   replace H:=yit H;obtain ⟨c11,H⟩ | ⟨c11,H⟩:=H
   rotate_left
   ·have c11b0:((Int.tmod (ji10) 2) == 1)=false:=beq_eq_false_iff_ne.mpr c11
    have c11b1:((Int.tmod (ji10) 2) != 1)=true:=bne_iff_ne.mpr c11
    replace H:=yam H
    go_wp2
    go_roundg kj3
    case measure=>have:=HK1.out;have:=HJ3.out;omega
    case rel=>exact ⟨(x3_1),(wrap64 (x4_1 + 1)),yeq,H,⟨by have:=HK1.out;have:=HJ3.out;omega⟩,⟨yka HO_3.out⟩,⟨yhb⟩⟩
   have c11b0:((Int.tmod (ji10) 2) == 1)=true:=beq_iff_eq.mpr c11
   have c11b1:((Int.tmod (ji10) 2) != 1)=false:=bne_eq_false_iff_eq.mpr c11
   clear c11
   replace H:=yig H;obtain ⟨c12,H⟩:=H
   have LMc12:=yam c12
   clear c12
   obtain ⟨y352,Ny352⟩:∃ y_:List Int,Aside0 (y_=(x3_1 ++ [x4_1])):=⟨_,⟨rfl⟩⟩
   replace H:(spec_MaskValues.l0 kj3 a0 y352 (wrap64 (x4_1 + 1)))=some r:=yhn Ny352.out H
   replace H:=yam H
   go_wp2_with (first|((with_reducible refine gate_builtin (b:= .append) (xs:= #[.tmp 24,.tmp 26]) rfl ?_);at_builtin;refine Kd.R_append (Kd.int .i64) (w0:=w) w.heap.size rfl (.tmp 24) (.tmp 26) 22 3 (.int .i64 0) 8 rfl Try.underlying22 info3 rfl (by decide) (by omega) u3 x3_1 x4_1 [.int .i64 x4_1] (fun _=>True) (fun _=>False) rfl rfl ?aP (fun _ hk=>hk.elim) ?aF ?aO ?aB ?aS ?aL ?_;(case aP=>exact rfl);(case aB=>exact (yez HB.out));(case aF=>exact (fun _ _=>trivial));(case aO=>exact (Kd.Yz HO_3.out));(case aS=>exact (below_size (yez HB.out)));(case aL=>have:=LMc12.out;omega);intro v353 w13 ho hb hg hat;rw [← Ny352.out] at ho;replace HB:=yam (hb);have HO354:=yam (ho);clear HO_3;clear ho hb hg hat))
   go_roundg kj3
   case measure=>have:=HK1.out;have:=HJ3.out;omega
   case rel=>exact ⟨(y352),(wrap64 (x4_1 + 1)),yeq,H,⟨by have:=HK1.out;have:=HJ3.out;omega⟩,⟨yka HO354.out⟩,⟨yhb⟩⟩
end Go.Proofs.Ytmjbnghhfadapaa.P
