/- The machine's side: each Go function as a plain Lean function and the proof that the machine's call does what that function says; written by this session's own program over the kit's print. -/
import Derived.Test.YthfbjkniinfgcaaZP1
import Derived.Test.YthfbjkniinfgcaaZP3
namespace Go.Proofs.Ythfbjkniinfgcaa.P
set_option maxHeartbeats 8000000
set_option maxRecDepth 100000
open Go.RowKit Go.Proofs.YthfbjkniinfgcaaW.PrintWords Go.Proofs.YthfbjkniinfgcaaW.PrintLast Go.Proofs.YthfbjkniinfgcaaW.PrintMore
attribute [local go_sem] max2_int min2_int max_two min_two max_three min_three max_four min_four   -- for this text's walks alone
set_option linter.unusedVariables false
set_option linter.unusedSimpArgs false
mutual
def spec_l4Holds.l0:Nat→List Int→Int→Int→Bool→Int→Int→List Int→Int→Option (Bool)
 | 0,_,_,_,_,_,_,_,_=>none
 | k + 1,x1,x5,x6,x7,x8,x519000,x519001,x519002=>if x8 < (x1.length:Int) then (if 0≤x8 then (spec_l4Holds.l1 k x1 (wrap64 (x5 + (rd x1 x8))) (wrap64 (x6 * (rd x1 x8))) x7 x8 0 x519000 x519001 x519002) else (none)) else (if x519000=1 then (some x7) else (if x519000=2 then (some (x5 == x519002)) else (if x519000=3 then (some (x6 == x519002)) else (if x519000=4 then (if 0 < (x1.length:Int) then (if 1 < (x1.length:Int) then (some (decide ((rd x1 0) < (rd x1 1)))) else (none)) else (none)) else (if 0 < (x1.length:Int) then (if 1 < (x1.length:Int) then (some ((mx (wrap64 ((rd x1 0) - (rd x1 1))) (wrap64 (-(wrap64 ((rd x1 0) - (rd x1 1)))))) == x519002)) else (none)) else (none))))))
def spec_l4Holds.l1:Nat→List Int→Int→Int→Bool→Int→Int→Int→List Int→Int→Option (Bool)
 | 0,_,_,_,_,_,_,_,_,_=>none
 | k + 1,x1,x5,x6,x7,x8,x9,x519000,x519001,x519002=>if x9 < x8 then (if x7=true then (if 0≤x9 then (if x9 < (x1.length:Int) then (if 0≤x8 then (if x8 < (x1.length:Int) then (spec_l4Holds.l1 k x1 x5 x6 ((rd x1 x9) != (rd x1 x8)) x8 (wrap64 (x9 + 1)) x519000 x519001 x519002) else (none)) else (none)) else (none)) else (none)) else (spec_l4Holds.l1 k x1 x5 x6 false x8 (wrap64 (x9 + 1)) x519000 x519001 x519002)) else (spec_l4Holds.l0 k x1 x5 x6 x7 (wrap64 (x8 + 1)) x519000 x519001 x519002)
end
def spec_l4Holds.f (k:Nat)(a0_0:Int)(l0_1:List Int)(a0_2:Int)(l1:List Int):Option (Bool):=spec_l4Holds.l0 k l1 0 1 true 0 a0_0 l0_1 a0_2
theorem spec_l4Holds.calls (k:Nat)(a0_0:Int)(A0_1:Option Addr)(c0_1:Nat)(l0_1:List Int)(a0_2:Int)(A1:Option Addr)(c1:Nat)(l1:List Int)(r:Bool)(w:World)(hr0_1:Kd.C (Kd.int .i64) w A0_1 l0_1.length l0_1)(hc0_1:l0_1.length≤c0_1)(hr1:Kd.C (Kd.int .i64) w A1 l1.length l1)(hc1:l1.length≤c1)(h:spec_l4Holds.f k a0_0 l0_1 a0_2 l1=some r) :
  Calls Try.prog 83 #[.agg #[.int .i64 a0_0,.slice A0_1 l0_1.length c0_1,.int .i64 a0_2],.slice A1 l1.length c1] w fun e w'=>e= .returned (.bool r)∧Below w.heap.size w w':=by
 have hu32:=Try.underlying32
 have HR0_1:=yam hr0_1
 have HC0_1:=yam hc0_1
 clear hr0_1 hc0_1
 have HR1:=yam hr1
 have HC1:=yam hc1
 clear hr1 hc1
 have HB:=yam (Below.refl w.heap.size w)
 unfold spec_l4Holds.f at h
 have H:=h
 clear h
 replace H:=yam H
 go_enter Try.func83,Try.ntmps83
 go_wp2_with (first|(refine ybe 2 #[.int .i64 a0_0,.slice A0_1 l0_1.length c0_1,.int .i64 a0_2] 32 ?_;intro gb518 hg w3 hbox hb;have BK518:=yam (hbox);have GW518:=yam ((by rw [hg];exact (below_size (yez HB.out)):w.heap.size≤gb518));replace HB:=yam (below_step (yez HB.out) hb);have GE518:=GW518;clear hb hbox hg))
 repeat (go_quiet (first|(refine ybe 2 #[.int .i64 a0_0,.slice A0_1 l0_1.length c0_1,.int .i64 a0_2] 32 ?_;intro gb518 hg w3 hbox hb;have BK518:=yam (hbox);have GW518:=yam ((by rw [hg];exact (below_size (yez HB.out)):w.heap.size≤gb518));replace HB:=yam (below_step (yez HB.out) hb);have GE518:=GW518;clear hb hbox hg));try go_wp2_with (first|(refine ybe 2 #[.int .i64 a0_0,.slice A0_1 l0_1.length c0_1,.int .i64 a0_2] 32 ?_;intro gb518 hg w3 hbox hb;have BK518:=yam (hbox);have GW518:=yam ((by rw [hg];exact (below_size (yez HB.out)):w.heap.size≤gb518));replace HB:=yam (below_step (yez HB.out) hb);have GE518:=GW518;clear hb hbox hg)))
 go_loopg [5,6,7,8] k (fun kq v5 v6 v7 v8 w'=>∃ (x5_1:Int) (x6_1:Int) (x7_1:Bool) (x8_1:Int),v5= .int .i64 x5_1∧v6= .int .i64 x6_1∧v7= .bool x7_1∧v8= .int .i64 x8_1∧Aside0 (spec_l4Holds.l0 kq l1 x5_1 x6_1 x7_1 x8_1 a0_0 l0_1 a0_2=some r)∧Aside0 (kq≤k)∧Aside0 (w'.heap[gb518]?=some (.cells #[.int .i64 a0_0,(.slice A0_1 l0_1.length c0_1),.int .i64 a0_2] 32 (0,0)))∧Aside0 (Below w.heap.size w w'))
 case atStart=>exact ⟨(0),(1),(true),(0),yeq,yeq,yeq,yeq,H,⟨Nat.le_refl _⟩,⟨ybk BK518.out⟩,⟨yhb⟩⟩
 case round =>
  clear H
  try clear c1
  obtain ⟨x5_1,x6_1,x7_1,x8_1,rfl,rfl,rfl,rfl,HA,HK1,BK518,HB⟩:=hrel
  rcases gk with _|k1
  ·exact absurd HA.out (by simp [spec_l4Holds.l0])
  obtain ⟨H⟩:=HA
  simp only [spec_l4Holds.l0] at H
  replace H:=yis H;obtain ⟨c4b0,H⟩ | ⟨c4b0,H⟩:=H
  ·replace H:=yif H;obtain ⟨c5b0,H⟩:=H
   replace H:=yam H
   obtain ⟨ad519,e519,hx519_0,p519,q519⟩:=yat HR1.out x8_1
   cases e519
   replace hx519_0:=ybx HB.out hx519_0
   obtain ⟨ad520,e520,hx520_0,p520,q520⟩:=yat HR1.out x8_1
   obtain rfl:ad519=ad520:=(by injection e520)
   replace hx520_0:=ybx HB.out hx520_0
   go_wp2
   repeat (go_quiet (fail);try go_wp2)
   go_loopg [7,9] k1 (fun kq v7 v9 w'=>∃ (x7_2:Bool) (x9_2:Int),v7= .bool x7_2∧v9= .int .i64 x9_2∧Aside0 (spec_l4Holds.l1 kq l1 (wrap64 (x5_1 + (rd l1 x8_1))) (wrap64 (x6_1 * (rd l1 x8_1))) x7_2 x8_1 x9_2 a0_0 l0_1 a0_2=some r)∧Aside0 (kq≤k1)∧Aside0 (w'.heap[gb518]?=some (.cells #[.int .i64 a0_0,(.slice A0_1 l0_1.length c0_1),.int .i64 a0_2] 32 (0,0)))∧Aside0 (Below w.heap.size w w'))
   case atStart=>exact ⟨(x7_1),(0),yeq,yeq,H,⟨Nat.le_refl _⟩,⟨ybk BK518.out⟩,⟨yhb⟩⟩
   case round =>
    clear H
    try clear c4b0
    try clear c5b0
    try clear hx519_0
    try clear hx520_0
    try clear p519
    try clear p520
    try clear q519
    try clear q520
    obtain ⟨x7_2,x9_2,rfl,rfl,HA,HK2,BK518,HB⟩:=hrel
    rcases gk with _|k2
    ·exact absurd HA.out (by simp [spec_l4Holds.l1])
    obtain ⟨H⟩:=HA
    simp only [spec_l4Holds.l1] at H
    replace H:=yis H;obtain ⟨c6b0,H⟩ | ⟨c6b0,H⟩:=H
    rotate_left
    ·replace H:=yam H
     go_wp2
     repeat (go_quiet (fail);try go_wp2)
     go_roundg k2
     case measure=>have:=HK1.out;have:=HK2.out;omega
     case rel=>exact ⟨((wrap64 (x5_1 + (rd l1 x8_1)))),((wrap64 (x6_1 * (rd l1 x8_1)))),(x7_2),(wrap64 (x8_1 + 1)),yeq,yeq,yeq,yeq,H,⟨by have:=HK1.out;have:=HK2.out;omega⟩,⟨ybk BK518.out⟩,⟨yhb⟩⟩
    cases x7_2
    ·replace H:=yff H
     replace H:=yam H
     go_wp2
     repeat (go_quiet (fail);try go_wp2)
     go_roundg k2
     case measure=>have:=HK1.out;have:=HK2.out;omega
     case rel=>exact ⟨(false),(wrap64 (x9_2 + 1)),yeq,yeq,H,⟨by have:=HK1.out;have:=HK2.out;omega⟩,⟨ybk BK518.out⟩,⟨yhb⟩⟩
    replace H:=ytt H
    replace H:=yif H;obtain ⟨c8b0,H⟩:=H
    replace H:=yif H;obtain ⟨c9b0,H⟩:=H
    replace H:=yif H;obtain ⟨c10b0,H⟩:=H
    replace H:=yif H;obtain ⟨c11b0,H⟩:=H
    replace H:=yam H
    obtain ⟨ad521,e521,hx521_0,p521,q521⟩:=yat HR1.out x9_2
    obtain rfl:ad519=ad521:=(by injection e521)
    replace hx521_0:=ybx HB.out hx521_0
    obtain ⟨ad522,e522,hx522_0,p522,q522⟩:=yat HR1.out x8_1
    obtain rfl:ad519=ad522:=(by injection e522)
    replace hx522_0:=ybx HB.out hx522_0
    go_wp2
    repeat (go_quiet (fail);try go_wp2)
    go_roundg k2
    case measure=>have:=HK1.out;have:=HK2.out;omega
    case rel=>exact ⟨(((rd l1 x9_2) != (rd l1 x8_1))),(wrap64 (x9_2 + 1)),yeq,yeq,H,⟨by have:=HK1.out;have:=HK2.out;omega⟩,⟨ybk BK518.out⟩,⟨yhb⟩⟩
  replace H:=yit H;obtain ⟨c12,H⟩ | ⟨c12,H⟩:=H
  ·have c12b0:(a0_0 == 1)=true:=beq_iff_eq.mpr c12
   have c12b1:(a0_0 != 1)=false:=bne_eq_false_iff_eq.mpr c12
   clear c12
   obtain rfl:=ysi H
   obtain ⟨hcz13_0,hcz13_1,hcz13_2,hfz13_0,hfz13_1,hfz13_2⟩:=ybc BK518.out
   go_wp2
   repeat (go_quiet (fail);try go_wp2)
   go_ret
   exact ⟨yer,yhb⟩
  have c12b0:(a0_0 == 1)=false:=beq_eq_false_iff_ne.mpr c12
  have c12b1:(a0_0 != 1)=true:=bne_iff_ne.mpr c12
  replace H:=yit H;obtain ⟨c14,H⟩ | ⟨c14,H⟩:=H
  ·have c14b0:(a0_0 == 2)=true:=beq_iff_eq.mpr c14
   have c14b1:(a0_0 != 2)=false:=bne_eq_false_iff_eq.mpr c14
   clear c14
   obtain rfl:=ysi H
   obtain ⟨hcz15_0,hcz15_1,hcz15_2,hfz15_0,hfz15_1,hfz15_2⟩:=ybc BK518.out
   go_wp2
   repeat (go_quiet (fail);try go_wp2)
   go_ret
   exact ⟨yer,yhb⟩
  have c14b0:(a0_0 == 2)=false:=beq_eq_false_iff_ne.mpr c14
  have c14b1:(a0_0 != 2)=true:=bne_iff_ne.mpr c14
  replace H:=yit H;obtain ⟨c16,H⟩ | ⟨c16,H⟩:=H
  ·have c16b0:(a0_0 == 3)=true:=beq_iff_eq.mpr c16
   have c16b1:(a0_0 != 3)=false:=bne_eq_false_iff_eq.mpr c16
   clear c16
   obtain rfl:=ysi H
   obtain ⟨hcz17_0,hcz17_1,hcz17_2,hfz17_0,hfz17_1,hfz17_2⟩:=ybc BK518.out
   go_wp2
   repeat (go_quiet (fail);try go_wp2)
   go_ret
   exact ⟨yer,yhb⟩
  have c16b0:(a0_0 == 3)=false:=beq_eq_false_iff_ne.mpr c16
  have c16b1:(a0_0 != 3)=true:=bne_iff_ne.mpr c16
  replace H:=yit H;obtain ⟨c18,H⟩ | ⟨c18,H⟩:=H
  ·have c18b0:(a0_0 == 4)=true:=beq_iff_eq.mpr c18
   have c18b1:(a0_0 != 4)=false:=bne_eq_false_iff_eq.mpr c18
   clear c18
   replace H:=yig H;obtain ⟨c19,H⟩:=H
   have c19b0:decide (0 < (l1.length:Int))=true:=decide_eq_true c19
   have c19b1:decide (0 < l1.length)=true:=decide_eq_true (by omega)
   clear c19
   replace H:=yig H;obtain ⟨c20,H⟩:=H
   have c20b0:decide (1 < (l1.length:Int))=true:=decide_eq_true c20
   have c20b1:decide (1 < l1.length)=true:=decide_eq_true (by omega)
   clear c20
   obtain rfl:=ysi H
   obtain ⟨hcz21_0,hcz21_1,hcz21_2,hfz21_0,hfz21_1,hfz21_2⟩:=ybc BK518.out
   have p523:0≤(0:Int):=(by omega)
   have q523:0 < (l1.length:Int):=ydt
   obtain ⟨ad523,e523,hx523_0⟩:=Kd.at_int HR1.out 0 p523 q523
   cases e523
   have qi523:(0 < l1.length)=True:=eq_true (by omega)
   (try rw [show ((0:Int)).toNat=0 from rfl] at hx523_0)
   (try rw [Addr.add_zero'] at hx523_0)
   replace hx523_0:=ybx HB.out hx523_0
   replace p523:=eq_true p523
   replace q523:=eq_true q523
   have p524:0≤(1:Int):=(by omega)
   have q524:1 < (l1.length:Int):=ydt
   obtain ⟨ad524,e524,hx524_0⟩:=Kd.at_int HR1.out 1 p524 q524
   obtain rfl:ad523=ad524:=(by injection e524)
   (try simp only [show (1:Int).toNat=1 from rfl,Nat.reduceMul,Nat.reduceEqDiff,Go.Addr.add,↓reduceIte] at hx524_0)
   have qi524:(1 < l1.length)=True:=eq_true (by omega)
   (try rw [show ((1:Int)).toNat=1 from rfl] at hx524_0)
   replace hx524_0:=ybx HB.out hx524_0
   replace p524:=eq_true p524
   replace q524:=eq_true q524
   go_wp2
   repeat (go_quiet (fail);try go_wp2)
   go_ret
   exact ⟨yer,yhb⟩
  have c18b0:(a0_0 == 4)=false:=beq_eq_false_iff_ne.mpr c18
  have c18b1:(a0_0 != 4)=true:=bne_iff_ne.mpr c18
  replace H:=yit H;obtain ⟨c22,H⟩ | ⟨c22,H⟩:=H
  rotate_left
  ·exact absurd H (by simp)
  have c22b0:decide (0 < (l1.length:Int))=true:=decide_eq_true c22
  have c22b1:decide (0 < l1.length)=true:=decide_eq_true (by omega)
  clear c22
  replace H:=yig H;obtain ⟨c23,H⟩:=H
  have c23b0:decide (1 < (l1.length:Int))=true:=decide_eq_true c23
  have c23b1:decide (1 < l1.length)=true:=decide_eq_true (by omega)
  clear c23
  obtain ⟨ji24,hji24⟩:∃ j_:Int,(mx (wrap64 ((rd l1 0) - (rd l1 1))) (wrap64 (-(wrap64 ((rd l1 0) - (rd l1 1))))))=j_:=⟨_,rfl⟩
  replace H:(some ((ji24) == a0_2))=some r:=by first|(rw [hji24] at H;exact H)|(simp only [hji24] at H ⊢;exact H)
  have hji24_:(if (wrap64 ((rd l1 0) - (rd l1 1))) < (wrap64 (-(wrap64 ((rd l1 0) - (rd l1 1))))) then (wrap64 (-(wrap64 ((rd l1 0) - (rd l1 1))))) else (wrap64 ((rd l1 0) - (rd l1 1))))=ji24:=hji24
  obtain rfl:=ysi H
  obtain ⟨hcz25_0,hcz25_1,hcz25_2,hfz25_0,hfz25_1,hfz25_2⟩:=ybc BK518.out
  have p525:0≤(0:Int):=(by omega)
  have q525:0 < (l1.length:Int):=ydt
  obtain ⟨ad525,e525,hx525_0⟩:=Kd.at_int HR1.out 0 p525 q525
  cases e525
  have qi525:(0 < l1.length)=True:=eq_true (by omega)
  (try rw [show ((0:Int)).toNat=0 from rfl] at hx525_0)
  (try rw [Addr.add_zero'] at hx525_0)
  replace hx525_0:=ybx HB.out hx525_0
  replace p525:=eq_true p525
  replace q525:=eq_true q525
  have p526:0≤(1:Int):=(by omega)
  have q526:1 < (l1.length:Int):=ydt
  obtain ⟨ad526,e526,hx526_0⟩:=Kd.at_int HR1.out 1 p526 q526
  obtain rfl:ad525=ad526:=(by injection e526)
  (try simp only [show (1:Int).toNat=1 from rfl,Nat.reduceMul,Nat.reduceEqDiff,Go.Addr.add,↓reduceIte] at hx526_0)
  have qi526:(1 < l1.length)=True:=eq_true (by omega)
  (try rw [show ((1:Int)).toNat=1 from rfl] at hx526_0)
  replace hx526_0:=ybx HB.out hx526_0
  replace p526:=eq_true p526
  replace q526:=eq_true q526
  go_wp2
  repeat (go_quiet (fail);try go_wp2)
  go_ret
  exact ⟨by first|rfl|(simp [errW_none,errW_some] <;> rfl)|(simp only [← hji24];first|rfl|(simp [errW_none,errW_some] <;> rfl))|(simp [*,errW_none,errW_some] <;> rfl),yhb⟩
mutual
def spec_RuleHolds.j0:Nat→List Int→Bool→Int→List Int→Int→Option (Bool)
 | 0,_,_,_,_,_=>none
 | k + 1,x1,x18,x815000,x815001,x815002=>if x18=true then (some false) else (spec_RuleHolds.l0 k x1 (([]:List Int)) 0 x815000 x815001 x815002)
def spec_RuleHolds.l0:Nat→List Int→List Int→Int→Int→List Int→Int→Option (Bool)
 | 0,_,_,_,_,_,_=>none
 | k + 1,x1,x7,x8,x815000,x815001,x815002=>if x8 < (x815001.length:Int) then (if 0≤x8 then (if 0≤(rd x815001 x8) then (if (rd x815001 x8) < (x1.length:Int) then (if (rd x1 (rd x815001 x8))=0 then (some false) else (if x7.length < 17592186044416 then (spec_RuleHolds.l0 k x1 (x7 ++ [rd x1 (rd x815001 x8)]) (wrap64 (x8 + 1)) x815000 x815001 x815002) else (none))) else (none)) else (none)) else (none)) else ((spec_l4Holds.f k x815000 x815001 x815002 x7).bind fun t827=>(some t827))
end
def spec_RuleHolds.f (k:Nat)(a0_0:Int)(l0_1:List Int)(a0_2:Int)(l1:List Int)(a2:Int):Option (Bool):=(spec_RuleValid.f k a0_0 l0_1 a0_2 a2).bind fun t815=>(if t815=true then ((spec_GridValid.f k l1 a2).bind fun t816=>(spec_RuleHolds.j0 k l1 (!t816) a0_0 l0_1 a0_2)) else (spec_RuleHolds.j0 k l1 true a0_0 l0_1 a0_2))
theorem spec_RuleHolds.calls (k:Nat)(a0_0:Int)(A0_1:Option Addr)(c0_1:Nat)(l0_1:List Int)(a0_2:Int)(A1:Option Addr)(c1:Nat)(l1:List Int)(a2:Int)(r:Bool)(w:World)(hr0_1:Kd.C (Kd.int .i64) w A0_1 l0_1.length l0_1)(hc0_1:l0_1.length≤c0_1)(hr1:Kd.C (Kd.int .i64) w A1 l1.length l1)(hc1:l1.length≤c1)(h:spec_RuleHolds.f k a0_0 l0_1 a0_2 l1 a2=some r) :
  Calls Try.prog 47 #[.agg #[.int .i64 a0_0,.slice A0_1 l0_1.length c0_1,.int .i64 a0_2],.slice A1 l1.length c1,.int .i64 a2] w fun e w'=>e= .returned (.bool r)∧Below w.heap.size w w':=by
 have hu32:=Try.underlying32
 have HR0_1:=yam hr0_1
 have HC0_1:=yam hc0_1
 clear hr0_1 hc0_1
 have HR1:=yam hr1
 have HC1:=yam hc1
 clear hr1 hc1
 have HB:=yam (Below.refl w.heap.size w)
 unfold spec_RuleHolds.f at h
 have H:=h
 clear h
 have HC4:=yam H
 clear H
 go_enter Try.func47,Try.ntmps47
 go_upto_region 1 with (first|(refine ybe 3 #[.int .i64 a0_0,.slice A0_1 l0_1.length c0_1,.int .i64 a0_2] 32 ?_;intro gb814 hg w5 hbox hb;have BK814:=yam (hbox);have GW814:=yam ((by rw [hg];exact (below_size (yez HB.out)):w.heap.size≤gb814));replace HB:=yam (below_step (yez HB.out) hb);have GE814:=GW814;clear hb hbox hg))
 (try simp only [Act.put,yps])
 go_cut [18] (fun v18 wc=>∃ (kq:Nat) (x18_3:Bool),v18= .bool x18_3∧Aside0 (spec_RuleHolds.j0 kq l1 x18_3 a0_0 l0_1 a0_2=some r)∧Aside0 (kq≤k)∧Aside0 (wc.heap[gb814]?=some (.cells #[.int .i64 a0_0,(.slice A0_1 l0_1.length c0_1),.int .i64 a0_2] 32 (0,0)))∧Aside0 (Below w.heap.size w wc))
 case first =>
  have H:=HC4.out
  clear HC4
  replace H:=ybi H;obtain ⟨t815,A6,H⟩:=H
  try dsimp only at H
  cases t815
  ·replace H:=yff H
   replace H:=yam H
   obtain ⟨hcz11_0,hcz11_1,hcz11_2,hfz11_0,hfz11_1,hfz11_2⟩:=ybc BK814.out
   go_wp2_with (first|(refine goesL_ (some 11) rfl rfl Try.func24 (by kernel_rfl) rfl #[.agg #[.int .i64 a0_0,.slice A0_1 l0_1.length c0_1,.int .i64 a0_2],.int .i64 a2] rfl ymd ?_;(with_reducible refine (spec_RuleValid.calls k a0_0 _ _ l0_1 a0_2 a2 false _ ?_ ?_ A6.out).mono ?_);exact Kd.Cz ((Kd.C_below HR0_1.out HB.out));exact HC0_1.out;rintro e w12 ⟨rfl,hb⟩;refine ⟨_,rfl,?_⟩;replace BK814:=yam (ybb BK814.out hb);replace HB:=yam (below_step yhb hb);(try clear hb)))
   go_meet
   case rel=>exact ⟨_,(true),yeq,H,⟨by first|omega|exact Nat.le_refl _⟩,⟨ybk BK814.out⟩,⟨yhb⟩⟩
  replace H:=ytt H
  replace H:=ybi H;obtain ⟨t816,A8,H⟩:=H
  try dsimp only at H
  replace H:=yam H
  obtain ⟨hcz9_0,hcz9_1,hcz9_2,hfz9_0,hfz9_1,hfz9_2⟩:=ybc BK814.out
  go_wp2_with (first|(refine goesL_ (some 11) rfl rfl Try.func24 (by kernel_rfl) rfl #[.agg #[.int .i64 a0_0,.slice A0_1 l0_1.length c0_1,.int .i64 a0_2],.int .i64 a2] rfl ymd ?_;(with_reducible refine (spec_RuleValid.calls k a0_0 _ _ l0_1 a0_2 a2 true _ ?_ ?_ A6.out).mono ?_);exact Kd.Cz ((Kd.C_below HR0_1.out HB.out));exact HC0_1.out;rintro e w10 ⟨rfl,hb⟩;refine ⟨_,rfl,?_⟩;replace BK814:=yam (ybb BK814.out hb);replace HB:=yam (below_step yhb hb);(try clear hb))|(go_at_call 49;(with_reducible refine (spec_GridValid.calls k _ _ l1 a2 t816 _ ?_ ?_ A8.out).mono ?_);exact Kd.Cz ((Kd.C_below HR1.out HB.out));exact HC1.out;rintro e w' ⟨rfl,⟨nd,rfl⟩⟩))
  go_meet
  case rel=>exact ⟨_,(!t816),yeq,H,⟨by first|omega|exact Nat.le_refl _⟩,⟨ybk BK814.out⟩,⟨yhb⟩⟩
 case rest =>
  clear HC4
  try clear c1
  obtain ⟨kq,x18_3,rfl,HA,HJ3,BK814,HB⟩:=hcut
  rcases kq with _|kj3
  ·exact absurd HA.out (by simp [spec_RuleHolds.j0])
  obtain ⟨H⟩:=HA
  simp only [spec_RuleHolds.j0] at H
  cases x18_3
  rotate_left
  ·replace H:=ytt H
   obtain rfl:=ysi H
   go_wp2
   go_ret
   exact ⟨yer,yhb⟩
  replace H:=yff H
  obtain ⟨y817,Ny817⟩:∃ y_:List Int,Aside0 (y_=(([]:List Int))):=⟨_,⟨rfl⟩⟩
  replace H:(spec_RuleHolds.l0 kj3 l1 y817 0 a0_0 l0_1 a0_2)=some r:=yhn Ny817.out H
  replace H:=yam H
  go_wp2_with (first|((with_reducible refine gate_dst (N:=19) rfl ?_);refine Kd.R_lit (Kd.int .i64) _ 3 ?hg (N:=19) ?hd (xs:=([]:List Int)) (inner:=[]) (ok:=fun _=>True) (okp:=fun _=>True) ?hr ?hp (fun _ hk=>hk) trivial (Below.refl _ _) (Nat.le_refl _) (by simp) ?_;(case hd=>rfl);(case hg=>rfl);(case hr=>first|(go_simp;done)|(go_simp;rfl));(case hp=>exact (Reps.none _ _));intro v818 w14 ho15 hb hg_ hnew_;clear hg_ hnew_;(first|rw [← Ny817.out] at ho15|(simp only [Int.reduceToNat] at ho15;rw [← Ny817.out] at ho15));have HO819:=yam (Kd.R_lower ho15 (below_size yhb));replace BK814:=yam (ybb BK814.out hb);replace HB:=yam (below_step yhb hb);clear hb ho15))
  go_loopg [7,8] kj3 (fun kq v7 v8 w'=>∃ (x7_2:List Int) (x8_2:Int),v8= .int .i64 x8_2∧Aside0 (spec_RuleHolds.l0 kq l1 x7_2 x8_2 a0_0 l0_1 a0_2=some r)∧Aside0 (kq≤kj3)∧Aside0 (Kd.R (Kd.int .i64) 3 w' w.heap.size (fun _=>True) v7 x7_2)∧Aside0 (w'.heap[gb814]?=some (.cells #[.int .i64 a0_0,(.slice A0_1 l0_1.length c0_1),.int .i64 a0_2] 32 (0,0)))∧Aside0 (Below w.heap.size w w'))
  case atStart=>exact ⟨(y817),(0),yeq,H,⟨Nat.le_refl _⟩,⟨yka HO819.out⟩,⟨ybk BK814.out⟩,⟨yhb⟩⟩
  case round =>
   clear H
   obtain ⟨x7_2,x8_2,rfl,HA,HK2,HO_7,BK814,HB⟩:=hrel
   rcases gk with _|k2
   ·exact absurd HA.out (by simp [spec_RuleHolds.l0])
   obtain ⟨H⟩:=HA
   simp only [spec_RuleHolds.l0] at H
   replace H:=yis H;obtain ⟨c16b0,H⟩ | ⟨c16b0,H⟩:=H
   rotate_left
   ·replace H:=ybi H;obtain ⟨t827,A25,H⟩:=H
    try dsimp only at H
    obtain rfl:=ysi H
    obtain ⟨hcz26_0,hcz26_1,hcz26_2,hfz26_0,hfz26_1,hfz26_2⟩:=ybc BK814.out
    obtain ⟨Ao27,co27,eo27⟩:=Kd.R_slice HO_7.out
    subst eo27
    go_wp2_with (first|(refine goesL_ (some 49) rfl rfl Try.func83 (by kernel_rfl) rfl #[.agg #[.int .i64 a0_0,.slice A0_1 l0_1.length c0_1,.int .i64 a0_2],.slice Ao27 x7_2.length co27] rfl ymd ?_;(with_reducible refine (spec_l4Holds.calls k2 a0_0 _ _ l0_1 a0_2 _ _ x7_2 t827 _ ?_ ?_ ?_ ?_ A25.out).mono ?_);exact Kd.Cz ((Kd.C_below HR0_1.out HB.out));exact HC0_1.out;exact Kd.Cz (Kd.Yr HO_7.out).2.2;exact (Kd.Yr HO_7.out).2.1;rintro e w28 ⟨rfl,hb⟩;refine ⟨_,rfl,?_⟩;replace HO_7:=yam (Kd.R_below (Kd.Yz HO_7.out) hb);replace BK814:=yam (ybb BK814.out hb);replace HB:=yam (below_step yhb hb);(try clear hb)))
    go_ret
    exact ⟨yer,yhb⟩
   replace H:=yif H;obtain ⟨c17b0,H⟩:=H
   replace H:=yif H;obtain ⟨c18b0,H⟩:=H
   replace H:=yif H;obtain ⟨c19b0,H⟩:=H
   replace H:=yit H;obtain ⟨c20,H⟩ | ⟨c20,H⟩:=H
   ·have c20b0:((rd l1 (rd l0_1 x8_2)) == 0)=true:=beq_iff_eq.mpr c20
    have c20b1:((rd l1 (rd l0_1 x8_2)) != 0)=false:=bne_eq_false_iff_eq.mpr c20
    clear c20
    obtain rfl:=ysi H
    obtain ⟨hcz21_0,hcz21_1,hcz21_2,hfz21_0,hfz21_1,hfz21_2⟩:=ybc BK814.out
    obtain ⟨ad820,e820,hx820_0,p820,q820⟩:=yat HR0_1.out x8_2
    cases e820
    replace hx820_0:=ybx HB.out hx820_0
    obtain ⟨ad821,e821,hx821_0,p821,q821⟩:=yat HR1.out (rd l0_1 x8_2)
    cases e821
    replace hx821_0:=ybx HB.out hx821_0
    go_wp2
    go_ret
    exact ⟨yer,yhb⟩
   have c20b0:((rd l1 (rd l0_1 x8_2)) == 0)=false:=beq_eq_false_iff_ne.mpr c20
   have c20b1:((rd l1 (rd l0_1 x8_2)) != 0)=true:=bne_iff_ne.mpr c20
   replace H:=yig H;obtain ⟨c22,H⟩:=H
   have LMc22:=yam c22
   clear c22
   obtain ⟨y824,Ny824⟩:∃ y_:List Int,Aside0 (y_=(x7_2 ++ [rd l1 (rd l0_1 x8_2)])):=⟨_,⟨rfl⟩⟩
   replace H:(spec_RuleHolds.l0 k2 l1 y824 (wrap64 (x8_2 + 1)) a0_0 l0_1 a0_2)=some r:=yhn Ny824.out H
   replace H:=yam H
   obtain ⟨hcz23_0,hcz23_1,hcz23_2,hfz23_0,hfz23_1,hfz23_2⟩:=ybc BK814.out
   obtain ⟨ad820,e820,hx820_0,p820,q820⟩:=yat HR0_1.out x8_2
   cases e820
   replace hx820_0:=ybx HB.out hx820_0
   obtain ⟨ad821,e821,hx821_0,p821,q821⟩:=yat HR1.out (rd l0_1 x8_2)
   cases e821
   replace hx821_0:=ybx HB.out hx821_0
   obtain ⟨ad822,e822,hx822_0,p822,q822⟩:=yat HR0_1.out x8_2
   obtain rfl:ad820=ad822:=(by injection e822)
   replace hx822_0:=ybx HB.out hx822_0
   obtain ⟨ad823,e823,hx823_0,p823,q823⟩:=yat HR1.out (rd l0_1 x8_2)
   obtain rfl:ad821=ad823:=(by injection e823)
   replace hx823_0:=ybx HB.out hx823_0
   go_wp2_with (first|((with_reducible refine gate_builtin (b:= .append) (xs:= #[.tmp 36,.tmp 45]) rfl ?_);at_builtin;refine Kd.R_append (Kd.int .i64) (w0:=w) w.heap.size rfl (.tmp 36) (.tmp 45) 23 3 (.int .i64 0) 8 rfl Try.underlying23 info3 rfl (by decide) (by omega) u7 x7_2 (rd l1 (rd l0_1 x8_2)) [.int .i64 (rd l1 (rd l0_1 x8_2))] (fun _=>True) (fun _=>False) rfl rfl ?aP (fun _ hk=>hk.elim) ?aF ?aO ?aB ?aS ?aL ?_;(case aP=>exact rfl);(case aB=>exact yhb);(case aF=>exact (fun _ _=>trivial));(case aO=>exact (Kd.Yz HO_7.out));(case aS=>exact (below_size yhb));(case aL=>have:=LMc22.out;omega);intro v825 w24 ho hb hg hat;rw [← Ny824.out] at ho;replace BK814:=yam (blk_grown (g:=gb814) (o:= .cells #[.int .i64 a0_0,.slice (some ad820) l0_1.length c0_1,.int .i64 a0_2] 32 (0,0)) (ybz BK814.out) hg (Kd.R_ne HO_7.out BK814.out (by decide)));replace HB:=yam (hb);have HO826:=yam (ho);clear HO_7;clear ho hb hg hat))
   go_roundg k2
   case measure=>have:=HJ3.out;have:=HK2.out;omega
   case rel=>exact ⟨(y824),(wrap64 (x8_2 + 1)),yeq,H,⟨by have:=HJ3.out;have:=HK2.out;omega⟩,⟨yka HO826.out⟩,⟨ybk BK814.out⟩,⟨yhb⟩⟩
def slices_Clone_int_int.f (l0:List Int):Option (List Int):=if l0.length < 17592186044416 then some l0 else none
theorem slices_Clone_int_int.calls (A0:Option Addr)(c0:Nat)(l0:List Int)(r:List Int)(w:World)(hr0:Kd.C (Kd.int .i64) w A0 l0.length l0)(hc0:l0.length≤c0)(h:slices_Clone_int_int.f l0=some r) :
  Calls Try.prog 84 #[.slice A0 l0.length c0] w fun e w'=>∃ v0_:Value,e= .returned (v0_)∧Kd.R (Kd.int .i64) 3 w' w.heap.size (fun _=>True) v0_ r∧Below w.heap.size w w':=by
 have hcl:l0=r∧l0.length < 17592186044416:=by
  unfold slices_Clone_int_int.f at h
  by_cases hc:l0.length < 17592186044416
  ·rw [if_pos hc] at h;exact ⟨Option.some.inj h,hc⟩
  ·rw [if_neg hc] at h;exact absurd h (by simp)
 clear h
 obtain ⟨rfl,hlim⟩:=hcl
 have HR0:=yam hr0
 have HC0:=yam hc0
 have HLM:=yam hlim
 clear hr0 hc0 hlim
 have HB:=yam (Below.refl w.heap.size w)
 have hnil:=fun (W:World) (A:Option Addr) (n c:Nat)=>Lib.run_eql_slice_nil (P:=Try.prog) W 23 3 A n c 0 0 Try.underlying23
 cases A0 with
 | none =>
  have hl:l0=[]:=by
   cases l0 with
   | nil=>rfl
   | cons x t =>
    obtain ⟨ad,e,_⟩:=Kd.at_int HR0.out 0 (by decide) (by simp only [List.length_cons];omega)
    cases e
  subst hl
  go_enter Try.func84,Try.ntmps84
  go_wp2
  go_ret
  exact ⟨.slice none 0 0,rfl,Kd.R_nil _ _ _ _ _,Below.refl _ _⟩
 | some ad =>
  obtain ⟨y361,hy361⟩:∃ y_:List Int,y_=(([]:List Int)):=⟨_,rfl⟩
  have Ny361:=yam hy361
  clear hy361
  go_enter Try.func84,Try.ntmps84
  go_wp2_with (first|((with_reducible refine gate_dst (N:=5) rfl ?_);refine Kd.R_lit (Kd.int .i64) _ 3 ?hg (N:=5) ?hd (xs:=([]:List Int)) (inner:=[]) (ok:=fun _=>True) (okp:=fun _=>True) ?hr ?hp (fun _ hk=>hk) trivial (Below.refl _ _) (Nat.le_refl _) (by simp) ?_;(case hd=>rfl);(case hg=>rfl);(case hr=>first|(go_simp;done)|(go_simp;rfl));(case hp=>exact (Reps.none _ _));intro v362 w3 ho4 hb hg_ hnew_;clear hg_ hnew_;rw [← Ny361.out] at ho4;have HO363:=yam (Kd.R_lower ho4 (below_size (by repeat (first|(with_reducible first|exact HB.out|apply below_alloc|apply pw_below_drewN|apply below_drew1)|exact HB.out))));replace HB:=yam (below_step (by repeat (first|(with_reducible first|exact HB.out|apply below_alloc|apply pw_below_drewN|apply below_drew1)|exact HB.out)) hb);clear hb ho4)|((with_reducible refine gate_builtin (b:= .append) (xs:= #[.tmp 5,.tmp 6]) rfl ?_);at_builtin;refine Kd.R_append_rows (Kd.int .i64) (w0:=w) w.heap.size rfl (.tmp 5) (.tmp 6) 23 3 (.int .i64 0) 8 rfl Try.underlying23 info3 rfl (by decide) (by omega) v362 y361 l0 _ _ _ (fun _=>True) (fun _=>False) rfl rfl ?aO ?aR (fun _ _ h=>h) (fun _ h=>h.elim) ?aF ?aB ?aS ?aL ?_;(case aR=>repeat (first|exact (Kd.C_below HR0.out HB.out)|(with_reducible refine Kd.C_alloc ?_ _)|(with_reducible refine Kd.C_drewN ?_ _)|(with_reducible refine Kd.C_drew ?_)));(case aB=>exact (by repeat (first|(with_reducible first|exact HB.out|apply below_alloc|apply pw_below_drewN|apply below_drew1)|exact HB.out)));(case aF=>exact (fun _ _=>trivial));(case aO=>exact (by (with_reducible repeat (first|apply Kd.R_alloc|apply Kd.R_drewN|apply Kd.R_drew));exact HO363.out));(case aS=>exact (below_size (by repeat (first|(with_reducible first|exact HB.out|apply below_alloc|apply pw_below_drewN|apply below_drew1)|exact HB.out))));(case aL=>have:=HLM.out;rw [Ny361.out];simp only [List.length_nil];omega);intro v365 w5 ho hb hg hat;rw [Ny361.out,List.nil_append] at ho;replace HB:=yam (hb);have HO366:=yam (ho);clear HO363;clear ho hb hg hat))
  go_ret
  exact ⟨_,rfl,by (with_reducible repeat (first|apply Kd.R_alloc|apply Kd.R_drewN|apply Kd.R_drew));exact HO366.out,by repeat (first|(with_reducible first|exact HB.out|apply below_alloc|apply pw_below_drewN|apply below_drew1)|exact HB.out)⟩
mutual
def impl_GridSwap.j0:Nat→List Int→Int→Int→Bool→Option (List Int)
 | 0,_,_,_,_=>none
 | k + 1,x0,x2,x3,x33=>if x33=true then (some ([]:List Int)) else ((slices_Clone_int_int.f x0).bind fun t829=>(impl_GridSwap.l0 k x2 x3 t829 x0 (x0.length:Int) 0))
def impl_GridSwap.l0:Nat→Int→Int→List Int→List Int→Int→Int→Option (List Int)
 | 0,_,_,_,_,_,_=>none
 | k + 1,x2,x3,x9,x36,x37,x38=>if x38 < x37 then (if 0≤x38 then (if x38 < (x36.length:Int) then (if (rd x36 x38)=x2 then (if x38 < (x9.length:Int) then (impl_GridSwap.l0 k x2 x3 (x9.set (x38:Int).toNat x3) x36 x37 (wrap64 (x38 + 1))) else (none)) else (if (rd x36 x38)=x3 then (if x38 < (x9.length:Int) then (impl_GridSwap.l0 k x2 x3 (x9.set (x38:Int).toNat x2) x36 x37 (wrap64 (x38 + 1))) else (none)) else (impl_GridSwap.l0 k x2 x3 x9 x36 x37 (wrap64 (x38 + 1))))) else (none)) else (none)) else (some x9)
end
def impl_GridSwap.f (k:Nat)(l0:List Int)(a1:Int)(a2:Int)(a3:Int):Option (List Int):=(impl_GridValid.f k l0 a1).bind fun t828=>(if t828=true then (if a2 < 1 then (impl_GridSwap.j0 k l0 a2 a3 true) else (if a2 > a1 then (impl_GridSwap.j0 k l0 a2 a3 true) else (if a3 < 1 then (impl_GridSwap.j0 k l0 a2 a3 true) else (impl_GridSwap.j0 k l0 a2 a3 (decide (a3 > a1)))))) else (impl_GridSwap.j0 k l0 a2 a3 true))
theorem impl_GridSwap.calls (k:Nat)(A0:Option Addr)(c0:Nat)(l0:List Int)(a1:Int)(a2:Int)(a3:Int)(r:List Int)(w:World)(hr0:Kd.C (Kd.int .i64) w A0 l0.length l0)(hc0:l0.length≤c0)(h:impl_GridSwap.f k l0 a1 a2 a3=some r) :
  Calls Try.prog 48 #[.slice A0 l0.length c0,.int .i64 a1,.int .i64 a2,.int .i64 a3] w fun e w'=>∃ v0_:Value,e= .returned (v0_)∧Kd.R (Kd.int .i64) 3 w' w.heap.size (fun _=>True) v0_ r∧Below w.heap.size w w':=by
 have HR0:=yam hr0
 have HC0:=yam hc0
 clear hr0 hc0
 have HB:=yam (Below.refl w.heap.size w)
 unfold impl_GridSwap.f at h
 have H:=h
 clear h
 have HC5:=yam H
 clear H
 go_enter Try.func48,Try.ntmps48
 go_upto_region 1 with (fail)
 go_cut [33] (fun v33 wc=>∃ (kq:Nat) (x33_4:Bool),v33= .bool x33_4∧Aside0 (impl_GridSwap.j0 kq l0 a2 a3 x33_4=some r)∧Aside0 (kq≤k)∧Aside0 (Below w.heap.size w wc))
 case first =>
  have H:=HC5.out
  clear HC5
  replace H:=ybi H;obtain ⟨t828,A6,H⟩:=H
  try dsimp only at H
  cases t828
  ·replace H:=yff H
   replace H:=yam H
   go_wp2_with (first|(refine goesL_ (some 14) rfl rfl Try.func60 (by kernel_rfl) rfl #[.slice A0 l0.length c0,.int .i64 a1] rfl ymd ?_;(with_reducible refine (impl_GridValid.calls k _ _ l0 a1 false _ ?_ ?_ A6.out).mono ?_);exact Kd.Cz ((Kd.C_below HR0.out HB.out));exact HC0.out;rintro e w' ⟨rfl,⟨nd,rfl⟩⟩;refine ⟨_,rfl,?_⟩))
   go_meet
   case rel=>exact ⟨_,(true),yeq,H,⟨by first|omega|exact Nat.le_refl _⟩,⟨yhb⟩⟩
  replace H:=ytt H
  replace H:=yis H;obtain ⟨c8b0,H⟩ | ⟨c8b0,H⟩:=H
  ·(first|rw [c8b0]|(simp only [i64_w,i32_w];rw [c8b0])|skip)
   replace H:=yam H
   go_wp2_with (first|(refine goesL_ (some 14) rfl rfl Try.func60 (by kernel_rfl) rfl #[.slice A0 l0.length c0,.int .i64 a1] rfl ymd ?_;(with_reducible refine (impl_GridValid.calls k _ _ l0 a1 true _ ?_ ?_ A6.out).mono ?_);exact Kd.Cz ((Kd.C_below HR0.out HB.out));exact HC0.out;rintro e w' ⟨rfl,⟨nd,rfl⟩⟩;refine ⟨_,rfl,?_⟩))
   go_meet
   case rel=>exact ⟨_,(true),yeq,H,⟨by first|omega|exact Nat.le_refl _⟩,⟨yhb⟩⟩
  (first|rw [c8b0]|(simp only [i64_w,i32_w];rw [c8b0])|skip)
  replace H:=yis H;obtain ⟨c9b0,H⟩ | ⟨c9b0,H⟩:=H
  ·replace H:=yam H
   go_wp2_with (first|(refine goesL_ (some 14) rfl rfl Try.func60 (by kernel_rfl) rfl #[.slice A0 l0.length c0,.int .i64 a1] rfl ymd ?_;(with_reducible refine (impl_GridValid.calls k _ _ l0 a1 true _ ?_ ?_ A6.out).mono ?_);exact Kd.Cz ((Kd.C_below HR0.out HB.out));exact HC0.out;rintro e w' ⟨rfl,⟨nd,rfl⟩⟩;refine ⟨_,rfl,?_⟩))
   go_meet
   case rel=>exact ⟨_,(true),yeq,H,⟨by first|omega|exact Nat.le_refl _⟩,⟨yhb⟩⟩
  replace H:=yis H;obtain ⟨c10b0,H⟩ | ⟨c10b0,H⟩:=H
  ·replace H:=yam H
   go_wp2_with (first|(refine goesL_ (some 14) rfl rfl Try.func60 (by kernel_rfl) rfl #[.slice A0 l0.length c0,.int .i64 a1] rfl ymd ?_;(with_reducible refine (impl_GridValid.calls k _ _ l0 a1 true _ ?_ ?_ A6.out).mono ?_);exact Kd.Cz ((Kd.C_below HR0.out HB.out));exact HC0.out;rintro e w' ⟨rfl,⟨nd,rfl⟩⟩;refine ⟨_,rfl,?_⟩))
   go_meet
   case rel=>exact ⟨_,(true),yeq,H,⟨by first|omega|exact Nat.le_refl _⟩,⟨yhb⟩⟩
  replace H:=yam H
  go_wp2_with (first|(refine goesL_ (some 14) rfl rfl Try.func60 (by kernel_rfl) rfl #[.slice A0 l0.length c0,.int .i64 a1] rfl ymd ?_;(with_reducible refine (impl_GridValid.calls k _ _ l0 a1 true _ ?_ ?_ A6.out).mono ?_);exact Kd.Cz ((Kd.C_below HR0.out HB.out));exact HC0.out;rintro e w' ⟨rfl,⟨nd,rfl⟩⟩;refine ⟨_,rfl,?_⟩))
  go_meet
  case rel=>exact ⟨_,(decide (a3 > a1)),yeq,H,⟨by first|omega|exact Nat.le_refl _⟩,⟨yhb⟩⟩
 case rest =>
  clear HC5
  obtain ⟨kq,x33_4,rfl,HA,HJ4,HB⟩:=hcut
  rcases kq with _|kj4
  ·exact absurd HA.out (by simp [impl_GridSwap.j0])
  obtain ⟨H⟩:=HA
  simp only [impl_GridSwap.j0] at H
  cases x33_4
  rotate_left
  ·replace H:=ytt H
   obtain rfl:=ysi H
   go_wp2
   go_ret
   exact ⟨_,yer,by first|exact Kd.R_nil _ _ _ _ _|exact Kd.N_nil _ _ _ _ _|exact Kd.V_nil _ _ _ _ _|exact Kd.Q_nil _ _ _ _ _|exact Kd.S_nil _ _ _ _ _,yhb⟩
  replace H:=yff H
  replace H:=ybi H;obtain ⟨t829,A12,H⟩:=H
  try dsimp only at H
  replace H:=yam H
  go_wp2_with (first|(refine goesL_ (some 35) rfl rfl Try.func84 (by kernel_rfl) rfl #[.slice A0 l0.length c0] rfl ymd ?_;(with_reducible refine (slices_Clone_int_int.calls _ _ l0 t829 _ ?_ ?_ A12.out).mono ?_);exact Kd.Cz ((Kd.C_below HR0.out HB.out));exact HC0.out;rintro e w13 ⟨v830,rfl,ho0,hb⟩;refine ⟨_,rfl,?_⟩;have HO831:=yam (Kd.R_lower ho0 (below_size (yez HB.out)));replace HB:=yam (below_step (yez HB.out) hb);(try clear hb);(try clear ho0)))
  go_loopg [38] kj4 (fun kq v38 w'=>∃ (x9_2:List Int) (x38_2:Int),v38= .int .i64 x38_2∧Aside0 (impl_GridSwap.l0 kq a2 a3 x9_2 l0 (l0.length:Int) x38_2=some r)∧Aside0 (kq≤kj4)∧Aside0 (Kd.R (Kd.int .i64) 3 w' w.heap.size (fun _=>True) v830 x9_2)∧Aside0 (Below w.heap.size w w'))
  case atStart=>exact ⟨(t829),(0),yeq,H,⟨Nat.le_refl _⟩,⟨yka HO831.out⟩,⟨yhb⟩⟩
  case round =>
   clear H
   obtain ⟨x9_2,x38_2,rfl,HA,HK2,HO_9,HB⟩:=hrel
   rcases gk with _|k2
   ·exact absurd HA.out (by simp [impl_GridSwap.l0])
   obtain ⟨H⟩:=HA
   simp only [impl_GridSwap.l0] at H
   replace H:=yis H;obtain ⟨c14b0,H⟩ | ⟨c14b0,H⟩:=H
   rotate_left
   ·obtain rfl:=ysi H
    go_wp2
    go_ret
    exact ⟨_,yer,yka HO_9.out,yhb⟩
   replace H:=yif H;obtain ⟨c15b0,H⟩:=H
   replace H:=yif H;obtain ⟨c16b0,H⟩:=H
   replace H:=yit H;obtain ⟨c17,H⟩ | ⟨c17,H⟩:=H
   ·have c17b0:((rd l0 x38_2) == a2)=true:=beq_iff_eq.mpr c17
    have c17b1:((rd l0 x38_2) != a2)=false:=bne_eq_false_iff_eq.mpr c17
    clear c17
    replace H:=yif H;obtain ⟨c18b0,H⟩:=H
    obtain ⟨y833,Ny833⟩:∃ y_:List Int,Aside0 (y_=(x9_2.set (x38_2:Int).toNat a3)):=⟨_,⟨rfl⟩⟩
    replace H:(impl_GridSwap.l0 k2 a2 a3 y833 l0 (l0.length:Int) (wrap64 (x38_2 + 1)))=some r:=yhn Ny833.out H
    replace H:=yam H
    obtain ⟨ad832,e832,hx832_0,p832,q832⟩:=yat HR0.out x38_2
    cases e832
    replace hx832_0:=ybx HB.out hx832_0
    have p19:0≤(x38_2:Int):=ydt
    have q19:(x38_2:Int) < ((x9_2.length:Int):Int):=ydt
    obtain ⟨go19,co19,eo19,gb19,gl19,cl19,HG19⟩:=Kd.R_form HO_9.out (by omega)
    (first|cases eo19|(injection eo19 with ea_ en_ ec_;(first|subst ea_|(injection ea_ with ea_;subst ea_));subst ec_;clear en_))
    have GB19:=yam gb19
    have GG19:=yam HG19
    clear gb19 gl19 HG19
    obtain ⟨hx19_0,hf19_0⟩:=Kd.R_celln 0 HO_9.out (x38_2:Int) p19 q19
    replace p19:=eq_true p19
    replace q19:=eq_true q19
    have HP20:=Kd.R_putg HO_9.out (x38_2:Int) a3
    go_wp2_with (first|((with_reducible refine gate_store (t:=3) (p:=50) rfl ?_);refine store_event (t:=3) (p:=50) (v:=?vo_w21) (w1:=(wr.setCell ⟨go19,(x38_2:Int).toNat,none⟩ (.int .i64 a3))) ?hg ?ho ?hn ?hr ?_;(case ho=>rfl);(case hg=>rfl);(case hn=>rfl);(case hr=>first|(go_simp;done)|(go_simp;rfl));intro w21 hw;have hg:wr.grownBy w21 (some go19):=(by rw [hw];exact HP20.2);have hp_:Kd.R (Kd.int .i64) 3 w21 w.heap.size (fun _=>True) (.slice (some ⟨go19,0,none⟩) x9_2.length co19) y833:=(by rw [hw,Ny833.out];exact HP20.1);clear HP20;replace HO_9:=yam (hp_);replace HB:=yam ((by rw [hw];exact below_set (HB.out) GB19.out:Below w.heap.size w w21));clear hg hw hp_))
    go_roundg k2
    case measure=>have:=HJ4.out;have:=HK2.out;omega
    case rel=>exact ⟨(y833),(wrap64 (x38_2 + 1)),yeq,H,⟨by have:=HJ4.out;have:=HK2.out;omega⟩,⟨yka HO_9.out⟩,⟨yhb⟩⟩
   have c17b0:((rd l0 x38_2) == a2)=false:=beq_eq_false_iff_ne.mpr c17
   have c17b1:((rd l0 x38_2) != a2)=true:=bne_iff_ne.mpr c17
   replace H:=yit H;obtain ⟨c22,H⟩ | ⟨c22,H⟩:=H
   rotate_left
   ·have c22b0:((rd l0 x38_2) == a3)=false:=beq_eq_false_iff_ne.mpr c22
    have c22b1:((rd l0 x38_2) != a3)=true:=bne_iff_ne.mpr c22
    replace H:=yam H
    obtain ⟨ad832,e832,hx832_0,p832,q832⟩:=yat HR0.out x38_2
    cases e832
    replace hx832_0:=ybx HB.out hx832_0
    go_wp2
    go_roundg k2
    case measure=>have:=HJ4.out;have:=HK2.out;omega
    case rel=>exact ⟨(x9_2),(wrap64 (x38_2 + 1)),yeq,H,⟨by have:=HJ4.out;have:=HK2.out;omega⟩,⟨yka HO_9.out⟩,⟨yhb⟩⟩
   have c22b0:((rd l0 x38_2) == a3)=true:=beq_iff_eq.mpr c22
   have c22b1:((rd l0 x38_2) != a3)=false:=bne_eq_false_iff_eq.mpr c22
   clear c22
   replace H:=yif H;obtain ⟨c23b0,H⟩:=H
   obtain ⟨y834,Ny834⟩:∃ y_:List Int,Aside0 (y_=(x9_2.set (x38_2:Int).toNat a2)):=⟨_,⟨rfl⟩⟩
   replace H:(impl_GridSwap.l0 k2 a2 a3 y834 l0 (l0.length:Int) (wrap64 (x38_2 + 1)))=some r:=yhn Ny834.out H
   replace H:=yam H
   obtain ⟨ad832,e832,hx832_0,p832,q832⟩:=yat HR0.out x38_2
   cases e832
   replace hx832_0:=ybx HB.out hx832_0
   have p24:0≤(x38_2:Int):=ydt
   have q24:(x38_2:Int) < ((x9_2.length:Int):Int):=ydt
   obtain ⟨go24,co24,eo24,gb24,gl24,cl24,HG24⟩:=Kd.R_form HO_9.out (by omega)
   (first|cases eo24|(injection eo24 with ea_ en_ ec_;(first|subst ea_|(injection ea_ with ea_;subst ea_));subst ec_;clear en_))
   have GB24:=yam gb24
   have GG24:=yam HG24
   clear gb24 gl24 HG24
   obtain ⟨hx24_0,hf24_0⟩:=Kd.R_celln 0 HO_9.out (x38_2:Int) p24 q24
   replace p24:=eq_true p24
   replace q24:=eq_true q24
   have HP25:=Kd.R_putg HO_9.out (x38_2:Int) a2
   go_wp2_with (first|((with_reducible refine gate_store (t:=3) (p:=57) rfl ?_);refine store_event (t:=3) (p:=57) (v:=?vo_w26) (w1:=(wr.setCell ⟨go24,(x38_2:Int).toNat,none⟩ (.int .i64 a2))) ?hg ?ho ?hn ?hr ?_;(case ho=>rfl);(case hg=>rfl);(case hn=>rfl);(case hr=>first|(go_simp;done)|(go_simp;rfl));intro w26 hw;have hg:wr.grownBy w26 (some go24):=(by rw [hw];exact HP25.2);have hp_:Kd.R (Kd.int .i64) 3 w26 w.heap.size (fun _=>True) (.slice (some ⟨go24,0,none⟩) x9_2.length co24) y834:=(by rw [hw,Ny834.out];exact HP25.1);clear HP25;replace HO_9:=yam (hp_);replace HB:=yam ((by rw [hw];exact below_set (HB.out) GB24.out:Below w.heap.size w w26));clear hg hw hp_))
   go_roundg k2
   case measure=>have:=HJ4.out;have:=HK2.out;omega
   case rel=>exact ⟨(y834),(wrap64 (x38_2 + 1)),yeq,H,⟨by have:=HJ4.out;have:=HK2.out;omega⟩,⟨yka HO_9.out⟩,⟨yhb⟩⟩
def laws_FnRuleSwap.f (k:Nat)(l0:List Int):Option (Bool):=if (l0.length:Int) > 1048576 then (some true) else ((spec_DrawRuleHolds.f k l0).bind fun bt835=>((impl_RuleHolds.f k bt835.1 bt835.2.1 bt835.2.2.1 bt835.2.2.2.1 bt835.2.2.2.2).bind fun t845=>((spec_RuleHolds.f k bt835.1 bt835.2.1 bt835.2.2.1 bt835.2.2.2.1 bt835.2.2.2.2).bind fun t846=>(if (t845 != t846)=true then (some false) else (if bt835.1=1 then ((impl_GridSwap.f k bt835.2.2.2.1 bt835.2.2.2.2 1 2).bind fun t847=>((impl_RuleHolds.f k bt835.1 bt835.2.1 bt835.2.2.1 t847 bt835.2.2.2.2).bind fun t850=>(if (t850 == t845)=true then ((laws_alive.f k).bind fun t851=>(some t851)) else (some false)))) else ((laws_alive.f k).bind fun t852=>(some t852)))))))
def laws_FnRuleSwap.T7:Bool × List (List Nat × List Nat):=(true,[([],[]),([0],[0]),([1],[1]),([2],[2]),([3],[3]),([3],[3]),([3],[3]),([5,6,3,3],[3,5,6]),([3],[3]),([4,7,8,7,3],[3,4,7,8]),([3],[3]),([9,10,3],[3,9,10]),([3,11],[3,11]),([12,9],[12]),([13,13],[13]),([13,14],[13,14]),([15,14,0,1,2,3,4,5,6,7,8,9,10,11,12,13,14,15],[15])])
def laws_FnRuleSwap.B7:List Nat:=[0,1,3,7,15,15,15,111,15,511,15,2047,4095,8191,16383,32767,65535]
theorem laws_FnRuleSwap.tab7:rtab .any (opsOf Try.f9 7)=laws_FnRuleSwap.T7:=by kernel_rfl
theorem laws_FnRuleSwap.bits7:waitsOk laws_FnRuleSwap.T7.2 laws_FnRuleSwap.B7=true:=by kernel_rfl
theorem laws_FnRuleSwap.calls (k:Nat)(A0:Option Addr)(c0:Nat)(l0:List Int)(r:Bool)(w:World)(hr0:Kd.C (Kd.int .u8) w A0 l0.length l0)(hc0:l0.length≤c0)(h:laws_FnRuleSwap.f k l0=some r) :
  Calls Try.prog 9 #[.slice A0 l0.length c0] w fun e w'=>e= .returned (.bool r)∧Below w.heap.size w w':=by
 have hu32:=Try.underlying32
 have HR0:=yam hr0
 have HC0:=yam hc0
 clear hr0 hc0
 have HB:=yam (Below.refl w.heap.size w)
 unfold laws_FnRuleSwap.f at h
 have H:=h
 clear h
 replace H:=yit H;obtain ⟨c2,H⟩ | ⟨c2,H⟩:=H
 ·have c2b0:decide (1048576 < (l0.length:Int))=true:=decide_eq_true c2
  have c2b1:decide (1048576 < l0.length)=true:=decide_eq_true (by omega)
  clear c2
  obtain rfl:=ysi H
  go_enter Try.func9,Try.ntmps9
  go_wp2
  go_ret
  exact ⟨yer,yhb⟩
 have c2b0:decide (1048576 < (l0.length:Int))=false:=decide_eq_false c2
 have c2b1:decide (1048576 < l0.length)=false:=decide_eq_false (by omega)
 clear c2
 replace H:=ybi H;obtain ⟨⟨t835,t836,t839,t840,t843⟩,A3,H⟩:=H
 try dsimp only at H
 replace H:=ybi H;obtain ⟨t845,A4,H⟩:=H
 try dsimp only at H
 replace H:=ybi H;obtain ⟨t846,A5,H⟩:=H
 try dsimp only at H
 replace H:=yit H;obtain ⟨c6,H⟩ | ⟨c6,H⟩:=H
 ·have c6b0:(t845 != t846)=true:=c6
  (try (have c6b1:decide (t845=t846)=false:=by simpa using c6))
  (try (have c6b2:(t845 == t846)=false:=by simpa using c6))
  (try (have c6b3:¬ (t845=t846):=by simpa using c6))
  clear c6
  obtain rfl:=ysi H
  go_enter Try.func9,Try.ntmps9
  go_wp2_with (first|(refine goesL_ (some 12) rfl rfl Try.func45 (by kernel_rfl) rfl #[.slice A0 l0.length c0] rfl ymd ?_;(with_reducible refine (spec_DrawRuleHolds.calls k _ _ l0 t835 t836 t839 t840 t843 _ ?_ ?_ A3.out).mono ?_);exact Kd.Cz (HR0.out);exact HC0.out;rintro e w7 ⟨v837,v841,rfl,ho0,ho1,hb⟩;refine ⟨_,rfl,?_⟩;have HO838:=yam (Kd.R_lower ho0 (below_size (yez HB.out)));have HO842:=yam (Kd.R_lower ho1 (below_size (yez HB.out)));replace HB:=yam (below_step (yez HB.out) hb);(try clear hb);(try clear ho0);(try clear ho1))|(refine ybe 3 #[.int .i64 0,.slice none 0 0,.int .i64 0] 32 ?_;intro gb844 hg w8 hbox hb;replace HO838:=yam (Kd.R_below (Kd.Yz HO838.out) hb);replace HO842:=yam (Kd.R_below (Kd.Yz HO842.out) hb);have BK844:=yam (hbox);have GW844:=yam ((by rw [hg];exact (below_size (yez HB.out)):w.heap.size≤gb844));replace HB:=yam (below_step (yez HB.out) hb);have GE844:=GW844;clear hb hbox hg;obtain ⟨hcz9_0,hcz9_1,hcz9_2,hfz9_0,hfz9_1,hfz9_2⟩:=ybc BK844.out;obtain ⟨Ao10,co10,eo10⟩:=Kd.R_slice HO838.out;subst eo10;obtain ⟨Ao11,co11,eo11⟩:=Kd.R_slice HO842.out;subst eo11)|(refine goesL_ (some 19) rfl rfl Try.func46 (by kernel_rfl) rfl #[.agg #[.int .i64 t835,.slice Ao10 t836.length co10,.int .i64 t839],.slice Ao11 t840.length co11,.int .i64 t843] rfl ymd ?_;(with_reducible refine (impl_RuleHolds.calls k t835 _ _ t836 t839 _ _ t840 t843 t845 _ ?side1 ?side2 ?side3 ?side4 A4.out).mono ?_);(case side1=>refine (Kd.Yr (e:=3) (base:=w.heap.size) (ok:=fun k_=>some k_≠(.slice Ao11 t840.length co11:Value).ownBlock) (n:=t836.length) (c:=co10) ?_).2.2;exact (by (with_reducible repeat (first|apply Kd.Ya|apply Kd.Yn|apply Kd.Yd));exact (Kd.R_mono (Kd.R_far (p:=⟨gb844,2,none⟩) (Kd.R_far (p:=⟨gb844,1,none⟩) (Kd.R_far (p:=⟨gb844,0,none⟩) (Kd.R_types HO838.out BK844.out (by decide)) (fun _ hk=>hk.2) (.int .i64 t835)) (fun _ hk=>hk.2) (.slice Ao10 t836.length co10)) (fun _ hk=>hk.2) (.int .i64 t839)) (fun _ h_=>h_.1))));(case side2=>exact (Kd.Yr HO838.out).2.1);(case side3=>refine (Kd.Yr (e:=3) (base:=w.heap.size) (ok:=fun k_=>some k_≠(.slice Ao10 t836.length co10:Value).ownBlock) (n:=t840.length) (c:=co11) ?_).2.2;exact (by (with_reducible repeat (first|apply Kd.Ya|apply Kd.Yn|apply Kd.Yd));exact (Kd.R_mono (Kd.R_far (p:=⟨gb844,2,none⟩) (Kd.R_far (p:=⟨gb844,1,none⟩) (Kd.R_far (p:=⟨gb844,0,none⟩) (Kd.R_types HO842.out BK844.out (by decide)) (fun _ hk=>hk.2) (.int .i64 t835)) (fun _ hk=>hk.2) (.slice Ao10 t836.length co10)) (fun _ hk=>hk.2) (.int .i64 t839)) (fun _ h_=>h_.1))));(case side4=>exact (Kd.Yr HO842.out).2.1);rintro e w12 ⟨rfl,hb⟩;refine ⟨_,rfl,?_⟩;replace HO838:=yam (Kd.R_below (by (with_reducible repeat (first|apply Kd.Ya|apply Kd.Yn|apply Kd.Yd));exact (Kd.R_mono (Kd.R_far (p:=⟨gb844,2,none⟩) (Kd.R_far (p:=⟨gb844,1,none⟩) (Kd.R_far (p:=⟨gb844,0,none⟩) (Kd.R_types HO838.out BK844.out (by decide)) (fun _ hk=>hk.2) (.int .i64 t835)) (fun _ hk=>hk.2) (.slice Ao10 t836.length co10)) (fun _ hk=>hk.2) (.int .i64 t839)) (fun _ h_=>h_.1))) hb);replace HO842:=yam (Kd.R_below (by (with_reducible repeat (first|apply Kd.Ya|apply Kd.Yn|apply Kd.Yd));exact (Kd.R_mono (Kd.R_far (p:=⟨gb844,2,none⟩) (Kd.R_far (p:=⟨gb844,1,none⟩) (Kd.R_far (p:=⟨gb844,0,none⟩) (Kd.R_types HO842.out BK844.out (by decide)) (fun _ hk=>hk.2) (.int .i64 t835)) (fun _ hk=>hk.2) (.slice Ao10 t836.length co10)) (fun _ hk=>hk.2) (.int .i64 t839)) (fun _ h_=>h_.1))) hb);replace BK844:=yam (blk_below (g:=gb844) (o:= .cells #[.int .i64 t835,.slice Ao10 t836.length co10,.int .i64 t839] 32 (0,0)) (by (with_reducible repeat (first|refine ybn ?_ _|refine ybd ?_|refine yba ?_ _));refine blk_put (cs:= #[.int .i64 t835,.slice Ao10 t836.length co10,.int .i64 0]) ?_ 2 _ rfl;(with_reducible repeat (first|refine ybn ?_ _|refine ybd ?_|refine yba ?_ _));refine blk_put (cs:= #[.int .i64 t835,.slice none 0 0,.int .i64 0]) ?_ 1 _ rfl;(with_reducible repeat (first|refine ybn ?_ _|refine ybd ?_|refine yba ?_ _));refine blk_put (cs:= #[.int .i64 0,.slice none 0 0,.int .i64 0]) ?_ 0 _ rfl;(with_reducible repeat (first|refine ybn ?_ _|refine ybd ?_|refine yba ?_ _));exact BK844.out) hb);replace HB:=yam (below_step yhb hb);(try clear hb);(try clear hk);obtain ⟨hcz13_0,hcz13_1,hcz13_2,hfz13_0,hfz13_1,hfz13_2⟩:=ybc BK844.out)|(refine goesL_ (some 24) rfl rfl Try.func47 (by kernel_rfl) rfl #[.agg #[.int .i64 t835,.slice Ao10 t836.length co10,.int .i64 t839],.slice Ao11 t840.length co11,.int .i64 t843] rfl ymd ?_;(with_reducible refine (spec_RuleHolds.calls k t835 _ _ t836 t839 _ _ t840 t843 t846 _ ?_ ?_ ?_ ?_ A5.out).mono ?_);exact Kd.Cz (Kd.Yr HO838.out).2.2;exact (Kd.Yr HO838.out).2.1;exact Kd.Cz (Kd.Yr HO842.out).2.2;exact (Kd.Yr HO842.out).2.1;rintro e w14 ⟨rfl,hb⟩;refine ⟨_,rfl,?_⟩;replace HO838:=yam (Kd.R_below (Kd.Yz HO838.out) hb);replace HO842:=yam (Kd.R_below (Kd.Yz HO842.out) hb);replace BK844:=yam (ybb BK844.out hb);replace HB:=yam (below_step yhb hb);(try clear hb)))
  go_ret
  exact ⟨yer,yhb⟩
 have c6b0:(t845 != t846)=false:=by simpa using c6
 (try (have c6b1:decide (t845=t846)=true:=by simpa using c6))
 (try (have c6b2:(t845 == t846)=true:=by simpa using c6))
 clear c6
 replace H:=yit H;obtain ⟨c15,H⟩ | ⟨c15,H⟩:=H
 rotate_left
 ·have c15b0:(t835 == 1)=false:=beq_eq_false_iff_ne.mpr c15
  have c15b1:(t835 != 1)=true:=bne_iff_ne.mpr c15
  replace H:=ybi H;obtain ⟨t852,A45,H⟩:=H
  try dsimp only at H
  obtain rfl:=ysi H
  go_enter Try.func9,Try.ntmps9
  try go_wp2_with (first|(refine goesL_ (some 12) rfl rfl Try.func45 (by kernel_rfl) rfl #[.slice A0 l0.length c0] rfl ymd ?_;(with_reducible refine (spec_DrawRuleHolds.calls k _ _ l0 t835 t836 t839 t840 t843 _ ?_ ?_ A3.out).mono ?_);exact Kd.Cz (HR0.out);exact HC0.out;rintro e w46 ⟨v837,v841,rfl,ho0,ho1,hb⟩;refine ⟨_,rfl,?_⟩;have HO838:=yam (Kd.R_lower ho0 (below_size (yez HB.out)));have HO842:=yam (Kd.R_lower ho1 (below_size (yez HB.out)));replace HB:=yam (below_step (yez HB.out) hb);(try clear hb);(try clear ho0);(try clear ho1))|(refine ybe 3 #[.int .i64 0,.slice none 0 0,.int .i64 0] 32 ?_;intro gb844 hg w47 hbox hb;replace HO838:=yam (Kd.R_below (Kd.Yz HO838.out) hb);replace HO842:=yam (Kd.R_below (Kd.Yz HO842.out) hb);have BK844:=yam (hbox);have GW844:=yam ((by rw [hg];exact (below_size (yez HB.out)):w.heap.size≤gb844));replace HB:=yam (below_step (yez HB.out) hb);have GE844:=GW844;clear hb hbox hg;obtain ⟨hcz48_0,hcz48_1,hcz48_2,hfz48_0,hfz48_1,hfz48_2⟩:=ybc BK844.out;obtain ⟨Ao49,co49,eo49⟩:=Kd.R_slice HO838.out;subst eo49;obtain ⟨Ao50,co50,eo50⟩:=Kd.R_slice HO842.out;subst eo50)|(refine goesL_ (some 19) rfl rfl Try.func46 (by kernel_rfl) rfl #[.agg #[.int .i64 t835,.slice Ao49 t836.length co49,.int .i64 t839],.slice Ao50 t840.length co50,.int .i64 t843] rfl ymd ?_;(with_reducible refine (impl_RuleHolds.calls k t835 _ _ t836 t839 _ _ t840 t843 t845 _ ?side1 ?side2 ?side3 ?side4 A4.out).mono ?_);(case side1=>refine (Kd.Yr (e:=3) (base:=w.heap.size) (ok:=fun k_=>some k_≠(.slice Ao50 t840.length co50:Value).ownBlock) (n:=t836.length) (c:=co49) ?_).2.2;exact (by (with_reducible repeat (first|apply Kd.Ya|apply Kd.Yn|apply Kd.Yd));exact (Kd.R_mono (Kd.R_far (p:=⟨gb844,2,none⟩) (Kd.R_far (p:=⟨gb844,1,none⟩) (Kd.R_far (p:=⟨gb844,0,none⟩) (Kd.R_types HO838.out BK844.out (by decide)) (fun _ hk=>hk.2) (.int .i64 t835)) (fun _ hk=>hk.2) (.slice Ao49 t836.length co49)) (fun _ hk=>hk.2) (.int .i64 t839)) (fun _ h_=>h_.1))));(case side2=>exact (Kd.Yr HO838.out).2.1);(case side3=>refine (Kd.Yr (e:=3) (base:=w.heap.size) (ok:=fun k_=>some k_≠(.slice Ao49 t836.length co49:Value).ownBlock) (n:=t840.length) (c:=co50) ?_).2.2;exact (by (with_reducible repeat (first|apply Kd.Ya|apply Kd.Yn|apply Kd.Yd));exact (Kd.R_mono (Kd.R_far (p:=⟨gb844,2,none⟩) (Kd.R_far (p:=⟨gb844,1,none⟩) (Kd.R_far (p:=⟨gb844,0,none⟩) (Kd.R_types HO842.out BK844.out (by decide)) (fun _ hk=>hk.2) (.int .i64 t835)) (fun _ hk=>hk.2) (.slice Ao49 t836.length co49)) (fun _ hk=>hk.2) (.int .i64 t839)) (fun _ h_=>h_.1))));(case side4=>exact (Kd.Yr HO842.out).2.1);rintro e w51 ⟨rfl,hb⟩;refine ⟨_,rfl,?_⟩;replace HO838:=yam (Kd.R_below (by (with_reducible repeat (first|apply Kd.Ya|apply Kd.Yn|apply Kd.Yd));exact (Kd.R_mono (Kd.R_far (p:=⟨gb844,2,none⟩) (Kd.R_far (p:=⟨gb844,1,none⟩) (Kd.R_far (p:=⟨gb844,0,none⟩) (Kd.R_types HO838.out BK844.out (by decide)) (fun _ hk=>hk.2) (.int .i64 t835)) (fun _ hk=>hk.2) (.slice Ao49 t836.length co49)) (fun _ hk=>hk.2) (.int .i64 t839)) (fun _ h_=>h_.1))) hb);replace HO842:=yam (Kd.R_below (by (with_reducible repeat (first|apply Kd.Ya|apply Kd.Yn|apply Kd.Yd));exact (Kd.R_mono (Kd.R_far (p:=⟨gb844,2,none⟩) (Kd.R_far (p:=⟨gb844,1,none⟩) (Kd.R_far (p:=⟨gb844,0,none⟩) (Kd.R_types HO842.out BK844.out (by decide)) (fun _ hk=>hk.2) (.int .i64 t835)) (fun _ hk=>hk.2) (.slice Ao49 t836.length co49)) (fun _ hk=>hk.2) (.int .i64 t839)) (fun _ h_=>h_.1))) hb);replace BK844:=yam (blk_below (g:=gb844) (o:= .cells #[.int .i64 t835,.slice Ao49 t836.length co49,.int .i64 t839] 32 (0,0)) (by (with_reducible repeat (first|refine ybn ?_ _|refine ybd ?_|refine yba ?_ _));refine blk_put (cs:= #[.int .i64 t835,.slice Ao49 t836.length co49,.int .i64 0]) ?_ 2 _ rfl;(with_reducible repeat (first|refine ybn ?_ _|refine ybd ?_|refine yba ?_ _));refine blk_put (cs:= #[.int .i64 t835,.slice none 0 0,.int .i64 0]) ?_ 1 _ rfl;(with_reducible repeat (first|refine ybn ?_ _|refine ybd ?_|refine yba ?_ _));refine blk_put (cs:= #[.int .i64 0,.slice none 0 0,.int .i64 0]) ?_ 0 _ rfl;(with_reducible repeat (first|refine ybn ?_ _|refine ybd ?_|refine yba ?_ _));exact BK844.out) hb);replace HB:=yam (below_step yhb hb);(try clear hb);(try clear hk);obtain ⟨hcz52_0,hcz52_1,hcz52_2,hfz52_0,hfz52_1,hfz52_2⟩:=ybc BK844.out)|(refine goesL_ (some 24) rfl rfl Try.func47 (by kernel_rfl) rfl #[.agg #[.int .i64 t835,.slice Ao49 t836.length co49,.int .i64 t839],.slice Ao50 t840.length co50,.int .i64 t843] rfl ymd ?_;(with_reducible refine (spec_RuleHolds.calls k t835 _ _ t836 t839 _ _ t840 t843 t846 _ ?_ ?_ ?_ ?_ A5.out).mono ?_);exact Kd.Cz (Kd.Yr HO838.out).2.2;exact (Kd.Yr HO838.out).2.1;exact Kd.Cz (Kd.Yr HO842.out).2.2;exact (Kd.Yr HO842.out).2.1;rintro e w53 ⟨rfl,hb⟩;refine ⟨_,rfl,?_⟩;replace HO838:=yam (Kd.R_below (Kd.Yz HO838.out) hb);replace HO842:=yam (Kd.R_below (Kd.Yz HO842.out) hb);replace BK844:=yam (ybb BK844.out hb);replace HB:=yam (below_step yhb hb);(try clear hb)))
  replace HO838:=yam (Kd.Yd HO838.out)
  replace HO842:=yam (Kd.Yd HO842.out)
  replace BK844:=yam (ybd BK844.out)
  replace HB:=yam (yed HB.out)
  refine start_ (n:=17) (S:=fun w'=>w'.cell? ⟨gb844,0,none⟩=some (.int .i64 t835)∧w'.cell? ⟨gb844,1,none⟩=some (.slice Ao49 t836.length co49)∧w'.cell? ⟨gb844,2,none⟩=some (.int .i64 t839)) (ds:=[]) (yvb 17 0) (by kernel_rfl) rfl rfl ⟨(blk_cell BK844.out 0).trans rfl,(blk_cell BK844.out 1).trans rfl,(blk_cell BK844.out 2).trans rfl⟩ (fun hHeld=>?_);refine with_tabW laws_FnRuleSwap.tab7 laws_FnRuleSwap.bits7 (fun HT_ HW_=>?_)
  generalize w53.drew=w54 at HO838 HO842 BK844 HB hHeld ⊢
  refine yvp 0 26 (yvb 17 1) HT_.out ?_
  refine yvt 1 27 (yvb 17 3) HT_.out HW_.out hHeld ?_
  refine yvp 2 28 (yvb 17 7) HT_.out ?_
  refine yvp 3 29 (yvb 17 15) HT_.out ?_
  refine yvu 4 30 (yvb 17 31) HT_.out ?_
  refine yvu 5 31 (yvb 17 63) HT_.out ?_
  refine yvu 6 32 (yvb 17 127) HT_.out ?_
  refine yvu 7 33 (yvb 17 255) HT_.out ?_
  refine yvu 8 34 (yvb 17 511) HT_.out ?_
  refine yvu 9 35 (yvb 17 1023) HT_.out ?_
  refine yvu 10 36 (yvb 17 2047) HT_.out ?_
  refine yvu 11 37 (yvb 17 4095) HT_.out ?_
  refine yvp 12 38 (yvb 17 8191) HT_.out ?_
  refine yvp 13 39 (yvb 17 16383) HT_.out ?_
  refine one_ (i:=14) (N:=some 40) (yvb 17 32767) rfl rfl (one_of HT_.out (by kernel_rfl)) (by decide) (fun K hK=>?_)
  refine goes_ Try.func19 (by kernel_rfl) rfl #[] (by rfl) rfl rfl ymd ?_
  with_reducible refine (laws_alive.calls k  t852 _ A45.out).mono ?_
  rintro e w55 ⟨rfl,hb⟩
  refine ⟨_,rfl,?_⟩
  replace HO838:=yam (Kd.R_below (Kd.Yz HO838.out) hb)
  replace HO842:=yam (Kd.R_below (Kd.Yz HO842.out) hb)
  replace BK844:=yam (ybb BK844.out hb)
  replace HB:=yam (below_step yhb hb)
  (try clear hb)
  (try clear hb2)
  (try clear hk)
  (try clear hi)
  refine hK.out _ _ ⟨(blk_cell BK844.out 0).trans rfl,(blk_cell BK844.out 1).trans rfl,(blk_cell BK844.out 2).trans rfl⟩ (fun hHeld=>?_)
  clear hK K
  refine norm_ (a':=?_) ?_ ?_
  rotate_left
  ·show Act.put _ (some 40) _=_
   simp only [Act.put,yps,i64_w,i32_w]
   rfl
  refine yvp 15 41 (yvb 17 65535) HT_.out ?_
  refine yvp 16 2 (yvb 17 131071) HT_.out ?_
  refine done_ (done_of HT_.out (by kernel_rfl)) ?_
  try go_wp2
  go_ret
  exact ⟨yer,yhb⟩
 have c15b0:(t835 == 1)=true:=beq_iff_eq.mpr c15
 have c15b1:(t835 != 1)=false:=bne_eq_false_iff_eq.mpr c15
 clear c15
 replace H:=ybi H;obtain ⟨t847,A16,H⟩:=H
 try dsimp only at H
 replace H:=ybi H;obtain ⟨t850,A17,H⟩:=H
 try dsimp only at H
 replace H:=yit H;obtain ⟨c18,H⟩ | ⟨c18,H⟩:=H
 rotate_left
 ·have c18b0:(t850 == t845)=false:=by simpa using c18
  (try (have c18b1:decide (t850=t845)=false:=by simpa using c18))
  (try (have c18b2:(t850 == t845)=false:=by simpa using c18))
  (try (have c18b3:¬ (t850=t845):=by simpa using c18))
  clear c18
  obtain rfl:=ysi H
  go_enter Try.func9,Try.ntmps9
  try go_wp2_with (first|(refine goesL_ (some 12) rfl rfl Try.func45 (by kernel_rfl) rfl #[.slice A0 l0.length c0] rfl ymd ?_;(with_reducible refine (spec_DrawRuleHolds.calls k _ _ l0 t835 t836 t839 t840 t843 _ ?_ ?_ A3.out).mono ?_);exact Kd.Cz (HR0.out);exact HC0.out;rintro e w33 ⟨v837,v841,rfl,ho0,ho1,hb⟩;refine ⟨_,rfl,?_⟩;have HO838:=yam (Kd.R_lower ho0 (below_size (yez HB.out)));have HO842:=yam (Kd.R_lower ho1 (below_size (yez HB.out)));replace HB:=yam (below_step (yez HB.out) hb);(try clear hb);(try clear ho0);(try clear ho1))|(refine ybe 3 #[.int .i64 0,.slice none 0 0,.int .i64 0] 32 ?_;intro gb844 hg w34 hbox hb;replace HO838:=yam (Kd.R_below (Kd.Yz HO838.out) hb);replace HO842:=yam (Kd.R_below (Kd.Yz HO842.out) hb);have BK844:=yam (hbox);have GW844:=yam ((by rw [hg];exact (below_size (yez HB.out)):w.heap.size≤gb844));replace HB:=yam (below_step (yez HB.out) hb);have GE844:=GW844;clear hb hbox hg;obtain ⟨hcz35_0,hcz35_1,hcz35_2,hfz35_0,hfz35_1,hfz35_2⟩:=ybc BK844.out;obtain ⟨Ao36,co36,eo36⟩:=Kd.R_slice HO838.out;subst eo36;obtain ⟨Ao37,co37,eo37⟩:=Kd.R_slice HO842.out;subst eo37)|(refine goesL_ (some 19) rfl rfl Try.func46 (by kernel_rfl) rfl #[.agg #[.int .i64 t835,.slice Ao36 t836.length co36,.int .i64 t839],.slice Ao37 t840.length co37,.int .i64 t843] rfl ymd ?_;(with_reducible refine (impl_RuleHolds.calls k t835 _ _ t836 t839 _ _ t840 t843 t845 _ ?side1 ?side2 ?side3 ?side4 A4.out).mono ?_);(case side1=>refine (Kd.Yr (e:=3) (base:=w.heap.size) (ok:=fun k_=>some k_≠(.slice Ao37 t840.length co37:Value).ownBlock) (n:=t836.length) (c:=co36) ?_).2.2;exact (by (with_reducible repeat (first|apply Kd.Ya|apply Kd.Yn|apply Kd.Yd));exact (Kd.R_mono (Kd.R_far (p:=⟨gb844,2,none⟩) (Kd.R_far (p:=⟨gb844,1,none⟩) (Kd.R_far (p:=⟨gb844,0,none⟩) (Kd.R_types HO838.out BK844.out (by decide)) (fun _ hk=>hk.2) (.int .i64 t835)) (fun _ hk=>hk.2) (.slice Ao36 t836.length co36)) (fun _ hk=>hk.2) (.int .i64 t839)) (fun _ h_=>h_.1))));(case side2=>exact (Kd.Yr HO838.out).2.1);(case side3=>refine (Kd.Yr (e:=3) (base:=w.heap.size) (ok:=fun k_=>some k_≠(.slice Ao36 t836.length co36:Value).ownBlock) (n:=t840.length) (c:=co37) ?_).2.2;exact (by (with_reducible repeat (first|apply Kd.Ya|apply Kd.Yn|apply Kd.Yd));exact (Kd.R_mono (Kd.R_far (p:=⟨gb844,2,none⟩) (Kd.R_far (p:=⟨gb844,1,none⟩) (Kd.R_far (p:=⟨gb844,0,none⟩) (Kd.R_types HO842.out BK844.out (by decide)) (fun _ hk=>hk.2) (.int .i64 t835)) (fun _ hk=>hk.2) (.slice Ao36 t836.length co36)) (fun _ hk=>hk.2) (.int .i64 t839)) (fun _ h_=>h_.1))));(case side4=>exact (Kd.Yr HO842.out).2.1);rintro e w38 ⟨rfl,hb⟩;refine ⟨_,rfl,?_⟩;replace HO838:=yam (Kd.R_below (by (with_reducible repeat (first|apply Kd.Ya|apply Kd.Yn|apply Kd.Yd));exact (Kd.R_mono (Kd.R_far (p:=⟨gb844,2,none⟩) (Kd.R_far (p:=⟨gb844,1,none⟩) (Kd.R_far (p:=⟨gb844,0,none⟩) (Kd.R_types HO838.out BK844.out (by decide)) (fun _ hk=>hk.2) (.int .i64 t835)) (fun _ hk=>hk.2) (.slice Ao36 t836.length co36)) (fun _ hk=>hk.2) (.int .i64 t839)) (fun _ h_=>h_.1))) hb);replace HO842:=yam (Kd.R_below (by (with_reducible repeat (first|apply Kd.Ya|apply Kd.Yn|apply Kd.Yd));exact (Kd.R_mono (Kd.R_far (p:=⟨gb844,2,none⟩) (Kd.R_far (p:=⟨gb844,1,none⟩) (Kd.R_far (p:=⟨gb844,0,none⟩) (Kd.R_types HO842.out BK844.out (by decide)) (fun _ hk=>hk.2) (.int .i64 t835)) (fun _ hk=>hk.2) (.slice Ao36 t836.length co36)) (fun _ hk=>hk.2) (.int .i64 t839)) (fun _ h_=>h_.1))) hb);replace BK844:=yam (blk_below (g:=gb844) (o:= .cells #[.int .i64 t835,.slice Ao36 t836.length co36,.int .i64 t839] 32 (0,0)) (by (with_reducible repeat (first|refine ybn ?_ _|refine ybd ?_|refine yba ?_ _));refine blk_put (cs:= #[.int .i64 t835,.slice Ao36 t836.length co36,.int .i64 0]) ?_ 2 _ rfl;(with_reducible repeat (first|refine ybn ?_ _|refine ybd ?_|refine yba ?_ _));refine blk_put (cs:= #[.int .i64 t835,.slice none 0 0,.int .i64 0]) ?_ 1 _ rfl;(with_reducible repeat (first|refine ybn ?_ _|refine ybd ?_|refine yba ?_ _));refine blk_put (cs:= #[.int .i64 0,.slice none 0 0,.int .i64 0]) ?_ 0 _ rfl;(with_reducible repeat (first|refine ybn ?_ _|refine ybd ?_|refine yba ?_ _));exact BK844.out) hb);replace HB:=yam (below_step yhb hb);(try clear hb);(try clear hk);obtain ⟨hcz39_0,hcz39_1,hcz39_2,hfz39_0,hfz39_1,hfz39_2⟩:=ybc BK844.out)|(refine goesL_ (some 24) rfl rfl Try.func47 (by kernel_rfl) rfl #[.agg #[.int .i64 t835,.slice Ao36 t836.length co36,.int .i64 t839],.slice Ao37 t840.length co37,.int .i64 t843] rfl ymd ?_;(with_reducible refine (spec_RuleHolds.calls k t835 _ _ t836 t839 _ _ t840 t843 t846 _ ?_ ?_ ?_ ?_ A5.out).mono ?_);exact Kd.Cz (Kd.Yr HO838.out).2.2;exact (Kd.Yr HO838.out).2.1;exact Kd.Cz (Kd.Yr HO842.out).2.2;exact (Kd.Yr HO842.out).2.1;rintro e w40 ⟨rfl,hb⟩;refine ⟨_,rfl,?_⟩;replace HO838:=yam (Kd.R_below (Kd.Yz HO838.out) hb);replace HO842:=yam (Kd.R_below (Kd.Yz HO842.out) hb);replace BK844:=yam (ybb BK844.out hb);replace HB:=yam (below_step yhb hb);(try clear hb)))
  replace HO838:=yam (Kd.Yd HO838.out)
  replace HO842:=yam (Kd.Yd HO842.out)
  replace BK844:=yam (ybd BK844.out)
  replace HB:=yam (yed HB.out)
  refine start_ (n:=17) (S:=fun w'=>w'.cell? ⟨gb844,0,none⟩=some (.int .i64 t835)∧w'.cell? ⟨gb844,1,none⟩=some (.slice Ao36 t836.length co36)∧w'.cell? ⟨gb844,2,none⟩=some (.int .i64 t839)) (ds:=[]) (yvb 17 0) (by kernel_rfl) rfl rfl ⟨(blk_cell BK844.out 0).trans rfl,(blk_cell BK844.out 1).trans rfl,(blk_cell BK844.out 2).trans rfl⟩ (fun hHeld=>?_);refine with_tabW laws_FnRuleSwap.tab7 laws_FnRuleSwap.bits7 (fun HT_ HW_=>?_)
  generalize w40.drew=w41 at HO838 HO842 BK844 HB hHeld ⊢
  refine yvp 0 26 (yvb 17 1) HT_.out ?_
  refine yvt 1 27 (yvb 17 3) HT_.out HW_.out hHeld ?_
  refine yvp 2 28 (yvb 17 7) HT_.out ?_
  refine yvp 3 29 (yvb 17 15) HT_.out ?_
  refine yvp 5 31 (yvb 17 47) HT_.out ?_
  refine yvp 6 32 (yvb 17 111) HT_.out ?_
  refine yvp 8 34 (yvb 17 367) HT_.out ?_
  refine yvp 10 36 (yvb 17 1391) HT_.out ?_
  refine yvt 4 30 (yvb 17 1407) HT_.out HW_.out hHeld ?_
  refine one_ (i:=7) (N:=some 33) (yvb 17 1535) rfl rfl (one_of HT_.out (by kernel_rfl)) (by decide) (fun K hK=>?_)
  refine goes_ Try.func48 (by kernel_rfl) rfl #[.slice Ao37 t840.length co37,.int .i64 t843,.int .i64 1,.int .i64 2] (by rfl) rfl rfl ymd ?_
  with_reducible refine (impl_GridSwap.calls k _ _ t840 t843 1 2 t847 _ ?_ ?_ A16.out).mono ?_
  exact Kd.Cz (Kd.Yr HO842.out).2.2
  exact (Kd.Yr HO842.out).2.1
  rintro e w42 ⟨v848,rfl,ho0,hb⟩
  refine ⟨_,rfl,?_⟩
  have HO849:=yam (Kd.R_lower (Kd.Yw (Kd.Yw ho0 (Kd.R_lt (Kd.Yz HO838.out))) (Kd.R_lt (Kd.Yz HO842.out))) (below_size yhb))
  replace HO838:=yam (Kd.Ye (Kd.Yz HO838.out) (Kd.Yb ho0) hb)
  replace HO842:=yam (Kd.Ye (Kd.Yz HO842.out) (Kd.Yb ho0) hb)
  replace BK844:=yam (ybb BK844.out hb)
  replace HB:=yam (below_step yhb hb)
  (try clear hb)
  (try clear hb2)
  (try clear hk)
  (try clear hi)
  (try clear ho0)
  obtain ⟨Ao43,co43,eo43⟩:=Kd.R_slice HO849.out
  (first|subst eo43|(injection eo43 with f1_ f2_ f3_;have f4_:=f1_.symm;have f5_:=f3_.symm;clear f1_ f2_ f3_;subst f4_;subst f5_))
  refine hK.out _ _ ⟨(blk_cell BK844.out 0).trans rfl,(blk_cell BK844.out 1).trans rfl,(blk_cell BK844.out 2).trans rfl⟩ (fun hHeld=>?_)
  clear hK K
  refine norm_ (a':=?_) ?_ ?_
  rotate_left
  ·show Act.put _ (some 33) _=_
   simp only [Act.put,yps,i64_w,i32_w]
   rfl
  refine one_ (i:=9) (N:=some 35) (yvb 17 2047) rfl rfl (one_of HT_.out (by kernel_rfl)) (by decide) (fun K hK=>?_)
  refine goes_ Try.func46 (by kernel_rfl) rfl #[.agg #[.int .i64 t835,.slice Ao36 t836.length co36,.int .i64 t839],.slice Ao43 t847.length co43,.int .i64 t843] (by rfl) rfl rfl ymd ?_
  with_reducible refine (impl_RuleHolds.calls k t835 _ _ t836 t839 _ _ t847 t843 t850 _ ?_ ?_ ?_ ?_ A17.out).mono ?_
  exact Kd.Cz (Kd.Yr HO838.out).2.2
  exact (Kd.Yr HO838.out).2.1
  exact Kd.Cz (Kd.Yr HO849.out).2.2
  exact (Kd.Yr HO849.out).2.1
  rintro e w44 ⟨rfl,hb⟩
  refine ⟨_,rfl,?_⟩
  replace HO838:=yam (Kd.R_below (Kd.Yz HO838.out) hb)
  replace HO842:=yam (Kd.R_below (Kd.Yz HO842.out) hb)
  replace HO849:=yam (Kd.R_below (Kd.Yz HO849.out) hb)
  replace BK844:=yam (ybb BK844.out hb)
  replace HB:=yam (below_step yhb hb)
  (try clear hb)
  (try clear hb2)
  (try clear hk)
  (try clear hi)
  refine hK.out _ _ ⟨(blk_cell BK844.out 0).trans rfl,(blk_cell BK844.out 1).trans rfl,(blk_cell BK844.out 2).trans rfl⟩ (fun hHeld=>?_)
  clear hK K
  refine norm_ (a':=?_) ?_ ?_
  rotate_left
  ·show Act.put _ (some 35) _=_
   simp only [Act.put,yps,i64_w,i32_w]
   rfl
  refine yvp 11 37 (yvb 17 4095) HT_.out ?_
  refine yvp 12 38 (yvb 17 8191) HT_.out ?_
  refine yvp 13 39 (yvb 17 16383) HT_.out ?_
  refine yvu 14 40 (yvb 17 32767) HT_.out ?_
  refine yvp 15 41 (yvb 17 65535) HT_.out ?_
  refine yvp 16 2 (yvb 17 131071) HT_.out ?_
  refine done_ (done_of HT_.out (by kernel_rfl)) ?_
  try go_wp2
  go_ret
  exact ⟨yer,yhb⟩
 have c18b0:(t850 == t845)=true:=c18
 (try (have c18b1:decide (t850=t845)=true:=by simpa using c18))
 (try (have c18b2:(t850 == t845)=true:=by simpa using c18))
 clear c18
 replace H:=ybi H;obtain ⟨t851,A19,H⟩:=H
 try dsimp only at H
 obtain rfl:=ysi H
 go_enter Try.func9,Try.ntmps9
 try go_wp2_with (first|(refine goesL_ (some 12) rfl rfl Try.func45 (by kernel_rfl) rfl #[.slice A0 l0.length c0] rfl ymd ?_;(with_reducible refine (spec_DrawRuleHolds.calls k _ _ l0 t835 t836 t839 t840 t843 _ ?_ ?_ A3.out).mono ?_);exact Kd.Cz (HR0.out);exact HC0.out;rintro e w20 ⟨v837,v841,rfl,ho0,ho1,hb⟩;refine ⟨_,rfl,?_⟩;have HO838:=yam (Kd.R_lower ho0 (below_size (yez HB.out)));have HO842:=yam (Kd.R_lower ho1 (below_size (yez HB.out)));replace HB:=yam (below_step (yez HB.out) hb);(try clear hb);(try clear ho0);(try clear ho1))|(refine ybe 3 #[.int .i64 0,.slice none 0 0,.int .i64 0] 32 ?_;intro gb844 hg w21 hbox hb;replace HO838:=yam (Kd.R_below (Kd.Yz HO838.out) hb);replace HO842:=yam (Kd.R_below (Kd.Yz HO842.out) hb);have BK844:=yam (hbox);have GW844:=yam ((by rw [hg];exact (below_size (yez HB.out)):w.heap.size≤gb844));replace HB:=yam (below_step (yez HB.out) hb);have GE844:=GW844;clear hb hbox hg;obtain ⟨hcz22_0,hcz22_1,hcz22_2,hfz22_0,hfz22_1,hfz22_2⟩:=ybc BK844.out;obtain ⟨Ao23,co23,eo23⟩:=Kd.R_slice HO838.out;subst eo23;obtain ⟨Ao24,co24,eo24⟩:=Kd.R_slice HO842.out;subst eo24)|(refine goesL_ (some 19) rfl rfl Try.func46 (by kernel_rfl) rfl #[.agg #[.int .i64 t835,.slice Ao23 t836.length co23,.int .i64 t839],.slice Ao24 t840.length co24,.int .i64 t843] rfl ymd ?_;(with_reducible refine (impl_RuleHolds.calls k t835 _ _ t836 t839 _ _ t840 t843 t845 _ ?side1 ?side2 ?side3 ?side4 A4.out).mono ?_);(case side1=>refine (Kd.Yr (e:=3) (base:=w.heap.size) (ok:=fun k_=>some k_≠(.slice Ao24 t840.length co24:Value).ownBlock) (n:=t836.length) (c:=co23) ?_).2.2;exact (by (with_reducible repeat (first|apply Kd.Ya|apply Kd.Yn|apply Kd.Yd));exact (Kd.R_mono (Kd.R_far (p:=⟨gb844,2,none⟩) (Kd.R_far (p:=⟨gb844,1,none⟩) (Kd.R_far (p:=⟨gb844,0,none⟩) (Kd.R_types HO838.out BK844.out (by decide)) (fun _ hk=>hk.2) (.int .i64 t835)) (fun _ hk=>hk.2) (.slice Ao23 t836.length co23)) (fun _ hk=>hk.2) (.int .i64 t839)) (fun _ h_=>h_.1))));(case side2=>exact (Kd.Yr HO838.out).2.1);(case side3=>refine (Kd.Yr (e:=3) (base:=w.heap.size) (ok:=fun k_=>some k_≠(.slice Ao23 t836.length co23:Value).ownBlock) (n:=t840.length) (c:=co24) ?_).2.2;exact (by (with_reducible repeat (first|apply Kd.Ya|apply Kd.Yn|apply Kd.Yd));exact (Kd.R_mono (Kd.R_far (p:=⟨gb844,2,none⟩) (Kd.R_far (p:=⟨gb844,1,none⟩) (Kd.R_far (p:=⟨gb844,0,none⟩) (Kd.R_types HO842.out BK844.out (by decide)) (fun _ hk=>hk.2) (.int .i64 t835)) (fun _ hk=>hk.2) (.slice Ao23 t836.length co23)) (fun _ hk=>hk.2) (.int .i64 t839)) (fun _ h_=>h_.1))));(case side4=>exact (Kd.Yr HO842.out).2.1);rintro e w25 ⟨rfl,hb⟩;refine ⟨_,rfl,?_⟩;replace HO838:=yam (Kd.R_below (by (with_reducible repeat (first|apply Kd.Ya|apply Kd.Yn|apply Kd.Yd));exact (Kd.R_mono (Kd.R_far (p:=⟨gb844,2,none⟩) (Kd.R_far (p:=⟨gb844,1,none⟩) (Kd.R_far (p:=⟨gb844,0,none⟩) (Kd.R_types HO838.out BK844.out (by decide)) (fun _ hk=>hk.2) (.int .i64 t835)) (fun _ hk=>hk.2) (.slice Ao23 t836.length co23)) (fun _ hk=>hk.2) (.int .i64 t839)) (fun _ h_=>h_.1))) hb);replace HO842:=yam (Kd.R_below (by (with_reducible repeat (first|apply Kd.Ya|apply Kd.Yn|apply Kd.Yd));exact (Kd.R_mono (Kd.R_far (p:=⟨gb844,2,none⟩) (Kd.R_far (p:=⟨gb844,1,none⟩) (Kd.R_far (p:=⟨gb844,0,none⟩) (Kd.R_types HO842.out BK844.out (by decide)) (fun _ hk=>hk.2) (.int .i64 t835)) (fun _ hk=>hk.2) (.slice Ao23 t836.length co23)) (fun _ hk=>hk.2) (.int .i64 t839)) (fun _ h_=>h_.1))) hb);replace BK844:=yam (blk_below (g:=gb844) (o:= .cells #[.int .i64 t835,.slice Ao23 t836.length co23,.int .i64 t839] 32 (0,0)) (by (with_reducible repeat (first|refine ybn ?_ _|refine ybd ?_|refine yba ?_ _));refine blk_put (cs:= #[.int .i64 t835,.slice Ao23 t836.length co23,.int .i64 0]) ?_ 2 _ rfl;(with_reducible repeat (first|refine ybn ?_ _|refine ybd ?_|refine yba ?_ _));refine blk_put (cs:= #[.int .i64 t835,.slice none 0 0,.int .i64 0]) ?_ 1 _ rfl;(with_reducible repeat (first|refine ybn ?_ _|refine ybd ?_|refine yba ?_ _));refine blk_put (cs:= #[.int .i64 0,.slice none 0 0,.int .i64 0]) ?_ 0 _ rfl;(with_reducible repeat (first|refine ybn ?_ _|refine ybd ?_|refine yba ?_ _));exact BK844.out) hb);replace HB:=yam (below_step yhb hb);(try clear hb);(try clear hk);obtain ⟨hcz26_0,hcz26_1,hcz26_2,hfz26_0,hfz26_1,hfz26_2⟩:=ybc BK844.out)|(refine goesL_ (some 24) rfl rfl Try.func47 (by kernel_rfl) rfl #[.agg #[.int .i64 t835,.slice Ao23 t836.length co23,.int .i64 t839],.slice Ao24 t840.length co24,.int .i64 t843] rfl ymd ?_;(with_reducible refine (spec_RuleHolds.calls k t835 _ _ t836 t839 _ _ t840 t843 t846 _ ?_ ?_ ?_ ?_ A5.out).mono ?_);exact Kd.Cz (Kd.Yr HO838.out).2.2;exact (Kd.Yr HO838.out).2.1;exact Kd.Cz (Kd.Yr HO842.out).2.2;exact (Kd.Yr HO842.out).2.1;rintro e w27 ⟨rfl,hb⟩;refine ⟨_,rfl,?_⟩;replace HO838:=yam (Kd.R_below (Kd.Yz HO838.out) hb);replace HO842:=yam (Kd.R_below (Kd.Yz HO842.out) hb);replace BK844:=yam (ybb BK844.out hb);replace HB:=yam (below_step yhb hb);(try clear hb)))
 replace HO838:=yam (Kd.Yd HO838.out)
 replace HO842:=yam (Kd.Yd HO842.out)
 replace BK844:=yam (ybd BK844.out)
 replace HB:=yam (yed HB.out)
 refine start_ (n:=17) (S:=fun w'=>w'.cell? ⟨gb844,0,none⟩=some (.int .i64 t835)∧w'.cell? ⟨gb844,1,none⟩=some (.slice Ao23 t836.length co23)∧w'.cell? ⟨gb844,2,none⟩=some (.int .i64 t839)) (ds:=[]) (yvb 17 0) (by kernel_rfl) rfl rfl ⟨(blk_cell BK844.out 0).trans rfl,(blk_cell BK844.out 1).trans rfl,(blk_cell BK844.out 2).trans rfl⟩ (fun hHeld=>?_);refine with_tabW laws_FnRuleSwap.tab7 laws_FnRuleSwap.bits7 (fun HT_ HW_=>?_)
 generalize w27.drew=w28 at HO838 HO842 BK844 HB hHeld ⊢
 refine yvp 0 26 (yvb 17 1) HT_.out ?_
 refine yvt 1 27 (yvb 17 3) HT_.out HW_.out hHeld ?_
 refine yvp 2 28 (yvb 17 7) HT_.out ?_
 refine yvp 3 29 (yvb 17 15) HT_.out ?_
 refine yvp 5 31 (yvb 17 47) HT_.out ?_
 refine yvp 6 32 (yvb 17 111) HT_.out ?_
 refine yvp 8 34 (yvb 17 367) HT_.out ?_
 refine yvp 10 36 (yvb 17 1391) HT_.out ?_
 refine yvt 4 30 (yvb 17 1407) HT_.out HW_.out hHeld ?_
 refine one_ (i:=7) (N:=some 33) (yvb 17 1535) rfl rfl (one_of HT_.out (by kernel_rfl)) (by decide) (fun K hK=>?_)
 refine goes_ Try.func48 (by kernel_rfl) rfl #[.slice Ao24 t840.length co24,.int .i64 t843,.int .i64 1,.int .i64 2] (by rfl) rfl rfl ymd ?_
 with_reducible refine (impl_GridSwap.calls k _ _ t840 t843 1 2 t847 _ ?_ ?_ A16.out).mono ?_
 exact Kd.Cz (Kd.Yr HO842.out).2.2
 exact (Kd.Yr HO842.out).2.1
 rintro e w29 ⟨v848,rfl,ho0,hb⟩
 refine ⟨_,rfl,?_⟩
 have HO849:=yam (Kd.R_lower (Kd.Yw (Kd.Yw ho0 (Kd.R_lt (Kd.Yz HO838.out))) (Kd.R_lt (Kd.Yz HO842.out))) (below_size yhb))
 replace HO838:=yam (Kd.Ye (Kd.Yz HO838.out) (Kd.Yb ho0) hb)
 replace HO842:=yam (Kd.Ye (Kd.Yz HO842.out) (Kd.Yb ho0) hb)
 replace BK844:=yam (ybb BK844.out hb)
 replace HB:=yam (below_step yhb hb)
 (try clear hb)
 (try clear hb2)
 (try clear hk)
 (try clear hi)
 (try clear ho0)
 obtain ⟨Ao30,co30,eo30⟩:=Kd.R_slice HO849.out
 (first|subst eo30|(injection eo30 with f1_ f2_ f3_;have f4_:=f1_.symm;have f5_:=f3_.symm;clear f1_ f2_ f3_;subst f4_;subst f5_))
 refine hK.out _ _ ⟨(blk_cell BK844.out 0).trans rfl,(blk_cell BK844.out 1).trans rfl,(blk_cell BK844.out 2).trans rfl⟩ (fun hHeld=>?_)
 clear hK K
 refine norm_ (a':=?_) ?_ ?_
 rotate_left
 ·show Act.put _ (some 33) _=_
  simp only [Act.put,yps,i64_w,i32_w]
  rfl
 refine one_ (i:=9) (N:=some 35) (yvb 17 2047) rfl rfl (one_of HT_.out (by kernel_rfl)) (by decide) (fun K hK=>?_)
 refine goes_ Try.func46 (by kernel_rfl) rfl #[.agg #[.int .i64 t835,.slice Ao23 t836.length co23,.int .i64 t839],.slice Ao30 t847.length co30,.int .i64 t843] (by rfl) rfl rfl ymd ?_
 with_reducible refine (impl_RuleHolds.calls k t835 _ _ t836 t839 _ _ t847 t843 t850 _ ?_ ?_ ?_ ?_ A17.out).mono ?_
 exact Kd.Cz (Kd.Yr HO838.out).2.2
 exact (Kd.Yr HO838.out).2.1
 exact Kd.Cz (Kd.Yr HO849.out).2.2
 exact (Kd.Yr HO849.out).2.1
 rintro e w31 ⟨rfl,hb⟩
 refine ⟨_,rfl,?_⟩
 replace HO838:=yam (Kd.R_below (Kd.Yz HO838.out) hb)
 replace HO842:=yam (Kd.R_below (Kd.Yz HO842.out) hb)
 replace HO849:=yam (Kd.R_below (Kd.Yz HO849.out) hb)
 replace BK844:=yam (ybb BK844.out hb)
 replace HB:=yam (below_step yhb hb)
 (try clear hb)
 (try clear hb2)
 (try clear hk)
 (try clear hi)
 refine hK.out _ _ ⟨(blk_cell BK844.out 0).trans rfl,(blk_cell BK844.out 1).trans rfl,(blk_cell BK844.out 2).trans rfl⟩ (fun hHeld=>?_)
 clear hK K
 refine norm_ (a':=?_) ?_ ?_
 rotate_left
 ·show Act.put _ (some 35) _=_
  simp only [Act.put,yps,i64_w,i32_w]
  rfl
 refine yvp 11 37 (yvb 17 4095) HT_.out ?_
 refine yvp 12 38 (yvb 17 8191) HT_.out ?_
 refine yvp 13 39 (yvb 17 16383) HT_.out ?_
 refine one_ (i:=14) (N:=some 40) (yvb 17 32767) rfl rfl (one_of HT_.out (by kernel_rfl)) (by decide) (fun K hK=>?_)
 refine goes_ Try.func19 (by kernel_rfl) rfl #[] (by rfl) rfl rfl ymd ?_
 with_reducible refine (laws_alive.calls k  t851 _ A19.out).mono ?_
 rintro e w32 ⟨rfl,hb⟩
 refine ⟨_,rfl,?_⟩
 replace HO838:=yam (Kd.R_below (Kd.Yz HO838.out) hb)
 replace HO842:=yam (Kd.R_below (Kd.Yz HO842.out) hb)
 replace HO849:=yam (Kd.R_below (Kd.Yz HO849.out) hb)
 replace BK844:=yam (ybb BK844.out hb)
 replace HB:=yam (below_step yhb hb)
 (try clear hb)
 (try clear hb2)
 (try clear hk)
 (try clear hi)
 refine hK.out _ _ ⟨(blk_cell BK844.out 0).trans rfl,(blk_cell BK844.out 1).trans rfl,(blk_cell BK844.out 2).trans rfl⟩ (fun hHeld=>?_)
 clear hK K
 refine norm_ (a':=?_) ?_ ?_
 rotate_left
 ·show Act.put _ (some 40) _=_
  simp only [Act.put,yps,i64_w,i32_w]
  rfl
 refine yvp 15 41 (yvb 17 65535) HT_.out ?_
 refine yvp 16 2 (yvb 17 131071) HT_.out ?_
 refine done_ (done_of HT_.out (by kernel_rfl)) ?_
 try go_wp2
 go_ret
 exact ⟨yer,yhb⟩
def laws_FnRuleSwap.Pure:Prop:=∀ (l0:List Int),l0.length≤maxLen→l0.length * 1≤140737488351232→(∀ x∈l0,(Lit.int .u8 x).wf=true)→∃ k,laws_FnRuleSwap.f k l0=some true
theorem laws_FnRuleSwap.walk (P:laws_FnRuleSwap.Pure)(a0:Option Addr)(len0 cap0:Nat)(z0:List Int)(w:World)(w0:(a0=none∧len0=0∧cap0=0∧z0=[])∨∃ x,a0=some x∧len0≤cap0∧cap0≤maxLen∧z0.length=cap0∧(∀ i,i < z0.length→w.cell? (x.add i)=some (.int .u8 (z0.getD i 0)))∧∀ n∈z0,(Lit.int .u8 n).wf=true)(y0:len0 * 1≤140737488351232) :
  Calls Try.prog 9 #[.slice a0 len0 cap0] w fun e w'=>e= .returned (.bool true)∧Below w.heap.size w w':=by
 obtain ⟨l0,rfl,hr0,hm0,hw0,hc0⟩:=ReadsInt.ofRowC w0
 obtain ⟨k,h⟩:=P l0 hm0 y0 hw0
 refine (laws_FnRuleSwap.calls k _ _ l0 true w (Kd.C_of_reads (d:=(0:Int)) (h1:=fun _=>rfl) hr0) hc0 h).mono ?_
 rintro e w' ⟨rfl,hd⟩
 exact ⟨rfl,hd⟩
end Go.Proofs.Ythfbjkniinfgcaa.P
