/- The machine's side: each Go function as a plain Lean function and the proof that the machine's call does what that function says; written by this session's own program over the kit's print. -/
import Derived.Test.YtdemlminhkhonaaZP1
import Derived.Test.YtdemlminhkhonaaZP4
import Derived.Test.YtdemlminhkhonaaZP5
import Derived.Test.YtdemlminhkhonaaZP6
namespace Go.Proofs.Ytdemlminhkhonaa.P
set_option maxHeartbeats 8000000
set_option maxRecDepth 100000
open Go.RowKit Go.Proofs.YtdemlminhkhonaaW.PrintWords Go.Proofs.YtdemlminhkhonaaW.PrintLast Go.Proofs.YtdemlminhkhonaaW.PrintMore
attribute [local go_sem] max2_int min2_int max_two min_two max_three min_three max_four min_four   -- for this text's walks alone
set_option linter.unusedVariables false
set_option linter.unusedSimpArgs false
mutual
def impl_PuzzleFits.j0:Nat→List Int→Bool→Int→List Int→List (S67)→Option (Bool)
 | 0,_,_,_,_,_=>none
 | k + 1,x1,x18,x689000,x689001,x689002=>if x18=true then (some false) else (impl_PuzzleFits.l0 k x1 x1 (x1.length:Int) 0 x689000 x689001 x689002)
def impl_PuzzleFits.l0:Nat→List Int→List Int→Int→Int→Int→List Int→List (S67)→Option (Bool)
 | 0,_,_,_,_,_,_,_=>none
 | k + 1,x1,x19,x20,x21,x689000,x689001,x689002=>if x21 < x20 then (if 0≤x21 then (if x21 < (x19.length:Int) then (if (rd x19 x21) > 0 then (if x21 < (x689001.length:Int) then (if (rd x689001 x21) > 0 then (if (rd x19 x21)=(rd x689001 x21) then (impl_PuzzleFits.l0 k x1 x19 x20 (wrap64 (x21 + 1)) x689000 x689001 x689002) else (some false)) else (impl_PuzzleFits.l0 k x1 x19 x20 (wrap64 (x21 + 1)) x689000 x689001 x689002)) else (none)) else (impl_PuzzleFits.l0 k x1 x19 x20 (wrap64 (x21 + 1)) x689000 x689001 x689002)) else (none)) else (none)) else (impl_PuzzleFits.l1 k x1 x689002 (x689002.length:Int) 0 x689000 x689001 x689002)
def impl_PuzzleFits.l1:Nat→List Int→List (S67)→Int→Int→Int→List Int→List (S67)→Option (Bool)
 | 0,_,_,_,_,_,_,_=>none
 | k + 1,x1,x47,x48,x49,x689000,x689001,x689002=>if x49 < x48 then (if 0≤x49 then (if x49 < (x47.length:Int) then ((impl_canHold.f k ((rd_T67 x47 x49).f0) ((rd_T67 x47 x49).f1) ((rd_T67 x47 x49).f2) x1 x689000).bind fun t696=>(if t696=true then (impl_PuzzleFits.l1 k x1 x47 x48 (wrap64 (x49 + 1)) x689000 x689001 x689002) else (some false))) else (none)) else (none)) else (some true)
end
def impl_PuzzleFits.f (k:Nat)(a0_0:Int)(l0_1:List Int)(l0_2:List (S67))(l1:List Int):Option (Bool):=(impl_PuzzleValid.f k a0_0 l0_1 l0_2).bind fun t689=>(if t689=true then ((impl_SquareFits.f k l1 a0_0).bind fun t690=>(impl_PuzzleFits.j0 k l1 (!t690) a0_0 l0_1 l0_2)) else (impl_PuzzleFits.j0 k l1 true a0_0 l0_1 l0_2))
theorem impl_PuzzleFits.calls (k:Nat)(a0_0:Int)(A0_1:Option Addr)(c0_1:Nat)(l0_1:List Int)(A0_2:Option Addr)(c0_2:Nat)(l0_2:List (S67))(A1:Option Addr)(c1:Nat)(l1:List Int)(r:Bool)(w:World)(hr0_1:Kd.C (Kd.int .i64) w A0_1 l0_1.length l0_1)(hc0_1:l0_1.length≤c0_1)(hr0_2:Kd.C k67 w A0_2 l0_2.length l0_2)(hc0_2:l0_2.length≤c0_2)(hr1:Kd.C (Kd.int .i64) w A1 l1.length l1)(hc1:l1.length≤c1)(h:impl_PuzzleFits.f k a0_0 l0_1 l0_2 l1=some r) :
  Calls Try.prog 100 #[.agg #[.int .i64 a0_0,.slice A0_1 l0_1.length c0_1,.slice A0_2 l0_2.length c0_2],.slice A1 l1.length c1] w fun e w'=>e= .returned (.bool r)∧Below w.heap.size w w':=by
 have hu30:=Try.underlying30
 have hu67:=Try.underlying67
 have HR0_1:=yam hr0_1
 have HC0_1:=yam hc0_1
 clear hr0_1 hc0_1
 have HR0_2:=yam hr0_2
 have HC0_2:=yam hc0_2
 clear hr0_2 hc0_2
 have HR1:=yam hr1
 have HC1:=yam hc1
 clear hr1 hc1
 have HB:=yam (Below.refl w.heap.size w)
 unfold impl_PuzzleFits.f at h
 have H:=h
 clear h
 have HC3:=yam H
 clear H
 go_enter Try.func100,Try.ntmps100
 go_upto_region 1 with (first|(refine ybe 2 #[.int .i64 a0_0,.slice A0_1 l0_1.length c0_1,.slice A0_2 l0_2.length c0_2] 30 ?_;intro gb688 hg w4 hbox hb;have BK688:=yam (hbox);have GW688:=yam ((by rw [hg];exact (below_size (yez HB.out)):w.heap.size≤gb688));replace HB:=yam (below_step (yez HB.out) hb);have GE688:=GW688;clear hb hbox hg))
 (try simp only [Act.put,yps])
 go_cut [18] (fun v18 wc=>∃ (kq:Nat) (x18_2:Bool),v18= .bool x18_2∧Aside0 (impl_PuzzleFits.j0 kq l1 x18_2 a0_0 l0_1 l0_2=some r)∧Aside0 (kq≤k)∧Aside0 (wc.heap[gb688]?=some (.cells #[.int .i64 a0_0,(.slice A0_1 l0_1.length c0_1),(.slice A0_2 l0_2.length c0_2)] 30 (0,0)))∧Aside0 (Below w.heap.size w wc))
 case first =>
  have H:=HC3.out
  clear HC3
  replace H:=ybi H;obtain ⟨t689,A5,H⟩:=H
  try dsimp only at H
  cases t689
  ·replace H:=yff H
   replace H:=yam H
   obtain ⟨hcz12_0,hcz12_1,hcz12_2,hfz12_0,hfz12_1,hfz12_2⟩:=ybc BK688.out
   go_wp2_with (first|(refine goesL_ (some 10) rfl rfl Try.func36 (by kernel_rfl) rfl #[.agg #[.int .i64 a0_0,.slice A0_1 l0_1.length c0_1,.slice A0_2 l0_2.length c0_2]] rfl ymd ?_;(with_reducible refine (impl_PuzzleValid.calls k a0_0 _ _ l0_1 _ _ l0_2 false _ ?_ ?_ ?_ ?_ A5.out).mono ?_);exact Kd.Cz ((Kd.C_below HR0_1.out HB.out));exact HC0_1.out;exact Kd.Cz ((Kd.C_below HR0_2.out HB.out));exact HC0_2.out;rintro e w13 ⟨rfl,hb⟩;refine ⟨_,rfl,?_⟩;replace BK688:=yam (ybb BK688.out hb);replace HB:=yam (below_step yhb hb);(try clear hb)))
   go_meet
   case rel=>exact ⟨_,(true),yeq,H,⟨by first|omega|exact Nat.le_refl _⟩,⟨ybk BK688.out⟩,⟨yhb⟩⟩
  replace H:=ytt H
  replace H:=ybi H;obtain ⟨t690,A7,H⟩:=H
  try dsimp only at H
  replace H:=yam H
  obtain ⟨hcz8_0,hcz8_1,hcz8_2,hfz8_0,hfz8_1,hfz8_2⟩:=ybc BK688.out
  go_wp2_with (first|(refine goesL_ (some 10) rfl rfl Try.func36 (by kernel_rfl) rfl #[.agg #[.int .i64 a0_0,.slice A0_1 l0_1.length c0_1,.slice A0_2 l0_2.length c0_2]] rfl ymd ?_;(with_reducible refine (impl_PuzzleValid.calls k a0_0 _ _ l0_1 _ _ l0_2 true _ ?_ ?_ ?_ ?_ A5.out).mono ?_);exact Kd.Cz ((Kd.C_below HR0_1.out HB.out));exact HC0_1.out;exact Kd.Cz ((Kd.C_below HR0_2.out HB.out));exact HC0_2.out;rintro e w9 ⟨rfl,hb⟩;refine ⟨_,rfl,?_⟩;replace BK688:=yam (ybb BK688.out hb);replace HB:=yam (below_step yhb hb);(try clear hb);obtain ⟨hcz10_0,hcz10_1,hcz10_2,hfz10_0,hfz10_1,hfz10_2⟩:=ybc BK688.out)|(go_at_call 103;(with_reducible refine (impl_SquareFits.calls k _ _ l1 a0_0 t690 _ ?_ ?_ A7.out).mono ?_);exact Kd.Cz ((Kd.C_below HR1.out HB.out));exact HC1.out;rintro e w11 ⟨rfl,hb⟩;replace BK688:=yam (ybb BK688.out hb);replace HB:=yam (below_step yhb hb);(try clear hb)))
  go_meet
  case rel=>exact ⟨_,(!t690),yeq,H,⟨by first|omega|exact Nat.le_refl _⟩,⟨ybk BK688.out⟩,⟨yhb⟩⟩
 case rest =>
  clear HC3
  try clear c1
  obtain ⟨kq,x18_2,rfl,HA,HJ2,BK688,HB⟩:=hcut
  rcases kq with _|kj2
  ·exact absurd HA.out (by simp [impl_PuzzleFits.j0])
  obtain ⟨H⟩:=HA
  simp only [impl_PuzzleFits.j0] at H
  cases x18_2
  rotate_left
  ·replace H:=ytt H
   obtain rfl:=ysi H
   go_wp2
   go_ret
   exact ⟨yer,yhb⟩
  replace H:=yff H
  replace H:=yam H
  go_wp2
  go_loopg [21] kj2 (fun kq v21 w'=>∃ (x21_2:Int),v21= .int .i64 x21_2∧Aside0 (impl_PuzzleFits.l0 kq l1 l1 (l1.length:Int) x21_2 a0_0 l0_1 l0_2=some r)∧Aside0 (kq≤kj2)∧Aside0 (w'.heap[gb688]?=some (.cells #[.int .i64 a0_0,(.slice A0_1 l0_1.length c0_1),(.slice A0_2 l0_2.length c0_2)] 30 (0,0)))∧Aside0 (Below w.heap.size w w'))
  case atStart=>exact ⟨(0),yeq,H,⟨Nat.le_refl _⟩,⟨ybk BK688.out⟩,⟨yhb⟩⟩
  case round =>
   clear H
   obtain ⟨x21_2,rfl,HA,HK2,BK688,HB⟩:=hrel
   rcases gk with _|k2
   ·exact absurd HA.out (by simp [impl_PuzzleFits.l0])
   obtain ⟨H⟩:=HA
   simp only [impl_PuzzleFits.l0] at H
   replace H:=yis H;obtain ⟨c15b0,H⟩ | ⟨c15b0,H⟩:=H
   ·replace H:=yif H;obtain ⟨c16b0,H⟩:=H
    replace H:=yif H;obtain ⟨c17b0,H⟩:=H
    replace H:=yis H;obtain ⟨c18b0,H⟩ | ⟨c18b0,H⟩:=H
    rotate_left
    ·replace H:=yam H
     obtain ⟨ad691,e691,hx691_0,p691,q691⟩:=yat HR1.out x21_2
     cases e691
     replace hx691_0:=ybx HB.out hx691_0
     go_wp2
     go_roundg k2
     case measure=>have:=HJ2.out;have:=HK2.out;omega
     case rel=>exact ⟨(wrap64 (x21_2 + 1)),yeq,H,⟨by have:=HJ2.out;have:=HK2.out;omega⟩,⟨ybk BK688.out⟩,⟨yhb⟩⟩
    replace H:=yif H;obtain ⟨c19b0,H⟩:=H
    replace H:=yis H;obtain ⟨c20b0,H⟩ | ⟨c20b0,H⟩:=H
    rotate_left
    ·replace H:=yam H
     obtain ⟨ad691,e691,hx691_0,p691,q691⟩:=yat HR1.out x21_2
     cases e691
     replace hx691_0:=ybx HB.out hx691_0
     obtain ⟨hcz24_0,hcz24_1,hcz24_2,hfz24_0,hfz24_1,hfz24_2⟩:=ybc BK688.out
     obtain ⟨ad692,e692,hx692_0,p692,q692⟩:=yat HR0_1.out x21_2
     cases e692
     replace hx692_0:=ybx HB.out hx692_0
     go_wp2
     go_roundg k2
     case measure=>have:=HJ2.out;have:=HK2.out;omega
     case rel=>exact ⟨(wrap64 (x21_2 + 1)),yeq,H,⟨by have:=HJ2.out;have:=HK2.out;omega⟩,⟨ybk BK688.out⟩,⟨yhb⟩⟩
    replace H:=yit H;obtain ⟨c21,H⟩ | ⟨c21,H⟩:=H
    rotate_left
    ·have c21b0:((rd l1 x21_2) == (rd l0_1 x21_2))=false:=beq_eq_false_iff_ne.mpr c21
     have c21b1:((rd l1 x21_2) != (rd l0_1 x21_2))=true:=bne_iff_ne.mpr c21
     obtain rfl:=ysi H
     obtain ⟨ad691,e691,hx691_0,p691,q691⟩:=yat HR1.out x21_2
     cases e691
     replace hx691_0:=ybx HB.out hx691_0
     obtain ⟨hcz23_0,hcz23_1,hcz23_2,hfz23_0,hfz23_1,hfz23_2⟩:=ybc BK688.out
     obtain ⟨ad692,e692,hx692_0,p692,q692⟩:=yat HR0_1.out x21_2
     cases e692
     replace hx692_0:=ybx HB.out hx692_0
     obtain ⟨ad693,e693,hx693_0,p693,q693⟩:=yat HR0_1.out x21_2
     obtain rfl:ad692=ad693:=(by injection e693)
     replace hx693_0:=ybx HB.out hx693_0
     go_wp2
     go_ret
     exact ⟨yer,yhb⟩
    have c21b0:((rd l1 x21_2) == (rd l0_1 x21_2))=true:=beq_iff_eq.mpr c21
    have c21b1:((rd l1 x21_2) != (rd l0_1 x21_2))=false:=bne_eq_false_iff_eq.mpr c21
    clear c21
    replace H:=yam H
    obtain ⟨ad691,e691,hx691_0,p691,q691⟩:=yat HR1.out x21_2
    cases e691
    replace hx691_0:=ybx HB.out hx691_0
    obtain ⟨hcz22_0,hcz22_1,hcz22_2,hfz22_0,hfz22_1,hfz22_2⟩:=ybc BK688.out
    obtain ⟨ad692,e692,hx692_0,p692,q692⟩:=yat HR0_1.out x21_2
    cases e692
    replace hx692_0:=ybx HB.out hx692_0
    obtain ⟨ad693,e693,hx693_0,p693,q693⟩:=yat HR0_1.out x21_2
    obtain rfl:ad692=ad693:=(by injection e693)
    replace hx693_0:=ybx HB.out hx693_0
    go_wp2
    go_roundg k2
    case measure=>have:=HJ2.out;have:=HK2.out;omega
    case rel=>exact ⟨(wrap64 (x21_2 + 1)),yeq,H,⟨by have:=HJ2.out;have:=HK2.out;omega⟩,⟨ybk BK688.out⟩,⟨yhb⟩⟩
   replace H:=yam H
   obtain ⟨hcz25_0,hcz25_1,hcz25_2,hfz25_0,hfz25_1,hfz25_2⟩:=ybc BK688.out
   go_wp2
   go_loopg [49] k2 (fun kq v49 w'=>∃ (x49_3:Int),v49= .int .i64 x49_3∧Aside0 (impl_PuzzleFits.l1 kq l1 l0_2 (l0_2.length:Int) x49_3 a0_0 l0_1 l0_2=some r)∧Aside0 (kq≤k2)∧Aside0 (w'.heap[gb688]?=some (.cells #[.int .i64 a0_0,(.slice A0_1 l0_1.length c0_1),(.slice A0_2 l0_2.length c0_2)] 30 (0,0)))∧Aside0 (Below w.heap.size w w'))
   case atStart=>exact ⟨(0),yeq,H,⟨Nat.le_refl _⟩,⟨ybk BK688.out⟩,⟨yhb⟩⟩
   case round =>
    clear H
    try clear c15b0
    try clear hcz25_0
    try clear hcz25_1
    try clear hcz25_2
    try clear hfz25_0
    try clear hfz25_1
    try clear hfz25_2
    obtain ⟨x49_3,rfl,HA,HK3,BK688,HB⟩:=hrel
    rcases gk with _|k3
    ·exact absurd HA.out (by simp [impl_PuzzleFits.l1])
    obtain ⟨H⟩:=HA
    simp only [impl_PuzzleFits.l1] at H
    replace H:=yis H;obtain ⟨c26b0,H⟩ | ⟨c26b0,H⟩:=H
    rotate_left
    ·obtain rfl:=ysi H
     go_wp2
     go_ret
     exact ⟨yer,yhb⟩
    replace H:=yif H;obtain ⟨c27b0,H⟩:=H
    replace H:=yif H;obtain ⟨c28b0,H⟩:=H
    replace H:=ybi H;obtain ⟨t696,A29,H⟩:=H
    try dsimp only at H
    cases t696
    ·replace H:=yff H
     obtain rfl:=ysi H
     have p694:0≤(x49_3:Int):=ydt
     have q694:x49_3 < (l0_2.length:Int):=ydt
     obtain ⟨ad694,A694_1,c694_1,e694,hx694_0,hx694_1,hx694_2,hl694_1,hi694_1⟩:=at_T67 HR0_2.out x49_3 p694 q694
     cases e694
     replace hx694_0:=ybx HB.out hx694_0
     replace hx694_1:=ybx HB.out hx694_1
     replace hx694_2:=ybx HB.out hx694_2
     have HR694_1:=yam hi694_1
     have HC694_1:=yam hl694_1
     clear hi694_1 hl694_1
     replace p694:=eq_true p694
     replace q694:=eq_true q694
     go_wp2_with (first|(refine ybe 8 #[.int .i64 0,.slice none 0 0,.int .i64 0] 67 ?_;intro gb695 hg w36 hbox hb;have BK695:=yam (hbox);have GW695:=yam ((by rw [hg];exact (below_size yhb):w.heap.size≤gb695));replace HB:=yam (below_step yhb hb);have GE695:=GW695;have NB688_695:=yam ((by rw [hg];exact Nat.ne_of_lt (blk_lt (g:=gb688) (o:= .cells #[.int .i64 a0_0,.slice A0_1 l0_1.length c0_1,.slice (some ad694) l0_2.length c0_2] 30 (0,0)) (ybz BK688.out)):gb688≠gb695));have NB695_688:=yam ((by rw [hg];exact Nat.ne_of_gt (blk_lt (g:=gb688) (o:= .cells #[.int .i64 a0_0,.slice A0_1 l0_1.length c0_1,.slice (some ad694) l0_2.length c0_2] 30 (0,0)) (ybz BK688.out)):gb695≠gb688));replace BK688:=yam (ybb BK688.out hb);clear hb hbox hg;have hnb37:=NB695_688.out;have hnc37:=NB688_695.out;obtain ⟨hcz38_0,hcz38_1,hcz38_2,hfz38_0,hfz38_1,hfz38_2⟩:=ybc BK695.out;obtain ⟨hcz39_0,hcz39_1,hcz39_2,hfz39_0,hfz39_1,hfz39_2⟩:=ybc BK688.out)|(refine goesL_ (some 57) rfl rfl Try.func104 (by kernel_rfl) rfl #[.agg #[.int .i64 ((rd_T67 l0_2 x49_3).f0),.slice A694_1 ((rd_T67 l0_2 x49_3).f1).length c694_1,.int .i64 ((rd_T67 l0_2 x49_3).f2)],.slice A1 l1.length c1,.int .i64 a0_0] rfl ymd ?_;(with_reducible refine (impl_canHold.calls k3 ((rd_T67 l0_2 x49_3).f0) _ _ ((rd_T67 l0_2 x49_3).f1) ((rd_T67 l0_2 x49_3).f2) _ _ l1 a0_0 false _ ?_ ?_ ?_ ?_ A29.out).mono ?_);exact Kd.C_below HR694_1.out yhb;exact HC694_1.out;exact Kd.C_below HR1.out yhb;exact HC1.out;rintro e w40 ⟨rfl,hb⟩;refine ⟨_,rfl,?_⟩;replace BK688:=yam (blk_below (g:=gb688) (o:= .cells #[.int .i64 a0_0,.slice A0_1 l0_1.length c0_1,.slice (some ad694) l0_2.length c0_2] 30 (0,0)) (by (with_reducible repeat (first|refine ybn ?_ _|refine ybd ?_|refine yba ?_ _));refine blk_far ?_ NB688_695.out _;(with_reducible repeat (first|refine ybn ?_ _|refine ybd ?_|refine yba ?_ _));refine blk_far ?_ NB688_695.out _;(with_reducible repeat (first|refine ybn ?_ _|refine ybd ?_|refine yba ?_ _));refine blk_far ?_ NB688_695.out _;(with_reducible repeat (first|refine ybn ?_ _|refine ybd ?_|refine yba ?_ _));exact BK688.out) hb);replace BK695:=yam (blk_below (g:=gb695) (o:= .cells #[.int .i64 ((rd_T67 l0_2 x49_3).f0),.slice A694_1 ((rd_T67 l0_2 x49_3).f1).length c694_1,.int .i64 ((rd_T67 l0_2 x49_3).f2)] 67 (0,0)) (by (with_reducible repeat (first|refine ybn ?_ _|refine ybd ?_|refine yba ?_ _));refine blk_put (cs:= #[.int .i64 ((rd_T67 l0_2 x49_3).f0),.slice A694_1 ((rd_T67 l0_2 x49_3).f1).length c694_1,.int .i64 0]) ?_ 2 _ rfl;(with_reducible repeat (first|refine ybn ?_ _|refine ybd ?_|refine yba ?_ _));refine blk_put (cs:= #[.int .i64 ((rd_T67 l0_2 x49_3).f0),.slice none 0 0,.int .i64 0]) ?_ 1 _ rfl;(with_reducible repeat (first|refine ybn ?_ _|refine ybd ?_|refine yba ?_ _));refine blk_put (cs:= #[.int .i64 0,.slice none 0 0,.int .i64 0]) ?_ 0 _ rfl;(with_reducible repeat (first|refine ybn ?_ _|refine ybd ?_|refine yba ?_ _));exact BK695.out) hb);replace HB:=yam (below_step yhb hb);(try clear hb)))
     go_ret
     exact ⟨yer,yhb⟩
    replace H:=ytt H
    replace H:=yam H
    have p694:0≤(x49_3:Int):=ydt
    have q694:x49_3 < (l0_2.length:Int):=ydt
    obtain ⟨ad694,A694_1,c694_1,e694,hx694_0,hx694_1,hx694_2,hl694_1,hi694_1⟩:=at_T67 HR0_2.out x49_3 p694 q694
    cases e694
    replace hx694_0:=ybx HB.out hx694_0
    replace hx694_1:=ybx HB.out hx694_1
    replace hx694_2:=ybx HB.out hx694_2
    have HR694_1:=yam hi694_1
    have HC694_1:=yam hl694_1
    clear hi694_1 hl694_1
    replace p694:=eq_true p694
    replace q694:=eq_true q694
    go_wp2_with (first|(refine ybe 8 #[.int .i64 0,.slice none 0 0,.int .i64 0] 67 ?_;intro gb695 hg w31 hbox hb;have BK695:=yam (hbox);have GW695:=yam ((by rw [hg];exact (below_size yhb):w.heap.size≤gb695));replace HB:=yam (below_step yhb hb);have GE695:=GW695;have NB688_695:=yam ((by rw [hg];exact Nat.ne_of_lt (blk_lt (g:=gb688) (o:= .cells #[.int .i64 a0_0,.slice A0_1 l0_1.length c0_1,.slice (some ad694) l0_2.length c0_2] 30 (0,0)) (ybz BK688.out)):gb688≠gb695));have NB695_688:=yam ((by rw [hg];exact Nat.ne_of_gt (blk_lt (g:=gb688) (o:= .cells #[.int .i64 a0_0,.slice A0_1 l0_1.length c0_1,.slice (some ad694) l0_2.length c0_2] 30 (0,0)) (ybz BK688.out)):gb695≠gb688));replace BK688:=yam (ybb BK688.out hb);clear hb hbox hg;have hnb32:=NB695_688.out;have hnc32:=NB688_695.out;obtain ⟨hcz33_0,hcz33_1,hcz33_2,hfz33_0,hfz33_1,hfz33_2⟩:=ybc BK695.out;obtain ⟨hcz34_0,hcz34_1,hcz34_2,hfz34_0,hfz34_1,hfz34_2⟩:=ybc BK688.out)|(refine goesL_ (some 57) rfl rfl Try.func104 (by kernel_rfl) rfl #[.agg #[.int .i64 ((rd_T67 l0_2 x49_3).f0),.slice A694_1 ((rd_T67 l0_2 x49_3).f1).length c694_1,.int .i64 ((rd_T67 l0_2 x49_3).f2)],.slice A1 l1.length c1,.int .i64 a0_0] rfl ymd ?_;(with_reducible refine (impl_canHold.calls k3 ((rd_T67 l0_2 x49_3).f0) _ _ ((rd_T67 l0_2 x49_3).f1) ((rd_T67 l0_2 x49_3).f2) _ _ l1 a0_0 true _ ?_ ?_ ?_ ?_ A29.out).mono ?_);exact Kd.C_below HR694_1.out yhb;exact HC694_1.out;exact Kd.C_below HR1.out yhb;exact HC1.out;rintro e w35 ⟨rfl,hb⟩;refine ⟨_,rfl,?_⟩;replace BK688:=yam (blk_below (g:=gb688) (o:= .cells #[.int .i64 a0_0,.slice A0_1 l0_1.length c0_1,.slice (some ad694) l0_2.length c0_2] 30 (0,0)) (by (with_reducible repeat (first|refine ybn ?_ _|refine ybd ?_|refine yba ?_ _));refine blk_far ?_ NB688_695.out _;(with_reducible repeat (first|refine ybn ?_ _|refine ybd ?_|refine yba ?_ _));refine blk_far ?_ NB688_695.out _;(with_reducible repeat (first|refine ybn ?_ _|refine ybd ?_|refine yba ?_ _));refine blk_far ?_ NB688_695.out _;(with_reducible repeat (first|refine ybn ?_ _|refine ybd ?_|refine yba ?_ _));exact BK688.out) hb);replace BK695:=yam (blk_below (g:=gb695) (o:= .cells #[.int .i64 ((rd_T67 l0_2 x49_3).f0),.slice A694_1 ((rd_T67 l0_2 x49_3).f1).length c694_1,.int .i64 ((rd_T67 l0_2 x49_3).f2)] 67 (0,0)) (by (with_reducible repeat (first|refine ybn ?_ _|refine ybd ?_|refine yba ?_ _));refine blk_put (cs:= #[.int .i64 ((rd_T67 l0_2 x49_3).f0),.slice A694_1 ((rd_T67 l0_2 x49_3).f1).length c694_1,.int .i64 0]) ?_ 2 _ rfl;(with_reducible repeat (first|refine ybn ?_ _|refine ybd ?_|refine yba ?_ _));refine blk_put (cs:= #[.int .i64 ((rd_T67 l0_2 x49_3).f0),.slice none 0 0,.int .i64 0]) ?_ 1 _ rfl;(with_reducible repeat (first|refine ybn ?_ _|refine ybd ?_|refine yba ?_ _));refine blk_put (cs:= #[.int .i64 0,.slice none 0 0,.int .i64 0]) ?_ 0 _ rfl;(with_reducible repeat (first|refine ybn ?_ _|refine ybd ?_|refine yba ?_ _));exact BK695.out) hb);replace HB:=yam (below_step yhb hb);(try clear hb)))
    go_roundg k3
    case measure=>have:=HJ2.out;have:=HK2.out;have:=HK3.out;omega
    case rel=>exact ⟨(wrap64 (x49_3 + 1)),yeq,H,⟨by have:=HJ2.out;have:=HK2.out;have:=HK3.out;omega⟩,⟨ybk BK688.out⟩,⟨yhb⟩⟩
structure Teller (w0:World) {σ:Type} (tf p1 p2:Nat) (T:σ→List Int→Option (Bool × σ)) (Inv:(Nat→Prop)→σ→World→Prop):Prop where
 hf : ∃ fn : Func, Try.prog.funcs[tf]? = some fn ∧ (fn.name == "runtime.NumGoroutine") = false ∧ fn.body.isSome = true
 keep:∀ {P:Nat→Prop} {s:σ} {w w':World},Inv P s w→w.heap.size≤w'.heap.size→(∀ k,k < w.heap.size→¬ P k→w'.heap[k]?=w.heap[k]?)→Inv P s w'
 mono:∀ {P P':Nat→Prop} {s:σ} {w:World},Inv P s w→(∀ k,k < w.heap.size→P' k→P k)→Inv P' s w
 call:∀ {P:Nat→Prop} {s s':σ} {w:World} {g:List Int} {A:Option Addr} {c:Nat} {b:Bool},Below w0.heap.size w0 w→Inv P s w→Kd.C (Kd.int .i64) w A g.length g→g.length≤c→(∀ k,P k→k < w.heap.size)→T s g=some (b,s') →
  Calls Try.prog tf #[.slice A g.length c,.pointer (some ⟨p1,0,none⟩),.pointer (some ⟨p2,0,none⟩)] w fun e w'=>e= .returned (.bool b)∧Inv P s' w'∧Agr P w w'∧Below w0.heap.size w0 w'
def impl_solutions.tryV {σ:Type}(cf:List Int→Option Bool)(f:List Int→σ→Option (Bool × List Int × σ))(i:Nat):Nat→Int→List Int→σ→Option (Bool × List Int × σ)
 | 0,_,g,s=>some (true,g.set i 0,s)
 | n + 1,v,g,s=>(cf (g.set i v)).bind fun b=>if b=true then (f (g.set i v) s).bind fun t=>(if t.1=true then impl_solutions.tryV cf f i n (v + 1) t.2.1 t.2.2 else some (false,t.2.1,t.2.2)) else impl_solutions.tryV cf f i n (v + 1) (g.set i v) s
def impl_solutions.try_ {σ:Type}(T:σ→List Int→Option (Bool × σ))(k:Nat)(s:Int)(l1:List Int)(l2:List S67)(N:Nat):Nat→List Int→σ→Option (Bool × List Int × σ)
 | 0,g,st=>(T st g).bind fun t=>some (t.1,g,t.2)
 | d + 1,g,st=>if 0 < rd g ((N:Int) - (d + 1:Nat)) then impl_solutions.try_ T k s l1 l2 N d g st else impl_solutions.tryV (fun g'=>impl_cellFits.f k s l1 l2 g' ((N:Int) - (d + 1:Nat))) (impl_solutions.try_ T k s l1 l2 N d) ((N:Int) - (d + 1:Nat)).toNat s.toNat 1 g st
theorem impl_solutions.tryV_len {σ:Type}{cf:List Int→Option Bool}{f:List Int→σ→Option (Bool × List Int × σ)}{i N:Nat}(hf:∀ g s b g' s',g.length=N→f g s=some (b,g',s')→g'.length=N):∀ (n:Nat) (v:Int) (g:List Int) (s:σ) (b:Bool) (g':List Int) (s':σ),g.length=N→impl_solutions.tryV cf f i n v g s=some (b,g',s')→g'.length=N
 | 0,v,g,s,b,g',s',hg,h=>by
  unfold impl_solutions.tryV at h
  simp only [Option.some.injEq,Prod.mk.injEq] at h
  obtain ⟨_,rfl,_⟩:=h
  rw [List.length_set];exact hg
 | n + 1,v,g,s,b,g',s',hg,h=>by
  unfold impl_solutions.tryV at h
  obtain ⟨c,_,h⟩:=Option.bind_eq_some_iff.1 h
  have hgs:(g.set i v).length=N:=by rw [List.length_set];exact hg
  cases c with
  | false=>exact impl_solutions.tryV_len hf n _ _ _ _ _ _ hgs (by simpa using h)
  | true =>
   simp only [if_true] at h
   obtain ⟨⟨t1,t2,t3⟩,ht,h⟩:=Option.bind_eq_some_iff.1 h
   have ht2:=hf _ _ _ _ _ hgs ht
   cases t1 with
   | true=>exact impl_solutions.tryV_len hf n _ _ _ _ _ _ ht2 (by simpa using h)
   | false =>
    simp only [Bool.false_eq_true,if_false,Option.some.injEq,Prod.mk.injEq] at h
    obtain ⟨_,rfl,_⟩:=h
    exact ht2
def impl_solutions.Boxes (tf p1 p2:Nat)(W:World)(gg cg N gG gT gY gS gP:Nat)(s:Int)(A1:Option Addr)(c1 n1:Nat)(A2:Option Addr)(c2 n2:Nat):Prop :=
 W.heap[gG]?=some (.cells #[.slice (some ⟨gg,0,none⟩) N cg] 22 (0,0))∧W.heap[gT]?=some (.cells #[.func (.func tf) #[] #[.pointer (some ⟨p1,0,none⟩),.pointer (some ⟨p2,0,none⟩)]] 89 (0,0))∧W.heap[gY]?=some (.cells #[.func (.func 101) #[] #[.pointer (some ⟨gG,0,none⟩),.pointer (some ⟨gT,0,none⟩),.pointer (some ⟨gY,0,none⟩),.pointer (some ⟨gS,0,none⟩),.pointer (some ⟨gP,0,none⟩)]] 79 (0,0))∧W.heap[gS]?=some (.cells #[.int .i64 s] 3 (0,0))∧W.heap[gP]?=some (.cells #[.int .i64 s,.slice A1 n1 c1,.slice A2 n2 c2] 30 (0,0))
theorem impl_solutions.Boxes.agr {tf p1 p2:Nat}{W W':World}{gg cg N gG gT gY gS gP:Nat}{s:Int}{A1:Option Addr}{c1 n1:Nat}{A2:Option Addr}{c2 n2:Nat}{P:Nat→Prop}(h:impl_solutions.Boxes tf p1 p2 W gg cg N gG gT gY gS gP s A1 c1 n1 A2 c2 n2)(ha:Agr P W W')(hP:P gG∧P gT∧P gY∧P gS∧P gP):impl_solutions.Boxes tf p1 p2 W' gg cg N gG gT gY gS gP s A1 c1 n1 A2 c2 n2 :=
 ⟨Agr.blk h.1 ha hP.1,Agr.blk h.2.1 ha hP.2.1,Agr.blk h.2.2.1 ha hP.2.2.1,Agr.blk h.2.2.2.1 ha hP.2.2.2.1,Agr.blk h.2.2.2.2 ha hP.2.2.2.2⟩
theorem impl_solutions.Boxes.set {tf p1 p2:Nat}{W:World}{gg cg N gG gT gY gS gP:Nat}{s:Int}{A1:Option Addr}{c1 n1:Nat}{A2:Option Addr}{c2 n2:Nat}(h:impl_solutions.Boxes tf p1 p2 W gg cg N gG gT gY gS gP s A1 c1 n1 A2 c2 n2)(hne:gg≠gG∧gg≠gT∧gg≠gY∧gg≠gS∧gg≠gP)(j:Nat)(u:Value):impl_solutions.Boxes tf p1 p2 (W.setCell ⟨gg,j,none⟩ u) gg cg N gG gT gY gS gP s A1 c1 n1 A2 c2 n2 :=
 impl_solutions.Boxes.agr (P:=fun k=>k≠gg) h ⟨by simp [World.setCell],fun k _ hk=>Below.heap_setCell W ⟨gg,j,none⟩ u k hk⟩ ⟨hne.1.symm,hne.2.1.symm,hne.2.2.1.symm,hne.2.2.2.1.symm,hne.2.2.2.2.symm⟩
theorem goesV_ {P : Program} {ops : Array Oper} {Q : Exit → Act → World → Prop} {rest : List Oper} {oi : Oper} {a : Act} {w : World} (N : Option Tmp) (hd : oi.dst = N) (hg : oi.guard = none) {f : FuncId} {fn : Func} {x : Operand} {ag : Array Operand} {ts : Array TypeId} {caps : Array Value} (hf : P.funcs[f]? = some fn) (hname : (fn.name == "runtime.NumGoroutine") = false) (hb : fn.body.isSome = true) (args : Array Value)
  (hop:oi.op= .call { callee:= .value x,args:=ag,argTypes:=ts }) (hx:a.eval x= .func (.func f) #[] caps) (hargs:ag.map a.eval ++ caps=args)
  (h:Calls P f args w fun e w'=>∃ v,e= .returned v∧wpList P ops Q rest (a.put N v) w'):wpList P ops Q (oi :: rest) a w:=by
 refine wpList_plain hg fun K hK=>?_
 have he:=enters_ hf hname hb args w
 have hrun:(execOp a.eval oi).run P w= .ok (.enter f args) w:=by
  unfold execOp
  simp only [hop,resolve,hx,Deferred.ofValue]
  subst hargs
  simpa [invoke] using he
 unfold Oper.wp
 rw [hrun,Oper.upon_enter]
 refine h.mono fun e w'' hh=>?_
 obtain ⟨v,rfl,hk⟩:=hh
 subst hd
 exact hK _ _ hk
theorem impl_solutions.clo {w0:World}{σ:Type}{tf p1 p2:Nat}{T:σ→List Int→Option (Bool × σ)}{Inv:(Nat→Prop)→σ→World→Prop}(Te:Teller w0 tf p1 p2 T Inv)(k:Nat)(s:Int)(A1:Option Addr)(c1:Nat)(l1:List Int)(A2:Option Addr)(c2:Nat)(l2:List S67)(gg cg N gG gT gY gS gP:Nat)(P:Nat→Prop)(wE:World)(hP:P gG∧P gT∧P gY∧P gS∧P gP)(hPg:P gg)(hne:gg≠gG∧gg≠gT∧gg≠gY∧gg≠gS∧gg≠gP)(hgE:wE.heap.size≤gg)(hg0:w0.heap.size≤gg)(hs4:s≤1000)(hr1:∀ W,Agr P wE W→Kd.C (Kd.int .i64) W A1 l1.length l1)(hc1:l1.length≤c1)(hr2:∀ W,Agr P wE W→Kd.C k67 W A2 l2.length l2)(hc2:l2.length≤c2) :
  ∀ (d:Nat) (a:Int) (g:List Int) (st:σ) (b:Bool) (g':List Int) (st':σ) (w:World) (_:(N:Int) - d=a) (_:d≤N) (_:N≤100000) (_:g.length=N) (_:Kd.R (Kd.int .i64) 3 w w0.heap.size (fun k=>k=gg) (.slice (some ⟨gg,0,none⟩) N cg) g) (_:Inv P st w) (_:impl_solutions.Boxes tf p1 p2 w gg cg N gG gT gY gS gP s A1 c1 l1.length A2 c2 l2.length) (_:Agr P wE w) (_:Below w0.heap.size w0 w) (_:∀ k,P k→k < w.heap.size) (_:impl_solutions.try_ T k s l1 l2 N d g st=some (b,g',st')),
  Calls Try.prog 101 #[.int .i64 a,.pointer (some ⟨gG,0,none⟩),.pointer (some ⟨gT,0,none⟩),.pointer (some ⟨gY,0,none⟩),.pointer (some ⟨gS,0,none⟩),.pointer (some ⟨gP,0,none⟩)] w fun e w'=>e= .returned (.bool b)∧g'.length=N∧Kd.R (Kd.int .i64) 3 w' w0.heap.size (fun k=>k=gg) (.slice (some ⟨gg,0,none⟩) N cg) g'∧Inv P st' w'∧impl_solutions.Boxes tf p1 p2 w' gg cg N gG gT gY gS gP s A1 c1 l1.length A2 c2 l2.length∧Agr P wE w'∧Below w0.heap.size w0 w'∧(∀ k,P k→k < w'.heap.size):=by
 intro d
 obtain ⟨fn,hfn⟩:=Te.hf
 have HFN:=yam hfn
 clear hfn
 have HP:=yam hP
 have HPG:=yam hPg
 have HNE:=yam hne
 have HGE:=yam hgE
 have HG0:=yam hg0
 have HR1:=yam hr1
 have HC1:=yam hc1
 have HR2:=yam hr2
 have HC2:=yam hc2
 have HS4:=yam hs4
 clear hP hPg hne hgE hg0 hr1 hc1 hr2 hc2 hs4
 induction d with
 | zero =>
  intro a g st b g' st' w ha hd hn hl hV hI hX hA hB hL h
  have hae:(a == (N:Int))=true:=beq_iff_eq.mpr (by omega)
  clear ha hd
  have HN:=yam hn
  have HLV:=yam hl
  have HV:=yam hV
  have HI:=yam hI
  have HX:=yam hX
  have HA:=yam hA
  have HB:=yam hB
  have HL:=yam hL
  unfold impl_solutions.try_ at h
  obtain ⟨⟨t1,t2⟩,hT,h2⟩:=Option.bind_eq_some_iff.1 h
  simp only [Option.some.injEq,Prod.mk.injEq] at h2
  obtain ⟨rfl,rfl,rfl⟩:=h2
  have HT:=yam hT
  have hcG:w.cell? ⟨gG,0,none⟩=some (.slice (some ⟨gg,0,none⟩) N cg):=(blk_cell hX.1 0).trans rfl
  have hcT:w.cell? ⟨gT,0,none⟩=some (.func (.func tf) #[] #[.pointer (some ⟨p1,0,none⟩),.pointer (some ⟨p2,0,none⟩)]):=(blk_cell hX.2.1 0).trans rfl
  clear hn hl hV hI hX hA hB hL h hT
  go_enter Try.func101,Try.ntmps101
  go_wp2_with (first
   | ((with_reducible refine gate_dst (N:=15) rfl ?_);refine goesV_ (some 15) rfl rfl HFN.out.1 HFN.out.2.1 HFN.out.2.2 #[.slice (some ⟨gg,0,none⟩) g.length cg,.pointer (some ⟨p1,0,none⟩),.pointer (some ⟨p2,0,none⟩)] rfl rfl (by simp only [List.map_toArray,List.map_cons,List.map_nil,List.append_toArray,List.cons_append,List.nil_append,HLV.out];rfl) ?_;refine (Te.call HB.out HI.out (Kd.R_reads' HV.out).2.2 (by rw [HLV.out];exact (Kd.R_reads' HV.out).2.1) HL.out HT.out).mono ?_;rintro e w' ⟨rfl,hI,hA,hB⟩;refine ⟨_,rfl,?_⟩;have n0_:=yam (Agr.R HV.out hA (fun k_ h_=>by rw [h_];exact HPG.out));have n1_:=yam hI;have n2_:=yam (impl_solutions.Boxes.agr HX.out hA HP.out);have n3_:=yam (HA.out.trans hA);have n4_:=yam hB;have n5_:=yam (fun k_ h_=>Nat.lt_of_lt_of_le (HL.out k_ h_) hA.1:∀ k,P k→k < w'.heap.size);clear HV HI HX HA HB HL hI hA hB hcG hcT))
  go_ret
  exact ⟨rfl,HLV.out,n0_.out,n1_.out,n2_.out,n3_.out,n4_.out,n5_.out⟩
 | succ d ih =>
  have IH:=yam ih
  clear ih
  intro a g st b g' st' w ha hd hn hl hV hI hX hA hB hL h
  unfold impl_solutions.try_ at h
  rw [ha] at h
  have h0:0≤a:=by omega
  have h1:a < (N:Int):=by omega
  have hae:(a == (N:Int))=false:=beq_eq_false_iff_ne.mpr (by omega)
  have HAA:=yam (show 0≤a∧a < (N:Int)∧(N:Int) - d=a + 1 from ⟨h0,h1,by omega⟩)
  have HD:=yam (show d≤N by omega)
  clear ha hd
  have HN:=yam hn
  have HLV:=yam hl
  have HV:=yam hV
  have HI:=yam hI
  have HX:=yam hX
  have HA:=yam hA
  have HB:=yam hB
  have HL:=yam hL
  have hcG:w.cell? ⟨gG,0,none⟩=some (.slice (some ⟨gg,0,none⟩) N cg):=(blk_cell hX.1 0).trans rfl
  have hcY:w.cell? ⟨gY,0,none⟩=some (.func (.func 101) #[] #[.pointer (some ⟨gG,0,none⟩),.pointer (some ⟨gT,0,none⟩),.pointer (some ⟨gY,0,none⟩),.pointer (some ⟨gS,0,none⟩),.pointer (some ⟨gP,0,none⟩)]):=(blk_cell hX.2.2.1 0).trans rfl
  obtain ⟨hxv0,hfv⟩:=Kd.R_celln 0 hV a h0 h1
  have hxv:=hxv0.trans (rfl:_=some (Value.int .i64 (rd g a)))
  have haw:wrap64 (a + 1)=a + 1:=by unfold wrap64;omega
  have haw2:IntKind.i64.wrap (a + 1)=a + 1:=by rw [i64_w];exact haw
  have q0:=eq_true h0
  have q1:=eq_true h1
  clear hn hl hV hI hX hA hB hL hxv0 hfv h0 h1
  by_cases hpos:0 < rd g a
  ·rw [if_pos hpos] at h
   have hpb:decide (0 < rd g a)=true:=decide_eq_true hpos
   have HT:=yam h
   clear h hpos
   go_enter Try.func101,Try.ntmps101
   go_wp2_with (first
    | (go_at_call 101;(refine (IH.out (a + 1) g st b g' st' _ HAA.out.2.2 HD.out HN.out HLV.out HV.out HI.out HX.out HA.out HB.out HL.out HT.out).mono ?_);rintro e w' ⟨rfl,HL1,hV,hI,hX,hA,hB,hL⟩;have n0_:=yam hV;have n1_:=yam hI;have n2_:=yam hX;have n3_:=yam hA;have n4_:=yam hB;have n5_:=yam hL;have n6_:=yam HL1;clear hV hI hX hA hB hL HL1))
   go_ret
   exact ⟨rfl,n6_.out,n0_.out,n1_.out,n2_.out,n3_.out,n4_.out,n5_.out⟩
  ·rw [if_neg hpos] at h
   have hpb:decide (0 < rd g a)=false:=decide_eq_false hpos
   have HT:=yam h
   clear h hpos
   go_enter Try.func101,Try.ntmps101
   go_wp2
   go_loopg [8] s.toNat (fun kq v8 w'=>∃ (v:Int) (gr:List Int) (s1:σ),v8= .int .i64 v∧Aside0 (1≤v∧v + (kq:Int)=(s.toNat:Int) + 1)∧Aside0 (impl_solutions.tryV (fun g'=>impl_cellFits.f k s l1 l2 g' a) (impl_solutions.try_ T k s l1 l2 N d) a.toNat kq v gr s1=some (b,g',st'))∧Aside0 (gr.length=N)∧Aside0 (Kd.R (Kd.int .i64) 3 w' w0.heap.size (fun k=>k=gg) (.slice (some ⟨gg,0,none⟩) N cg) gr)∧Aside0 (Inv P s1 w')∧Aside0 (impl_solutions.Boxes tf p1 p2 w' gg cg N gG gT gY gS gP s A1 c1 l1.length A2 c2 l2.length)∧Aside0 (Agr P wE w')∧Aside0 (Below w0.heap.size w0 w')∧Aside0 (∀ k,P k→k < w'.heap.size))
   case atStart=>exact ⟨1,g,st,rfl,⟨by omega⟩,HT,HLV,HV,HI,HX,HA,HB,HL⟩
   case round =>
    clear HT HLV HV HI HX HA HB HL hcG hcY hxv hpb
    obtain ⟨v,gr,s1,rfl,HK,HT,HLV,HV,HI,HX,HA,HB,HL⟩:=hrel
    have hcG:wr.cell? ⟨gG,0,none⟩=some (.slice (some ⟨gg,0,none⟩) N cg):=(blk_cell HX.out.1 0).trans rfl
    have hcS:wr.cell? ⟨gS,0,none⟩=some (.int .i64 s):=(blk_cell HX.out.2.2.2.1 0).trans rfl
    obtain ⟨hxv0,hfv⟩:=Kd.R_celln 0 HV.out a HAA.out.1 HAA.out.2.1
    have hxv:=hxv0.trans (rfl:_=some (Value.int .i64 (rd gr a)))
    clear hxv0
    cases gk with
    | zero =>
     have h:=HT.out
     unfold impl_solutions.tryV at h
     simp only [Option.some.injEq,Prod.mk.injEq] at h
     obtain ⟨rfl,rfl,rfl⟩:=h
     clear HT
     have hvb:decide (v≤s)=false:=decide_eq_false (by have:=HK.out;omega)
     have HPO:=yam (Kd.R_putg HV.out a 0)
     go_wp2
     go_ret
     exact ⟨rfl,by rw [List.length_set];exact HLV.out,HPO.out.1,Te.keep HI.out (by simp [World.setCell]) (fun k_ _ hn_=>Below.heap_setCell wr ⟨gg,a.toNat,none⟩ _ k_ (fun e_=>hn_ (by rw [e_];exact HPG.out))),impl_solutions.Boxes.set HX.out HNE.out _ _,Agr.set HA.out HGE.out _ _,below_set HB.out HG0.out,fun k_ hk_=>by have:=HL.out k_ hk_;simpa [World.setCell] using this⟩
    | succ q =>
     have h:=HT.out
     clear HT
     unfold impl_solutions.tryV at h
     obtain ⟨c,hc,h⟩:=Option.bind_eq_some_iff.1 h
     have HC:=yam hc
     clear hc
     have hvb:decide (v≤s)=true:=decide_eq_true (by have:=HK.out;omega)
     have hvw:wrap64 (v + 1)=v + 1:=by have:=HK.out;have:=HS4.out;unfold wrap64;omega
     have hvw2:IntKind.i64.wrap (v + 1)=v + 1:=by rw [i64_w];exact hvw
     have HPO:=yam (Kd.R_putg HV.out a v)
     cases c with
     | false =>
      simp only [Bool.false_eq_true,if_false] at h
      have HT:=yam h
      clear h
      go_wp2_with (first
       | ((with_reducible refine gate_store (t:=3) (p:=33) rfl ?_);refine store_event (t:=3) (p:=33) (v:=?vo1) (w1:=wr.setCell ⟨gg,a.toNat,none⟩ (.int .i64 v)) ?hg ?ho ?hn ?hr ?_;(case ho=>rfl);(case hg=>rfl);(case hn=>rfl);(case hr=>first|(go_simp;done)|(go_simp;rfl));intro w8 hw;have HV8:Aside0 (Kd.R (Kd.int .i64) 3 w8 w0.heap.size (fun k=>k=gg) (.slice (some ⟨gg,0,none⟩) N cg) (gr.set a.toNat v)):=⟨by rw [hw];exact HPO.out.1⟩;have HI8:Aside0 (Inv P s1 w8):=⟨by rw [hw];exact Te.keep HI.out (by simp [World.setCell]) (fun k_ _ hn_=>Below.heap_setCell wr ⟨gg,a.toNat,none⟩ _ k_ (fun e_=>hn_ (by rw [e_];exact HPG.out)))⟩;have HX8:Aside0 (impl_solutions.Boxes tf p1 p2 w8 gg cg N gG gT gY gS gP s A1 c1 l1.length A2 c2 l2.length):=⟨by rw [hw];exact impl_solutions.Boxes.set HX.out HNE.out _ _⟩;have HA8:Aside0 (Agr P wE w8):=⟨by rw [hw];exact Agr.set HA.out HGE.out _ _⟩;have HB8:Aside0 (Below w0.heap.size w0 w8):=⟨by rw [hw];exact below_set HB.out HG0.out⟩;have HL8:Aside0 (∀ k,P k→k < w8.heap.size):=⟨fun k_ hk_=>by have:=HL.out k_ hk_;rw [hw];simpa [World.setCell] using this⟩;clear hw hxv hfv hcG hcS HPO HV HI HX HA HB HL;have hcG:w8.cell? ⟨gG,0,none⟩=some (.slice (some ⟨gg,0,none⟩) N cg):=(blk_cell HX8.out.1 0).trans rfl;have hcP0:w8.cell? ⟨gP,0,none⟩=some (.int .i64 s):=(blk_cell HX8.out.2.2.2.2 0).trans rfl;have hcP1:w8.cell? ⟨gP,1,none⟩=some (.slice A1 l1.length c1):=(blk_cell HX8.out.2.2.2.2 1).trans rfl;have hcP2:w8.cell? ⟨gP,2,none⟩=some (.slice A2 l2.length c2):=(blk_cell HX8.out.2.2.2.2 2).trans rfl)
       | (refine goesL_ (some 37) rfl rfl Try.func102 (by kernel_rfl) rfl #[.agg #[.int .i64 s,.slice A1 l1.length c1,.slice A2 l2.length c2],.slice (some ⟨gg,0,none⟩) (gr.set a.toNat v).length cg,.int .i64 a] rfl (by (try simp only [List.map_toArray,List.map_cons,List.map_nil]);rw [List.length_set,HLV.out];rfl) ?_;(with_reducible refine (impl_cellFits.calls k s _ _ l1 _ _ l2 _ _ (gr.set a.toNat v) a false w8 (HR1.out _ HA8.out) HC1.out (HR2.out _ HA8.out) HC2.out (Kd.R_reads' HV8.out).2.2 (by rw [List.length_set,HLV.out];exact (Kd.R_reads' HV8.out).2.1) HC.out).mono ?_);rintro e w9 ⟨rfl,hb⟩;refine ⟨_,rfl,?_⟩;have HV9:=yam (Kd.R_below HV8.out hb);have HI9:=yam (Te.keep HI8.out hb.size (fun k_ hk_ _=>hb.block k_ hk_));have HX9:=yam (impl_solutions.Boxes.agr HX8.out (Agr.of_below (P:=P) hb) HP.out);have HA9:=yam (HA8.out.trans (Agr.of_below hb));have HB9:=yam (below_step HB8.out hb);have HL9:Aside0 (∀ k,P k→k < w9.heap.size):=⟨fun k_ hk_=>Nat.lt_of_lt_of_le (HL8.out k_ hk_) hb.size⟩;clear hb hcG hcP0 hcP1 hcP2 HV8 HI8 HX8 HA8 HB8 HL8;have hcY:w9.cell? ⟨gY,0,none⟩=some (.func (.func 101) #[] #[.pointer (some ⟨gG,0,none⟩),.pointer (some ⟨gT,0,none⟩),.pointer (some ⟨gY,0,none⟩),.pointer (some ⟨gS,0,none⟩),.pointer (some ⟨gP,0,none⟩)]):=(blk_cell HX9.out.2.2.1 0).trans rfl))
      clear hcY
      go_roundg q
      case measure=>omega
      case rel=>exact ⟨v + 1,gr.set a.toNat v,s1,rfl,⟨by have:=HK.out;omega⟩,HT,⟨by rw [List.length_set];exact HLV.out⟩,HV9,HI9,HX9,HA9,HB9,HL9⟩
     | true =>
      simp only [if_true] at h
      obtain ⟨⟨t1,t2,t3⟩,hr,h⟩:=Option.bind_eq_some_iff.1 h
      have HR:=yam hr
      clear hr
      cases t1 with
      | false =>
       simp only [Bool.false_eq_true,if_false,Option.some.injEq,Prod.mk.injEq] at h
       obtain ⟨rfl,rfl,rfl⟩:=h
       go_wp2_with (first
        | ((with_reducible refine gate_store (t:=3) (p:=33) rfl ?_);refine store_event (t:=3) (p:=33) (v:=?vo1) (w1:=wr.setCell ⟨gg,a.toNat,none⟩ (.int .i64 v)) ?hg ?ho ?hn ?hr ?_;(case ho=>rfl);(case hg=>rfl);(case hn=>rfl);(case hr=>first|(go_simp;done)|(go_simp;rfl));intro w8 hw;have HV8:Aside0 (Kd.R (Kd.int .i64) 3 w8 w0.heap.size (fun k=>k=gg) (.slice (some ⟨gg,0,none⟩) N cg) (gr.set a.toNat v)):=⟨by rw [hw];exact HPO.out.1⟩;have HI8:Aside0 (Inv P s1 w8):=⟨by rw [hw];exact Te.keep HI.out (by simp [World.setCell]) (fun k_ _ hn_=>Below.heap_setCell wr ⟨gg,a.toNat,none⟩ _ k_ (fun e_=>hn_ (by rw [e_];exact HPG.out)))⟩;have HX8:Aside0 (impl_solutions.Boxes tf p1 p2 w8 gg cg N gG gT gY gS gP s A1 c1 l1.length A2 c2 l2.length):=⟨by rw [hw];exact impl_solutions.Boxes.set HX.out HNE.out _ _⟩;have HA8:Aside0 (Agr P wE w8):=⟨by rw [hw];exact Agr.set HA.out HGE.out _ _⟩;have HB8:Aside0 (Below w0.heap.size w0 w8):=⟨by rw [hw];exact below_set HB.out HG0.out⟩;have HL8:Aside0 (∀ k,P k→k < w8.heap.size):=⟨fun k_ hk_=>by have:=HL.out k_ hk_;rw [hw];simpa [World.setCell] using this⟩;clear hw hxv hfv hcG hcS HPO HV HI HX HA HB HL;have hcG:w8.cell? ⟨gG,0,none⟩=some (.slice (some ⟨gg,0,none⟩) N cg):=(blk_cell HX8.out.1 0).trans rfl;have hcP0:w8.cell? ⟨gP,0,none⟩=some (.int .i64 s):=(blk_cell HX8.out.2.2.2.2 0).trans rfl;have hcP1:w8.cell? ⟨gP,1,none⟩=some (.slice A1 l1.length c1):=(blk_cell HX8.out.2.2.2.2 1).trans rfl;have hcP2:w8.cell? ⟨gP,2,none⟩=some (.slice A2 l2.length c2):=(blk_cell HX8.out.2.2.2.2 2).trans rfl)
        | (refine goesL_ (some 37) rfl rfl Try.func102 (by kernel_rfl) rfl #[.agg #[.int .i64 s,.slice A1 l1.length c1,.slice A2 l2.length c2],.slice (some ⟨gg,0,none⟩) (gr.set a.toNat v).length cg,.int .i64 a] rfl (by (try simp only [List.map_toArray,List.map_cons,List.map_nil]);rw [List.length_set,HLV.out];rfl) ?_;(with_reducible refine (impl_cellFits.calls k s _ _ l1 _ _ l2 _ _ (gr.set a.toNat v) a true w8 (HR1.out _ HA8.out) HC1.out (HR2.out _ HA8.out) HC2.out (Kd.R_reads' HV8.out).2.2 (by rw [List.length_set,HLV.out];exact (Kd.R_reads' HV8.out).2.1) HC.out).mono ?_);rintro e w9 ⟨rfl,hb⟩;refine ⟨_,rfl,?_⟩;have HV9:=yam (Kd.R_below HV8.out hb);have HI9:=yam (Te.keep HI8.out hb.size (fun k_ hk_ _=>hb.block k_ hk_));have HX9:=yam (impl_solutions.Boxes.agr HX8.out (Agr.of_below (P:=P) hb) HP.out);have HA9:=yam (HA8.out.trans (Agr.of_below hb));have HB9:=yam (below_step HB8.out hb);have HL9:Aside0 (∀ k,P k→k < w9.heap.size):=⟨fun k_ hk_=>Nat.lt_of_lt_of_le (HL8.out k_ hk_) hb.size⟩;clear hb hcG hcP0 hcP1 hcP2 HV8 HI8 HX8 HA8 HB8 HL8;have hcY:w9.cell? ⟨gY,0,none⟩=some (.func (.func 101) #[] #[.pointer (some ⟨gG,0,none⟩),.pointer (some ⟨gT,0,none⟩),.pointer (some ⟨gY,0,none⟩),.pointer (some ⟨gS,0,none⟩),.pointer (some ⟨gP,0,none⟩)]):=(blk_cell HX9.out.2.2.1 0).trans rfl)
        | (go_at_call 101;(refine (IH.out (a + 1) (gr.set a.toNat v) s1 false t2 t3 _ HAA.out.2.2 HD.out HN.out (by rw [List.length_set];exact HLV.out) HV9.out HI9.out HX9.out HA9.out HB9.out HL9.out HR.out).mono ?_);rintro e w10 ⟨rfl,HL1,hV,hI,hX,hA,hB,hL⟩;have HV10:=yam hV;have HI10:=yam hI;have HX10:=yam hX;have HA10:=yam hA;have HB10:=yam hB;have HL10:=yam hL;have HLV10:=yam HL1;clear hV hI hX hA hB hL HL1 HV9 HI9 HX9 HA9 HB9 HL9 hcY))
       go_ret
       exact ⟨rfl,HLV10.out,HV10.out,HI10.out,HX10.out,HA10.out,HB10.out,HL10.out⟩
      | true =>
       simp only [if_true] at h
       have HT:=yam h
       clear h
       go_wp2_with (first
        | ((with_reducible refine gate_store (t:=3) (p:=33) rfl ?_);refine store_event (t:=3) (p:=33) (v:=?vo1) (w1:=wr.setCell ⟨gg,a.toNat,none⟩ (.int .i64 v)) ?hg ?ho ?hn ?hr ?_;(case ho=>rfl);(case hg=>rfl);(case hn=>rfl);(case hr=>first|(go_simp;done)|(go_simp;rfl));intro w8 hw;have HV8:Aside0 (Kd.R (Kd.int .i64) 3 w8 w0.heap.size (fun k=>k=gg) (.slice (some ⟨gg,0,none⟩) N cg) (gr.set a.toNat v)):=⟨by rw [hw];exact HPO.out.1⟩;have HI8:Aside0 (Inv P s1 w8):=⟨by rw [hw];exact Te.keep HI.out (by simp [World.setCell]) (fun k_ _ hn_=>Below.heap_setCell wr ⟨gg,a.toNat,none⟩ _ k_ (fun e_=>hn_ (by rw [e_];exact HPG.out)))⟩;have HX8:Aside0 (impl_solutions.Boxes tf p1 p2 w8 gg cg N gG gT gY gS gP s A1 c1 l1.length A2 c2 l2.length):=⟨by rw [hw];exact impl_solutions.Boxes.set HX.out HNE.out _ _⟩;have HA8:Aside0 (Agr P wE w8):=⟨by rw [hw];exact Agr.set HA.out HGE.out _ _⟩;have HB8:Aside0 (Below w0.heap.size w0 w8):=⟨by rw [hw];exact below_set HB.out HG0.out⟩;have HL8:Aside0 (∀ k,P k→k < w8.heap.size):=⟨fun k_ hk_=>by have:=HL.out k_ hk_;rw [hw];simpa [World.setCell] using this⟩;clear hw hxv hfv hcG hcS HPO HV HI HX HA HB HL;have hcG:w8.cell? ⟨gG,0,none⟩=some (.slice (some ⟨gg,0,none⟩) N cg):=(blk_cell HX8.out.1 0).trans rfl;have hcP0:w8.cell? ⟨gP,0,none⟩=some (.int .i64 s):=(blk_cell HX8.out.2.2.2.2 0).trans rfl;have hcP1:w8.cell? ⟨gP,1,none⟩=some (.slice A1 l1.length c1):=(blk_cell HX8.out.2.2.2.2 1).trans rfl;have hcP2:w8.cell? ⟨gP,2,none⟩=some (.slice A2 l2.length c2):=(blk_cell HX8.out.2.2.2.2 2).trans rfl)
        | (refine goesL_ (some 37) rfl rfl Try.func102 (by kernel_rfl) rfl #[.agg #[.int .i64 s,.slice A1 l1.length c1,.slice A2 l2.length c2],.slice (some ⟨gg,0,none⟩) (gr.set a.toNat v).length cg,.int .i64 a] rfl (by (try simp only [List.map_toArray,List.map_cons,List.map_nil]);rw [List.length_set,HLV.out];rfl) ?_;(with_reducible refine (impl_cellFits.calls k s _ _ l1 _ _ l2 _ _ (gr.set a.toNat v) a true w8 (HR1.out _ HA8.out) HC1.out (HR2.out _ HA8.out) HC2.out (Kd.R_reads' HV8.out).2.2 (by rw [List.length_set,HLV.out];exact (Kd.R_reads' HV8.out).2.1) HC.out).mono ?_);rintro e w9 ⟨rfl,hb⟩;refine ⟨_,rfl,?_⟩;have HV9:=yam (Kd.R_below HV8.out hb);have HI9:=yam (Te.keep HI8.out hb.size (fun k_ hk_ _=>hb.block k_ hk_));have HX9:=yam (impl_solutions.Boxes.agr HX8.out (Agr.of_below (P:=P) hb) HP.out);have HA9:=yam (HA8.out.trans (Agr.of_below hb));have HB9:=yam (below_step HB8.out hb);have HL9:Aside0 (∀ k,P k→k < w9.heap.size):=⟨fun k_ hk_=>Nat.lt_of_lt_of_le (HL8.out k_ hk_) hb.size⟩;clear hb hcG hcP0 hcP1 hcP2 HV8 HI8 HX8 HA8 HB8 HL8;have hcY:w9.cell? ⟨gY,0,none⟩=some (.func (.func 101) #[] #[.pointer (some ⟨gG,0,none⟩),.pointer (some ⟨gT,0,none⟩),.pointer (some ⟨gY,0,none⟩),.pointer (some ⟨gS,0,none⟩),.pointer (some ⟨gP,0,none⟩)]):=(blk_cell HX9.out.2.2.1 0).trans rfl)
        | (go_at_call 101;(refine (IH.out (a + 1) (gr.set a.toNat v) s1 true t2 t3 _ HAA.out.2.2 HD.out HN.out (by rw [List.length_set];exact HLV.out) HV9.out HI9.out HX9.out HA9.out HB9.out HL9.out HR.out).mono ?_);rintro e w10 ⟨rfl,HL1,hV,hI,hX,hA,hB,hL⟩;have HV10:=yam hV;have HI10:=yam hI;have HX10:=yam hX;have HA10:=yam hA;have HB10:=yam hB;have HL10:=yam hL;have HLV10:=yam HL1;clear hV hI hX hA hB hL HL1 HV9 HI9 HX9 HA9 HB9 HL9 hcY))
       go_roundg q
       case measure=>omega
       case rel=>exact ⟨v + 1,t2,t3,rfl,⟨by have:=HK.out;omega⟩,HT,HLV10,HV10,HI10,HX10,HA10,HB10,HL10⟩
def impl_solutions.run {σ:Type}(T:σ→List Int→Option (Bool × σ))(k:Nat)(s:Int)(l1:List Int)(l2:List S67)(l:List Int)(st:σ):Option σ :=
 if 0 < l.length∧l.length≤100000∧s≤1000 then (impl_PuzzleFits.f k s l1 l2 l).bind fun b=>(if b=true then (impl_solutions.try_ T k s l1 l2 l.length l.length l st).bind fun t=>some t.2.2 else some st) else none
theorem impl_solutions.gen {w0:World}{σ:Type}{tf p1 p2:Nat}{T:σ→List Int→Option (Bool × σ)}{Inv:(Nat→Prop)→σ→World→Prop}(Te:Teller w0 tf p1 p2 T Inv)(k:Nat)(s:Int)(A1:Option Addr)(c1:Nat)(l1:List Int)(A2:Option Addr)(c2:Nat)(l2:List S67)(A:Option Addr)(c:Nat)(l:List Int)(P:Nat→Prop)(st st':σ)(w:World)(hB:Below w0.heap.size w0 w)(hPl:∀ k,P k→k < w.heap.size)(hI:Inv P st w)(hr1:∀ W,Agr P w W→Kd.C (Kd.int .i64) W A1 l1.length l1)(hc1:l1.length≤c1)(hr2:∀ W,Agr P w W→Kd.C k67 W A2 l2.length l2)(hc2:l2.length≤c2)(hr:Kd.C (Kd.int .i64) w A l.length l)(hc:l.length≤c)(h:impl_solutions.run T k s l1 l2 l st=some st') :
  Calls Try.prog 95 #[.agg #[.int .i64 s,.slice A1 l1.length c1,.slice A2 l2.length c2],.slice A l.length c,.func (.func tf) #[] #[.pointer (some ⟨p1,0,none⟩),.pointer (some ⟨p2,0,none⟩)]] w fun e w'=>e= .returned (.tuple #[])∧Inv P st' w'∧Agr P w w'∧Below w0.heap.size w0 w':=by
 unfold impl_solutions.run at h
 by_cases hN:0 < l.length∧l.length≤100000∧s≤1000
 rotate_left
 ·rw [if_neg hN] at h
  cases h
 rw [if_pos hN] at h
 have HCL:=yam (show slices_Clone_int_int.f l=some l by unfold slices_Clone_int_int.f;rw [if_pos (by omega)])
 obtain ⟨b,hF,h⟩:=Option.bind_eq_some_iff.1 h
 have HF:=yam hF
 have HN:=yam hN
 have HB:=yam hB
 have HPL:=yam hPl
 have HI:=yam hI
 have HR1:=yam hr1
 have HC1:=yam hc1
 have HR2:=yam hr2
 have HC2:=yam hc2
 have HR:=yam hr
 have HC:=yam hc
 have hu:=Try.underlying30
 have hsf:=fun (a:Addr) (c:Array Value) (w:World)=>run_store Try.prog w a (.func (.func 101) #[] c) .plain rfl
 clear hN hF hB hPl hI hr1 hc1 hr2 hc2 hr hc
 cases b with
 | false =>
  simp only [Bool.false_eq_true,if_false,Option.some.injEq] at h
  subst h
  go_enter Try.func95,Try.ntmps95
  go_wp2_with (first
   | (refine ybe 3 #[.int .i64 s,.slice A1 l1.length c1,.slice A2 l2.length c2] 30 ?_;intro gP hg w3 hbox hb;have BgP:=yam hbox;have HW:=yam hb;have HO:=yam (show w.heap.size≤gP∧gP < w3.heap.size from ⟨Nat.le_of_eq hg.symm,blk_lt hbox⟩);clear hg hbox hb)
   | (refine ybe 5 #[.func (.func tf) #[] #[.pointer (some ⟨p1,0,none⟩),.pointer (some ⟨p2,0,none⟩)]] 89 ?_;intro gT hg w5 hbox hb;replace HW:=yam (below_step HW.out hb);replace BgP:=yam (blk_below BgP.out hb);have BgT:=yam hbox;have HO_:=HO.out;clear HO;have HO:=yam (show w.heap.size≤gP∧gP < gT∧gT < w5.heap.size from ⟨HO_.1,by omega,blk_lt hbox⟩);clear HO_;clear hg hbox hb)
   | (refine goesL_ (some 10) rfl rfl Try.func64 (by kernel_rfl) rfl #[.slice A l.length c] rfl yma ?_;(with_reducible refine (slices_Clone_int_int.calls A c l l w5 (Kd.C_below HR.out HW.out) HC.out HCL.out).mono ?_);rintro e w10 ⟨v10,rfl,ho,hb⟩;refine ⟨_,rfl,?_⟩;obtain ⟨gg,cg,e_,gb_,gl_,gx_⟩:=Kd.R_form ho HN.out.1;subst e_;have HV:=yam (Kd.R_mono (Kd.R_tight rfl (Kd.R_lower ho (Nat.le_trans HB.out.size HW.out.size))) (fun k_ h_=>by simpa [Value.ownBlock] using h_):Kd.R (Kd.int .i64) 3 w10 w0.heap.size (fun k=>k=gg) (.slice (some ⟨gg,0,none⟩) l.length cg) l);replace HW:=yam (below_step HW.out hb);replace BgP:=yam (blk_below BgP.out hb);replace BgT:=yam (blk_below BgT.out hb);have HO_:=HO.out;clear HO;have HO:=yam (show w.heap.size≤gP∧gP < gT∧gT < gg∧gg < w10.heap.size from ⟨HO_.1,HO_.2.1,by omega,gl_⟩);clear HO_ gb_ gl_ gx_ ho hb)
   | (refine ybe 6 #[.slice none 0 0] 22 ?_;intro gG hg w11 hbox hb;replace HW:=yam (below_step HW.out hb);replace BgP:=yam (blk_below BgP.out hb);replace BgT:=yam (blk_below BgT.out hb);replace HV:=yam (Kd.R_below HV.out hb);have BgG:=yam hbox;have hz:w11.cell? ⟨gG,0,none⟩=some (.slice none 0 0):=(blk_cell hbox 0).trans rfl;have hzf:=blk_frozen hbox 0;have HO_:=HO.out;clear HO;have HO:=yam (show w.heap.size≤gP∧gP < gT∧gT < gg∧gg < gG∧gG < w11.heap.size from ⟨HO_.1,HO_.2.1,HO_.2.2.1,by omega,blk_lt hbox⟩);clear HO_;clear hg hbox hb)
   | ((with_reducible refine gate_store (t:=22) (p:=6) rfl ?_);refine store_event (t:=22) (p:=6) (v:=?vo1) (w1:=w11.setCell ⟨gG,0,none⟩ (.slice (some ⟨gg,0,none⟩) l.length cg)) ?hg ?ho ?hn ?hr ?_;(case ho=>rfl);(case hg=>rfl);(case hn=>rfl);(case hr=>first|(go_simp;done)|(go_simp;rfl));intro w12 hw;have n_:=yam (far1 hw BgP.out (by have:=HO.out;omega));clear BgP;have BgP:=n_;clear n_;have n_:=yam (far1 hw BgT.out (by have:=HO.out;omega));clear BgT;have BgT:=n_;clear n_;have n_:Aside0 (w12.heap[gG]?=some (.cells #[.slice (some ⟨gg,0,none⟩) l.length cg] 22 (0,0))):=⟨by rw [hw];simpa using blk_set BgG.out 0 (.slice (some ⟨gg,0,none⟩) l.length cg)⟩;clear BgG;have BgG:=n_;clear n_;have n_:Aside0 (Below w.heap.size w w12):=⟨by rw [hw];exact below_set HW.out (by have:=HO.out;omega)⟩;clear HW;have HW:=n_;clear n_;have n_:Aside0 (Kd.R (Kd.int .i64) 3 w12 w0.heap.size (fun k=>k=gg) (.slice (some ⟨gg,0,none⟩) l.length cg) l):=⟨by rw [hw];exact Kd.R_far (p:=⟨gG,0,none⟩) HV.out (fun k_ h_=>by have:=HO.out;show k_≠gG;omega) _⟩;clear HV;have HV:=n_;clear n_;clear hz hzf;have hg0:w12.cell? ⟨gG,0,none⟩=some (.slice (some ⟨gg,0,none⟩) l.length cg):=(blk_cell BgG.out 0).trans rfl;have hp0:w12.cell? ⟨gP,0,none⟩=some (.int .i64 s):=(blk_cell BgP.out 0).trans rfl;have hp1:w12.cell? ⟨gP,1,none⟩=some (.slice A1 l1.length c1):=(blk_cell BgP.out 1).trans rfl;have hp2:w12.cell? ⟨gP,2,none⟩=some (.slice A2 l2.length c2):=(blk_cell BgP.out 2).trans rfl;have HO_:Aside0 (w.heap.size≤gP∧gP < gT∧gT < gg∧gg < gG∧gG < w12.heap.size):=⟨by have:=HO.out;rw [hw];simpa [World.setCell] using this⟩;clear HO;have HO:=HO_;clear HO_;clear hw)
   | (refine goesL_ (some 13) rfl rfl Try.func100 (by kernel_rfl) rfl #[.agg #[.int .i64 s,.slice A1 l1.length c1,.slice A2 l2.length c2],.slice (some ⟨gg,0,none⟩) l.length cg] rfl yma ?_;(with_reducible refine (impl_PuzzleFits.calls k s _ _ l1 _ _ l2 _ _ l false w12 (HR1.out _ (Agr.of_below HW.out)) HC1.out (HR2.out _ (Agr.of_below HW.out)) HC2.out (Kd.R_reads' HV.out).2.2 (Kd.R_reads' HV.out).2.1 HF.out).mono ?_);rintro e w13 ⟨rfl,hb⟩;refine ⟨_,rfl,?_⟩;replace HW:=yam (below_step HW.out hb);replace BgP:=yam (blk_below BgP.out hb);replace BgT:=yam (blk_below BgT.out hb);replace HV:=yam (Kd.R_below HV.out hb);replace BgG:=yam (blk_below BgG.out hb);have HO_:=HO.out;clear HO;have HO:=yam (show w.heap.size≤gP∧gP < gT∧gT < gg∧gg < gG∧gG < w13.heap.size from ⟨HO_.1,HO_.2.1,HO_.2.2.1,HO_.2.2.2.1,Nat.lt_of_lt_of_le HO_.2.2.2.2 hb.size⟩);clear HO_ hg0 hp0 hp1 hp2;have hp0:w13.cell? ⟨gP,0,none⟩=some (.int .i64 s):=(blk_cell BgP.out 0).trans rfl;clear hb))
  first|go_end0|((try simp only [Exit.inBlock,Exit.then]);refine bodyPost_ret (results_none rfl _ _ _) rfl ?_)
  exact ⟨rfl,Te.keep HI.out HW.out.size (fun k_ hl_ _=>HW.out.block k_ hl_),Agr.of_below HW.out,below_step HB.out HW.out⟩
 | true =>
  simp only [if_true] at h
  obtain ⟨⟨t1,t2,t3⟩,hT,h⟩:=Option.bind_eq_some_iff.1 h
  obtain rfl:=Option.some.inj h
  have HT:=yam hT
  clear h hT
  go_enter Try.func95,Try.ntmps95
  go_wp2_with (first
   | (refine ybe 3 #[.int .i64 s,.slice A1 l1.length c1,.slice A2 l2.length c2] 30 ?_;intro gP hg w3 hbox hb;have BgP:=yam hbox;have HW:=yam hb;have HO:=yam (show w.heap.size≤gP∧gP < w3.heap.size from ⟨Nat.le_of_eq hg.symm,blk_lt hbox⟩);clear hg hbox hb)
   | (refine ybe 5 #[.func (.func tf) #[] #[.pointer (some ⟨p1,0,none⟩),.pointer (some ⟨p2,0,none⟩)]] 89 ?_;intro gT hg w5 hbox hb;replace HW:=yam (below_step HW.out hb);replace BgP:=yam (blk_below BgP.out hb);have BgT:=yam hbox;have HO_:=HO.out;clear HO;have HO:=yam (show w.heap.size≤gP∧gP < gT∧gT < w5.heap.size from ⟨HO_.1,by omega,blk_lt hbox⟩);clear HO_;clear hg hbox hb)
   | (refine goesL_ (some 10) rfl rfl Try.func64 (by kernel_rfl) rfl #[.slice A l.length c] rfl yma ?_;(with_reducible refine (slices_Clone_int_int.calls A c l l w5 (Kd.C_below HR.out HW.out) HC.out HCL.out).mono ?_);rintro e w10 ⟨v10,rfl,ho,hb⟩;refine ⟨_,rfl,?_⟩;obtain ⟨gg,cg,e_,gb_,gl_,gx_⟩:=Kd.R_form ho HN.out.1;subst e_;have HV:=yam (Kd.R_mono (Kd.R_tight rfl (Kd.R_lower ho (Nat.le_trans HB.out.size HW.out.size))) (fun k_ h_=>by simpa [Value.ownBlock] using h_):Kd.R (Kd.int .i64) 3 w10 w0.heap.size (fun k=>k=gg) (.slice (some ⟨gg,0,none⟩) l.length cg) l);replace HW:=yam (below_step HW.out hb);replace BgP:=yam (blk_below BgP.out hb);replace BgT:=yam (blk_below BgT.out hb);have HO_:=HO.out;clear HO;have HO:=yam (show w.heap.size≤gP∧gP < gT∧gT < gg∧gg < w10.heap.size from ⟨HO_.1,HO_.2.1,by omega,gl_⟩);clear HO_ gb_ gl_ gx_ ho hb)
   | (refine ybe 6 #[.slice none 0 0] 22 ?_;intro gG hg w11 hbox hb;replace HW:=yam (below_step HW.out hb);replace BgP:=yam (blk_below BgP.out hb);replace BgT:=yam (blk_below BgT.out hb);replace HV:=yam (Kd.R_below HV.out hb);have BgG:=yam hbox;have hz:w11.cell? ⟨gG,0,none⟩=some (.slice none 0 0):=(blk_cell hbox 0).trans rfl;have hzf:=blk_frozen hbox 0;have HO_:=HO.out;clear HO;have HO:=yam (show w.heap.size≤gP∧gP < gT∧gT < gg∧gg < gG∧gG < w11.heap.size from ⟨HO_.1,HO_.2.1,HO_.2.2.1,by omega,blk_lt hbox⟩);clear HO_;clear hg hbox hb)
   | ((with_reducible refine gate_store (t:=22) (p:=6) rfl ?_);refine store_event (t:=22) (p:=6) (v:=?vo1) (w1:=w11.setCell ⟨gG,0,none⟩ (.slice (some ⟨gg,0,none⟩) l.length cg)) ?hg ?ho ?hn ?hr ?_;(case ho=>rfl);(case hg=>rfl);(case hn=>rfl);(case hr=>first|(go_simp;done)|(go_simp;rfl));intro w12 hw;have n_:=yam (far1 hw BgP.out (by have:=HO.out;omega));clear BgP;have BgP:=n_;clear n_;have n_:=yam (far1 hw BgT.out (by have:=HO.out;omega));clear BgT;have BgT:=n_;clear n_;have n_:Aside0 (w12.heap[gG]?=some (.cells #[.slice (some ⟨gg,0,none⟩) l.length cg] 22 (0,0))):=⟨by rw [hw];simpa using blk_set BgG.out 0 (.slice (some ⟨gg,0,none⟩) l.length cg)⟩;clear BgG;have BgG:=n_;clear n_;have n_:Aside0 (Below w.heap.size w w12):=⟨by rw [hw];exact below_set HW.out (by have:=HO.out;omega)⟩;clear HW;have HW:=n_;clear n_;have n_:Aside0 (Kd.R (Kd.int .i64) 3 w12 w0.heap.size (fun k=>k=gg) (.slice (some ⟨gg,0,none⟩) l.length cg) l):=⟨by rw [hw];exact Kd.R_far (p:=⟨gG,0,none⟩) HV.out (fun k_ h_=>by have:=HO.out;show k_≠gG;omega) _⟩;clear HV;have HV:=n_;clear n_;clear hz hzf;have hg0:w12.cell? ⟨gG,0,none⟩=some (.slice (some ⟨gg,0,none⟩) l.length cg):=(blk_cell BgG.out 0).trans rfl;have hp0:w12.cell? ⟨gP,0,none⟩=some (.int .i64 s):=(blk_cell BgP.out 0).trans rfl;have hp1:w12.cell? ⟨gP,1,none⟩=some (.slice A1 l1.length c1):=(blk_cell BgP.out 1).trans rfl;have hp2:w12.cell? ⟨gP,2,none⟩=some (.slice A2 l2.length c2):=(blk_cell BgP.out 2).trans rfl;have HO_:Aside0 (w.heap.size≤gP∧gP < gT∧gT < gg∧gg < gG∧gG < w12.heap.size):=⟨by have:=HO.out;rw [hw];simpa [World.setCell] using this⟩;clear HO;have HO:=HO_;clear HO_;clear hw)
   | (refine goesL_ (some 13) rfl rfl Try.func100 (by kernel_rfl) rfl #[.agg #[.int .i64 s,.slice A1 l1.length c1,.slice A2 l2.length c2],.slice (some ⟨gg,0,none⟩) l.length cg] rfl yma ?_;(with_reducible refine (impl_PuzzleFits.calls k s _ _ l1 _ _ l2 _ _ l true w12 (HR1.out _ (Agr.of_below HW.out)) HC1.out (HR2.out _ (Agr.of_below HW.out)) HC2.out (Kd.R_reads' HV.out).2.2 (Kd.R_reads' HV.out).2.1 HF.out).mono ?_);rintro e w13 ⟨rfl,hb⟩;refine ⟨_,rfl,?_⟩;replace HW:=yam (below_step HW.out hb);replace BgP:=yam (blk_below BgP.out hb);replace BgT:=yam (blk_below BgT.out hb);replace HV:=yam (Kd.R_below HV.out hb);replace BgG:=yam (blk_below BgG.out hb);have HO_:=HO.out;clear HO;have HO:=yam (show w.heap.size≤gP∧gP < gT∧gT < gg∧gg < gG∧gG < w13.heap.size from ⟨HO_.1,HO_.2.1,HO_.2.2.1,HO_.2.2.2.1,Nat.lt_of_lt_of_le HO_.2.2.2.2 hb.size⟩);clear HO_ hg0 hp0 hp1 hp2;have hp0:w13.cell? ⟨gP,0,none⟩=some (.int .i64 s):=(blk_cell BgP.out 0).trans rfl;clear hb)
   | (refine ybe 7 #[.int .i64 0] 3 ?_;intro gS hg w14 hbox hb;replace HW:=yam (below_step HW.out hb);replace BgP:=yam (blk_below BgP.out hb);replace BgT:=yam (blk_below BgT.out hb);replace HV:=yam (Kd.R_below HV.out hb);replace BgG:=yam (blk_below BgG.out hb);have BgS:=yam hbox;clear hp0;have hz:w14.cell? ⟨gS,0,none⟩=some (.int .i64 0):=(blk_cell hbox 0).trans rfl;have hzf:=blk_frozen hbox 0;have HO_:=HO.out;clear HO;have HO:=yam (show w.heap.size≤gP∧gP < gT∧gT < gg∧gg < gG∧gG < gS∧gS < w14.heap.size from ⟨HO_.1,HO_.2.1,HO_.2.2.1,HO_.2.2.2.1,by omega,blk_lt hbox⟩);clear HO_;clear hg hbox hb)
   | ((with_reducible refine gate_store (t:=3) (p:=7) rfl ?_);refine store_event (t:=3) (p:=7) (v:=?vo2) (w1:=w14.setCell ⟨gS,0,none⟩ (.int .i64 s)) ?hg ?ho ?hn ?hr ?_;(case ho=>rfl);(case hg=>rfl);(case hn=>rfl);(case hr=>first|(go_simp;done)|(go_simp;rfl));intro w15 hw;have n_:=yam (far1 hw BgP.out (by have:=HO.out;omega));clear BgP;have BgP:=n_;clear n_;have n_:=yam (far1 hw BgT.out (by have:=HO.out;omega));clear BgT;have BgT:=n_;clear n_;have n_:=yam (far1 hw BgG.out (by have:=HO.out;omega));clear BgG;have BgG:=n_;clear n_;have n_:Aside0 (w15.heap[gS]?=some (.cells #[.int .i64 s] 3 (0,0))):=⟨by rw [hw];simpa using blk_set BgS.out 0 (.int .i64 s)⟩;clear BgS;have BgS:=n_;clear n_;have n_:Aside0 (Below w.heap.size w w15):=⟨by rw [hw];exact below_set HW.out (by have:=HO.out;omega)⟩;clear HW;have HW:=n_;clear n_;have n_:Aside0 (Kd.R (Kd.int .i64) 3 w15 w0.heap.size (fun k=>k=gg) (.slice (some ⟨gg,0,none⟩) l.length cg) l):=⟨by rw [hw];exact Kd.R_far (p:=⟨gS,0,none⟩) HV.out (fun k_ h_=>by have:=HO.out;show k_≠gS;omega) _⟩;clear HV;have HV:=n_;clear n_;clear hz hzf;have HO_:Aside0 (w.heap.size≤gP∧gP < gT∧gT < gg∧gg < gG∧gG < gS∧gS < w15.heap.size):=⟨by have:=HO.out;rw [hw];simpa [World.setCell] using this⟩;clear HO;have HO:=HO_;clear HO_;clear hw)
   | (refine ybe 8 #[.nilFunc] 79 ?_;intro gY hg w16 hbox hb;replace HW:=yam (below_step HW.out hb);replace BgP:=yam (blk_below BgP.out hb);replace BgT:=yam (blk_below BgT.out hb);replace HV:=yam (Kd.R_below HV.out hb);replace BgG:=yam (blk_below BgG.out hb);replace BgS:=yam (blk_below BgS.out hb);have BgY:=yam hbox;have hz:w16.cell? ⟨gY,0,none⟩=some (.nilFunc):=(blk_cell hbox 0).trans rfl;have hzf:=blk_frozen hbox 0;have HO_:=HO.out;clear HO;have HO:=yam (show w.heap.size≤gP∧gP < gT∧gT < gg∧gg < gG∧gG < gS∧gS < gY∧gY < w16.heap.size from ⟨HO_.1,HO_.2.1,HO_.2.2.1,HO_.2.2.2.1,HO_.2.2.2.2.1,by omega,blk_lt hbox⟩);clear HO_;clear hg hbox hb)
   | ((with_reducible refine gate_store (t:=79) (p:=8) rfl ?_);refine store_event (t:=79) (p:=8) (v:=?vo3) (w1:=w16.setCell ⟨gY,0,none⟩ (.func (.func 101) #[] #[.pointer (some ⟨gG,0,none⟩),.pointer (some ⟨gT,0,none⟩),.pointer (some ⟨gY,0,none⟩),.pointer (some ⟨gS,0,none⟩),.pointer (some ⟨gP,0,none⟩)])) ?hg ?ho ?hn ?hr ?_;(case ho=>rfl);(case hg=>rfl);(case hn=>rfl);(case hr=>first|(go_simp;done)|(go_simp;rfl));intro w17 hw;have n_:=yam (far1 hw BgP.out (by have:=HO.out;omega));clear BgP;have BgP:=n_;clear n_;have n_:=yam (far1 hw BgT.out (by have:=HO.out;omega));clear BgT;have BgT:=n_;clear n_;have n_:=yam (far1 hw BgG.out (by have:=HO.out;omega));clear BgG;have BgG:=n_;clear n_;have n_:=yam (far1 hw BgS.out (by have:=HO.out;omega));clear BgS;have BgS:=n_;clear n_;have n_:Aside0 (w17.heap[gY]?=some (.cells #[.func (.func 101) #[] #[.pointer (some ⟨gG,0,none⟩),.pointer (some ⟨gT,0,none⟩),.pointer (some ⟨gY,0,none⟩),.pointer (some ⟨gS,0,none⟩),.pointer (some ⟨gP,0,none⟩)]] 79 (0,0))):=⟨by rw [hw];simpa using blk_set BgY.out 0 (.func (.func 101) #[] #[.pointer (some ⟨gG,0,none⟩),.pointer (some ⟨gT,0,none⟩),.pointer (some ⟨gY,0,none⟩),.pointer (some ⟨gS,0,none⟩),.pointer (some ⟨gP,0,none⟩)])⟩;clear BgY;have BgY:=n_;clear n_;have n_:Aside0 (Below w.heap.size w w17):=⟨by rw [hw];exact below_set HW.out (by have:=HO.out;omega)⟩;clear HW;have HW:=n_;clear n_;have n_:Aside0 (Kd.R (Kd.int .i64) 3 w17 w0.heap.size (fun k=>k=gg) (.slice (some ⟨gg,0,none⟩) l.length cg) l):=⟨by rw [hw];exact Kd.R_far (p:=⟨gY,0,none⟩) HV.out (fun k_ h_=>by have:=HO.out;show k_≠gY;omega) _⟩;clear HV;have HV:=n_;clear n_;clear hz hzf;have hy0:w17.cell? ⟨gY,0,none⟩=some (.func (.func 101) #[] #[.pointer (some ⟨gG,0,none⟩),.pointer (some ⟨gT,0,none⟩),.pointer (some ⟨gY,0,none⟩),.pointer (some ⟨gS,0,none⟩),.pointer (some ⟨gP,0,none⟩)]):=(blk_cell BgY.out 0).trans rfl;have HO_:Aside0 (w.heap.size≤gP∧gP < gT∧gT < gg∧gg < gG∧gG < gS∧gS < gY∧gY < w17.heap.size):=⟨by have:=HO.out;rw [hw];simpa [World.setCell] using this⟩;clear HO;have HO:=HO_;clear HO_;clear hw)
   | (go_at_call 101;(refine (impl_solutions.clo Te k s A1 c1 l1 A2 c2 l2 gg cg l.length gG gT gY gS gP (fun k_=>P k_∨k_=gg∨k_=gG∨k_=gT∨k_=gY∨k_=gS∨k_=gP) w ⟨.inr (.inr (.inl rfl)),.inr (.inr (.inr (.inl rfl))),.inr (.inr (.inr (.inr (.inl rfl)))),.inr (.inr (.inr (.inr (.inr (.inl rfl))))),.inr (.inr (.inr (.inr (.inr (.inr rfl)))))⟩ (.inr (.inl rfl)) (by have:=HO.out;omega) (by have:=HO.out;omega) (Nat.le_trans HB.out.size (by have:=HO.out;omega)) HN.out.2.2 (fun W_ h_=>HR1.out W_ (h_.mono (fun _ _ hp_=> .inl hp_))) HC1.out (fun W_ h_=>HR2.out W_ (h_.mono (fun _ _ hp_=> .inl hp_))) HC2.out l.length 0 l st t1 t2 t3 w17 (by omega) (Nat.le_refl _) HN.out.2.1 rfl HV.out (Te.keep (Te.mono HI.out (fun k_ hl_ hp_=>hp_.resolve_right (by have:=HO.out;omega))) HW.out.size (fun k_ hl_ _=>HW.out.block k_ hl_)) ⟨BgG.out,BgT.out,BgY.out,BgS.out,BgP.out⟩ (Agr.of_below HW.out) (below_step HB.out HW.out) (fun k_ hp_=>hp_.elim (fun hp_=>by have h1_:=HO.out;have h2_:=HW.out.size;have:=HPL.out k_ hp_;omega) (fun hp_=>by have h1_:=HO.out;omega)) HT.out).mono ?_);rintro e w18 ⟨rfl,hL1,hV,hI,hX,hA,hB,hL⟩;have n0_:=yam (Te.mono hI (fun k_ _ hp_=> .inl hp_):Inv P t3 w18);have n1_:=yam (hA.mono (fun _ _ hp_=> .inl hp_):Agr P w w18);have n2_:=yam hB;clear hL1 hV hI hX hA hB hL hy0))
  first|go_end0|((try simp only [Exit.inBlock,Exit.then]);refine bodyPost_ret (results_none rfl _ _ _) rfl ?_)
  exact ⟨rfl,n0_.out,n1_.out,n2_.out⟩
def impl_solutions.f (k:Nat):Option Unit:=none
theorem impl_solutions.calls:True:=trivial
def impl_firstSolutions.T (most:Int)(out:List (List Int))(g:List Int):Option (Bool × List (List Int)):=if g.length≤100000∧out.length≤100000 then some (decide (((out ++ [g]).length:Int) < most),out ++ [g]) else none
def impl_firstSolutions.Inv (w0:World)(p1 p2:Nat)(most:Int)(P:Nat→Prop)(out:List (List Int))(w:World):Prop :=
 w.heap[p2]?=some (.cells #[.int .i64 most] 3 (0,0))∧(∃ v,w.heap[p1]?=some (.cells #[v] 58 (0,0))∧Kd.S (Kd.slice 3 (Kd.int .i64)) 22 w w0.heap.size (fun k=>¬ P k∧k≠p1∧k≠p2) v out)∧¬ P p1∧¬ P p2∧w0.heap.size≤p1∧p2 < p1
theorem impl_firstSolutions.keep {w0:World}{p1 p2:Nat}{most:Int}{P:Nat→Prop}{s:List (List Int)}{w w':World}(h:impl_firstSolutions.Inv w0 p1 p2 most P s w)(_:w.heap.size≤w'.heap.size)(hk:∀ k,k < w.heap.size→¬ P k→w'.heap[k]?=w.heap[k]?):impl_firstSolutions.Inv w0 p1 p2 most P s w':=by
 obtain ⟨h1,⟨v,h2,hR⟩,n1,n2,h3,h4⟩:=h
 exact ⟨(hk p2 (blk_lt h1) n2).trans h1,⟨v,(hk p1 (blk_lt h2) n1).trans h2,Kd.S_step hR (fun k hk2 hlt=>hk k hlt hk2.1)⟩,n1,n2,h3,h4⟩
theorem impl_firstSolutions.mono_ {w0:World}{p1 p2:Nat}{most:Int}{P P':Nat→Prop}{s:List (List Int)}{w:World}(h:impl_firstSolutions.Inv w0 p1 p2 most P s w)(hk:∀ k,k < w.heap.size→P' k→P k):impl_firstSolutions.Inv w0 p1 p2 most P' s w:=by
 obtain ⟨h1,⟨v,h2,hR⟩,n1,n2,h3,h4⟩:=h
 exact ⟨h1,⟨v,h2,Kd.S_mono (Kd.S_bound hR) (fun k hk2=>⟨fun hp=>hk2.1.1 (hk k hk2.2.2.1 hp),hk2.1.2⟩)⟩,fun hp=>n1 (hk p1 (blk_lt h2) hp),fun hp=>n2 (hk p2 (blk_lt h1) hp),h3,h4⟩
theorem impl_firstSolutions.call {w0:World}{p1 p2:Nat}{most:Int}{P:Nat→Prop}{out s':List (List Int)}{w:World}{g:List Int}{A:Option Addr}{c:Nat}{b:Bool}(hB:Below w0.heap.size w0 w)(hI:impl_firstSolutions.Inv w0 p1 p2 most P out w)(hr:Kd.C (Kd.int .i64) w A g.length g)(hc:g.length≤c)(hP:∀ k,P k→k < w.heap.size)(h:impl_firstSolutions.T most out g=some (b,s')) :
  Calls Try.prog 96 #[.slice A g.length c,.pointer (some ⟨p1,0,none⟩),.pointer (some ⟨p2,0,none⟩)] w fun e w'=>e= .returned (.bool b)∧impl_firstSolutions.Inv w0 p1 p2 most P s' w'∧Agr P w w'∧Below w0.heap.size w0 w':=by
 unfold impl_firstSolutions.T at h
 by_cases hl:g.length≤100000∧out.length≤100000
 rotate_left
 ·rw [if_neg hl] at h
  cases h
 rw [if_pos hl] at h
 obtain ⟨o,hoe⟩:∃ o,o=out ++ [g]:=⟨_,rfl⟩
 rw [← hoe] at h
 simp only [Option.some.injEq,Prod.mk.injEq] at h
 obtain ⟨rfl,rfl⟩:=h
 obtain ⟨h1,⟨v,h2,hS⟩,n1,n2,h3,h4⟩:=hI
 obtain ⟨Av,cv,ev⟩:=Kd.S_slice hS
 subst ev
 have HOE:=yam hoe
 have HLT:=yam (show p1 < w.heap.size∧p2 < w.heap.size from ⟨blk_lt h2,blk_lt h1⟩)
 have HL:=yam hl
 have H1:=yam h1
 have H2:=yam h2
 have HS:=yam hS
 have N1:=yam n1
 have N2:=yam n2
 have H3:=yam h3
 have H4:=yam h4
 have HB:=yam hB
 have HP:=yam hP
 have HR:=yam hr
 have HC:=yam hc
 have HCL:=yam (show slices_Clone_int_int.f g=some g by unfold slices_Clone_int_int.f;rw [if_pos (by omega)])
 clear hB hr hc hP hl h1 h2 hS n1 n2 h3 h4 hoe
 go_enter Try.func96,Try.ntmps96
 go_wp2
 refine start_ (n:=6) (S:=fun w'=>w'.cell? ⟨p1,0,none⟩=some (.slice Av out.length cv)) (ds:=[5]) (yvb 6 0) (by kernel_rfl) rfl rfl ((blk_cell (show w.drew.heap[p1]?=_ from H2.out) 0).trans rfl) (fun hHeld=>?_)
 have n1_:=yam (show w.drew.heap[p2]?=_ from H1.out)
 have n2_:=yam (show w.drew.heap[p1]?=_ from H2.out)
 have n3_:=yam (Kd.S_drew HS.out)
 have n4_:=yam (Kd.C_drew HR.out)
 have n5_:=yam (show Below w.heap.size w w.drew from below_drew1 (Below.refl _ _))
 clear H1 H2 HS HR
 generalize w.drew=w1 at n1_ n2_ n3_ n4_ n5_ hHeld ⊢
 have H1:=n1_
 have H2:=n2_
 have HS:=n3_
 have HR:=n4_
 have HW:=n5_
 clear n1_ n2_ n3_ n4_ n5_
 refine pure_ (i:=1) (N:=some 6) (v:=?_) (a':=?_) (yvb 6 2) rfl rfl (by kernel_rfl) (fun _ _ _ h=>h) (Or.inl ⟨by rfl,?_⟩) ?_ ?_
 rotate_left
 ·intro w'
  go_simp
  with_reducible rfl
 rotate_left
 ·simp only [Act.put,yps,i64_w,i32_w]
  rfl
 refine take_ (i:=0) (N:=some 5) (v:=?_) (a':=?_) (yvb 6 3) rfl rfl (by kernel_rfl) (fun _ _ _ h=>h) (Or.inl ⟨by rfl,?_⟩) hHeld ?_ ?_
 rotate_left
 ·intro w' s0
  go_simp
  with_reducible rfl
 rotate_left
 ·simp only [Act.put,yps,i64_w,i32_w]
  rfl
 refine one_ (i:=2) (N:=some 7) (yvb 6 7) rfl rfl (by kernel_rfl) (by decide) (fun K hK=>?_)
 refine goes_ Try.func64 (by kernel_rfl) rfl #[.slice A g.length c] (by rfl) rfl rfl yma ?_
 with_reducible refine (slices_Clone_int_int.calls A c g g w1 HR.out HC.out HCL.out).mono ?_
 rintro e w2 ⟨v7,rfl,ho,hb⟩
 refine ⟨_,rfl,?_⟩
 have n1_:=yam (blk_below H1.out hb)
 have n2_:=yam (blk_below H2.out hb)
 have n3_:=yam (Kd.S_below (Kd.S_bound HS.out) hb)
 have n5_:=yam (below_step HW.out hb)
 have n6_:=yam (Kd.R_lower (Kd.R_tight rfl ho) (Nat.le_trans HB.out.size HW.out.size))
 have n7_:=yam (show ∀ k,some k=v7.ownBlock→w1.heap.size≤k∧k < w2.heap.size from fun k_ h_=>⟨Kd.R_base ho k_ h_.symm,Kd.R_lt ho k_ h_.symm⟩)
 have hz1:=yam HW.out.size
 clear H1 H2 HS HW HR ho hb
 have H1:=n1_
 have H2:=n2_
 have HS:=n3_
 have HW:=n5_
 have HV:=n6_
 have HVB:=n7_
 clear n1_ n2_ n3_ n5_ n6_ n7_
 obtain ⟨A7,c7,e7⟩:=Kd.R_slice HV.out
 subst e7
 refine hK.out _ _ ((blk_cell H2.out 0).trans rfl) (fun hHeld=>?_)
 clear hK K
 refine norm_ (a':=?_) ?_ ?_
 rotate_left
 ·show Act.put _ (some 7) _=_
  simp only [Act.put,yps,i64_w,i32_w]
  rfl
 refine one_ (i:=3) (N:=some 8) (yvb 6 15) rfl rfl (by kernel_rfl) (by decide) (fun K hK=>?_)
 refine value_ (w1:=w2.alloc (.cells #[.slice A7 g.length c7] 22)) (v:= .slice (some ⟨w2.heap.size,0,none⟩) 1 1) (by rfl) rfl ?_ ?_
 ·go_simp
  first|done|rfl|(constructor <;> rfl)
 refine hK.out _ _ ((blk_cell (blk_alloc H2.out _) 0).trans rfl) (fun hHeld=>?_)
 clear hK K
 refine norm_ (a':=?_) ?_ ?_
 rotate_left
 ·show Act.put _ (some 8) _=_
  simp only [Act.put,yps,i64_w,i32_w]
  rfl
 refine one_ (i:=4) (N:=some 9) (yvb 6 31) rfl rfl (by kernel_rfl) (by decide) (fun K hK=>?_)
 refine Kd.S_append_step (Kd.slice 3 (Kd.int .i64)) (w0:=w0) w0.heap.size (by rfl) (.tmp 5) (.tmp 8) 58 22 (.slice none 0 0) 24 rfl Try.underlying58 info22 rfl (by decide) (by omega) (.slice Av out.length cv) out g [.slice A7 g.length c7] (fun k=>¬ P k∧k≠p1∧k≠p2) (fun k=>some k=(Value.slice A7 g.length c7).ownBlock) rfl rfl (Kd.M_row HV.out) (fun k_ h_=>by
  have h1_:=HVB.out k_ h_
  have h2_:=hz1.out
  have h3_:=HLT.out
  exact ⟨⟨fun hp_=>by have:=HP.out k_ hp_;omega,by omega,by omega⟩,fun e_=>by have:=((Kd.S_R HS.out).1 k_ e_.symm).2.2.1;omega⟩) (fun k_ h_=>by
  have h1_:=HLT.out
  have h2_:=HW.out.size
  exact ⟨fun hp_=>by have:=HP.out k_ hp_;omega,by omega,by omega⟩) (Kd.S_mono HS.out (fun k_ h_=>⟨h_.1,fun e_=>by have:=HVB.out k_ e_;have:=h_.2.2.1;omega⟩)) (below_step HB.out HW.out) (Nat.le_trans HB.out.size HW.out.size) (by have:=HL.out;omega) ?_
 intro v9 w4 ho hb hg hat
 rw [← HOE.out] at ho
 have hown:∀ k,(Value.slice Av out.length cv).ownBlock=some k→(¬ P k∧k≠p1∧k≠p2):=fun k_ e_=>((Kd.S_R HS.out).1 k_ e_).1
 have n1_:=yam (blk_grown H1.out hg (fun e_=>(hown p2 e_.symm).2.2 rfl))
 have n2_:=yam (blk_grown H2.out hg (fun e_=>(hown p1 e_.symm).2.1 rfl))
 have n3_:=yam ho
 have n4_:=yam hb
 have n5_:=yam (show Agr P w w4 from ⟨Nat.le_trans HW.out.size hg.size,fun k_ hl_ hp_=>(hg.block k_ (Nat.lt_of_lt_of_le hl_ HW.out.size) (fun e_=>(hown k_ e_.symm).1 hp_)).trans (HW.out.block k_ hl_)⟩)
 clear ho hb hg hat hown H1 H2 HS HW HV HVB hz1
 have H1:=n1_
 have H2:=n2_
 have HS:=n3_
 have HB4:=n4_
 have HA:=n5_
 clear n1_ n2_ n3_ n4_ n5_
 obtain ⟨A9,c9,e9⟩:=Kd.S_slice HS.out
 subst e9
 refine hK.out _ _ ((blk_cell H2.out 0).trans rfl) (fun hHeld=>?_)
 clear hK K
 refine norm_ (a':=?_) ?_ ?_
 rotate_left
 ·show Act.put _ (some 9) _=_
  simp only [Act.put,yps,i64_w,i32_w]
  rfl
 have hzf:=blk_frozen H2.out 0
 have hz:=hHeld
 refine last_ (i:=5) (N:=none) (yvb 6 63) rfl rfl (by kernel_rfl) (by decide) (fun K hK=>?_)
 refine skip_ (w1:=w4.setCell ⟨p1,0,none⟩ (.slice A9 o.length c9)) (by rfl) rfl ?_ ?_
 ·go_simp
  first|done|rfl
 have n1_:=yam (far1 (rfl:w4.setCell ⟨p1,0,none⟩ (.slice A9 o.length c9)=_) H1.out (by have:=H4.out;omega))
 have n2_:Aside0 ((w4.setCell ⟨p1,0,none⟩ (.slice A9 o.length c9)).heap[p1]?=some (.cells #[.slice A9 o.length c9] 58 (0,0))):=⟨by simpa using blk_set H2.out 0 (.slice A9 o.length c9)⟩
 have n3_:=yam (Kd.S_far (p:=⟨p1,0,none⟩) HS.out (fun k_ h_=>h_.2.1) (.slice A9 o.length c9))
 have n4_:Aside0 (Below w0.heap.size w0 (w4.setCell ⟨p1,0,none⟩ (.slice A9 o.length c9))):=⟨below_set HB4.out H3.out⟩
 have n5_:Aside0 (Agr P w (w4.setCell ⟨p1,0,none⟩ (.slice A9 o.length c9))):=⟨⟨by have:=HA.out.1;simpa [World.setCell] using this,fun k_ hl_ hp_=>(Below.heap_setCell w4 ⟨p1,0,none⟩ _ k_ (fun e_=>N1.out (by simp only at e_;rw [← e_];exact hp_))).trans (HA.out.2 k_ hl_ hp_)⟩⟩
 refine hK.out _ _ ?_
 clear hK K hz hzf hHeld
 generalize w4.setCell ⟨p1,0,none⟩ (.slice A9 o.length c9)=w5 at n1_ n2_ n3_ n4_ n5_ ⊢
 have hcO:w5.cell? ⟨p1,0,none⟩=some (.slice A9 o.length c9):=(blk_cell n2_.out 0).trans rfl
 have hcM:w5.cell? ⟨p2,0,none⟩=some (.int .i64 most):=(blk_cell n1_.out 0).trans rfl
 refine done_ (by kernel_rfl) ?_
 go_wp2
 go_ret
 exact ⟨rfl,⟨n1_.out,⟨_,n2_.out,n3_.out⟩,N1.out,N2.out,H3.out,H4.out⟩,n5_.out,n4_.out⟩
theorem impl_firstSolutions.teller (w0:World)(p1 p2:Nat)(most:Int):Teller w0 96 p1 p2 (impl_firstSolutions.T most) (impl_firstSolutions.Inv w0 p1 p2 most) :=
 ⟨⟨_,Try.func96,by kernel_rfl,rfl⟩,impl_firstSolutions.keep,impl_firstSolutions.mono_,impl_firstSolutions.call⟩
def impl_firstSolutions.f (k:Nat)(a0_0:Int)(l0_1:List Int)(l0_2:List S67)(l1:List Int)(a2:Int):Option (List (List Int)):=impl_solutions.run (impl_firstSolutions.T a2) k a0_0 l0_1 l0_2 l1 []
theorem impl_firstSolutions.calls (k:Nat)(a0_0:Int)(A0_1:Option Addr)(c0_1:Nat)(l0_1:List Int)(A0_2:Option Addr)(c0_2:Nat)(l0_2:List S67)(A1:Option Addr)(c1:Nat)(l1:List Int)(a2:Int)(r:List (List Int))(w:World)(hr0_1:Kd.C (Kd.int .i64) w A0_1 l0_1.length l0_1)(hc0_1:l0_1.length≤c0_1)(hr0_2:Kd.C k67 w A0_2 l0_2.length l0_2)(hc0_2:l0_2.length≤c0_2)(hr1:Kd.C (Kd.int .i64) w A1 l1.length l1)(hc1:l1.length≤c1)(h:impl_firstSolutions.f k a0_0 l0_1 l0_2 l1 a2=some r) :
  Calls Try.prog 89 #[.agg #[.int .i64 a0_0,.slice A0_1 l0_1.length c0_1,.slice A0_2 l0_2.length c0_2],.slice A1 l1.length c1,.int .i64 a2] w fun e w'=>∃ v0_:Value,e= .returned (v0_)∧Kd.S (Kd.slice 3 (Kd.int .i64)) 22 w' w.heap.size (fun _=>True) v0_ r∧Below w.heap.size w w':=by
 have HS_:=yam (show impl_solutions.run (impl_firstSolutions.T a2) k a0_0 l0_1 l0_2 l1 []=some r from h)
 have HR1:=yam hr0_1
 have HC1:=yam hc0_1
 have HR2:=yam hr0_2
 have HC2:=yam hc0_2
 have HR3:=yam hr1
 have HC3:=yam hc1
 have hu:=Try.underlying30
 clear h hr0_1 hc0_1 hr0_2 hc0_2 hr1 hc1
 go_enter Try.func89,Try.ntmps89
 go_wp2_with (first
  | (refine ybe 3 #[.int .i64 a0_0,.slice A0_1 l0_1.length c0_1,.slice A0_2 l0_2.length c0_2] 30 ?_;intro gP hg w3 hbox hb;have BgP:=yam hbox;have HW:=yam hb;have HO:=yam (show w.heap.size≤gP∧gP < w3.heap.size from ⟨Nat.le_of_eq hg.symm,blk_lt hbox⟩);clear hg hbox hb)
  | (refine ybe 5 #[.int .i64 a2] 3 ?_;intro gM hg w5 hbox hb;have BgM:=yam hbox;replace BgP:=yam (blk_below BgP.out hb);replace HW:=yam (below_step HW.out hb);have HO_:=HO.out;clear HO;have HO:=yam (show w.heap.size≤gP∧gP < gM∧gM < w5.heap.size from ⟨HO_.1,by omega,blk_lt hbox⟩);clear HO_ hg hbox hb)
  | ((with_reducible refine gate_dst (N:=8) rfl ?_);refine Kd.S_lit (Kd.slice 3 (Kd.int .i64)) _ 22 ?hg (N:=8) ?hd (xs:=([]:List (List Int))) (inner:=[]) (ok:=fun k_=>k_=w5.heap.size) (okp:=fun _=>False) ?hr ?hp (fun _ hk=>hk.elim) rfl (Below.refl _ _) (Nat.le_refl _) (by simp) ?_;(case hd=>rfl);(case hg=>rfl);(case hr=>first|(go_simp;done)|(go_simp;rfl));(case hp=>exact (Reps.none _ _));intro v8 w8 ho hb hg_ hnew_;clear hg_;obtain ⟨b_,e_,l_⟩:=hnew_;have l2_:=Kd.S_lt ho b_ e_;have HS:=yam (Kd.S_lower ho HW.out.size);replace BgP:=yam (blk_below BgP.out hb);replace BgM:=yam (blk_below BgM.out hb);replace HW:=yam (below_step HW.out hb);have HO_:=HO.out;clear HO;have HO:=yam (show w.heap.size≤gP∧gP < gM∧gM < w5.heap.size∧w5.heap.size < w8.heap.size from ⟨HO_.1,HO_.2.1,HO_.2.2,by omega⟩);clear HO_ ho hb e_ l_ l2_;obtain ⟨A8,c8,e8⟩:=Kd.S_slice HS.out;subst e8)
  | (refine ybe 7 #[.slice none 0 0] 58 ?_;intro gO hg w9 hbox hb;have BgO:=yam hbox;replace BgP:=yam (blk_below BgP.out hb);replace BgM:=yam (blk_below BgM.out hb);replace HW:=yam (below_step HW.out hb);replace HS:=yam (Kd.S_below (Kd.S_bound HS.out) hb);have HO_:=HO.out;clear HO;have HO:=yam (show w.heap.size≤gP∧gP < gM∧gM < w5.heap.size∧w5.heap.size < w8.heap.size∧w8.heap.size≤gO∧gO < w9.heap.size from ⟨HO_.1,HO_.2.1,HO_.2.2.1,HO_.2.2.2,Nat.le_of_eq hg.symm,blk_lt hbox⟩);have hz:w9.cell? ⟨gO,0,none⟩=some (.slice none 0 0):=(blk_cell hbox 0).trans rfl;have hzf:=blk_frozen hbox 0;clear HO_ hg hbox hb)
  | ((with_reducible refine gate_store (t:=58) (p:=7) rfl ?_);refine store_event (t:=58) (p:=7) (v:=?vo1) (w1:=w9.setCell ⟨gO,0,none⟩ (.slice A8 ([]:List (List Int)).length c8)) ?hg ?ho ?hn ?hr ?_;(case ho=>rfl);(case hg=>rfl);(case hn=>rfl);(case hr=>first|(go_simp;done)|(go_simp;rfl));intro w10 hw;replace BgP:=yam (far1 hw BgP.out (by have:=HO.out;omega));replace BgM:=yam (far1 hw BgM.out (by have:=HO.out;omega));replace BgO:Aside0 (w10.heap[gO]?=some (.cells #[.slice A8 ([]:List (List Int)).length c8] 58 (0,0))):=⟨by rw [hw];simpa using blk_set BgO.out 0 (.slice A8 ([]:List (List Int)).length c8)⟩;replace HW:Aside0 (Below w.heap.size w w10):=⟨by rw [hw];exact below_set HW.out (by have:=HO.out;omega)⟩;replace HS:Aside0 (Kd.S (Kd.slice 3 (Kd.int .i64)) 22 w10 w.heap.size (fun k_=>k_=w5.heap.size) (.slice A8 ([]:List (List Int)).length c8) []):=⟨by rw [hw];exact Kd.S_mono (Kd.S_far (p:=⟨gO,0,none⟩) HS.out (fun k_ h_ e_=>by have:=h_.2.2.1;have:=HO.out;simp only at e_;omega) _) (fun _ h_=>h_.1)⟩;have HO2:=yam (show w5.heap.size < gO from by have h1_:=HO.out;omega);replace HO:Aside0 (w.heap.size≤gP∧gP < gM∧gM < w5.heap.size∧w5.heap.size≤gO∧gO < w10.heap.size):=⟨by have:=HO.out;rw [hw];simp only [World.setCell];(try simp);omega⟩;clear hz hzf hw;have hp0:w10.cell? ⟨gP,0,none⟩=some (.int .i64 a0_0):=(blk_cell BgP.out 0).trans rfl;have hp1:w10.cell? ⟨gP,1,none⟩=some (.slice A0_1 l0_1.length c0_1):=(blk_cell BgP.out 1).trans rfl;have hp2:w10.cell? ⟨gP,2,none⟩=some (.slice A0_2 l0_2.length c0_2):=(blk_cell BgP.out 2).trans rfl)
  | (refine goesL_ (some 12) rfl rfl Try.func95 (by kernel_rfl) rfl #[.agg #[.int .i64 a0_0,.slice A0_1 l0_1.length c0_1,.slice A0_2 l0_2.length c0_2],.slice A1 l1.length c1,.func (.func 96) #[] #[.pointer (some ⟨gO,0,none⟩),.pointer (some ⟨gM,0,none⟩)]] rfl yma ?_;(refine (impl_solutions.gen (impl_firstSolutions.teller w gO gM a2) k a0_0 A0_1 c0_1 l0_1 A0_2 c0_2 l0_2 A1 c1 l1 (fun k_=>k_ < w10.heap.size∧k_≠gO∧k_≠gM∧k_≠w5.heap.size) [] r w10 HW.out (fun _ h_=>h_.1) ⟨BgM.out,⟨_,BgO.out,Kd.S_mono HS.out (fun k_ h_=>⟨fun hp_=>hp_.2.2.2 h_,by have:=HO2.out;omega,by have:=HO.out;omega⟩)⟩,fun h_=>h_.2.1 rfl,fun h_=>h_.2.2.1 rfl,by have:=HO.out;omega,by have:=HO.out;omega⟩ (fun W_ h_=>(Kd.heap_int .i64).C (fun k_ hl_=>(h_.2 k_ (Nat.lt_of_lt_of_le hl_ HW.out.size) ⟨Nat.lt_of_lt_of_le hl_ HW.out.size,by have:=HO.out;omega,by have:=HO.out;omega,by have:=HO.out;omega⟩).trans (HW.out.block k_ hl_)) HR1.out) HC1.out (fun W_ h_=>(Kd.heap_iso _ (Kd.heap_pair (Kd.heap_int _) (Kd.heap_pair (Kd.heap_slice _ (Kd.heap_int _)) (Kd.heap_int _)))).C (fun k_ hl_=>(h_.2 k_ (Nat.lt_of_lt_of_le hl_ HW.out.size) ⟨Nat.lt_of_lt_of_le hl_ HW.out.size,by have:=HO.out;omega,by have:=HO.out;omega,by have:=HO.out;omega⟩).trans (HW.out.block k_ hl_)) HR2.out) HC2.out (Kd.C_below HR3.out HW.out) HC3.out HS_.out).mono ?_);rintro e w12 ⟨rfl,⟨hM_,⟨v_,hO_,hS_⟩,hn_⟩,hA,hB⟩;refine ⟨_,rfl,?_⟩;have HSS:=yam hS_;have HBB:=yam hB;obtain ⟨Ar,cr,er⟩:=Kd.S_slice HSS.out;subst er;have hcO:w12.cell? ⟨gO,0,none⟩=some (.slice Ar r.length cr):=(blk_cell hO_ 0).trans rfl;clear hM_ hO_ hS_ hn_ hA hB hp0 hp1 hp2))
 go_ret
 exact ⟨_,rfl,Kd.S_mono HSS.out (fun _ _=>trivial),HBB.out⟩
def impl_CountSolutions.f (k:Nat)(a0_0:Int)(l0_1:List Int)(l0_2:List (S67))(a1:Int):Option (Int):=(impl_PuzzleValid.f k a0_0 l0_1 l0_2).bind fun t698=>(if t698=true then (if a1 < 1 then (some (-1)) else (if a1 > 600 then (some (-1)) else ((impl_firstSolutions.f k a0_0 l0_1 l0_2 l0_1 a1).bind fun t699=>(some (t699.length:Int))))) else (some (-1)))
theorem impl_CountSolutions.calls (k:Nat)(a0_0:Int)(A0_1:Option Addr)(c0_1:Nat)(l0_1:List Int)(A0_2:Option Addr)(c0_2:Nat)(l0_2:List (S67))(a1:Int)(r:Int)(w:World)(hr0_1:Kd.C (Kd.int .i64) w A0_1 l0_1.length l0_1)(hc0_1:l0_1.length≤c0_1)(hr0_2:Kd.C k67 w A0_2 l0_2.length l0_2)(hc0_2:l0_2.length≤c0_2)(h:impl_CountSolutions.f k a0_0 l0_1 l0_2 a1=some r) :
  Calls Try.prog 78 #[.agg #[.int .i64 a0_0,.slice A0_1 l0_1.length c0_1,.slice A0_2 l0_2.length c0_2],.int .i64 a1] w fun e w'=>e= .returned (.int .i64 r)∧Below w.heap.size w w':=by
 have hu30:=Try.underlying30
 have HR0_1:=yam hr0_1
 have HC0_1:=yam hc0_1
 clear hr0_1 hc0_1
 have HR0_2:=yam hr0_2
 have HC0_2:=yam hc0_2
 clear hr0_2 hc0_2
 have HB:=yam (Below.refl w.heap.size w)
 unfold impl_CountSolutions.f at h
 have H:=h
 clear h
 replace H:=ybi H;obtain ⟨t698,A3,H⟩:=H
 try dsimp only at H
 cases t698
 ·replace H:=yff H
  obtain rfl:=ysi H
  go_enter Try.func78,Try.ntmps78
  go_wp2_with (first|(refine ybe 2 #[.int .i64 a0_0,.slice A0_1 l0_1.length c0_1,.slice A0_2 l0_2.length c0_2] 30 ?_;intro gb697 hg w20 hbox hb;have BK697:=yam (hbox);have GW697:=yam ((by rw [hg];exact (below_size (yez HB.out)):w.heap.size≤gb697));replace HB:=yam (below_step (yez HB.out) hb);have GE697:=GW697;clear hb hbox hg;obtain ⟨hcz21_0,hcz21_1,hcz21_2,hfz21_0,hfz21_1,hfz21_2⟩:=ybc BK697.out)|(refine goesL_ (some 6) rfl rfl Try.func36 (by kernel_rfl) rfl #[.agg #[.int .i64 a0_0,.slice A0_1 l0_1.length c0_1,.slice A0_2 l0_2.length c0_2]] rfl ymd ?_;(with_reducible refine (impl_PuzzleValid.calls k a0_0 _ _ l0_1 _ _ l0_2 false _ ?_ ?_ ?_ ?_ A3.out).mono ?_);exact Kd.Cz ((Kd.C_below HR0_1.out HB.out));exact HC0_1.out;exact Kd.Cz ((Kd.C_below HR0_2.out HB.out));exact HC0_2.out;rintro e w22 ⟨rfl,hb⟩;refine ⟨_,rfl,?_⟩;replace BK697:=yam (ybb BK697.out hb);replace HB:=yam (below_step yhb hb);(try clear hb)))
  go_ret
  exact ⟨yer,yhb⟩
 replace H:=ytt H
 replace H:=yis H;obtain ⟨c5b0,H⟩ | ⟨c5b0,H⟩:=H
 ·obtain rfl:=ysi H
  go_enter Try.func78,Try.ntmps78
  go_wp2_with (first|(refine ybe 2 #[.int .i64 a0_0,.slice A0_1 l0_1.length c0_1,.slice A0_2 l0_2.length c0_2] 30 ?_;intro gb697 hg w6 hbox hb;have BK697:=yam (hbox);have GW697:=yam ((by rw [hg];exact (below_size (yez HB.out)):w.heap.size≤gb697));replace HB:=yam (below_step (yez HB.out) hb);have GE697:=GW697;clear hb hbox hg;obtain ⟨hcz7_0,hcz7_1,hcz7_2,hfz7_0,hfz7_1,hfz7_2⟩:=ybc BK697.out)|(refine goesL_ (some 6) rfl rfl Try.func36 (by kernel_rfl) rfl #[.agg #[.int .i64 a0_0,.slice A0_1 l0_1.length c0_1,.slice A0_2 l0_2.length c0_2]] rfl ymd ?_;(with_reducible refine (impl_PuzzleValid.calls k a0_0 _ _ l0_1 _ _ l0_2 true _ ?_ ?_ ?_ ?_ A3.out).mono ?_);exact Kd.Cz ((Kd.C_below HR0_1.out HB.out));exact HC0_1.out;exact Kd.Cz ((Kd.C_below HR0_2.out HB.out));exact HC0_2.out;rintro e w8 ⟨rfl,hb⟩;refine ⟨_,rfl,?_⟩;replace BK697:=yam (ybb BK697.out hb);replace HB:=yam (below_step yhb hb);(try clear hb)))
  go_ret
  exact ⟨yer,yhb⟩
 replace H:=yis H;obtain ⟨c9b0,H⟩ | ⟨c9b0,H⟩:=H
 ·obtain rfl:=ysi H
  go_enter Try.func78,Try.ntmps78
  go_wp2_with (first|(refine ybe 2 #[.int .i64 a0_0,.slice A0_1 l0_1.length c0_1,.slice A0_2 l0_2.length c0_2] 30 ?_;intro gb697 hg w10 hbox hb;have BK697:=yam (hbox);have GW697:=yam ((by rw [hg];exact (below_size (yez HB.out)):w.heap.size≤gb697));replace HB:=yam (below_step (yez HB.out) hb);have GE697:=GW697;clear hb hbox hg;obtain ⟨hcz11_0,hcz11_1,hcz11_2,hfz11_0,hfz11_1,hfz11_2⟩:=ybc BK697.out)|(refine goesL_ (some 6) rfl rfl Try.func36 (by kernel_rfl) rfl #[.agg #[.int .i64 a0_0,.slice A0_1 l0_1.length c0_1,.slice A0_2 l0_2.length c0_2]] rfl ymd ?_;(with_reducible refine (impl_PuzzleValid.calls k a0_0 _ _ l0_1 _ _ l0_2 true _ ?_ ?_ ?_ ?_ A3.out).mono ?_);exact Kd.Cz ((Kd.C_below HR0_1.out HB.out));exact HC0_1.out;exact Kd.Cz ((Kd.C_below HR0_2.out HB.out));exact HC0_2.out;rintro e w12 ⟨rfl,hb⟩;refine ⟨_,rfl,?_⟩;replace BK697:=yam (ybb BK697.out hb);replace HB:=yam (below_step yhb hb);(try clear hb)))
  go_ret
  exact ⟨yer,yhb⟩
 replace H:=ybi H;obtain ⟨t699,A13,H⟩:=H
 try dsimp only at H
 obtain rfl:=ysi H
 go_enter Try.func78,Try.ntmps78
 go_wp2_with (first|(refine ybe 2 #[.int .i64 a0_0,.slice A0_1 l0_1.length c0_1,.slice A0_2 l0_2.length c0_2] 30 ?_;intro gb697 hg w14 hbox hb;have BK697:=yam (hbox);have GW697:=yam ((by rw [hg];exact (below_size (yez HB.out)):w.heap.size≤gb697));replace HB:=yam (below_step (yez HB.out) hb);have GE697:=GW697;clear hb hbox hg;obtain ⟨hcz15_0,hcz15_1,hcz15_2,hfz15_0,hfz15_1,hfz15_2⟩:=ybc BK697.out)|(refine goesL_ (some 6) rfl rfl Try.func36 (by kernel_rfl) rfl #[.agg #[.int .i64 a0_0,.slice A0_1 l0_1.length c0_1,.slice A0_2 l0_2.length c0_2]] rfl ymd ?_;(with_reducible refine (impl_PuzzleValid.calls k a0_0 _ _ l0_1 _ _ l0_2 true _ ?_ ?_ ?_ ?_ A3.out).mono ?_);exact Kd.Cz ((Kd.C_below HR0_1.out HB.out));exact HC0_1.out;exact Kd.Cz ((Kd.C_below HR0_2.out HB.out));exact HC0_2.out;rintro e w16 ⟨rfl,hb⟩;refine ⟨_,rfl,?_⟩;replace BK697:=yam (ybb BK697.out hb);replace HB:=yam (below_step yhb hb);(try clear hb);obtain ⟨hcz17_0,hcz17_1,hcz17_2,hfz17_0,hfz17_1,hfz17_2⟩:=ybc BK697.out)|(refine goesL_ (some 20) rfl rfl Try.func89 (by kernel_rfl) rfl #[.agg #[.int .i64 a0_0,.slice A0_1 l0_1.length c0_1,.slice A0_2 l0_2.length c0_2],.slice A0_1 l0_1.length c0_1,.int .i64 a1] rfl ymd ?_;(with_reducible refine (impl_firstSolutions.calls k a0_0 _ _ l0_1 _ _ l0_2 _ _ l0_1 a1 t699 _ ?_ ?_ ?_ ?_ ?_ ?_ A13.out).mono ?_);exact Kd.Cz ((Kd.C_below HR0_1.out HB.out));exact HC0_1.out;exact Kd.Cz ((Kd.C_below HR0_2.out HB.out));exact HC0_2.out;exact Kd.Cz ((Kd.C_below HR0_1.out HB.out));exact HC0_1.out;rintro e w18 ⟨v700,rfl,ho0,hb⟩;refine ⟨_,rfl,?_⟩;have HO701:=yam (Kd.S_lower ho0 (below_size yhb));replace BK697:=yam (ybb BK697.out hb);replace HB:=yam (below_step yhb hb);(try clear hb);(try clear ho0);obtain ⟨Ao19,co19,eo19⟩:=Kd.S_slice HO701.out;subst eo19))
 go_ret
 exact ⟨yer,yhb⟩
def impl_onlyOne.f (k:Nat)(a0_0:Int)(l0_1:List Int)(l0_2:List (S67)):Option (Bool):=(impl_CountSolutions.f k a0_0 l0_1 l0_2 2).bind fun t703=>(some (t703 == 1))
theorem impl_onlyOne.calls (k:Nat)(a0_0:Int)(A0_1:Option Addr)(c0_1:Nat)(l0_1:List Int)(A0_2:Option Addr)(c0_2:Nat)(l0_2:List (S67))(r:Bool)(w:World)(hr0_1:Kd.C (Kd.int .i64) w A0_1 l0_1.length l0_1)(hc0_1:l0_1.length≤c0_1)(hr0_2:Kd.C k67 w A0_2 l0_2.length l0_2)(hc0_2:l0_2.length≤c0_2)(h:impl_onlyOne.f k a0_0 l0_1 l0_2=some r) :
  Calls Try.prog 50 #[.agg #[.int .i64 a0_0,.slice A0_1 l0_1.length c0_1,.slice A0_2 l0_2.length c0_2]] w fun e w'=>e= .returned (.bool r)∧Below w.heap.size w w':=by
 have hu30:=Try.underlying30
 have HR0_1:=yam hr0_1
 have HC0_1:=yam hc0_1
 clear hr0_1 hc0_1
 have HR0_2:=yam hr0_2
 have HC0_2:=yam hc0_2
 clear hr0_2 hc0_2
 have HB:=yam (Below.refl w.heap.size w)
 unfold impl_onlyOne.f at h
 have H:=h
 clear h
 replace H:=ybi H;obtain ⟨t703,A2,H⟩:=H
 try dsimp only at H
 obtain rfl:=ysi H
 go_enter Try.func50,Try.ntmps50
 go_wp2_with (first|(refine ybe 1 #[.int .i64 a0_0,.slice A0_1 l0_1.length c0_1,.slice A0_2 l0_2.length c0_2] 30 ?_;intro gb702 hg w3 hbox hb;have BK702:=yam (hbox);have GW702:=yam ((by rw [hg];exact (below_size (yez HB.out)):w.heap.size≤gb702));replace HB:=yam (below_step (yez HB.out) hb);have GE702:=GW702;clear hb hbox hg;obtain ⟨hcz4_0,hcz4_1,hcz4_2,hfz4_0,hfz4_1,hfz4_2⟩:=ybc BK702.out)|(refine goesL_ (some 4) rfl rfl Try.func78 (by kernel_rfl) rfl #[.agg #[.int .i64 a0_0,.slice A0_1 l0_1.length c0_1,.slice A0_2 l0_2.length c0_2],.int .i64 2] rfl ymd ?_;(with_reducible refine (impl_CountSolutions.calls k a0_0 _ _ l0_1 _ _ l0_2 2 t703 _ ?_ ?_ ?_ ?_ A2.out).mono ?_);exact Kd.Cz ((Kd.C_below HR0_1.out HB.out));exact HC0_1.out;exact Kd.Cz ((Kd.C_below HR0_2.out HB.out));exact HC0_2.out;rintro e w5 ⟨rfl,hb⟩;refine ⟨_,rfl,?_⟩;replace BK702:=yam (ybb BK702.out hb);replace HB:=yam (below_step yhb hb);(try clear hb)))
 go_ret
 exact ⟨yer,yhb⟩
def impl_GridFilled.l0:Nat→Int→List Int→Int→Int→Option (Int)
 | 0,_,_,_,_=>none
 | k + 1,x5,x12,x13,x14=>if x14 < x13 then (if 0≤x14 then (if x14 < (x12.length:Int) then (if (rd x12 x14) > 0 then (impl_GridFilled.l0 k (wrap64 (x5 + 1)) x12 x13 (wrap64 (x14 + 1))) else (impl_GridFilled.l0 k x5 x12 x13 (wrap64 (x14 + 1)))) else (none)) else (none)) else (some x5)
def impl_GridFilled.f (k:Nat)(l0:List Int)(a1:Int):Option (Int):=(impl_GridValid.f k l0 a1).bind fun t704=>(if t704=true then (impl_GridFilled.l0 k 0 l0 (l0.length:Int) 0) else (some (-1)))
theorem impl_GridFilled.calls (k:Nat)(A0:Option Addr)(c0:Nat)(l0:List Int)(a1:Int)(r:Int)(w:World)(hr0:Kd.C (Kd.int .i64) w A0 l0.length l0)(hc0:l0.length≤c0)(h:impl_GridFilled.f k l0 a1=some r) :
  Calls Try.prog 51 #[.slice A0 l0.length c0,.int .i64 a1] w fun e w'=>e= .returned (.int .i64 r)∧Drawn0 w w':=by
 have HR0:=yam hr0
 have HC0:=yam hc0
 clear hr0 hc0
 unfold impl_GridFilled.f at h
 have H:=h
 clear h
 replace H:=ybi H;obtain ⟨t704,A3,H⟩:=H
 try dsimp only at H
 cases t704
 ·replace H:=yff H
  obtain rfl:=ysi H
  go_enter Try.func51,Try.ntmps51
  go_wp2_with (first|(refine goesL_ (some 10) rfl rfl Try.func69 (by kernel_rfl) rfl #[.slice A0 l0.length c0,.int .i64 a1] rfl ymd ?_;(with_reducible refine (impl_GridValid.calls k _ _ l0 a1 false _ ?_ ?_ A3.out).mono ?_);exact Kd.Cz (HR0.out);exact HC0.out;rintro e w' ⟨rfl,⟨nd,rfl⟩⟩;refine ⟨_,rfl,?_⟩))
  go_ret
  exact ⟨yeq,by repeat (first|exact Drawn0.refl _|apply Drawn0.step)⟩
 replace H:=ytt H
 replace H:=yam H
 go_enter Try.func51,Try.ntmps51
 go_wp2_with (first|(refine goesL_ (some 10) rfl rfl Try.func69 (by kernel_rfl) rfl #[.slice A0 l0.length c0,.int .i64 a1] rfl ymd ?_;(with_reducible refine (impl_GridValid.calls k _ _ l0 a1 true _ ?_ ?_ A3.out).mono ?_);exact Kd.Cz (HR0.out);exact HC0.out;rintro e w' ⟨rfl,⟨nd,rfl⟩⟩;refine ⟨_,rfl,?_⟩))
 go_loopg [5,14] k (fun kq v5 v14 w'=>∃ (x5_1:Int) (x14_1:Int),v5= .int .i64 x5_1∧v14= .int .i64 x14_1∧Aside0 (impl_GridFilled.l0 kq x5_1 l0 (l0.length:Int) x14_1=some r)∧Aside0 (kq≤k)∧Drawn0 w w')
 case atStart=>exact ⟨(0),(0),yeq,yeq,H,⟨Nat.le_refl _⟩,by repeat (first|exact Drawn0.refl _|apply Drawn0.step)⟩
 case round =>
  clear H
  obtain ⟨x5_1,x14_1,rfl,rfl,HA,HK1,⟨m1,rfl⟩⟩:=hrel
  rcases gk with _|k1
  ·exact absurd HA.out (by simp [impl_GridFilled.l0])
  obtain ⟨H⟩:=HA
  simp only [impl_GridFilled.l0] at H
  replace H:=yis H;obtain ⟨c5b0,H⟩ | ⟨c5b0,H⟩:=H
  rotate_left
  ·obtain rfl:=ysi H
   go_wp2
   go_ret
   exact ⟨yeq,by repeat (first|exact Drawn0.refl _|apply Drawn0.step)⟩
  replace H:=yif H;obtain ⟨c6b0,H⟩:=H
  replace H:=yif H;obtain ⟨c7b0,H⟩:=H
  replace H:=yis H;obtain ⟨c8b0,H⟩ | ⟨c8b0,H⟩:=H
  rotate_left
  ·replace H:=yam H
   obtain ⟨ad705,e705,hx705_0,p705,q705⟩:=yat HR0.out x14_1
   cases e705
   go_wp2
   go_roundg k1
   case measure=>have:=HK1.out;omega
   case rel=>exact ⟨(x5_1),(wrap64 (x14_1 + 1)),yeq,yeq,H,⟨by have:=HK1.out;omega⟩,by repeat (first|exact Drawn0.refl _|apply Drawn0.step)⟩
  replace H:=yam H
  obtain ⟨ad705,e705,hx705_0,p705,q705⟩:=yat HR0.out x14_1
  cases e705
  go_wp2
  go_roundg k1
  case measure=>have:=HK1.out;omega
  case rel=>exact ⟨(wrap64 (x5_1 + 1)),(wrap64 (x14_1 + 1)),yeq,yeq,H,⟨by have:=HK1.out;omega⟩,by repeat (first|exact Drawn0.refl _|apply Drawn0.step)⟩
def impl_MasksGrid.l0:Nat→List Int→List Int→Int→Int→Option (List Int)
 | 0,_,_,_,_=>none
 | k + 1,x5,x15,x16,x17=>if x17 < x16 then (if 0≤x17 then (if x17 < (x15.length:Int) then ((impl_onlyValue.f k (rd x15 x17)).bind fun t711=>(if x17 < (x5.length:Int) then (impl_MasksGrid.l0 k (x5.set (x17:Int).toNat t711) x15 x16 (wrap64 (x17 + 1))) else (none))) else (none)) else (none)) else (some x5)
def impl_MasksGrid.f (k:Nat)(l0:List Int)(a1:Int):Option (List Int):=(impl_MasksValid.f k l0 a1).bind fun t706=>(if t706=true then (if 0≤(l0.length:Int) then (if ((l0.length:Int):Int).toNat≤35184372088832 then (impl_MasksGrid.l0 k (List.replicate ((l0.length:Int):Int).toNat 0) l0 (l0.length:Int) 0) else (none)) else (none)) else (some ([]:List Int)))
theorem impl_MasksGrid.calls (k:Nat)(A0:Option Addr)(c0:Nat)(l0:List Int)(a1:Int)(r:List Int)(w:World)(hr0:Kd.C (Kd.int .i64) w A0 l0.length l0)(hc0:l0.length≤c0)(h:impl_MasksGrid.f k l0 a1=some r) :
  Calls Try.prog 52 #[.slice A0 l0.length c0,.int .i64 a1] w fun e w'=>∃ v0_:Value,e= .returned (v0_)∧Kd.R (Kd.int .i64) 3 w' w.heap.size (fun _=>True) v0_ r∧Below w.heap.size w w':=by
 have HR0:=yam hr0
 have HC0:=yam hc0
 clear hr0 hc0
 have HB:=yam (Below.refl w.heap.size w)
 unfold impl_MasksGrid.f at h
 have H:=h
 clear h
 replace H:=ybi H;obtain ⟨t706,A3,H⟩:=H
 try dsimp only at H
 cases t706
 ·replace H:=yff H
  obtain rfl:=ysi H
  go_enter Try.func52,Try.ntmps52
  go_wp2_with (first|(refine goesL_ (some 10) rfl rfl Try.func63 (by kernel_rfl) rfl #[.slice A0 l0.length c0,.int .i64 a1] rfl ymd ?_;(with_reducible refine (impl_MasksValid.calls k _ _ l0 a1 false _ ?_ ?_ A3.out).mono ?_);exact Kd.Cz (HR0.out);exact HC0.out;rintro e w' ⟨rfl,⟨nd,rfl⟩⟩;refine ⟨_,rfl,?_⟩))
  go_ret
  exact ⟨_,yer,by first|exact Kd.R_nil _ _ _ _ _|exact Kd.N_nil _ _ _ _ _|exact Kd.V_nil _ _ _ _ _|exact Kd.Q_nil _ _ _ _ _|exact Kd.S_nil _ _ _ _ _,yhb⟩
 replace H:=ytt H
 replace H:=yig H;obtain ⟨c5,H⟩:=H
 have c5b0:=eq_true c5
 have c5b1:decide (0≤(l0.length:Int))=true:=decide_eq_true c5
 clear c5
 replace H:=yig H;obtain ⟨c6,H⟩:=H
 have c6b0:=eq_true c6
 have c6b1:decide (((l0.length:Int):Int).toNat≤35184372088832)=true:=decide_eq_true c6
 clear c6
 obtain ⟨y707,Ny707⟩:∃ y_:List Int,Aside0 (y_=(List.replicate ((l0.length:Int):Int).toNat 0)):=⟨_,⟨rfl⟩⟩
 replace H:(impl_MasksGrid.l0 k y707 l0 (l0.length:Int) 0)=some r:=yhn Ny707.out H
 replace H:=yam H
 go_enter Try.func52,Try.ntmps52
 go_wp2_with (first|(refine goesL_ (some 10) rfl rfl Try.func63 (by kernel_rfl) rfl #[.slice A0 l0.length c0,.int .i64 a1] rfl ymd ?_;(with_reducible refine (impl_MasksValid.calls k _ _ l0 a1 true _ ?_ ?_ A3.out).mono ?_);exact Kd.Cz (HR0.out);exact HC0.out;rintro e w' ⟨rfl,⟨nd,rfl⟩⟩;refine ⟨_,rfl,?_⟩)|((with_reducible refine gate_dst (N:=14) rfl ?_);refine Kd.R_make (Kd.int .i64) _ 3 rfl (N:=14) rfl 22 _ _ rfl (l0.length:Int) rfl rfl Try.underlying22 (.int .i64 0) 8 info3 rfl (by decide) (by omega) 0 (ok:=fun _=>True) (okp:=fun _=>True) rfl (fun _ hk=>hk) trivial (ydt) (Nat.le_trans (Nat.mul_le_mul_right _ (ydt:(l0.length:Int).toNat≤35184372088832)) (by omega)) (Below.refl _ _) (Nat.le_refl _) ?_;intro v708 w7 ho8 hb hg_ hnew_;clear hg_ hnew_;(first|rw [← Ny707.out] at ho8|(simp only [Int.reduceToNat] at ho8;rw [← Ny707.out] at ho8));have HO709:=yam (Kd.R_lower ho8 (below_size (yez HB.out)));replace HB:=yam (below_step (yez HB.out) hb);clear hb ho8))
 go_loopg [17] k (fun kq v17 w'=>∃ (x5_1:List Int) (x17_1:Int),v17= .int .i64 x17_1∧Aside0 (impl_MasksGrid.l0 kq x5_1 l0 (l0.length:Int) x17_1=some r)∧Aside0 (kq≤k)∧Aside0 (Kd.R (Kd.int .i64) 3 w' w.heap.size (fun _=>True) v708 x5_1)∧Aside0 (Below w.heap.size w w'))
 case atStart=>exact ⟨(y707),(0),yeq,H,⟨Nat.le_refl _⟩,⟨yka HO709.out⟩,⟨yhb⟩⟩
 case round =>
  clear H
  try clear c5b0
  try clear c5b1
  try clear c6b0
  try clear c6b1
  obtain ⟨x5_1,x17_1,rfl,HA,HK1,HO_5,HB⟩:=hrel
  rcases gk with _|k1
  ·exact absurd HA.out (by simp [impl_MasksGrid.l0])
  obtain ⟨H⟩:=HA
  simp only [impl_MasksGrid.l0] at H
  replace H:=yis H;obtain ⟨c9b0,H⟩ | ⟨c9b0,H⟩:=H
  rotate_left
  ·obtain rfl:=ysi H
   go_wp2
   go_ret
   exact ⟨_,yer,yka HO_5.out,yhb⟩
  replace H:=yif H;obtain ⟨c10b0,H⟩:=H
  replace H:=yif H;obtain ⟨c11b0,H⟩:=H
  replace H:=ybi H;obtain ⟨t711,A12,H⟩:=H
  try dsimp only at H
  replace H:=yif H;obtain ⟨c13b0,H⟩:=H
  obtain ⟨y712,Ny712⟩:∃ y_:List Int,Aside0 (y_=(x5_1.set (x17_1:Int).toNat t711)):=⟨_,⟨rfl⟩⟩
  replace H:(impl_MasksGrid.l0 k1 y712 l0 (l0.length:Int) (wrap64 (x17_1 + 1)))=some r:=yhn Ny712.out H
  replace H:=yam H
  obtain ⟨ad710,e710,hx710_0,p710,q710⟩:=yat HR0.out x17_1
  cases e710
  replace hx710_0:=ybx HB.out hx710_0
  go_wp2_with (first|(refine goesL_ (some 25) rfl rfl Try.func79 (by kernel_rfl) rfl #[.int .i64 (rd l0 x17_1)] rfl ymd ?_;(with_reducible refine (impl_onlyValue.calls k1 (rd l0 x17_1) t711 _ A12.out).mono ?_);rintro e w' ⟨rfl,⟨nd,rfl⟩⟩;refine ⟨_,rfl,?_⟩;(try (rw [drewN_self wr];generalize hq_:World.drewN wr _=wr;replace HO_5:Aside0 (Kd.R (Kd.int .i64) 3 wr w.heap.size (fun _=>True) v708 x5_1):=⟨by rw [← hq_];exact (Kd.Yz HO_5.out)⟩;replace HB:Aside0 (Below w.heap.size w wr):=⟨by rw [← hq_];exact (yez HB.out)⟩;clear hq_));have p14:0≤(x17_1:Int):=ydt;have q14:(x17_1:Int) < ((x5_1.length:Int):Int):=ydt;obtain ⟨go14,co14,eo14,gb14,gl14,cl14,HG14⟩:=Kd.R_form HO_5.out (by omega);(first|cases eo14|(injection eo14 with ea_ en_ ec_;(first|subst ea_|(injection ea_ with ea_;subst ea_));subst ec_;clear en_));have GB14:=yam gb14;have GG14:=yam HG14;clear gb14 gl14 HG14;obtain ⟨hx14_0,hf14_0⟩:=Kd.R_celln 0 HO_5.out (x17_1:Int) p14 q14;replace p14:=eq_true p14;replace q14:=eq_true q14;obtain ⟨hy15_,hz15_⟩:=Kd.R_celln 0 HO_5.out (x17_1:Int) (ydt) (ydt);have HP15:=Kd.R_putg HO_5.out (x17_1:Int) t711)|((with_reducible refine gate_store (t:=3) (p:=26) rfl ?_);refine store_event (t:=3) (p:=26) (v:=?vo_w16) (w1:=(wr.setCell ⟨go14,(x17_1:Int).toNat,none⟩ (.int .i64 t711))) ?hg ?ho ?hn ?hr ?_;(case ho=>rfl);(case hg=>rfl);(case hn=>rfl);(case hr=>first|(go_simp;done)|(go_simp;rfl));intro w16 hw;have hg:wr.grownBy w16 (some go14):=(by rw [hw];exact HP15.2);have hp_:Kd.R (Kd.int .i64) 3 w16 w.heap.size (fun _=>True) (.slice (some ⟨go14,0,none⟩) x5_1.length co14) y712:=(by rw [hw,Ny712.out];exact HP15.1);clear HP15;replace HO_5:=yam (hp_);replace HB:=yam ((by rw [hw];exact below_set (HB.out) GB14.out:Below w.heap.size w w16));clear hg hw hp_))
  go_roundg k1
  case measure=>have:=HK1.out;omega
  case rel=>exact ⟨(y712),(wrap64 (x17_1 + 1)),yeq,H,⟨by have:=HK1.out;omega⟩,⟨yka HO_5.out⟩,⟨yhb⟩⟩
def impl_GradePuzzle.l0:Nat→Int→Int→List Int→List (S67)→Option (Int)
 | 0,_,_,_,_=>none
 | k + 1,x3,x714000,x714001,x714002=>if x3≤4 then ((impl_StartMasks.f k x714000 x714001 x714002).bind fun t716=>((impl_NarrowAll.f k x714000 x714001 x714002 t716 x3).bind fun bt719=>((impl_MasksGrid.f k bt719.1 x714000).bind fun t723=>((impl_GridFilled.f k t723 x714000).bind fun t726=>(if t726=(bt719.1.length:Int) then (some x3) else (impl_GradePuzzle.l0 k (wrap64 (x3 + 1)) x714000 x714001 x714002)))))) else (some 5)
def impl_GradePuzzle.f (k:Nat)(a0_0:Int)(l0_1:List Int)(l0_2:List (S67)):Option (Int):=(impl_PuzzleValid.f k a0_0 l0_1 l0_2).bind fun t714=>(if t714=true then ((impl_onlyOne.f k a0_0 l0_1 l0_2).bind fun t715=>(if t715=true then (impl_GradePuzzle.l0 k 1 a0_0 l0_1 l0_2) else (some 0))) else (some (-1)))
def impl_GradePuzzle.T8:Bool × List (List Nat × List Nat):=(true,[([],[]),([],[]),([1],[1]),([],[]),([0,2,3,2],[0,2,3]),([4],[4]),([5],[5]),([5],[5]),([6,4,0,1,2,3,4,5,6],[6]),([7,8,0,1,2,3,4,5,6,7,8],[7])])
def impl_GradePuzzle.B8:List Nat:=[0,0,2,0,15,31,63,63,127,511]
theorem impl_GradePuzzle.tab8:rtab .any (opsOf Try.f24 8)=impl_GradePuzzle.T8:=by kernel_rfl
theorem impl_GradePuzzle.bits8:waitsOk impl_GradePuzzle.T8.2 impl_GradePuzzle.B8=true:=by kernel_rfl
def impl_GradePuzzle.T9:Bool × List (List Nat × List Nat):=(true,[([],[]),([],[]),([1],[1]),([0,2],[0,2]),([],[]),([4],[4]),([3,5,3],[3,5]),([],[]),([7],[7]),([6,8],[6,8])])
def impl_GradePuzzle.B9:List Nat:=[0,0,2,7,0,16,63,0,128,511]
theorem impl_GradePuzzle.tab9:rtab .any (opsOf Try.f24 9)=impl_GradePuzzle.T9:=by kernel_rfl
theorem impl_GradePuzzle.bits9:waitsOk impl_GradePuzzle.T9.2 impl_GradePuzzle.B9=true:=by kernel_rfl
theorem impl_GradePuzzle.calls (k:Nat)(a0_0:Int)(A0_1:Option Addr)(c0_1:Nat)(l0_1:List Int)(A0_2:Option Addr)(c0_2:Nat)(l0_2:List (S67))(r:Int)(w:World)(hr0_1:Kd.C (Kd.int .i64) w A0_1 l0_1.length l0_1)(hc0_1:l0_1.length≤c0_1)(hr0_2:Kd.C k67 w A0_2 l0_2.length l0_2)(hc0_2:l0_2.length≤c0_2)(h:impl_GradePuzzle.f k a0_0 l0_1 l0_2=some r) :
  Calls Try.prog 24 #[.agg #[.int .i64 a0_0,.slice A0_1 l0_1.length c0_1,.slice A0_2 l0_2.length c0_2]] w fun e w'=>e= .returned (.int .i64 r)∧Below w.heap.size w w':=by
 have hu30:=Try.underlying30
 have HR0_1:=yam hr0_1
 have HC0_1:=yam hc0_1
 clear hr0_1 hc0_1
 have HR0_2:=yam hr0_2
 have HC0_2:=yam hc0_2
 clear hr0_2 hc0_2
 have HB:=yam (Below.refl w.heap.size w)
 unfold impl_GradePuzzle.f at h
 have H:=h
 clear h
 replace H:=ybi H;obtain ⟨t714,A2,H⟩:=H
 try dsimp only at H
 cases t714
 ·replace H:=yff H
  obtain rfl:=ysi H
  go_enter Try.func24,Try.ntmps24
  go_wp2_with (first|(refine ybe 1 #[.int .i64 a0_0,.slice A0_1 l0_1.length c0_1,.slice A0_2 l0_2.length c0_2] 30 ?_;intro gb713 hg w38 hbox hb;have BK713:=yam (hbox);have GW713:=yam ((by rw [hg];exact (below_size (yez HB.out)):w.heap.size≤gb713));replace HB:=yam (below_step (yez HB.out) hb);have GE713:=GW713;clear hb hbox hg;obtain ⟨hcz39_0,hcz39_1,hcz39_2,hfz39_0,hfz39_1,hfz39_2⟩:=ybc BK713.out)|(refine goesL_ (some 7) rfl rfl Try.func36 (by kernel_rfl) rfl #[.agg #[.int .i64 a0_0,.slice A0_1 l0_1.length c0_1,.slice A0_2 l0_2.length c0_2]] rfl ymd ?_;(with_reducible refine (impl_PuzzleValid.calls k a0_0 _ _ l0_1 _ _ l0_2 false _ ?_ ?_ ?_ ?_ A2.out).mono ?_);exact Kd.Cz ((Kd.C_below HR0_1.out HB.out));exact HC0_1.out;exact Kd.Cz ((Kd.C_below HR0_2.out HB.out));exact HC0_2.out;rintro e w40 ⟨rfl,hb⟩;refine ⟨_,rfl,?_⟩;replace BK713:=yam (ybb BK713.out hb);replace HB:=yam (below_step yhb hb);(try clear hb)))
  go_ret
  exact ⟨yer,yhb⟩
 replace H:=ytt H
 replace H:=ybi H;obtain ⟨t715,A4,H⟩:=H
 try dsimp only at H
 cases t715
 ·replace H:=yff H
  obtain rfl:=ysi H
  go_enter Try.func24,Try.ntmps24
  go_wp2_with (first|(refine ybe 1 #[.int .i64 a0_0,.slice A0_1 l0_1.length c0_1,.slice A0_2 l0_2.length c0_2] 30 ?_;intro gb713 hg w33 hbox hb;have BK713:=yam (hbox);have GW713:=yam ((by rw [hg];exact (below_size (yez HB.out)):w.heap.size≤gb713));replace HB:=yam (below_step (yez HB.out) hb);have GE713:=GW713;clear hb hbox hg;obtain ⟨hcz34_0,hcz34_1,hcz34_2,hfz34_0,hfz34_1,hfz34_2⟩:=ybc BK713.out)|(refine goesL_ (some 7) rfl rfl Try.func36 (by kernel_rfl) rfl #[.agg #[.int .i64 a0_0,.slice A0_1 l0_1.length c0_1,.slice A0_2 l0_2.length c0_2]] rfl ymd ?_;(with_reducible refine (impl_PuzzleValid.calls k a0_0 _ _ l0_1 _ _ l0_2 true _ ?_ ?_ ?_ ?_ A2.out).mono ?_);exact Kd.Cz ((Kd.C_below HR0_1.out HB.out));exact HC0_1.out;exact Kd.Cz ((Kd.C_below HR0_2.out HB.out));exact HC0_2.out;rintro e w35 ⟨rfl,hb⟩;refine ⟨_,rfl,?_⟩;replace BK713:=yam (ybb BK713.out hb);replace HB:=yam (below_step yhb hb);(try clear hb);obtain ⟨hcz36_0,hcz36_1,hcz36_2,hfz36_0,hfz36_1,hfz36_2⟩:=ybc BK713.out)|(refine goesL_ (some 10) rfl rfl Try.func50 (by kernel_rfl) rfl #[.agg #[.int .i64 a0_0,.slice A0_1 l0_1.length c0_1,.slice A0_2 l0_2.length c0_2]] rfl ymd ?_;(with_reducible refine (impl_onlyOne.calls k a0_0 _ _ l0_1 _ _ l0_2 false _ ?_ ?_ ?_ ?_ A4.out).mono ?_);exact Kd.Cz ((Kd.C_below HR0_1.out HB.out));exact HC0_1.out;exact Kd.Cz ((Kd.C_below HR0_2.out HB.out));exact HC0_2.out;rintro e w37 ⟨rfl,hb⟩;refine ⟨_,rfl,?_⟩;replace BK713:=yam (ybb BK713.out hb);replace HB:=yam (below_step yhb hb);(try clear hb)))
  go_ret
  exact ⟨yer,yhb⟩
 replace H:=ytt H
 replace H:=yam H
 go_enter Try.func24,Try.ntmps24
 go_wp2_with (first|(refine ybe 1 #[.int .i64 a0_0,.slice A0_1 l0_1.length c0_1,.slice A0_2 l0_2.length c0_2] 30 ?_;intro gb713 hg w6 hbox hb;have BK713:=yam (hbox);have GW713:=yam ((by rw [hg];exact (below_size (yez HB.out)):w.heap.size≤gb713));replace HB:=yam (below_step (yez HB.out) hb);have GE713:=GW713;clear hb hbox hg;obtain ⟨hcz7_0,hcz7_1,hcz7_2,hfz7_0,hfz7_1,hfz7_2⟩:=ybc BK713.out)|(refine goesL_ (some 7) rfl rfl Try.func36 (by kernel_rfl) rfl #[.agg #[.int .i64 a0_0,.slice A0_1 l0_1.length c0_1,.slice A0_2 l0_2.length c0_2]] rfl ymd ?_;(with_reducible refine (impl_PuzzleValid.calls k a0_0 _ _ l0_1 _ _ l0_2 true _ ?_ ?_ ?_ ?_ A2.out).mono ?_);exact Kd.Cz ((Kd.C_below HR0_1.out HB.out));exact HC0_1.out;exact Kd.Cz ((Kd.C_below HR0_2.out HB.out));exact HC0_2.out;rintro e w8 ⟨rfl,hb⟩;refine ⟨_,rfl,?_⟩;replace BK713:=yam (ybb BK713.out hb);replace HB:=yam (below_step yhb hb);(try clear hb);obtain ⟨hcz9_0,hcz9_1,hcz9_2,hfz9_0,hfz9_1,hfz9_2⟩:=ybc BK713.out)|(refine goesL_ (some 10) rfl rfl Try.func50 (by kernel_rfl) rfl #[.agg #[.int .i64 a0_0,.slice A0_1 l0_1.length c0_1,.slice A0_2 l0_2.length c0_2]] rfl ymd ?_;(with_reducible refine (impl_onlyOne.calls k a0_0 _ _ l0_1 _ _ l0_2 true _ ?_ ?_ ?_ ?_ A4.out).mono ?_);exact Kd.Cz ((Kd.C_below HR0_1.out HB.out));exact HC0_1.out;exact Kd.Cz ((Kd.C_below HR0_2.out HB.out));exact HC0_2.out;rintro e w10 ⟨rfl,hb⟩;refine ⟨_,rfl,?_⟩;replace BK713:=yam (ybb BK713.out hb);replace HB:=yam (below_step yhb hb);(try clear hb)))
 go_loopg [3] k (fun kq v3 w'=>∃ (x3_1:Int),v3= .int .i64 x3_1∧Aside0 (impl_GradePuzzle.l0 kq x3_1 a0_0 l0_1 l0_2=some r)∧Aside0 (kq≤k)∧Aside0 (w'.heap[gb713]?=some (.cells #[.int .i64 a0_0,(.slice A0_1 l0_1.length c0_1),(.slice A0_2 l0_2.length c0_2)] 30 (0,0)))∧Aside0 (Below w.heap.size w w'))
 case atStart=>exact ⟨(1),yeq,H,⟨Nat.le_refl _⟩,⟨ybk BK713.out⟩,⟨yhb⟩⟩
 case round =>
  clear H
  try clear hcz7_0
  try clear hcz7_1
  try clear hcz7_2
  try clear hcz9_0
  try clear hcz9_1
  try clear hcz9_2
  try clear hfz7_0
  try clear hfz7_1
  try clear hfz7_2
  try clear hfz9_0
  try clear hfz9_1
  try clear hfz9_2
  obtain ⟨x3_1,rfl,HA,HK1,BK713,HB⟩:=hrel
  rcases gk with _|k1
  ·exact absurd HA.out (by simp [impl_GradePuzzle.l0])
  obtain ⟨H⟩:=HA
  simp only [impl_GradePuzzle.l0] at H
  replace H:=yis H;obtain ⟨c11b0,H⟩ | ⟨c11b0,H⟩:=H
  rotate_left
  ·obtain rfl:=ysi H
   go_wp2
   go_ret
   exact ⟨yer,yhb⟩
  replace H:=ybi H;obtain ⟨t716,A12,H⟩:=H
  try dsimp only at H
  replace H:=ybi H;obtain ⟨⟨t719,t722⟩,A13,H⟩:=H
  try dsimp only at H
  replace H:=ybi H;obtain ⟨t723,A14,H⟩:=H
  try dsimp only at H
  replace H:=ybi H;obtain ⟨t726,A15,H⟩:=H
  try dsimp only at H
  replace H:=yit H;obtain ⟨c16,H⟩ | ⟨c16,H⟩:=H
  ·have c16b0:(t726 == (t719.length:Int))=true:=beq_iff_eq.mpr c16
   have c16b1:(t726 != (t719.length:Int))=false:=bne_eq_false_iff_eq.mpr c16
   clear c16
   obtain rfl:=ysi H
   try go_wp2
   replace BK713:=yam (ybd BK713.out)
   replace HB:=yam (yed HB.out)
   refine start_ (n:=10) (S:=fun w'=>w'.cell? ⟨gb713,0,none⟩=some (.int .i64 a0_0)∧w'.cell? ⟨gb713,1,none⟩=some (.slice A0_1 l0_1.length c0_1)∧w'.cell? ⟨gb713,2,none⟩=some (.slice A0_2 l0_2.length c0_2)) (ds:=[]) (yvb 10 0) (by kernel_rfl) rfl rfl ⟨(blk_cell BK713.out 0).trans rfl,(blk_cell BK713.out 1).trans rfl,(blk_cell BK713.out 2).trans rfl⟩ (fun hHeld=>?_);refine with_tabW impl_GradePuzzle.tab8 impl_GradePuzzle.bits8 (fun HT_ HW_=>?_)
   generalize wr.drew=w17 at BK713 HB hHeld ⊢
   refine yvp 3 20 (yvb 10 8) HT_.out ?_
   refine yvt 0 17 (yvb 10 9) HT_.out HW_.out hHeld ?_
   refine yvt 1 18 (yvb 10 11) HT_.out HW_.out hHeld ?_
   refine one_ (i:=2) (N:=some 19) (yvb 10 15) rfl rfl (one_of HT_.out (by kernel_rfl)) (by decide) (fun K hK=>?_)
   refine goes_ Try.func43 (by kernel_rfl) rfl #[.agg #[.int .i64 a0_0,.slice A0_1 l0_1.length c0_1,.slice A0_2 l0_2.length c0_2]] (by rfl) rfl rfl ymd ?_
   with_reducible refine (impl_StartMasks.calls k1 a0_0 _ _ l0_1 _ _ l0_2 t716 _ ?_ ?_ ?_ ?_ A12.out).mono ?_
   exact Kd.Cz ((Kd.C_below HR0_1.out HB.out))
   exact HC0_1.out
   exact Kd.Cz ((Kd.C_below HR0_2.out HB.out))
   exact HC0_2.out
   rintro e w18 ⟨v717,rfl,ho0,hb⟩
   refine ⟨_,rfl,?_⟩
   have HO718:=yam (Kd.R_lower ho0 (below_size yhb))
   replace BK713:=yam (ybb BK713.out hb)
   replace HB:=yam (below_step yhb hb)
   (try clear hb)
   (try clear hb2)
   (try clear hk)
   (try clear hi)
   (try clear ho0)
   obtain ⟨Ao19,co19,eo19⟩:=Kd.R_slice HO718.out
   (first|subst eo19|(injection eo19 with f1_ f2_ f3_;have f4_:=f1_.symm;have f5_:=f3_.symm;clear f1_ f2_ f3_;subst f4_;subst f5_))
   refine hK.out _ _ ⟨(blk_cell BK713.out 0).trans rfl,(blk_cell BK713.out 1).trans rfl,(blk_cell BK713.out 2).trans rfl⟩ (fun hHeld=>?_)
   clear hK K
   refine norm_ (a':=?_) ?_ ?_
   rotate_left
   ·show Act.put _ (some 19) _=_
    simp only [Act.put,yps,i64_w,i32_w]
    rfl
   refine one_ (i:=4) (N:=some 21) (yvb 10 31) rfl rfl (one_of HT_.out (by kernel_rfl)) (by decide) (fun K hK=>?_)
   refine goes_ Try.func29 (by kernel_rfl) rfl #[.agg #[.int .i64 a0_0,.slice A0_1 l0_1.length c0_1,.slice A0_2 l0_2.length c0_2],.slice Ao19 t716.length co19,.int .i64 x3_1] (by rfl) rfl rfl ymd ?_
   with_reducible refine (impl_NarrowAll.calls k1 a0_0 _ _ l0_1 _ _ l0_2 _ _ t716 x3_1 t719 t722 _ ?_ ?_ ?_ ?_ ?_ ?_ A13.out).mono ?_
   exact Kd.Cz ((Kd.C_below HR0_1.out HB.out))
   exact HC0_1.out
   exact Kd.Cz ((Kd.C_below HR0_2.out HB.out))
   exact HC0_2.out
   exact Kd.Cz (Kd.Yr HO718.out).2.2
   exact (Kd.Yr HO718.out).2.1
   rintro e w20 ⟨v720,rfl,ho0,hb⟩
   refine ⟨_,rfl,?_⟩
   have HO721:=yam (Kd.R_lower (Kd.Yw ho0 (Kd.R_lt (Kd.Yz HO718.out))) (below_size yhb))
   replace HO718:=yam (Kd.Ye (Kd.Yz HO718.out) (Kd.Yb ho0) hb)
   replace BK713:=yam (ybb BK713.out hb)
   replace HB:=yam (below_step yhb hb)
   (try clear hb)
   (try clear hb2)
   (try clear hk)
   (try clear hi)
   (try clear ho0)
   refine hK.out _ _ ⟨(blk_cell BK713.out 0).trans rfl,(blk_cell BK713.out 1).trans rfl,(blk_cell BK713.out 2).trans rfl⟩ (fun hHeld=>?_)
   clear hK K
   refine norm_ (a':=?_) ?_ ?_
   rotate_left
   ·show Act.put _ (some 21) _=_
    simp only [Act.put,yps,i64_w,i32_w]
    rfl
   refine yvp 5 16 (yvb 10 63) HT_.out ?_
   refine yvp 6 22 (yvb 10 127) HT_.out ?_
   refine yvp 7 23 (yvb 10 255) HT_.out ?_
   refine yvp 8 4 (yvb 10 511) HT_.out ?_
   refine yvp 9 5 (yvb 10 1023) HT_.out ?_
   refine done_ (done_of HT_.out (by kernel_rfl)) ?_
   try go_wp2
   replace HO718:=yam (Kd.Yd HO718.out)
   replace HO721:=yam (Kd.Yd HO721.out)
   replace BK713:=yam (ybd BK713.out)
   replace HB:=yam (yed HB.out)
   obtain ⟨Ao22,co22,eo22⟩:=Kd.R_slice HO721.out
   (first|subst eo22|(injection eo22 with f1_ f2_ f3_;have f4_:=f1_.symm;have f5_:=f3_.symm;clear f1_ f2_ f3_;subst f4_;subst f5_))
   refine start_ (n:=10) (S:=fun w'=>w'.cell? ⟨gb713,0,none⟩=some (.int .i64 a0_0)∧w'.cell? ⟨gb713,1,none⟩=some (.slice A0_1 l0_1.length c0_1)∧w'.cell? ⟨gb713,2,none⟩=some (.slice A0_2 l0_2.length c0_2)) (ds:=[]) (yvb 10 0) (by kernel_rfl) rfl rfl ⟨(blk_cell BK713.out 0).trans rfl,(blk_cell BK713.out 1).trans rfl,(blk_cell BK713.out 2).trans rfl⟩ (fun hHeld=>?_);refine with_tabW impl_GradePuzzle.tab9 impl_GradePuzzle.bits9 (fun HT_ HW_=>?_)
   generalize w20.drew=w21 at HO718 HO721 BK713 HB hHeld ⊢
   refine yvp 0 24 (yvb 10 1) HT_.out ?_
   refine yvp 1 25 (yvb 10 3) HT_.out ?_
   refine yvp 4 28 (yvb 10 19) HT_.out ?_
   refine yvp 7 31 (yvb 10 147) HT_.out ?_
   refine yvp 8 32 (yvb 10 403) HT_.out ?_
   refine yvt 2 26 (yvb 10 407) HT_.out HW_.out hHeld ?_
   refine yvt 5 29 (yvb 10 439) HT_.out HW_.out hHeld ?_
   refine one_ (i:=3) (N:=some 27) (yvb 10 447) rfl rfl (one_of HT_.out (by kernel_rfl)) (by decide) (fun K hK=>?_)
   refine goes_ Try.func52 (by kernel_rfl) rfl #[.slice Ao22 t719.length co22,.int .i64 a0_0] (by rfl) rfl rfl ymd ?_
   with_reducible refine (impl_MasksGrid.calls k1 _ _ t719 a0_0 t723 _ ?_ ?_ A14.out).mono ?_
   exact Kd.Cz (Kd.Yr HO721.out).2.2
   exact (Kd.Yr HO721.out).2.1
   rintro e w23 ⟨v724,rfl,ho0,hb⟩
   refine ⟨_,rfl,?_⟩
   have HO725:=yam (Kd.R_lower (Kd.Yw (Kd.Yw ho0 (Kd.R_lt (Kd.Yz HO718.out))) (Kd.R_lt (Kd.Yz HO721.out))) (below_size yhb))
   replace HO718:=yam (Kd.Ye (Kd.Yz HO718.out) (Kd.Yb ho0) hb)
   replace HO721:=yam (Kd.Ye (Kd.Yz HO721.out) (Kd.Yb ho0) hb)
   replace BK713:=yam (ybb BK713.out hb)
   replace HB:=yam (below_step yhb hb)
   (try clear hb)
   (try clear hb2)
   (try clear hk)
   (try clear hi)
   (try clear ho0)
   obtain ⟨Ao24,co24,eo24⟩:=Kd.R_slice HO725.out
   (first|subst eo24|(injection eo24 with f1_ f2_ f3_;have f4_:=f1_.symm;have f5_:=f3_.symm;clear f1_ f2_ f3_;subst f4_;subst f5_))
   refine hK.out _ _ ⟨(blk_cell BK713.out 0).trans rfl,(blk_cell BK713.out 1).trans rfl,(blk_cell BK713.out 2).trans rfl⟩ (fun hHeld=>?_)
   clear hK K
   refine norm_ (a':=?_) ?_ ?_
   rotate_left
   ·show Act.put _ (some 27) _=_
    simp only [Act.put,yps,i64_w,i32_w]
    rfl
   refine one_ (i:=6) (N:=some 30) (yvb 10 511) rfl rfl (one_of HT_.out (by kernel_rfl)) (by decide) (fun K hK=>?_)
   refine goes_ Try.func51 (by kernel_rfl) rfl #[.slice Ao24 t723.length co24,.int .i64 a0_0] (by rfl) rfl rfl ymd ?_
   with_reducible refine (impl_GridFilled.calls k1 _ _ t723 a0_0 t726 _ ?_ ?_ A15.out).mono ?_
   exact Kd.Cz (Kd.Yr HO725.out).2.2
   exact (Kd.Yr HO725.out).2.1
   rintro e w' ⟨rfl,⟨nd,rfl⟩⟩
   refine ⟨_,rfl,?_⟩
   refine hK.out _ _ ⟨(blk_cell BK713.out 0).trans rfl,(blk_cell BK713.out 1).trans rfl,(blk_cell BK713.out 2).trans rfl⟩ (fun hHeld=>?_)
   clear hK K
   refine norm_ (a':=?_) ?_ ?_
   rotate_left
   ·show Act.put _ (some 30) _=_
    simp only [Act.put,yps,i64_w,i32_w]
    rfl
   refine yvp 9 33 (yvb 10 1023) HT_.out ?_
   refine done_ (done_of HT_.out (by kernel_rfl)) ?_
   try go_wp2
   go_ret
   exact ⟨yer,yhb⟩
  have c16b0:(t726 == (t719.length:Int))=false:=beq_eq_false_iff_ne.mpr c16
  have c16b1:(t726 != (t719.length:Int))=true:=bne_iff_ne.mpr c16
  replace H:=yam H
  try go_wp2
  replace BK713:=yam (ybd BK713.out)
  replace HB:=yam (yed HB.out)
  refine start_ (n:=10) (S:=fun w'=>w'.cell? ⟨gb713,0,none⟩=some (.int .i64 a0_0)∧w'.cell? ⟨gb713,1,none⟩=some (.slice A0_1 l0_1.length c0_1)∧w'.cell? ⟨gb713,2,none⟩=some (.slice A0_2 l0_2.length c0_2)) (ds:=[]) (yvb 10 0) (by kernel_rfl) rfl rfl ⟨(blk_cell BK713.out 0).trans rfl,(blk_cell BK713.out 1).trans rfl,(blk_cell BK713.out 2).trans rfl⟩ (fun hHeld=>?_);refine with_tabW impl_GradePuzzle.tab8 impl_GradePuzzle.bits8 (fun HT_ HW_=>?_)
  generalize wr.drew=w25 at BK713 HB hHeld ⊢
  refine yvp 3 20 (yvb 10 8) HT_.out ?_
  refine yvt 0 17 (yvb 10 9) HT_.out HW_.out hHeld ?_
  refine yvt 1 18 (yvb 10 11) HT_.out HW_.out hHeld ?_
  refine one_ (i:=2) (N:=some 19) (yvb 10 15) rfl rfl (one_of HT_.out (by kernel_rfl)) (by decide) (fun K hK=>?_)
  refine goes_ Try.func43 (by kernel_rfl) rfl #[.agg #[.int .i64 a0_0,.slice A0_1 l0_1.length c0_1,.slice A0_2 l0_2.length c0_2]] (by rfl) rfl rfl ymd ?_
  with_reducible refine (impl_StartMasks.calls k1 a0_0 _ _ l0_1 _ _ l0_2 t716 _ ?_ ?_ ?_ ?_ A12.out).mono ?_
  exact Kd.Cz ((Kd.C_below HR0_1.out HB.out))
  exact HC0_1.out
  exact Kd.Cz ((Kd.C_below HR0_2.out HB.out))
  exact HC0_2.out
  rintro e w26 ⟨v717,rfl,ho0,hb⟩
  refine ⟨_,rfl,?_⟩
  have HO718:=yam (Kd.R_lower ho0 (below_size yhb))
  replace BK713:=yam (ybb BK713.out hb)
  replace HB:=yam (below_step yhb hb)
  (try clear hb)
  (try clear hb2)
  (try clear hk)
  (try clear hi)
  (try clear ho0)
  obtain ⟨Ao27,co27,eo27⟩:=Kd.R_slice HO718.out
  (first|subst eo27|(injection eo27 with f1_ f2_ f3_;have f4_:=f1_.symm;have f5_:=f3_.symm;clear f1_ f2_ f3_;subst f4_;subst f5_))
  refine hK.out _ _ ⟨(blk_cell BK713.out 0).trans rfl,(blk_cell BK713.out 1).trans rfl,(blk_cell BK713.out 2).trans rfl⟩ (fun hHeld=>?_)
  clear hK K
  refine norm_ (a':=?_) ?_ ?_
  rotate_left
  ·show Act.put _ (some 19) _=_
   simp only [Act.put,yps,i64_w,i32_w]
   rfl
  refine one_ (i:=4) (N:=some 21) (yvb 10 31) rfl rfl (one_of HT_.out (by kernel_rfl)) (by decide) (fun K hK=>?_)
  refine goes_ Try.func29 (by kernel_rfl) rfl #[.agg #[.int .i64 a0_0,.slice A0_1 l0_1.length c0_1,.slice A0_2 l0_2.length c0_2],.slice Ao27 t716.length co27,.int .i64 x3_1] (by rfl) rfl rfl ymd ?_
  with_reducible refine (impl_NarrowAll.calls k1 a0_0 _ _ l0_1 _ _ l0_2 _ _ t716 x3_1 t719 t722 _ ?_ ?_ ?_ ?_ ?_ ?_ A13.out).mono ?_
  exact Kd.Cz ((Kd.C_below HR0_1.out HB.out))
  exact HC0_1.out
  exact Kd.Cz ((Kd.C_below HR0_2.out HB.out))
  exact HC0_2.out
  exact Kd.Cz (Kd.Yr HO718.out).2.2
  exact (Kd.Yr HO718.out).2.1
  rintro e w28 ⟨v720,rfl,ho0,hb⟩
  refine ⟨_,rfl,?_⟩
  have HO721:=yam (Kd.R_lower (Kd.Yw ho0 (Kd.R_lt (Kd.Yz HO718.out))) (below_size yhb))
  replace HO718:=yam (Kd.Ye (Kd.Yz HO718.out) (Kd.Yb ho0) hb)
  replace BK713:=yam (ybb BK713.out hb)
  replace HB:=yam (below_step yhb hb)
  (try clear hb)
  (try clear hb2)
  (try clear hk)
  (try clear hi)
  (try clear ho0)
  refine hK.out _ _ ⟨(blk_cell BK713.out 0).trans rfl,(blk_cell BK713.out 1).trans rfl,(blk_cell BK713.out 2).trans rfl⟩ (fun hHeld=>?_)
  clear hK K
  refine norm_ (a':=?_) ?_ ?_
  rotate_left
  ·show Act.put _ (some 21) _=_
   simp only [Act.put,yps,i64_w,i32_w]
   rfl
  refine yvp 5 16 (yvb 10 63) HT_.out ?_
  refine yvp 6 22 (yvb 10 127) HT_.out ?_
  refine yvp 7 23 (yvb 10 255) HT_.out ?_
  refine yvp 8 4 (yvb 10 511) HT_.out ?_
  refine yvp 9 5 (yvb 10 1023) HT_.out ?_
  refine done_ (done_of HT_.out (by kernel_rfl)) ?_
  try go_wp2
  replace HO718:=yam (Kd.Yd HO718.out)
  replace HO721:=yam (Kd.Yd HO721.out)
  replace BK713:=yam (ybd BK713.out)
  replace HB:=yam (yed HB.out)
  obtain ⟨Ao30,co30,eo30⟩:=Kd.R_slice HO721.out
  (first|subst eo30|(injection eo30 with f1_ f2_ f3_;have f4_:=f1_.symm;have f5_:=f3_.symm;clear f1_ f2_ f3_;subst f4_;subst f5_))
  refine start_ (n:=10) (S:=fun w'=>w'.cell? ⟨gb713,0,none⟩=some (.int .i64 a0_0)∧w'.cell? ⟨gb713,1,none⟩=some (.slice A0_1 l0_1.length c0_1)∧w'.cell? ⟨gb713,2,none⟩=some (.slice A0_2 l0_2.length c0_2)) (ds:=[]) (yvb 10 0) (by kernel_rfl) rfl rfl ⟨(blk_cell BK713.out 0).trans rfl,(blk_cell BK713.out 1).trans rfl,(blk_cell BK713.out 2).trans rfl⟩ (fun hHeld=>?_);refine with_tabW impl_GradePuzzle.tab9 impl_GradePuzzle.bits9 (fun HT_ HW_=>?_)
  generalize w28.drew=w29 at HO718 HO721 BK713 HB hHeld ⊢
  refine yvp 0 24 (yvb 10 1) HT_.out ?_
  refine yvp 1 25 (yvb 10 3) HT_.out ?_
  refine yvp 4 28 (yvb 10 19) HT_.out ?_
  refine yvp 7 31 (yvb 10 147) HT_.out ?_
  refine yvp 8 32 (yvb 10 403) HT_.out ?_
  refine yvt 2 26 (yvb 10 407) HT_.out HW_.out hHeld ?_
  refine yvt 5 29 (yvb 10 439) HT_.out HW_.out hHeld ?_
  refine one_ (i:=3) (N:=some 27) (yvb 10 447) rfl rfl (one_of HT_.out (by kernel_rfl)) (by decide) (fun K hK=>?_)
  refine goes_ Try.func52 (by kernel_rfl) rfl #[.slice Ao30 t719.length co30,.int .i64 a0_0] (by rfl) rfl rfl ymd ?_
  with_reducible refine (impl_MasksGrid.calls k1 _ _ t719 a0_0 t723 _ ?_ ?_ A14.out).mono ?_
  exact Kd.Cz (Kd.Yr HO721.out).2.2
  exact (Kd.Yr HO721.out).2.1
  rintro e w31 ⟨v724,rfl,ho0,hb⟩
  refine ⟨_,rfl,?_⟩
  have HO725:=yam (Kd.R_lower (Kd.Yw (Kd.Yw ho0 (Kd.R_lt (Kd.Yz HO718.out))) (Kd.R_lt (Kd.Yz HO721.out))) (below_size yhb))
  replace HO718:=yam (Kd.Ye (Kd.Yz HO718.out) (Kd.Yb ho0) hb)
  replace HO721:=yam (Kd.Ye (Kd.Yz HO721.out) (Kd.Yb ho0) hb)
  replace BK713:=yam (ybb BK713.out hb)
  replace HB:=yam (below_step yhb hb)
  (try clear hb)
  (try clear hb2)
  (try clear hk)
  (try clear hi)
  (try clear ho0)
  obtain ⟨Ao32,co32,eo32⟩:=Kd.R_slice HO725.out
  (first|subst eo32|(injection eo32 with f1_ f2_ f3_;have f4_:=f1_.symm;have f5_:=f3_.symm;clear f1_ f2_ f3_;subst f4_;subst f5_))
  refine hK.out _ _ ⟨(blk_cell BK713.out 0).trans rfl,(blk_cell BK713.out 1).trans rfl,(blk_cell BK713.out 2).trans rfl⟩ (fun hHeld=>?_)
  clear hK K
  refine norm_ (a':=?_) ?_ ?_
  rotate_left
  ·show Act.put _ (some 27) _=_
   simp only [Act.put,yps,i64_w,i32_w]
   rfl
  refine one_ (i:=6) (N:=some 30) (yvb 10 511) rfl rfl (one_of HT_.out (by kernel_rfl)) (by decide) (fun K hK=>?_)
  refine goes_ Try.func51 (by kernel_rfl) rfl #[.slice Ao32 t723.length co32,.int .i64 a0_0] (by rfl) rfl rfl ymd ?_
  with_reducible refine (impl_GridFilled.calls k1 _ _ t723 a0_0 t726 _ ?_ ?_ A15.out).mono ?_
  exact Kd.Cz (Kd.Yr HO725.out).2.2
  exact (Kd.Yr HO725.out).2.1
  rintro e w' ⟨rfl,⟨nd,rfl⟩⟩
  refine ⟨_,rfl,?_⟩
  refine hK.out _ _ ⟨(blk_cell BK713.out 0).trans rfl,(blk_cell BK713.out 1).trans rfl,(blk_cell BK713.out 2).trans rfl⟩ (fun hHeld=>?_)
  clear hK K
  refine norm_ (a':=?_) ?_ ?_
  rotate_left
  ·show Act.put _ (some 30) _=_
   simp only [Act.put,yps,i64_w,i32_w]
   rfl
  refine yvp 9 33 (yvb 10 1023) HT_.out ?_
  refine done_ (done_of HT_.out (by kernel_rfl)) ?_
  try go_wp2
  go_roundg k1
  case measure=>have:=HK1.out;omega
  case rel=>exact ⟨(wrap64 (x3_1 + 1)),yeq,H,⟨by have:=HK1.out;omega⟩,⟨ybk BK713.out⟩,⟨yhb⟩⟩
end Go.Proofs.Ytdemlminhkhonaa.P
