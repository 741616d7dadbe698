/- The machine's side: each Go function as a plain Lean function and the proof that the machine's call does what that function says; written by this session's own program over the kit's print. -/
import Derived.Test.YtdemlminhkhonaaZP1
import Derived.Test.YtdemlminhkhonaaZP4
namespace Go.Proofs.Ytdemlminhkhonaa.P
set_option maxHeartbeats 8000000
set_option maxRecDepth 100000
open Go.RowKit Go.Proofs.YtdemlminhkhonaaW.PrintWords Go.Proofs.YtdemlminhkhonaaW.PrintLast Go.Proofs.YtdemlminhkhonaaW.PrintMore
attribute [local go_sem] max2_int min2_int max_two min_two max_three min_three max_four min_four   -- for this text's walks alone
set_option linter.unusedVariables false
set_option linter.unusedSimpArgs false
mutual
def impl_PuzzleValid.j0:Nat→Bool→Int→List Int→List (S67)→Option (Bool)
 | 0,_,_,_,_=>none
 | k + 1,x16,x383000,x383001,x383002=>if x16=true then (some false) else (impl_PuzzleValid.l0 k x383002 (x383002.length:Int) 0 x383000 x383001 x383002)
def impl_PuzzleValid.l0:Nat→List (S67)→Int→Int→Int→List Int→List (S67)→Option (Bool)
 | 0,_,_,_,_,_,_=>none
 | k + 1,x18,x19,x20,x383000,x383001,x383002=>if x20 < x19 then (if 0≤x20 then (if x20 < (x18.length:Int) then ((impl_RuleValid.f k ((rd_T67 x18 x20).f0) ((rd_T67 x18 x20).f1) ((rd_T67 x18 x20).f2) x383000).bind fun t386=>(if t386=true then (impl_PuzzleValid.l0 k x18 x19 (wrap64 (x20 + 1)) x383000 x383001 x383002) else (some false))) else (none)) else (none)) else (some true)
end
def impl_PuzzleValid.f (k:Nat)(a0_0:Int)(l0_1:List Int)(l0_2:List (S67)):Option (Bool):=(impl_GridValid.f k l0_1 a0_0).bind fun t383=>(if t383=true then (impl_PuzzleValid.j0 k (decide ((l0_2.length:Int) > 20)) a0_0 l0_1 l0_2) else (impl_PuzzleValid.j0 k true a0_0 l0_1 l0_2))
theorem impl_PuzzleValid.calls (k:Nat)(a0_0:Int)(A0_1:Option Addr)(c0_1:Nat)(l0_1:List Int)(A0_2:Option Addr)(c0_2:Nat)(l0_2:List (S67))(r:Bool)(w:World)(hr0_1:Kd.C (Kd.int .i64) w A0_1 l0_1.length l0_1)(hc0_1:l0_1.length≤c0_1)(hr0_2:Kd.C k67 w A0_2 l0_2.length l0_2)(hc0_2:l0_2.length≤c0_2)(h:impl_PuzzleValid.f k a0_0 l0_1 l0_2=some r) :
  Calls Try.prog 36 #[.agg #[.int .i64 a0_0,.slice A0_1 l0_1.length c0_1,.slice A0_2 l0_2.length c0_2]] w fun e w'=>e= .returned (.bool r)∧Below w.heap.size w w':=by
 have hu30:=Try.underlying30
 have hu67:=Try.underlying67
 have HR0_1:=yam hr0_1
 have HC0_1:=yam hc0_1
 clear hr0_1 hc0_1
 have HR0_2:=yam hr0_2
 have HC0_2:=yam hc0_2
 clear hr0_2 hc0_2
 have HB:=yam (Below.refl w.heap.size w)
 unfold impl_PuzzleValid.f at h
 have H:=h
 clear h
 have HC2:=yam H
 clear H
 go_enter Try.func36,Try.ntmps36
 go_upto_region 1 with (first|((with_reducible refine gate_dst (N:=1) rfl ?_);(try (refine gate_guard (by rfl) ?_;dsimp only));refine ybe 1 #[.int .i64 a0_0,.slice A0_1 l0_1.length c0_1,.slice A0_2 l0_2.length c0_2] 30 ?_;intro gb382 hg w3 hbox hb;have BK382:=yam (hbox);have GW382:=yam ((by rw [hg];exact (below_size (yez HB.out)):w.heap.size≤gb382));replace HB:=yam (below_step (yez HB.out) hb);have GE382:=GW382;clear hb hbox hg))
 (try simp only [Act.put,yps])
 go_cut [16] (fun v16 wc=>∃ (kq:Nat) (x16_1:Bool),v16= .bool x16_1∧Aside0 (impl_PuzzleValid.j0 kq x16_1 a0_0 l0_1 l0_2=some r)∧Aside0 (kq≤k)∧Aside0 (wc.heap[gb382]?=some (.cells #[.int .i64 a0_0,(.slice A0_1 l0_1.length c0_1),(.slice A0_2 l0_2.length c0_2)] 30 (0,0)))∧Aside0 (Below w.heap.size w wc))
 case first =>
  have H:=HC2.out
  clear HC2
  replace H:=ybi H;obtain ⟨t383,A4,H⟩:=H
  try dsimp only at H
  cases t383
  rotate_left
  ·replace H:=ytt H
   replace H:=yam H
   obtain ⟨hcz6_0,hcz6_1,hcz6_2,hfz6_0,hfz6_1,hfz6_2⟩:=ybc BK382.out
   go_wp2_with (first|(refine goesL_ (some 9) rfl rfl Try.func69 (by kernel_rfl) rfl #[.slice A0_1 l0_1.length c0_1,.int .i64 a0_0] rfl ymd ?_;(with_reducible refine (impl_GridValid.calls k _ _ l0_1 a0_0 true _ ?_ ?_ A4.out).mono ?_);exact Kd.Cz ((Kd.C_below HR0_1.out HB.out));exact HC0_1.out;rintro e w' ⟨rfl,⟨nd,rfl⟩⟩;refine ⟨_,rfl,?_⟩))
   go_meet
   case rel=>exact ⟨_,(decide ((l0_2.length:Int) > 20)),yeq,H,⟨by first|omega|exact Nat.le_refl _⟩,⟨ybk BK382.out⟩,⟨yhb⟩⟩
  replace H:=yff H
  replace H:=yam H
  obtain ⟨hcz7_0,hcz7_1,hcz7_2,hfz7_0,hfz7_1,hfz7_2⟩:=ybc BK382.out
  go_wp2_with (first|(refine goesL_ (some 9) rfl rfl Try.func69 (by kernel_rfl) rfl #[.slice A0_1 l0_1.length c0_1,.int .i64 a0_0] rfl ymd ?_;(with_reducible refine (impl_GridValid.calls k _ _ l0_1 a0_0 false _ ?_ ?_ A4.out).mono ?_);exact Kd.Cz ((Kd.C_below HR0_1.out HB.out));exact HC0_1.out;rintro e w' ⟨rfl,⟨nd,rfl⟩⟩;refine ⟨_,rfl,?_⟩))
  go_meet
  case rel=>exact ⟨_,(true),yeq,H,⟨by first|omega|exact Nat.le_refl _⟩,⟨ybk BK382.out⟩,⟨yhb⟩⟩
 case rest =>
  clear HC2
  obtain ⟨kq,x16_1,rfl,HA,HJ1,BK382,HB⟩:=hcut
  rcases kq with _|kj1
  ·exact absurd HA.out (by simp [impl_PuzzleValid.j0])
  obtain ⟨H⟩:=HA
  simp only [impl_PuzzleValid.j0] at H
  cases x16_1
  rotate_left
  ·replace H:=ytt H
   obtain rfl:=ysi H
   go_wp2
   go_ret
   exact ⟨yer,yhb⟩
  replace H:=yff H
  replace H:=yam H
  obtain ⟨hcz9_0,hcz9_1,hcz9_2,hfz9_0,hfz9_1,hfz9_2⟩:=ybc BK382.out
  go_wp2
  go_loopg [20] kj1 (fun kq v20 w'=>∃ (x20_2:Int),v20= .int .i64 x20_2∧Aside0 (impl_PuzzleValid.l0 kq l0_2 (l0_2.length:Int) x20_2 a0_0 l0_1 l0_2=some r)∧Aside0 (kq≤kj1)∧Aside0 (w'.heap[gb382]?=some (.cells #[.int .i64 a0_0,(.slice A0_1 l0_1.length c0_1),(.slice A0_2 l0_2.length c0_2)] 30 (0,0)))∧Aside0 (Below w.heap.size w w'))
  case atStart=>exact ⟨(0),yeq,H,⟨Nat.le_refl _⟩,⟨ybk BK382.out⟩,⟨yhb⟩⟩
  case round =>
   clear H
   try clear hcz9_0
   try clear hcz9_1
   try clear hcz9_2
   try clear hfz9_0
   try clear hfz9_1
   try clear hfz9_2
   obtain ⟨x20_2,rfl,HA,HK2,BK382,HB⟩:=hrel
   rcases gk with _|k2
   ·exact absurd HA.out (by simp [impl_PuzzleValid.l0])
   obtain ⟨H⟩:=HA
   simp only [impl_PuzzleValid.l0] at H
   replace H:=yis H;obtain ⟨c10b0,H⟩ | ⟨c10b0,H⟩:=H
   rotate_left
   ·obtain rfl:=ysi H
    go_wp2
    go_ret
    exact ⟨yer,yhb⟩
   replace H:=yif H;obtain ⟨c11b0,H⟩:=H
   replace H:=yif H;obtain ⟨c12b0,H⟩:=H
   replace H:=ybi H;obtain ⟨t386,A13,H⟩:=H
   try dsimp only at H
   cases t386
   ·replace H:=yff H
    obtain rfl:=ysi H
    have p384:0≤(x20_2:Int):=ydt
    have q384:x20_2 < (l0_2.length:Int):=ydt
    obtain ⟨ad384,A384_1,c384_1,e384,hx384_0,hx384_1,hx384_2,hl384_1,hi384_1⟩:=at_T67 HR0_2.out x20_2 p384 q384
    cases e384
    replace hx384_0:=ybx HB.out hx384_0
    replace hx384_1:=ybx HB.out hx384_1
    replace hx384_2:=ybx HB.out hx384_2
    have HR384_1:=yam hi384_1
    have HC384_1:=yam hl384_1
    clear hi384_1 hl384_1
    replace p384:=eq_true p384
    replace q384:=eq_true q384
    go_wp2_with (first|((with_reducible refine gate_dst (N:=4) rfl ?_);(try (refine gate_guard (by rfl) ?_;dsimp only));refine ybe 4 #[.int .i64 0,.slice none 0 0,.int .i64 0] 67 ?_;intro gb385 hg w20 hbox hb;have BK385:=yam (hbox);have GW385:=yam ((by rw [hg];exact (below_size yhb):w.heap.size≤gb385));replace HB:=yam (below_step yhb hb);have GE385:=GW385;have NB382_385:=yam ((by rw [hg];exact Nat.ne_of_lt (blk_lt (g:=gb382) (o:= .cells #[.int .i64 a0_0,.slice A0_1 l0_1.length c0_1,.slice (some ad384) l0_2.length c0_2] 30 (0,0)) (ybz BK382.out)):gb382≠gb385));have NB385_382:=yam ((by rw [hg];exact Nat.ne_of_gt (blk_lt (g:=gb382) (o:= .cells #[.int .i64 a0_0,.slice A0_1 l0_1.length c0_1,.slice (some ad384) l0_2.length c0_2] 30 (0,0)) (ybz BK382.out)):gb385≠gb382));replace BK382:=yam (ybb BK382.out hb);clear hb hbox hg;have hnb21:=NB385_382.out;have hnc21:=NB382_385.out;obtain ⟨hcz22_0,hcz22_1,hcz22_2,hfz22_0,hfz22_1,hfz22_2⟩:=ybc BK385.out;obtain ⟨hcz23_0,hcz23_1,hcz23_2,hfz23_0,hfz23_1,hfz23_2⟩:=ybc BK382.out)|(refine goesL_ (some 27) rfl rfl Try.func70 (by kernel_rfl) rfl #[.agg #[.int .i64 ((rd_T67 l0_2 x20_2).f0),.slice A384_1 ((rd_T67 l0_2 x20_2).f1).length c384_1,.int .i64 ((rd_T67 l0_2 x20_2).f2)],.int .i64 a0_0] rfl ymd ?_;(with_reducible refine (impl_RuleValid.calls k2 ((rd_T67 l0_2 x20_2).f0) _ _ ((rd_T67 l0_2 x20_2).f1) ((rd_T67 l0_2 x20_2).f2) a0_0 false _ ?_ ?_ A13.out).mono ?_);exact Kd.C_below HR384_1.out yhb;exact HC384_1.out;rintro e w24 ⟨rfl,hb⟩;refine ⟨_,rfl,?_⟩;replace BK382:=yam (blk_below (g:=gb382) (o:= .cells #[.int .i64 a0_0,.slice A0_1 l0_1.length c0_1,.slice (some ad384) l0_2.length c0_2] 30 (0,0)) (by (with_reducible repeat (first|refine ybn ?_ _|refine ybd ?_|refine yba ?_ _));refine blk_far ?_ NB382_385.out _;(with_reducible repeat (first|refine ybn ?_ _|refine ybd ?_|refine yba ?_ _));refine blk_far ?_ NB382_385.out _;(with_reducible repeat (first|refine ybn ?_ _|refine ybd ?_|refine yba ?_ _));refine blk_far ?_ NB382_385.out _;(with_reducible repeat (first|refine ybn ?_ _|refine ybd ?_|refine yba ?_ _));exact BK382.out) hb);replace BK385:=yam (blk_below (g:=gb385) (o:= .cells #[.int .i64 ((rd_T67 l0_2 x20_2).f0),.slice A384_1 ((rd_T67 l0_2 x20_2).f1).length c384_1,.int .i64 ((rd_T67 l0_2 x20_2).f2)] 67 (0,0)) (by (with_reducible repeat (first|refine ybn ?_ _|refine ybd ?_|refine yba ?_ _));refine blk_put (cs:= #[.int .i64 ((rd_T67 l0_2 x20_2).f0),.slice A384_1 ((rd_T67 l0_2 x20_2).f1).length c384_1,.int .i64 0]) ?_ 2 _ rfl;(with_reducible repeat (first|refine ybn ?_ _|refine ybd ?_|refine yba ?_ _));refine blk_put (cs:= #[.int .i64 ((rd_T67 l0_2 x20_2).f0),.slice none 0 0,.int .i64 0]) ?_ 1 _ rfl;(with_reducible repeat (first|refine ybn ?_ _|refine ybd ?_|refine yba ?_ _));refine blk_put (cs:= #[.int .i64 0,.slice none 0 0,.int .i64 0]) ?_ 0 _ rfl;(with_reducible repeat (first|refine ybn ?_ _|refine ybd ?_|refine yba ?_ _));exact BK385.out) hb);replace HB:=yam (below_step yhb hb);(try clear hb)))
    go_ret
    exact ⟨yer,yhb⟩
   replace H:=ytt H
   replace H:=yam H
   have p384:0≤(x20_2:Int):=ydt
   have q384:x20_2 < (l0_2.length:Int):=ydt
   obtain ⟨ad384,A384_1,c384_1,e384,hx384_0,hx384_1,hx384_2,hl384_1,hi384_1⟩:=at_T67 HR0_2.out x20_2 p384 q384
   cases e384
   replace hx384_0:=ybx HB.out hx384_0
   replace hx384_1:=ybx HB.out hx384_1
   replace hx384_2:=ybx HB.out hx384_2
   have HR384_1:=yam hi384_1
   have HC384_1:=yam hl384_1
   clear hi384_1 hl384_1
   replace p384:=eq_true p384
   replace q384:=eq_true q384
   go_wp2_with (first|((with_reducible refine gate_dst (N:=4) rfl ?_);(try (refine gate_guard (by rfl) ?_;dsimp only));refine ybe 4 #[.int .i64 0,.slice none 0 0,.int .i64 0] 67 ?_;intro gb385 hg w15 hbox hb;have BK385:=yam (hbox);have GW385:=yam ((by rw [hg];exact (below_size yhb):w.heap.size≤gb385));replace HB:=yam (below_step yhb hb);have GE385:=GW385;have NB382_385:=yam ((by rw [hg];exact Nat.ne_of_lt (blk_lt (g:=gb382) (o:= .cells #[.int .i64 a0_0,.slice A0_1 l0_1.length c0_1,.slice (some ad384) l0_2.length c0_2] 30 (0,0)) (ybz BK382.out)):gb382≠gb385));have NB385_382:=yam ((by rw [hg];exact Nat.ne_of_gt (blk_lt (g:=gb382) (o:= .cells #[.int .i64 a0_0,.slice A0_1 l0_1.length c0_1,.slice (some ad384) l0_2.length c0_2] 30 (0,0)) (ybz BK382.out)):gb385≠gb382));replace BK382:=yam (ybb BK382.out hb);clear hb hbox hg;have hnb16:=NB385_382.out;have hnc16:=NB382_385.out;obtain ⟨hcz17_0,hcz17_1,hcz17_2,hfz17_0,hfz17_1,hfz17_2⟩:=ybc BK385.out;obtain ⟨hcz18_0,hcz18_1,hcz18_2,hfz18_0,hfz18_1,hfz18_2⟩:=ybc BK382.out)|(refine goesL_ (some 27) rfl rfl Try.func70 (by kernel_rfl) rfl #[.agg #[.int .i64 ((rd_T67 l0_2 x20_2).f0),.slice A384_1 ((rd_T67 l0_2 x20_2).f1).length c384_1,.int .i64 ((rd_T67 l0_2 x20_2).f2)],.int .i64 a0_0] rfl ymd ?_;(with_reducible refine (impl_RuleValid.calls k2 ((rd_T67 l0_2 x20_2).f0) _ _ ((rd_T67 l0_2 x20_2).f1) ((rd_T67 l0_2 x20_2).f2) a0_0 true _ ?_ ?_ A13.out).mono ?_);exact Kd.C_below HR384_1.out yhb;exact HC384_1.out;rintro e w19 ⟨rfl,hb⟩;refine ⟨_,rfl,?_⟩;replace BK382:=yam (blk_below (g:=gb382) (o:= .cells #[.int .i64 a0_0,.slice A0_1 l0_1.length c0_1,.slice (some ad384) l0_2.length c0_2] 30 (0,0)) (by (with_reducible repeat (first|refine ybn ?_ _|refine ybd ?_|refine yba ?_ _));refine blk_far ?_ NB382_385.out _;(with_reducible repeat (first|refine ybn ?_ _|refine ybd ?_|refine yba ?_ _));refine blk_far ?_ NB382_385.out _;(with_reducible repeat (first|refine ybn ?_ _|refine ybd ?_|refine yba ?_ _));refine blk_far ?_ NB382_385.out _;(with_reducible repeat (first|refine ybn ?_ _|refine ybd ?_|refine yba ?_ _));exact BK382.out) hb);replace BK385:=yam (blk_below (g:=gb385) (o:= .cells #[.int .i64 ((rd_T67 l0_2 x20_2).f0),.slice A384_1 ((rd_T67 l0_2 x20_2).f1).length c384_1,.int .i64 ((rd_T67 l0_2 x20_2).f2)] 67 (0,0)) (by (with_reducible repeat (first|refine ybn ?_ _|refine ybd ?_|refine yba ?_ _));refine blk_put (cs:= #[.int .i64 ((rd_T67 l0_2 x20_2).f0),.slice A384_1 ((rd_T67 l0_2 x20_2).f1).length c384_1,.int .i64 0]) ?_ 2 _ rfl;(with_reducible repeat (first|refine ybn ?_ _|refine ybd ?_|refine yba ?_ _));refine blk_put (cs:= #[.int .i64 ((rd_T67 l0_2 x20_2).f0),.slice none 0 0,.int .i64 0]) ?_ 1 _ rfl;(with_reducible repeat (first|refine ybn ?_ _|refine ybd ?_|refine yba ?_ _));refine blk_put (cs:= #[.int .i64 0,.slice none 0 0,.int .i64 0]) ?_ 0 _ rfl;(with_reducible repeat (first|refine ybn ?_ _|refine ybd ?_|refine yba ?_ _));exact BK385.out) hb);replace HB:=yam (below_step yhb hb);(try clear hb)))
   go_roundg k2
   case measure=>have:=HJ1.out;have:=HK2.out;omega
   case rel=>exact ⟨(wrap64 (x20_2 + 1)),yeq,H,⟨by have:=HJ1.out;have:=HK2.out;omega⟩,⟨ybk BK382.out⟩,⟨yhb⟩⟩
def impl_allValues.f (a0:Int):Option (Int):=if 0≤(wrap64 (a0 + 1)) then (some (wrap64 ((shl .i64 1 (wrap64 (a0 + 1))) - 2))) else (none)
theorem impl_allValues.calls (a0:Int)(r:Int)(w:World)(h:impl_allValues.f a0=some r) :
  Calls Try.prog 73 #[.int .i64 a0] w fun e w'=>e= .returned (.int .i64 r)∧Drawn0 w w':=by
 unfold impl_allValues.f at h
 have H:=h
 clear h
 obtain ⟨ji2,hji2⟩:∃ j_:Int,(wrap64 (a0 + 1))=j_:=⟨_,rfl⟩
 replace H:(if 0≤(ji2) then (some (wrap64 ((shl .i64 1 (ji2)) - 2))) else (none))=some r:=by first|(rw [hji2] at H;exact H)|(simp only [hji2] at H ⊢;exact H)
 have hji2w:(IntKind.i64.wrap (a0 + 1))=ji2:=(i64_w _).trans hji2
 replace H:=yit H;obtain ⟨c3,H⟩ | ⟨c3,H⟩:=H
 rotate_left
 ·exact absurd H (by simp)
 have c3b0:=eq_true c3
 have c3b1:decide (0≤(ji2))=true:=decide_eq_true c3
 clear c3
 obtain ⟨ji4,hji4⟩:∃ j_:Int,(shl .i64 1 (ji2))=j_:=⟨_,rfl⟩
 replace H:(some (wrap64 ((ji4) - 2)))=some r:=by first|(rw [hji4] at H;exact H)|(simp only [hji4] at H ⊢;exact H)
 have hji4_:(IntKind.i64.wrap (1 * 2 ^ min (ji2).toNat 64))=ji4:=hji4
 have hji4z:(ji2)≤64→(IntKind.i64.wrap (1 * 2 ^ (ji2).toNat))=ji4:=shl_small hji4
 have hji4u:(IntKind.i64.wrap (2 ^ min (ji2).toNat 64))=ji4:=by have h_:=hji4_;rw [Int.one_mul] at h_;exact h_
 have hji4v:(ji2)≤64→(IntKind.i64.wrap (2 ^ (ji2).toNat))=ji4:=fun hle_=>by have h_:=hji4z hle_;rw [Int.one_mul] at h_;exact h_
 have hji4y:(wrap64 (1 * 2 ^ min (ji2).toNat 64))=ji4:=(i64_w _).symm.trans hji4_
 have hji4x:(ji2)≤64→(wrap64 (1 * 2 ^ (ji2).toNat))=ji4:=fun h_=>(i64_w _).symm.trans (hji4z h_)
 obtain rfl:=ysi H
 go_enter Try.func73,Try.ntmps73
 go_wp2
 go_ret
 exact ⟨by first|rfl|(simp;done)|(simp only [← hji2,← hji4] <;> (first|rfl|simp))|(simp [*];done),by repeat (first|exact Drawn0.refl _|apply Drawn0.step)⟩
def impl_StartMasks.l0:Nat→List Int→List Int→Int→Int→Int→List Int→List (S67)→Option (List Int)
 | 0,_,_,_,_,_,_,_=>none
 | k + 1,x3,x14,x15,x16,x388000,x388001,x388002=>if x16 < x15 then (if 0≤x16 then (if x16 < (x14.length:Int) then ((impl_allValues.f x388000).bind fun t393=>(if x16 < (x3.length:Int) then ((some (x3.set (x16:Int).toNat t393:List Int)).bind fun y394=>(if (rd x14 x16) > 0 then (if 0≤(rd x14 x16) then (impl_StartMasks.l0 k (y394.set (x16:Int).toNat (shl .i64 1 (rd x14 x16))) x14 x15 (wrap64 (x16 + 1)) x388000 x388001 x388002) else (none)) else (impl_StartMasks.l0 k y394 x14 x15 (wrap64 (x16 + 1)) x388000 x388001 x388002))) else (none))) else (none)) else (none)) else (some x3)
def impl_StartMasks.f (k:Nat)(a0_0:Int)(l0_1:List Int)(l0_2:List (S67)):Option (List Int):=(impl_PuzzleValid.f k a0_0 l0_1 l0_2).bind fun t388=>(if t388=true then (if 0≤(l0_1.length:Int) then (if ((l0_1.length:Int):Int).toNat≤35184372088832 then (impl_StartMasks.l0 k (List.replicate ((l0_1.length:Int):Int).toNat 0) l0_1 (l0_1.length:Int) 0 a0_0 l0_1 l0_2) else (none)) else (none)) else (some ([]:List Int)))
theorem impl_StartMasks.calls (k:Nat)(a0_0:Int)(A0_1:Option Addr)(c0_1:Nat)(l0_1:List Int)(A0_2:Option Addr)(c0_2:Nat)(l0_2:List (S67))(r:List Int)(w:World)(hr0_1:Kd.C (Kd.int .i64) w A0_1 l0_1.length l0_1)(hc0_1:l0_1.length≤c0_1)(hr0_2:Kd.C k67 w A0_2 l0_2.length l0_2)(hc0_2:l0_2.length≤c0_2)(h:impl_StartMasks.f k a0_0 l0_1 l0_2=some r) :
  Calls Try.prog 43 #[.agg #[.int .i64 a0_0,.slice A0_1 l0_1.length c0_1,.slice A0_2 l0_2.length c0_2]] w fun e w'=>∃ v0_:Value,e= .returned (v0_)∧Kd.R (Kd.int .i64) 3 w' w.heap.size (fun _=>True) v0_ r∧Below w.heap.size w w':=by
 have hu30:=Try.underlying30
 have HR0_1:=yam hr0_1
 have HC0_1:=yam hc0_1
 clear hr0_1 hc0_1
 have HR0_2:=yam hr0_2
 have HC0_2:=yam hc0_2
 clear hr0_2 hc0_2
 have HB:=yam (Below.refl w.heap.size w)
 unfold impl_StartMasks.f at h
 have H:=h
 clear h
 replace H:=ybi H;obtain ⟨t388,A2,H⟩:=H
 try dsimp only at H
 cases t388
 ·replace H:=yff H
  obtain rfl:=ysi H
  go_enter Try.func43,Try.ntmps43
  go_wp2_with (first|(refine ybe 1 #[.int .i64 a0_0,.slice A0_1 l0_1.length c0_1,.slice A0_2 l0_2.length c0_2] 30 ?_;intro gb387 hg w31 hbox hb;have BK387:=yam (hbox);have GW387:=yam ((by rw [hg];exact (below_size (yez HB.out)):w.heap.size≤gb387));replace HB:=yam (below_step (yez HB.out) hb);have GE387:=GW387;clear hb hbox hg;obtain ⟨hcz32_0,hcz32_1,hcz32_2,hfz32_0,hfz32_1,hfz32_2⟩:=ybc BK387.out)|(refine goesL_ (some 7) rfl rfl Try.func36 (by kernel_rfl) rfl #[.agg #[.int .i64 a0_0,.slice A0_1 l0_1.length c0_1,.slice A0_2 l0_2.length c0_2]] rfl ymd ?_;(with_reducible refine (impl_PuzzleValid.calls k a0_0 _ _ l0_1 _ _ l0_2 false _ ?_ ?_ ?_ ?_ A2.out).mono ?_);exact Kd.Cz ((Kd.C_below HR0_1.out HB.out));exact HC0_1.out;exact Kd.Cz ((Kd.C_below HR0_2.out HB.out));exact HC0_2.out;rintro e w33 ⟨rfl,hb⟩;refine ⟨_,rfl,?_⟩;replace BK387:=yam (ybb BK387.out hb);replace HB:=yam (below_step yhb hb);(try clear hb)))
  go_ret
  exact ⟨_,yer,by first|exact Kd.R_nil _ _ _ _ _|exact Kd.N_nil _ _ _ _ _|exact Kd.V_nil _ _ _ _ _|exact Kd.Q_nil _ _ _ _ _|exact Kd.S_nil _ _ _ _ _,yhb⟩
 replace H:=ytt H
 replace H:=yig H;obtain ⟨c4,H⟩:=H
 have c4b0:=eq_true c4
 have c4b1:decide (0≤(l0_1.length:Int))=true:=decide_eq_true c4
 clear c4
 replace H:=yig H;obtain ⟨c5,H⟩:=H
 have c5b0:=eq_true c5
 have c5b1:decide (((l0_1.length:Int):Int).toNat≤35184372088832)=true:=decide_eq_true c5
 clear c5
 obtain ⟨y389,Ny389⟩:∃ y_:List Int,Aside0 (y_=(List.replicate ((l0_1.length:Int):Int).toNat 0)):=⟨_,⟨rfl⟩⟩
 replace H:(impl_StartMasks.l0 k y389 l0_1 (l0_1.length:Int) 0 a0_0 l0_1 l0_2)=some r:=yhn Ny389.out H
 replace H:=yam H
 go_enter Try.func43,Try.ntmps43
 go_wp2_with (first|(refine ybe 1 #[.int .i64 a0_0,.slice A0_1 l0_1.length c0_1,.slice A0_2 l0_2.length c0_2] 30 ?_;intro gb387 hg w6 hbox hb;have BK387:=yam (hbox);have GW387:=yam ((by rw [hg];exact (below_size (yez HB.out)):w.heap.size≤gb387));replace HB:=yam (below_step (yez HB.out) hb);have GE387:=GW387;clear hb hbox hg;obtain ⟨hcz7_0,hcz7_1,hcz7_2,hfz7_0,hfz7_1,hfz7_2⟩:=ybc BK387.out)|(refine goesL_ (some 7) rfl rfl Try.func36 (by kernel_rfl) rfl #[.agg #[.int .i64 a0_0,.slice A0_1 l0_1.length c0_1,.slice A0_2 l0_2.length c0_2]] rfl ymd ?_;(with_reducible refine (impl_PuzzleValid.calls k a0_0 _ _ l0_1 _ _ l0_2 true _ ?_ ?_ ?_ ?_ A2.out).mono ?_);exact Kd.Cz ((Kd.C_below HR0_1.out HB.out));exact HC0_1.out;exact Kd.Cz ((Kd.C_below HR0_2.out HB.out));exact HC0_2.out;rintro e w8 ⟨rfl,hb⟩;refine ⟨_,rfl,?_⟩;replace BK387:=yam (ybb BK387.out hb);replace HB:=yam (below_step yhb hb);(try clear hb);obtain ⟨hcz9_0,hcz9_1,hcz9_2,hfz9_0,hfz9_1,hfz9_2⟩:=ybc BK387.out)|((with_reducible refine gate_dst (N:=12) rfl ?_);refine Kd.R_make (Kd.int .i64) _ 3 rfl (N:=12) rfl 22 _ _ rfl (l0_1.length:Int) rfl rfl Try.underlying22 (.int .i64 0) 8 info3 rfl (by decide) (by omega) 0 (ok:=fun _=>True) (okp:=fun _=>True) rfl (fun _ hk=>hk) trivial (ydt) (Nat.le_trans (Nat.mul_le_mul_right _ (ydt:(l0_1.length:Int).toNat≤35184372088832)) (by omega)) (Below.refl _ _) (Nat.le_refl _) ?_;intro v390 w10 ho11 hb hg_ hnew_;clear hg_ hnew_;(first|rw [← Ny389.out] at ho11|(simp only [Int.reduceToNat] at ho11;rw [← Ny389.out] at ho11));have HO391:=yam (Kd.R_lower ho11 (below_size yhb));replace BK387:=yam (ybb BK387.out hb);replace HB:=yam (below_step yhb hb);clear hb ho11;obtain ⟨hcz12_0,hcz12_1,hcz12_2,hfz12_0,hfz12_1,hfz12_2⟩:=ybc BK387.out))
 go_loopg [16] k (fun kq v16 w'=>∃ (x3_1:List Int) (x16_1:Int),v16= .int .i64 x16_1∧Aside0 (impl_StartMasks.l0 kq x3_1 l0_1 (l0_1.length:Int) x16_1 a0_0 l0_1 l0_2=some r)∧Aside0 (kq≤k)∧Aside0 (Kd.R (Kd.int .i64) 3 w' w.heap.size (fun _=>True) v390 x3_1)∧Aside0 (w'.heap[gb387]?=some (.cells #[.int .i64 a0_0,(.slice A0_1 l0_1.length c0_1),(.slice A0_2 l0_2.length c0_2)] 30 (0,0)))∧Aside0 (Below w.heap.size w w'))
 case atStart=>exact ⟨(y389),(0),yeq,H,⟨Nat.le_refl _⟩,⟨yka HO391.out⟩,⟨ybk BK387.out⟩,⟨yhb⟩⟩
 case round =>
  clear H
  try clear c4b0
  try clear c4b1
  try clear c5b0
  try clear c5b1
  try clear hcz12_0
  try clear hcz12_1
  try clear hcz12_2
  try clear hcz7_0
  try clear hcz7_1
  try clear hcz7_2
  try clear hcz9_0
  try clear hcz9_1
  try clear hcz9_2
  try clear hfz12_0
  try clear hfz12_1
  try clear hfz12_2
  try clear hfz7_0
  try clear hfz7_1
  try clear hfz7_2
  try clear hfz9_0
  try clear hfz9_1
  try clear hfz9_2
  obtain ⟨x3_1,x16_1,rfl,HA,HK1,HO_3,BK387,HB⟩:=hrel
  rcases gk with _|k1
  ·exact absurd HA.out (by simp [impl_StartMasks.l0])
  obtain ⟨H⟩:=HA
  simp only [impl_StartMasks.l0] at H
  replace H:=yis H;obtain ⟨c13b0,H⟩ | ⟨c13b0,H⟩:=H
  rotate_left
  ·obtain rfl:=ysi H
   go_wp2
   go_ret
   exact ⟨_,yer,yka HO_3.out,yhb⟩
  replace H:=yif H;obtain ⟨c14b0,H⟩:=H
  replace H:=yif H;obtain ⟨c15b0,H⟩:=H
  replace H:=ybi H;obtain ⟨t393,A16,H⟩:=H
  try dsimp only at H
  replace H:=yif H;obtain ⟨c17b0,H⟩:=H
  obtain ⟨y394,Ny394⟩:∃ y_:List Int,Aside0 (y_=(x3_1.set (x16_1:Int).toNat t393)):=⟨_,⟨rfl⟩⟩
  replace H:(if (rd l0_1 x16_1) > 0 then (if 0≤(rd l0_1 x16_1) then (impl_StartMasks.l0 k1 (y394.set (x16_1:Int).toNat (shl .i64 1 (rd l0_1 x16_1))) l0_1 (l0_1.length:Int) (wrap64 (x16_1 + 1)) a0_0 l0_1 l0_2) else (none)) else (impl_StartMasks.l0 k1 y394 l0_1 (l0_1.length:Int) (wrap64 (x16_1 + 1)) a0_0 l0_1 l0_2))=some r:=yhn Ny394.out H
  replace H:=yis H;obtain ⟨c19b0,H⟩ | ⟨c19b0,H⟩:=H
  rotate_left
  ·replace H:=yam H
   obtain ⟨ad392,e392,hx392_0,p392,q392⟩:=yat HR0_1.out x16_1
   cases e392
   replace hx392_0:=ybx HB.out hx392_0
   obtain ⟨hcz28_0,hcz28_1,hcz28_2,hfz28_0,hfz28_1,hfz28_2⟩:=ybc BK387.out
   go_wp2_with (first|(refine goesL_ (some 25) rfl rfl Try.func73 (by kernel_rfl) rfl #[.int .i64 a0_0] rfl ymd ?_;(with_reducible refine (impl_allValues.calls a0_0 t393 _ A16.out).mono ?_);rintro e w' ⟨rfl,⟨nd,rfl⟩⟩;refine ⟨_,rfl,?_⟩;(try (rw [drewN_self wr];generalize hq_:World.drewN wr _=wr;replace HO_3:Aside0 (Kd.R (Kd.int .i64) 3 wr w.heap.size (fun _=>True) v390 x3_1):=⟨by rw [← hq_];exact (Kd.Yz HO_3.out)⟩;replace BK387:Aside0 (wr.heap[gb387]?=some (.cells #[.int .i64 a0_0,.slice (some ad392) l0_1.length c0_1,.slice A0_2 l0_2.length c0_2] 30 (0,0))):=⟨by rw [← hq_];exact (ybz BK387.out)⟩;replace HB:Aside0 (Below w.heap.size w wr):=⟨by rw [← hq_];exact yhb⟩;clear hq_));have p18:0≤(x16_1:Int):=ydt;have q18:(x16_1:Int) < ((x3_1.length:Int):Int):=ydt;obtain ⟨go18,co18,eo18,gb18,gl18,cl18,HG18⟩:=Kd.R_form HO_3.out (by omega);(first|cases eo18|(injection eo18 with ea_ en_ ec_;(first|subst ea_|(injection ea_ with ea_;subst ea_));subst ec_;clear en_));have GB18:=yam gb18;have GG18:=yam HG18;clear gb18 gl18 HG18;obtain ⟨hx18_0,hf18_0⟩:=Kd.R_celln 0 HO_3.out (x16_1:Int) p18 q18;replace p18:=eq_true p18;replace q18:=eq_true q18;obtain ⟨hy29_,hz29_⟩:=Kd.R_celln 0 HO_3.out (x16_1:Int) (ydt) (ydt);have HP29:=Kd.R_putg HO_3.out (x16_1:Int) t393)|((with_reducible refine gate_store (t:=3) (p:=26) rfl ?_);refine store_event (t:=3) (p:=26) (v:=?vo_w30) (w1:=(wr.setCell ⟨go18,(x16_1:Int).toNat,none⟩ (.int .i64 t393))) ?hg ?ho ?hn ?hr ?_;(case ho=>rfl);(case hg=>rfl);(case hn=>rfl);(case hr=>first|(go_simp;done)|(go_simp;rfl));intro w30 hw;have hg:wr.grownBy w30 (some go18):=(by rw [hw];exact HP29.2);have hp_:Kd.R (Kd.int .i64) 3 w30 w.heap.size (fun _=>True) (.slice (some ⟨go18,0,none⟩) x3_1.length co18) y394:=(by rw [hw,Ny394.out];exact HP29.1);clear HP29;replace BK387:=yam (blk_grown (g:=gb387) (o:= .cells #[.int .i64 a0_0,.slice (some ad392) l0_1.length c0_1,.slice A0_2 l0_2.length c0_2] 30 (0,0)) (ybz BK387.out) hg (Kd.R_ne HO_3.out BK387.out (by decide)));replace HO_3:=yam (hp_);replace HB:=yam ((by rw [hw];exact below_set (HB.out) GB18.out:Below w.heap.size w w30));clear hg hw hp_))
   go_roundg k1
   case measure=>have:=HK1.out;omega
   case rel=>exact ⟨(y394),(wrap64 (x16_1 + 1)),yeq,H,⟨by have:=HK1.out;omega⟩,⟨yka HO_3.out⟩,⟨ybk BK387.out⟩,⟨yhb⟩⟩
  replace H:=yig H;obtain ⟨c20,H⟩:=H
  have c20b0:=eq_true c20
  have c20b1:decide (0≤(rd l0_1 x16_1))=true:=decide_eq_true c20
  clear c20
  obtain ⟨ji21,hji21⟩:∃ j_:Int,(shl .i64 1 (rd l0_1 x16_1))=j_:=⟨_,rfl⟩
  replace H:(impl_StartMasks.l0 k1 (y394.set (x16_1:Int).toNat (ji21)) l0_1 (l0_1.length:Int) (wrap64 (x16_1 + 1)) a0_0 l0_1 l0_2)=some r:=by first|(rw [hji21] at H;exact H)|(simp only [hji21] at H ⊢;exact H)
  (try rw [hji21] at A16)
  have hji21_:(IntKind.i64.wrap (1 * 2 ^ min (rd l0_1 x16_1).toNat 64))=ji21:=hji21
  have hji21z:(rd l0_1 x16_1)≤64→(IntKind.i64.wrap (1 * 2 ^ (rd l0_1 x16_1).toNat))=ji21:=shl_small hji21
  have hji21u:(IntKind.i64.wrap (2 ^ min (rd l0_1 x16_1).toNat 64))=ji21:=by have h_:=hji21_;rw [Int.one_mul] at h_;exact h_
  have hji21v:(rd l0_1 x16_1)≤64→(IntKind.i64.wrap (2 ^ (rd l0_1 x16_1).toNat))=ji21:=fun hle_=>by have h_:=hji21z hle_;rw [Int.one_mul] at h_;exact h_
  have hji21y:(wrap64 (1 * 2 ^ min (rd l0_1 x16_1).toNat 64))=ji21:=(i64_w _).symm.trans hji21_
  have hji21x:(rd l0_1 x16_1)≤64→(wrap64 (1 * 2 ^ (rd l0_1 x16_1).toNat))=ji21:=fun h_=>(i64_w _).symm.trans (hji21z h_)
  obtain ⟨y395,Ny395⟩:∃ y_:List Int,Aside0 (y_=(y394.set (x16_1:Int).toNat (ji21))):=⟨_,⟨rfl⟩⟩
  replace H:(impl_StartMasks.l0 k1 y395 l0_1 (l0_1.length:Int) (wrap64 (x16_1 + 1)) a0_0 l0_1 l0_2)=some r:=yhn Ny395.out H
  replace H:=yam H
  obtain ⟨ad392,e392,hx392_0,p392,q392⟩:=yat HR0_1.out x16_1
  cases e392
  replace hx392_0:=ybx HB.out hx392_0
  obtain ⟨hcz23_0,hcz23_1,hcz23_2,hfz23_0,hfz23_1,hfz23_2⟩:=ybc BK387.out
  go_wp2_with (first|(refine goesL_ (some 25) rfl rfl Try.func73 (by kernel_rfl) rfl #[.int .i64 a0_0] rfl ymd ?_;(with_reducible refine (impl_allValues.calls a0_0 t393 _ A16.out).mono ?_);rintro e w' ⟨rfl,⟨nd,rfl⟩⟩;refine ⟨_,rfl,?_⟩;(try (rw [drewN_self wr];generalize hq_:World.drewN wr _=wr;replace HO_3:Aside0 (Kd.R (Kd.int .i64) 3 wr w.heap.size (fun _=>True) v390 x3_1):=⟨by rw [← hq_];exact (Kd.Yz HO_3.out)⟩;replace BK387:Aside0 (wr.heap[gb387]?=some (.cells #[.int .i64 a0_0,.slice (some ad392) l0_1.length c0_1,.slice A0_2 l0_2.length c0_2] 30 (0,0))):=⟨by rw [← hq_];exact (ybz BK387.out)⟩;replace HB:Aside0 (Below w.heap.size w wr):=⟨by rw [← hq_];exact yhb⟩;clear hq_));have p18:0≤(x16_1:Int):=ydt;have q18:(x16_1:Int) < ((x3_1.length:Int):Int):=ydt;obtain ⟨go18,co18,eo18,gb18,gl18,cl18,HG18⟩:=Kd.R_form HO_3.out (by omega);(first|cases eo18|(injection eo18 with ea_ en_ ec_;(first|subst ea_|(injection ea_ with ea_;subst ea_));subst ec_;clear en_));have GB18:=yam gb18;have GG18:=yam HG18;clear gb18 gl18 HG18;obtain ⟨hx18_0,hf18_0⟩:=Kd.R_celln 0 HO_3.out (x16_1:Int) p18 q18;replace p18:=eq_true p18;replace q18:=eq_true q18;obtain ⟨hy24_,hz24_⟩:=Kd.R_celln 0 HO_3.out (x16_1:Int) (ydt) (ydt);have HP24:=Kd.R_putg HO_3.out (x16_1:Int) t393)|((with_reducible refine gate_store (t:=3) (p:=26) rfl ?_);refine store_event (t:=3) (p:=26) (v:=?vo_w25) (w1:=(wr.setCell ⟨go18,(x16_1:Int).toNat,none⟩ (.int .i64 t393))) ?hg ?ho ?hn ?hr ?_;(case ho=>rfl);(case hg=>rfl);(case hn=>rfl);(case hr=>first|(go_simp;done)|(go_simp;rfl));intro w25 hw;have hg:wr.grownBy w25 (some go18):=(by rw [hw];exact HP24.2);have hp_:Kd.R (Kd.int .i64) 3 w25 w.heap.size (fun _=>True) (.slice (some ⟨go18,0,none⟩) x3_1.length co18) y394:=(by rw [hw,Ny394.out];exact HP24.1);clear HP24;replace BK387:=yam (blk_grown (g:=gb387) (o:= .cells #[.int .i64 a0_0,.slice (some ad392) l0_1.length c0_1,.slice A0_2 l0_2.length c0_2] 30 (0,0)) (ybz BK387.out) hg (Kd.R_ne HO_3.out BK387.out (by decide)));replace HO_3:=yam (hp_);replace HB:=yam ((by rw [hw];exact below_set (HB.out) GB18.out:Below w.heap.size w w25));clear hg hw hp_;have p22:0≤(x16_1:Int):=ydt;have q22:(x16_1:Int) < ((x3_1.length:Int):Int):=ydt;obtain ⟨hx22_0,hf22_0⟩:=Kd.R_celln 0 HO_3.out (x16_1:Int) p22 q22;replace p22:=eq_true p22;replace q22:=eq_true q22;obtain ⟨hy26_,hz26_⟩:=Kd.R_celln 0 HO_3.out (x16_1:Int) (ydt) (ydt);have HP26:=Kd.R_putg HO_3.out (x16_1:Int) ji21)|((with_reducible refine gate_store (t:=3) (p:=33) rfl ?_);refine store_event (t:=3) (p:=33) (v:=?vo_w27) (w1:=(w25.setCell ⟨go18,(x16_1:Int).toNat,none⟩ (.int .i64 ji21))) ?hg ?ho ?hn ?hr ?_;(case ho=>rfl);(case hg=>rfl);(case hn=>rfl);(case hr=>first|(go_simp;done)|(go_simp;rfl));intro w27 hw;have hg:w25.grownBy w27 (some go18):=(by rw [hw];exact HP26.2);have hp_:Kd.R (Kd.int .i64) 3 w27 w.heap.size (fun _=>True) (.slice (some ⟨go18,0,none⟩) x3_1.length co18) y395:=(by rw [hw,Ny395.out];exact HP26.1);clear HP26;replace BK387:=yam (blk_grown (g:=gb387) (o:= .cells #[.int .i64 a0_0,.slice (some ad392) l0_1.length c0_1,.slice A0_2 l0_2.length c0_2] 30 (0,0)) (ybz BK387.out) hg (Kd.R_ne HO_3.out BK387.out (by decide)));replace HO_3:=yam (hp_);replace HB:=yam ((by rw [hw];exact below_set (HB.out) GB18.out:Below w.heap.size w w27));clear hg hw hp_))
  go_roundg k1
  case measure=>have:=HK1.out;omega
  case rel=>exact ⟨(y395),(wrap64 (x16_1 + 1)),yeq,H,⟨by have:=HK1.out;omega⟩,⟨yka HO_3.out⟩,⟨ybk BK387.out⟩,⟨yhb⟩⟩
mutual
def impl_MasksValid.j0:Nat→List Int→Int→Bool→Option (Bool)
 | 0,_,_,_=>none
 | k + 1,x0,x1,x17=>if x17=true then (some false) else (impl_MasksValid.l0 k x1 x0 (x0.length:Int) 0)
def impl_MasksValid.l0:Nat→Int→List Int→Int→Int→Option (Bool)
 | 0,_,_,_,_=>none
 | k + 1,x1,x18,x19,x20=>if x20 < x19 then (if 0≤x20 then (if x20 < (x18.length:Int) then (if (rd x18 x20) < 0 then (some false) else ((impl_allValues.f x1).bind fun t398=>(if (Go.bits .andNot .i64 (rd x18 x20) t398)=0 then (impl_MasksValid.l0 k x1 x18 x19 (wrap64 (x20 + 1))) else (some false)))) else (none)) else (none)) else (some true)
end
def impl_MasksValid.f (k:Nat)(l0:List Int)(a1:Int):Option (Bool):=(impl_sizeOk.f a1).bind fun t396=>(if t396=true then (impl_MasksValid.j0 k l0 a1 ((l0.length:Int) != (wrap64 (a1 * a1)))) else (impl_MasksValid.j0 k l0 a1 true))
theorem impl_MasksValid.calls (k:Nat)(A0:Option Addr)(c0:Nat)(l0:List Int)(a1:Int)(r:Bool)(w:World)(hr0:Kd.C (Kd.int .i64) w A0 l0.length l0)(hc0:l0.length≤c0)(h:impl_MasksValid.f k l0 a1=some r) :
  Calls Try.prog 63 #[.slice A0 l0.length c0,.int .i64 a1] w fun e w'=>e= .returned (.bool r)∧Drawn0 w w':=by
 have HR0:=yam hr0
 have HC0:=yam hc0
 clear hr0 hc0
 unfold impl_MasksValid.f at h
 have H:=h
 clear h
 have HC3:=yam H
 clear H
 go_enter Try.func63,Try.ntmps63
 go_upto_region 1 with (fail)
 go_cut [17] (fun v17 wc=>∃ (kq:Nat) (x17_2:Bool),v17= .bool x17_2∧Aside0 (impl_MasksValid.j0 kq l0 a1 x17_2=some r)∧Aside0 (kq≤k)∧Drawn0 w wc)
 case first =>
  have H:=HC3.out
  clear HC3
  replace H:=ybi H;obtain ⟨t396,A4,H⟩:=H
  try dsimp only at H
  cases t396
  rotate_left
  ·replace H:=ytt H
   replace H:=yam H
   go_wp2_with (first|(refine goesL_ (some 8) rfl rfl Try.func84 (by kernel_rfl) rfl #[.int .i64 a1] rfl ymd ?_;(with_reducible refine (impl_sizeOk.calls a1 true _ A4.out).mono ?_);rintro e w' ⟨rfl,⟨nd,rfl⟩⟩;refine ⟨_,rfl,?_⟩))
   go_meet
   case rel=>exact ⟨_,(((l0.length:Int) != (wrap64 (a1 * a1)))),yeq,H,⟨by first|omega|exact Nat.le_refl _⟩,by repeat (first|exact Drawn0.refl _|apply Drawn0.step)⟩
  replace H:=yff H
  replace H:=yam H
  go_wp2_with (first|(refine goesL_ (some 8) rfl rfl Try.func84 (by kernel_rfl) rfl #[.int .i64 a1] rfl ymd ?_;(with_reducible refine (impl_sizeOk.calls a1 false _ A4.out).mono ?_);rintro e w' ⟨rfl,⟨nd,rfl⟩⟩;refine ⟨_,rfl,?_⟩))
  go_meet
  case rel=>exact ⟨_,(true),yeq,H,⟨by first|omega|exact Nat.le_refl _⟩,by repeat (first|exact Drawn0.refl _|apply Drawn0.step)⟩
 case rest =>
  clear HC3
  obtain ⟨kq,x17_2,rfl,HA,HJ2,⟨mc2,rfl⟩⟩:=hcut
  rcases kq with _|kj2
  ·exact absurd HA.out (by simp [impl_MasksValid.j0])
  obtain ⟨H⟩:=HA
  simp only [impl_MasksValid.j0] at H
  cases x17_2
  rotate_left
  ·replace H:=ytt H
   obtain rfl:=ysi H
   go_wp2
   go_ret
   exact ⟨yeq,by repeat (first|exact Drawn0.refl _|apply Drawn0.step)⟩
  replace H:=yff H
  replace H:=yam H
  go_wp2
  go_loopg [20] kj2 (fun kq v20 w'=>∃ (x20_2:Int),v20= .int .i64 x20_2∧Aside0 (impl_MasksValid.l0 kq a1 l0 (l0.length:Int) x20_2=some r)∧Aside0 (kq≤kj2)∧Drawn0 w w')
  case atStart=>exact ⟨(0),yeq,H,⟨Nat.le_refl _⟩,by repeat (first|exact Drawn0.refl _|apply Drawn0.step)⟩
  case round =>
   clear H
   obtain ⟨x20_2,rfl,HA,HK2,⟨m2,rfl⟩⟩:=hrel
   rcases gk with _|k2
   ·exact absurd HA.out (by simp [impl_MasksValid.l0])
   obtain ⟨H⟩:=HA
   simp only [impl_MasksValid.l0] at H
   replace H:=yis H;obtain ⟨c7b0,H⟩ | ⟨c7b0,H⟩:=H
   rotate_left
   ·obtain rfl:=ysi H
    go_wp2
    go_ret
    exact ⟨yeq,by repeat (first|exact Drawn0.refl _|apply Drawn0.step)⟩
   replace H:=yif H;obtain ⟨c8b0,H⟩:=H
   replace H:=yif H;obtain ⟨c9b0,H⟩:=H
   replace H:=yis H;obtain ⟨c10b0,H⟩ | ⟨c10b0,H⟩:=H
   ·obtain rfl:=ysi H
    obtain ⟨ad397,e397,hx397_0,p397,q397⟩:=yat HR0.out x20_2
    cases e397
    go_wp2
    go_ret
    exact ⟨yeq,by repeat (first|exact Drawn0.refl _|apply Drawn0.step)⟩
   replace H:=ybi H;obtain ⟨t398,A11,H⟩:=H
   try dsimp only at H
   replace H:=yit H;obtain ⟨c12,H⟩ | ⟨c12,H⟩:=H
   rotate_left
   ·have c12b0:((Go.bits .andNot .i64 (rd l0 x20_2) t398) == 0)=false:=beq_eq_false_iff_ne.mpr c12
    have c12b1:((Go.bits .andNot .i64 (rd l0 x20_2) t398) != 0)=true:=bne_iff_ne.mpr c12
    obtain rfl:=ysi H
    obtain ⟨ad397,e397,hx397_0,p397,q397⟩:=yat HR0.out x20_2
    cases e397
    go_wp2_with (first|(go_at_call 73;(with_reducible refine (impl_allValues.calls a1 t398 _ A11.out).mono ?_);rintro e w' ⟨rfl,⟨nd,rfl⟩⟩))
    go_ret
    exact ⟨yeq,by repeat (first|exact Drawn0.refl _|apply Drawn0.step)⟩
   have c12b0:((Go.bits .andNot .i64 (rd l0 x20_2) t398) == 0)=true:=beq_iff_eq.mpr c12
   have c12b1:((Go.bits .andNot .i64 (rd l0 x20_2) t398) != 0)=false:=bne_eq_false_iff_eq.mpr c12
   clear c12
   replace H:=yam H
   obtain ⟨ad397,e397,hx397_0,p397,q397⟩:=yat HR0.out x20_2
   cases e397
   go_wp2_with (first|(go_at_call 73;(with_reducible refine (impl_allValues.calls a1 t398 _ A11.out).mono ?_);rintro e w' ⟨rfl,⟨nd,rfl⟩⟩))
   go_roundg k2
   case measure=>have:=HJ2.out;have:=HK2.out;omega
   case rel=>exact ⟨(wrap64 (x20_2 + 1)),yeq,H,⟨by have:=HJ2.out;have:=HK2.out;omega⟩,by repeat (first|exact Drawn0.refl _|apply Drawn0.step)⟩
def slices_Clone_int_int.f (l0:List Int):Option (List Int):=if l0.length < 17592186044416 then some l0 else none
theorem slices_Clone_int_int.calls (A0:Option Addr)(c0:Nat)(l0:List Int)(r:List Int)(w:World)(hr0:Kd.C (Kd.int .i64) w A0 l0.length l0)(hc0:l0.length≤c0)(h:slices_Clone_int_int.f l0=some r) :
  Calls Try.prog 64 #[.slice A0 l0.length c0] w fun e w'=>∃ v0_:Value,e= .returned (v0_)∧Kd.R (Kd.int .i64) 3 w' w.heap.size (fun _=>True) v0_ r∧Below w.heap.size w w':=by
 have hcl:l0=r∧l0.length < 17592186044416:=by
  unfold slices_Clone_int_int.f at h
  by_cases hc:l0.length < 17592186044416
  ·rw [if_pos hc] at h;exact ⟨Option.some.inj h,hc⟩
  ·rw [if_neg hc] at h;exact absurd h (by simp)
 clear h
 obtain ⟨rfl,hlim⟩:=hcl
 have HR0:=yam hr0
 have HC0:=yam hc0
 have HLM:=yam hlim
 clear hr0 hc0 hlim
 have HB:=yam (Below.refl w.heap.size w)
 have hnil:=fun (W:World) (A:Option Addr) (n c:Nat)=>Lib.run_eql_slice_nil (P:=Try.prog) W 22 3 A n c 0 0 Try.underlying22
 cases A0 with
 | none =>
  have hl:l0=[]:=by
   cases l0 with
   | nil=>rfl
   | cons x t =>
    obtain ⟨ad,e,_⟩:=Kd.at_int HR0.out 0 (by decide) (by simp only [List.length_cons];omega)
    cases e
  subst hl
  go_enter Try.func64,Try.ntmps64
  go_wp2
  go_ret
  exact ⟨.slice none 0 0,rfl,Kd.R_nil _ _ _ _ _,Below.refl _ _⟩
 | some ad =>
  obtain ⟨y361,hy361⟩:∃ y_:List Int,y_=(([]:List Int)):=⟨_,rfl⟩
  have Ny361:=yam hy361
  clear hy361
  go_enter Try.func64,Try.ntmps64
  go_wp2_with (first|((with_reducible refine gate_dst (N:=5) rfl ?_);refine Kd.R_lit (Kd.int .i64) _ 3 ?hg (N:=5) ?hd (xs:=([]:List Int)) (inner:=[]) (ok:=fun _=>True) (okp:=fun _=>True) ?hr ?hp (fun _ hk=>hk) trivial (Below.refl _ _) (Nat.le_refl _) (by simp) ?_;(case hd=>rfl);(case hg=>rfl);(case hr=>first|(go_simp;done)|(go_simp;rfl));(case hp=>exact (Reps.none _ _));intro v362 w3 ho4 hb hg_ hnew_;clear hg_ hnew_;rw [← Ny361.out] at ho4;have HO363:=yam (Kd.R_lower ho4 (below_size (by repeat (first|(with_reducible first|exact HB.out|apply below_alloc|apply pw_below_drewN|apply below_drew1)|exact HB.out))));replace HB:=yam (below_step (by repeat (first|(with_reducible first|exact HB.out|apply below_alloc|apply pw_below_drewN|apply below_drew1)|exact HB.out)) hb);clear hb ho4)|((with_reducible refine gate_builtin (b:= .append) (xs:= #[.tmp 5,.tmp 6]) rfl ?_);at_builtin;refine Kd.R_append_rows (Kd.int .i64) (w0:=w) w.heap.size rfl (.tmp 5) (.tmp 6) 22 3 (.int .i64 0) 8 rfl Try.underlying22 info3 rfl (by decide) (by omega) v362 y361 l0 _ _ _ (fun _=>True) (fun _=>False) rfl rfl ?aO ?aR (fun _ _ h=>h) (fun _ h=>h.elim) ?aF ?aB ?aS ?aL ?_;(case aR=>repeat (first|exact (Kd.C_below HR0.out HB.out)|(with_reducible refine Kd.C_alloc ?_ _)|(with_reducible refine Kd.C_drewN ?_ _)|(with_reducible refine Kd.C_drew ?_)));(case aB=>exact (by repeat (first|(with_reducible first|exact HB.out|apply below_alloc|apply pw_below_drewN|apply below_drew1)|exact HB.out)));(case aF=>exact (fun _ _=>trivial));(case aO=>exact (by (with_reducible repeat (first|apply Kd.R_alloc|apply Kd.R_drewN|apply Kd.R_drew));exact HO363.out));(case aS=>exact (below_size (by repeat (first|(with_reducible first|exact HB.out|apply below_alloc|apply pw_below_drewN|apply below_drew1)|exact HB.out))));(case aL=>have:=HLM.out;rw [Ny361.out];simp only [List.length_nil];omega);intro v365 w5 ho hb hg hat;rw [Ny361.out,List.nil_append] at ho;replace HB:=yam (hb);have HO366:=yam (ho);clear HO363;clear ho hb hg hat))
  go_ret
  exact ⟨_,rfl,by (with_reducible repeat (first|apply Kd.R_alloc|apply Kd.R_drewN|apply Kd.R_drew));exact HO366.out,by repeat (first|(with_reducible first|exact HB.out|apply below_alloc|apply pw_below_drewN|apply below_drew1)|exact HB.out)⟩
def impl_onlyValue.l0:Nat→Int→Int→Option (Int)
 | 0,_,_=>none
 | k + 1,x0,x3=>if x3≤4 then (if 0≤x3 then (if x0=(shl .i64 1 x3) then (some x3) else (impl_onlyValue.l0 k x0 (wrap64 (x3 + 1)))) else (none)) else (some 0)
def impl_onlyValue.f (k:Nat)(a0:Int):Option (Int):=impl_onlyValue.l0 k a0 1
theorem impl_onlyValue.mono_l:∀ k,(∀ y0 y1,LeO (impl_onlyValue.l0 k y0 y1) (impl_onlyValue.l0 (k + 1) y0 y1))
 | 0=>fun _ _ r h=>by simp [impl_onlyValue.l0] at h
 | k + 1=>by
  have ih0:=impl_onlyValue.mono_l k
  ·intro y0 y1
   unfold impl_onlyValue.l0
   repeat' first
   | (with_reducible exact ih0 _ _)
   | (with_reducible exact LeO.refl _)
   | (with_reducible exact LeO.none _)
   | (with_reducible refine LeO.ite ?_ ?_)
   | (with_reducible refine LeO.bind ?_ (fun _=>?_))
   | exact ih0 _ _
   | exact LeO.none _
   | refine LeO.ite ?_ ?_
   | refine LeO.bind ?_ (fun _=>?_)
theorem impl_onlyValue.mono:∀ a0 k,LeO (impl_onlyValue.f k a0) (impl_onlyValue.f (k + 1) a0):=by
 intro a0 k
 have ih0:=impl_onlyValue.mono_l k
 unfold impl_onlyValue.f
 repeat' first
   | (with_reducible exact ih0 _ _)
   | (with_reducible exact LeO.refl _)
   | (with_reducible exact LeO.none _)
   | (with_reducible refine LeO.ite ?_ ?_)
   | (with_reducible refine LeO.bind ?_ (fun _=>?_))
   | exact ih0 _ _
   | exact LeO.none _
   | refine LeO.ite ?_ ?_
   | refine LeO.bind ?_ (fun _=>?_)
theorem impl_onlyValue.calls (k:Nat)(a0:Int)(r:Int)(w:World)(h:impl_onlyValue.f k a0=some r) :
  Calls Try.prog 79 #[.int .i64 a0] w fun e w'=>e= .returned (.int .i64 r)∧Drawn0 w w':=by
 unfold impl_onlyValue.f at h
 have H:=h
 clear h
 replace H:=yam H
 go_enter Try.func79,Try.ntmps79
 go_wp2
 go_loopg [3] k (fun kq v3 w'=>∃ (x3_1:Int),v3= .int .i64 x3_1∧Aside0 (impl_onlyValue.l0 kq a0 x3_1=some r)∧Aside0 (kq≤k)∧Drawn0 w w')
 case atStart=>exact ⟨(1),yeq,H,⟨Nat.le_refl _⟩,by repeat (first|exact Drawn0.refl _|apply Drawn0.step)⟩
 case round =>
  clear H
  obtain ⟨x3_1,rfl,HA,HK1,⟨m1,rfl⟩⟩:=hrel
  rcases gk with _|k1
  ·exact absurd HA.out (by simp [impl_onlyValue.l0])
  obtain ⟨H⟩:=HA
  simp only [impl_onlyValue.l0] at H
  replace H:=yis H;obtain ⟨c2b0,H⟩ | ⟨c2b0,H⟩:=H
  rotate_left
  ·obtain rfl:=ysi H
   go_wp2
   go_ret
   exact ⟨yeq,by repeat (first|exact Drawn0.refl _|apply Drawn0.step)⟩
  replace H:=yig H;obtain ⟨c3,H⟩:=H
  have c3b0:=eq_true c3
  have c3b1:decide (0≤x3_1)=true:=decide_eq_true c3
  clear c3
  obtain ⟨ji4,hji4⟩:∃ j_:Int,(shl .i64 1 x3_1)=j_:=⟨_,rfl⟩
  replace H:(if a0=(ji4) then (some x3_1) else (impl_onlyValue.l0 k1 a0 (wrap64 (x3_1 + 1))))=some r:=by first|(rw [hji4] at H;exact H)|(simp only [hji4] at H ⊢;exact H)
  have hji4_:(IntKind.i64.wrap (1 * 2 ^ min x3_1.toNat 64))=ji4:=hji4
  have hji4z:x3_1≤64→(IntKind.i64.wrap (1 * 2 ^ x3_1.toNat))=ji4:=shl_small hji4
  have hji4u:(IntKind.i64.wrap (2 ^ min x3_1.toNat 64))=ji4:=by have h_:=hji4_;rw [Int.one_mul] at h_;exact h_
  have hji4v:x3_1≤64→(IntKind.i64.wrap (2 ^ x3_1.toNat))=ji4:=fun hle_=>by have h_:=hji4z hle_;rw [Int.one_mul] at h_;exact h_
  have hji4y:(wrap64 (1 * 2 ^ min x3_1.toNat 64))=ji4:=(i64_w _).symm.trans hji4_
  have hji4x:x3_1≤64→(wrap64 (1 * 2 ^ x3_1.toNat))=ji4:=fun h_=>(i64_w _).symm.trans (hji4z h_)
  replace H:=yit H;obtain ⟨c5,H⟩ | ⟨c5,H⟩:=H
  ·have c5b0:(a0 == (ji4))=true:=beq_iff_eq.mpr c5
   have c5b1:(a0 != (ji4))=false:=bne_eq_false_iff_eq.mpr c5
   clear c5
   obtain rfl:=ysi H
   go_wp2
   go_ret
   exact ⟨by first|rfl|(simp;done)|(simp only [← hji4] <;> (first|rfl|simp))|(simp [*];done),by repeat (first|exact Drawn0.refl _|apply Drawn0.step)⟩
  have c5b0:(a0 == (ji4))=false:=beq_eq_false_iff_ne.mpr c5
  have c5b1:(a0 != (ji4))=true:=bne_iff_ne.mpr c5
  replace H:=yam H
  go_wp2
  go_roundg k1
  case measure=>have:=HK1.out;omega
  case rel=>exact ⟨(wrap64 (x3_1 + 1)),yeq,H,⟨by have:=HK1.out;omega⟩,by repeat (first|exact Drawn0.refl _|apply Drawn0.step)⟩
mutual
def impl_NarrowSingles.l0:Nat→Int→List Int→List Int→Int→Int→Option (List Int)
 | 0,_,_,_,_,_=>none
 | k + 1,x1,x5,x17,x18,x19=>if x19 < x18 then (if 0≤x19 then (if x19 < (x17.length:Int) then ((impl_onlyValue.f k (rd x17 x19)).bind fun t404=>(if t404=0 then (impl_NarrowSingles.l0 k x1 x5 x17 x18 (wrap64 (x19 + 1))) else (impl_NarrowSingles.l1 k x1 x5 x19 (rd x17 x19) x17 x18 x19 x1 0))) else (none)) else (none)) else (some x5)
def impl_NarrowSingles.l1:Nat→Int→List Int→Int→Int→List Int→Int→Int→Int→Int→Option (List Int)
 | 0,_,_,_,_,_,_,_,_,_=>none
 | k + 1,x1,x5,x6,x7,x17,x18,x19,x27,x28=>if x28 < x27 then (if x1=0 then (none) else ((some (([wrap64 ((wrap64 ((wrap64 (Int.tdiv x6 x1)) * x1)) + x28),wrap64 ((wrap64 (x28 * x1)) + (Int.tmod x6 x1))]:List Int):List Int)).bind fun y405=>(impl_NarrowSingles.l2 k x1 x5 x6 x7 x17 x18 x19 x27 x28 y405 (y405.length:Int) 0))) else (impl_NarrowSingles.l0 k x1 x5 x17 x18 (wrap64 (x19 + 1)))
def impl_NarrowSingles.l2:Nat→Int→List Int→Int→Int→List Int→Int→Int→Int→Int→List Int→Int→Int→Option (List Int)
 | 0,_,_,_,_,_,_,_,_,_,_,_,_=>none
 | k + 1,x1,x5,x6,x7,x17,x18,x19,x27,x28,x45,x46,x47=>if x47 < x46 then (if 0≤x47 then (if x47 < (x45.length:Int) then (if (rd x45 x47)=x6 then (impl_NarrowSingles.l2 k x1 x5 x6 x7 x17 x18 x19 x27 x28 x45 x46 (wrap64 (x47 + 1))) else (if 0≤(rd x45 x47) then (if (rd x45 x47) < (x5.length:Int) then (impl_NarrowSingles.l2 k x1 (x5.set ((rd x45 x47):Int).toNat (Go.bits .andNot .i64 (rd x5 (rd x45 x47)) x7)) x6 x7 x17 x18 x19 x27 x28 x45 x46 (wrap64 (x47 + 1))) else (none)) else (none))) else (none)) else (none)) else (impl_NarrowSingles.l1 k x1 x5 x6 x7 x17 x18 x19 x27 (wrap64 (x28 + 1)))
end
def impl_NarrowSingles.f (k:Nat)(l0:List Int)(a1:Int):Option (List Int):=(impl_MasksValid.f k l0 a1).bind fun t399=>(if t399=true then ((slices_Clone_int_int.f l0).bind fun t400=>(impl_NarrowSingles.l0 k a1 t400 l0 (l0.length:Int) 0)) else (some ([]:List Int)))
def impl_NarrowSingles.T11:Bool × List (List Nat × List Nat):=(true,[([],[]),([],[]),([0,1],[0,1]),([],[]),([2,3],[2,3]),([],[]),([4,5],[4,5]),([],[]),([],[]),([7,8],[7,8]),([],[]),([],[]),([10,11],[10,11]),([9,12],[9,12]),([6,13],[6,13]),([14],[14]),([],[])])
def impl_NarrowSingles.B11:List Nat:=[0,0,3,0,15,0,63,0,0,384,0,0,3072,8064,16383,32767,0]
theorem impl_NarrowSingles.tab11:rtab .any (opsOf Try.f58 11)=impl_NarrowSingles.T11:=by kernel_rfl
theorem impl_NarrowSingles.bits11:waitsOk impl_NarrowSingles.T11.2 impl_NarrowSingles.B11=true:=by kernel_rfl
theorem impl_NarrowSingles.calls (k:Nat)(A0:Option Addr)(c0:Nat)(l0:List Int)(a1:Int)(r:List Int)(w:World)(hr0:Kd.C (Kd.int .i64) w A0 l0.length l0)(hc0:l0.length≤c0)(h:impl_NarrowSingles.f k l0 a1=some r) :
  Calls Try.prog 58 #[.slice A0 l0.length c0,.int .i64 a1] w fun e w'=>∃ v0_:Value,e= .returned (v0_)∧Kd.R (Kd.int .i64) 3 w' w.heap.size (fun _=>True) v0_ r∧Below w.heap.size w w':=by
 have HR0:=yam hr0
 have HC0:=yam hc0
 clear hr0 hc0
 have HB:=yam (Below.refl w.heap.size w)
 unfold impl_NarrowSingles.f at h
 have H:=h
 clear h
 replace H:=ybi H;obtain ⟨t399,A3,H⟩:=H
 try dsimp only at H
 cases t399
 ·replace H:=yff H
  obtain rfl:=ysi H
  go_enter Try.func58,Try.ntmps58
  go_wp2_with (first|(refine goesL_ (some 13) rfl rfl Try.func63 (by kernel_rfl) rfl #[.slice A0 l0.length c0,.int .i64 a1] rfl ymd ?_;(with_reducible refine (impl_MasksValid.calls k _ _ l0 a1 false _ ?_ ?_ A3.out).mono ?_);exact Kd.Cz (HR0.out);exact HC0.out;rintro e w' ⟨rfl,⟨nd,rfl⟩⟩;refine ⟨_,rfl,?_⟩))
  go_ret
  exact ⟨_,yer,by first|exact Kd.R_nil _ _ _ _ _|exact Kd.N_nil _ _ _ _ _|exact Kd.V_nil _ _ _ _ _|exact Kd.Q_nil _ _ _ _ _|exact Kd.S_nil _ _ _ _ _,yhb⟩
 replace H:=ytt H
 replace H:=ybi H;obtain ⟨t400,A5,H⟩:=H
 try dsimp only at H
 replace H:=yam H
 go_enter Try.func58,Try.ntmps58
 go_wp2_with (first|(refine goesL_ (some 13) rfl rfl Try.func63 (by kernel_rfl) rfl #[.slice A0 l0.length c0,.int .i64 a1] rfl ymd ?_;(with_reducible refine (impl_MasksValid.calls k _ _ l0 a1 true _ ?_ ?_ A3.out).mono ?_);exact Kd.Cz (HR0.out);exact HC0.out;rintro e w' ⟨rfl,⟨nd,rfl⟩⟩;refine ⟨_,rfl,?_⟩)|(refine goesL_ (some 16) rfl rfl Try.func64 (by kernel_rfl) rfl #[.slice A0 l0.length c0] rfl ymd ?_;(with_reducible refine (slices_Clone_int_int.calls _ _ l0 t400 _ ?_ ?_ A5.out).mono ?_);exact Kd.Cz (HR0.out);exact HC0.out;rintro e w6 ⟨v401,rfl,ho0,hb⟩;refine ⟨_,rfl,?_⟩;have HO402:=yam (Kd.R_lower ho0 (below_size (yez HB.out)));replace HB:=yam (below_step (yez HB.out) hb);(try clear hb);(try clear ho0)))
 go_loopg [19] k (fun kq v19 w'=>∃ (x5_1:List Int) (x19_1:Int),v19= .int .i64 x19_1∧Aside0 (impl_NarrowSingles.l0 kq a1 x5_1 l0 (l0.length:Int) x19_1=some r)∧Aside0 (kq≤k)∧Aside0 (Kd.R (Kd.int .i64) 3 w' w.heap.size (fun _=>True) v401 x5_1)∧Aside0 (Below w.heap.size w w'))
 case atStart=>exact ⟨(t400),(0),yeq,H,⟨Nat.le_refl _⟩,⟨yka HO402.out⟩,⟨yhb⟩⟩
 case round =>
  clear H
  obtain ⟨x5_1,x19_1,rfl,HA,HK1,HO_5,HB⟩:=hrel
  rcases gk with _|k1
  ·exact absurd HA.out (by simp [impl_NarrowSingles.l0])
  obtain ⟨H⟩:=HA
  simp only [impl_NarrowSingles.l0] at H
  replace H:=yis H;obtain ⟨c7b0,H⟩ | ⟨c7b0,H⟩:=H
  rotate_left
  ·obtain rfl:=ysi H
   go_wp2
   go_ret
   exact ⟨_,yer,yka HO_5.out,yhb⟩
  replace H:=yif H;obtain ⟨c8b0,H⟩:=H
  replace H:=yif H;obtain ⟨c9b0,H⟩:=H
  replace H:=ybi H;obtain ⟨t404,A10,H⟩:=H
  try dsimp only at H
  replace H:=yit H;obtain ⟨c11,H⟩ | ⟨c11,H⟩:=H
  ·have c11b0:(t404 == 0)=true:=beq_iff_eq.mpr c11
   have c11b1:(t404 != 0)=false:=bne_eq_false_iff_eq.mpr c11
   clear c11
   replace H:=yam H
   obtain ⟨ad403,e403,hx403_0,p403,q403⟩:=yat HR0.out x19_1
   cases e403
   replace hx403_0:=ybx HB.out hx403_0
   go_wp2_with (first|(refine goesL_ (some 25) rfl rfl Try.func79 (by kernel_rfl) rfl #[.int .i64 (rd l0 x19_1)] rfl ymd ?_;(with_reducible refine (impl_onlyValue.calls k1 (rd l0 x19_1) t404 _ A10.out).mono ?_);rintro e w' ⟨rfl,⟨nd,rfl⟩⟩;refine ⟨_,rfl,?_⟩))
   go_roundg k1
   case measure=>have:=HK1.out;omega
   case rel=>exact ⟨(x5_1),(wrap64 (x19_1 + 1)),yeq,H,⟨by have:=HK1.out;omega⟩,⟨yka HO_5.out⟩,⟨yhb⟩⟩
  have c11b0:(t404 == 0)=false:=beq_eq_false_iff_ne.mpr c11
  have c11b1:(t404 != 0)=true:=bne_iff_ne.mpr c11
  replace H:=yam H
  obtain ⟨ad403,e403,hx403_0,p403,q403⟩:=yat HR0.out x19_1
  cases e403
  replace hx403_0:=ybx HB.out hx403_0
  go_wp2_with (first|(refine goesL_ (some 25) rfl rfl Try.func79 (by kernel_rfl) rfl #[.int .i64 (rd l0 x19_1)] rfl ymd ?_;(with_reducible refine (impl_onlyValue.calls k1 (rd l0 x19_1) t404 _ A10.out).mono ?_);rintro e w' ⟨rfl,⟨nd,rfl⟩⟩;refine ⟨_,rfl,?_⟩))
  go_loopg [28] k1 (fun kq v28 w'=>∃ (x5_2:List Int) (x28_2:Int),v28= .int .i64 x28_2∧Aside0 (impl_NarrowSingles.l1 kq a1 x5_2 x19_1 (rd l0 x19_1) l0 (l0.length:Int) x19_1 a1 x28_2=some r)∧Aside0 (kq≤k1)∧Aside0 (Kd.R (Kd.int .i64) 3 w' w.heap.size (fun _=>True) v401 x5_2)∧Aside0 (Below w.heap.size w w'))
  case atStart=>exact ⟨(x5_1),(0),yeq,H,⟨Nat.le_refl _⟩,⟨yka HO_5.out⟩,⟨yhb⟩⟩
  case round =>
   clear H
   try clear c7b0
   try clear c8b0
   try clear c9b0
   try clear c11
   try clear c11b0
   try clear c11b1
   try clear hx403_0
   try clear p403
   try clear q403
   obtain ⟨x5_2,x28_2,rfl,HA,HK2,HO_5,HB⟩:=hrel
   rcases gk with _|k2
   ·exact absurd HA.out (by simp [impl_NarrowSingles.l1])
   obtain ⟨H⟩:=HA
   simp only [impl_NarrowSingles.l1] at H
   replace H:=yis H;obtain ⟨c12b0,H⟩ | ⟨c12b0,H⟩:=H
   rotate_left
   ·replace H:=yam H
    go_wp2
    go_roundg k2
    case measure=>have:=HK1.out;have:=HK2.out;omega
    case rel=>exact ⟨(x5_2),(wrap64 (x19_1 + 1)),yeq,H,⟨by have:=HK1.out;have:=HK2.out;omega⟩,⟨yka HO_5.out⟩,⟨yhb⟩⟩
   replace H:=yit H;obtain ⟨c13,H⟩ | ⟨c13,H⟩:=H
   ·exact absurd H (by simp)
   have c13b0:(a1 == 0)=false:=beq_eq_false_iff_ne.mpr c13
   have c13b1:(a1 != 0)=true:=bne_iff_ne.mpr c13
   obtain ⟨y405,Ny405⟩:∃ y_:List Int,Aside0 (y_=(([wrap64 ((wrap64 ((wrap64 (Int.tdiv x19_1 a1)) * a1)) + x28_2),wrap64 ((wrap64 (x28_2 * a1)) + (Int.tmod x19_1 a1))]:List Int))):=⟨_,⟨rfl⟩⟩
   replace H:(impl_NarrowSingles.l2 k2 a1 x5_2 x19_1 (rd l0 x19_1) l0 (l0.length:Int) x19_1 a1 x28_2 y405 (y405.length:Int) 0)=some r:=yhn Ny405.out H
   replace H:=yam H
   try go_wp2
   replace HO_5:=yam (Kd.Yd HO_5.out)
   replace HB:=yam (yed HB.out)
   refine start_ (n:=17) (S:=fun w'=>True) (ds:=[]) (yvb 17 0) (by kernel_rfl) rfl rfl trivial (fun hHeld=>?_);refine with_tabW impl_NarrowSingles.tab11 impl_NarrowSingles.bits11 (fun HT_ HW_=>?_)
   generalize wr.drew=w14 at HO_5 HB hHeld ⊢
   refine yvp 0 31 (yvb 17 1) HT_.out ?_
   refine yvp 1 32 (yvb 17 3) HT_.out ?_
   refine yvp 2 33 (yvb 17 7) HT_.out ?_
   refine yvp 3 34 (yvb 17 15) HT_.out ?_
   refine yvp 4 35 (yvb 17 31) HT_.out ?_
   refine yvp 5 36 (yvb 17 63) HT_.out ?_
   refine yvp 6 37 (yvb 17 127) HT_.out ?_
   refine yvp 7 38 (yvb 17 255) HT_.out ?_
   refine yvp 8 39 (yvb 17 511) HT_.out ?_
   refine yvp 9 40 (yvb 17 1023) HT_.out ?_
   refine yvp 10 41 (yvb 17 2047) HT_.out ?_
   refine yvp 11 42 (yvb 17 4095) HT_.out ?_
   refine yvp 12 43 (yvb 17 8191) HT_.out ?_
   refine yvp 13 44 (yvb 17 16383) HT_.out ?_
   refine yvp 16 47 (yvb 17 81919) HT_.out ?_
   refine one_ (i:=14) (N:=some 45) (yvb 17 98303) rfl rfl (one_of HT_.out (by kernel_rfl)) (by decide) (fun K hK=>?_)
   refine Kd.R_lit_step (Kd.int .i64) _ 3 ?hg (N:=45) ?hd (xs:=([wrap64 ((wrap64 ((wrap64 (Int.tdiv x19_1 a1)) * a1)) + x28_2),wrap64 ((wrap64 (x28_2 * a1)) + (Int.tmod x19_1 a1))]:List Int)) (inner:=[.int .i64 (wrap64 ((wrap64 ((wrap64 (Int.tdiv x19_1 a1)) * a1)) + x28_2)),.int .i64 (wrap64 ((wrap64 (x28_2 * a1)) + (Int.tmod x19_1 a1)))]) (ok:=fun _=>True) (okp:=fun _=>True) ?hr ?hp (fun _ hk=>hk) trivial (Below.refl _ _) (Nat.le_refl _) (by simp) ?_;(case hd=>rfl);(case hg=>rfl);(case hr=>first|(go_simp;done)|(go_simp;rfl));(case hp=>exact (Reps.one (show Kd.M (Kd.int .i64) _ _ _ (wrap64 ((wrap64 ((wrap64 (Int.tdiv x19_1 a1)) * a1)) + x28_2)) [.int .i64 (wrap64 ((wrap64 ((wrap64 (Int.tdiv x19_1 a1)) * a1)) + x28_2))] from rfl) (Reps.one (show Kd.M (Kd.int .i64) _ _ _ (wrap64 ((wrap64 (x28_2 * a1)) + (Int.tmod x19_1 a1))) [.int .i64 (wrap64 ((wrap64 (x28_2 * a1)) + (Int.tmod x19_1 a1)))] from rfl) (Reps.none _ _))))
   intro v406 w15 ho16 hb hg_ hnew_
   clear hg_ hnew_
   (first|rw [← Ny405.out] at ho16|(simp only [Int.reduceToNat] at ho16;rw [← Ny405.out] at ho16))
   have HO407:=yam (Kd.R_lower (Kd.Yw ho16 (Kd.R_lt (Kd.Yz HO_5.out))) (below_size (yez HB.out)))
   replace HO_5:=yam (Kd.Ye (Kd.Yz HO_5.out) (Kd.Yb ho16) hb)
   replace HB:=yam (below_step (yez HB.out) hb)
   clear hb ho16
   obtain ⟨Ao17,co17,eo17⟩:=Kd.R_slice HO407.out
   (first|subst eo17|(injection eo17 with f1_ f2_ f3_;have f4_:=f1_.symm;have f5_:=f3_.symm;clear f1_ f2_ f3_;subst f4_;subst f5_))
   refine hK.out _ _ trivial (fun hHeld=>?_)
   clear hK K
   refine norm_ (a':=?_) ?_ ?_
   rotate_left
   ·show Act.put _ (some 45) _=_
    simp only [Act.put,yps,i64_w,i32_w]
    rfl
   refine yvp 15 46 (yvb 17 131071) HT_.out ?_
   refine done_ (done_of HT_.out (by kernel_rfl)) ?_
   try go_wp2
   go_loopg [47] k2 (fun kq v47 w'=>∃ (x5_3:List Int) (x47_3:Int),v47= .int .i64 x47_3∧Aside0 (impl_NarrowSingles.l2 kq a1 x5_3 x19_1 (rd l0 x19_1) l0 (l0.length:Int) x19_1 a1 x28_2 y405 (y405.length:Int) x47_3=some r)∧Aside0 (kq≤k2)∧Aside0 (Kd.R (Kd.int .i64) 3 w' w.heap.size (fun k_=>some k_≠((.slice Ao17 y405.length co17):Value).ownBlock) v401 x5_3)∧Aside0 (Kd.R (Kd.int .i64) 3 w' w.heap.size (fun k_=>some k_≠(v401:Value).ownBlock) (.slice Ao17 y405.length co17) y405)∧Aside0 (Below w.heap.size w w'))
   case atStart=>exact ⟨(x5_2),(0),yeq,H,⟨Nat.le_refl _⟩,⟨by (with_reducible repeat (first|apply Kd.Ya|apply Kd.Yn|apply Kd.Yd));exact Kd.R_mono HO_5.out (fun _ hk=>hk.2)⟩,⟨by (with_reducible repeat (first|apply Kd.Ya|apply Kd.Yn|apply Kd.Yd));exact Kd.R_mono HO407.out (fun _ hk=>hk.2)⟩,⟨yhb⟩⟩
   case round =>
    clear H
    try clear c12b0
    try clear c13
    try clear c13b0
    try clear c13b1
    obtain ⟨x5_3,x47_3,rfl,HA,HK3,HO_5,HO_45,HB⟩:=hrel
    rcases gk with _|k3
    ·exact absurd HA.out (by simp [impl_NarrowSingles.l2])
    obtain ⟨H⟩:=HA
    simp only [impl_NarrowSingles.l2] at H
    replace H:=yis H;obtain ⟨c18b0,H⟩ | ⟨c18b0,H⟩:=H
    rotate_left
    ·replace H:=yam H
     go_wp2
     go_roundg k3
     case measure=>have:=HK1.out;have:=HK2.out;have:=HK3.out;omega
     case rel=>exact ⟨(x5_3),(wrap64 (x28_2 + 1)),yeq,H,⟨by have:=HK1.out;have:=HK2.out;have:=HK3.out;omega⟩,⟨by (with_reducible repeat (first|apply Kd.Ya|apply Kd.Yn|apply Kd.Yd));exact Kd.R_mono HO_5.out (fun _ hk=>trivial)⟩,⟨yhb⟩⟩
    replace H:=yif H;obtain ⟨c19b0,H⟩:=H
    replace H:=yif H;obtain ⟨c20b0,H⟩:=H
    replace H:=yit H;obtain ⟨c21,H⟩ | ⟨c21,H⟩:=H
    ·have c21b0:((rd y405 x47_3) == x19_1)=true:=beq_iff_eq.mpr c21
     have c21b1:((rd y405 x47_3) != x19_1)=false:=bne_eq_false_iff_eq.mpr c21
     clear c21
     replace H:=yam H
     obtain ⟨ad408,e408,hx408_0,p408,q408⟩:=yat (Kd.Yr HO_45.out).2.2 x47_3
     cases e408
     go_wp2
     go_roundg k3
     case measure=>have:=HK1.out;have:=HK2.out;have:=HK3.out;omega
     case rel=>exact ⟨(x5_3),(wrap64 (x47_3 + 1)),yeq,H,⟨by have:=HK1.out;have:=HK2.out;have:=HK3.out;omega⟩,⟨yka HO_5.out⟩,⟨yka HO_45.out⟩,⟨yhb⟩⟩
    have c21b0:((rd y405 x47_3) == x19_1)=false:=beq_eq_false_iff_ne.mpr c21
    have c21b1:((rd y405 x47_3) != x19_1)=true:=bne_iff_ne.mpr c21
    replace H:=yif H;obtain ⟨c22b0,H⟩:=H
    replace H:=yif H;obtain ⟨c23b0,H⟩:=H
    obtain ⟨y410,Ny410⟩:∃ y_:List Int,Aside0 (y_=(x5_3.set ((rd y405 x47_3):Int).toNat (Go.bits .andNot .i64 (rd x5_3 (rd y405 x47_3)) (rd l0 x19_1)))):=⟨_,⟨rfl⟩⟩
    replace H:(impl_NarrowSingles.l2 k3 a1 y410 x19_1 (rd l0 x19_1) l0 (l0.length:Int) x19_1 a1 x28_2 y405 (y405.length:Int) (wrap64 (x47_3 + 1)))=some r:=yhn Ny410.out H
    replace H:=yam H
    obtain ⟨ad408,e408,hx408_0,p408,q408⟩:=yat (Kd.Yr HO_45.out).2.2 x47_3
    cases e408
    obtain ⟨Ao25,co25,eo25⟩:=Kd.R_slice HO_5.out
    subst eo25
    obtain ⟨ad409,e409,hx409_0,p409,q409⟩:=yat (Kd.Yr HO_5.out).2.2 (rd y405 x47_3)
    cases e409
    have p24:0≤((rd y405 x47_3):Int):=ydt
    have q24:((rd y405 x47_3):Int) < ((x5_3.length:Int):Int):=ydt
    obtain ⟨go24,co24,eo24,gb24,gl24,cl24,HG24⟩:=Kd.R_form HO_5.out (by omega)
    (first|cases eo24|(injection eo24 with ea_ en_ ec_;(first|subst ea_|(injection ea_ with ea_;subst ea_));subst ec_;clear en_))
    have GB24:=yam gb24
    have GG24:=yam HG24
    clear gb24 gl24 HG24
    (first|simp only [add_plain] at hx409_0|skip)
    obtain ⟨hx24_0,hf24_0⟩:=Kd.R_celln 0 HO_5.out ((rd y405 x47_3):Int) p24 q24
    replace p24:=eq_true p24
    replace q24:=eq_true q24
    have HP26:=Kd.R_putg HO_5.out ((rd y405 x47_3):Int) (Go.bits .andNot .i64 (rd x5_3 (rd y405 x47_3)) (rd l0 x19_1))
    go_wp2_with (first|((with_reducible refine gate_store (t:=3) (p:=60) rfl ?_);refine store_event (t:=3) (p:=60) (v:=?vo_w27) (w1:=(wr.setCell ⟨go24,((rd y405 x47_3):Int).toNat,none⟩ (.int .i64 (Go.bits .andNot .i64 (rd x5_3 (rd y405 x47_3)) (rd l0 x19_1))))) ?hg ?ho ?hn ?hr ?_;(case ho=>rfl);(case hg=>rfl);(case hn=>rfl);(case hr=>first|(go_simp;done)|(go_simp;rfl));intro w27 hw;have hg:wr.grownBy w27 (some go24):=(by rw [hw];exact HP26.2);have hp_:Kd.R (Kd.int .i64) 3 w27 w.heap.size (fun k_=>some k_≠(.slice (some ad408) y405.length co17:Value).ownBlock) (.slice (some ⟨go24,0,none⟩) x5_3.length co25) y410:=(by rw [hw,Ny410.out];exact HP26.1);clear HP26;replace HO_5:=yam (hp_);replace HO_45:=yam (Kd.R_after (v:=(.slice (some ⟨go24,0,none⟩) x5_3.length co25)) (v1:=(.slice (some ⟨go24,0,none⟩) x5_3.length co25)) (ok:=(fun _=>True)) (by (with_reducible repeat (first|apply Kd.Ya|apply Kd.Yn|apply Kd.Yd));exact Kd.R_mono HO_45.out (fun _ hk=>⟨trivial,hk⟩)) hg (.inl rfl));replace HB:=yam ((by rw [hw];exact below_set (HB.out) GB24.out:Below w.heap.size w w27));clear hg hw hp_))
    go_roundg k3
    case measure=>have:=HK1.out;have:=HK2.out;have:=HK3.out;omega
    case rel=>exact ⟨(y410),(wrap64 (x47_3 + 1)),yeq,H,⟨by have:=HK1.out;have:=HK2.out;have:=HK3.out;omega⟩,⟨yka HO_5.out⟩,⟨by (with_reducible repeat (first|apply Kd.Ya|apply Kd.Yn|apply Kd.Yd));exact Kd.R_mono HO_45.out (fun _ hk=>hk.2)⟩,⟨yhb⟩⟩
mutual
def impl_LineCells.j0:Nat→Int→Int→Bool→Option (List Int)
 | 0,_,_,_=>none
 | k + 1,x0,x1,x19=>if x19=true then (some ([]:List Int)) else (if 0≤x0 then (if (x0:Int).toNat≤35184372088832 then (impl_LineCells.l0 k x0 x1 (([]:List Int)) x0 0) else (none)) else (none))
def impl_LineCells.l0:Nat→Int→Int→List Int→Int→Int→Option (List Int)
 | 0,_,_,_,_,_=>none
 | k + 1,x0,x1,x5,x22,x23=>if x23 < x22 then (if x1 < x0 then (if x5.length < 17592186044416 then (impl_LineCells.l0 k x0 x1 (x5 ++ [wrap64 ((wrap64 (x1 * x0)) + x23)]) x22 (wrap64 (x23 + 1))) else (none)) else (if x5.length < 17592186044416 then (impl_LineCells.l0 k x0 x1 (x5 ++ [wrap64 ((wrap64 ((wrap64 (x23 * x0)) + x1)) - x0)]) x22 (wrap64 (x23 + 1))) else (none))) else (some x5)
end
def impl_LineCells.f (k:Nat)(a0:Int)(a1:Int):Option (List Int):=(impl_sizeOk.f a0).bind fun t411=>(if t411=true then (if a1 < 0 then (impl_LineCells.j0 k a0 a1 true) else (impl_LineCells.j0 k a0 a1 (decide (a1 ≥ (wrap64 (2 * a0)))))) else (impl_LineCells.j0 k a0 a1 true))
theorem impl_LineCells.mono_l:∀ k,(∀ y0 y1 y2,LeO (impl_LineCells.j0 k y0 y1 y2) (impl_LineCells.j0 (k + 1) y0 y1 y2))∧(∀ y0 y1 y2 y3 y4,LeO (impl_LineCells.l0 k y0 y1 y2 y3 y4) (impl_LineCells.l0 (k + 1) y0 y1 y2 y3 y4))
 | 0=>⟨fun _ _ _ r h=>by simp [impl_LineCells.j0] at h,fun _ _ _ _ _ r h=>by simp [impl_LineCells.l0] at h⟩
 | k + 1=>by
  obtain ⟨ih0,ih1⟩:=impl_LineCells.mono_l k
  refine ⟨?_,?_⟩
  ·intro y0 y1 y2
   unfold impl_LineCells.j0
   repeat' first
   | (with_reducible exact ih0 _ _ _)
   | (with_reducible exact ih1 _ _ _ _ _)
   | (with_reducible exact LeO.refl _)
   | (with_reducible exact LeO.none _)
   | (with_reducible refine LeO.ite ?_ ?_)
   | (with_reducible refine LeO.bind ?_ (fun _=>?_))
   | exact ih0 _ _ _
   | exact ih1 _ _ _ _ _
   | exact LeO.none _
   | refine LeO.ite ?_ ?_
   | refine LeO.bind ?_ (fun _=>?_)
  ·intro y0 y1 y2 y3 y4
   unfold impl_LineCells.l0
   repeat' first
   | (with_reducible exact ih0 _ _ _)
   | (with_reducible exact ih1 _ _ _ _ _)
   | (with_reducible exact LeO.refl _)
   | (with_reducible exact LeO.none _)
   | (with_reducible refine LeO.ite ?_ ?_)
   | (with_reducible refine LeO.bind ?_ (fun _=>?_))
   | exact ih0 _ _ _
   | exact ih1 _ _ _ _ _
   | exact LeO.none _
   | refine LeO.ite ?_ ?_
   | refine LeO.bind ?_ (fun _=>?_)
theorem impl_LineCells.mono:∀ a0 a1 k,LeO (impl_LineCells.f k a0 a1) (impl_LineCells.f (k + 1) a0 a1):=by
 intro a0 a1 k
 obtain ⟨ih0,ih1⟩:=impl_LineCells.mono_l k
 unfold impl_LineCells.f
 repeat' first
   | (with_reducible exact ih0 _ _ _)
   | (with_reducible exact ih1 _ _ _ _ _)
   | (with_reducible exact LeO.refl _)
   | (with_reducible exact LeO.none _)
   | (with_reducible refine LeO.ite ?_ ?_)
   | (with_reducible refine LeO.bind ?_ (fun _=>?_))
   | exact ih0 _ _ _
   | exact ih1 _ _ _ _ _
   | exact LeO.none _
   | refine LeO.ite ?_ ?_
   | refine LeO.bind ?_ (fun _=>?_)
theorem impl_LineCells.calls (k:Nat)(a0:Int)(a1:Int)(r:List Int)(w:World)(h:impl_LineCells.f k a0 a1=some r) :
  Calls Try.prog 82 #[.int .i64 a0,.int .i64 a1] w fun e w'=>∃ v0_:Value,e= .returned (v0_)∧Kd.R (Kd.int .i64) 3 w' w.heap.size (fun _=>True) v0_ r∧Below w.heap.size w w':=by
 have HB:=yam (Below.refl w.heap.size w)
 unfold impl_LineCells.f at h
 have H:=h
 clear h
 have HC3:=yam H
 clear H
 go_enter Try.func82,Try.ntmps82
 go_upto_region 1 with (fail)
 go_cut [19] (fun v19 wc=>∃ (kq:Nat) (x19_2:Bool),v19= .bool x19_2∧Aside0 (impl_LineCells.j0 kq a0 a1 x19_2=some r)∧Aside0 (kq≤k)∧Aside0 (Below w.heap.size w wc))
 case first =>
  have H:=HC3.out
  clear HC3
  replace H:=ybi H;obtain ⟨t411,A4,H⟩:=H
  try dsimp only at H
  cases t411
  ·replace H:=yff H
   replace H:=yam H
   go_wp2_with (first|(refine goesL_ (some 8) rfl rfl Try.func84 (by kernel_rfl) rfl #[.int .i64 a0] rfl ymd ?_;(with_reducible refine (impl_sizeOk.calls a0 false _ A4.out).mono ?_);rintro e w' ⟨rfl,⟨nd,rfl⟩⟩;refine ⟨_,rfl,?_⟩))
   go_meet
   case rel=>exact ⟨_,(true),yeq,H,⟨by first|omega|exact Nat.le_refl _⟩,⟨yhb⟩⟩
  replace H:=ytt H
  replace H:=yis H;obtain ⟨c6b0,H⟩ | ⟨c6b0,H⟩:=H
  ·(first|rw [c6b0]|(simp only [i64_w,i32_w];rw [c6b0])|skip)
   replace H:=yam H
   go_wp2_with (first|(refine goesL_ (some 8) rfl rfl Try.func84 (by kernel_rfl) rfl #[.int .i64 a0] rfl ymd ?_;(with_reducible refine (impl_sizeOk.calls a0 true _ A4.out).mono ?_);rintro e w' ⟨rfl,⟨nd,rfl⟩⟩;refine ⟨_,rfl,?_⟩))
   go_meet
   case rel=>exact ⟨_,(true),yeq,H,⟨by first|omega|exact Nat.le_refl _⟩,⟨yhb⟩⟩
  (first|rw [c6b0]|(simp only [i64_w,i32_w];rw [c6b0])|skip)
  replace H:=yam H
  go_wp2_with (first|(refine goesL_ (some 8) rfl rfl Try.func84 (by kernel_rfl) rfl #[.int .i64 a0] rfl ymd ?_;(with_reducible refine (impl_sizeOk.calls a0 true _ A4.out).mono ?_);rintro e w' ⟨rfl,⟨nd,rfl⟩⟩;refine ⟨_,rfl,?_⟩))
  go_meet
  case rel=>exact ⟨_,(decide (a1 ≥ (wrap64 (2 * a0)))),yeq,H,⟨by first|omega|exact Nat.le_refl _⟩,⟨yhb⟩⟩
 case rest =>
  clear HC3
  obtain ⟨kq,x19_2,rfl,HA,HJ2,HB⟩:=hcut
  rcases kq with _|kj2
  ·exact absurd HA.out (by simp [impl_LineCells.j0])
  obtain ⟨H⟩:=HA
  simp only [impl_LineCells.j0] at H
  cases x19_2
  rotate_left
  ·replace H:=ytt H
   obtain rfl:=ysi H
   go_wp2
   go_ret
   exact ⟨_,yer,by first|exact Kd.R_nil _ _ _ _ _|exact Kd.N_nil _ _ _ _ _|exact Kd.V_nil _ _ _ _ _|exact Kd.Q_nil _ _ _ _ _|exact Kd.S_nil _ _ _ _ _,yhb⟩
  replace H:=yff H
  replace H:=yit H;obtain ⟨c8,H⟩ | ⟨c8,H⟩:=H
  rotate_left
  ·exact absurd H (by simp)
  have c8b0:=eq_true c8
  have c8b1:decide (0≤a0)=true:=decide_eq_true c8
  clear c8
  replace H:=yig H;obtain ⟨c9,H⟩:=H
  have c9b0:=eq_true c9
  have c9b1:decide ((a0:Int).toNat≤35184372088832)=true:=decide_eq_true c9
  clear c9
  obtain ⟨y412,Ny412⟩:∃ y_:List Int,Aside0 (y_=(([]:List Int))):=⟨_,⟨rfl⟩⟩
  replace H:(impl_LineCells.l0 kj2 a0 a1 y412 a0 0)=some r:=yhn Ny412.out H
  replace H:=yam H
  go_wp2_with (first|((with_reducible refine gate_dst (N:=21) rfl ?_);refine Kd.R_make_cap (Kd.int .i64) _ 3 rfl (N:=21) rfl 22 _ _ rfl a0 rfl rfl Try.underlying22 (.int .i64 0) 8 info3 rfl (by decide) (by omega) (ok:=fun _=>True) trivial (ydt) (Nat.le_trans (Nat.mul_le_mul_right _ (ydt:a0.toNat≤35184372088832)) (by omega)) (Below.refl _ _) (Nat.le_refl _) ?_;intro v413 w10 ho11 hb hg_ hnew_;clear hg_ hnew_;(first|rw [← Ny412.out] at ho11|(simp only [Int.reduceToNat] at ho11;rw [← Ny412.out] at ho11));have HO414:=yam (Kd.R_lower ho11 (below_size (yez HB.out)));replace HB:=yam (below_step (yez HB.out) hb);clear hb ho11))
  go_loopg [5,23] kj2 (fun kq v5 v23 w'=>∃ (x5_2:List Int) (x23_2:Int),v23= .int .i64 x23_2∧Aside0 (impl_LineCells.l0 kq a0 a1 x5_2 a0 x23_2=some r)∧Aside0 (kq≤kj2)∧Aside0 (Kd.R (Kd.int .i64) 3 w' w.heap.size (fun _=>True) v5 x5_2)∧Aside0 (Below w.heap.size w w'))
  case atStart=>exact ⟨(y412),(0),yeq,H,⟨Nat.le_refl _⟩,⟨yka HO414.out⟩,⟨yhb⟩⟩
  case round =>
   clear H
   try clear c8b0
   try clear c8b1
   try clear c9b0
   try clear c9b1
   obtain ⟨x5_2,x23_2,rfl,HA,HK2,HO_5,HB⟩:=hrel
   rcases gk with _|k2
   ·exact absurd HA.out (by simp [impl_LineCells.l0])
   obtain ⟨H⟩:=HA
   simp only [impl_LineCells.l0] at H
   replace H:=yis H;obtain ⟨c12b0,H⟩ | ⟨c12b0,H⟩:=H
   rotate_left
   ·obtain rfl:=ysi H
    go_wp2
    go_ret
    exact ⟨_,yer,yka HO_5.out,yhb⟩
   replace H:=yis H;obtain ⟨c13b0,H⟩ | ⟨c13b0,H⟩:=H
   ·replace H:=yig H;obtain ⟨c14,H⟩:=H
    have LMc14:=yam c14
    clear c14
    obtain ⟨y415,Ny415⟩:∃ y_:List Int,Aside0 (y_=(x5_2 ++ [wrap64 ((wrap64 (a1 * a0)) + x23_2)])):=⟨_,⟨rfl⟩⟩
    replace H:(impl_LineCells.l0 k2 a0 a1 y415 a0 (wrap64 (x23_2 + 1)))=some r:=yhn Ny415.out H
    replace H:=yam H
    go_wp2_with (first|((with_reducible refine gate_builtin (b:= .append) (xs:= #[.tmp 29,.tmp 35]) rfl ?_);at_builtin;refine Kd.R_append (Kd.int .i64) (w0:=w) w.heap.size rfl (.tmp 29) (.tmp 35) 22 3 (.int .i64 0) 8 rfl Try.underlying22 info3 rfl (by decide) (by omega) u5 x5_2 (wrap64 ((wrap64 (a1 * a0)) + x23_2)) [.int .i64 (wrap64 ((wrap64 (a1 * a0)) + x23_2))] (fun _=>True) (fun _=>False) rfl rfl ?aP (fun _ hk=>hk.elim) ?aF ?aO ?aB ?aS ?aL ?_;(case aP=>exact rfl);(case aB=>exact (yez HB.out));(case aF=>exact (fun _ _=>trivial));(case aO=>exact (Kd.Yz HO_5.out));(case aS=>exact (below_size (yez HB.out)));(case aL=>have:=LMc14.out;omega);intro v416 w15 ho hb hg hat;rw [← Ny415.out] at ho;replace HB:=yam (hb);have HO417:=yam (ho);clear HO_5;clear ho hb hg hat))
    go_roundg k2
    case measure=>have:=HJ2.out;have:=HK2.out;omega
    case rel=>exact ⟨(y415),(wrap64 (x23_2 + 1)),yeq,H,⟨by have:=HJ2.out;have:=HK2.out;omega⟩,⟨yka HO417.out⟩,⟨yhb⟩⟩
   replace H:=yig H;obtain ⟨c16,H⟩:=H
   have LMc16:=yam c16
   clear c16
   obtain ⟨y418,Ny418⟩:∃ y_:List Int,Aside0 (y_=(x5_2 ++ [wrap64 ((wrap64 ((wrap64 (x23_2 * a0)) + a1)) - a0)])):=⟨_,⟨rfl⟩⟩
   replace H:(impl_LineCells.l0 k2 a0 a1 y418 a0 (wrap64 (x23_2 + 1)))=some r:=yhn Ny418.out H
   replace H:=yam H
   go_wp2_with (first|((with_reducible refine gate_builtin (b:= .append) (xs:= #[.tmp 37,.tmp 45]) rfl ?_);at_builtin;refine Kd.R_append (Kd.int .i64) (w0:=w) w.heap.size rfl (.tmp 37) (.tmp 45) 22 3 (.int .i64 0) 8 rfl Try.underlying22 info3 rfl (by decide) (by omega) u5 x5_2 (wrap64 ((wrap64 ((wrap64 (x23_2 * a0)) + a1)) - a0)) [.int .i64 (wrap64 ((wrap64 ((wrap64 (x23_2 * a0)) + a1)) - a0))] (fun _=>True) (fun _=>False) rfl rfl ?aP (fun _ hk=>hk.elim) ?aF ?aO ?aB ?aS ?aL ?_;(case aP=>exact rfl);(case aB=>exact (yez HB.out));(case aF=>exact (fun _ _=>trivial));(case aO=>exact (Kd.Yz HO_5.out));(case aS=>exact (below_size (yez HB.out)));(case aL=>have:=LMc16.out;omega);intro v419 w17 ho hb hg hat;rw [← Ny418.out] at ho;replace HB:=yam (hb);have HO420:=yam (ho);clear HO_5;clear ho hb hg hat))
   go_roundg k2
   case measure=>have:=HJ2.out;have:=HK2.out;omega
   case rel=>exact ⟨(y418),(wrap64 (x23_2 + 1)),yeq,H,⟨by have:=HJ2.out;have:=HK2.out;omega⟩,⟨yka HO420.out⟩,⟨yhb⟩⟩
mutual
def impl_NarrowHidden.l0:Nat→List Int→Int→List Int→Int→Int→Option (List Int)
 | 0,_,_,_,_,_=>none
 | k + 1,x0,x1,x5,x19,x20=>if x20 < x19 then (impl_NarrowHidden.l1 k x0 x1 x5 x20 1 x19 x20) else (some x5)
def impl_NarrowHidden.l1:Nat→List Int→Int→List Int→Int→Int→Int→Int→Option (List Int)
 | 0,_,_,_,_,_,_,_=>none
 | k + 1,x0,x1,x5,x6,x7,x19,x20=>if x7≤x1 then ((impl_LineCells.f k x1 x6).bind fun t425=>(impl_NarrowHidden.l2 k x0 x1 x5 x6 x7 0 0 x19 x20 t425 (t425.length:Int) 0)) else (impl_NarrowHidden.l0 k x0 x1 x5 x19 (wrap64 (x20 + 1)))
def impl_NarrowHidden.l2:Nat→List Int→Int→List Int→Int→Int→Int→Int→Int→Int→List Int→Int→Int→Option (List Int)
 | 0,_,_,_,_,_,_,_,_,_,_,_,_=>none
 | k + 1,x0,x1,x5,x6,x7,x8,x9,x19,x20,x30,x31,x32=>if x32 < x31 then (if 0≤x32 then (if x32 < (x30.length:Int) then (if 0≤(rd x30 x32) then (if (rd x30 x32) < (x0.length:Int) then (if 0≤x7 then (if (Go.bits .and .i64 (shr .i64 (rd x0 (rd x30 x32)) x7) 1)=1 then (impl_NarrowHidden.l2 k x0 x1 x5 x6 x7 (rd x30 x32) (wrap64 (x9 + 1)) x19 x20 x30 x31 (wrap64 (x32 + 1))) else (impl_NarrowHidden.l2 k x0 x1 x5 x6 x7 x8 x9 x19 x20 x30 x31 (wrap64 (x32 + 1)))) else (none)) else (none)) else (none)) else (none)) else (none)) else (if x9=1 then (if 0≤x8 then (if x8 < (x5.length:Int) then (if 0≤x7 then (impl_NarrowHidden.l1 k x0 x1 (x5.set (x8:Int).toNat (Go.bits .and .i64 (rd x5 x8) (shl .i64 1 x7))) x6 (wrap64 (x7 + 1)) x19 x20) else (none)) else (none)) else (none)) else (impl_NarrowHidden.l1 k x0 x1 x5 x6 (wrap64 (x7 + 1)) x19 x20))
end
def impl_NarrowHidden.f (k:Nat)(l0:List Int)(a1:Int):Option (List Int):=(impl_MasksValid.f k l0 a1).bind fun t421=>(if t421=true then ((slices_Clone_int_int.f l0).bind fun t422=>(impl_NarrowHidden.l0 k l0 a1 t422 (wrap64 (2 * a1)) 0)) else (some ([]:List Int)))
def impl_NarrowHidden.T19:Bool × List (List Nat × List Nat):=(true,[([],[]),([],[]),([0,1],[0,1]),([2],[2]),([],[]),([4],[4]),([3,5],[3,5]),([0,1,0,1,2,3,4,5,6],[0,1]),([7,6,0,1,2,3,4,5,6],[6,7])])
def impl_NarrowHidden.B19:List Nat:=[0,0,3,7,0,16,63,127,255]
theorem impl_NarrowHidden.tab19:rtab .any (opsOf Try.f59 19)=impl_NarrowHidden.T19:=by kernel_rfl
theorem impl_NarrowHidden.bits19:waitsOk impl_NarrowHidden.T19.2 impl_NarrowHidden.B19=true:=by kernel_rfl
theorem impl_NarrowHidden.calls (k:Nat)(A0:Option Addr)(c0:Nat)(l0:List Int)(a1:Int)(r:List Int)(w:World)(hr0:Kd.C (Kd.int .i64) w A0 l0.length l0)(hc0:l0.length≤c0)(h:impl_NarrowHidden.f k l0 a1=some r) :
  Calls Try.prog 59 #[.slice A0 l0.length c0,.int .i64 a1] w fun e w'=>∃ v0_:Value,e= .returned (v0_)∧Kd.R (Kd.int .i64) 3 w' w.heap.size (fun _=>True) v0_ r∧Below w.heap.size w w':=by
 have HR0:=yam hr0
 have HC0:=yam hc0
 clear hr0 hc0
 have HB:=yam (Below.refl w.heap.size w)
 unfold impl_NarrowHidden.f at h
 have H:=h
 clear h
 replace H:=ybi H;obtain ⟨t421,A3,H⟩:=H
 try dsimp only at H
 cases t421
 ·replace H:=yff H
  obtain rfl:=ysi H
  go_enter Try.func59,Try.ntmps59
  go_wp2_with (first|(refine goesL_ (some 14) rfl rfl Try.func63 (by kernel_rfl) rfl #[.slice A0 l0.length c0,.int .i64 a1] rfl ymd ?_;(with_reducible refine (impl_MasksValid.calls k _ _ l0 a1 false _ ?_ ?_ A3.out).mono ?_);exact Kd.Cz (HR0.out);exact HC0.out;rintro e w' ⟨rfl,⟨nd,rfl⟩⟩;refine ⟨_,rfl,?_⟩))
  go_ret
  exact ⟨_,yer,by first|exact Kd.R_nil _ _ _ _ _|exact Kd.N_nil _ _ _ _ _|exact Kd.V_nil _ _ _ _ _|exact Kd.Q_nil _ _ _ _ _|exact Kd.S_nil _ _ _ _ _,yhb⟩
 replace H:=ytt H
 replace H:=ybi H;obtain ⟨t422,A5,H⟩:=H
 try dsimp only at H
 replace H:=yam H
 go_enter Try.func59,Try.ntmps59
 go_wp2_with (first|(refine goesL_ (some 14) rfl rfl Try.func63 (by kernel_rfl) rfl #[.slice A0 l0.length c0,.int .i64 a1] rfl ymd ?_;(with_reducible refine (impl_MasksValid.calls k _ _ l0 a1 true _ ?_ ?_ A3.out).mono ?_);exact Kd.Cz (HR0.out);exact HC0.out;rintro e w' ⟨rfl,⟨nd,rfl⟩⟩;refine ⟨_,rfl,?_⟩)|(refine goesL_ (some 17) rfl rfl Try.func64 (by kernel_rfl) rfl #[.slice A0 l0.length c0] rfl ymd ?_;(with_reducible refine (slices_Clone_int_int.calls _ _ l0 t422 _ ?_ ?_ A5.out).mono ?_);exact Kd.Cz (HR0.out);exact HC0.out;rintro e w6 ⟨v423,rfl,ho0,hb⟩;refine ⟨_,rfl,?_⟩;have HO424:=yam (Kd.R_lower ho0 (below_size (yez HB.out)));replace HB:=yam (below_step (yez HB.out) hb);(try clear hb);(try clear ho0)))
 go_loopg [20] k (fun kq v20 w'=>∃ (x5_1:List Int) (x20_1:Int),v20= .int .i64 x20_1∧Aside0 (impl_NarrowHidden.l0 kq l0 a1 x5_1 (wrap64 (2 * a1)) x20_1=some r)∧Aside0 (kq≤k)∧Aside0 (Kd.R (Kd.int .i64) 3 w' w.heap.size (fun _=>True) v423 x5_1)∧Aside0 (Below w.heap.size w w'))
 case atStart=>exact ⟨(t422),(0),yeq,H,⟨Nat.le_refl _⟩,⟨yka HO424.out⟩,⟨yhb⟩⟩
 case round =>
  clear H
  obtain ⟨x5_1,x20_1,rfl,HA,HK1,HO_5,HB⟩:=hrel
  rcases gk with _|k1
  ·exact absurd HA.out (by simp [impl_NarrowHidden.l0])
  obtain ⟨H⟩:=HA
  simp only [impl_NarrowHidden.l0] at H
  replace H:=yis H;obtain ⟨c7b0,H⟩ | ⟨c7b0,H⟩:=H
  rotate_left
  ·obtain rfl:=ysi H
   go_wp2
   go_ret
   exact ⟨_,yer,yka HO_5.out,yhb⟩
  replace H:=yam H
  go_wp2
  go_loopg [7] k1 (fun kq v7 w'=>∃ (x5_2:List Int) (x7_2:Int),v7= .int .i64 x7_2∧Aside0 (impl_NarrowHidden.l1 kq l0 a1 x5_2 x20_1 x7_2 (wrap64 (2 * a1)) x20_1=some r)∧Aside0 (kq≤k1)∧Aside0 (Kd.R (Kd.int .i64) 3 w' w.heap.size (fun _=>True) v423 x5_2)∧Aside0 (Below w.heap.size w w'))
  case atStart=>exact ⟨(x5_1),(1),yeq,H,⟨Nat.le_refl _⟩,⟨yka HO_5.out⟩,⟨yhb⟩⟩
  case round =>
   clear H
   try clear c7b0
   obtain ⟨x5_2,x7_2,rfl,HA,HK2,HO_5,HB⟩:=hrel
   rcases gk with _|k2
   ·exact absurd HA.out (by simp [impl_NarrowHidden.l1])
   obtain ⟨H⟩:=HA
   simp only [impl_NarrowHidden.l1] at H
   replace H:=yis H;obtain ⟨c8b0,H⟩ | ⟨c8b0,H⟩:=H
   rotate_left
   ·replace H:=yam H
    go_wp2
    go_roundg k2
    case measure=>have:=HK1.out;have:=HK2.out;omega
    case rel=>exact ⟨(x5_2),(wrap64 (x20_1 + 1)),yeq,H,⟨by have:=HK1.out;have:=HK2.out;omega⟩,⟨yka HO_5.out⟩,⟨yhb⟩⟩
   replace H:=ybi H;obtain ⟨t425,A9,H⟩:=H
   try dsimp only at H
   replace H:=yam H
   go_wp2_with (first|(refine goesL_ (some 30) rfl rfl Try.func82 (by kernel_rfl) rfl #[.int .i64 a1,.int .i64 x20_1] rfl ymd ?_;(with_reducible refine (impl_LineCells.calls k2 a1 x20_1 t425 _ A9.out).mono ?_);rintro e w10 ⟨v426,rfl,ho0,hb⟩;refine ⟨_,rfl,?_⟩;have HO427:=yam (Kd.R_lower (Kd.Yw ho0 (Kd.R_lt (Kd.Yz HO_5.out))) (below_size (yez HB.out)));replace HO_5:=yam (Kd.Ye (Kd.Yz HO_5.out) (Kd.Yb ho0) hb);replace HB:=yam (below_step (yez HB.out) hb);(try clear hb);(try clear ho0);obtain ⟨Ao11,co11,eo11⟩:=Kd.R_slice HO427.out;subst eo11))
   go_loopg [8,9,32] k2 (fun kq v8 v9 v32 w'=>∃ (x8_3:Int) (x9_3:Int) (x32_3:Int),v8= .int .i64 x8_3∧v9= .int .i64 x9_3∧v32= .int .i64 x32_3∧Aside0 (impl_NarrowHidden.l2 kq l0 a1 x5_2 x20_1 x7_2 x8_3 x9_3 (wrap64 (2 * a1)) x20_1 t425 (t425.length:Int) x32_3=some r)∧Aside0 (kq≤k2)∧Aside0 (Kd.R (Kd.int .i64) 3 w' w.heap.size (fun k_=>some k_≠((.slice Ao11 t425.length co11):Value).ownBlock) v423 x5_2)∧Aside0 (Kd.R (Kd.int .i64) 3 w' w.heap.size (fun k_=>some k_≠(v423:Value).ownBlock) (.slice Ao11 t425.length co11) t425)∧Aside0 (Below w.heap.size w w'))
   case atStart=>exact ⟨(0),(0),(0),yeq,yeq,yeq,H,⟨Nat.le_refl _⟩,⟨by (with_reducible repeat (first|apply Kd.Ya|apply Kd.Yn|apply Kd.Yd));exact Kd.R_mono HO_5.out (fun _ hk=>hk.2)⟩,⟨by (with_reducible repeat (first|apply Kd.Ya|apply Kd.Yn|apply Kd.Yd));exact Kd.R_mono HO427.out (fun _ hk=>hk.2)⟩,⟨yhb⟩⟩
   case round =>
    clear H
    try clear c8b0
    obtain ⟨x8_3,x9_3,x32_3,rfl,rfl,rfl,HA,HK3,HO_5,HO_30,HB⟩:=hrel
    rcases gk with _|k3
    ·exact absurd HA.out (by simp [impl_NarrowHidden.l2])
    obtain ⟨H⟩:=HA
    simp only [impl_NarrowHidden.l2] at H
    replace H:=yis H;obtain ⟨c12b0,H⟩ | ⟨c12b0,H⟩:=H
    ·replace H:=yif H;obtain ⟨c13b0,H⟩:=H
     replace H:=yif H;obtain ⟨c14b0,H⟩:=H
     replace H:=yif H;obtain ⟨c15b0,H⟩:=H
     replace H:=yif H;obtain ⟨c16b0,H⟩:=H
     replace H:=yig H;obtain ⟨c17,H⟩:=H
     have c17b0:=eq_true c17
     have c17b1:decide (0≤x7_2)=true:=decide_eq_true c17
     clear c17
     obtain ⟨ji18,hji18⟩:∃ j_:Int,(shr .i64 (rd l0 (rd t425 x32_3)) x7_2)=j_:=⟨_,rfl⟩
     replace H:(if (Go.bits .and .i64 (ji18) 1)=1 then (impl_NarrowHidden.l2 k3 l0 a1 x5_2 x20_1 x7_2 (rd t425 x32_3) (wrap64 (x9_3 + 1)) (wrap64 (2 * a1)) x20_1 t425 (t425.length:Int) (wrap64 (x32_3 + 1))) else (impl_NarrowHidden.l2 k3 l0 a1 x5_2 x20_1 x7_2 x8_3 x9_3 (wrap64 (2 * a1)) x20_1 t425 (t425.length:Int) (wrap64 (x32_3 + 1))))=some r:=by first|(rw [hji18] at H;exact H)|(simp only [hji18] at H ⊢;exact H)
     have hji18_:((rd l0 (rd t425 x32_3)) / 2 ^ min x7_2.toNat 64)=ji18:=hji18
     have hji18z:x7_2≤64→((rd l0 (rd t425 x32_3)) / 2 ^ x7_2.toNat)=ji18:=shr_small hji18
     replace H:=yit H;obtain ⟨c19,H⟩ | ⟨c19,H⟩:=H
     rotate_left
     ·have c19b0:((Go.bits .and .i64 (ji18) 1) == 1)=false:=beq_eq_false_iff_ne.mpr c19
      have c19b1:((Go.bits .and .i64 (ji18) 1) != 1)=true:=bne_iff_ne.mpr c19
      replace H:=yam H
      obtain ⟨ad428,e428,hx428_0,p428,q428⟩:=yat (Kd.Yr HO_30.out).2.2 x32_3
      cases e428
      obtain ⟨ad429,e429,hx429_0,p429,q429⟩:=yat HR0.out (rd t425 x32_3)
      cases e429
      replace hx429_0:=ybx HB.out hx429_0
      go_wp2
      go_roundg k3
      case measure=>have:=HK1.out;have:=HK2.out;have:=HK3.out;omega
      case rel=>exact ⟨(x8_3),(x9_3),(wrap64 (x32_3 + 1)),yeq,yeq,yeq,H,⟨by have:=HK1.out;have:=HK2.out;have:=HK3.out;omega⟩,⟨yka HO_5.out⟩,⟨yka HO_30.out⟩,⟨yhb⟩⟩
     have c19b0:((Go.bits .and .i64 (ji18) 1) == 1)=true:=beq_iff_eq.mpr c19
     have c19b1:((Go.bits .and .i64 (ji18) 1) != 1)=false:=bne_eq_false_iff_eq.mpr c19
     clear c19
     replace H:=yam H
     obtain ⟨ad428,e428,hx428_0,p428,q428⟩:=yat (Kd.Yr HO_30.out).2.2 x32_3
     cases e428
     obtain ⟨ad429,e429,hx429_0,p429,q429⟩:=yat HR0.out (rd t425 x32_3)
     cases e429
     replace hx429_0:=ybx HB.out hx429_0
     go_wp2
     go_roundg k3
     case measure=>have:=HK1.out;have:=HK2.out;have:=HK3.out;omega
     case rel=>exact ⟨(rd t425 x32_3),(wrap64 (x9_3 + 1)),(wrap64 (x32_3 + 1)),yeq,yeq,yeq,H,⟨by have:=HK1.out;have:=HK2.out;have:=HK3.out;omega⟩,⟨yka HO_5.out⟩,⟨yka HO_30.out⟩,⟨yhb⟩⟩
    replace H:=yit H;obtain ⟨c20,H⟩ | ⟨c20,H⟩:=H
    rotate_left
    ·have c20b0:(x9_3 == 1)=false:=beq_eq_false_iff_ne.mpr c20
     have c20b1:(x9_3 != 1)=true:=bne_iff_ne.mpr c20
     replace H:=yam H
     go_wp2
     go_roundg k3
     case measure=>have:=HK1.out;have:=HK2.out;have:=HK3.out;omega
     case rel=>exact ⟨(x5_2),(wrap64 (x7_2 + 1)),yeq,H,⟨by have:=HK1.out;have:=HK2.out;have:=HK3.out;omega⟩,⟨by (with_reducible repeat (first|apply Kd.Ya|apply Kd.Yn|apply Kd.Yd));exact Kd.R_mono HO_5.out (fun _ hk=>trivial)⟩,⟨yhb⟩⟩
    have c20b0:(x9_3 == 1)=true:=beq_iff_eq.mpr c20
    have c20b1:(x9_3 != 1)=false:=bne_eq_false_iff_eq.mpr c20
    clear c20
    replace H:=yif H;obtain ⟨c21b0,H⟩:=H
    replace H:=yif H;obtain ⟨c22b0,H⟩:=H
    replace H:=yig H;obtain ⟨c23,H⟩:=H
    have c23b0:=eq_true c23
    have c23b1:decide (0≤x7_2)=true:=decide_eq_true c23
    clear c23
    obtain ⟨ji24,hji24⟩:∃ j_:Int,(shl .i64 1 x7_2)=j_:=⟨_,rfl⟩
    replace H:(impl_NarrowHidden.l1 k3 l0 a1 (x5_2.set (x8_3:Int).toNat (Go.bits .and .i64 (rd x5_2 x8_3) (ji24))) x20_1 (wrap64 (x7_2 + 1)) (wrap64 (2 * a1)) x20_1)=some r:=by first|(rw [hji24] at H;exact H)|(simp only [hji24] at H ⊢;exact H)
    have hji24_:(IntKind.i64.wrap (1 * 2 ^ min x7_2.toNat 64))=ji24:=hji24
    have hji24z:x7_2≤64→(IntKind.i64.wrap (1 * 2 ^ x7_2.toNat))=ji24:=shl_small hji24
    have hji24u:(IntKind.i64.wrap (2 ^ min x7_2.toNat 64))=ji24:=by have h_:=hji24_;rw [Int.one_mul] at h_;exact h_
    have hji24v:x7_2≤64→(IntKind.i64.wrap (2 ^ x7_2.toNat))=ji24:=fun hle_=>by have h_:=hji24z hle_;rw [Int.one_mul] at h_;exact h_
    have hji24y:(wrap64 (1 * 2 ^ min x7_2.toNat 64))=ji24:=(i64_w _).symm.trans hji24_
    have hji24x:x7_2≤64→(wrap64 (1 * 2 ^ x7_2.toNat))=ji24:=fun h_=>(i64_w _).symm.trans (hji24z h_)
    obtain ⟨y431,Ny431⟩:∃ y_:List Int,Aside0 (y_=(x5_2.set (x8_3:Int).toNat (Go.bits .and .i64 (rd x5_2 x8_3) (ji24)))):=⟨_,⟨rfl⟩⟩
    replace H:(impl_NarrowHidden.l1 k3 l0 a1 y431 x20_1 (wrap64 (x7_2 + 1)) (wrap64 (2 * a1)) x20_1)=some r:=yhn Ny431.out H
    replace H:=yam H
    try go_wp2
    replace HO_5:=yam (Kd.Yd HO_5.out)
    replace HO_30:=yam (Kd.Yd HO_30.out)
    replace HB:=yam (yed HB.out)
    obtain ⟨Ao27,co27,eo27⟩:=Kd.R_slice HO_5.out
    (first|subst eo27|(injection eo27 with f1_ f2_ f3_;have f4_:=f1_.symm;have f5_:=f3_.symm;clear f1_ f2_ f3_;subst f4_;subst f5_))
    obtain ⟨ad430,e430,hx430_0,p430,q430⟩:=yat (Kd.Yr HO_5.out).2.2 x8_3
    cases e430
    have p25:0≤(x8_3:Int):=ydt
    have q25:(x8_3:Int) < ((x5_2.length:Int):Int):=ydt
    obtain ⟨go25,co25,eo25,gb25,gl25,cl25,HG25⟩:=Kd.R_form HO_5.out (by omega)
    (first|cases eo25|(injection eo25 with ea_ en_ ec_;(first|subst ea_|(injection ea_ with ea_;subst ea_));subst ec_;clear en_))
    have GB25:=yam gb25
    have GG25:=yam HG25
    clear gb25 gl25 HG25
    (first|simp only [add_plain] at hx430_0|skip)
    obtain ⟨hx25_0,hf25_0⟩:=Kd.R_celln 0 HO_5.out (x8_3:Int) p25 q25
    replace p25:=eq_true p25
    replace q25:=eq_true q25
    have HP28:=Kd.R_putn HO_5.out (x8_3:Int) (Go.bits .and .i64 (rd x5_2 x8_3) (ji24))
    rw [← Ny431.out] at HP28
    have HQ28:=yam HP28
    clear HP28
    refine start_ (n:=9) (S:=fun w'=>w'.cell? ⟨go25,(x8_3).toNat,none⟩=some (.int .i64 (rd x5_2 x8_3))) (ds:=[8]) (yvb 9 0) (by kernel_rfl) rfl rfl (hx430_0) (fun hHeld=>?_);refine with_tabW impl_NarrowHidden.tab19 impl_NarrowHidden.bits19 (fun HT_ HW_=>?_)
    generalize wr.drew=w26 at HO_5 HO_30 HB GG25 HQ28 hf25_0 hx25_0 hx430_0 hHeld ⊢
    refine yvp 0 50 (yvb 9 1) HT_.out ?_
    refine yvp 1 51 (yvb 9 3) HT_.out ?_
    refine yvp 2 52 (yvb 9 7) HT_.out ?_
    refine yvp 4 54 (yvb 9 23) HT_.out ?_
    refine yvp 5 55 (yvb 9 55) HT_.out ?_
    refine yvt 3 53 (yvb 9 63) HT_.out HW_.out hHeld ?_
    refine yvp 6 56 (yvb 9 127) HT_.out ?_
    refine yvp 7 57 (yvb 9 255) HT_.out ?_
    refine last_ (i:=8) (N:=none) (yvb 9 511) rfl rfl (one_of HT_.out (by kernel_rfl)) (by decide) (fun K hK=>?_)
    refine skip_ (w1:=?_) (by rfl) rfl ?_ ?_
    rotate_left
    ·go_simp
     rfl
    refine hK.out _ _ ?_
    clear hK K
    refine done_ (done_of HT_.out (by kernel_rfl)) ?_
    try go_wp2
    go_roundg k3
    case measure=>have:=HK1.out;have:=HK2.out;have:=HK3.out;omega
    case rel=>exact ⟨(y431),(wrap64 (x7_2 + 1)),yeq,H,⟨by have:=HK1.out;have:=HK2.out;have:=HK3.out;omega⟩,⟨by (with_reducible repeat (first|apply Kd.Ya|apply Kd.Yn|apply Kd.Yd));exact Kd.R_mono HQ28.out (fun _ hk=>trivial)⟩,⟨yhb⟩⟩
def bits_OnesCount64.f (a0:Int):Option (Int):=some (Go.bits .and .i64 (wrap64 (IntKind.u64.wrap ((IntKind.u64.wrap ((IntKind.u64.wrap ((Go.bits .and .u64 (IntKind.u64.wrap (((IntKind.u64.wrap ((Go.bits .and .u64 ((IntKind.u64.wrap ((Go.bits .and .u64 (a0 / 2) 6148914691236517205) + (Go.bits .and .u64 a0 6148914691236517205))) / 4) 3689348814741910323) + (Go.bits .and .u64 (IntKind.u64.wrap ((Go.bits .and .u64 (a0 / 2) 6148914691236517205) + (Go.bits .and .u64 a0 6148914691236517205))) 3689348814741910323))) / 16) + (IntKind.u64.wrap ((Go.bits .and .u64 ((IntKind.u64.wrap ((Go.bits .and .u64 (a0 / 2) 6148914691236517205) + (Go.bits .and .u64 a0 6148914691236517205))) / 4) 3689348814741910323) + (Go.bits .and .u64 (IntKind.u64.wrap ((Go.bits .and .u64 (a0 / 2) 6148914691236517205) + (Go.bits .and .u64 a0 6148914691236517205))) 3689348814741910323))))) 1085102592571150095) + ((Go.bits .and .u64 (IntKind.u64.wrap (((IntKind.u64.wrap ((Go.bits .and .u64 ((IntKind.u64.wrap ((Go.bits .and .u64 (a0 / 2) 6148914691236517205) + (Go.bits .and .u64 a0 6148914691236517205))) / 4) 3689348814741910323) + (Go.bits .and .u64 (IntKind.u64.wrap ((Go.bits .and .u64 (a0 / 2) 6148914691236517205) + (Go.bits .and .u64 a0 6148914691236517205))) 3689348814741910323))) / 16) + (IntKind.u64.wrap ((Go.bits .and .u64 ((IntKind.u64.wrap ((Go.bits .and .u64 (a0 / 2) 6148914691236517205) + (Go.bits .and .u64 a0 6148914691236517205))) / 4) 3689348814741910323) + (Go.bits .and .u64 (IntKind.u64.wrap ((Go.bits .and .u64 (a0 / 2) 6148914691236517205) + (Go.bits .and .u64 a0 6148914691236517205))) 3689348814741910323))))) 1085102592571150095) / 256))) + ((IntKind.u64.wrap ((Go.bits .and .u64 (IntKind.u64.wrap (((IntKind.u64.wrap ((Go.bits .and .u64 ((IntKind.u64.wrap ((Go.bits .and .u64 (a0 / 2) 6148914691236517205) + (Go.bits .and .u64 a0 6148914691236517205))) / 4) 3689348814741910323) + (Go.bits .and .u64 (IntKind.u64.wrap ((Go.bits .and .u64 (a0 / 2) 6148914691236517205) + (Go.bits .and .u64 a0 6148914691236517205))) 3689348814741910323))) / 16) + (IntKind.u64.wrap ((Go.bits .and .u64 ((IntKind.u64.wrap ((Go.bits .and .u64 (a0 / 2) 6148914691236517205) + (Go.bits .and .u64 a0 6148914691236517205))) / 4) 3689348814741910323) + (Go.bits .and .u64 (IntKind.u64.wrap ((Go.bits .and .u64 (a0 / 2) 6148914691236517205) + (Go.bits .and .u64 a0 6148914691236517205))) 3689348814741910323))))) 1085102592571150095) + ((Go.bits .and .u64 (IntKind.u64.wrap (((IntKind.u64.wrap ((Go.bits .and .u64 ((IntKind.u64.wrap ((Go.bits .and .u64 (a0 / 2) 6148914691236517205) + (Go.bits .and .u64 a0 6148914691236517205))) / 4) 3689348814741910323) + (Go.bits .and .u64 (IntKind.u64.wrap ((Go.bits .and .u64 (a0 / 2) 6148914691236517205) + (Go.bits .and .u64 a0 6148914691236517205))) 3689348814741910323))) / 16) + (IntKind.u64.wrap ((Go.bits .and .u64 ((IntKind.u64.wrap ((Go.bits .and .u64 (a0 / 2) 6148914691236517205) + (Go.bits .and .u64 a0 6148914691236517205))) / 4) 3689348814741910323) + (Go.bits .and .u64 (IntKind.u64.wrap ((Go.bits .and .u64 (a0 / 2) 6148914691236517205) + (Go.bits .and .u64 a0 6148914691236517205))) 3689348814741910323))))) 1085102592571150095) / 256))) / 65536))) + ((IntKind.u64.wrap ((IntKind.u64.wrap ((Go.bits .and .u64 (IntKind.u64.wrap (((IntKind.u64.wrap ((Go.bits .and .u64 ((IntKind.u64.wrap ((Go.bits .and .u64 (a0 / 2) 6148914691236517205) + (Go.bits .and .u64 a0 6148914691236517205))) / 4) 3689348814741910323) + (Go.bits .and .u64 (IntKind.u64.wrap ((Go.bits .and .u64 (a0 / 2) 6148914691236517205) + (Go.bits .and .u64 a0 6148914691236517205))) 3689348814741910323))) / 16) + (IntKind.u64.wrap ((Go.bits .and .u64 ((IntKind.u64.wrap ((Go.bits .and .u64 (a0 / 2) 6148914691236517205) + (Go.bits .and .u64 a0 6148914691236517205))) / 4) 3689348814741910323) + (Go.bits .and .u64 (IntKind.u64.wrap ((Go.bits .and .u64 (a0 / 2) 6148914691236517205) + (Go.bits .and .u64 a0 6148914691236517205))) 3689348814741910323))))) 1085102592571150095) + ((Go.bits .and .u64 (IntKind.u64.wrap (((IntKind.u64.wrap ((Go.bits .and .u64 ((IntKind.u64.wrap ((Go.bits .and .u64 (a0 / 2) 6148914691236517205) + (Go.bits .and .u64 a0 6148914691236517205))) / 4) 3689348814741910323) + (Go.bits .and .u64 (IntKind.u64.wrap ((Go.bits .and .u64 (a0 / 2) 6148914691236517205) + (Go.bits .and .u64 a0 6148914691236517205))) 3689348814741910323))) / 16) + (IntKind.u64.wrap ((Go.bits .and .u64 ((IntKind.u64.wrap ((Go.bits .and .u64 (a0 / 2) 6148914691236517205) + (Go.bits .and .u64 a0 6148914691236517205))) / 4) 3689348814741910323) + (Go.bits .and .u64 (IntKind.u64.wrap ((Go.bits .and .u64 (a0 / 2) 6148914691236517205) + (Go.bits .and .u64 a0 6148914691236517205))) 3689348814741910323))))) 1085102592571150095) / 256))) + ((IntKind.u64.wrap ((Go.bits .and .u64 (IntKind.u64.wrap (((IntKind.u64.wrap ((Go.bits .and .u64 ((IntKind.u64.wrap ((Go.bits .and .u64 (a0 / 2) 6148914691236517205) + (Go.bits .and .u64 a0 6148914691236517205))) / 4) 3689348814741910323) + (Go.bits .and .u64 (IntKind.u64.wrap ((Go.bits .and .u64 (a0 / 2) 6148914691236517205) + (Go.bits .and .u64 a0 6148914691236517205))) 3689348814741910323))) / 16) + (IntKind.u64.wrap ((Go.bits .and .u64 ((IntKind.u64.wrap ((Go.bits .and .u64 (a0 / 2) 6148914691236517205) + (Go.bits .and .u64 a0 6148914691236517205))) / 4) 3689348814741910323) + (Go.bits .and .u64 (IntKind.u64.wrap ((Go.bits .and .u64 (a0 / 2) 6148914691236517205) + (Go.bits .and .u64 a0 6148914691236517205))) 3689348814741910323))))) 1085102592571150095) + ((Go.bits .and .u64 (IntKind.u64.wrap (((IntKind.u64.wrap ((Go.bits .and .u64 ((IntKind.u64.wrap ((Go.bits .and .u64 (a0 / 2) 6148914691236517205) + (Go.bits .and .u64 a0 6148914691236517205))) / 4) 3689348814741910323) + (Go.bits .and .u64 (IntKind.u64.wrap ((Go.bits .and .u64 (a0 / 2) 6148914691236517205) + (Go.bits .and .u64 a0 6148914691236517205))) 3689348814741910323))) / 16) + (IntKind.u64.wrap ((Go.bits .and .u64 ((IntKind.u64.wrap ((Go.bits .and .u64 (a0 / 2) 6148914691236517205) + (Go.bits .and .u64 a0 6148914691236517205))) / 4) 3689348814741910323) + (Go.bits .and .u64 (IntKind.u64.wrap ((Go.bits .and .u64 (a0 / 2) 6148914691236517205) + (Go.bits .and .u64 a0 6148914691236517205))) 3689348814741910323))))) 1085102592571150095) / 256))) / 65536))) / 4294967296)))) 127)
theorem bits_OnesCount64.calls (a0:Int)(r:Int)(w:World)(h:bits_OnesCount64.f a0=some r) :
  Calls Try.prog 87 #[.int .u64 a0] w fun e w'=>e= .returned (.int .i64 r)∧Drawn0 w w':=by
 unfold bits_OnesCount64.f at h
 have H:=h
 clear h
 obtain rfl:=ysi H
 go_enter Try.func87,Try.ntmps87
 go_wp2
 go_ret
 exact ⟨yeq,by repeat (first|exact Drawn0.refl _|apply Drawn0.step)⟩
def bits_OnesCount.f (a0:Int):Option (Int):=(bits_OnesCount64.f a0).bind fun t432=>(some t432)
theorem bits_OnesCount.calls (a0:Int)(r:Int)(w:World)(h:bits_OnesCount.f a0=some r) :
  Calls Try.prog 75 #[.int .u64 a0] w fun e w'=>e= .returned (.int .i64 r)∧Drawn0 w w':=by
 unfold bits_OnesCount.f at h
 have H:=h
 clear h
 replace H:=ybi H;obtain ⟨t432,A2,H⟩:=H
 try dsimp only at H
 obtain rfl:=ysi H
 go_enter Try.func75,Try.ntmps75
 go_wp2_with (first|(refine goesL_ (some 7) rfl rfl Try.func87 (by kernel_rfl) rfl #[.int .u64 a0] rfl ymd ?_;(with_reducible refine (bits_OnesCount64.calls a0 t432 _ A2.out).mono ?_);rintro e w' ⟨rfl,⟨nd,rfl⟩⟩;refine ⟨_,rfl,?_⟩))
 go_ret
 exact ⟨yeq,by repeat (first|exact Drawn0.refl _|apply Drawn0.step)⟩
mutual
def impl_NarrowPairs.l0:Nat→List Int→Int→List Int→Int→Int→Option (List Int)
 | 0,_,_,_,_,_=>none
 | k + 1,x0,x1,x5,x21,x22=>if x22 < x21 then ((impl_LineCells.f k x1 x22).bind fun t437=>(impl_NarrowPairs.l1 k x0 x1 x5 t437 x21 x22 t437 (t437.length:Int) 0)) else (some x5)
def impl_NarrowPairs.l1:Nat→List Int→Int→List Int→List Int→Int→Int→List Int→Int→Int→Option (List Int)
 | 0,_,_,_,_,_,_,_,_,_=>none
 | k + 1,x0,x1,x5,x7,x21,x22,x28,x29,x30=>if x30 < x29 then (if 0≤x30 then (if x30 < (x28.length:Int) then (if 0≤(wrap64 (x30 + 1)) then (if (wrap64 (x30 + 1))≤(x7.length:Int) then ((some (x7.drop ((wrap64 (x30 + 1)):Int).toNat:List Int)).bind fun y441=>(impl_NarrowPairs.l2 k x0 x1 x5 x7 (rd x28 x30) x21 x22 x28 x29 x30 y441 (y441.length:Int) 0)) else (none)) else (none)) else (none)) else (none)) else (impl_NarrowPairs.l0 k x0 x1 x5 x21 (wrap64 (x22 + 1)))
def impl_NarrowPairs.l2:Nat→List Int→Int→List Int→List Int→Int→Int→Int→List Int→Int→Int→List Int→Int→Int→Option (List Int)
 | 0,_,_,_,_,_,_,_,_,_,_,_,_,_=>none
 | k + 1,x0,x1,x5,x7,x9,x21,x22,x28,x29,x30,x38,x39,x40=>if x40 < x39 then (if 0≤x40 then (if x40 < (x38.length:Int) then (if 0≤x9 then (if x9 < (x0.length:Int) then (if 0≤(rd x38 x40) then (if (rd x38 x40) < (x0.length:Int) then (if (rd x0 x9)=(rd x0 (rd x38 x40)) then ((bits_OnesCount.f (IntKind.u64.wrap (rd x0 x9))).bind fun t449=>(impl_NarrowPairs.j3 k x0 x1 x5 x7 x9 (rd x38 x40) x21 x22 x28 x29 x30 x38 x39 x40 (t449 != 2))) else (impl_NarrowPairs.j3 k x0 x1 x5 x7 x9 (rd x38 x40) x21 x22 x28 x29 x30 x38 x39 x40 true)) else (none)) else (none)) else (none)) else (none)) else (none)) else (none)) else (impl_NarrowPairs.l1 k x0 x1 x5 x7 x21 x22 x28 x29 (wrap64 (x30 + 1)))
def impl_NarrowPairs.j3:Nat→List Int→Int→List Int→List Int→Int→Int→Int→Int→List Int→Int→Int→List Int→Int→Int→Bool→Option (List Int)
 | 0,_,_,_,_,_,_,_,_,_,_,_,_,_,_,_=>none
 | k + 1,x0,x1,x5,x7,x9,x11,x21,x22,x28,x29,x30,x38,x39,x40,x61=>if x61=true then (impl_NarrowPairs.l2 k x0 x1 x5 x7 x9 x21 x22 x28 x29 x30 x38 x39 (wrap64 (x40 + 1))) else (impl_NarrowPairs.l3 k x0 x1 x5 x7 x9 x11 x21 x22 x28 x29 x30 x38 x39 x40 x7 (x7.length:Int) 0)
def impl_NarrowPairs.l3:Nat→List Int→Int→List Int→List Int→Int→Int→Int→Int→List Int→Int→Int→List Int→Int→Int→List Int→Int→Int→Option (List Int)
 | 0,_,_,_,_,_,_,_,_,_,_,_,_,_,_,_,_,_=>none
 | k + 1,x0,x1,x5,x7,x9,x11,x21,x22,x28,x29,x30,x38,x39,x40,x62,x63,x64=>if x64 < x63 then (if 0≤x64 then (if x64 < (x62.length:Int) then (if (rd x62 x64)=x9 then (impl_NarrowPairs.l3 k x0 x1 x5 x7 x9 x11 x21 x22 x28 x29 x30 x38 x39 x40 x62 x63 (wrap64 (x64 + 1))) else (if (rd x62 x64)=x11 then (impl_NarrowPairs.l3 k x0 x1 x5 x7 x9 x11 x21 x22 x28 x29 x30 x38 x39 x40 x62 x63 (wrap64 (x64 + 1))) else (if 0≤(rd x62 x64) then (if (rd x62 x64) < (x5.length:Int) then (if 0≤x9 then (if x9 < (x0.length:Int) then (impl_NarrowPairs.l3 k x0 x1 (x5.set ((rd x62 x64):Int).toNat (Go.bits .andNot .i64 (rd x5 (rd x62 x64)) (rd x0 x9))) x7 x9 x11 x21 x22 x28 x29 x30 x38 x39 x40 x62 x63 (wrap64 (x64 + 1))) else (none)) else (none)) else (none)) else (none)))) else (none)) else (none)) else (impl_NarrowPairs.l2 k x0 x1 x5 x7 x9 x21 x22 x28 x29 x30 x38 x39 (wrap64 (x40 + 1)))
end
def impl_NarrowPairs.f (k:Nat)(l0:List Int)(a1:Int):Option (List Int):=(impl_MasksValid.f k l0 a1).bind fun t433=>(if t433=true then ((slices_Clone_int_int.f l0).bind fun t434=>(impl_NarrowPairs.l0 k l0 a1 t434 (wrap64 (2 * a1)) 0)) else (some ([]:List Int)))
def impl_NarrowPairs.T14:Bool × List (List Nat × List Nat):=(true,[([],[]),([],[]),([0,1],[0,1]),([2],[2]),([],[]),([],[]),([4,5],[4,5]),([6],[6]),([3,7],[3,7]),([8],[8]),([9],[9]),([9],[9]),([10,11,9],[9,10,11]),([12,9],[9,12]),([13,9],[9,13]),([14,9,9],[9,14]),([15,9],[9,15]),([9,16],[9,16])])
def impl_NarrowPairs.B14:List Nat:=[0,0,3,7,0,0,48,112,255,511,1023,1023,4095,8191,16383,32767,65535,131071]
theorem impl_NarrowPairs.tab14:rtab .any (opsOf Try.f60 14)=impl_NarrowPairs.T14:=by kernel_rfl
theorem impl_NarrowPairs.bits14:waitsOk impl_NarrowPairs.T14.2 impl_NarrowPairs.B14=true:=by kernel_rfl
def impl_NarrowPairs.T19:Bool × List (List Nat × List Nat):=(true,[([],[]),([],[]),([0,1],[0,1]),([2],[2]),([],[]),([],[]),([4,5],[4,5]),([6],[6]),([3,7],[3,7]),([0,1,0,1,2,3,4,5,6,7,8],[0,1]),([9,8,0,1,2,3,4,5,6,7,8],[8,9])])
def impl_NarrowPairs.B19:List Nat:=[0,0,3,7,0,0,48,112,255,511,1023]
theorem impl_NarrowPairs.tab19:rtab .any (opsOf Try.f60 19)=impl_NarrowPairs.T19:=by kernel_rfl
theorem impl_NarrowPairs.bits19:waitsOk impl_NarrowPairs.T19.2 impl_NarrowPairs.B19=true:=by kernel_rfl
theorem impl_NarrowPairs.calls (k:Nat)(A0:Option Addr)(c0:Nat)(l0:List Int)(a1:Int)(r:List Int)(w:World)(hr0:Kd.C (Kd.int .i64) w A0 l0.length l0)(hc0:l0.length≤c0)(h:impl_NarrowPairs.f k l0 a1=some r) :
  Calls Try.prog 60 #[.slice A0 l0.length c0,.int .i64 a1] w fun e w'=>∃ v0_:Value,e= .returned (v0_)∧Kd.R (Kd.int .i64) 3 w' w.heap.size (fun _=>True) v0_ r∧Below w.heap.size w w':=by
 have HR0:=yam hr0
 have HC0:=yam hc0
 clear hr0 hc0
 have HB:=yam (Below.refl w.heap.size w)
 unfold impl_NarrowPairs.f at h
 have H:=h
 clear h
 replace H:=ybi H;obtain ⟨t433,A3,H⟩:=H
 try dsimp only at H
 cases t433
 ·replace H:=yff H
  obtain rfl:=ysi H
  go_enter Try.func60,Try.ntmps60
  go_wp2_with (first|(refine goesL_ (some 16) rfl rfl Try.func63 (by kernel_rfl) rfl #[.slice A0 l0.length c0,.int .i64 a1] rfl ymd ?_;(with_reducible refine (impl_MasksValid.calls k _ _ l0 a1 false _ ?_ ?_ A3.out).mono ?_);exact Kd.Cz (HR0.out);exact HC0.out;rintro e w' ⟨rfl,⟨nd,rfl⟩⟩;refine ⟨_,rfl,?_⟩))
  go_ret
  exact ⟨_,yer,by first|exact Kd.R_nil _ _ _ _ _|exact Kd.N_nil _ _ _ _ _|exact Kd.V_nil _ _ _ _ _|exact Kd.Q_nil _ _ _ _ _|exact Kd.S_nil _ _ _ _ _,yhb⟩
 replace H:=ytt H
 replace H:=ybi H;obtain ⟨t434,A5,H⟩:=H
 try dsimp only at H
 replace H:=yam H
 go_enter Try.func60,Try.ntmps60
 go_wp2_with (first|(refine goesL_ (some 16) rfl rfl Try.func63 (by kernel_rfl) rfl #[.slice A0 l0.length c0,.int .i64 a1] rfl ymd ?_;(with_reducible refine (impl_MasksValid.calls k _ _ l0 a1 true _ ?_ ?_ A3.out).mono ?_);exact Kd.Cz (HR0.out);exact HC0.out;rintro e w' ⟨rfl,⟨nd,rfl⟩⟩;refine ⟨_,rfl,?_⟩)|(refine goesL_ (some 19) rfl rfl Try.func64 (by kernel_rfl) rfl #[.slice A0 l0.length c0] rfl ymd ?_;(with_reducible refine (slices_Clone_int_int.calls _ _ l0 t434 _ ?_ ?_ A5.out).mono ?_);exact Kd.Cz (HR0.out);exact HC0.out;rintro e w6 ⟨v435,rfl,ho0,hb⟩;refine ⟨_,rfl,?_⟩;have HO436:=yam (Kd.R_lower ho0 (below_size (yez HB.out)));replace HB:=yam (below_step (yez HB.out) hb);(try clear hb);(try clear ho0)))
 go_loopg [22] k (fun kq v22 w'=>∃ (x5_1:List Int) (x22_1:Int),v22= .int .i64 x22_1∧Aside0 (impl_NarrowPairs.l0 kq l0 a1 x5_1 (wrap64 (2 * a1)) x22_1=some r)∧Aside0 (kq≤k)∧Aside0 (Kd.R (Kd.int .i64) 3 w' w.heap.size (fun _=>True) v435 x5_1)∧Aside0 (Below w.heap.size w w'))
 case atStart=>exact ⟨(t434),(0),yeq,H,⟨Nat.le_refl _⟩,⟨yka HO436.out⟩,⟨yhb⟩⟩
 case round =>
  clear H
  obtain ⟨x5_1,x22_1,rfl,HA,HK1,HO_5,HB⟩:=hrel
  rcases gk with _|k1
  ·exact absurd HA.out (by simp [impl_NarrowPairs.l0])
  obtain ⟨H⟩:=HA
  simp only [impl_NarrowPairs.l0] at H
  replace H:=yis H;obtain ⟨c7b0,H⟩ | ⟨c7b0,H⟩:=H
  rotate_left
  ·obtain rfl:=ysi H
   go_wp2
   go_ret
   exact ⟨_,yer,yka HO_5.out,yhb⟩
  replace H:=ybi H;obtain ⟨t437,A8,H⟩:=H
  try dsimp only at H
  replace H:=yam H
  go_wp2_with (first|(refine goesL_ (some 27) rfl rfl Try.func82 (by kernel_rfl) rfl #[.int .i64 a1,.int .i64 x22_1] rfl ymd ?_;(with_reducible refine (impl_LineCells.calls k1 a1 x22_1 t437 _ A8.out).mono ?_);rintro e w9 ⟨v438,rfl,ho0,hb⟩;refine ⟨_,rfl,?_⟩;have HO439:=yam (Kd.R_lower (Kd.Yw ho0 (Kd.R_lt (Kd.Yz HO_5.out))) (below_size (yez HB.out)));replace HO_5:=yam (Kd.Ye (Kd.Yz HO_5.out) (Kd.Yb ho0) hb);replace HB:=yam (below_step (yez HB.out) hb);(try clear hb);(try clear ho0);obtain ⟨Ao10,co10,eo10⟩:=Kd.R_slice HO439.out;subst eo10))
  go_loopg [30] k1 (fun kq v30 w'=>∃ (x5_2:List Int) (x30_2:Int),v30= .int .i64 x30_2∧Aside0 (impl_NarrowPairs.l1 kq l0 a1 x5_2 t437 (wrap64 (2 * a1)) x22_1 t437 (t437.length:Int) x30_2=some r)∧Aside0 (kq≤k1)∧Aside0 (Kd.R (Kd.int .i64) 3 w' w.heap.size (fun k_=>some k_≠((.slice Ao10 t437.length co10):Value).ownBlock∧some k_≠((.slice Ao10 t437.length co10):Value).ownBlock) v435 x5_2)∧Aside0 (Kd.R (Kd.int .i64) 3 w' w.heap.size (fun k_=>some k_≠(v435:Value).ownBlock) (.slice Ao10 t437.length co10) t437)∧Aside0 (Kd.R (Kd.int .i64) 3 w' w.heap.size (fun k_=>some k_≠(v435:Value).ownBlock) (.slice Ao10 t437.length co10) t437)∧Aside0 (Below w.heap.size w w'))
  case atStart=>exact ⟨(x5_1),(0),yeq,H,⟨Nat.le_refl _⟩,⟨by (with_reducible repeat (first|apply Kd.Ya|apply Kd.Yn|apply Kd.Yd));exact Kd.R_mono HO_5.out (fun _ hk=>⟨hk.2,hk.2⟩)⟩,⟨by (with_reducible repeat (first|apply Kd.Ya|apply Kd.Yn|apply Kd.Yd));exact Kd.R_mono HO439.out (fun _ hk=>hk.2)⟩,⟨by (with_reducible repeat (first|apply Kd.Ya|apply Kd.Yn|apply Kd.Yd));exact Kd.R_mono HO439.out (fun _ hk=>hk.2)⟩,⟨yhb⟩⟩
  case round =>
   clear H
   try clear c7b0
   obtain ⟨x5_2,x30_2,rfl,HA,HK2,HO_5,HO_7,HO_28,HB⟩:=hrel
   rcases gk with _|k2
   ·exact absurd HA.out (by simp [impl_NarrowPairs.l1])
   obtain ⟨H⟩:=HA
   simp only [impl_NarrowPairs.l1] at H
   replace H:=yis H;obtain ⟨c11b0,H⟩ | ⟨c11b0,H⟩:=H
   rotate_left
   ·replace H:=yam H
    go_wp2
    go_roundg k2
    case measure=>have:=HK1.out;have:=HK2.out;omega
    case rel=>exact ⟨(x5_2),(wrap64 (x22_1 + 1)),yeq,H,⟨by have:=HK1.out;have:=HK2.out;omega⟩,⟨by (with_reducible repeat (first|apply Kd.Ya|apply Kd.Yn|apply Kd.Yd));exact Kd.R_mono HO_5.out (fun _ hk=>trivial)⟩,⟨yhb⟩⟩
   replace H:=yif H;obtain ⟨c12b0,H⟩:=H
   replace H:=yif H;obtain ⟨c13b0,H⟩:=H
   obtain ⟨ji14,hji14⟩:∃ j_:Int,(wrap64 (x30_2 + 1))=j_:=⟨_,rfl⟩
   replace H:(if 0≤(ji14) then (if (ji14)≤(t437.length:Int) then ((some (t437.drop ((ji14):Int).toNat:List Int)).bind fun y441=>(impl_NarrowPairs.l2 k2 l0 a1 x5_2 t437 (rd t437 x30_2) (wrap64 (2 * a1)) x22_1 t437 (t437.length:Int) x30_2 y441 (y441.length:Int) 0)) else (none)) else (none))=some r:=by first|(rw [hji14] at H;exact H)|(simp only [hji14] at H ⊢;exact H)
   have hji14w:(IntKind.i64.wrap (x30_2 + 1))=ji14:=(i64_w _).trans hji14
   replace H:=yig H;obtain ⟨c15,H⟩:=H
   have c15b0:=eq_true c15
   have c15b1:decide (0≤(ji14))=true:=decide_eq_true c15
   clear c15
   replace H:=yig H;obtain ⟨c16,H⟩:=H
   have c16b0:=eq_true c16
   have c16b1:decide ((ji14)≤(t437.length:Int))=true:=decide_eq_true c16
   clear c16
   obtain ⟨y441,Ny441⟩:∃ y_:List Int,Aside0 (y_=(t437.drop ((ji14):Int).toNat)):=⟨_,⟨rfl⟩⟩
   replace H:(impl_NarrowPairs.l2 k2 l0 a1 x5_2 t437 (rd t437 x30_2) (wrap64 (2 * a1)) x22_1 t437 (t437.length:Int) x30_2 y441 (y441.length:Int) 0)=some r:=yhn Ny441.out H
   replace H:=yam H
   obtain ⟨ad440,e440,hx440_0,p440,q440⟩:=yat (Kd.Yr HO_28.out).2.2 x30_2
   cases e440
   have q17:((ji14):Int)≤((t437.length:Int):Int):=ydt
   obtain ⟨i017,hi017,_,hsz17,_⟩:=info_parts info3
   have hroom17:t437.length≤co10:=(Kd.Yr HO_7.out).2.1
   have hC17:Kd.C (Kd.int .i64) _ (some ad440) t437.length t437:=(Kd.Yr HO_7.out).2.2
   have q017:(0:Int)≤((ji14):Int):=ydt
   have hcut17:=cut_from (P:=Try.prog) 22 3 .i64 Try.underlying22 hi017 1 hsz17 (some ad440) t437.length co10 (ji14) q017 q17
   have hr17:=Kd.C_drop (m:=((ji14):Int).toNat) (c:=co10) hC17 (by omega) hroom17
   obtain ⟨A17,hA17⟩:∃ A1,A1=(if co10=((ji14):Int).toNat then (some ad440) else ((some ad440):Option Addr).map (·.add (((ji14):Int).toNat * 1))):=⟨_,rfl⟩
   obtain ⟨c17,hc17⟩:∃ c1,c1=co10 - ((ji14):Int).toNat:=⟨_,rfl⟩
   have hy17:y441.length=t437.length - ((ji14):Int).toNat:=(by rw [Ny441.out,List.length_drop] <;> omega)
   rw [show (t437).drop ((ji14):Int).toNat=y441 from Ny441.out.symm] at hr17
   replace hr17:Kd.C (Kd.int .i64) _ A17 y441.length y441:=(by rw [hA17];exact hr17)
   rw [← hy17,← hA17,← hc17] at hcut17
   have HR444:=yam hr17
   have HC444:=yam (show y441.length≤c17 from by rw [hy17,hc17];exact Nat.sub_le_sub_right hroom17 _)
   clear hr17 hC17 hroom17 hi017 hsz17 hc17
   have KY17:=yam hy17
   have KA17:=yam hA17
   clear hy17 hA17
   have KL17:=yam (show ((ji14):Int).toNat≤t437.length from by omega)
   replace q17:=eq_true q17
   go_wp2
   go_loopg [40] k2 (fun kq v40 w'=>∃ (x5_3:List Int) (x40_3:Int),v40= .int .i64 x40_3∧Aside0 (impl_NarrowPairs.l2 kq l0 a1 x5_3 t437 (rd t437 x30_2) (wrap64 (2 * a1)) x22_1 t437 (t437.length:Int) x30_2 y441 (y441.length:Int) x40_3=some r)∧Aside0 (kq≤k2)∧Aside0 (Kd.R (Kd.int .i64) 3 w' w.heap.size (fun k_=>some k_≠((.slice (some ad440) t437.length co10):Value).ownBlock∧some k_≠((.slice (some ad440) t437.length co10):Value).ownBlock) v435 x5_3)∧Aside0 (Kd.R (Kd.int .i64) 3 w' w.heap.size (fun k_=>some k_≠(v435:Value).ownBlock) (.slice (some ad440) t437.length co10) t437)∧Aside0 (Kd.R (Kd.int .i64) 3 w' w.heap.size (fun k_=>some k_≠(v435:Value).ownBlock) (.slice (some ad440) t437.length co10) t437)∧Aside0 (Kd.C (Kd.int .i64) w' A17 y441.length y441)∧Aside0 (Below w.heap.size w w'))
   case atStart=>exact ⟨(x5_2),(0),yeq,H,⟨Nat.le_refl _⟩,⟨yka HO_5.out⟩,⟨yka HO_7.out⟩,⟨yka HO_28.out⟩,⟨by repeat (first|(with_reducible exact HR444.out)|(with_reducible refine Kd.C_alloc ?_ _)|(with_reducible refine Kd.C_drewN ?_ _)|(with_reducible refine Kd.C_drew ?_)|exact HR444.out)⟩,⟨yhb⟩⟩
   case round =>
    clear H
    try clear c1
    try clear c11b0
    try clear c12b0
    try clear c13b0
    try clear c15b0
    try clear c15b1
    try clear c16b0
    try clear c16b1
    try clear c17
    try clear q17
    try clear hx440_0
    try clear p440
    try clear q017
    try clear q440
    obtain ⟨x5_3,x40_3,rfl,HA,HK3,HO_5,HO_7,HO_28,HR444,HB⟩:=hrel
    rcases gk with _|k3
    ·exact absurd HA.out (by simp [impl_NarrowPairs.l2])
    obtain ⟨H⟩:=HA
    simp only [impl_NarrowPairs.l2] at H
    replace H:=yis H;obtain ⟨c18b0,H⟩ | ⟨c18b0,H⟩:=H
    rotate_left
    ·replace H:=yam H
     go_wp2
     go_roundg k3
     case measure=>have:=HK1.out;have:=HK2.out;have:=HK3.out;omega
     case rel=>exact ⟨(x5_3),(wrap64 (x30_2 + 1)),yeq,H,⟨by have:=HK1.out;have:=HK2.out;have:=HK3.out;omega⟩,⟨yka HO_5.out⟩,⟨yka HO_7.out⟩,⟨yka HO_28.out⟩,⟨yhb⟩⟩
    replace H:=yif H;obtain ⟨c19b0,H⟩:=H
    replace H:=yif H;obtain ⟨c20b0,H⟩:=H
    have HC21:=yam H
    clear H
    obtain ⟨ad445,e445,hx445_0,p445,q445⟩:=yat (by repeat (first|(with_reducible exact HR444.out)|(with_reducible refine Kd.C_alloc ?_ _)|(with_reducible refine Kd.C_drewN ?_ _)|(with_reducible refine Kd.C_drew ?_)|exact HR444.out)) x40_3
    cases e445
    go_upto_region 14 with (fail)
    go_cut [61] (fun v61 wc=>∃ (kq:Nat) (x61_20:Bool),v61= .bool x61_20∧Aside0 (impl_NarrowPairs.j3 kq l0 a1 x5_3 t437 (rd t437 x30_2) (rd y441 x40_3) (wrap64 (2 * a1)) x22_1 t437 (t437.length:Int) x30_2 y441 (y441.length:Int) x40_3 x61_20=some r)∧Aside0 (kq≤k3)∧Aside0 (Kd.R (Kd.int .i64) 3 wc w.heap.size (fun k_=>some k_≠((.slice (some ad440) t437.length co10):Value).ownBlock∧some k_≠((.slice (some ad440) t437.length co10):Value).ownBlock) v435 x5_3)∧Aside0 (Kd.R (Kd.int .i64) 3 wc w.heap.size (fun k_=>some k_≠(v435:Value).ownBlock) (.slice (some ad440) t437.length co10) t437)∧Aside0 (Kd.R (Kd.int .i64) 3 wc w.heap.size (fun k_=>some k_≠(v435:Value).ownBlock) (.slice (some ad440) t437.length co10) t437)∧Aside0 (Kd.C (Kd.int .i64) wc (some ad445) y441.length y441)∧Aside0 (Below w.heap.size w wc))
    case first =>
     have H:=HC21.out
     clear HC21
     replace H:=yif H;obtain ⟨c22b0,H⟩:=H
     (first|rw [c22b0]|(simp only [i64_w,i32_w];rw [c22b0])|skip)
     replace H:=yif H;obtain ⟨c23b0,H⟩:=H
     replace H:=yif H;obtain ⟨c24b0,H⟩:=H
     replace H:=yif H;obtain ⟨c25b0,H⟩:=H
     replace H:=yit H;obtain ⟨c26,H⟩ | ⟨c26,H⟩:=H
     rotate_left
     ·have c26b0:((rd l0 (rd t437 x30_2)) == (rd l0 (rd y441 x40_3)))=false:=beq_eq_false_iff_ne.mpr c26
      have c26b1:((rd l0 (rd t437 x30_2)) != (rd l0 (rd y441 x40_3)))=true:=bne_iff_ne.mpr c26
      replace H:=yam H
      try go_wp2
      replace HO_5:=yam (Kd.Yd HO_5.out)
      replace HO_7:=yam (Kd.Yd HO_7.out)
      replace HO_28:=yam (Kd.Yd HO_28.out)
      replace HR444:=yam (Kd.C_drew HR444.out)
      replace HB:=yam (yed HB.out)
      obtain ⟨ad446,e446,hx446_0,p446,q446⟩:=yat HR0.out (rd t437 x30_2)
      have hw446_0:=hx446_0
      cases e446
      replace hx446_0:=ybx HB.out hx446_0
      obtain ⟨ad447,e447,hx447_0,p447,q447⟩:=yat HR0.out (rd y441 x40_3)
      have hw447_0:=hx447_0
      obtain rfl:ad446=ad447:=(by injection e447)
      replace hx447_0:=ybx HB.out hx447_0
      refine start_ (n:=18) (S:=fun w'=>w'.cell? (ad446.add ((rd t437 x30_2)).toNat)=some (.int .i64 (rd l0 (rd t437 x30_2)))∧w'.cell? (ad446.add ((rd y441 x40_3)).toNat)=some (.int .i64 (rd l0 (rd y441 x40_3)))) (ds:=[]) (yvb 18 0) (by kernel_rfl) rfl rfl ⟨((HB.out.cell (World.block_lt_of_cell? w _ hw446_0)).trans hw446_0),((HB.out.cell (World.block_lt_of_cell? w _ hw447_0)).trans hw447_0)⟩ (fun hHeld=>?_);refine with_tabW impl_NarrowPairs.tab14 impl_NarrowPairs.bits14 (fun HT_ HW_=>?_)
      generalize wr.drew=w29 at HO_5 HO_7 HO_28 HR444 HB hx446_0 hx447_0 hHeld ⊢
      refine yvp 0 44 (yvb 18 1) HT_.out ?_
      refine yvp 1 45 (yvb 18 3) HT_.out ?_
      refine yvp 2 46 (yvb 18 7) HT_.out ?_
      refine yvp 4 48 (yvb 18 23) HT_.out ?_
      refine yvp 5 49 (yvb 18 55) HT_.out ?_
      refine yvp 6 50 (yvb 18 119) HT_.out ?_
      refine yvt 3 47 (yvb 18 127) HT_.out HW_.out hHeld ?_
      refine yvt 7 51 (yvb 18 255) HT_.out HW_.out hHeld ?_
      refine yvp 8 52 (yvb 18 511) HT_.out ?_
      refine yvp 9 53 (yvb 18 1023) HT_.out ?_
      refine yvu 10 54 (yvb 18 2047) HT_.out ?_
      refine yvu 11 55 (yvb 18 4095) HT_.out ?_
      refine yvu 12 56 (yvb 18 8191) HT_.out ?_
      refine yvu 13 57 (yvb 18 16383) HT_.out ?_
      refine yvu 14 58 (yvb 18 32767) HT_.out ?_
      refine yvu 15 59 (yvb 18 65535) HT_.out ?_
      refine yvu 16 60 (yvb 18 131071) HT_.out ?_
      refine yvp 17 61 (yvb 18 262143) HT_.out ?_
      refine done_ (done_of HT_.out (by kernel_rfl)) ?_
      try go_wp2
      go_meet
      case rel=>exact ⟨_,(true),yeq,H,⟨by have:=HK1.out;have:=HK2.out;have:=HK3.out;first|omega|exact Nat.le_refl _⟩,⟨yka HO_5.out⟩,⟨yka HO_7.out⟩,⟨yka HO_28.out⟩,⟨by repeat (first|(with_reducible exact HR444.out)|(with_reducible refine Kd.C_alloc ?_ _)|(with_reducible refine Kd.C_drewN ?_ _)|(with_reducible refine Kd.C_drew ?_)|exact HR444.out)⟩,⟨yhb⟩⟩
     have c26b0:((rd l0 (rd t437 x30_2)) == (rd l0 (rd y441 x40_3)))=true:=beq_iff_eq.mpr c26
     have c26b1:((rd l0 (rd t437 x30_2)) != (rd l0 (rd y441 x40_3)))=false:=bne_eq_false_iff_eq.mpr c26
     clear c26
     replace H:=ybi H;obtain ⟨t449,A27,H⟩:=H
     try dsimp only at H
     replace H:=yam H
     try go_wp2
     replace HO_5:=yam (Kd.Yd HO_5.out)
     replace HO_7:=yam (Kd.Yd HO_7.out)
     replace HO_28:=yam (Kd.Yd HO_28.out)
     replace HR444:=yam (Kd.C_drew HR444.out)
     replace HB:=yam (yed HB.out)
     obtain ⟨ad446,e446,hx446_0,p446,q446⟩:=yat HR0.out (rd t437 x30_2)
     have hw446_0:=hx446_0
     cases e446
     replace hx446_0:=ybx HB.out hx446_0
     obtain ⟨ad447,e447,hx447_0,p447,q447⟩:=yat HR0.out (rd y441 x40_3)
     have hw447_0:=hx447_0
     obtain rfl:ad446=ad447:=(by injection e447)
     replace hx447_0:=ybx HB.out hx447_0
     obtain ⟨ad448,e448,hx448_0,p448,q448⟩:=yat HR0.out (rd t437 x30_2)
     have hw448_0:=hx448_0
     obtain rfl:ad446=ad448:=(by injection e448)
     replace hx448_0:=ybx HB.out hx448_0
     refine start_ (n:=18) (S:=fun w'=>w'.cell? (ad446.add ((rd t437 x30_2)).toNat)=some (.int .i64 (rd l0 (rd t437 x30_2)))∧w'.cell? (ad446.add ((rd y441 x40_3)).toNat)=some (.int .i64 (rd l0 (rd y441 x40_3)))∧w'.cell? (ad446.add ((rd t437 x30_2)).toNat)=some (.int .i64 (rd l0 (rd t437 x30_2)))) (ds:=[]) (yvb 18 0) (by kernel_rfl) rfl rfl ⟨((HB.out.cell (World.block_lt_of_cell? w _ hw446_0)).trans hw446_0),((HB.out.cell (World.block_lt_of_cell? w _ hw447_0)).trans hw447_0),((HB.out.cell (World.block_lt_of_cell? w _ hw448_0)).trans hw448_0)⟩ (fun hHeld=>?_);refine with_tabW impl_NarrowPairs.tab14 impl_NarrowPairs.bits14 (fun HT_ HW_=>?_)
     generalize wr.drew=w28 at HO_5 HO_7 HO_28 HR444 HB hx446_0 hx447_0 hx448_0 hHeld ⊢
     refine yvp 0 44 (yvb 18 1) HT_.out ?_
     refine yvp 1 45 (yvb 18 3) HT_.out ?_
     refine yvp 2 46 (yvb 18 7) HT_.out ?_
     refine yvp 4 48 (yvb 18 23) HT_.out ?_
     refine yvp 5 49 (yvb 18 55) HT_.out ?_
     refine yvp 6 50 (yvb 18 119) HT_.out ?_
     refine yvt 3 47 (yvb 18 127) HT_.out HW_.out hHeld ?_
     refine yvt 7 51 (yvb 18 255) HT_.out HW_.out hHeld ?_
     refine yvp 8 52 (yvb 18 511) HT_.out ?_
     refine yvp 9 53 (yvb 18 1023) HT_.out ?_
     refine yvp 10 54 (yvb 18 2047) HT_.out ?_
     refine yvp 11 55 (yvb 18 4095) HT_.out ?_
     refine yvp 12 56 (yvb 18 8191) HT_.out ?_
     refine yvt 13 57 (yvb 18 16383) HT_.out HW_.out hHeld ?_
     refine yvp 14 58 (yvb 18 32767) HT_.out ?_
     refine one_ (i:=15) (N:=some 59) (yvb 18 65535) rfl rfl (one_of HT_.out (by kernel_rfl)) (by decide) (fun K hK=>?_)
     refine goes_ Try.func75 (by kernel_rfl) rfl #[.int .u64 (IntKind.u64.wrap (rd l0 (rd t437 x30_2)))] (by rfl) rfl rfl ymd ?_
     with_reducible refine (bits_OnesCount.calls (IntKind.u64.wrap (rd l0 (rd t437 x30_2))) t449 _ A27.out).mono ?_
     rintro e w' ⟨rfl,⟨nd,rfl⟩⟩
     refine ⟨_,rfl,?_⟩
     refine hK.out _ _ ⟨((HB.out.cell (World.block_lt_of_cell? w _ hw446_0)).trans hw446_0),((HB.out.cell (World.block_lt_of_cell? w _ hw447_0)).trans hw447_0),((HB.out.cell (World.block_lt_of_cell? w _ hw448_0)).trans hw448_0)⟩ (fun hHeld=>?_)
     clear hK K
     refine norm_ (a':=?_) ?_ ?_
     rotate_left
     ·show Act.put _ (some 59) _=_
      simp only [Act.put,yps,i64_w,i32_w]
      rfl
     refine yvp 16 60 (yvb 18 131071) HT_.out ?_
     refine yvp 17 61 (yvb 18 262143) HT_.out ?_
     refine done_ (done_of HT_.out (by kernel_rfl)) ?_
     try go_wp2
     go_meet
     case rel=>exact ⟨_,((t449 != 2)),yeq,H,⟨by have:=HK1.out;have:=HK2.out;have:=HK3.out;first|omega|exact Nat.le_refl _⟩,⟨yka HO_5.out⟩,⟨yka HO_7.out⟩,⟨yka HO_28.out⟩,⟨by repeat (first|(with_reducible exact HR444.out)|(with_reducible refine Kd.C_alloc ?_ _)|(with_reducible refine Kd.C_drewN ?_ _)|(with_reducible refine Kd.C_drew ?_)|exact HR444.out)⟩,⟨yhb⟩⟩
    case rest =>
     clear HC21
     try clear c18b0
     try clear c19b0
     try clear c20b0
     try clear hx445_0
     try clear p445
     try clear q445
     obtain ⟨kq,x61_20,rfl,HA,HJ20,HO_5,HO_7,HO_28,HR444,HB⟩:=hcut
     rcases kq with _|kj20
     ·exact absurd HA.out (by simp [impl_NarrowPairs.j3])
     obtain ⟨H⟩:=HA
     simp only [impl_NarrowPairs.j3] at H
     cases x61_20
     rotate_left
     ·replace H:=ytt H
      replace H:=yam H
      go_wp2
      go_roundg kj20
      case measure=>have:=HK1.out;have:=HK2.out;have:=HK3.out;have:=HJ20.out;omega
      case rel=>exact ⟨(x5_3),(wrap64 (x40_3 + 1)),yeq,H,⟨by have:=HK1.out;have:=HK2.out;have:=HK3.out;have:=HJ20.out;omega⟩,⟨yka HO_5.out⟩,⟨yka HO_7.out⟩,⟨yka HO_28.out⟩,⟨by repeat (first|(with_reducible exact HR444.out)|(with_reducible refine Kd.C_alloc ?_ _)|(with_reducible refine Kd.C_drewN ?_ _)|(with_reducible refine Kd.C_drew ?_)|exact HR444.out)⟩,⟨yhb⟩⟩
     replace H:=yff H
     replace H:=yam H
     go_wp2
     go_loopg [64] kj20 (fun kq v64 w'=>∃ (x5_5:List Int) (x64_5:Int),v64= .int .i64 x64_5∧Aside0 (impl_NarrowPairs.l3 kq l0 a1 x5_5 t437 (rd t437 x30_2) (rd y441 x40_3) (wrap64 (2 * a1)) x22_1 t437 (t437.length:Int) x30_2 y441 (y441.length:Int) x40_3 t437 (t437.length:Int) x64_5=some r)∧Aside0 (kq≤kj20)∧Aside0 (Kd.R (Kd.int .i64) 3 w' w.heap.size (fun k_=>some k_≠((.slice (some ad440) t437.length co10):Value).ownBlock∧some k_≠((.slice (some ad440) t437.length co10):Value).ownBlock∧some k_≠((.slice (some ad440) t437.length co10):Value).ownBlock) v435 x5_5)∧Aside0 (Kd.R (Kd.int .i64) 3 w' w.heap.size (fun k_=>some k_≠(v435:Value).ownBlock) (.slice (some ad440) t437.length co10) t437)∧Aside0 (Kd.R (Kd.int .i64) 3 w' w.heap.size (fun k_=>some k_≠(v435:Value).ownBlock) (.slice (some ad440) t437.length co10) t437)∧Aside0 (Kd.R (Kd.int .i64) 3 w' w.heap.size (fun k_=>some k_≠(v435:Value).ownBlock) (.slice (some ad440) t437.length co10) t437)∧Aside0 (Kd.C (Kd.int .i64) w' (some ad445) y441.length y441)∧Aside0 (Below w.heap.size w w'))
     case atStart=>exact ⟨(x5_3),(0),yeq,H,⟨Nat.le_refl _⟩,⟨by (with_reducible repeat (first|apply Kd.Ya|apply Kd.Yn|apply Kd.Yd));exact Kd.R_mono HO_5.out (fun _ hk=>⟨hk.1,⟨hk.2,hk.1⟩⟩)⟩,⟨yka HO_7.out⟩,⟨yka HO_28.out⟩,⟨yka HO_7.out⟩,⟨by repeat (first|(with_reducible exact HR444.out)|(with_reducible refine Kd.C_alloc ?_ _)|(with_reducible refine Kd.C_drewN ?_ _)|(with_reducible refine Kd.C_drew ?_)|exact HR444.out)⟩,⟨yhb⟩⟩
     case round =>
      clear H
      obtain ⟨x5_5,x64_5,rfl,HA,HK5,HO_5,HO_7,HO_28,HO_62,HR444,HB⟩:=hrel
      rcases gk with _|k5
      ·exact absurd HA.out (by simp [impl_NarrowPairs.l3])
      obtain ⟨H⟩:=HA
      simp only [impl_NarrowPairs.l3] at H
      replace H:=yis H;obtain ⟨c31b0,H⟩ | ⟨c31b0,H⟩:=H
      rotate_left
      ·replace H:=yam H
       go_wp2
       go_roundg k5
       case measure=>have:=HK1.out;have:=HK2.out;have:=HK3.out;have:=HJ20.out;have:=HK5.out;omega
       case rel=>exact ⟨(x5_5),(wrap64 (x40_3 + 1)),yeq,H,⟨by have:=HK1.out;have:=HK2.out;have:=HK3.out;have:=HJ20.out;have:=HK5.out;omega⟩,⟨by (with_reducible repeat (first|apply Kd.Ya|apply Kd.Yn|apply Kd.Yd));exact Kd.R_mono HO_5.out (fun _ hk=>⟨hk.1,hk.2.1⟩)⟩,⟨yka HO_7.out⟩,⟨yka HO_28.out⟩,⟨by repeat (first|(with_reducible exact HR444.out)|(with_reducible refine Kd.C_alloc ?_ _)|(with_reducible refine Kd.C_drewN ?_ _)|(with_reducible refine Kd.C_drew ?_)|exact HR444.out)⟩,⟨yhb⟩⟩
      replace H:=yif H;obtain ⟨c32b0,H⟩:=H
      replace H:=yif H;obtain ⟨c33b0,H⟩:=H
      replace H:=yit H;obtain ⟨c34,H⟩ | ⟨c34,H⟩:=H
      ·have c34b0:((rd t437 x64_5) == (rd t437 x30_2))=true:=beq_iff_eq.mpr c34
       have c34b1:((rd t437 x64_5) != (rd t437 x30_2))=false:=bne_eq_false_iff_eq.mpr c34
       clear c34
       replace H:=yam H
       obtain ⟨ad450,e450,hx450_0,p450,q450⟩:=yat (Kd.Yr HO_62.out).2.2 x64_5
       obtain rfl:ad440=ad450:=(by injection e450)
       go_wp2
       go_roundg k5
       case measure=>have:=HK1.out;have:=HK2.out;have:=HK3.out;have:=HJ20.out;have:=HK5.out;omega
       case rel=>exact ⟨(x5_5),(wrap64 (x64_5 + 1)),yeq,H,⟨by have:=HK1.out;have:=HK2.out;have:=HK3.out;have:=HJ20.out;have:=HK5.out;omega⟩,⟨yka HO_5.out⟩,⟨yka HO_7.out⟩,⟨yka HO_28.out⟩,⟨yka HO_62.out⟩,⟨by repeat (first|(with_reducible exact HR444.out)|(with_reducible refine Kd.C_alloc ?_ _)|(with_reducible refine Kd.C_drewN ?_ _)|(with_reducible refine Kd.C_drew ?_)|exact HR444.out)⟩,⟨yhb⟩⟩
      have c34b0:((rd t437 x64_5) == (rd t437 x30_2))=false:=beq_eq_false_iff_ne.mpr c34
      have c34b1:((rd t437 x64_5) != (rd t437 x30_2))=true:=bne_iff_ne.mpr c34
      replace H:=yit H;obtain ⟨c35,H⟩ | ⟨c35,H⟩:=H
      ·have c35b0:((rd t437 x64_5) == (rd y441 x40_3))=true:=beq_iff_eq.mpr c35
       have c35b1:((rd t437 x64_5) != (rd y441 x40_3))=false:=bne_eq_false_iff_eq.mpr c35
       clear c35
       replace H:=yam H
       obtain ⟨ad450,e450,hx450_0,p450,q450⟩:=yat (Kd.Yr HO_62.out).2.2 x64_5
       obtain rfl:ad440=ad450:=(by injection e450)
       go_wp2
       go_roundg k5
       case measure=>have:=HK1.out;have:=HK2.out;have:=HK3.out;have:=HJ20.out;have:=HK5.out;omega
       case rel=>exact ⟨(x5_5),(wrap64 (x64_5 + 1)),yeq,H,⟨by have:=HK1.out;have:=HK2.out;have:=HK3.out;have:=HJ20.out;have:=HK5.out;omega⟩,⟨yka HO_5.out⟩,⟨yka HO_7.out⟩,⟨yka HO_28.out⟩,⟨yka HO_62.out⟩,⟨by repeat (first|(with_reducible exact HR444.out)|(with_reducible refine Kd.C_alloc ?_ _)|(with_reducible refine Kd.C_drewN ?_ _)|(with_reducible refine Kd.C_drew ?_)|exact HR444.out)⟩,⟨yhb⟩⟩
      have c35b0:((rd t437 x64_5) == (rd y441 x40_3))=false:=beq_eq_false_iff_ne.mpr c35
      have c35b1:((rd t437 x64_5) != (rd y441 x40_3))=true:=bne_iff_ne.mpr c35
      replace H:=yif H;obtain ⟨c36b0,H⟩:=H
      replace H:=yif H;obtain ⟨c37b0,H⟩:=H
      replace H:=yif H;obtain ⟨c38b0,H⟩:=H
      replace H:=yif H;obtain ⟨c39b0,H⟩:=H
      obtain ⟨y453,Ny453⟩:∃ y_:List Int,Aside0 (y_=(x5_5.set ((rd t437 x64_5):Int).toNat (Go.bits .andNot .i64 (rd x5_5 (rd t437 x64_5)) (rd l0 (rd t437 x30_2))))):=⟨_,⟨rfl⟩⟩
      replace H:(impl_NarrowPairs.l3 k5 l0 a1 y453 t437 (rd t437 x30_2) (rd y441 x40_3) (wrap64 (2 * a1)) x22_1 t437 (t437.length:Int) x30_2 y441 (y441.length:Int) x40_3 t437 (t437.length:Int) (wrap64 (x64_5 + 1)))=some r:=yhn Ny453.out H
      replace H:=yam H
      obtain ⟨ad450,e450,hx450_0,p450,q450⟩:=yat (Kd.Yr HO_62.out).2.2 x64_5
      obtain rfl:ad440=ad450:=(by injection e450)
      try go_wp2
      replace HO_5:=yam (Kd.Yd HO_5.out)
      replace HO_7:=yam (Kd.Yd HO_7.out)
      replace HO_28:=yam (Kd.Yd HO_28.out)
      replace HO_62:=yam (Kd.Yd HO_62.out)
      replace HR444:=yam (Kd.C_drew HR444.out)
      replace HB:=yam (yed HB.out)
      obtain ⟨Ao42,co42,eo42⟩:=Kd.R_slice HO_5.out
      (first|subst eo42|(injection eo42 with f1_ f2_ f3_;have f4_:=f1_.symm;have f5_:=f3_.symm;clear f1_ f2_ f3_;subst f4_;subst f5_))
      obtain ⟨ad451,e451,hx451_0,p451,q451⟩:=yat (Kd.Yr HO_5.out).2.2 (rd t437 x64_5)
      cases e451
      obtain ⟨ad452,e452,hx452_0,p452,q452⟩:=yat HR0.out (rd t437 x30_2)
      have hw452_0:=hx452_0
      cases e452
      replace hx452_0:=ybx HB.out hx452_0
      have p40:0≤((rd t437 x64_5):Int):=ydt
      have q40:((rd t437 x64_5):Int) < ((x5_5.length:Int):Int):=ydt
      obtain ⟨go40,co40,eo40,gb40,gl40,cl40,HG40⟩:=Kd.R_form HO_5.out (by omega)
      (first|cases eo40|(injection eo40 with ea_ en_ ec_;(first|subst ea_|(injection ea_ with ea_;subst ea_));subst ec_;clear en_))
      have GB40:=yam gb40
      have GG40:=yam HG40
      clear gb40 gl40 HG40
      (first|simp only [add_plain] at hx451_0|skip)
      obtain ⟨hx40_0,hf40_0⟩:=Kd.R_celln 0 HO_5.out ((rd t437 x64_5):Int) p40 q40
      replace p40:=eq_true p40
      replace q40:=eq_true q40
      have HP43:=Kd.R_putn HO_5.out ((rd t437 x64_5):Int) (Go.bits .andNot .i64 (rd x5_5 (rd t437 x64_5)) (rd l0 (rd t437 x30_2)))
      rw [← Ny453.out] at HP43
      have HQ43:=yam HP43
      clear HP43
      refine start_ (n:=11) (S:=fun w'=>w'.cell? ⟨go40,((rd t437 x64_5)).toNat,none⟩=some (.int .i64 (rd x5_5 (rd t437 x64_5)))∧w'.cell? (ad452.add ((rd t437 x30_2)).toNat)=some (.int .i64 (rd l0 (rd t437 x30_2)))) (ds:=[10]) (yvb 11 0) (by kernel_rfl) rfl rfl ⟨hx451_0,((HB.out.cell (World.block_lt_of_cell? w _ hw452_0)).trans hw452_0)⟩ (fun hHeld=>?_);refine with_tabW impl_NarrowPairs.tab19 impl_NarrowPairs.bits19 (fun HT_ HW_=>?_)
      generalize wr.drew=w41 at HO_5 HO_7 HO_28 HO_62 HR444 HB GG40 HQ43 hf40_0 hx40_0 hx451_0 hx452_0 hHeld ⊢
      refine yvp 0 76 (yvb 11 1) HT_.out ?_
      refine yvp 1 77 (yvb 11 3) HT_.out ?_
      refine yvp 2 78 (yvb 11 7) HT_.out ?_
      refine yvp 4 80 (yvb 11 23) HT_.out ?_
      refine yvp 5 81 (yvb 11 55) HT_.out ?_
      refine yvp 6 82 (yvb 11 119) HT_.out ?_
      refine yvt 3 79 (yvb 11 127) HT_.out HW_.out hHeld ?_
      refine yvt 7 83 (yvb 11 255) HT_.out HW_.out hHeld ?_
      refine yvp 8 84 (yvb 11 511) HT_.out ?_
      refine yvp 9 85 (yvb 11 1023) HT_.out ?_
      refine last_ (i:=10) (N:=none) (yvb 11 2047) rfl rfl (one_of HT_.out (by kernel_rfl)) (by decide) (fun K hK=>?_)
      refine skip_ (w1:=?_) (by rfl) rfl ?_ ?_
      rotate_left
      ·go_simp
       rfl
      refine hK.out _ _ ?_
      clear hK K
      refine done_ (done_of HT_.out (by kernel_rfl)) ?_
      try go_wp2
      go_roundg k5
      case measure=>have:=HK1.out;have:=HK2.out;have:=HK3.out;have:=HJ20.out;have:=HK5.out;omega
      case rel=>exact ⟨(y453),(wrap64 (x64_5 + 1)),yeq,H,⟨by have:=HK1.out;have:=HK2.out;have:=HK3.out;have:=HJ20.out;have:=HK5.out;omega⟩,⟨yka HQ43.out⟩,⟨by (with_reducible repeat (first|apply Kd.Ya|apply Kd.Yn|apply Kd.Yd));exact Kd.R_mono (Kd.R_far (p:=⟨go40,((rd t437 x64_5):Int).toNat,none⟩) (Kd.R_mono HO_7.out (fun k_ hk=>(⟨hk,fun e_=>hk (by rw [e_];rfl)⟩:_∧k_≠go40))) (fun _ hk=>hk.2) (.int .i64 (Go.bits .andNot .i64 (rd x5_5 (rd t437 x64_5)) (rd l0 (rd t437 x30_2))))) (fun _ hk=>hk.1)⟩,⟨by (with_reducible repeat (first|apply Kd.Ya|apply Kd.Yn|apply Kd.Yd));exact Kd.R_mono (Kd.R_far (p:=⟨go40,((rd t437 x64_5):Int).toNat,none⟩) (Kd.R_mono HO_28.out (fun k_ hk=>(⟨hk,fun e_=>hk (by rw [e_];rfl)⟩:_∧k_≠go40))) (fun _ hk=>hk.2) (.int .i64 (Go.bits .andNot .i64 (rd x5_5 (rd t437 x64_5)) (rd l0 (rd t437 x30_2))))) (fun _ hk=>hk.1)⟩,⟨by (with_reducible repeat (first|apply Kd.Ya|apply Kd.Yn|apply Kd.Yd));exact Kd.R_mono (Kd.R_far (p:=⟨go40,((rd t437 x64_5):Int).toNat,none⟩) (Kd.R_mono HO_62.out (fun k_ hk=>(⟨hk,fun e_=>hk (by rw [e_];rfl)⟩:_∧k_≠go40))) (fun _ hk=>hk.2) (.int .i64 (Go.bits .andNot .i64 (rd x5_5 (rd t437 x64_5)) (rd l0 (rd t437 x30_2))))) (fun _ hk=>hk.1)⟩,⟨by have hz0_:=(Kd.R_mono (Kd.R_far (p:=⟨go40,((rd t437 x64_5):Int).toNat,none⟩) (Kd.R_mono HO_7.out (fun k_ hk=>(⟨hk,fun e_=>hk (by rw [e_];rfl)⟩:_∧k_≠go40))) (fun _ hk=>hk.2) (.int .i64 (Go.bits .andNot .i64 (rd x5_5 (rd t437 x64_5)) (rd l0 (rd t437 x30_2))))) (fun _ h_=>h_.1));have hz1_:=Kd.C_drop (m:=((ji14):Int).toNat) (c:=co10) (Kd.Yr hz0_).2.2 KL17.out (Kd.Yr hz0_).2.1;rw [show (Kd.int .i64).sz=1 from rfl,← KA17.out,← Ny441.out] at hz1_;exact hz1_⟩,⟨yhb⟩⟩
def impl_valuesHold.l0:Nat→List Int→Int→Int→List Int→Int→Int→Int→List Int→Int→Option (Bool)
 | 0,_,_,_,_,_,_,_,_,_=>none
 | k + 1,x1,x5,x6,x9,x10,x11,x455000,x455001,x455002=>if x11 < x10 then (if 0≤x11 then (if x11 < (x9.length:Int) then (if x455000=1 then (if x11≤(x1.length:Int) then ((slices_Contains_int_int.f k (x1.take (x11:Int).toNat) (rd x9 x11)).bind fun t457=>(if t457=true then (some false) else (impl_valuesHold.l0 k x1 (wrap64 (x5 + (rd x9 x11))) (wrap64 (x6 * (rd x9 x11))) x9 x10 (wrap64 (x11 + 1)) x455000 x455001 x455002))) else (none)) else (impl_valuesHold.l0 k x1 (wrap64 (x5 + (rd x9 x11))) (wrap64 (x6 * (rd x9 x11))) x9 x10 (wrap64 (x11 + 1)) x455000 x455001 x455002)) else (none)) else (none)) else (if x455000=2 then (some (x5 == x455002)) else (if x455000=3 then (some (x6 == x455002)) else (if x455000=4 then (if 0 < (x1.length:Int) then (if 1 < (x1.length:Int) then (some (decide ((rd x1 0) < (rd x1 1)))) else (none)) else (none)) else (if x455000=5 then (if 0 < (x1.length:Int) then (if 1 < (x1.length:Int) then (some ((mx (wrap64 ((rd x1 0) - (rd x1 1))) (wrap64 ((rd x1 1) - (rd x1 0)))) == x455002)) else (none)) else (none)) else (some true)))))
def impl_valuesHold.f (k:Nat)(a0_0:Int)(l0_1:List Int)(a0_2:Int)(l1:List Int):Option (Bool):=impl_valuesHold.l0 k l1 0 1 l1 (l1.length:Int) 0 a0_0 l0_1 a0_2
theorem impl_valuesHold.calls (k:Nat)(a0_0:Int)(A0_1:Option Addr)(c0_1:Nat)(l0_1:List Int)(a0_2:Int)(A1:Option Addr)(c1:Nat)(l1:List Int)(r:Bool)(w:World)(hr0_1:Kd.C (Kd.int .i64) w A0_1 l0_1.length l0_1)(hc0_1:l0_1.length≤c0_1)(hr1:Kd.C (Kd.int .i64) w A1 l1.length l1)(hc1:l1.length≤c1)(h:impl_valuesHold.f k a0_0 l0_1 a0_2 l1=some r) :
  Calls Try.prog 99 #[.agg #[.int .i64 a0_0,.slice A0_1 l0_1.length c0_1,.int .i64 a0_2],.slice A1 l1.length c1] w fun e w'=>e= .returned (.bool r)∧Below w.heap.size w w':=by
 have hu67:=Try.underlying67
 have HR0_1:=yam hr0_1
 have HC0_1:=yam hc0_1
 clear hr0_1 hc0_1
 have HR1:=yam hr1
 have HC1:=yam hc1
 clear hr1 hc1
 have HB:=yam (Below.refl w.heap.size w)
 unfold impl_valuesHold.f at h
 have H:=h
 clear h
 replace H:=yam H
 go_enter Try.func99,Try.ntmps99
 go_wp2_with (first|(refine ybe 2 #[.int .i64 a0_0,.slice A0_1 l0_1.length c0_1,.int .i64 a0_2] 67 ?_;intro gb454 hg w3 hbox hb;have BK454:=yam (hbox);have GW454:=yam ((by rw [hg];exact (below_size (yez HB.out)):w.heap.size≤gb454));replace HB:=yam (below_step (yez HB.out) hb);have GE454:=GW454;clear hb hbox hg))
 repeat (go_quiet (first|(refine ybe 2 #[.int .i64 a0_0,.slice A0_1 l0_1.length c0_1,.int .i64 a0_2] 67 ?_;intro gb454 hg w3 hbox hb;have BK454:=yam (hbox);have GW454:=yam ((by rw [hg];exact (below_size (yez HB.out)):w.heap.size≤gb454));replace HB:=yam (below_step (yez HB.out) hb);have GE454:=GW454;clear hb hbox hg));try go_wp2_with (first|(refine ybe 2 #[.int .i64 a0_0,.slice A0_1 l0_1.length c0_1,.int .i64 a0_2] 67 ?_;intro gb454 hg w3 hbox hb;have BK454:=yam (hbox);have GW454:=yam ((by rw [hg];exact (below_size (yez HB.out)):w.heap.size≤gb454));replace HB:=yam (below_step (yez HB.out) hb);have GE454:=GW454;clear hb hbox hg)))
 go_loopg [5,6,11] k (fun kq v5 v6 v11 w'=>∃ (x5_1:Int) (x6_1:Int) (x11_1:Int),v5= .int .i64 x5_1∧v6= .int .i64 x6_1∧v11= .int .i64 x11_1∧Aside0 (impl_valuesHold.l0 kq l1 x5_1 x6_1 l1 (l1.length:Int) x11_1 a0_0 l0_1 a0_2=some r)∧Aside0 (kq≤k)∧Aside0 (w'.heap[gb454]?=some (.cells #[.int .i64 a0_0,(.slice A0_1 l0_1.length c0_1),.int .i64 a0_2] 67 (0,0)))∧Aside0 (Below w.heap.size w w'))
 case atStart=>exact ⟨(0),(1),(0),yeq,yeq,yeq,H,⟨Nat.le_refl _⟩,⟨ybk BK454.out⟩,⟨yhb⟩⟩
 case round =>
  clear H
  try clear c1
  obtain ⟨x5_1,x6_1,x11_1,rfl,rfl,rfl,HA,HK1,BK454,HB⟩:=hrel
  rcases gk with _|k1
  ·exact absurd HA.out (by simp [impl_valuesHold.l0])
  obtain ⟨H⟩:=HA
  simp only [impl_valuesHold.l0] at H
  replace H:=yis H;obtain ⟨c4b0,H⟩ | ⟨c4b0,H⟩:=H
  rotate_left
  ·replace H:=yit H;obtain ⟨c17,H⟩ | ⟨c17,H⟩:=H
   ·have c17b0:(a0_0 == 2)=true:=beq_iff_eq.mpr c17
    have c17b1:(a0_0 != 2)=false:=bne_eq_false_iff_eq.mpr c17
    clear c17
    obtain rfl:=ysi H
    obtain ⟨hcz18_0,hcz18_1,hcz18_2,hfz18_0,hfz18_1,hfz18_2⟩:=ybc BK454.out
    go_wp2
    repeat (go_quiet (fail);try go_wp2)
    go_ret
    exact ⟨yer,yhb⟩
   have c17b0:(a0_0 == 2)=false:=beq_eq_false_iff_ne.mpr c17
   have c17b1:(a0_0 != 2)=true:=bne_iff_ne.mpr c17
   replace H:=yit H;obtain ⟨c19,H⟩ | ⟨c19,H⟩:=H
   ·have c19b0:(a0_0 == 3)=true:=beq_iff_eq.mpr c19
    have c19b1:(a0_0 != 3)=false:=bne_eq_false_iff_eq.mpr c19
    clear c19
    obtain rfl:=ysi H
    obtain ⟨hcz20_0,hcz20_1,hcz20_2,hfz20_0,hfz20_1,hfz20_2⟩:=ybc BK454.out
    go_wp2
    repeat (go_quiet (fail);try go_wp2)
    go_ret
    exact ⟨yer,yhb⟩
   have c19b0:(a0_0 == 3)=false:=beq_eq_false_iff_ne.mpr c19
   have c19b1:(a0_0 != 3)=true:=bne_iff_ne.mpr c19
   replace H:=yit H;obtain ⟨c21,H⟩ | ⟨c21,H⟩:=H
   ·have c21b0:(a0_0 == 4)=true:=beq_iff_eq.mpr c21
    have c21b1:(a0_0 != 4)=false:=bne_eq_false_iff_eq.mpr c21
    clear c21
    replace H:=yig H;obtain ⟨c22,H⟩:=H
    have c22b0:decide (0 < (l1.length:Int))=true:=decide_eq_true c22
    have c22b1:decide (0 < l1.length)=true:=decide_eq_true (by omega)
    clear c22
    replace H:=yig H;obtain ⟨c23,H⟩:=H
    have c23b0:decide (1 < (l1.length:Int))=true:=decide_eq_true c23
    have c23b1:decide (1 < l1.length)=true:=decide_eq_true (by omega)
    clear c23
    obtain rfl:=ysi H
    obtain ⟨hcz24_0,hcz24_1,hcz24_2,hfz24_0,hfz24_1,hfz24_2⟩:=ybc BK454.out
    have p458:0≤(0:Int):=(by omega)
    have q458:0 < (l1.length:Int):=ydt
    obtain ⟨ad458,e458,hx458_0⟩:=Kd.at_int HR1.out 0 p458 q458
    cases e458
    have qi458:(0 < l1.length)=True:=eq_true (by omega)
    (try rw [show ((0:Int)).toNat=0 from rfl] at hx458_0)
    (try rw [Addr.add_zero'] at hx458_0)
    replace hx458_0:=ybx HB.out hx458_0
    replace p458:=eq_true p458
    replace q458:=eq_true q458
    have p459:0≤(1:Int):=(by omega)
    have q459:1 < (l1.length:Int):=ydt
    obtain ⟨ad459,e459,hx459_0⟩:=Kd.at_int HR1.out 1 p459 q459
    obtain rfl:ad458=ad459:=(by injection e459)
    (try simp only [show (1:Int).toNat=1 from rfl,Nat.reduceMul,Nat.reduceEqDiff,Go.Addr.add,↓reduceIte] at hx459_0)
    have qi459:(1 < l1.length)=True:=eq_true (by omega)
    (try rw [show ((1:Int)).toNat=1 from rfl] at hx459_0)
    replace hx459_0:=ybx HB.out hx459_0
    replace p459:=eq_true p459
    replace q459:=eq_true q459
    go_wp2
    repeat (go_quiet (fail);try go_wp2)
    go_ret
    exact ⟨yer,yhb⟩
   have c21b0:(a0_0 == 4)=false:=beq_eq_false_iff_ne.mpr c21
   have c21b1:(a0_0 != 4)=true:=bne_iff_ne.mpr c21
   replace H:=yit H;obtain ⟨c25,H⟩ | ⟨c25,H⟩:=H
   rotate_left
   ·have c25b0:(a0_0 == 5)=false:=beq_eq_false_iff_ne.mpr c25
    have c25b1:(a0_0 != 5)=true:=bne_iff_ne.mpr c25
    obtain rfl:=ysi H
    obtain ⟨hcz30_0,hcz30_1,hcz30_2,hfz30_0,hfz30_1,hfz30_2⟩:=ybc BK454.out
    go_wp2
    repeat (go_quiet (fail);try go_wp2)
    go_ret
    exact ⟨yer,yhb⟩
   have c25b0:(a0_0 == 5)=true:=beq_iff_eq.mpr c25
   have c25b1:(a0_0 != 5)=false:=bne_eq_false_iff_eq.mpr c25
   clear c25
   replace H:=yig H;obtain ⟨c26,H⟩:=H
   have c26b0:decide (0 < (l1.length:Int))=true:=decide_eq_true c26
   have c26b1:decide (0 < l1.length)=true:=decide_eq_true (by omega)
   clear c26
   replace H:=yig H;obtain ⟨c27,H⟩:=H
   have c27b0:decide (1 < (l1.length:Int))=true:=decide_eq_true c27
   have c27b1:decide (1 < l1.length)=true:=decide_eq_true (by omega)
   clear c27
   obtain ⟨ji28,hji28⟩:∃ j_:Int,(mx (wrap64 ((rd l1 0) - (rd l1 1))) (wrap64 ((rd l1 1) - (rd l1 0))))=j_:=⟨_,rfl⟩
   replace H:(some ((ji28) == a0_2))=some r:=by first|(rw [hji28] at H;exact H)|(simp only [hji28] at H ⊢;exact H)
   have hji28_:(if (wrap64 ((rd l1 0) - (rd l1 1))) < (wrap64 ((rd l1 1) - (rd l1 0))) then (wrap64 ((rd l1 1) - (rd l1 0))) else (wrap64 ((rd l1 0) - (rd l1 1))))=ji28:=hji28
   obtain rfl:=ysi H
   obtain ⟨hcz29_0,hcz29_1,hcz29_2,hfz29_0,hfz29_1,hfz29_2⟩:=ybc BK454.out
   have p460:0≤(0:Int):=(by omega)
   have q460:0 < (l1.length:Int):=ydt
   obtain ⟨ad460,e460,hx460_0⟩:=Kd.at_int HR1.out 0 p460 q460
   cases e460
   have qi460:(0 < l1.length)=True:=eq_true (by omega)
   (try rw [show ((0:Int)).toNat=0 from rfl] at hx460_0)
   (try rw [Addr.add_zero'] at hx460_0)
   replace hx460_0:=ybx HB.out hx460_0
   replace p460:=eq_true p460
   replace q460:=eq_true q460
   have p461:0≤(1:Int):=(by omega)
   have q461:1 < (l1.length:Int):=ydt
   obtain ⟨ad461,e461,hx461_0⟩:=Kd.at_int HR1.out 1 p461 q461
   obtain rfl:ad460=ad461:=(by injection e461)
   (try simp only [show (1:Int).toNat=1 from rfl,Nat.reduceMul,Nat.reduceEqDiff,Go.Addr.add,↓reduceIte] at hx461_0)
   have qi461:(1 < l1.length)=True:=eq_true (by omega)
   (try rw [show ((1:Int)).toNat=1 from rfl] at hx461_0)
   replace hx461_0:=ybx HB.out hx461_0
   replace p461:=eq_true p461
   replace q461:=eq_true q461
   have p462:0≤(1:Int):=(by omega)
   have q462:1 < (l1.length:Int):=ydt
   obtain ⟨ad462,e462,hx462_0⟩:=Kd.at_int HR1.out 1 p462 q462
   obtain rfl:ad460=ad462:=(by injection e462)
   (try simp only [show (1:Int).toNat=1 from rfl,Nat.reduceMul,Nat.reduceEqDiff,Go.Addr.add,↓reduceIte] at hx462_0)
   have qi462:(1 < l1.length)=True:=eq_true (by omega)
   (try rw [show ((1:Int)).toNat=1 from rfl] at hx462_0)
   replace hx462_0:=ybx HB.out hx462_0
   replace p462:=eq_true p462
   replace q462:=eq_true q462
   have p463:0≤(0:Int):=(by omega)
   have q463:0 < (l1.length:Int):=ydt
   obtain ⟨ad463,e463,hx463_0⟩:=Kd.at_int HR1.out 0 p463 q463
   obtain rfl:ad460=ad463:=(by injection e463)
   have qi463:(0 < l1.length)=True:=eq_true (by omega)
   (try rw [show ((0:Int)).toNat=0 from rfl] at hx463_0)
   (try rw [Addr.add_zero'] at hx463_0)
   replace hx463_0:=ybx HB.out hx463_0
   replace p463:=eq_true p463
   replace q463:=eq_true q463
   go_wp2
   repeat (go_quiet (fail);try go_wp2)
   go_ret
   exact ⟨by first|rfl|(simp [errW_none,errW_some] <;> rfl)|(simp only [← hji28];first|rfl|(simp [errW_none,errW_some] <;> rfl))|(simp [*,errW_none,errW_some] <;> rfl),yhb⟩
  replace H:=yif H;obtain ⟨c5b0,H⟩:=H
  replace H:=yif H;obtain ⟨c6b0,H⟩:=H
  replace H:=yit H;obtain ⟨c7,H⟩ | ⟨c7,H⟩:=H
  rotate_left
  ·have c7b0:(a0_0 == 1)=false:=beq_eq_false_iff_ne.mpr c7
   have c7b1:(a0_0 != 1)=true:=bne_iff_ne.mpr c7
   replace H:=yam H
   obtain ⟨ad455,e455,hx455_0,p455,q455⟩:=yat HR1.out x11_1
   cases e455
   replace hx455_0:=ybx HB.out hx455_0
   obtain ⟨hcz16_0,hcz16_1,hcz16_2,hfz16_0,hfz16_1,hfz16_2⟩:=ybc BK454.out
   go_wp2
   repeat (go_quiet (fail);try go_wp2)
   go_roundg k1
   case measure=>have:=HK1.out;omega
   case rel=>exact ⟨(wrap64 (x5_1 + (rd l1 x11_1))),(wrap64 (x6_1 * (rd l1 x11_1))),(wrap64 (x11_1 + 1)),yeq,yeq,yeq,H,⟨by have:=HK1.out;omega⟩,⟨ybk BK454.out⟩,⟨yhb⟩⟩
  have c7b0:(a0_0 == 1)=true:=beq_iff_eq.mpr c7
  have c7b1:(a0_0 != 1)=false:=bne_eq_false_iff_eq.mpr c7
  clear c7
  have c8b0:=eq_true (ydt:0≤x11_1)
  replace H:=yig H;obtain ⟨c9,H⟩:=H
  have c9b0:=eq_true c9
  have c9b1:decide (x11_1≤(l1.length:Int))=true:=decide_eq_true c9
  clear c9
  replace H:=ybi H;obtain ⟨t457,A10,H⟩:=H
  try dsimp only at H
  cases t457
  rotate_left
  ·replace H:=ytt H
   obtain rfl:=ysi H
   obtain ⟨ad455,e455,hx455_0,p455,q455⟩:=yat HR1.out x11_1
   cases e455
   replace hx455_0:=ybx HB.out hx455_0
   obtain ⟨hcz12_0,hcz12_1,hcz12_2,hfz12_0,hfz12_1,hfz12_2⟩:=ybc BK454.out
   obtain ⟨i013,hi013,_,hsz13,_⟩:=info_parts info3
   obtain ⟨hcut13,hA13,hC13⟩:=print_take_of (P:=Try.prog) (Value.int .i64) 0 22 3 .i64 Try.underlying22 hi013 hsz13 (some ad455) c1 l1 x11_1 (ydt) (ydt) HC1.out
   have hl13_:(l1.take (x11_1:Int).toNat).length=(x11_1:Int).toNat:=by
    have e0_:0≤(x11_1:Int):=ydt
    have e1_:(x11_1:Int)≤(l1.length:Int):=ydt
    rw [List.length_take];omega
   have HR456:=yam (Kd.C_of_reads (h1:=fun _=>rfl) (hA13 _ (Kd.reads_of_C HR1.out)))
   have HC456:=yam hC13
   clear hA13 hC13 hi013 hsz13
   go_wp2_with (first|(go_at_call 85;(first|(with_reducible refine (slices_Contains_int_int.calls k1 _ _ (l1.take (x11_1:Int).toNat) (rd l1 x11_1) true _ ?side1 ?side2 A10.out).mono ?_)|(rw [← hl13_];(with_reducible refine (slices_Contains_int_int.calls k1 _ _ (l1.take (x11_1:Int).toNat) (rd l1 x11_1) true _ ?_ ?_ A10.out).mono ?_)));exact Kd.Cz ((Kd.C_below HR456.out HB.out));exact HC456.out;rintro e w' ⟨rfl,⟨nd,rfl⟩⟩;(try first|exact ⟨rfl,_,World.drewN_drewN _ _ _⟩|exact ⟨rfl,_,Eq.trans (World.drewN_drewN _ _ _) (congrArg (World.drewN _) (Nat.add_assoc _ _ _))⟩)))
   repeat (go_quiet (first|(go_at_call 85;(first|(with_reducible refine (slices_Contains_int_int.calls k1 _ _ (l1.take (x11_1:Int).toNat) (rd l1 x11_1) true _ ?side1 ?side2 A10.out).mono ?_)|(rw [← hl13_];(with_reducible refine (slices_Contains_int_int.calls k1 _ _ (l1.take (x11_1:Int).toNat) (rd l1 x11_1) true _ ?_ ?_ A10.out).mono ?_)));exact Kd.Cz ((Kd.C_below HR456.out HB.out));exact HC456.out;rintro e w' ⟨rfl,⟨nd,rfl⟩⟩;(try first|exact ⟨rfl,_,World.drewN_drewN _ _ _⟩|exact ⟨rfl,_,Eq.trans (World.drewN_drewN _ _ _) (congrArg (World.drewN _) (Nat.add_assoc _ _ _))⟩)));try go_wp2_with (first|(go_at_call 85;(first|(with_reducible refine (slices_Contains_int_int.calls k1 _ _ (l1.take (x11_1:Int).toNat) (rd l1 x11_1) true _ ?side1 ?side2 A10.out).mono ?_)|(rw [← hl13_];(with_reducible refine (slices_Contains_int_int.calls k1 _ _ (l1.take (x11_1:Int).toNat) (rd l1 x11_1) true _ ?_ ?_ A10.out).mono ?_)));exact Kd.Cz ((Kd.C_below HR456.out HB.out));exact HC456.out;rintro e w' ⟨rfl,⟨nd,rfl⟩⟩;(try first|exact ⟨rfl,_,World.drewN_drewN _ _ _⟩|exact ⟨rfl,_,Eq.trans (World.drewN_drewN _ _ _) (congrArg (World.drewN _) (Nat.add_assoc _ _ _))⟩))))
   go_ret
   exact ⟨yer,yhb⟩
  replace H:=yff H
  replace H:=yam H
  obtain ⟨ad455,e455,hx455_0,p455,q455⟩:=yat HR1.out x11_1
  cases e455
  replace hx455_0:=ybx HB.out hx455_0
  obtain ⟨hcz14_0,hcz14_1,hcz14_2,hfz14_0,hfz14_1,hfz14_2⟩:=ybc BK454.out
  obtain ⟨i015,hi015,_,hsz15,_⟩:=info_parts info3
  obtain ⟨hcut15,hA15,hC15⟩:=print_take_of (P:=Try.prog) (Value.int .i64) 0 22 3 .i64 Try.underlying22 hi015 hsz15 (some ad455) c1 l1 x11_1 (ydt) (ydt) HC1.out
  have hl15_:(l1.take (x11_1:Int).toNat).length=(x11_1:Int).toNat:=by
   have e0_:0≤(x11_1:Int):=ydt
   have e1_:(x11_1:Int)≤(l1.length:Int):=ydt
   rw [List.length_take];omega
  have HR456:=yam (Kd.C_of_reads (h1:=fun _=>rfl) (hA15 _ (Kd.reads_of_C HR1.out)))
  have HC456:=yam hC15
  clear hA15 hC15 hi015 hsz15
  go_wp2_with (first|(go_at_call 85;(first|(with_reducible refine (slices_Contains_int_int.calls k1 _ _ (l1.take (x11_1:Int).toNat) (rd l1 x11_1) false _ ?side1 ?side2 A10.out).mono ?_)|(rw [← hl15_];(with_reducible refine (slices_Contains_int_int.calls k1 _ _ (l1.take (x11_1:Int).toNat) (rd l1 x11_1) false _ ?_ ?_ A10.out).mono ?_)));exact Kd.Cz ((Kd.C_below HR456.out HB.out));exact HC456.out;rintro e w' ⟨rfl,⟨nd,rfl⟩⟩;(try first|exact ⟨rfl,_,World.drewN_drewN _ _ _⟩|exact ⟨rfl,_,Eq.trans (World.drewN_drewN _ _ _) (congrArg (World.drewN _) (Nat.add_assoc _ _ _))⟩)))
  repeat (go_quiet (first|(go_at_call 85;(first|(with_reducible refine (slices_Contains_int_int.calls k1 _ _ (l1.take (x11_1:Int).toNat) (rd l1 x11_1) false _ ?side1 ?side2 A10.out).mono ?_)|(rw [← hl15_];(with_reducible refine (slices_Contains_int_int.calls k1 _ _ (l1.take (x11_1:Int).toNat) (rd l1 x11_1) false _ ?_ ?_ A10.out).mono ?_)));exact Kd.Cz ((Kd.C_below HR456.out HB.out));exact HC456.out;rintro e w' ⟨rfl,⟨nd,rfl⟩⟩;(try first|exact ⟨rfl,_,World.drewN_drewN _ _ _⟩|exact ⟨rfl,_,Eq.trans (World.drewN_drewN _ _ _) (congrArg (World.drewN _) (Nat.add_assoc _ _ _))⟩)));try go_wp2_with (first|(go_at_call 85;(first|(with_reducible refine (slices_Contains_int_int.calls k1 _ _ (l1.take (x11_1:Int).toNat) (rd l1 x11_1) false _ ?side1 ?side2 A10.out).mono ?_)|(rw [← hl15_];(with_reducible refine (slices_Contains_int_int.calls k1 _ _ (l1.take (x11_1:Int).toNat) (rd l1 x11_1) false _ ?_ ?_ A10.out).mono ?_)));exact Kd.Cz ((Kd.C_below HR456.out HB.out));exact HC456.out;rintro e w' ⟨rfl,⟨nd,rfl⟩⟩;(try first|exact ⟨rfl,_,World.drewN_drewN _ _ _⟩|exact ⟨rfl,_,Eq.trans (World.drewN_drewN _ _ _) (congrArg (World.drewN _) (Nat.add_assoc _ _ _))⟩))))
  go_roundg k1
  case measure=>have:=HK1.out;omega
  case rel=>exact ⟨(wrap64 (x5_1 + (rd l1 x11_1))),(wrap64 (x6_1 * (rd l1 x11_1))),(wrap64 (x11_1 + 1)),yeq,yeq,yeq,H,⟨by have:=HK1.out;omega⟩,⟨ybk BK454.out⟩,⟨yhb⟩⟩
end Go.Proofs.Ytdemlminhkhonaa.P
