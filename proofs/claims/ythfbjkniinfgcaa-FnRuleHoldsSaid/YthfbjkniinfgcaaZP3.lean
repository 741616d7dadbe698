/- The machine's side: each Go function as a plain Lean function and the proof that the machine's call does what that function says; written by this session's own program over the kit's print. -/
import Derived.Test.YthfbjkniinfgcaaZP1
import Derived.Test.YthfbjkniinfgcaaZP2
namespace Go.Proofs.Ythfbjkniinfgcaa.P
set_option maxHeartbeats 8000000
set_option maxRecDepth 100000
open Go.RowKit Go.Proofs.YthfbjkniinfgcaaW.PrintWords Go.Proofs.YthfbjkniinfgcaaW.PrintLast Go.Proofs.YthfbjkniinfgcaaW.PrintMore
attribute [local go_sem] max2_int min2_int max_two min_two max_three min_three max_four min_four   -- for this text's walks alone
set_option linter.unusedVariables false
set_option linter.unusedSimpArgs false
mutual
def spec_l20Rule.l0:Nat→List Int→Int→Int→List Int→Int→Int→List Int→Int→Option (Int × List Int × Int × Int)
 | 0,_,_,_,_,_,_,_,_=>none
 | k + 1,x1,x2,x3,x9,x10,x11,x1000,x1001=>if x11 < (wrap64 (x10 * 4)) then (spec_l20Rule.j1 k x1 x2 x3 x9 x10 x11 (decide ((x9.length:Int) < x10)) x1000 x1001) else (spec_l20Rule.j1 k x1 x2 x3 x9 x10 x11 false x1000 x1001)
def spec_l20Rule.j1:Nat→List Int→Int→Int→List Int→Int→Int→Bool→List Int→Int→Option (Int × List Int × Int × Int)
 | 0,_,_,_,_,_,_,_,_,_=>none
 | k + 1,x1,x2,x3,x9,x10,x11,x38,x1000,x1001=>if x38=true then ((spec_l20Rd_pick.f k x1000 x1001 (x9.length:Int)).bind fun bt289=>(if 0≤bt289.1 then (if bt289.1 < (x9.length:Int) then ((some (([1,(-1),x2,wrap64 (-x2)]:List Int):List Int)).bind fun y292=>((spec_l20Rd_pick.f k x1000 bt289.2 4).bind fun bt295=>(if 0≤bt295.1 then (if bt295.1 < (y292.length:Int) then (if (wrap64 ((rd x9 bt289.1) + (rd y292 bt295.1))) ≥ 0 then (spec_l20Rule.j2 k x1 x2 x3 x9 x10 x11 (wrap64 ((rd x9 bt289.1) + (rd y292 bt295.1))) (decide ((wrap64 ((rd x9 bt289.1) + (rd y292 bt295.1))) < (wrap64 (x2 * x2)))) x1000 bt295.2) else (spec_l20Rule.j2 k x1 x2 x3 x9 x10 x11 (wrap64 ((rd x9 bt289.1) + (rd y292 bt295.1))) false x1000 bt295.2)) else (none)) else (none)))) else (none)) else (none))) else (spec_l20Rule.l2 k x1 x2 x3 x9 0 1 0 x1000 x1001)
def spec_l20Rule.j2:Nat→List Int→Int→Int→List Int→Int→Int→Int→Bool→List Int→Int→Option (Int × List Int × Int × Int)
 | 0,_,_,_,_,_,_,_,_,_,_=>none
 | k + 1,x1,x2,x3,x9,x10,x11,x12,x13,x1000,x1001=>spec_l20Rule.l1 k x1 x2 x3 x9 x10 x11 x12 x13 0 x1000 x1001
def spec_l20Rule.l1:Nat→List Int→Int→Int→List Int→Int→Int→Int→Bool→Int→List Int→Int→Option (Int × List Int × Int × Int)
 | 0,_,_,_,_,_,_,_,_,_,_,_=>none
 | k + 1,x1,x2,x3,x9,x10,x11,x12,x13,x14,x1000,x1001=>if x14 < (x9.length:Int) then (if x13=true then (if 0≤x14 then (spec_l20Rule.l1 k x1 x2 x3 x9 x10 x11 x12 ((rd x9 x14) != x12) (wrap64 (x14 + 1)) x1000 x1001) else (none)) else (spec_l20Rule.l1 k x1 x2 x3 x9 x10 x11 x12 false (wrap64 (x14 + 1)) x1000 x1001)) else (if x13=true then ((some (([x12]:List Int):List Int)).bind fun y299=>(if x9.length + y299.length < 17592186044416 then (spec_l20Rule.l0 k x1 x2 x3 (x9 ++ y299) x10 (wrap64 (x11 + 1)) x1000 x1001) else (none))) else (spec_l20Rule.l0 k x1 x2 x3 x9 x10 (wrap64 (x11 + 1)) x1000 x1001))
def spec_l20Rule.l2:Nat→List Int→Int→Int→List Int→Int→Int→Int→List Int→Int→Option (Int × List Int × Int × Int)
 | 0,_,_,_,_,_,_,_,_,_=>none
 | k + 1,x1,x2,x3,x9,x15,x16,x17,x1000,x1001=>if x17 < (x9.length:Int) then (if 0≤x17 then (if 0≤(rd x9 x17) then (if (rd x9 x17) < (x1.length:Int) then (spec_l20Rule.l2 k x1 x2 x3 x9 (wrap64 (x15 + (rd x1 (rd x9 x17)))) (wrap64 (x16 * (mx 1 (rd x1 (rd x9 x17))))) (wrap64 (x17 + 1)) x1000 x1001) else (none)) else (none)) else (none)) else ((spec_l20Rd_pick.f k x1000 x1001 5).bind fun bt310=>(if bt310.1=0 then (spec_l20Rule.j5 k x2 x3 x1000 bt310.2 3 x9 x16) else (if bt310.1=1 then (if (x9.length:Int) > 1 then (if 0 < (x9.length:Int) then (if 1 < (x9.length:Int) then (if 0≤(rd x9 0) then (if (rd x9 0) < (x1.length:Int) then (if 0≤(rd x9 1) then (if (rd x9 1) < (x1.length:Int) then (if (rd x1 (rd x9 0)) > (rd x1 (rd x9 1)) then (spec_l20Rule.j5 k x2 x3 x1000 bt310.2 4 (([rd x9 1,rd x9 0]:List Int)) 0) else (spec_l20Rule.j5 k x2 x3 x1000 bt310.2 4 (([rd x9 0,rd x9 1]:List Int)) 0)) else (none)) else (none)) else (none)) else (none)) else (none)) else (none)) else (spec_l20Rule.j5 k x2 x3 x1000 bt310.2 2 x9 (mx 1 x15))) else (if bt310.1=2 then (if (x9.length:Int) > 1 then (if 0 < (x9.length:Int) then (if 0≤(rd x9 0) then (if (rd x9 0) < (x1.length:Int) then (if 1 < (x9.length:Int) then (if 0≤(rd x9 1) then (if (rd x9 1) < (x1.length:Int) then (if 2≤(x9.length:Int) then (spec_l20Rule.j5 k x2 x3 x1000 bt310.2 5 (x9.take (2:Int).toNat) (mn (wrap64 (x2 - 1)) (mx (wrap64 ((rd x1 (rd x9 0)) - (rd x1 (rd x9 1)))) (wrap64 (-(wrap64 ((rd x1 (rd x9 0)) - (rd x1 (rd x9 1))))))))) else (none)) else (none)) else (none)) else (none)) else (none)) else (none)) else (none)) else (spec_l20Rule.j5 k x2 x3 x1000 bt310.2 2 x9 (mx 1 x15))) else (if bt310.1=3 then (if (x9.length:Int) > 1 then (if 2≤(x9.length:Int) then (spec_l20Rule.j5 k x2 x3 x1000 bt310.2 1 (x9.take (2:Int).toNat) 0) else (none)) else (spec_l20Rule.j5 k x2 x3 x1000 bt310.2 2 x9 (mx 1 x15))) else (spec_l20Rule.j5 k x2 x3 x1000 bt310.2 2 x9 (mx 1 x15)))))))
def spec_l20Rule.j5:Nat→Int→Int→List Int→Int→Int→List Int→Int→Option (Int × List Int × Int × Int)
 | 0,_,_,_,_,_,_,_=>none
 | k + 1,x2,x3,x1000,x1001,x310000,x310001,x310002=>(spec_l20Rd_odd.f k x1000 x1001 x3).bind fun bt336=>(if bt336.1=true then ((spec_l20Rd_pick.f k x1000 bt336.2 4).bind fun bt338=>(if bt338.1=0 then ((some (([0,6]:List Int):List Int)).bind fun y340=>((spec_l20Rd_pick.f k x1000 bt338.2 2).bind fun bt343=>(if 0≤bt343.1 then (if bt343.1 < (y340.length:Int) then (some (rd y340 bt343.1,x310001,x310002,bt343.2)) else (none)) else (none)))) else (if bt338.1=1 then ((some (([]:List Int):List Int)).bind fun y346=>(if y346.length + x310001.length < 17592186044416 then ((some (y346 ++ x310001:List Int)).bind fun y349=>(if 0 < (x310001.length:Int) then ((some (([rd x310001 0]:List Int):List Int)).bind fun y353=>(if y349.length + y353.length < 17592186044416 then (some (x310000,(y349 ++ y353),x310002,bt338.2)) else (none))) else (none))) else (none))) else (if bt338.1=2 then (some (x310000,(([wrap64 (x2 * x2),0]:List Int)),x310002,bt338.2)) else ((some (([(-1),257]:List Int):List Int)).bind fun y362=>((spec_l20Rd_pick.f k x1000 bt338.2 2).bind fun bt365=>(if 0≤bt365.1 then (if bt365.1 < (y362.length:Int) then (some (x310000,x310001,rd y362 bt365.1,bt365.2)) else (none)) else (none)))))))) else (some (x310000,x310001,x310002,bt336.2)))
end
def spec_l20Rule.f (k:Nat)(s0_0:List Int)(s0_1:Int)(l1:List Int)(a2:Int)(a3:Int):Option (Int × List Int × Int × Int):=(spec_l20Rd_pick.f k s0_0 s0_1 (wrap64 (a2 * a2))).bind fun bt282=>((spec_l20Rd_pick.f k s0_0 bt282.2 3).bind fun bt287=>(spec_l20Rule.l0 k l1 a2 a3 (([bt282.1]:List Int)) (wrap64 (2 + bt287.1)) 0 s0_0 bt287.2))
def spec_l20Rule.T6:Bool × List (List Nat × List Nat):=(true,[([],[]),([],[]),([],[]),([2],[2]),([1,3],[1,3]),([0,4],[0,4]),([5],[5]),([],[]),([],[]),([8],[8]),([7,9],[7,9]),([],[]),([11,4],[11]),([10,12],[10,12]),([13],[13]),([6,14],[6,14]),([15,12,0,1,2,3,4,5,6,7,8,9,10,11,12,13,14,15],[15])])
def spec_l20Rule.B6:List Nat:=[0,0,0,4,14,31,63,0,0,256,896,0,2078,8094,16286,32767,65535]
theorem spec_l20Rule.tab6:rtab .any (opsOf Try.f66 6)=spec_l20Rule.T6:=by kernel_rfl
theorem spec_l20Rule.bits6:waitsOk spec_l20Rule.T6.2 spec_l20Rule.B6=true:=by kernel_rfl
def spec_l20Rule.T27:Bool × List (List Nat × List Nat):=(true,[([],[]),([0],[0]),([1],[1]),([],[]),([3],[3]),([4],[4]),([2,5],[2,5]),([6],[6]),([7,0,1,2,3,4,5,6,7],[7])])
def spec_l20Rule.B27:List Nat:=[0,1,3,0,8,24,63,127,255]
theorem spec_l20Rule.tab27:rtab .any (opsOf Try.f66 27)=spec_l20Rule.T27:=by kernel_rfl
theorem spec_l20Rule.bits27:waitsOk spec_l20Rule.T27.2 spec_l20Rule.B27=true:=by kernel_rfl
def spec_l20Rule.T28:Bool × List (List Nat × List Nat):=(true,[([],[]),([],[]),([1],[1]),([2],[2]),([0,3],[0,3]),([4],[4]),([],[]),([],[]),([7],[7]),([8],[8]),([6,9],[6,9]),([10],[10]),([5,11],[5,11])])
def spec_l20Rule.B28:List Nat:=[0,0,2,6,15,31,0,0,128,384,960,1984,4095]
theorem spec_l20Rule.tab28:rtab .any (opsOf Try.f66 28)=spec_l20Rule.T28:=by kernel_rfl
theorem spec_l20Rule.bits28:waitsOk spec_l20Rule.T28.2 spec_l20Rule.B28=true:=by kernel_rfl
def spec_l20Rule.T29:Bool × List (List Nat × List Nat):=(true,[([],[]),([0],[0]),([1],[1]),([],[]),([3],[3]),([4],[4]),([2,5],[2,5]),([0,1,2,3,4,5,6],[]),([7,6,0,1,2,3,4,5,6],[6,7])])
def spec_l20Rule.B29:List Nat:=[0,1,3,0,8,24,63,127,255]
theorem spec_l20Rule.tab29:rtab .any (opsOf Try.f66 29)=spec_l20Rule.T29:=by kernel_rfl
theorem spec_l20Rule.bits29:waitsOk spec_l20Rule.T29.2 spec_l20Rule.B29=true:=by kernel_rfl
def spec_l20Rule.T32:Bool × List (List Nat × List Nat):=(true,[([],[]),([],[]),([1],[1]),([2],[2]),([0,3],[0,3]),([4],[4]),([],[]),([],[]),([7],[7]),([8],[8]),([6,9],[6,9]),([10],[10]),([5,11],[5,11]),([12,0,1,2,3,4,5,6,7,8,9,10,11,12],[12])])
def spec_l20Rule.B32:List Nat:=[0,0,2,6,15,31,0,0,128,384,960,1984,4095,8191]
theorem spec_l20Rule.tab32:rtab .any (opsOf Try.f66 32)=spec_l20Rule.T32:=by kernel_rfl
theorem spec_l20Rule.bits32:waitsOk spec_l20Rule.T32.2 spec_l20Rule.B32=true:=by kernel_rfl
def spec_l20Rule.T43:Bool × List (List Nat × List Nat):=(true,[([],[]),([],[]),([1],[1]),([0,2],[0,2]),([],[]),([4],[4]),([5],[5]),([6],[6]),([7],[7]),([3,8,3],[3,8]),([0,1,2,3,4,5,6,7,8,9],[]),([10,9,9,0,1,2,3,4,5,6,7,8,9],[9,10])])
def spec_l20Rule.B43:List Nat:=[0,0,2,7,0,16,48,112,240,511,1023,2047]
theorem spec_l20Rule.tab43:rtab .any (opsOf Try.f66 43)=spec_l20Rule.T43:=by kernel_rfl
theorem spec_l20Rule.bits43:waitsOk spec_l20Rule.T43.2 spec_l20Rule.B43=true:=by kernel_rfl
theorem spec_l20Rule.calls (k:Nat)(g:Nat)(s0_0:List Int)(s0_1:Int)(A1:Option Addr)(c1:Nat)(l1:List Int)(a2:Int)(a3:Int)(r1:Int)(r2:List Int)(r3:Int)(r4:Int)(w0 w:World)(hI:IsS86 w0 w g s0_0 s0_1)(hB:Below w0.heap.size w0 w)(hr1:Kd.C (Kd.int .i64) w A1 l1.length l1)(hc1:l1.length≤c1)(hf1:∀ ad,A1=some ad→0 < l1.length→ad.block≠g)(h:spec_l20Rule.f k s0_0 s0_1 l1 a2 a3=some (r1,r2,r3,r4)) :
  Calls Try.prog 66 #[.pointer (some ⟨g,0,none⟩),.slice A1 l1.length c1,.int .i64 a2,.int .i64 a3] w fun e w'=>∃ v1_:Value,e= .returned (.agg #[.int .i64 r1,v1_,.int .i64 r3])∧Kd.R (Kd.int .i64) 3 w' w.heap.size (fun _=>True) v1_ r2∧IsS86 w0 w' g s0_0 r4∧Below w0.heap.size w0 w'∧KeepBut w w' g none:=by
 have hu32:=Try.underlying32
 have HR1:=yam hr1
 have HC1:=yam hc1
 clear hr1 hc1
 have HI0:=yam hI
 have HK:=yam (KeepBut.refl w g none)
 have HL:=yam hB.size
 clear hI
 have HW0:=yam hB.size
 have HB:=yam hB
 clear hB
 unfold spec_l20Rule.f at h
 have H:=h
 clear h
 replace H:=ybi H;obtain ⟨⟨t282,t283⟩,A5,H⟩:=H
 replace H:((spec_l20Rd_pick.f k s0_0 t283 3).bind fun bt287=>(spec_l20Rule.l0 k l1 a2 a3 (([t282]:List Int)) (wrap64 (2 + bt287.1)) 0 s0_0 bt287.2))=some (r1,r2,r3,r4):=H
 obtain ⟨y284,Ny284⟩:∃ y_:List Int,Aside0 (y_=(([t282]:List Int))):=⟨_,⟨rfl⟩⟩
 replace H:((spec_l20Rd_pick.f k s0_0 t283 3).bind fun bt287=>(spec_l20Rule.l0 k l1 a2 a3 y284 (wrap64 (2 + bt287.1)) 0 s0_0 bt287.2))=some (r1,r2,r3,r4):=yhn Ny284.out H
 replace H:=ybi H;obtain ⟨⟨t287,t288⟩,A6,H⟩:=H
 replace H:(spec_l20Rule.l0 k l1 a2 a3 y284 (wrap64 (2 + t287)) 0 s0_0 t288)=some (r1,r2,r3,r4):=H
 replace H:=yam H
 go_enter Try.func66,Try.ntmps66
 go_wp2_with (first|((with_reducible refine gate_dst (N:=8) rfl ?_);(try (refine gate_guard (by rfl) ?_;dsimp only));refine ybe 8 #[.int .i64 0,.slice none 0 0,.int .i64 0] 32 ?_;intro gb281 hg w7 hbox hb;replace HB:=yam (below_step (by repeat (first|(with_reducible first|exact HB.out|apply yea|apply yen|apply yed|refine below_set ?_ (IsS86.ge HI0.out))|exact HB.out)) hb);have BK281:=yam (hbox);have GW281:=yam ((by rw [hg];exact (keep_size (w:=w) (g:=g) (row:=none) (by repeat (first|(with_reducible first|exact HK.out|apply KeepBut.set_|apply keep_drewN|apply keep_drew|apply keep_alloc)|exact HK.out))):w.heap.size≤gb281));have GE281:=yam ((Nat.le_trans HW0.out (by rw [hg];exact (keep_size (w:=w) (g:=g) (row:=none) (by repeat (first|(with_reducible first|exact HK.out|apply KeepBut.set_|apply keep_drewN|apply keep_drew|apply keep_alloc)|exact HK.out))):w.heap.size≤gb281):w0.heap.size≤gb281));replace HK:=yam (KeepBut.trans (by repeat (first|(with_reducible first|exact HK.out|apply KeepBut.set_|apply keep_drewN|apply keep_drew|apply keep_alloc)|exact HK.out)) (KeepBut.of_below hb g none) (.inl rfl));have NB0_281:=yam ((by rw [hg];exact Nat.ne_of_lt (IsS86.lt (show IsS86 w0 _ g s0_0 s0_1 from by repeat (first|(with_reducible first|exact HI0.out|apply IsS86.alloc|apply IsS86.drewN|apply IsS86.drew|apply IsS86.set_1)|exact HI0.out))):g≠gb281));have NB281_0:=yam ((by rw [hg];exact Nat.ne_of_gt (IsS86.lt (show IsS86 w0 _ g s0_0 s0_1 from by repeat (first|(with_reducible first|exact HI0.out|apply IsS86.alloc|apply IsS86.drewN|apply IsS86.drew|apply IsS86.set_1)|exact HI0.out))):gb281≠g));replace HI0:=yam (IsS86.below (by repeat (first|(with_reducible first|exact HI0.out|apply IsS86.alloc|apply IsS86.drewN|apply IsS86.drew|apply IsS86.set_1)|exact HI0.out)) hb);clear hb hbox hg)|(refine goesL_ (some 24) rfl rfl Try.func81 (by kernel_rfl) rfl #[.pointer (some ⟨g,0,none⟩),.int .i64 (wrap64 (a2 * a2))] rfl ymd ?_;(with_reducible refine (spec_l20Rd_pick.calls k g s0_0 s0_1 (wrap64 (a2 * a2)) t282 t283 w0 _ ?side1 ?side2 A5.out).mono ?_);(case side1=>repeat (first|(with_reducible first|exact HI0.out|apply IsS86.alloc|apply IsS86.drewN|apply IsS86.drew|apply IsS86.set_1|refine IsS86.far ?_ NB0_281.out _)|exact HI0.out));(case side2=>repeat (first|(with_reducible first|exact HB.out|apply yea|apply yen|apply yed|refine below_set ?_ (IsS86.ge HI0.out)|refine below_set ?_ GE281.out)|exact HB.out));rintro e w8 ⟨rfl,hi,hb,hk⟩;refine ⟨_,rfl,?_⟩;replace BK281:=yam (KeepBut.blk hk (g':=gb281) (o:= .cells #[.int .i64 0,.slice none 0 0,.int .i64 0] 32 (0,0)) (ybz BK281.out) NB281_0.out (by simp));replace HK:=yam (KeepBut.trans (by repeat (first|(with_reducible first|exact HK.out|apply KeepBut.set_|apply keep_drewN|apply keep_drew|apply keep_alloc|refine keep_far ?_ GW281.out _)|exact HK.out)) hk (.inl rfl));replace HB:=yam (hb);replace HI0:=yam (hi);(try clear hb);(try clear hk);(try clear hi))|((with_reducible refine gate_dst (N:=25) rfl ?_);(try (refine gate_guard (by rfl) ?_;dsimp only));refine Kd.R_lit (Kd.int .i64) _ 3 ?hg (N:=25) ?hd (xs:=([t282]:List Int)) (inner:=[.int .i64 t282]) (ok:=fun _=>True) (okp:=fun _=>True) ?hr ?hp (fun _ hk=>hk) trivial (Below.refl _ _) (Nat.le_refl _) (by simp) ?_;(case hd=>rfl);(case hg=>rfl);(case hr=>first|(go_simp;done)|(go_simp;rfl));(case hp=>exact (Reps.one (show Kd.M (Kd.int .i64) _ _ _ t282 [.int .i64 t282] from rfl) (Reps.none _ _)));intro v285 w9 ho10 hb hg_ hnew_;clear hg_ hnew_;(first|rw [← Ny284.out] at ho10|(simp only [Int.reduceToNat] at ho10;rw [← Ny284.out] at ho10));have HO286:=yam (Kd.R_lower ho10 (keep_size (w:=w) (g:=g) (row:=none) (by repeat (first|(with_reducible first|exact HK.out|apply KeepBut.set_|apply keep_drewN|apply keep_drew|apply keep_alloc|refine keep_far ?_ GW281.out _)|exact HK.out))));replace BK281:=yam (ybb BK281.out hb);replace HK:=yam (KeepBut.trans (by repeat (first|(with_reducible first|exact HK.out|apply KeepBut.set_|apply keep_drewN|apply keep_drew|apply keep_alloc|refine keep_far ?_ GW281.out _)|exact HK.out)) (KeepBut.of_below hb g none) (.inl rfl));replace HB:=yam (below_step (by repeat (first|(with_reducible first|exact HB.out|apply yea|apply yen|apply yed|refine below_set ?_ (IsS86.ge HI0.out)|refine below_set ?_ GE281.out)|exact HB.out)) hb);replace HI0:=yam (IsS86.below (by repeat (first|(with_reducible first|exact HI0.out|apply IsS86.alloc|apply IsS86.drewN|apply IsS86.drew|apply IsS86.set_1|refine IsS86.far ?_ NB0_281.out _)|exact HI0.out)) hb);clear hb ho10)|(refine goesL_ (some 27) rfl rfl Try.func81 (by kernel_rfl) rfl #[.pointer (some ⟨g,0,none⟩),.int .i64 3] rfl ymd ?_;(with_reducible refine (spec_l20Rd_pick.calls k g s0_0 t283 3 t287 t288 w0 _ ?side1 ?side2 A6.out).mono ?_);(case side1=>repeat (first|(with_reducible first|exact HI0.out|apply IsS86.alloc|apply IsS86.drewN|apply IsS86.drew|apply IsS86.set_1|refine IsS86.far ?_ NB0_281.out _)|exact HI0.out));(case side2=>repeat (first|(with_reducible first|exact HB.out|apply yea|apply yen|apply yed|refine below_set ?_ (IsS86.ge HI0.out)|refine below_set ?_ GE281.out)|exact HB.out));rintro e w11 ⟨rfl,hi,hb,hk⟩;refine ⟨_,rfl,?_⟩;replace BK281:=yam (KeepBut.blk hk (g':=gb281) (o:= .cells #[.int .i64 0,.slice none 0 0,.int .i64 0] 32 (0,0)) (ybz BK281.out) NB281_0.out (by simp));replace HO286:=yam (Kd.R_mono (Kd.R_keep (IsS86.apart (show IsS86 w0 _ g s0_0 t283 from by repeat (first|(with_reducible first|exact HI0.out|apply IsS86.alloc|apply IsS86.drewN|apply IsS86.drew|apply IsS86.set_1|refine IsS86.far ?_ NB0_281.out _)|exact HI0.out)) (Kd.Yz HO286.out) (by decide)) hk (fun _ h=>h.2)) (fun _ h=>h.1));replace HK:=yam (KeepBut.trans (by repeat (first|(with_reducible first|exact HK.out|apply KeepBut.set_|apply keep_drewN|apply keep_drew|apply keep_alloc|refine keep_far ?_ GW281.out _)|exact HK.out)) hk (.inl rfl));replace HB:=yam (hb);replace HI0:=yam (hi);(try clear hb);(try clear hk);(try clear hi)))
 go_loopg [9,11] k (fun kq v9 v11 w'=>∃ (x9_1:List Int) (x11_1:Int) (x1001_1:Int),v11= .int .i64 x11_1∧Aside0 (spec_l20Rule.l0 kq l1 a2 a3 x9_1 (wrap64 (2 + t287)) x11_1 s0_0 x1001_1=some (r1,r2,r3,r4))∧Aside0 (kq≤k)∧Aside0 (Kd.R (Kd.int .i64) 3 w' w.heap.size (fun _=>True) v9 x9_1)∧Aside0 (w'.heap[gb281]?=some (.cells #[.int .i64 0,(.slice none 0 0),.int .i64 0] 32 (0,0)))∧Aside0 (IsS86 w0 w' g s0_0 x1001_1)∧Aside0 (KeepBut w w' g none)∧Aside0 (Below w0.heap.size w0 w'))
 case atStart=>exact ⟨(y284),(0),(t288),yeq,H,⟨Nat.le_refl _⟩,⟨yka HO286.out⟩,⟨ybk BK281.out⟩,⟨by repeat (first|(with_reducible first|exact HI0.out|apply IsS86.alloc|apply IsS86.drewN|apply IsS86.drew|apply IsS86.set_1|refine IsS86.far ?_ NB0_281.out _)|exact HI0.out)⟩,⟨by repeat (first|(with_reducible first|exact HK.out|apply KeepBut.set_|apply keep_drewN|apply keep_drew|apply keep_alloc|refine keep_far ?_ GW281.out _)|exact HK.out)⟩,⟨by repeat (first|(with_reducible first|exact HB.out|apply yea|apply yen|apply yed|refine below_set ?_ (IsS86.ge HI0.out)|refine below_set ?_ GE281.out)|exact HB.out)⟩⟩
 case round=>as_aux_lemma =>
  clear H
  try clear c1
  obtain ⟨x9_1,x11_1,x1001_1,rfl,HA,HK1,HO_9,BK281,HI0,HK,HB⟩:=hrel
  rcases gk with _|k1
  ·exact absurd HA.out (by simp [spec_l20Rule.l0])
  obtain ⟨H⟩:=HA
  simp only [spec_l20Rule.l0] at H
  have HC12:=yam H
  clear H
  go_upto_region 4 with (fail)
  go_cut [38] (fun v38 wc=>∃ (kq:Nat) (x38_11:Bool),v38= .bool x38_11∧Aside0 (spec_l20Rule.j1 kq l1 a2 a3 x9_1 (wrap64 (2 + t287)) x11_1 x38_11 s0_0 x1001_1=some (r1,r2,r3,r4))∧Aside0 (kq≤k1)∧Aside0 (Kd.R (Kd.int .i64) 3 wc w.heap.size (fun _=>True) u9 x9_1)∧Aside0 (wc.heap[gb281]?=some (.cells #[.int .i64 0,(.slice none 0 0),.int .i64 0] 32 (0,0)))∧Aside0 (IsS86 w0 wc g s0_0 x1001_1)∧Aside0 (KeepBut w wc g none)∧Aside0 (Below w0.heap.size w0 wc))
  case first=>as_aux_lemma =>
   have H:=HC12.out
   clear HC12
   replace H:=yis H;obtain ⟨c13b0,H⟩ | ⟨c13b0,H⟩:=H
   rotate_left
   ·(first|rw [c13b0]|(simp only [i64_w,i32_w];rw [c13b0])|skip)
    replace H:=yam H
    go_wp2
    go_meet
    case rel=>exact ⟨_,(false),yeq,H,⟨by have:=HK1.out;first|omega|exact Nat.le_refl _⟩,⟨yka HO_9.out⟩,⟨ybk BK281.out⟩,⟨by repeat (first|(with_reducible first|exact HI0.out|apply IsS86.alloc|apply IsS86.drewN|apply IsS86.drew|apply IsS86.set_1|refine IsS86.far ?_ NB0_281.out _)|exact HI0.out)⟩,⟨by repeat (first|(with_reducible first|exact HK.out|apply KeepBut.set_|apply keep_drewN|apply keep_drew|apply keep_alloc|refine keep_far ?_ GW281.out _)|exact HK.out)⟩,⟨by repeat (first|(with_reducible first|exact HB.out|apply yea|apply yen|apply yed|refine below_set ?_ (IsS86.ge HI0.out)|refine below_set ?_ GE281.out)|exact HB.out)⟩⟩
   (first|rw [c13b0]|(simp only [i64_w,i32_w];rw [c13b0])|skip)
   replace H:=yam H
   obtain ⟨Ao14,co14,eo14⟩:=Kd.R_slice HO_9.out
   subst eo14
   go_wp2
   go_meet
   case rel=>exact ⟨_,(decide ((x9_1.length:Int) < (wrap64 (2 + t287)))),yeq,H,⟨by have:=HK1.out;first|omega|exact Nat.le_refl _⟩,⟨yka HO_9.out⟩,⟨ybk BK281.out⟩,⟨by repeat (first|(with_reducible first|exact HI0.out|apply IsS86.alloc|apply IsS86.drewN|apply IsS86.drew|apply IsS86.set_1|refine IsS86.far ?_ NB0_281.out _)|exact HI0.out)⟩,⟨by repeat (first|(with_reducible first|exact HK.out|apply KeepBut.set_|apply keep_drewN|apply keep_drew|apply keep_alloc|refine keep_far ?_ GW281.out _)|exact HK.out)⟩,⟨by repeat (first|(with_reducible first|exact HB.out|apply yea|apply yen|apply yed|refine below_set ?_ (IsS86.ge HI0.out)|refine below_set ?_ GE281.out)|exact HB.out)⟩⟩
  case rest=>as_aux_lemma =>
   clear HC12
   obtain ⟨kq,x38_11,rfl,HA,HJ11,HO_9,BK281,HI0,HK,HB⟩:=hcut
   rcases kq with _|kj11
   ·exact absurd HA.out (by simp [spec_l20Rule.j1])
   obtain ⟨H⟩:=HA
   simp only [spec_l20Rule.j1] at H
   cases x38_11
   rotate_left
   ·replace H:=ytt H
    replace H:=ybi H;obtain ⟨⟨t289,t290⟩,A16,H⟩:=H
    replace H:(if 0≤t289 then (if t289 < (x9_1.length:Int) then ((some (([1,(-1),a2,wrap64 (-a2)]:List Int):List Int)).bind fun y292=>((spec_l20Rd_pick.f kj11 s0_0 t290 4).bind fun bt295=>(if 0≤bt295.1 then (if bt295.1 < (y292.length:Int) then (if (wrap64 ((rd x9_1 t289) + (rd y292 bt295.1))) ≥ 0 then (spec_l20Rule.j2 kj11 l1 a2 a3 x9_1 (wrap64 (2 + t287)) x11_1 (wrap64 ((rd x9_1 t289) + (rd y292 bt295.1))) (decide ((wrap64 ((rd x9_1 t289) + (rd y292 bt295.1))) < (wrap64 (a2 * a2)))) s0_0 bt295.2) else (spec_l20Rule.j2 kj11 l1 a2 a3 x9_1 (wrap64 (2 + t287)) x11_1 (wrap64 ((rd x9_1 t289) + (rd y292 bt295.1))) false s0_0 bt295.2)) else (none)) else (none)))) else (none)) else (none))=some (r1,r2,r3,r4):=H
    replace H:=yif H;obtain ⟨c17b0,H⟩:=H
    replace H:=yif H;obtain ⟨c18b0,H⟩:=H
    obtain ⟨y292,Ny292⟩:∃ y_:List Int,Aside0 (y_=(([1,(-1),a2,wrap64 (-a2)]:List Int))):=⟨_,⟨rfl⟩⟩
    replace H:((spec_l20Rd_pick.f kj11 s0_0 t290 4).bind fun bt295=>(if 0≤bt295.1 then (if bt295.1 < (y292.length:Int) then (if (wrap64 ((rd x9_1 t289) + (rd y292 bt295.1))) ≥ 0 then (spec_l20Rule.j2 kj11 l1 a2 a3 x9_1 (wrap64 (2 + t287)) x11_1 (wrap64 ((rd x9_1 t289) + (rd y292 bt295.1))) (decide ((wrap64 ((rd x9_1 t289) + (rd y292 bt295.1))) < (wrap64 (a2 * a2)))) s0_0 bt295.2) else (spec_l20Rule.j2 kj11 l1 a2 a3 x9_1 (wrap64 (2 + t287)) x11_1 (wrap64 ((rd x9_1 t289) + (rd y292 bt295.1))) false s0_0 bt295.2)) else (none)) else (none)))=some (r1,r2,r3,r4):=yhn Ny292.out H
    replace H:=ybi H;obtain ⟨⟨t295,t296⟩,A19,H⟩:=H
    replace H:(if 0≤t295 then (if t295 < (y292.length:Int) then (if (wrap64 ((rd x9_1 t289) + (rd y292 t295))) ≥ 0 then (spec_l20Rule.j2 kj11 l1 a2 a3 x9_1 (wrap64 (2 + t287)) x11_1 (wrap64 ((rd x9_1 t289) + (rd y292 t295))) (decide ((wrap64 ((rd x9_1 t289) + (rd y292 t295))) < (wrap64 (a2 * a2)))) s0_0 t296) else (spec_l20Rule.j2 kj11 l1 a2 a3 x9_1 (wrap64 (2 + t287)) x11_1 (wrap64 ((rd x9_1 t289) + (rd y292 t295))) false s0_0 t296)) else (none)) else (none))=some (r1,r2,r3,r4):=H
    replace H:=yif H;obtain ⟨c20b0,H⟩:=H
    replace H:=yif H;obtain ⟨c21b0,H⟩:=H
    have HC22:=yam H
    clear H
    try go_wp2
    have pi297:(0≤(t295:Int))=True:=eq_true (ydt)
    have qi297:(t295 < (y292.length:Int))=True:=eq_true (ydt)
    replace HO_9:=yam (Kd.Yd HO_9.out)
    replace BK281:=yam (ybd BK281.out)
    replace HI0:=yam (IsS86.drew HI0.out)
    replace HK:=yam (keep_drew HK.out)
    replace HB:=yam (yed HB.out)
    obtain ⟨Ao24,co24,eo24⟩:=Kd.R_slice HO_9.out
    (first|subst eo24|(injection eo24 with f1_ f2_ f3_;have f4_:=f1_.symm;have f5_:=f3_.symm;clear f1_ f2_ f3_;subst f4_;subst f5_))
    obtain ⟨ad291,e291,hx291_0,p291,q291⟩:=yat (Kd.Yr HO_9.out).2.2 t289
    cases e291
    refine start_ (n:=17) (S:=fun w'=>True) (ds:=[]) (yvb 17 0) (by kernel_rfl) rfl rfl trivial (fun hHeld=>?_);refine with_tabW spec_l20Rule.tab6 spec_l20Rule.bits6 (fun HT_ HW_=>?_)
    generalize wc.drew=w23 at HO_9 BK281 HI0 HK HB hx291_0 hHeld ⊢
    refine yvp 0 41 (yvb 17 1) HT_.out ?_
    refine yvp 1 42 (yvb 17 3) HT_.out ?_
    refine yvp 2 43 (yvb 17 7) HT_.out ?_
    refine yvp 7 48 (yvb 17 135) HT_.out ?_
    refine yvp 8 49 (yvb 17 391) HT_.out ?_
    refine yvp 11 52 (yvb 17 2439) HT_.out ?_
    refine inv_at [3,4,5,6,9,10,12,13,14,15,16] (fun a0_ b a w'=>∃ (v293:Value) (adz_v293:Addr) (m13_:Value),a=putSel a0_ b [(3,44,.int .i64 (x9_1.length:Int)),(4,45,.int .i64 t289),(5,46,.pointer (some (ad291.add (t289).toNat))),(6,47,.int .i64 (rd x9_1 t289)),(9,50,.int .i64 (wrap64 (-a2))),(10,51,v293),(12,53,.int .i64 t295),(13,54,m13_),(14,55,.int .i64 (rd y292 t295)),(15,56,.int .i64 (wrap64 ((rd x9_1 t289) + (rd y292 t295)))),(16,12,.int .i64 (wrap64 ((rd x9_1 t289) + (rd y292 t295))))]∧(Kd.R (Kd.int .i64) 3 w' w.heap.size (fun _=>True) (.slice (some ad291) x9_1.length co24) x9_1)∧(w'.heap[gb281]?=some (.cells #[.int .i64 0,.slice none 0 0,.int .i64 0] 32 (0,0)))∧(b 4=false→IsS86 w0 w' g s0_0 x1001_1)∧(KeepBut w w' g none)∧(Below w0.heap.size w0 w')∧(b 4=true→b 12=false→IsS86 w0 w' g s0_0 t290)∧(b 10=true→Kd.R (Kd.int .i64) 3 w' w.heap.size (fun k_=>some k_≠(.slice (some ad291) x9_1.length co24:Value).ownBlock) v293 y292)∧(b 10=true→∃ c_,(v293:Value)= .slice (some adz_v293) y292.length c_)∧(b 12=true→IsS86 w0 w' g s0_0 t296)∧(b 13=true→(m13_:Value)= .pointer (some (adz_v293.add (t295).toNat)))) HT_.out HW_.out (by kernel_rfl) (by kernel_rfl) ?_ ?_ ?_
    ·exact ⟨.bool false,⟨0,0,none⟩,.bool false,by simp only [putSel,Bool.false_eq_true,if_false],HO_9.out,BK281.out,fun _=>HI0.out,HK.out,HB.out,fun h_=>absurd h_ (by decide),fun h_=>absurd h_ (by decide),fun h_=>absurd h_ (by decide),fun h_=>absurd h_ (by decide),fun h_=>absurd h_ (by decide)⟩
    ·skip
     clear BK281 HB HI0 HK HO_9
     refine steps_cons ?_ ?_
     ·rintro b a w' ⟨v293,adz_v293,m13_,ha,Q_HO_9,Q_BK281,Q_HI0,Q_HK,Q_HB,Q_HI0_e4,Q_HO294,Q_HA_HO294,Q_HI0_e12,Q_X13_⟩ hb_ hon hoff
      refine ⟨_,rfl,fun K hK=>?_⟩
      have e43:a.tmps[43]?=some (.slice (some ad291) x9_1.length co24):=by rw [ha];exact (putSel_off rfl).trans rfl
      replace ha:=yam ha
      have HO_9:=yam Q_HO_9
      have BK281:=yam Q_BK281
      have HI0:=yam (Q_HI0 (hoff 4 (by kernel_rfl)))
      have HK:=yam Q_HK
      have HB:=yam Q_HB
      refine value_ (w1:=w') (v:= .int .i64 (x9_1.length:Int)) (by rfl) rfl ?_ ?_
      ·go_simp
       (try simp only [i64_w])
       try rfl
      refine hK.out _ _ ⟨v293,adz_v293,m13_,(by rw [ha.out];exact putSel_upk 0 hb_ rfl rfl rfl),Q_HO_9,Q_BK281,Q_HI0,Q_HK,Q_HB,fun h0_ _=>absurd ((hoff 4 (by kernel_rfl)).symm.trans h0_) (by decide),Q_HO294,Q_HA_HO294,fun h0_=>absurd ((hoff 12 (by kernel_rfl)).symm.trans h0_) (by decide),fun h0_=>absurd ((hoff 13 (by kernel_rfl)).symm.trans h0_) (by decide)⟩
     refine steps_cons ?_ ?_
     ·rintro b a w' ⟨v293,adz_v293,m13_,ha,Q_HO_9,Q_BK281,Q_HI0,Q_HK,Q_HB,Q_HI0_e4,Q_HO294,Q_HA_HO294,Q_HI0_e12,Q_X13_⟩ hb_ hon hoff
      refine ⟨_,rfl,fun K hK=>?_⟩
      have e42:a.tmps[42]?=some (.pointer (some ⟨g,0,none⟩)):=by rw [ha];exact (putSel_off rfl).trans rfl
      have e44:a.tmps[44]?=some (.int .i64 (x9_1.length:Int)):=by rw [ha];exact putSel_on (e:=(3,44,.int .i64 (x9_1.length:Int))) 0 rfl rfl (hon 3 (by kernel_rfl)) rfl
      replace ha:=yam ha
      have HO_9:=yam Q_HO_9
      have BK281:=yam Q_BK281
      have HI0:=yam (Q_HI0 hb_)
      have HK:=yam Q_HK
      have HB:=yam Q_HB
      refine goes_ Try.func81 (by kernel_rfl) rfl #[.pointer (some ⟨g,0,none⟩),.int .i64 (x9_1.length:Int)] (by rfl) rfl rfl (by first|(simp only [List.map_toArray,List.map_cons,List.map_nil,Act.eval,Array.getD_eq_getD_getElem?,Option.getD_some,e42,e44];done)|(simp only [List.map_toArray,List.map_cons,List.map_nil,Act.eval,Array.getD_eq_getD_getElem?,Option.getD_some,e42,e44];rfl)) ?_
      with_reducible refine (spec_l20Rd_pick.calls kj11 g s0_0 x1001_1 (x9_1.length:Int) t289 t290 w0 _ ?side1 ?side2 A16.out).mono ?_
      (case side1=>repeat (first|(with_reducible first|exact HI0.out|apply IsS86.alloc|apply IsS86.drewN|apply IsS86.drew|apply IsS86.set_1|refine IsS86.far ?_ NB0_281.out _)|exact HI0.out))
      (case side2=>repeat (first|(with_reducible first|exact HB.out|apply yea|apply yen|apply yed|refine below_set ?_ (IsS86.ge HI0.out)|refine below_set ?_ GE281.out)|exact HB.out))
      rintro e w25 ⟨rfl,hi,hb,hk⟩
      refine ⟨_,rfl,?_⟩
      have n0_:=yam (Kd.R_mono (Kd.R_keep (IsS86.apart (show IsS86 w0 _ g s0_0 x1001_1 from by repeat (first|(with_reducible first|exact HI0.out|apply IsS86.alloc|apply IsS86.drewN|apply IsS86.drew|apply IsS86.set_1|refine IsS86.far ?_ NB0_281.out _)|exact HI0.out)) (Kd.Yz HO_9.out) (by decide)) hk (fun _ h=>h.2)) (fun _ h=>h.1))
      have n1_:=yam (KeepBut.blk hk (g':=gb281) (o:= .cells #[.int .i64 0,.slice none 0 0,.int .i64 0] 32 (0,0)) (ybz BK281.out) NB281_0.out (by simp))
      have n2_:=yam (KeepBut.trans (by repeat (first|(with_reducible first|exact HK.out|apply KeepBut.set_|apply keep_drewN|apply keep_drew|apply keep_alloc|refine keep_far ?_ GW281.out _)|exact HK.out)) hk (.inl rfl))
      have n3_:=yam (hb)
      have n4_:=yam (hi)
      have z_HO294:=fun (h0_:b 10=true)=>(show Kd.R (Kd.int .i64) 3 w25 w.heap.size (fun k_=>some k_≠(.slice (some ad291) x9_1.length co24:Value).ownBlock) v293 y292 from by first|exact (Kd.R_mono (Kd.R_keep (IsS86.apart (show IsS86 w0 _ g s0_0 x1001_1 from by repeat (first|(with_reducible first|exact HI0.out|apply IsS86.alloc|apply IsS86.drewN|apply IsS86.drew|apply IsS86.set_1|refine IsS86.far ?_ NB0_281.out _)|exact HI0.out)) (by (with_reducible repeat (first|apply Kd.Ya|apply Kd.Yn|apply Kd.Yd));exact (Q_HO294 h0_)) (by decide)) hk (fun _ h=>h.2)) (fun _ h=>h.1))|exact Kd.R_mono (Kd.R_mono (Kd.R_keep (IsS86.apart (show IsS86 w0 _ g s0_0 x1001_1 from by repeat (first|(with_reducible first|exact HI0.out|apply IsS86.alloc|apply IsS86.drewN|apply IsS86.drew|apply IsS86.set_1|refine IsS86.far ?_ NB0_281.out _)|exact HI0.out)) (by (with_reducible repeat (first|apply Kd.Ya|apply Kd.Yn|apply Kd.Yd));exact (Q_HO294 h0_)) (by decide)) hk (fun _ h=>h.2)) (fun _ h=>h.1)) (fun _ h_=>by first|trivial|exact h_|exact h_.1))
      clear HO_9
      clear BK281
      clear HK
      clear HB
      clear HI0
      have HO_9:=n0_
      have BK281:=n1_
      have HK:=n2_
      have HB:=n3_
      have HI0:=n4_
      clear n0_ n1_ n2_ n3_ n4_
      (try clear hb)
      (try clear hb2)
      (try clear hk)
      (try clear hi)
      refine hK.out _ _ ⟨v293,adz_v293,m13_,(by rw [ha.out];exact putSel_upk 1 hb_ rfl rfl rfl),(Kd.Yz HO_9.out),(ybz BK281.out),fun h0_=>absurd ((up_self b 4).symm.trans h0_) (by decide),(by repeat (first|(with_reducible first|exact HK.out|apply KeepBut.set_|apply keep_drewN|apply keep_drew|apply keep_alloc|refine keep_far ?_ GW281.out _)|exact HK.out)),(by repeat (first|(with_reducible first|exact HB.out|apply yea|apply yen|apply yed|refine below_set ?_ (IsS86.ge HI0.out)|refine below_set ?_ GE281.out)|exact HB.out)),fun _ _=>(by repeat (first|(with_reducible first|exact HI0.out|apply IsS86.alloc|apply IsS86.drewN|apply IsS86.drew|apply IsS86.set_1|refine IsS86.far ?_ NB0_281.out _)|exact HI0.out)),z_HO294,Q_HA_HO294,fun h0_=>absurd ((hoff 12 (by kernel_rfl)).symm.trans h0_) (by decide),fun h0_=>absurd ((hoff 13 (by kernel_rfl)).symm.trans h0_) (by decide)⟩
     refine steps_cons ?_ ?_
     ·rintro b a w' ⟨v293,adz_v293,m13_,ha,Q_HO_9,Q_BK281,Q_HI0,Q_HK,Q_HB,Q_HI0_e4,Q_HO294,Q_HA_HO294,Q_HI0_e12,Q_X13_⟩ hb_ hon hoff
      refine ⟨_,rfl,fun K hK=>?_⟩
      have e41:a.tmps[41]?=some (.slice (some ad291) x9_1.length co24):=by rw [ha];exact (putSel_off rfl).trans rfl
      have e45:a.tmps[45]?=some (.int .i64 t289):=by rw [ha];exact putSel_on (e:=(4,45,.int .i64 t289)) 1 rfl rfl (hon 4 (by kernel_rfl)) rfl
      replace ha:=yam ha
      have HO_9:=yam Q_HO_9
      have BK281:=yam Q_BK281
      have HK:=yam Q_HK
      have HB:=yam Q_HB
      refine value_ (w1:=w') (v:= .pointer (some (ad291.add (t289).toNat))) (by rfl) rfl ?_ ?_
      ·go_simp
       (try simp only [i64_w])
       try rfl
      refine hK.out _ _ ⟨v293,adz_v293,m13_,(by rw [ha.out];exact putSel_upk 2 hb_ rfl rfl rfl),Q_HO_9,Q_BK281,fun h0_=>absurd ((hon 4 (by kernel_rfl)).symm.trans h0_) (by decide),Q_HK,Q_HB,Q_HI0_e4,Q_HO294,Q_HA_HO294,Q_HI0_e12,Q_X13_⟩
     refine steps_cons ?_ ?_
     ·rintro b a w' ⟨v293,adz_v293,m13_,ha,Q_HO_9,Q_BK281,Q_HI0,Q_HK,Q_HB,Q_HI0_e4,Q_HO294,Q_HA_HO294,Q_HI0_e12,Q_X13_⟩ hb_ hon hoff
      refine ⟨_,rfl,fun K hK=>?_⟩
      have e46:a.tmps[46]?=some (.pointer (some (ad291.add (t289).toNat))):=by rw [ha];exact putSel_on (e:=(5,46,.pointer (some (ad291.add (t289).toNat)))) 2 rfl rfl (hon 5 (by kernel_rfl)) rfl
      replace ha:=yam ha
      have HO_9:=yam Q_HO_9
      have BK281:=yam Q_BK281
      have HK:=yam Q_HK
      have HB:=yam Q_HB
      obtain ⟨ad291_z,e291_z,hx291_0_z⟩:=Kd.at_int (Kd.Yr HO_9.out).2.2 t289 (of_eq_true p291) (of_eq_true q291)
      cases e291_z
      have hs0_:w'.cell? (ad291.add (t289).toNat)=some (.int .i64 (rd x9_1 t289)):=(by first|exact hx291_0_z|(have h_:=hx291_0_z;(try simp only [Int.reduceToNat,Nat.zero_mul,Nat.reduceMul,Nat.reduceEqDiff,Go.Addr.add,↓reduceIte,Addr.add_zero'] at h_);exact h_))
      refine value_ (w1:=w') (v:= .int .i64 (rd x9_1 t289)) (by rfl) rfl ?_ ?_
      ·go_simp
       (try simp only [i64_w])
       try rfl
      refine hK.out _ _ ⟨v293,adz_v293,m13_,(by rw [ha.out];exact putSel_upk 3 hb_ rfl rfl rfl),Q_HO_9,Q_BK281,fun h0_=>absurd ((hon 4 (by kernel_rfl)).symm.trans h0_) (by decide),Q_HK,Q_HB,Q_HI0_e4,Q_HO294,Q_HA_HO294,Q_HI0_e12,Q_X13_⟩
     refine steps_cons ?_ ?_
     ·rintro b a w' ⟨v293,adz_v293,m13_,ha,Q_HO_9,Q_BK281,Q_HI0,Q_HK,Q_HB,Q_HI0_e4,Q_HO294,Q_HA_HO294,Q_HI0_e12,Q_X13_⟩ hb_ hon hoff
      refine ⟨_,rfl,fun K hK=>?_⟩
      have e49:a.tmps[49]?=some (.int .i64 a2):=by rw [ha];exact (putSel_off rfl).trans rfl
      replace ha:=yam ha
      have HO_9:=yam Q_HO_9
      have BK281:=yam Q_BK281
      have HK:=yam Q_HK
      have HB:=yam Q_HB
      refine value_ (w1:=w') (v:= .int .i64 (wrap64 (-a2))) (by rfl) rfl ?_ ?_
      ·go_simp
       (try simp only [i64_w])
       try rfl
      refine hK.out _ _ ⟨v293,adz_v293,m13_,(by rw [ha.out];exact putSel_upk 4 hb_ rfl rfl rfl),Q_HO_9,Q_BK281,Q_HI0,Q_HK,Q_HB,Q_HI0_e4,fun h0_=>absurd ((hoff 10 (by kernel_rfl)).symm.trans h0_) (by decide),fun h0_=>absurd ((hoff 10 (by kernel_rfl)).symm.trans h0_) (by decide),Q_HI0_e12,fun h0_=>absurd ((hoff 13 (by kernel_rfl)).symm.trans h0_) (by decide)⟩
     refine steps_cons ?_ ?_
     ·rintro b a w' ⟨v293,adz_v293,m13_,ha,Q_HO_9,Q_BK281,Q_HI0,Q_HK,Q_HB,Q_HI0_e4,Q_HO294,Q_HA_HO294,Q_HI0_e12,Q_X13_⟩ hb_ hon hoff
      refine ⟨_,rfl,fun K hK=>?_⟩
      have e48:a.tmps[48]?=some (.int .i64 a2):=by rw [ha];exact (putSel_off rfl).trans rfl
      have e50:a.tmps[50]?=some (.int .i64 (wrap64 (-a2))):=by rw [ha];exact putSel_on (e:=(9,50,.int .i64 (wrap64 (-a2)))) 4 rfl rfl (hon 9 (by kernel_rfl)) rfl
      replace ha:=yam ha
      have HO_9:=yam Q_HO_9
      have BK281:=yam Q_BK281
      have HK:=yam Q_HK
      have HB:=yam Q_HB
      refine Kd.R_lit_step (Kd.int .i64) _ 3 ?hg (N:=51) ?hd (xs:=([1,(-1),a2,wrap64 (-a2)]:List Int)) (inner:=[.int .i64 1,.int .i64 (-1),.int .i64 a2,.int .i64 (wrap64 (-a2))]) (ok:=fun _=>True) (okp:=fun _=>True) ?hr ?hp (fun _ hk=>hk) trivial (Below.refl _ _) (Nat.le_refl _) (by simp) ?_;(case hd=>rfl);(case hg=>rfl);(case hr=>first|(go_simp;done)|(go_simp;rfl));(case hp=>exact (Reps.one (show Kd.M (Kd.int .i64) _ _ _ 1 [.int .i64 1] from rfl) (Reps.one (show Kd.M (Kd.int .i64) _ _ _ (-1) [.int .i64 (-1)] from rfl) (Reps.one (show Kd.M (Kd.int .i64) _ _ _ a2 [.int .i64 a2] from rfl) (Reps.one (show Kd.M (Kd.int .i64) _ _ _ (wrap64 (-a2)) [.int .i64 (wrap64 (-a2))] from rfl) (Reps.none _ _))))))
      intro v293 w25 ho26 hb hg_ hnew_
      clear hg_ hnew_
      (first|rw [← Ny292.out] at ho26|(simp only [Int.reduceToNat] at ho26;rw [← Ny292.out] at ho26))
      have n0_:=yam (Kd.Ye (Kd.Yz HO_9.out) (Kd.Yb ho26) hb)
      have n1_:=yam (Kd.R_lower (Kd.Yw ho26 (Kd.R_lt (Kd.Yz HO_9.out))) (keep_size (w:=w) (g:=g) (row:=none) (by repeat (first|(with_reducible first|exact HK.out|apply KeepBut.set_|apply keep_drewN|apply keep_drew|apply keep_alloc|refine keep_far ?_ GW281.out _)|exact HK.out))))
      have n2_:=yam (ybb BK281.out hb)
      have n4_:=yam (KeepBut.trans (by repeat (first|(with_reducible first|exact HK.out|apply KeepBut.set_|apply keep_drewN|apply keep_drew|apply keep_alloc|refine keep_far ?_ GW281.out _)|exact HK.out)) (KeepBut.of_below hb g none) (.inl rfl))
      have n5_:=yam (below_step yhb hb)
      have z_HI0:=fun (h0_:b 4=false)=>(show IsS86 w0 w25 g s0_0 x1001_1 from by first|exact (IsS86.below (by repeat (first|(with_reducible first|exact (Q_HI0 h0_)|apply IsS86.alloc|apply IsS86.drewN|apply IsS86.drew|apply IsS86.set_1|refine IsS86.far ?_ NB0_281.out _)|exact (Q_HI0 h0_))) hb))
      have z_HI0_e4:=fun (h0_:b 4=true) (h1_:b 12=false)=>(show IsS86 w0 w25 g s0_0 t290 from by first|exact (IsS86.below (by repeat (first|(with_reducible first|exact (Q_HI0_e4 h0_ h1_)|apply IsS86.alloc|apply IsS86.drewN|apply IsS86.drew|apply IsS86.set_1|refine IsS86.far ?_ NB0_281.out _)|exact (Q_HI0_e4 h0_ h1_))) hb))
      have z_HI0_e12:=fun (h0_:b 12=true)=>(show IsS86 w0 w25 g s0_0 t296 from by first|exact (IsS86.below (by repeat (first|(with_reducible first|exact (Q_HI0_e12 h0_)|apply IsS86.alloc|apply IsS86.drewN|apply IsS86.drew|apply IsS86.set_1|refine IsS86.far ?_ NB0_281.out _)|exact (Q_HI0_e12 h0_))) hb))
      clear HO_9
      clear BK281
      clear HK
      clear HB
      have HO_9:=n0_
      have HO294:=n1_
      have BK281:=n2_
      have HK:=n4_
      have HB:=n5_
      clear n0_ n1_ n2_ n4_ n5_
      clear hb ho26
      obtain ⟨Ao27,co27,eo27⟩:=Kd.R_slice HO294.out
      subst eo27
      obtain ⟨ado27,fo27,_⟩:=Kd.at_int (Kd.Yr HO294.out).2.2 0 (by decide) (by rw [Ny292.out];simp)
      cases fo27
      refine hK.out _ _ ⟨.slice (some ado27) y292.length co27,ado27,m13_,(by rw [ha.out];exact putSel_upk 5 hb_ rfl rfl rfl),(by (with_reducible repeat (first|apply Kd.Ya|apply Kd.Yn|apply Kd.Yd));exact Kd.R_mono HO_9.out (fun _ hk=>by first|exact hk.2|trivial)),(ybz BK281.out),z_HI0,(by repeat (first|(with_reducible first|exact HK.out|apply KeepBut.set_|apply keep_drewN|apply keep_drew|apply keep_alloc|refine keep_far ?_ GW281.out _)|exact HK.out)),yhb,z_HI0_e4,fun _=>(by (with_reducible repeat (first|apply Kd.Ya|apply Kd.Yn|apply Kd.Yd));exact Kd.R_mono HO294.out (fun _ hk=>by first|exact hk.2|trivial)),fun _=>⟨_,rfl⟩,z_HI0_e12,fun h0_=>absurd ((hoff 13 (by kernel_rfl)).symm.trans h0_) (by decide)⟩
     refine steps_cons ?_ ?_
     ·rintro b a w' ⟨v293,adz_v293,m13_,ha,Q_HO_9,Q_BK281,Q_HI0,Q_HK,Q_HB,Q_HI0_e4,Q_HO294,Q_HA_HO294,Q_HI0_e12,Q_X13_⟩ hb_ hon hoff
      refine ⟨_,rfl,fun K hK=>?_⟩
      have e52:a.tmps[52]?=some (.pointer (some ⟨g,0,none⟩)):=by rw [ha];exact (putSel_off rfl).trans rfl
      replace ha:=yam ha
      have HO_9:=yam Q_HO_9
      have BK281:=yam Q_BK281
      have HK:=yam Q_HK
      have HB:=yam Q_HB
      have HI0:=yam (Q_HI0_e4 (hon 4 (by kernel_rfl)) hb_)
      refine goes_ Try.func81 (by kernel_rfl) rfl #[.pointer (some ⟨g,0,none⟩),.int .i64 4] (by rfl) rfl rfl (by first|(simp only [List.map_toArray,List.map_cons,List.map_nil,Act.eval,Array.getD_eq_getD_getElem?,Option.getD_some,e52];done)|(simp only [List.map_toArray,List.map_cons,List.map_nil,Act.eval,Array.getD_eq_getD_getElem?,Option.getD_some,e52];rfl)) ?_
      with_reducible refine (spec_l20Rd_pick.calls kj11 g s0_0 t290 4 t295 t296 w0 _ ?side1 ?side2 A19.out).mono ?_
      (case side1=>repeat (first|(with_reducible first|exact HI0.out|apply IsS86.alloc|apply IsS86.drewN|apply IsS86.drew|apply IsS86.set_1|refine IsS86.far ?_ NB0_281.out _)|exact HI0.out))
      (case side2=>repeat (first|(with_reducible first|exact HB.out|apply yea|apply yen|apply yed|refine below_set ?_ (IsS86.ge HI0.out)|refine below_set ?_ GE281.out)|exact HB.out))
      rintro e w27 ⟨rfl,hi,hb,hk⟩
      refine ⟨_,rfl,?_⟩
      have n0_:=yam (Kd.R_mono (Kd.R_keep (IsS86.apart (show IsS86 w0 _ g s0_0 t290 from by repeat (first|(with_reducible first|exact HI0.out|apply IsS86.alloc|apply IsS86.drewN|apply IsS86.drew|apply IsS86.set_1|refine IsS86.far ?_ NB0_281.out _)|exact HI0.out)) (Kd.Yz HO_9.out) (by decide)) hk (fun _ h=>h.2)) (fun _ h=>h.1))
      have n1_:=yam (KeepBut.blk hk (g':=gb281) (o:= .cells #[.int .i64 0,.slice none 0 0,.int .i64 0] 32 (0,0)) (ybz BK281.out) NB281_0.out (by simp))
      have n2_:=yam (KeepBut.trans (by repeat (first|(with_reducible first|exact HK.out|apply KeepBut.set_|apply keep_drewN|apply keep_drew|apply keep_alloc|refine keep_far ?_ GW281.out _)|exact HK.out)) hk (.inl rfl))
      have n3_:=yam (hb)
      have n4_:=yam (hi)
      have z_HO294:=fun (h0_:b 10=true)=>(show Kd.R (Kd.int .i64) 3 w27 w.heap.size (fun k_=>some k_≠(.slice (some ad291) x9_1.length co24:Value).ownBlock) v293 y292 from by first|exact (Kd.R_mono (Kd.R_keep (IsS86.apart (show IsS86 w0 _ g s0_0 t290 from by repeat (first|(with_reducible first|exact HI0.out|apply IsS86.alloc|apply IsS86.drewN|apply IsS86.drew|apply IsS86.set_1|refine IsS86.far ?_ NB0_281.out _)|exact HI0.out)) (by (with_reducible repeat (first|apply Kd.Ya|apply Kd.Yn|apply Kd.Yd));exact (Q_HO294 h0_)) (by decide)) hk (fun _ h=>h.2)) (fun _ h=>h.1))|exact Kd.R_mono (Kd.R_mono (Kd.R_keep (IsS86.apart (show IsS86 w0 _ g s0_0 t290 from by repeat (first|(with_reducible first|exact HI0.out|apply IsS86.alloc|apply IsS86.drewN|apply IsS86.drew|apply IsS86.set_1|refine IsS86.far ?_ NB0_281.out _)|exact HI0.out)) (by (with_reducible repeat (first|apply Kd.Ya|apply Kd.Yn|apply Kd.Yd));exact (Q_HO294 h0_)) (by decide)) hk (fun _ h=>h.2)) (fun _ h=>h.1)) (fun _ h_=>by first|trivial|exact h_|exact h_.1))
      clear HO_9
      clear BK281
      clear HK
      clear HB
      clear HI0
      have HO_9:=n0_
      have BK281:=n1_
      have HK:=n2_
      have HB:=n3_
      have HI0:=n4_
      clear n0_ n1_ n2_ n3_ n4_
      (try clear hb)
      (try clear hb2)
      (try clear hk)
      (try clear hi)
      refine hK.out _ _ ⟨v293,adz_v293,m13_,(by rw [ha.out];exact putSel_upk 6 hb_ rfl rfl rfl),(Kd.Yz HO_9.out),(ybz BK281.out),fun h0_=>absurd ((hon 4 (by kernel_rfl)).symm.trans h0_) (by decide),(by repeat (first|(with_reducible first|exact HK.out|apply KeepBut.set_|apply keep_drewN|apply keep_drew|apply keep_alloc|refine keep_far ?_ GW281.out _)|exact HK.out)),(by repeat (first|(with_reducible first|exact HB.out|apply yea|apply yen|apply yed|refine below_set ?_ (IsS86.ge HI0.out)|refine below_set ?_ GE281.out)|exact HB.out)),fun _ h1_=>absurd ((up_self b 12).symm.trans h1_) (by decide),z_HO294,Q_HA_HO294,fun _=>(by repeat (first|(with_reducible first|exact HI0.out|apply IsS86.alloc|apply IsS86.drewN|apply IsS86.drew|apply IsS86.set_1|refine IsS86.far ?_ NB0_281.out _)|exact HI0.out)),fun h0_=>absurd ((hoff 13 (by kernel_rfl)).symm.trans h0_) (by decide)⟩
     refine steps_cons ?_ ?_
     ·rintro b a w' ⟨v293,adz_v293,m13_,ha,Q_HO_9,Q_BK281,Q_HI0,Q_HK,Q_HB,Q_HI0_e4,Q_HO294,Q_HA_HO294,Q_HI0_e12,Q_X13_⟩ hb_ hon hoff
      refine ⟨_,rfl,fun K hK=>?_⟩
      have e51:a.tmps[51]?=some (v293):=by rw [ha];exact putSel_on (e:=(10,51,v293)) 5 rfl rfl (hon 10 (by kernel_rfl)) rfl
      have e53:a.tmps[53]?=some (.int .i64 t295):=by rw [ha];exact putSel_on (e:=(12,53,.int .i64 t295)) 6 rfl rfl (hon 12 (by kernel_rfl)) rfl
      replace ha:=yam ha
      have HO_9:=yam Q_HO_9
      have BK281:=yam Q_BK281
      have HK:=yam Q_HK
      have HB:=yam Q_HB
      have HO294:=yam (Q_HO294 (hon 10 (by kernel_rfl)))
      have HA_HO294:=yam (Q_HA_HO294 (hon 10 (by kernel_rfl)))
      have HI0:=yam (Q_HI0_e12 (hon 12 (by kernel_rfl)))
      obtain ⟨c_,hv_⟩:=HA_HO294.out
      rw [hv_] at e51
      refine value_ (w1:=w') (v:= .pointer (some (adz_v293.add (t295).toNat))) (by rfl) rfl ?_ ?_
      ·go_simp
       (try simp only [i64_w])
       try rfl
      refine hK.out _ _ ⟨v293,adz_v293,(.pointer (some (adz_v293.add (t295).toNat))),(by rw [ha.out];exact putSel_upk 7 hb_ rfl rfl rfl),Q_HO_9,Q_BK281,fun h0_=>absurd ((hon 4 (by kernel_rfl)).symm.trans h0_) (by decide),Q_HK,Q_HB,fun _ h1_=>absurd ((hon 12 (by kernel_rfl)).symm.trans h1_) (by decide),Q_HO294,Q_HA_HO294,Q_HI0_e12,fun _=>rfl⟩
     refine steps_cons ?_ ?_
     ·rintro b a w' ⟨v293,adz_v293,m13_,ha,Q_HO_9,Q_BK281,Q_HI0,Q_HK,Q_HB,Q_HI0_e4,Q_HO294,Q_HA_HO294,Q_HI0_e12,Q_X13_⟩ hb_ hon hoff
      refine ⟨_,rfl,fun K hK=>?_⟩
      have e54:a.tmps[54]?=some (m13_):=by rw [ha];exact putSel_on (e:=(13,54,m13_)) 7 rfl rfl (hon 13 (by kernel_rfl)) rfl
      rw [Q_X13_ (hon 13 (by kernel_rfl))] at e54
      replace ha:=yam ha
      have HO_9:=yam Q_HO_9
      have BK281:=yam Q_BK281
      have HK:=yam Q_HK
      have HB:=yam Q_HB
      have HO294:=yam (Q_HO294 (hon 10 (by kernel_rfl)))
      have HA_HO294:=yam (Q_HA_HO294 (hon 10 (by kernel_rfl)))
      have HI0:=yam (Q_HI0_e12 (hon 12 (by kernel_rfl)))
      obtain ⟨c_,hv_⟩:=HA_HO294.out
      have hF_:=HO294.out
      rw [hv_] at hF_
      obtain ⟨ad_,ea_,hx_⟩:=Kd.at_int (Kd.Yr hF_).2.2 t295 (of_eq_true pi297) (of_eq_true qi297)
      cases ea_
      refine value_ (w1:=w') (v:= .int .i64 (rd y292 t295)) (by rfl) rfl ?_ ?_
      ·go_simp
       (try simp only [i64_w])
       try rfl
      refine hK.out _ _ ⟨v293,adz_v293,m13_,(by rw [ha.out];exact putSel_upk 8 hb_ rfl rfl rfl),Q_HO_9,Q_BK281,fun h0_=>absurd ((hon 4 (by kernel_rfl)).symm.trans h0_) (by decide),Q_HK,Q_HB,fun _ h1_=>absurd ((hon 12 (by kernel_rfl)).symm.trans h1_) (by decide),Q_HO294,Q_HA_HO294,Q_HI0_e12,Q_X13_⟩
     refine steps_cons ?_ ?_
     ·rintro b a w' ⟨v293,adz_v293,m13_,ha,Q_HO_9,Q_BK281,Q_HI0,Q_HK,Q_HB,Q_HI0_e4,Q_HO294,Q_HA_HO294,Q_HI0_e12,Q_X13_⟩ hb_ hon hoff
      refine ⟨_,rfl,fun K hK=>?_⟩
      have e47:a.tmps[47]?=some (.int .i64 (rd x9_1 t289)):=by rw [ha];exact putSel_on (e:=(6,47,.int .i64 (rd x9_1 t289))) 3 rfl rfl (hon 6 (by kernel_rfl)) rfl
      have e55:a.tmps[55]?=some (.int .i64 (rd y292 t295)):=by rw [ha];exact putSel_on (e:=(14,55,.int .i64 (rd y292 t295))) 8 rfl rfl (hon 14 (by kernel_rfl)) rfl
      replace ha:=yam ha
      have HO_9:=yam Q_HO_9
      have BK281:=yam Q_BK281
      have HK:=yam Q_HK
      have HB:=yam Q_HB
      have HO294:=yam (Q_HO294 (hon 10 (by kernel_rfl)))
      have HA_HO294:=yam (Q_HA_HO294 (hon 10 (by kernel_rfl)))
      have HI0:=yam (Q_HI0_e12 (hon 12 (by kernel_rfl)))
      refine value_ (w1:=w') (v:= .int .i64 (wrap64 ((rd x9_1 t289) + (rd y292 t295)))) (by rfl) rfl ?_ ?_
      ·go_simp
       (try simp only [i64_w])
       try rfl
      refine hK.out _ _ ⟨v293,adz_v293,m13_,(by rw [ha.out];exact putSel_upk 9 hb_ rfl rfl rfl),Q_HO_9,Q_BK281,fun h0_=>absurd ((hon 4 (by kernel_rfl)).symm.trans h0_) (by decide),Q_HK,Q_HB,fun _ h1_=>absurd ((hon 12 (by kernel_rfl)).symm.trans h1_) (by decide),Q_HO294,Q_HA_HO294,Q_HI0_e12,Q_X13_⟩
     refine steps_cons ?_ ?_
     ·rintro b a w' ⟨v293,adz_v293,m13_,ha,Q_HO_9,Q_BK281,Q_HI0,Q_HK,Q_HB,Q_HI0_e4,Q_HO294,Q_HA_HO294,Q_HI0_e12,Q_X13_⟩ hb_ hon hoff
      refine ⟨_,rfl,fun K hK=>?_⟩
      have e56:a.tmps[56]?=some (.int .i64 (wrap64 ((rd x9_1 t289) + (rd y292 t295)))):=by rw [ha];exact putSel_on (e:=(15,56,.int .i64 (wrap64 ((rd x9_1 t289) + (rd y292 t295))))) 9 rfl rfl (hon 15 (by kernel_rfl)) rfl
      replace ha:=yam ha
      have HO_9:=yam Q_HO_9
      have BK281:=yam Q_BK281
      have HK:=yam Q_HK
      have HB:=yam Q_HB
      have HO294:=yam (Q_HO294 (hon 10 (by kernel_rfl)))
      have HA_HO294:=yam (Q_HA_HO294 (hon 10 (by kernel_rfl)))
      have HI0:=yam (Q_HI0_e12 (hon 12 (by kernel_rfl)))
      refine value_ (w1:=w') (v:= .int .i64 (wrap64 ((rd x9_1 t289) + (rd y292 t295)))) (by rfl) rfl ?_ ?_
      ·go_simp
       (try simp only [i64_w])
       try rfl
      refine hK.out _ _ ⟨v293,adz_v293,m13_,(by rw [ha.out];exact putSel_upk 10 hb_ rfl rfl rfl),Q_HO_9,Q_BK281,fun h0_=>absurd ((hon 4 (by kernel_rfl)).symm.trans h0_) (by decide),Q_HK,Q_HB,fun _ h1_=>absurd ((hon 12 (by kernel_rfl)).symm.trans h1_) (by decide),Q_HO294,Q_HA_HO294,Q_HI0_e12,Q_X13_⟩
     exact steps_nil
    rintro b a w30 hall ⟨v293,adz_v293,m13_,ha,Q_HO_9,Q_BK281,Q_HI0,Q_HK,Q_HB,Q_HI0_e4,Q_HO294,Q_HA_HO294,Q_HI0_e12,Q_X13_⟩
    clear BK281 HB HI0 HK HO_9
    have hb3_:=hall 3 (by kernel_rfl)
    have hb4_:=hall 4 (by kernel_rfl)
    have hb5_:=hall 5 (by kernel_rfl)
    have hb6_:=hall 6 (by kernel_rfl)
    have hb9_:=hall 9 (by kernel_rfl)
    have hb10_:=hall 10 (by kernel_rfl)
    have hb12_:=hall 12 (by kernel_rfl)
    have hb13_:=hall 13 (by kernel_rfl)
    have hb14_:=hall 14 (by kernel_rfl)
    have hb15_:=hall 15 (by kernel_rfl)
    have hb16_:=hall 16 (by kernel_rfl)
    subst ha
    obtain rfl:=Q_X13_ hb13_
    simp only [putSel,hb3_,hb4_,hb5_,hb6_,hb9_,hb10_,hb12_,hb13_,hb14_,hb15_,hb16_,if_true,Act.put,yps]
    have HO_9:=yam Q_HO_9
    clear Q_HO_9
    have BK281:=yam Q_BK281
    clear Q_BK281
    clear Q_HI0
    have HK:=yam Q_HK
    clear Q_HK
    have HB:=yam Q_HB
    clear Q_HB
    clear Q_HI0_e4
    have HO294:=yam (Q_HO294 hb10_)
    clear Q_HO294
    have HA_HO294:=yam (Q_HA_HO294 hb10_)
    clear Q_HA_HO294
    have HI0:=yam (Q_HI0_e12 hb12_)
    clear Q_HI0_e12
    clear hall hb3_ hb4_ hb5_ hb6_ hb9_ hb10_ hb12_ hb13_ hb14_ hb15_ hb16_
    obtain ⟨co31,eo31⟩:=HA_HO294.out
    clear HA_HO294
    subst eo31
    go_upto_region 7 with (fail)
    go_cut [13] (fun v13 wc=>∃ (kq:Nat) (x13_21:Bool),v13= .bool x13_21∧Aside0 (spec_l20Rule.j2 kq l1 a2 a3 x9_1 (wrap64 (2 + t287)) x11_1 (wrap64 ((rd x9_1 t289) + (rd y292 t295))) x13_21 s0_0 t296=some (r1,r2,r3,r4))∧Aside0 (kq≤kj11)∧Aside0 (Kd.R (Kd.int .i64) 3 wc w.heap.size (fun _=>True) (.slice (some ad291) x9_1.length co24) x9_1)∧Aside0 (wc.heap[gb281]?=some (.cells #[.int .i64 0,(.slice none 0 0),.int .i64 0] 32 (0,0)))∧Aside0 (IsS86 w0 wc g s0_0 t296)∧Aside0 (KeepBut w wc g none)∧Aside0 (Below w0.heap.size w0 wc))
    case first=>as_aux_lemma =>
     have H:=HC22.out
     clear HC22
     replace H:=yis H;obtain ⟨c32b0,H⟩ | ⟨c32b0,H⟩:=H
     rotate_left
     ·(first|rw [c32b0]|(simp only [i64_w,i32_w];rw [c32b0])|skip)
      replace H:=yam H
      go_wp2
      go_meet
      case rel=>exact ⟨_,(false),yeq,H,⟨by have:=HK1.out;have:=HJ11.out;first|omega|exact Nat.le_refl _⟩,⟨by (with_reducible repeat (first|apply Kd.Ya|apply Kd.Yn|apply Kd.Yd));exact Kd.R_mono HO_9.out (fun _ hk=>trivial)⟩,⟨ybk BK281.out⟩,⟨by repeat (first|(with_reducible first|exact HI0.out|apply IsS86.alloc|apply IsS86.drewN|apply IsS86.drew|apply IsS86.set_1|refine IsS86.far ?_ NB0_281.out _)|exact HI0.out)⟩,⟨by repeat (first|(with_reducible first|exact HK.out|apply KeepBut.set_|apply keep_drewN|apply keep_drew|apply keep_alloc|refine keep_far ?_ GW281.out _)|exact HK.out)⟩,⟨by repeat (first|(with_reducible first|exact HB.out|apply yea|apply yen|apply yed|refine below_set ?_ (IsS86.ge HI0.out)|refine below_set ?_ GE281.out)|exact HB.out)⟩⟩
     (first|rw [c32b0]|(simp only [i64_w,i32_w];rw [c32b0])|skip)
     replace H:=yam H
     go_wp2
     go_meet
     case rel=>exact ⟨_,(decide ((wrap64 ((rd x9_1 t289) + (rd y292 t295))) < (wrap64 (a2 * a2)))),yeq,H,⟨by have:=HK1.out;have:=HJ11.out;first|omega|exact Nat.le_refl _⟩,⟨by (with_reducible repeat (first|apply Kd.Ya|apply Kd.Yn|apply Kd.Yd));exact Kd.R_mono HO_9.out (fun _ hk=>trivial)⟩,⟨ybk BK281.out⟩,⟨by repeat (first|(with_reducible first|exact HI0.out|apply IsS86.alloc|apply IsS86.drewN|apply IsS86.drew|apply IsS86.set_1|refine IsS86.far ?_ NB0_281.out _)|exact HI0.out)⟩,⟨by repeat (first|(with_reducible first|exact HK.out|apply KeepBut.set_|apply keep_drewN|apply keep_drew|apply keep_alloc|refine keep_far ?_ GW281.out _)|exact HK.out)⟩,⟨by repeat (first|(with_reducible first|exact HB.out|apply yea|apply yen|apply yed|refine below_set ?_ (IsS86.ge HI0.out)|refine below_set ?_ GE281.out)|exact HB.out)⟩⟩
    case rest=>as_aux_lemma =>
     clear HC22
     try clear c17b0
     try clear c18b0
     try clear c20b0
     try clear c21b0
     try clear hx291_0
     try clear p291
     try clear q291
     obtain ⟨kq,x13_21,rfl,HA,HJ21,HO_9,BK281,HI0,HK,HB⟩:=hcut
     rcases kq with _|kj21
     ·exact absurd HA.out (by simp [spec_l20Rule.j2])
     obtain ⟨H⟩:=HA
     simp only [spec_l20Rule.j2] at H
     replace H:=yam H
     go_wp2
     go_loopg [13,14] kj21 (fun kq v13 v14 w'=>∃ (x13_4:Bool) (x14_4:Int),v13= .bool x13_4∧v14= .int .i64 x14_4∧Aside0 (spec_l20Rule.l1 kq l1 a2 a3 x9_1 (wrap64 (2 + t287)) x11_1 (wrap64 ((rd x9_1 t289) + (rd y292 t295))) x13_4 x14_4 s0_0 t296=some (r1,r2,r3,r4))∧Aside0 (kq≤kj21)∧Aside0 (Kd.R (Kd.int .i64) 3 w' w.heap.size (fun _=>True) (.slice (some ad291) x9_1.length co24) x9_1)∧Aside0 (w'.heap[gb281]?=some (.cells #[.int .i64 0,(.slice none 0 0),.int .i64 0] 32 (0,0)))∧Aside0 (IsS86 w0 w' g s0_0 t296)∧Aside0 (KeepBut w w' g none)∧Aside0 (Below w0.heap.size w0 w'))
     case atStart=>exact ⟨(x13_21),(0),yeq,yeq,H,⟨Nat.le_refl _⟩,⟨yka HO_9.out⟩,⟨ybk BK281.out⟩,⟨by repeat (first|(with_reducible first|exact HI0.out|apply IsS86.alloc|apply IsS86.drewN|apply IsS86.drew|apply IsS86.set_1|refine IsS86.far ?_ NB0_281.out _)|exact HI0.out)⟩,⟨by repeat (first|(with_reducible first|exact HK.out|apply KeepBut.set_|apply keep_drewN|apply keep_drew|apply keep_alloc|refine keep_far ?_ GW281.out _)|exact HK.out)⟩,⟨by repeat (first|(with_reducible first|exact HB.out|apply yea|apply yen|apply yed|refine below_set ?_ (IsS86.ge HI0.out)|refine below_set ?_ GE281.out)|exact HB.out)⟩⟩
     case round=>as_aux_lemma =>
      clear H
      obtain ⟨x13_4,x14_4,rfl,rfl,HA,HK4,HO_9,BK281,HI0,HK,HB⟩:=hrel
      rcases gk with _|k4
      ·exact absurd HA.out (by simp [spec_l20Rule.l1])
      obtain ⟨H⟩:=HA
      simp only [spec_l20Rule.l1] at H
      replace H:=yis H;obtain ⟨c33b0,H⟩ | ⟨c33b0,H⟩:=H
      ·cases x13_4
       ·replace H:=yff H
        replace H:=yam H
        go_wp2
        go_roundg k4
        case measure=>have:=HK1.out;have:=HJ11.out;have:=HJ21.out;have:=HK4.out;omega
        case rel=>exact ⟨(false),(wrap64 (x14_4 + 1)),yeq,yeq,H,⟨by have:=HK1.out;have:=HJ11.out;have:=HJ21.out;have:=HK4.out;omega⟩,⟨yka HO_9.out⟩,⟨ybk BK281.out⟩,⟨by repeat (first|(with_reducible first|exact HI0.out|apply IsS86.alloc|apply IsS86.drewN|apply IsS86.drew|apply IsS86.set_1|refine IsS86.far ?_ NB0_281.out _)|exact HI0.out)⟩,⟨by repeat (first|(with_reducible first|exact HK.out|apply KeepBut.set_|apply keep_drewN|apply keep_drew|apply keep_alloc|refine keep_far ?_ GW281.out _)|exact HK.out)⟩,⟨by repeat (first|(with_reducible first|exact HB.out|apply yea|apply yen|apply yed|refine below_set ?_ (IsS86.ge HI0.out)|refine below_set ?_ GE281.out)|exact HB.out)⟩⟩
       replace H:=ytt H
       replace H:=yif H;obtain ⟨c35b0,H⟩:=H
       replace H:=yam H
       obtain ⟨ad298,e298,hx298_0,p298,q298⟩:=yat (Kd.Yr HO_9.out).2.2 x14_4
       obtain rfl:ad291=ad298:=(by injection e298)
       go_wp2
       go_roundg k4
       case measure=>have:=HK1.out;have:=HJ11.out;have:=HJ21.out;have:=HK4.out;omega
       case rel=>exact ⟨(((rd x9_1 x14_4) != (wrap64 ((rd x9_1 t289) + (rd y292 t295))))),(wrap64 (x14_4 + 1)),yeq,yeq,H,⟨by have:=HK1.out;have:=HJ11.out;have:=HJ21.out;have:=HK4.out;omega⟩,⟨yka HO_9.out⟩,⟨ybk BK281.out⟩,⟨by repeat (first|(with_reducible first|exact HI0.out|apply IsS86.alloc|apply IsS86.drewN|apply IsS86.drew|apply IsS86.set_1|refine IsS86.far ?_ NB0_281.out _)|exact HI0.out)⟩,⟨by repeat (first|(with_reducible first|exact HK.out|apply KeepBut.set_|apply keep_drewN|apply keep_drew|apply keep_alloc|refine keep_far ?_ GW281.out _)|exact HK.out)⟩,⟨by repeat (first|(with_reducible first|exact HB.out|apply yea|apply yen|apply yed|refine below_set ?_ (IsS86.ge HI0.out)|refine below_set ?_ GE281.out)|exact HB.out)⟩⟩
      cases x13_4
      ·replace H:=yff H
       replace H:=yam H
       go_wp2
       go_roundg k4
       case measure=>have:=HK1.out;have:=HJ11.out;have:=HJ21.out;have:=HK4.out;omega
       case rel=>exact ⟨(x9_1),(wrap64 (x11_1 + 1)),(t296),yeq,H,⟨by have:=HK1.out;have:=HJ11.out;have:=HJ21.out;have:=HK4.out;omega⟩,⟨yka HO_9.out⟩,⟨ybk BK281.out⟩,⟨by repeat (first|(with_reducible first|exact HI0.out|apply IsS86.alloc|apply IsS86.drewN|apply IsS86.drew|apply IsS86.set_1|refine IsS86.far ?_ NB0_281.out _)|exact HI0.out)⟩,⟨by repeat (first|(with_reducible first|exact HK.out|apply KeepBut.set_|apply keep_drewN|apply keep_drew|apply keep_alloc|refine keep_far ?_ GW281.out _)|exact HK.out)⟩,⟨by repeat (first|(with_reducible first|exact HB.out|apply yea|apply yen|apply yed|refine below_set ?_ (IsS86.ge HI0.out)|refine below_set ?_ GE281.out)|exact HB.out)⟩⟩
      replace H:=ytt H
      obtain ⟨y299,Ny299⟩:∃ y_:List Int,Aside0 (y_=(([(wrap64 ((rd x9_1 t289) + (rd y292 t295)))]:List Int))):=⟨_,⟨rfl⟩⟩
      replace H:(if x9_1.length + y299.length < 17592186044416 then (spec_l20Rule.l0 k4 l1 a2 a3 (x9_1 ++ y299) (wrap64 (2 + t287)) (wrap64 (x11_1 + 1)) s0_0 t296) else (none))=some (r1,r2,r3,r4):=yhn Ny299.out H
      replace H:=yig H;obtain ⟨c37,H⟩:=H
      have LMc37:=yam c37
      clear c37
      obtain ⟨y302,Ny302⟩:∃ y_:List Int,Aside0 (y_=(x9_1 ++ y299)):=⟨_,⟨rfl⟩⟩
      replace H:(spec_l20Rule.l0 k4 l1 a2 a3 y302 (wrap64 (2 + t287)) (wrap64 (x11_1 + 1)) s0_0 t296)=some (r1,r2,r3,r4):=yhn Ny302.out H
      replace H:=yam H
      go_wp2_with (first|((with_reducible refine gate_dst (N:=84) rfl ?_);(try (refine gate_guard (by rfl) ?_;dsimp only));refine Kd.R_lit (Kd.int .i64) _ 3 ?hg (N:=84) ?hd (xs:=([(wrap64 ((rd x9_1 t289) + (rd y292 t295)))]:List Int)) (inner:=[.int .i64 (wrap64 ((rd x9_1 t289) + (rd y292 t295)))]) (ok:=fun _=>True) (okp:=fun _=>True) ?hr ?hp (fun _ hk=>hk) trivial (Below.refl _ _) (Nat.le_refl _) (by simp) ?_;(case hd=>rfl);(case hg=>rfl);(case hr=>first|(go_simp;done)|(go_simp;rfl));(case hp=>exact (Reps.one (show Kd.M (Kd.int .i64) _ _ _ (wrap64 ((rd x9_1 t289) + (rd y292 t295))) [.int .i64 (wrap64 ((rd x9_1 t289) + (rd y292 t295)))] from rfl) (Reps.none _ _)));intro v300 w38 ho39 hb hg_ hnew_;clear hg_ hnew_;(first|rw [← Ny299.out] at ho39|(simp only [Int.reduceToNat] at ho39;rw [← Ny299.out] at ho39));have HO301:=yam (Kd.R_lower (Kd.Yw ho39 (Kd.R_lt (Kd.Yz HO_9.out))) (keep_size (w:=w) (g:=g) (row:=none) (by repeat (first|(with_reducible first|exact HK.out|apply KeepBut.set_|apply keep_drewN|apply keep_drew|apply keep_alloc|refine keep_far ?_ GW281.out _)|exact HK.out))));replace HO_9:=yam (Kd.Ye (Kd.Yz HO_9.out) (Kd.Yb ho39) hb);replace BK281:=yam (ybb BK281.out hb);replace HK:=yam (KeepBut.trans (by repeat (first|(with_reducible first|exact HK.out|apply KeepBut.set_|apply keep_drewN|apply keep_drew|apply keep_alloc|refine keep_far ?_ GW281.out _)|exact HK.out)) (KeepBut.of_below hb g none) (.inl rfl));replace HB:=yam (below_step (by repeat (first|(with_reducible first|exact HB.out|apply yea|apply yen|apply yed|refine below_set ?_ (IsS86.ge HI0.out)|refine below_set ?_ GE281.out)|exact HB.out)) hb);replace HI0:=yam (IsS86.below (by repeat (first|(with_reducible first|exact HI0.out|apply IsS86.alloc|apply IsS86.drewN|apply IsS86.drew|apply IsS86.set_1|refine IsS86.far ?_ NB0_281.out _)|exact HI0.out)) hb);clear hb ho39;obtain ⟨Ao41,co41,eo41⟩:=Kd.R_slice HO301.out;subst eo41)|((with_reducible refine gate_builtin (b:= .append) (xs:= #[.tmp 82,.tmp 84]) rfl ?_);(try (refine gate_guard (by rfl) ?_;dsimp only));at_builtin;refine Kd.R_append_rows (Kd.int .i64) w.heap.size rfl (.tmp 82) (.tmp 84) 23 3 (.int .i64 0) 8 rfl Try.underlying23 info3 rfl (by decide) (by omega) (.slice (some ad291) x9_1.length co24) x9_1 y299 _ _ _ (fun k_=>some k_≠(.slice Ao41 y299.length co41:Value).ownBlock) (fun _=>False) rfl rfl ?aO ?aR (fun _ _ h=>h) (fun _ h=>h.elim) ?aF (Below.refl _ _) ?aS ?aL ?_;(case aR=>repeat (first|exact (Kd.Yr HO301.out).2.2|(with_reducible refine Kd.C_alloc ?_ _)|(with_reducible refine Kd.C_drewN ?_ _)|(with_reducible refine Kd.C_drew ?_)));(case aF=>exact (fun k_ hk=>Kd.fresh' (Kd.R_lt (Kd.Yz HO301.out)) k_ hk));(case aO=>exact (by (with_reducible repeat (first|apply Kd.Ya|apply Kd.Yn|apply Kd.Yd));exact Kd.R_mono HO_9.out (fun _ hk=>hk.2)));(case aS=>exact (keep_size (w:=w) (g:=g) (row:=none) (by repeat (first|(with_reducible first|exact HK.out|apply KeepBut.set_|apply keep_drewN|apply keep_drew|apply keep_alloc|refine keep_far ?_ GW281.out _)|exact HK.out))));(case aL=>have:=LMc37.out;omega);intro v303 w40 ho hb hg hat;rw [← Ny302.out] at ho;replace BK281:=yam (blk_grown (g:=gb281) (o:= .cells #[.int .i64 0,.slice none 0 0,.int .i64 0] 32 (0,0)) (ybz BK281.out) hg (Kd.R_ne HO_9.out BK281.out (by decide)));replace HO301:=yam (Kd.R_after (ok:=(fun _=>True)) (Kd.Yz HO301.out) hg hat);replace HB:=yam (below_weaken (by repeat (first|(with_reducible first|exact HB.out|apply yea|apply yen|apply yed|refine below_set ?_ (IsS86.ge HI0.out)|refine below_set ?_ GE281.out)|exact HB.out)) HL.out hb);replace HI0:=yam (IsS86.grown (by repeat (first|(with_reducible first|exact HI0.out|apply IsS86.alloc|apply IsS86.drewN|apply IsS86.drew|apply IsS86.set_1|refine IsS86.far ?_ NB0_281.out _)|exact HI0.out)) hg (IsS86.own_ne HI0.out HO_9.out (by decide)));replace HK:=yam (KeepBut.trans (by repeat (first|(with_reducible first|exact HK.out|apply KeepBut.set_|apply keep_drewN|apply keep_drew|apply keep_alloc|refine keep_far ?_ GW281.out _)|exact HK.out)) (KeepBut.of_grown hg g) (Kd.R_base2 HO_9.out));have HO304:=yam (ho);clear HO_9;clear ho hb hg hat))
      go_roundg k4
      case measure=>have:=HK1.out;have:=HJ11.out;have:=HJ21.out;have:=HK4.out;omega
      case rel=>exact ⟨(y302),(wrap64 (x11_1 + 1)),(t296),yeq,H,⟨by have:=HK1.out;have:=HJ11.out;have:=HJ21.out;have:=HK4.out;omega⟩,⟨by (with_reducible repeat (first|apply Kd.Ya|apply Kd.Yn|apply Kd.Yd));exact Kd.R_mono HO304.out (fun _ hk=>trivial)⟩,⟨ybk BK281.out⟩,⟨by repeat (first|(with_reducible first|exact HI0.out|apply IsS86.alloc|apply IsS86.drewN|apply IsS86.drew|apply IsS86.set_1|refine IsS86.far ?_ NB0_281.out _)|exact HI0.out)⟩,⟨by repeat (first|(with_reducible first|exact HK.out|apply KeepBut.set_|apply keep_drewN|apply keep_drew|apply keep_alloc|refine keep_far ?_ GW281.out _)|exact HK.out)⟩,⟨by repeat (first|(with_reducible first|exact HB.out|apply yea|apply yen|apply yed|refine below_set ?_ (IsS86.ge HI0.out)|refine below_set ?_ GE281.out)|exact HB.out)⟩⟩
   replace H:=yff H
   replace H:=yam H
   go_wp2
   go_loopg [15,16,17] kj11 (fun kq v15 v16 v17 w'=>∃ (x15_3:Int) (x16_3:Int) (x17_3:Int),v15= .int .i64 x15_3∧v16= .int .i64 x16_3∧v17= .int .i64 x17_3∧Aside0 (spec_l20Rule.l2 kq l1 a2 a3 x9_1 x15_3 x16_3 x17_3 s0_0 x1001_1=some (r1,r2,r3,r4))∧Aside0 (kq≤kj11)∧Aside0 (Kd.R (Kd.int .i64) 3 w' w.heap.size (fun _=>True) u9 x9_1)∧Aside0 (w'.heap[gb281]?=some (.cells #[.int .i64 0,(.slice none 0 0),.int .i64 0] 32 (0,0)))∧Aside0 (IsS86 w0 w' g s0_0 x1001_1)∧Aside0 (KeepBut w w' g none)∧Aside0 (Below w0.heap.size w0 w'))
   case atStart=>exact ⟨(0),(1),(0),yeq,yeq,yeq,H,⟨Nat.le_refl _⟩,⟨yka HO_9.out⟩,⟨ybk BK281.out⟩,⟨by repeat (first|(with_reducible first|exact HI0.out|apply IsS86.alloc|apply IsS86.drewN|apply IsS86.drew|apply IsS86.set_1|refine IsS86.far ?_ NB0_281.out _)|exact HI0.out)⟩,⟨by repeat (first|(with_reducible first|exact HK.out|apply KeepBut.set_|apply keep_drewN|apply keep_drew|apply keep_alloc|refine keep_far ?_ GW281.out _)|exact HK.out)⟩,⟨by repeat (first|(with_reducible first|exact HB.out|apply yea|apply yen|apply yed|refine below_set ?_ (IsS86.ge HI0.out)|refine below_set ?_ GE281.out)|exact HB.out)⟩⟩
   case round=>as_aux_lemma =>
    clear H
    obtain ⟨x15_3,x16_3,x17_3,rfl,rfl,rfl,HA,HK3,HO_9,BK281,HI0,HK,HB⟩:=hrel
    rcases gk with _|k3
    ·exact absurd HA.out (by simp [spec_l20Rule.l2])
    obtain ⟨H⟩:=HA
    simp only [spec_l20Rule.l2] at H
    replace H:=yis H;obtain ⟨c42b0,H⟩ | ⟨c42b0,H⟩:=H
    ·replace H:=yif H;obtain ⟨c43b0,H⟩:=H
     replace H:=yif H;obtain ⟨c44b0,H⟩:=H
     replace H:=yif H;obtain ⟨c45b0,H⟩:=H
     obtain ⟨ji46,hji46⟩:∃ j_:Int,(mx 1 (rd l1 (rd x9_1 x17_3)))=j_:=⟨_,rfl⟩
     replace H:(spec_l20Rule.l2 k3 l1 a2 a3 x9_1 (wrap64 (x15_3 + (rd l1 (rd x9_1 x17_3)))) (wrap64 (x16_3 * (ji46))) (wrap64 (x17_3 + 1)) s0_0 x1001_1)=some (r1,r2,r3,r4):=by first|(rw [hji46] at H;exact H)|(simp only [hji46] at H ⊢;exact H)
     have hji46_:(if 1 < (rd l1 (rd x9_1 x17_3)) then (rd l1 (rd x9_1 x17_3)) else 1)=ji46:=hji46
     replace H:=yam H
     obtain ⟨Ao47,co47,eo47⟩:=Kd.R_slice HO_9.out
     subst eo47
     obtain ⟨ad305,e305,hx305_0,p305,q305⟩:=yat (Kd.Yr HO_9.out).2.2 x17_3
     cases e305
     have p306:0≤((rd x9_1 x17_3):Int):=ydt
     have q306:(rd x9_1 x17_3) < (l1.length:Int):=ydt
     obtain ⟨ad306,e306,hx306_0⟩:=Kd.at_int HR1.out (rd x9_1 x17_3) p306 q306
     cases e306
     replace hx306_0:=keep_cell HK.out hx306_0 (by first|(rw [add_block];exact hf1 _ rfl (by omega))|exact hf1 _ rfl (by omega)|exact hf1 ad306 rfl (by omega))
     replace p306:=eq_true p306
     replace q306:=eq_true q306
     obtain ⟨ad307,e307,hx307_0,p307,q307⟩:=yat (Kd.Yr HO_9.out).2.2 x17_3
     obtain rfl:ad305=ad307:=(by injection e307)
     have p308:0≤((rd x9_1 x17_3):Int):=ydt
     have q308:(rd x9_1 x17_3) < (l1.length:Int):=ydt
     obtain ⟨ad308,e308,hx308_0⟩:=Kd.at_int HR1.out (rd x9_1 x17_3) p308 q308
     obtain rfl:ad306=ad308:=(by injection e308)
     replace hx308_0:=keep_cell HK.out hx308_0 (by first|(rw [add_block];exact hf1 _ rfl (by omega))|exact hf1 _ rfl (by omega)|exact hf1 ad306 rfl (by omega))
     replace p308:=eq_true p308
     replace q308:=eq_true q308
     go_wp2
     go_roundg k3
     case measure=>have:=HK1.out;have:=HJ11.out;have:=HK3.out;omega
     case rel=>exact ⟨(wrap64 (x15_3 + (rd l1 (rd x9_1 x17_3)))),(wrap64 (x16_3 * (ji46))),(wrap64 (x17_3 + 1)),yeq,(by first|rfl|(simp;done)|(simp only [← hji46] <;> (first|rfl|simp))|(simp [*];done)),yeq,H,⟨by have:=HK1.out;have:=HJ11.out;have:=HK3.out;omega⟩,⟨yka HO_9.out⟩,⟨ybk BK281.out⟩,⟨by repeat (first|(with_reducible first|exact HI0.out|apply IsS86.alloc|apply IsS86.drewN|apply IsS86.drew|apply IsS86.set_1|refine IsS86.far ?_ NB0_281.out _)|exact HI0.out)⟩,⟨by repeat (first|(with_reducible first|exact HK.out|apply KeepBut.set_|apply keep_drewN|apply keep_drew|apply keep_alloc|refine keep_far ?_ GW281.out _)|exact HK.out)⟩,⟨by repeat (first|(with_reducible first|exact HB.out|apply yea|apply yen|apply yed|refine below_set ?_ (IsS86.ge HI0.out)|refine below_set ?_ GE281.out)|exact HB.out)⟩⟩
    obtain ⟨ji48,hji48⟩:∃ j_:Int,(mx 1 x15_3)=j_:=⟨_,rfl⟩
    replace H:((spec_l20Rd_pick.f k3 s0_0 x1001_1 5).bind fun bt310=>(if bt310.1=0 then (spec_l20Rule.j5 k3 a2 a3 s0_0 bt310.2 3 x9_1 x16_3) else (if bt310.1=1 then (if (x9_1.length:Int) > 1 then (if 0 < (x9_1.length:Int) then (if 1 < (x9_1.length:Int) then (if 0≤(rd x9_1 0) then (if (rd x9_1 0) < (l1.length:Int) then (if 0≤(rd x9_1 1) then (if (rd x9_1 1) < (l1.length:Int) then (if (rd l1 (rd x9_1 0)) > (rd l1 (rd x9_1 1)) then (spec_l20Rule.j5 k3 a2 a3 s0_0 bt310.2 4 (([rd x9_1 1,rd x9_1 0]:List Int)) 0) else (spec_l20Rule.j5 k3 a2 a3 s0_0 bt310.2 4 (([rd x9_1 0,rd x9_1 1]:List Int)) 0)) else (none)) else (none)) else (none)) else (none)) else (none)) else (none)) else (spec_l20Rule.j5 k3 a2 a3 s0_0 bt310.2 2 x9_1 ji48)) else (if bt310.1=2 then (if (x9_1.length:Int) > 1 then (if 0 < (x9_1.length:Int) then (if 0≤(rd x9_1 0) then (if (rd x9_1 0) < (l1.length:Int) then (if 1 < (x9_1.length:Int) then (if 0≤(rd x9_1 1) then (if (rd x9_1 1) < (l1.length:Int) then (if 2≤(x9_1.length:Int) then (spec_l20Rule.j5 k3 a2 a3 s0_0 bt310.2 5 (x9_1.take (2:Int).toNat) (mn (wrap64 (a2 - 1)) (mx (wrap64 ((rd l1 (rd x9_1 0)) - (rd l1 (rd x9_1 1)))) (wrap64 (-(wrap64 ((rd l1 (rd x9_1 0)) - (rd l1 (rd x9_1 1))))))))) else (none)) else (none)) else (none)) else (none)) else (none)) else (none)) else (none)) else (spec_l20Rule.j5 k3 a2 a3 s0_0 bt310.2 2 x9_1 ji48)) else (if bt310.1=3 then (if (x9_1.length:Int) > 1 then (if 2≤(x9_1.length:Int) then (spec_l20Rule.j5 k3 a2 a3 s0_0 bt310.2 1 (x9_1.take (2:Int).toNat) 0) else (none)) else (spec_l20Rule.j5 k3 a2 a3 s0_0 bt310.2 2 x9_1 ji48)) else (spec_l20Rule.j5 k3 a2 a3 s0_0 bt310.2 2 x9_1 ji48))))))=some (r1,r2,r3,r4):=by first|(rw [hji48] at H;exact H)|(simp only [hji48] at H ⊢;exact H)
    have hji48_:(if 1 < x15_3 then x15_3 else 1)=ji48:=hji48
    replace H:=ybi H;obtain ⟨⟨t310,t311⟩,A49,H⟩:=H
    replace H:(if t310=0 then (spec_l20Rule.j5 k3 a2 a3 s0_0 t311 3 x9_1 x16_3) else (if t310=1 then (if (x9_1.length:Int) > 1 then (if 0 < (x9_1.length:Int) then (if 1 < (x9_1.length:Int) then (if 0≤(rd x9_1 0) then (if (rd x9_1 0) < (l1.length:Int) then (if 0≤(rd x9_1 1) then (if (rd x9_1 1) < (l1.length:Int) then (if (rd l1 (rd x9_1 0)) > (rd l1 (rd x9_1 1)) then (spec_l20Rule.j5 k3 a2 a3 s0_0 t311 4 (([rd x9_1 1,rd x9_1 0]:List Int)) 0) else (spec_l20Rule.j5 k3 a2 a3 s0_0 t311 4 (([rd x9_1 0,rd x9_1 1]:List Int)) 0)) else (none)) else (none)) else (none)) else (none)) else (none)) else (none)) else (spec_l20Rule.j5 k3 a2 a3 s0_0 t311 2 x9_1 ji48)) else (if t310=2 then (if (x9_1.length:Int) > 1 then (if 0 < (x9_1.length:Int) then (if 0≤(rd x9_1 0) then (if (rd x9_1 0) < (l1.length:Int) then (if 1 < (x9_1.length:Int) then (if 0≤(rd x9_1 1) then (if (rd x9_1 1) < (l1.length:Int) then (if 2≤(x9_1.length:Int) then (spec_l20Rule.j5 k3 a2 a3 s0_0 t311 5 (x9_1.take (2:Int).toNat) (mn (wrap64 (a2 - 1)) (mx (wrap64 ((rd l1 (rd x9_1 0)) - (rd l1 (rd x9_1 1)))) (wrap64 (-(wrap64 ((rd l1 (rd x9_1 0)) - (rd l1 (rd x9_1 1))))))))) else (none)) else (none)) else (none)) else (none)) else (none)) else (none)) else (none)) else (spec_l20Rule.j5 k3 a2 a3 s0_0 t311 2 x9_1 ji48)) else (if t310=3 then (if (x9_1.length:Int) > 1 then (if 2≤(x9_1.length:Int) then (spec_l20Rule.j5 k3 a2 a3 s0_0 t311 1 (x9_1.take (2:Int).toNat) 0) else (none)) else (spec_l20Rule.j5 k3 a2 a3 s0_0 t311 2 x9_1 ji48)) else (spec_l20Rule.j5 k3 a2 a3 s0_0 t311 2 x9_1 ji48)))))=some (r1,r2,r3,r4):=H
    have HC50:=yam H
    clear H
    obtain ⟨Ao51,co51,eo51⟩:=Kd.R_slice HO_9.out
    subst eo51
    go_upto_block 6 with (first|((with_reducible refine gate_dst (N:=18) rfl ?_);(try (refine gate_guard (by rfl) ?_;dsimp only));refine ybe 18 #[.int .i64 0,.slice none 0 0,.int .i64 0] 32 ?_;intro gb309 hg w52 hbox hb;replace HO_9:=yam (Kd.R_below (Kd.Yz HO_9.out) hb);replace HB:=yam (below_step (by repeat (first|(with_reducible first|exact HB.out|apply yea|apply yen|apply yed|refine below_set ?_ (IsS86.ge HI0.out)|refine below_set ?_ GE281.out)|exact HB.out)) hb);have BK309:=yam (hbox);have GW309:=yam ((by rw [hg];exact (keep_size (w:=w) (g:=g) (row:=none) (by repeat (first|(with_reducible first|exact HK.out|apply KeepBut.set_|apply keep_drewN|apply keep_drew|apply keep_alloc|refine keep_far ?_ GW281.out _)|exact HK.out))):w.heap.size≤gb309));have GE309:=yam ((Nat.le_trans HW0.out (by rw [hg];exact (keep_size (w:=w) (g:=g) (row:=none) (by repeat (first|(with_reducible first|exact HK.out|apply KeepBut.set_|apply keep_drewN|apply keep_drew|apply keep_alloc|refine keep_far ?_ GW281.out _)|exact HK.out))):w.heap.size≤gb309):w0.heap.size≤gb309));replace HK:=yam (KeepBut.trans (by repeat (first|(with_reducible first|exact HK.out|apply KeepBut.set_|apply keep_drewN|apply keep_drew|apply keep_alloc|refine keep_far ?_ GW281.out _)|exact HK.out)) (KeepBut.of_below hb g none) (.inl rfl));have NB281_309:=yam ((by rw [hg];exact Nat.ne_of_lt (blk_lt (g:=gb281) (o:= .cells #[.int .i64 0,.slice none 0 0,.int .i64 0] 32 (0,0)) (ybz BK281.out)):gb281≠gb309));have NB309_281:=yam ((by rw [hg];exact Nat.ne_of_gt (blk_lt (g:=gb281) (o:= .cells #[.int .i64 0,.slice none 0 0,.int .i64 0] 32 (0,0)) (ybz BK281.out)):gb309≠gb281));replace BK281:=yam (ybb BK281.out hb);have NB0_309:=yam ((by rw [hg];exact Nat.ne_of_lt (IsS86.lt (show IsS86 w0 _ g s0_0 x1001_1 from by repeat (first|(with_reducible first|exact HI0.out|apply IsS86.alloc|apply IsS86.drewN|apply IsS86.drew|apply IsS86.set_1|refine IsS86.far ?_ NB0_281.out _)|exact HI0.out))):g≠gb309));have NB309_0:=yam ((by rw [hg];exact Nat.ne_of_gt (IsS86.lt (show IsS86 w0 _ g s0_0 x1001_1 from by repeat (first|(with_reducible first|exact HI0.out|apply IsS86.alloc|apply IsS86.drewN|apply IsS86.drew|apply IsS86.set_1|refine IsS86.far ?_ NB0_281.out _)|exact HI0.out))):gb309≠g));replace HI0:=yam (IsS86.below (by repeat (first|(with_reducible first|exact HI0.out|apply IsS86.alloc|apply IsS86.drewN|apply IsS86.drew|apply IsS86.set_1|refine IsS86.far ?_ NB0_281.out _)|exact HI0.out)) hb);clear hb hbox hg;have hnb53:=NB309_281.out;have hnc53:=NB281_309.out;have hnb54:=NB309_0.out;have hnc54:=NB0_309.out;obtain ⟨hcz55_0,hcz55_1,hcz55_2,hfz55_0,hfz55_1,hfz55_2⟩:=ybc BK309.out)|(refine goesL_ (some 116) rfl rfl Try.func81 (by kernel_rfl) rfl #[.pointer (some ⟨g,0,none⟩),.int .i64 5] rfl ymd ?_;(with_reducible refine (spec_l20Rd_pick.calls k3 g s0_0 x1001_1 5 t310 t311 w0 _ ?side1 ?side2 A49.out).mono ?_);(case side1=>repeat (first|(with_reducible first|exact HI0.out|apply IsS86.alloc|apply IsS86.drewN|apply IsS86.drew|apply IsS86.set_1|refine IsS86.far ?_ NB0_281.out _|refine IsS86.far ?_ NB0_309.out _)|exact HI0.out));(case side2=>repeat (first|(with_reducible first|exact HB.out|apply yea|apply yen|apply yed|refine below_set ?_ (IsS86.ge HI0.out)|refine below_set ?_ GE281.out|refine below_set ?_ GE309.out)|exact HB.out));rintro e w56 ⟨rfl,hi,hb,hk⟩;refine ⟨_,rfl,?_⟩;replace HO_9:=yam (Kd.R_mono (Kd.R_keep (IsS86.apart (show IsS86 w0 _ g s0_0 x1001_1 from by repeat (first|(with_reducible first|exact HI0.out|apply IsS86.alloc|apply IsS86.drewN|apply IsS86.drew|apply IsS86.set_1|refine IsS86.far ?_ NB0_281.out _|refine IsS86.far ?_ NB0_309.out _)|exact HI0.out)) (by (with_reducible repeat (first|apply Kd.Ya|apply Kd.Yn|apply Kd.Yd));exact (Kd.R_mono (Kd.R_far (p:=⟨gb309,2,none⟩) (Kd.R_far (p:=⟨gb309,1,none⟩) (Kd.R_far (p:=⟨gb309,0,none⟩) (Kd.R_types HO_9.out BK309.out (by decide)) (fun _ hk=>hk.2) (.int .i64 2)) (fun _ hk=>hk.2) (.slice Ao51 x9_1.length co51)) (fun _ hk=>hk.2) (.int .i64 ji48)) (fun _ h_=>h_.1))) (by decide)) hk (fun _ h=>h.2)) (fun _ h=>h.1));replace BK281:=yam (KeepBut.blk hk (g':=gb281) (o:= .cells #[.int .i64 0,.slice none 0 0,.int .i64 0] 32 (0,0)) (by (with_reducible repeat (first|refine ybn ?_ _|refine ybd ?_|refine yba ?_ _));refine blk_far ?_ NB281_309.out _;(with_reducible repeat (first|refine ybn ?_ _|refine ybd ?_|refine yba ?_ _));refine blk_far ?_ NB281_309.out _;(with_reducible repeat (first|refine ybn ?_ _|refine ybd ?_|refine yba ?_ _));refine blk_far ?_ NB281_309.out _;(with_reducible repeat (first|refine ybn ?_ _|refine ybd ?_|refine yba ?_ _));exact BK281.out) NB281_0.out (by simp));replace BK309:=yam (KeepBut.blk hk (g':=gb309) (o:= .cells #[.int .i64 2,.slice Ao51 x9_1.length co51,.int .i64 ji48] 32 (0,0)) (by (with_reducible repeat (first|refine ybn ?_ _|refine ybd ?_|refine yba ?_ _));refine blk_put (cs:= #[.int .i64 2,.slice Ao51 x9_1.length co51,.int .i64 0]) ?_ 2 _ rfl;(with_reducible repeat (first|refine ybn ?_ _|refine ybd ?_|refine yba ?_ _));refine blk_put (cs:= #[.int .i64 2,.slice none 0 0,.int .i64 0]) ?_ 1 _ rfl;(with_reducible repeat (first|refine ybn ?_ _|refine ybd ?_|refine yba ?_ _));refine blk_put (cs:= #[.int .i64 0,.slice none 0 0,.int .i64 0]) ?_ 0 _ rfl;(with_reducible repeat (first|refine ybn ?_ _|refine ybd ?_|refine yba ?_ _));exact BK309.out) NB309_0.out (by simp));replace HK:=yam (KeepBut.trans (by repeat (first|(with_reducible first|exact HK.out|apply KeepBut.set_|apply keep_drewN|apply keep_drew|apply keep_alloc|refine keep_far ?_ GW281.out _|refine keep_far ?_ GW309.out _)|exact HK.out)) hk (.inl rfl));replace HB:=yam (hb);replace HI0:=yam (hi);(try clear hb);(try clear hk);(try clear hi)))
    (try simp only [Act.put,yps])
    go_cut [] (fun wc=>∃ (kq:Nat) (x310000_49:Int) (x310001_49:List Int) (x310002_49:Int) (u310001:Value),Aside0 (spec_l20Rule.j5 kq a2 a3 s0_0 t311 x310000_49 x310001_49 x310002_49=some (r1,r2,r3,r4))∧Aside0 (kq≤k3)∧Aside0 (Kd.R (Kd.int .i64) 3 wc w.heap.size (fun _=>True) u310001 x310001_49)∧Aside0 (wc.heap[gb281]?=some (.cells #[.int .i64 0,(.slice none 0 0),.int .i64 0] 32 (0,0)))∧Aside0 (wc.heap[gb309]?=some (.cells #[.int .i64 x310000_49,u310001,.int .i64 x310002_49] 32 (0,0)))∧Aside0 (IsS86 w0 wc g s0_0 t311)∧Aside0 (KeepBut w wc g none)∧Aside0 (Below w0.heap.size w0 wc))
    case first=>as_aux_lemma =>
     have H:=HC50.out
     clear HC50
     replace H:=yit H;obtain ⟨c57,H⟩ | ⟨c57,H⟩:=H
     ·have c57b0:(t310 == 0)=true:=beq_iff_eq.mpr c57
      have c57b1:(t310 != 0)=false:=bne_eq_false_iff_eq.mpr c57
      clear c57
      (first|rw [c57b0]|(simp only [i64_w,i32_w];rw [c57b0])|skip)
      replace H:=yam H
      have hnb58:=NB309_281.out
      have hnc58:=NB281_309.out
      have hnb59:=NB309_0.out
      have hnc59:=NB0_309.out
      obtain ⟨hcz60_0,hcz60_1,hcz60_2,hfz60_0,hfz60_1,hfz60_2⟩:=ybc BK309.out
      go_wp2
      go_meet
      case rel=>exact ⟨_,(3),(x9_1),(x16_3),(.slice Ao51 x9_1.length co51),H,⟨by have:=HK1.out;have:=HJ11.out;have:=HK3.out;first|omega|exact Nat.le_refl _⟩,⟨by (with_reducible repeat (first|apply Kd.Ya|apply Kd.Yn|apply Kd.Yd));exact Kd.R_mono (Kd.R_far (p:=⟨gb309,2,none⟩) (Kd.R_far (p:=⟨gb309,1,none⟩) (Kd.R_far (p:=⟨gb309,0,none⟩) (Kd.R_types HO_9.out BK309.out (by decide)) (fun _ hk=>hk.2) (.int .i64 3)) (fun _ hk=>hk.2) (.slice Ao51 x9_1.length co51)) (fun _ hk=>hk.2) (.int .i64 x16_3)) (fun _ hk=>trivial)⟩,⟨by (with_reducible repeat (first|refine ybn ?_ _|refine ybd ?_|refine yba ?_ _));refine blk_far ?_ NB281_309.out _;(with_reducible repeat (first|refine ybn ?_ _|refine ybd ?_|refine yba ?_ _));refine blk_far ?_ NB281_309.out _;(with_reducible repeat (first|refine ybn ?_ _|refine ybd ?_|refine yba ?_ _));refine blk_far ?_ NB281_309.out _;(with_reducible repeat (first|refine ybn ?_ _|refine ybd ?_|refine yba ?_ _));exact BK281.out⟩,⟨by (with_reducible repeat (first|refine ybn ?_ _|refine ybd ?_|refine yba ?_ _));refine blk_put (cs:= #[.int .i64 3,.slice Ao51 x9_1.length co51,.int .i64 ji48]) ?_ 2 _ rfl;(with_reducible repeat (first|refine ybn ?_ _|refine ybd ?_|refine yba ?_ _));refine blk_put (cs:= #[.int .i64 3,.slice Ao51 x9_1.length co51,.int .i64 ji48]) ?_ 1 _ rfl;(with_reducible repeat (first|refine ybn ?_ _|refine ybd ?_|refine yba ?_ _));refine blk_put (cs:= #[.int .i64 2,.slice Ao51 x9_1.length co51,.int .i64 ji48]) ?_ 0 _ rfl;(with_reducible repeat (first|refine ybn ?_ _|refine ybd ?_|refine yba ?_ _));exact BK309.out⟩,⟨by repeat (first|(with_reducible first|exact HI0.out|apply IsS86.alloc|apply IsS86.drewN|apply IsS86.drew|apply IsS86.set_1|refine IsS86.far ?_ NB0_281.out _|refine IsS86.far ?_ NB0_309.out _)|exact HI0.out)⟩,⟨by repeat (first|(with_reducible first|exact HK.out|apply KeepBut.set_|apply keep_drewN|apply keep_drew|apply keep_alloc|refine keep_far ?_ GW281.out _|refine keep_far ?_ GW309.out _)|exact HK.out)⟩,⟨by repeat (first|(with_reducible first|exact HB.out|apply yea|apply yen|apply yed|refine below_set ?_ (IsS86.ge HI0.out)|refine below_set ?_ GE281.out|refine below_set ?_ GE309.out)|exact HB.out)⟩⟩
     have c57b0:(t310 == 0)=false:=beq_eq_false_iff_ne.mpr c57
     have c57b1:(t310 != 0)=true:=bne_iff_ne.mpr c57
     (first|rw [c57b0]|(simp only [i64_w,i32_w];rw [c57b0])|skip)
     replace H:=yit H;obtain ⟨c61,H⟩ | ⟨c61,H⟩:=H
     rotate_left
     ·have c61b0:(t310 == 1)=false:=beq_eq_false_iff_ne.mpr c61
      have c61b1:(t310 != 1)=true:=bne_iff_ne.mpr c61
      replace H:=yit H;obtain ⟨c93,H⟩ | ⟨c93,H⟩:=H
      rotate_left
      ·have c93b0:(t310 == 2)=false:=beq_eq_false_iff_ne.mpr c93
       have c93b1:(t310 != 2)=true:=bne_iff_ne.mpr c93
       replace H:=yit H;obtain ⟨c109,H⟩ | ⟨c109,H⟩:=H
       rotate_left
       ·have c109b0:(t310 == 3)=false:=beq_eq_false_iff_ne.mpr c109
        have c109b1:(t310 != 3)=true:=bne_iff_ne.mpr c109
        replace H:=yam H
        go_wp2
        go_meet
        case rel=>exact ⟨_,(2),(x9_1),(ji48),(.slice Ao51 x9_1.length co51),H,⟨by have:=HK1.out;have:=HJ11.out;have:=HK3.out;first|omega|exact Nat.le_refl _⟩,⟨yka HO_9.out⟩,⟨ybk BK281.out⟩,⟨ybk BK309.out⟩,⟨by repeat (first|(with_reducible first|exact HI0.out|apply IsS86.alloc|apply IsS86.drewN|apply IsS86.drew|apply IsS86.set_1|refine IsS86.far ?_ NB0_281.out _|refine IsS86.far ?_ NB0_309.out _)|exact HI0.out)⟩,⟨by repeat (first|(with_reducible first|exact HK.out|apply KeepBut.set_|apply keep_drewN|apply keep_drew|apply keep_alloc|refine keep_far ?_ GW281.out _|refine keep_far ?_ GW309.out _)|exact HK.out)⟩,⟨by repeat (first|(with_reducible first|exact HB.out|apply yea|apply yen|apply yed|refine below_set ?_ (IsS86.ge HI0.out)|refine below_set ?_ GE281.out|refine below_set ?_ GE309.out)|exact HB.out)⟩⟩
       have c109b0:(t310 == 3)=true:=beq_iff_eq.mpr c109
       have c109b1:(t310 != 3)=false:=bne_eq_false_iff_eq.mpr c109
       clear c109
       replace H:=yit H;obtain ⟨c110,H⟩ | ⟨c110,H⟩:=H
       rotate_left
       ·have c110b0:decide (1 < (x9_1.length:Int))=false:=decide_eq_false c110
        have c110b1:decide (1 < x9_1.length)=false:=decide_eq_false (by omega)
        clear c110
        replace H:=yam H
        go_wp2
        go_meet
        case rel=>exact ⟨_,(2),(x9_1),(ji48),(.slice Ao51 x9_1.length co51),H,⟨by have:=HK1.out;have:=HJ11.out;have:=HK3.out;first|omega|exact Nat.le_refl _⟩,⟨yka HO_9.out⟩,⟨ybk BK281.out⟩,⟨ybk BK309.out⟩,⟨by repeat (first|(with_reducible first|exact HI0.out|apply IsS86.alloc|apply IsS86.drewN|apply IsS86.drew|apply IsS86.set_1|refine IsS86.far ?_ NB0_281.out _|refine IsS86.far ?_ NB0_309.out _)|exact HI0.out)⟩,⟨by repeat (first|(with_reducible first|exact HK.out|apply KeepBut.set_|apply keep_drewN|apply keep_drew|apply keep_alloc|refine keep_far ?_ GW281.out _|refine keep_far ?_ GW309.out _)|exact HK.out)⟩,⟨by repeat (first|(with_reducible first|exact HB.out|apply yea|apply yen|apply yed|refine below_set ?_ (IsS86.ge HI0.out)|refine below_set ?_ GE281.out|refine below_set ?_ GE309.out)|exact HB.out)⟩⟩
       have c110b0:decide (1 < (x9_1.length:Int))=true:=decide_eq_true c110
       have c110b1:decide (1 < x9_1.length)=true:=decide_eq_true (by omega)
       clear c110
       replace H:=yig H;obtain ⟨c111,H⟩:=H
       have c111b0:=eq_true c111
       have c111b1:decide (2≤(x9_1.length:Int))=true:=decide_eq_true c111
       clear c111
       obtain ⟨y333,Ny333⟩:∃ y_:List Int,Aside0 (y_=(x9_1.take (2:Int).toNat)):=⟨_,⟨rfl⟩⟩
       replace H:(spec_l20Rule.j5 k3 a2 a3 s0_0 t311 1 y333 0)=some (r1,r2,r3,r4):=yhn Ny333.out H
       replace H:=yam H
       have q112:(2:Int)≤((x9_1.length:Int):Int):=ydt
       obtain ⟨i0112,hi0112,_,hsz112,_⟩:=info_parts info3
       have hcut112:=cut_to (P:=Try.prog) 23 3 .i64 Try.underlying23 hi0112 Ao51 x9_1.length co51 2 (by omega) q112 (Kd.Yr HO_9.out).2.1
       have hr112:=Kd.R_take (m:=(2:Int).toNat) HO_9.out (by omega)
       have hy112:y333.length=(2:Int).toNat:=(by rw [Ny333.out,List.length_take];omega)
       rw [← Ny333.out] at hr112
       rw [← hy112] at hr112 hcut112
       clear hy112 hi0112 hsz112 HO_9
       have HO335:=yam hr112
       clear hr112
       replace q112:=eq_true q112
       have hnb113:=NB309_281.out
       have hnc113:=NB281_309.out
       have hnb114:=NB309_0.out
       have hnc114:=NB0_309.out
       obtain ⟨hcz115_0,hcz115_1,hcz115_2,hfz115_0,hfz115_1,hfz115_2⟩:=ybc BK309.out
       go_wp2
       go_meet
       case rel=>exact ⟨_,(1),(y333),(0),(.slice Ao51 y333.length co51),H,⟨by have:=HK1.out;have:=HJ11.out;have:=HK3.out;first|omega|exact Nat.le_refl _⟩,⟨by (with_reducible repeat (first|apply Kd.Ya|apply Kd.Yn|apply Kd.Yd));exact Kd.R_mono (Kd.R_far (p:=⟨gb309,2,none⟩) (Kd.R_far (p:=⟨gb309,1,none⟩) (Kd.R_far (p:=⟨gb309,0,none⟩) (Kd.R_types HO335.out BK309.out (by decide)) (fun _ hk=>hk.2) (.int .i64 1)) (fun _ hk=>hk.2) (.slice Ao51 y333.length co51)) (fun _ hk=>hk.2) (.int .i64 0)) (fun _ hk=>trivial)⟩,⟨by (with_reducible repeat (first|refine ybn ?_ _|refine ybd ?_|refine yba ?_ _));refine blk_far ?_ NB281_309.out _;(with_reducible repeat (first|refine ybn ?_ _|refine ybd ?_|refine yba ?_ _));refine blk_far ?_ NB281_309.out _;(with_reducible repeat (first|refine ybn ?_ _|refine ybd ?_|refine yba ?_ _));refine blk_far ?_ NB281_309.out _;(with_reducible repeat (first|refine ybn ?_ _|refine ybd ?_|refine yba ?_ _));exact BK281.out⟩,⟨by (with_reducible repeat (first|refine ybn ?_ _|refine ybd ?_|refine yba ?_ _));refine blk_put (cs:= #[.int .i64 1,.slice Ao51 y333.length co51,.int .i64 ji48]) ?_ 2 _ rfl;(with_reducible repeat (first|refine ybn ?_ _|refine ybd ?_|refine yba ?_ _));refine blk_put (cs:= #[.int .i64 1,.slice Ao51 x9_1.length co51,.int .i64 ji48]) ?_ 1 _ rfl;(with_reducible repeat (first|refine ybn ?_ _|refine ybd ?_|refine yba ?_ _));refine blk_put (cs:= #[.int .i64 2,.slice Ao51 x9_1.length co51,.int .i64 ji48]) ?_ 0 _ rfl;(with_reducible repeat (first|refine ybn ?_ _|refine ybd ?_|refine yba ?_ _));exact BK309.out⟩,⟨by repeat (first|(with_reducible first|exact HI0.out|apply IsS86.alloc|apply IsS86.drewN|apply IsS86.drew|apply IsS86.set_1|refine IsS86.far ?_ NB0_281.out _|refine IsS86.far ?_ NB0_309.out _)|exact HI0.out)⟩,⟨by repeat (first|(with_reducible first|exact HK.out|apply KeepBut.set_|apply keep_drewN|apply keep_drew|apply keep_alloc|refine keep_far ?_ GW281.out _|refine keep_far ?_ GW309.out _)|exact HK.out)⟩,⟨by repeat (first|(with_reducible first|exact HB.out|apply yea|apply yen|apply yed|refine below_set ?_ (IsS86.ge HI0.out)|refine below_set ?_ GE281.out|refine below_set ?_ GE309.out)|exact HB.out)⟩⟩
      have c93b0:(t310 == 2)=true:=beq_iff_eq.mpr c93
      have c93b1:(t310 != 2)=false:=bne_eq_false_iff_eq.mpr c93
      clear c93
      replace H:=yit H;obtain ⟨c94,H⟩ | ⟨c94,H⟩:=H
      rotate_left
      ·have c94b0:decide (1 < (x9_1.length:Int))=false:=decide_eq_false c94
       have c94b1:decide (1 < x9_1.length)=false:=decide_eq_false (by omega)
       clear c94
       replace H:=yam H
       go_wp2
       go_meet
       case rel=>exact ⟨_,(2),(x9_1),(ji48),(.slice Ao51 x9_1.length co51),H,⟨by have:=HK1.out;have:=HJ11.out;have:=HK3.out;first|omega|exact Nat.le_refl _⟩,⟨yka HO_9.out⟩,⟨ybk BK281.out⟩,⟨ybk BK309.out⟩,⟨by repeat (first|(with_reducible first|exact HI0.out|apply IsS86.alloc|apply IsS86.drewN|apply IsS86.drew|apply IsS86.set_1|refine IsS86.far ?_ NB0_281.out _|refine IsS86.far ?_ NB0_309.out _)|exact HI0.out)⟩,⟨by repeat (first|(with_reducible first|exact HK.out|apply KeepBut.set_|apply keep_drewN|apply keep_drew|apply keep_alloc|refine keep_far ?_ GW281.out _|refine keep_far ?_ GW309.out _)|exact HK.out)⟩,⟨by repeat (first|(with_reducible first|exact HB.out|apply yea|apply yen|apply yed|refine below_set ?_ (IsS86.ge HI0.out)|refine below_set ?_ GE281.out|refine below_set ?_ GE309.out)|exact HB.out)⟩⟩
      have c94b0:decide (1 < (x9_1.length:Int))=true:=decide_eq_true c94
      have c94b1:decide (1 < x9_1.length)=true:=decide_eq_true (by omega)
      clear c94
      replace H:=yig H;obtain ⟨c95,H⟩:=H
      have c95b0:decide (0 < (x9_1.length:Int))=true:=decide_eq_true c95
      have c95b1:decide (0 < x9_1.length)=true:=decide_eq_true (by omega)
      clear c95
      replace H:=yif H;obtain ⟨c96b0,H⟩:=H
      replace H:=yif H;obtain ⟨c97b0,H⟩:=H
      replace H:=yig H;obtain ⟨c98,H⟩:=H
      have c98b0:decide (1 < (x9_1.length:Int))=true:=decide_eq_true c98
      have c98b1:decide (1 < x9_1.length)=true:=decide_eq_true (by omega)
      clear c98
      replace H:=yif H;obtain ⟨c99b0,H⟩:=H
      replace H:=yif H;obtain ⟨c100b0,H⟩:=H
      replace H:=yig H;obtain ⟨c101,H⟩:=H
      have c101b0:=eq_true c101
      have c101b1:decide (2≤(x9_1.length:Int))=true:=decide_eq_true c101
      clear c101
      obtain ⟨y330,Ny330⟩:∃ y_:List Int,Aside0 (y_=(x9_1.take (2:Int).toNat)):=⟨_,⟨rfl⟩⟩
      replace H:(spec_l20Rule.j5 k3 a2 a3 s0_0 t311 5 y330 (mn (wrap64 (a2 - 1)) (mx (wrap64 ((rd l1 (rd x9_1 0)) - (rd l1 (rd x9_1 1)))) (wrap64 (-(wrap64 ((rd l1 (rd x9_1 0)) - (rd l1 (rd x9_1 1)))))))))=some (r1,r2,r3,r4):=yhn Ny330.out H
      obtain ⟨ji102,hji102⟩:∃ j_:Int,(mx (wrap64 ((rd l1 (rd x9_1 0)) - (rd l1 (rd x9_1 1)))) (wrap64 (-(wrap64 ((rd l1 (rd x9_1 0)) - (rd l1 (rd x9_1 1)))))))=j_:=⟨_,rfl⟩
      replace H:(spec_l20Rule.j5 k3 a2 a3 s0_0 t311 5 y330 (mn (wrap64 (a2 - 1)) (ji102)))=some (r1,r2,r3,r4):=by first|(rw [hji102] at H;exact H)|(simp only [hji102] at H ⊢;exact H)
      have hji102_:(if (wrap64 ((rd l1 (rd x9_1 0)) - (rd l1 (rd x9_1 1)))) < (wrap64 (-(wrap64 ((rd l1 (rd x9_1 0)) - (rd l1 (rd x9_1 1)))))) then (wrap64 (-(wrap64 ((rd l1 (rd x9_1 0)) - (rd l1 (rd x9_1 1)))))) else (wrap64 ((rd l1 (rd x9_1 0)) - (rd l1 (rd x9_1 1)))))=ji102:=hji102
      obtain ⟨ji103,hji103⟩:∃ j_:Int,(mn (wrap64 (a2 - 1)) (ji102))=j_:=⟨_,rfl⟩
      replace H:(spec_l20Rule.j5 k3 a2 a3 s0_0 t311 5 y330 ji103)=some (r1,r2,r3,r4):=by first|(rw [hji103] at H;exact H)|(simp only [hji103] at H ⊢;exact H)
      have hji103_:(if (ji102) < (wrap64 (a2 - 1)) then (ji102) else (wrap64 (a2 - 1)))=ji103:=hji103
      replace H:=yam H
      try go_wp2
      replace HO_9:=yam (Kd.Yd HO_9.out)
      replace BK281:=yam (ybd BK281.out)
      replace BK309:=yam (ybd BK309.out)
      replace HI0:=yam (IsS86.drew HI0.out)
      replace HK:=yam (keep_drew HK.out)
      replace HB:=yam (yed HB.out)
      have p326:0≤(0:Int):=(by omega)
      have q326:0 < (x9_1.length:Int):=ydt
      obtain ⟨ad326,e326,hx326_0⟩:=Kd.at_int (Kd.Yr HO_9.out).2.2 0 p326 q326
      cases e326
      have qi326:(0 < x9_1.length)=True:=eq_true (by omega)
      (try rw [show ((0:Int)).toNat=0 from rfl] at hx326_0)
      (try rw [Addr.add_zero'] at hx326_0)
      replace p326:=eq_true p326
      replace q326:=eq_true q326
      have p327:0≤((rd x9_1 0):Int):=ydt
      have q327:(rd x9_1 0) < (l1.length:Int):=ydt
      obtain ⟨ad327,e327,hx327_0⟩:=Kd.at_int HR1.out (rd x9_1 0) p327 q327
      have hw327_0:=hx327_0
      cases e327
      have hne327_0:=(show ((ad327.add ((rd x9_1 0)).toNat):Addr).block≠g from by first|(rw [add_block];exact hf1 ad327 rfl (by omega))|(show (Addr.add _ _).block≠_;rw [add_block];exact hf1 ad327 rfl (by omega))|exact hf1 ad327 rfl (by omega))
      replace hx327_0:=keep_cell HK.out hx327_0 (by first|(rw [add_block];exact hf1 _ rfl (by omega))|exact hf1 _ rfl (by omega)|exact hf1 ad327 rfl (by omega))
      replace p327:=eq_true p327
      replace q327:=eq_true q327
      have p328:0≤(1:Int):=(by omega)
      have q328:1 < (x9_1.length:Int):=ydt
      obtain ⟨ad328,e328,hx328_0⟩:=Kd.at_int (Kd.Yr HO_9.out).2.2 1 p328 q328
      obtain rfl:ad326=ad328:=(by injection e328)
      (try simp only [show (1:Int).toNat=1 from rfl,Nat.reduceMul,Nat.reduceEqDiff,Go.Addr.add,↓reduceIte] at hx328_0)
      have qi328:(1 < x9_1.length)=True:=eq_true (by omega)
      (try rw [show ((1:Int)).toNat=1 from rfl] at hx328_0)
      replace p328:=eq_true p328
      replace q328:=eq_true q328
      have p329:0≤((rd x9_1 1):Int):=ydt
      have q329:(rd x9_1 1) < (l1.length:Int):=ydt
      obtain ⟨ad329,e329,hx329_0⟩:=Kd.at_int HR1.out (rd x9_1 1) p329 q329
      have hw329_0:=hx329_0
      obtain rfl:ad327=ad329:=(by injection e329)
      have hne329_0:=(show ((ad327.add ((rd x9_1 1)).toNat):Addr).block≠g from by first|(rw [add_block];exact hf1 ad327 rfl (by omega))|(show (Addr.add _ _).block≠_;rw [add_block];exact hf1 ad327 rfl (by omega))|exact hf1 ad327 rfl (by omega))
      replace hx329_0:=keep_cell HK.out hx329_0 (by first|(rw [add_block];exact hf1 _ rfl (by omega))|exact hf1 _ rfl (by omega)|exact hf1 ad327 rfl (by omega))
      replace p329:=eq_true p329
      replace q329:=eq_true q329
      refine start_ (n:=14) (S:=fun w'=>w'.cell? ad326=some (.int .i64 (rd x9_1 0))∧w'.cell? (ad327.add ((rd x9_1 0)).toNat)=some (.int .i64 (rd l1 (rd x9_1 0)))∧w'.cell? ⟨ad326.block,ad326.off + 1,none⟩=some (.int .i64 (rd x9_1 1))∧w'.cell? (ad327.add ((rd x9_1 1)).toNat)=some (.int .i64 (rd l1 (rd x9_1 1)))) (ds:=[]) (yvb 14 0) (by kernel_rfl) rfl rfl ⟨hx326_0,(keep_cell HK.out hw327_0 hne327_0),hx328_0,(keep_cell HK.out hw329_0 hne329_0)⟩ (fun hHeld=>?_);refine with_tabW spec_l20Rule.tab32 spec_l20Rule.bits32 (fun HT_ HW_=>?_)
      generalize w56.drew=w104 at HO_9 BK281 BK309 HI0 HK HB hx326_0 hx327_0 hx328_0 hx329_0 hHeld ⊢
      refine yvp 0 161 (yvb 14 1) HT_.out ?_
      refine yvp 1 162 (yvb 14 3) HT_.out ?_
      refine yvp 2 163 (yvb 14 7) HT_.out ?_
      refine yvp 6 167 (yvb 14 71) HT_.out ?_
      refine yvp 7 168 (yvb 14 199) HT_.out ?_
      refine yvp 8 169 (yvb 14 455) HT_.out ?_
      refine yvt 3 164 (yvb 14 463) HT_.out HW_.out hHeld ?_
      refine yvp 4 165 (yvb 14 479) HT_.out ?_
      refine yvt 5 166 (yvb 14 511) HT_.out HW_.out hHeld ?_
      refine yvt 9 170 (yvb 14 1023) HT_.out HW_.out hHeld ?_
      refine yvp 10 171 (yvb 14 2047) HT_.out ?_
      refine yvt 11 172 (yvb 14 4095) HT_.out HW_.out hHeld ?_
      refine yvp 12 173 (yvb 14 8191) HT_.out ?_
      refine yvp 13 19 (yvb 14 16383) HT_.out ?_
      refine done_ (done_of HT_.out (by kernel_rfl)) ?_
      have q105:(2:Int)≤((x9_1.length:Int):Int):=ydt
      obtain ⟨i0105,hi0105,_,hsz105,_⟩:=info_parts info3
      have hcut105:=cut_to (P:=Try.prog) 23 3 .i64 Try.underlying23 hi0105 (some ad326) x9_1.length co51 2 (by omega) q105 (Kd.Yr HO_9.out).2.1
      have hr105:=Kd.R_take (m:=(2:Int).toNat) HO_9.out (by omega)
      have hy105:y330.length=(2:Int).toNat:=(by rw [Ny330.out,List.length_take];omega)
      rw [← Ny330.out] at hr105
      rw [← hy105] at hr105 hcut105
      clear hy105 hi0105 hsz105 HO_9
      have HO332:=yam hr105
      clear hr105
      replace q105:=eq_true q105
      have hnb106:=NB309_281.out
      have hnc106:=NB281_309.out
      have hnb107:=NB309_0.out
      have hnc107:=NB0_309.out
      obtain ⟨hcz108_0,hcz108_1,hcz108_2,hfz108_0,hfz108_1,hfz108_2⟩:=ybc BK309.out
      try go_wp2
      go_meet
      case rel=>exact ⟨_,(5),(y330),(ji103),(.slice (some ad326) y330.length co51),H,⟨by have:=HK1.out;have:=HJ11.out;have:=HK3.out;first|omega|exact Nat.le_refl _⟩,⟨by (with_reducible repeat (first|apply Kd.Ya|apply Kd.Yn|apply Kd.Yd));exact Kd.R_mono (Kd.R_far (p:=⟨gb309,2,none⟩) (Kd.R_far (p:=⟨gb309,1,none⟩) (Kd.R_far (p:=⟨gb309,0,none⟩) (Kd.R_types HO332.out BK309.out (by decide)) (fun _ hk=>hk.2) (.int .i64 5)) (fun _ hk=>hk.2) (.slice (some ad326) y330.length co51)) (fun _ hk=>hk.2) (.int .i64 ji103)) (fun _ hk=>trivial)⟩,⟨by (with_reducible repeat (first|refine ybn ?_ _|refine ybd ?_|refine yba ?_ _));refine blk_far ?_ NB281_309.out _;(with_reducible repeat (first|refine ybn ?_ _|refine ybd ?_|refine yba ?_ _));refine blk_far ?_ NB281_309.out _;(with_reducible repeat (first|refine ybn ?_ _|refine ybd ?_|refine yba ?_ _));refine blk_far ?_ NB281_309.out _;(with_reducible repeat (first|refine ybn ?_ _|refine ybd ?_|refine yba ?_ _));exact BK281.out⟩,⟨by (with_reducible repeat (first|refine ybn ?_ _|refine ybd ?_|refine yba ?_ _));refine blk_put (cs:= #[.int .i64 5,.slice (some ad326) y330.length co51,.int .i64 ji48]) ?_ 2 _ rfl;(with_reducible repeat (first|refine ybn ?_ _|refine ybd ?_|refine yba ?_ _));refine blk_put (cs:= #[.int .i64 5,.slice (some ad326) x9_1.length co51,.int .i64 ji48]) ?_ 1 _ rfl;(with_reducible repeat (first|refine ybn ?_ _|refine ybd ?_|refine yba ?_ _));refine blk_put (cs:= #[.int .i64 2,.slice (some ad326) x9_1.length co51,.int .i64 ji48]) ?_ 0 _ rfl;(with_reducible repeat (first|refine ybn ?_ _|refine ybd ?_|refine yba ?_ _));exact BK309.out⟩,⟨by repeat (first|(with_reducible first|exact HI0.out|apply IsS86.alloc|apply IsS86.drewN|apply IsS86.drew|apply IsS86.set_1|refine IsS86.far ?_ NB0_281.out _|refine IsS86.far ?_ NB0_309.out _)|exact HI0.out)⟩,⟨by repeat (first|(with_reducible first|exact HK.out|apply KeepBut.set_|apply keep_drewN|apply keep_drew|apply keep_alloc|refine keep_far ?_ GW281.out _|refine keep_far ?_ GW309.out _)|exact HK.out)⟩,⟨by repeat (first|(with_reducible first|exact HB.out|apply yea|apply yen|apply yed|refine below_set ?_ (IsS86.ge HI0.out)|refine below_set ?_ GE281.out|refine below_set ?_ GE309.out)|exact HB.out)⟩⟩
     have c61b0:(t310 == 1)=true:=beq_iff_eq.mpr c61
     have c61b1:(t310 != 1)=false:=bne_eq_false_iff_eq.mpr c61
     clear c61
     replace H:=yit H;obtain ⟨c62,H⟩ | ⟨c62,H⟩:=H
     rotate_left
     ·have c62b0:decide (1 < (x9_1.length:Int))=false:=decide_eq_false c62
      have c62b1:decide (1 < x9_1.length)=false:=decide_eq_false (by omega)
      clear c62
      replace H:=yam H
      go_wp2
      go_meet
      case rel=>exact ⟨_,(2),(x9_1),(ji48),(.slice Ao51 x9_1.length co51),H,⟨by have:=HK1.out;have:=HJ11.out;have:=HK3.out;first|omega|exact Nat.le_refl _⟩,⟨yka HO_9.out⟩,⟨ybk BK281.out⟩,⟨ybk BK309.out⟩,⟨by repeat (first|(with_reducible first|exact HI0.out|apply IsS86.alloc|apply IsS86.drewN|apply IsS86.drew|apply IsS86.set_1|refine IsS86.far ?_ NB0_281.out _|refine IsS86.far ?_ NB0_309.out _)|exact HI0.out)⟩,⟨by repeat (first|(with_reducible first|exact HK.out|apply KeepBut.set_|apply keep_drewN|apply keep_drew|apply keep_alloc|refine keep_far ?_ GW281.out _|refine keep_far ?_ GW309.out _)|exact HK.out)⟩,⟨by repeat (first|(with_reducible first|exact HB.out|apply yea|apply yen|apply yed|refine below_set ?_ (IsS86.ge HI0.out)|refine below_set ?_ GE281.out|refine below_set ?_ GE309.out)|exact HB.out)⟩⟩
     have c62b0:decide (1 < (x9_1.length:Int))=true:=decide_eq_true c62
     have c62b1:decide (1 < x9_1.length)=true:=decide_eq_true (by omega)
     clear c62
     replace H:=yig H;obtain ⟨c63,H⟩:=H
     have c63b0:decide (0 < (x9_1.length:Int))=true:=decide_eq_true c63
     have c63b1:decide (0 < x9_1.length)=true:=decide_eq_true (by omega)
     clear c63
     replace H:=yig H;obtain ⟨c64,H⟩:=H
     have c64b0:decide (1 < (x9_1.length:Int))=true:=decide_eq_true c64
     have c64b1:decide (1 < x9_1.length)=true:=decide_eq_true (by omega)
     clear c64
     obtain ⟨y314,Ny314⟩:∃ y_:List Int,Aside0 (y_=(([rd x9_1 0,rd x9_1 1]:List Int))):=⟨_,⟨rfl⟩⟩
     replace H:(if 0≤(rd x9_1 0) then (if (rd x9_1 0) < (l1.length:Int) then (if 0≤(rd x9_1 1) then (if (rd x9_1 1) < (l1.length:Int) then (if (rd l1 (rd x9_1 0)) > (rd l1 (rd x9_1 1)) then (spec_l20Rule.j5 k3 a2 a3 s0_0 t311 4 (([rd x9_1 1,rd x9_1 0]:List Int)) 0) else (spec_l20Rule.j5 k3 a2 a3 s0_0 t311 4 y314 0)) else (none)) else (none)) else (none)) else (none))=some (r1,r2,r3,r4):=yhn Ny314.out H
     replace H:=yif H;obtain ⟨c65b0,H⟩:=H
     replace H:=yif H;obtain ⟨c66b0,H⟩:=H
     replace H:=yif H;obtain ⟨c67b0,H⟩:=H
     replace H:=yif H;obtain ⟨c68b0,H⟩:=H
     replace H:=yis H;obtain ⟨c69b0,H⟩ | ⟨c69b0,H⟩:=H
     rotate_left
     ·replace H:=yam H
      try go_wp2
      replace HO_9:=yam (Kd.Yd HO_9.out)
      replace BK281:=yam (ybd BK281.out)
      replace BK309:=yam (ybd BK309.out)
      replace HI0:=yam (IsS86.drew HI0.out)
      replace HK:=yam (keep_drew HK.out)
      replace HB:=yam (yed HB.out)
      have p312:0≤(0:Int):=(by omega)
      have q312:0 < (x9_1.length:Int):=ydt
      obtain ⟨ad312,e312,hx312_0⟩:=Kd.at_int (Kd.Yr HO_9.out).2.2 0 p312 q312
      cases e312
      have qi312:(0 < x9_1.length)=True:=eq_true (by omega)
      (try rw [show ((0:Int)).toNat=0 from rfl] at hx312_0)
      (try rw [Addr.add_zero'] at hx312_0)
      replace p312:=eq_true p312
      replace q312:=eq_true q312
      have p313:0≤(1:Int):=(by omega)
      have q313:1 < (x9_1.length:Int):=ydt
      obtain ⟨ad313,e313,hx313_0⟩:=Kd.at_int (Kd.Yr HO_9.out).2.2 1 p313 q313
      obtain rfl:ad312=ad313:=(by injection e313)
      (try simp only [show (1:Int).toNat=1 from rfl,Nat.reduceMul,Nat.reduceEqDiff,Go.Addr.add,↓reduceIte] at hx313_0)
      have qi313:(1 < x9_1.length)=True:=eq_true (by omega)
      (try rw [show ((1:Int)).toNat=1 from rfl] at hx313_0)
      replace p313:=eq_true p313
      replace q313:=eq_true q313
      refine start_ (n:=9) (S:=fun w'=>w'.cell? ad312=some (.int .i64 (rd x9_1 0))∧w'.cell? ⟨ad312.block,ad312.off + 1,none⟩=some (.int .i64 (rd x9_1 1))) (ds:=[]) (yvb 9 0) (by kernel_rfl) rfl rfl ⟨hx312_0,hx313_0⟩ (fun hHeld=>?_);refine with_tabW spec_l20Rule.tab27 spec_l20Rule.bits27 (fun HT_ HW_=>?_)
      generalize w56.drew=w84 at HO_9 BK281 BK309 HI0 HK HB hx312_0 hx313_0 hHeld ⊢
      refine yvp 0 127 (yvb 9 1) HT_.out ?_
      refine yvp 1 128 (yvb 9 3) HT_.out ?_
      refine yvp 3 130 (yvb 9 11) HT_.out ?_
      refine yvp 4 131 (yvb 9 27) HT_.out ?_
      refine yvt 2 129 (yvb 9 31) HT_.out HW_.out hHeld ?_
      refine yvt 5 132 (yvb 9 63) HT_.out HW_.out hHeld ?_
      refine one_ (i:=6) (N:=some 133) (yvb 9 127) rfl rfl (one_of HT_.out (by kernel_rfl)) (by decide) (fun K hK=>?_)
      refine Kd.R_lit_step (Kd.int .i64) _ 3 ?hg (N:=133) ?hd (xs:=([rd x9_1 0,rd x9_1 1]:List Int)) (inner:=[.int .i64 (rd x9_1 0),.int .i64 (rd x9_1 1)]) (ok:=fun _=>True) (okp:=fun _=>True) ?hr ?hp (fun _ hk=>hk) trivial (Below.refl _ _) (Nat.le_refl _) (by simp) ?_;(case hd=>rfl);(case hg=>rfl);(case hr=>first|(go_simp;done)|(go_simp;rfl));(case hp=>exact (Reps.one (show Kd.M (Kd.int .i64) _ _ _ (rd x9_1 0) [.int .i64 (rd x9_1 0)] from rfl) (Reps.one (show Kd.M (Kd.int .i64) _ _ _ (rd x9_1 1) [.int .i64 (rd x9_1 1)] from rfl) (Reps.none _ _))))
      intro v315 w85 ho86 hb hg_ hnew_
      have HS0_:=(hb.cell (World.block_lt_of_cell? _ _ (hHeld.1))).trans (hHeld.1)
      have HS1_:=(hb.cell (World.block_lt_of_cell? _ _ (hHeld.2))).trans (hHeld.2)
      clear hg_ hnew_
      (first|rw [← Ny314.out] at ho86|(simp only [Int.reduceToNat] at ho86;rw [← Ny314.out] at ho86))
      have HO316:=yam (Kd.R_lower (Kd.Yw ho86 (Kd.R_lt (Kd.Yz HO_9.out))) (keep_size (w:=w) (g:=g) (row:=none) (by repeat (first|(with_reducible first|exact HK.out|apply KeepBut.set_|apply keep_drewN|apply keep_drew|apply keep_alloc|refine keep_far ?_ GW281.out _|refine keep_far ?_ GW309.out _)|exact HK.out))))
      replace HO_9:=yam (Kd.Ye (Kd.Yz HO_9.out) (Kd.Yb ho86) hb)
      replace BK281:=yam (ybb BK281.out hb)
      replace BK309:=yam (ybb BK309.out hb)
      replace HK:=yam (KeepBut.trans (by repeat (first|(with_reducible first|exact HK.out|apply KeepBut.set_|apply keep_drewN|apply keep_drew|apply keep_alloc|refine keep_far ?_ GW281.out _|refine keep_far ?_ GW309.out _)|exact HK.out)) (KeepBut.of_below hb g none) (.inl rfl))
      replace HB:=yam (below_step (by repeat (first|(with_reducible first|exact HB.out|apply yea|apply yen|apply yed|refine below_set ?_ (IsS86.ge HI0.out)|refine below_set ?_ GE281.out|refine below_set ?_ GE309.out)|exact HB.out)) hb)
      replace HI0:=yam (IsS86.below (by repeat (first|(with_reducible first|exact HI0.out|apply IsS86.alloc|apply IsS86.drewN|apply IsS86.drew|apply IsS86.set_1|refine IsS86.far ?_ NB0_281.out _|refine IsS86.far ?_ NB0_309.out _)|exact HI0.out)) hb)
      clear hb ho86
      obtain ⟨Ao87,co87,eo87⟩:=Kd.R_slice HO316.out
      (first|subst eo87|(injection eo87 with f1_ f2_ f3_;have f4_:=f1_.symm;have f5_:=f3_.symm;clear f1_ f2_ f3_;subst f4_;subst f5_))
      refine hK.out _ _ ⟨HS0_,HS1_⟩ (fun hHeld=>?_)
      clear hK K
      refine norm_ (a':=?_) ?_ ?_
      rotate_left
      ·show Act.put _ (some 133) _=_
       simp only [Act.put,yps,i64_w,i32_w]
       rfl
      refine yvp 7 134 (yvb 9 255) HT_.out ?_
      refine one_ (i:=8) (N:=none) (yvb 9 511) rfl rfl (one_of HT_.out (by kernel_rfl)) (by decide) (fun K hK=>?_)
      have hs88:w85.cell? ⟨gb309,0,none⟩=some (.int .i64 2):=(blk_cell BK309.out 0).trans rfl
      have hfs88:=blk_frozen BK309.out 0
      have hns88_0:=NB281_309.out
      have hms88_0:=NB309_281.out
      have hs89:w85.cell? ⟨gb309,1,none⟩=some (.slice (some ad312) x9_1.length co51):=(blk_cell BK309.out 1).trans rfl
      have hfs89:=blk_frozen BK309.out 1
      have hns89_0:=NB281_309.out
      have hms89_0:=NB309_281.out
      have hs90:w85.cell? ⟨gb309,2,none⟩=some (.int .i64 ji48):=(blk_cell BK309.out 2).trans rfl
      have hfs90:=blk_frozen BK309.out 2
      have hns90_0:=NB281_309.out
      have hms90_0:=NB309_281.out
      refine skip_ (w1:=?_) (by rfl) rfl ?_ ?_
      rotate_left
      ·go_simp
       first|with_reducible rfl|rfl
      have hh0_:=Kd.own_blk (Kd.R_ne HO_9.out BK309.out (by decide))
      refine hK.out _ _ ⟨((cell_far (p:=⟨gb309,2,none⟩) (by exact hh0_) _).trans (((cell_far (p:=⟨gb309,1,none⟩) (by exact hh0_) _).trans (((cell_far (p:=⟨gb309,0,none⟩) (by exact hh0_) _).trans (hHeld.1)))))),((cell_far (p:=⟨gb309,2,none⟩) (by exact hh0_) _).trans (((cell_far (p:=⟨gb309,1,none⟩) (by exact hh0_) _).trans (((cell_far (p:=⟨gb309,0,none⟩) (by exact hh0_) _).trans (hHeld.2))))))⟩ (fun hHeld=>?_)
      clear hK K
      refine done_ (done_of HT_.out (by kernel_rfl)) ?_
      try go_wp2
      have n0_:Aside0 (Kd.R (Kd.int .i64) 3 (((w85.setCell ⟨gb309,0,none⟩ (.int .i64 4)).setCell ⟨gb309,1,none⟩ (.slice Ao87 y314.length co87)).setCell ⟨gb309,2,none⟩ (.int .i64 0)) w.heap.size (fun k_=>some k_≠(.slice Ao87 y314.length co87:Value).ownBlock) (.slice (some ad312) x9_1.length co51) x9_1):=⟨by (with_reducible repeat (first|apply Kd.Ya|apply Kd.Yn|apply Kd.Yd));exact Kd.R_mono (Kd.R_far (p:=⟨gb309,2,none⟩) (Kd.R_far (p:=⟨gb309,1,none⟩) (Kd.R_far (p:=⟨gb309,0,none⟩) (Kd.R_types HO_9.out BK309.out (by decide)) (fun _ hk=>hk.2) (.int .i64 4)) (fun _ hk=>hk.2) (.slice Ao87 y314.length co87)) (fun _ hk=>hk.2) (.int .i64 0)) (fun _ hk=>hk.1.2)⟩
      have n1_:Aside0 (Kd.R (Kd.int .i64) 3 (((w85.setCell ⟨gb309,0,none⟩ (.int .i64 4)).setCell ⟨gb309,1,none⟩ (.slice Ao87 y314.length co87)).setCell ⟨gb309,2,none⟩ (.int .i64 0)) w.heap.size (fun k_=>some k_≠(.slice (some ad312) x9_1.length co51:Value).ownBlock) (.slice Ao87 y314.length co87) y314):=⟨by (with_reducible repeat (first|apply Kd.Ya|apply Kd.Yn|apply Kd.Yd));exact Kd.R_mono (Kd.R_far (p:=⟨gb309,2,none⟩) (Kd.R_far (p:=⟨gb309,1,none⟩) (Kd.R_far (p:=⟨gb309,0,none⟩) (Kd.R_types HO316.out BK309.out (by decide)) (fun _ hk=>hk.2) (.int .i64 4)) (fun _ hk=>hk.2) (.slice Ao87 y314.length co87)) (fun _ hk=>hk.2) (.int .i64 0)) (fun _ hk=>hk.1.2)⟩
      have n2_:Aside0 ((((w85.setCell ⟨gb309,0,none⟩ (.int .i64 4)).setCell ⟨gb309,1,none⟩ (.slice Ao87 y314.length co87)).setCell ⟨gb309,2,none⟩ (.int .i64 0)).heap[gb281]?=some (.cells #[.int .i64 0,.slice none 0 0,.int .i64 0] 32 (0,0))):=⟨by (with_reducible repeat (first|refine ybn ?_ _|refine ybd ?_|refine yba ?_ _));refine blk_far ?_ NB281_309.out _;(with_reducible repeat (first|refine ybn ?_ _|refine ybd ?_|refine yba ?_ _));refine blk_far ?_ NB281_309.out _;(with_reducible repeat (first|refine ybn ?_ _|refine ybd ?_|refine yba ?_ _));refine blk_far ?_ NB281_309.out _;(with_reducible repeat (first|refine ybn ?_ _|refine ybd ?_|refine yba ?_ _));exact BK281.out⟩
      have n3_:Aside0 ((((w85.setCell ⟨gb309,0,none⟩ (.int .i64 4)).setCell ⟨gb309,1,none⟩ (.slice Ao87 y314.length co87)).setCell ⟨gb309,2,none⟩ (.int .i64 0)).heap[gb309]?=some (.cells #[.int .i64 4,.slice Ao87 y314.length co87,.int .i64 0] 32 (0,0))):=⟨by (with_reducible repeat (first|refine ybn ?_ _|refine ybd ?_|refine yba ?_ _));refine blk_put (cs:= #[.int .i64 4,.slice Ao87 y314.length co87,.int .i64 ji48]) ?_ 2 _ rfl;(with_reducible repeat (first|refine ybn ?_ _|refine ybd ?_|refine yba ?_ _));refine blk_put (cs:= #[.int .i64 4,.slice (some ad312) x9_1.length co51,.int .i64 ji48]) ?_ 1 _ rfl;(with_reducible repeat (first|refine ybn ?_ _|refine ybd ?_|refine yba ?_ _));refine blk_put (cs:= #[.int .i64 2,.slice (some ad312) x9_1.length co51,.int .i64 ji48]) ?_ 0 _ rfl;(with_reducible repeat (first|refine ybn ?_ _|refine ybd ?_|refine yba ?_ _));exact BK309.out⟩
      have n4_:Aside0 (IsS86 w0 (((w85.setCell ⟨gb309,0,none⟩ (.int .i64 4)).setCell ⟨gb309,1,none⟩ (.slice Ao87 y314.length co87)).setCell ⟨gb309,2,none⟩ (.int .i64 0)) g s0_0 t311):=⟨by repeat (first|(with_reducible first|exact HI0.out|apply IsS86.alloc|apply IsS86.drewN|apply IsS86.drew|apply IsS86.set_1|refine IsS86.far ?_ NB0_281.out _|refine IsS86.far ?_ NB0_309.out _)|exact HI0.out)⟩
      have n5_:Aside0 (KeepBut w (((w85.setCell ⟨gb309,0,none⟩ (.int .i64 4)).setCell ⟨gb309,1,none⟩ (.slice Ao87 y314.length co87)).setCell ⟨gb309,2,none⟩ (.int .i64 0)) g none):=⟨by repeat (first|(with_reducible first|exact HK.out|apply KeepBut.set_|apply keep_drewN|apply keep_drew|apply keep_alloc|refine keep_far ?_ GW281.out _|refine keep_far ?_ GW309.out _)|exact HK.out)⟩
      have n6_:Aside0 (Below w0.heap.size w0 (((w85.setCell ⟨gb309,0,none⟩ (.int .i64 4)).setCell ⟨gb309,1,none⟩ (.slice Ao87 y314.length co87)).setCell ⟨gb309,2,none⟩ (.int .i64 0))):=⟨by repeat (first|(with_reducible first|exact HB.out|apply yea|apply yen|apply yed|refine below_set ?_ (IsS86.ge HI0.out)|refine below_set ?_ GE281.out|refine below_set ?_ GE309.out)|exact HB.out)⟩
      (try clear HO_9)
      (try clear HO316)
      (try clear BK281)
      (try clear BK309)
      (try clear HI0)
      (try clear HK)
      (try clear HB)
      generalize (((w85.setCell ⟨gb309,0,none⟩ (.int .i64 4)).setCell ⟨gb309,1,none⟩ (.slice Ao87 y314.length co87)).setCell ⟨gb309,2,none⟩ (.int .i64 0))=w91 at n0_ n1_ n2_ n3_ n4_ n5_ n6_ ⊢
      have HO_9:=n0_
      have HO316:=n1_
      have BK281:=n2_
      have BK309:=n3_
      have HI0:=n4_
      have HK:=n5_
      have HB:=n6_
      clear n0_ n1_ n2_ n3_ n4_ n5_ n6_
      replace HO_9:=yam (Kd.Yd HO_9.out)
      replace HO316:=yam (Kd.Yd HO316.out)
      replace BK281:=yam (ybd BK281.out)
      replace BK309:=yam (ybd BK309.out)
      replace HI0:=yam (IsS86.drew HI0.out)
      replace HK:=yam (keep_drew HK.out)
      replace HB:=yam (yed HB.out)
      have p317:0≤(0:Int):=(by omega)
      have q317:0 < (x9_1.length:Int):=ydt
      obtain ⟨ad317,e317,hx317_0⟩:=Kd.at_int (Kd.Yr HO_9.out).2.2 0 p317 q317
      obtain rfl:ad312=ad317:=(by injection e317)
      have qi317:(0 < x9_1.length)=True:=eq_true (by omega)
      (try rw [show ((0:Int)).toNat=0 from rfl] at hx317_0)
      (try rw [Addr.add_zero'] at hx317_0)
      replace p317:=eq_true p317
      replace q317:=eq_true q317
      have p318:0≤((rd x9_1 0):Int):=ydt
      have q318:(rd x9_1 0) < (l1.length:Int):=ydt
      obtain ⟨ad318,e318,hx318_0⟩:=Kd.at_int HR1.out (rd x9_1 0) p318 q318
      have hw318_0:=hx318_0
      cases e318
      have hne318_0:=(show ((ad318.add ((rd x9_1 0)).toNat):Addr).block≠g from by first|(rw [add_block];exact hf1 ad318 rfl (by omega))|(show (Addr.add _ _).block≠_;rw [add_block];exact hf1 ad318 rfl (by omega))|exact hf1 ad318 rfl (by omega))
      replace hx318_0:=keep_cell HK.out hx318_0 (by first|(rw [add_block];exact hf1 _ rfl (by omega))|exact hf1 _ rfl (by omega)|exact hf1 ad318 rfl (by omega))
      replace p318:=eq_true p318
      replace q318:=eq_true q318
      have p319:0≤(1:Int):=(by omega)
      have q319:1 < (x9_1.length:Int):=ydt
      obtain ⟨ad319,e319,hx319_0⟩:=Kd.at_int (Kd.Yr HO_9.out).2.2 1 p319 q319
      obtain rfl:ad312=ad319:=(by injection e319)
      (try simp only [show (1:Int).toNat=1 from rfl,Nat.reduceMul,Nat.reduceEqDiff,Go.Addr.add,↓reduceIte] at hx319_0)
      have qi319:(1 < x9_1.length)=True:=eq_true (by omega)
      (try rw [show ((1:Int)).toNat=1 from rfl] at hx319_0)
      replace p319:=eq_true p319
      replace q319:=eq_true q319
      have p320:0≤((rd x9_1 1):Int):=ydt
      have q320:(rd x9_1 1) < (l1.length:Int):=ydt
      obtain ⟨ad320,e320,hx320_0⟩:=Kd.at_int HR1.out (rd x9_1 1) p320 q320
      have hw320_0:=hx320_0
      obtain rfl:ad318=ad320:=(by injection e320)
      have hne320_0:=(show ((ad318.add ((rd x9_1 1)).toNat):Addr).block≠g from by first|(rw [add_block];exact hf1 ad318 rfl (by omega))|(show (Addr.add _ _).block≠_;rw [add_block];exact hf1 ad318 rfl (by omega))|exact hf1 ad318 rfl (by omega))
      replace hx320_0:=keep_cell HK.out hx320_0 (by first|(rw [add_block];exact hf1 _ rfl (by omega))|exact hf1 _ rfl (by omega)|exact hf1 ad318 rfl (by omega))
      replace p320:=eq_true p320
      replace q320:=eq_true q320
      refine start_ (n:=13) (S:=fun w'=>w'.cell? ad312=some (.int .i64 (rd x9_1 0))∧w'.cell? (ad318.add ((rd x9_1 0)).toNat)=some (.int .i64 (rd l1 (rd x9_1 0)))∧w'.cell? ⟨ad312.block,ad312.off + 1,none⟩=some (.int .i64 (rd x9_1 1))∧w'.cell? (ad318.add ((rd x9_1 1)).toNat)=some (.int .i64 (rd l1 (rd x9_1 1)))) (ds:=[]) (yvb 13 0) (by kernel_rfl) rfl rfl ⟨hx317_0,(keep_cell HK.out hw318_0 hne318_0),hx319_0,(keep_cell HK.out hw320_0 hne320_0)⟩ (fun hHeld=>?_);refine with_tabW spec_l20Rule.tab28 spec_l20Rule.bits28 (fun HT_ HW_=>?_)
      generalize w91.drew=w92 at HO_9 HO316 BK281 BK309 HI0 HK HB hx317_0 hx318_0 hx319_0 hx320_0 hHeld ⊢
      refine yvp 0 135 (yvb 13 1) HT_.out ?_
      refine yvp 1 136 (yvb 13 3) HT_.out ?_
      refine yvp 2 137 (yvb 13 7) HT_.out ?_
      refine yvp 6 141 (yvb 13 71) HT_.out ?_
      refine yvp 7 142 (yvb 13 199) HT_.out ?_
      refine yvp 8 143 (yvb 13 455) HT_.out ?_
      refine yvt 3 138 (yvb 13 463) HT_.out HW_.out hHeld ?_
      refine yvp 4 139 (yvb 13 479) HT_.out ?_
      refine yvt 5 140 (yvb 13 511) HT_.out HW_.out hHeld ?_
      refine yvt 9 144 (yvb 13 1023) HT_.out HW_.out hHeld ?_
      refine yvp 10 145 (yvb 13 2047) HT_.out ?_
      refine yvt 11 146 (yvb 13 4095) HT_.out HW_.out hHeld ?_
      refine yvp 12 147 (yvb 13 8191) HT_.out ?_
      refine done_ (done_of HT_.out (by kernel_rfl)) ?_
      try go_wp2
      go_meet
      case rel=>exact ⟨_,(4),(y314),(0),(.slice Ao87 y314.length co87),H,⟨by have:=HK1.out;have:=HJ11.out;have:=HK3.out;first|omega|exact Nat.le_refl _⟩,⟨by (with_reducible repeat (first|apply Kd.Ya|apply Kd.Yn|apply Kd.Yd));exact Kd.R_mono HO316.out (fun _ hk=>trivial)⟩,⟨ybk BK281.out⟩,⟨ybk BK309.out⟩,⟨by repeat (first|(with_reducible first|exact HI0.out|apply IsS86.alloc|apply IsS86.drewN|apply IsS86.drew|apply IsS86.set_1|refine IsS86.far ?_ NB0_281.out _|refine IsS86.far ?_ NB0_309.out _)|exact HI0.out)⟩,⟨by repeat (first|(with_reducible first|exact HK.out|apply KeepBut.set_|apply keep_drewN|apply keep_drew|apply keep_alloc|refine keep_far ?_ GW281.out _|refine keep_far ?_ GW309.out _)|exact HK.out)⟩,⟨by repeat (first|(with_reducible first|exact HB.out|apply yea|apply yen|apply yed|refine below_set ?_ (IsS86.ge HI0.out)|refine below_set ?_ GE281.out|refine below_set ?_ GE309.out)|exact HB.out)⟩⟩
     obtain ⟨y323,Ny323⟩:∃ y_:List Int,Aside0 (y_=(([rd x9_1 1,rd x9_1 0]:List Int))):=⟨_,⟨rfl⟩⟩
     replace H:(spec_l20Rule.j5 k3 a2 a3 s0_0 t311 4 y323 0)=some (r1,r2,r3,r4):=yhn Ny323.out H
     replace H:=yam H
     try go_wp2
     replace HO_9:=yam (Kd.Yd HO_9.out)
     replace BK281:=yam (ybd BK281.out)
     replace BK309:=yam (ybd BK309.out)
     replace HI0:=yam (IsS86.drew HI0.out)
     replace HK:=yam (keep_drew HK.out)
     replace HB:=yam (yed HB.out)
     have p312:0≤(0:Int):=(by omega)
     have q312:0 < (x9_1.length:Int):=ydt
     obtain ⟨ad312,e312,hx312_0⟩:=Kd.at_int (Kd.Yr HO_9.out).2.2 0 p312 q312
     cases e312
     have qi312:(0 < x9_1.length)=True:=eq_true (by omega)
     (try rw [show ((0:Int)).toNat=0 from rfl] at hx312_0)
     (try rw [Addr.add_zero'] at hx312_0)
     replace p312:=eq_true p312
     replace q312:=eq_true q312
     have p313:0≤(1:Int):=(by omega)
     have q313:1 < (x9_1.length:Int):=ydt
     obtain ⟨ad313,e313,hx313_0⟩:=Kd.at_int (Kd.Yr HO_9.out).2.2 1 p313 q313
     obtain rfl:ad312=ad313:=(by injection e313)
     (try simp only [show (1:Int).toNat=1 from rfl,Nat.reduceMul,Nat.reduceEqDiff,Go.Addr.add,↓reduceIte] at hx313_0)
     have qi313:(1 < x9_1.length)=True:=eq_true (by omega)
     (try rw [show ((1:Int)).toNat=1 from rfl] at hx313_0)
     replace p313:=eq_true p313
     replace q313:=eq_true q313
     refine start_ (n:=9) (S:=fun w'=>w'.cell? ad312=some (.int .i64 (rd x9_1 0))∧w'.cell? ⟨ad312.block,ad312.off + 1,none⟩=some (.int .i64 (rd x9_1 1))) (ds:=[]) (yvb 9 0) (by kernel_rfl) rfl rfl ⟨hx312_0,hx313_0⟩ (fun hHeld=>?_);refine with_tabW spec_l20Rule.tab27 spec_l20Rule.bits27 (fun HT_ HW_=>?_)
     generalize w56.drew=w70 at HO_9 BK281 BK309 HI0 HK HB hx312_0 hx313_0 hHeld ⊢
     refine yvp 0 127 (yvb 9 1) HT_.out ?_
     refine yvp 1 128 (yvb 9 3) HT_.out ?_
     refine yvp 3 130 (yvb 9 11) HT_.out ?_
     refine yvp 4 131 (yvb 9 27) HT_.out ?_
     refine yvt 2 129 (yvb 9 31) HT_.out HW_.out hHeld ?_
     refine yvt 5 132 (yvb 9 63) HT_.out HW_.out hHeld ?_
     refine one_ (i:=6) (N:=some 133) (yvb 9 127) rfl rfl (one_of HT_.out (by kernel_rfl)) (by decide) (fun K hK=>?_)
     refine Kd.R_lit_step (Kd.int .i64) _ 3 ?hg (N:=133) ?hd (xs:=([rd x9_1 0,rd x9_1 1]:List Int)) (inner:=[.int .i64 (rd x9_1 0),.int .i64 (rd x9_1 1)]) (ok:=fun _=>True) (okp:=fun _=>True) ?hr ?hp (fun _ hk=>hk) trivial (Below.refl _ _) (Nat.le_refl _) (by simp) ?_;(case hd=>rfl);(case hg=>rfl);(case hr=>first|(go_simp;done)|(go_simp;rfl));(case hp=>exact (Reps.one (show Kd.M (Kd.int .i64) _ _ _ (rd x9_1 0) [.int .i64 (rd x9_1 0)] from rfl) (Reps.one (show Kd.M (Kd.int .i64) _ _ _ (rd x9_1 1) [.int .i64 (rd x9_1 1)] from rfl) (Reps.none _ _))))
     intro v315 w71 ho72 hb hg_ hnew_
     have HS0_:=(hb.cell (World.block_lt_of_cell? _ _ (hHeld.1))).trans (hHeld.1)
     have HS1_:=(hb.cell (World.block_lt_of_cell? _ _ (hHeld.2))).trans (hHeld.2)
     clear hg_ hnew_
     (first|rw [← Ny314.out] at ho72|(simp only [Int.reduceToNat] at ho72;rw [← Ny314.out] at ho72))
     have HO316:=yam (Kd.R_lower (Kd.Yw ho72 (Kd.R_lt (Kd.Yz HO_9.out))) (keep_size (w:=w) (g:=g) (row:=none) (by repeat (first|(with_reducible first|exact HK.out|apply KeepBut.set_|apply keep_drewN|apply keep_drew|apply keep_alloc|refine keep_far ?_ GW281.out _|refine keep_far ?_ GW309.out _)|exact HK.out))))
     replace HO_9:=yam (Kd.Ye (Kd.Yz HO_9.out) (Kd.Yb ho72) hb)
     replace BK281:=yam (ybb BK281.out hb)
     replace BK309:=yam (ybb BK309.out hb)
     replace HK:=yam (KeepBut.trans (by repeat (first|(with_reducible first|exact HK.out|apply KeepBut.set_|apply keep_drewN|apply keep_drew|apply keep_alloc|refine keep_far ?_ GW281.out _|refine keep_far ?_ GW309.out _)|exact HK.out)) (KeepBut.of_below hb g none) (.inl rfl))
     replace HB:=yam (below_step (by repeat (first|(with_reducible first|exact HB.out|apply yea|apply yen|apply yed|refine below_set ?_ (IsS86.ge HI0.out)|refine below_set ?_ GE281.out|refine below_set ?_ GE309.out)|exact HB.out)) hb)
     replace HI0:=yam (IsS86.below (by repeat (first|(with_reducible first|exact HI0.out|apply IsS86.alloc|apply IsS86.drewN|apply IsS86.drew|apply IsS86.set_1|refine IsS86.far ?_ NB0_281.out _|refine IsS86.far ?_ NB0_309.out _)|exact HI0.out)) hb)
     clear hb ho72
     obtain ⟨Ao73,co73,eo73⟩:=Kd.R_slice HO316.out
     (first|subst eo73|(injection eo73 with f1_ f2_ f3_;have f4_:=f1_.symm;have f5_:=f3_.symm;clear f1_ f2_ f3_;subst f4_;subst f5_))
     refine hK.out _ _ ⟨HS0_,HS1_⟩ (fun hHeld=>?_)
     clear hK K
     refine norm_ (a':=?_) ?_ ?_
     rotate_left
     ·show Act.put _ (some 133) _=_
      simp only [Act.put,yps,i64_w,i32_w]
      rfl
     refine yvp 7 134 (yvb 9 255) HT_.out ?_
     refine one_ (i:=8) (N:=none) (yvb 9 511) rfl rfl (one_of HT_.out (by kernel_rfl)) (by decide) (fun K hK=>?_)
     have hs74:w71.cell? ⟨gb309,0,none⟩=some (.int .i64 2):=(blk_cell BK309.out 0).trans rfl
     have hfs74:=blk_frozen BK309.out 0
     have hns74_0:=NB281_309.out
     have hms74_0:=NB309_281.out
     have hs75:w71.cell? ⟨gb309,1,none⟩=some (.slice (some ad312) x9_1.length co51):=(blk_cell BK309.out 1).trans rfl
     have hfs75:=blk_frozen BK309.out 1
     have hns75_0:=NB281_309.out
     have hms75_0:=NB309_281.out
     have hs76:w71.cell? ⟨gb309,2,none⟩=some (.int .i64 ji48):=(blk_cell BK309.out 2).trans rfl
     have hfs76:=blk_frozen BK309.out 2
     have hns76_0:=NB281_309.out
     have hms76_0:=NB309_281.out
     refine skip_ (w1:=?_) (by rfl) rfl ?_ ?_
     rotate_left
     ·go_simp
      first|with_reducible rfl|rfl
     have hh0_:=Kd.own_blk (Kd.R_ne HO_9.out BK309.out (by decide))
     refine hK.out _ _ ⟨((cell_far (p:=⟨gb309,2,none⟩) (by exact hh0_) _).trans (((cell_far (p:=⟨gb309,1,none⟩) (by exact hh0_) _).trans (((cell_far (p:=⟨gb309,0,none⟩) (by exact hh0_) _).trans (hHeld.1)))))),((cell_far (p:=⟨gb309,2,none⟩) (by exact hh0_) _).trans (((cell_far (p:=⟨gb309,1,none⟩) (by exact hh0_) _).trans (((cell_far (p:=⟨gb309,0,none⟩) (by exact hh0_) _).trans (hHeld.2))))))⟩ (fun hHeld=>?_)
     clear hK K
     refine done_ (done_of HT_.out (by kernel_rfl)) ?_
     try go_wp2
     have n0_:Aside0 (Kd.R (Kd.int .i64) 3 (((w71.setCell ⟨gb309,0,none⟩ (.int .i64 4)).setCell ⟨gb309,1,none⟩ (.slice Ao73 y314.length co73)).setCell ⟨gb309,2,none⟩ (.int .i64 0)) w.heap.size (fun k_=>some k_≠(.slice Ao73 y314.length co73:Value).ownBlock) (.slice (some ad312) x9_1.length co51) x9_1):=⟨by (with_reducible repeat (first|apply Kd.Ya|apply Kd.Yn|apply Kd.Yd));exact Kd.R_mono (Kd.R_far (p:=⟨gb309,2,none⟩) (Kd.R_far (p:=⟨gb309,1,none⟩) (Kd.R_far (p:=⟨gb309,0,none⟩) (Kd.R_types HO_9.out BK309.out (by decide)) (fun _ hk=>hk.2) (.int .i64 4)) (fun _ hk=>hk.2) (.slice Ao73 y314.length co73)) (fun _ hk=>hk.2) (.int .i64 0)) (fun _ hk=>hk.1.2)⟩
     have n1_:Aside0 (Kd.R (Kd.int .i64) 3 (((w71.setCell ⟨gb309,0,none⟩ (.int .i64 4)).setCell ⟨gb309,1,none⟩ (.slice Ao73 y314.length co73)).setCell ⟨gb309,2,none⟩ (.int .i64 0)) w.heap.size (fun k_=>some k_≠(.slice (some ad312) x9_1.length co51:Value).ownBlock) (.slice Ao73 y314.length co73) y314):=⟨by (with_reducible repeat (first|apply Kd.Ya|apply Kd.Yn|apply Kd.Yd));exact Kd.R_mono (Kd.R_far (p:=⟨gb309,2,none⟩) (Kd.R_far (p:=⟨gb309,1,none⟩) (Kd.R_far (p:=⟨gb309,0,none⟩) (Kd.R_types HO316.out BK309.out (by decide)) (fun _ hk=>hk.2) (.int .i64 4)) (fun _ hk=>hk.2) (.slice Ao73 y314.length co73)) (fun _ hk=>hk.2) (.int .i64 0)) (fun _ hk=>hk.1.2)⟩
     have n2_:Aside0 ((((w71.setCell ⟨gb309,0,none⟩ (.int .i64 4)).setCell ⟨gb309,1,none⟩ (.slice Ao73 y314.length co73)).setCell ⟨gb309,2,none⟩ (.int .i64 0)).heap[gb281]?=some (.cells #[.int .i64 0,.slice none 0 0,.int .i64 0] 32 (0,0))):=⟨by (with_reducible repeat (first|refine ybn ?_ _|refine ybd ?_|refine yba ?_ _));refine blk_far ?_ NB281_309.out _;(with_reducible repeat (first|refine ybn ?_ _|refine ybd ?_|refine yba ?_ _));refine blk_far ?_ NB281_309.out _;(with_reducible repeat (first|refine ybn ?_ _|refine ybd ?_|refine yba ?_ _));refine blk_far ?_ NB281_309.out _;(with_reducible repeat (first|refine ybn ?_ _|refine ybd ?_|refine yba ?_ _));exact BK281.out⟩
     have n3_:Aside0 ((((w71.setCell ⟨gb309,0,none⟩ (.int .i64 4)).setCell ⟨gb309,1,none⟩ (.slice Ao73 y314.length co73)).setCell ⟨gb309,2,none⟩ (.int .i64 0)).heap[gb309]?=some (.cells #[.int .i64 4,.slice Ao73 y314.length co73,.int .i64 0] 32 (0,0))):=⟨by (with_reducible repeat (first|refine ybn ?_ _|refine ybd ?_|refine yba ?_ _));refine blk_put (cs:= #[.int .i64 4,.slice Ao73 y314.length co73,.int .i64 ji48]) ?_ 2 _ rfl;(with_reducible repeat (first|refine ybn ?_ _|refine ybd ?_|refine yba ?_ _));refine blk_put (cs:= #[.int .i64 4,.slice (some ad312) x9_1.length co51,.int .i64 ji48]) ?_ 1 _ rfl;(with_reducible repeat (first|refine ybn ?_ _|refine ybd ?_|refine yba ?_ _));refine blk_put (cs:= #[.int .i64 2,.slice (some ad312) x9_1.length co51,.int .i64 ji48]) ?_ 0 _ rfl;(with_reducible repeat (first|refine ybn ?_ _|refine ybd ?_|refine yba ?_ _));exact BK309.out⟩
     have n4_:Aside0 (IsS86 w0 (((w71.setCell ⟨gb309,0,none⟩ (.int .i64 4)).setCell ⟨gb309,1,none⟩ (.slice Ao73 y314.length co73)).setCell ⟨gb309,2,none⟩ (.int .i64 0)) g s0_0 t311):=⟨by repeat (first|(with_reducible first|exact HI0.out|apply IsS86.alloc|apply IsS86.drewN|apply IsS86.drew|apply IsS86.set_1|refine IsS86.far ?_ NB0_281.out _|refine IsS86.far ?_ NB0_309.out _)|exact HI0.out)⟩
     have n5_:Aside0 (KeepBut w (((w71.setCell ⟨gb309,0,none⟩ (.int .i64 4)).setCell ⟨gb309,1,none⟩ (.slice Ao73 y314.length co73)).setCell ⟨gb309,2,none⟩ (.int .i64 0)) g none):=⟨by repeat (first|(with_reducible first|exact HK.out|apply KeepBut.set_|apply keep_drewN|apply keep_drew|apply keep_alloc|refine keep_far ?_ GW281.out _|refine keep_far ?_ GW309.out _)|exact HK.out)⟩
     have n6_:Aside0 (Below w0.heap.size w0 (((w71.setCell ⟨gb309,0,none⟩ (.int .i64 4)).setCell ⟨gb309,1,none⟩ (.slice Ao73 y314.length co73)).setCell ⟨gb309,2,none⟩ (.int .i64 0))):=⟨by repeat (first|(with_reducible first|exact HB.out|apply yea|apply yen|apply yed|refine below_set ?_ (IsS86.ge HI0.out)|refine below_set ?_ GE281.out|refine below_set ?_ GE309.out)|exact HB.out)⟩
     (try clear HO_9)
     (try clear HO316)
     (try clear BK281)
     (try clear BK309)
     (try clear HI0)
     (try clear HK)
     (try clear HB)
     generalize (((w71.setCell ⟨gb309,0,none⟩ (.int .i64 4)).setCell ⟨gb309,1,none⟩ (.slice Ao73 y314.length co73)).setCell ⟨gb309,2,none⟩ (.int .i64 0))=w77 at n0_ n1_ n2_ n3_ n4_ n5_ n6_ ⊢
     have HO_9:=n0_
     have HO316:=n1_
     have BK281:=n2_
     have BK309:=n3_
     have HI0:=n4_
     have HK:=n5_
     have HB:=n6_
     clear n0_ n1_ n2_ n3_ n4_ n5_ n6_
     replace HO_9:=yam (Kd.Yd HO_9.out)
     replace HO316:=yam (Kd.Yd HO316.out)
     replace BK281:=yam (ybd BK281.out)
     replace BK309:=yam (ybd BK309.out)
     replace HI0:=yam (IsS86.drew HI0.out)
     replace HK:=yam (keep_drew HK.out)
     replace HB:=yam (yed HB.out)
     have p317:0≤(0:Int):=(by omega)
     have q317:0 < (x9_1.length:Int):=ydt
     obtain ⟨ad317,e317,hx317_0⟩:=Kd.at_int (Kd.Yr HO_9.out).2.2 0 p317 q317
     obtain rfl:ad312=ad317:=(by injection e317)
     have qi317:(0 < x9_1.length)=True:=eq_true (by omega)
     (try rw [show ((0:Int)).toNat=0 from rfl] at hx317_0)
     (try rw [Addr.add_zero'] at hx317_0)
     replace p317:=eq_true p317
     replace q317:=eq_true q317
     have p318:0≤((rd x9_1 0):Int):=ydt
     have q318:(rd x9_1 0) < (l1.length:Int):=ydt
     obtain ⟨ad318,e318,hx318_0⟩:=Kd.at_int HR1.out (rd x9_1 0) p318 q318
     have hw318_0:=hx318_0
     cases e318
     have hne318_0:=(show ((ad318.add ((rd x9_1 0)).toNat):Addr).block≠g from by first|(rw [add_block];exact hf1 ad318 rfl (by omega))|(show (Addr.add _ _).block≠_;rw [add_block];exact hf1 ad318 rfl (by omega))|exact hf1 ad318 rfl (by omega))
     replace hx318_0:=keep_cell HK.out hx318_0 (by first|(rw [add_block];exact hf1 _ rfl (by omega))|exact hf1 _ rfl (by omega)|exact hf1 ad318 rfl (by omega))
     replace p318:=eq_true p318
     replace q318:=eq_true q318
     have p319:0≤(1:Int):=(by omega)
     have q319:1 < (x9_1.length:Int):=ydt
     obtain ⟨ad319,e319,hx319_0⟩:=Kd.at_int (Kd.Yr HO_9.out).2.2 1 p319 q319
     obtain rfl:ad312=ad319:=(by injection e319)
     (try simp only [show (1:Int).toNat=1 from rfl,Nat.reduceMul,Nat.reduceEqDiff,Go.Addr.add,↓reduceIte] at hx319_0)
     have qi319:(1 < x9_1.length)=True:=eq_true (by omega)
     (try rw [show ((1:Int)).toNat=1 from rfl] at hx319_0)
     replace p319:=eq_true p319
     replace q319:=eq_true q319
     have p320:0≤((rd x9_1 1):Int):=ydt
     have q320:(rd x9_1 1) < (l1.length:Int):=ydt
     obtain ⟨ad320,e320,hx320_0⟩:=Kd.at_int HR1.out (rd x9_1 1) p320 q320
     have hw320_0:=hx320_0
     obtain rfl:ad318=ad320:=(by injection e320)
     have hne320_0:=(show ((ad318.add ((rd x9_1 1)).toNat):Addr).block≠g from by first|(rw [add_block];exact hf1 ad318 rfl (by omega))|(show (Addr.add _ _).block≠_;rw [add_block];exact hf1 ad318 rfl (by omega))|exact hf1 ad318 rfl (by omega))
     replace hx320_0:=keep_cell HK.out hx320_0 (by first|(rw [add_block];exact hf1 _ rfl (by omega))|exact hf1 _ rfl (by omega)|exact hf1 ad318 rfl (by omega))
     replace p320:=eq_true p320
     replace q320:=eq_true q320
     refine start_ (n:=13) (S:=fun w'=>w'.cell? ad312=some (.int .i64 (rd x9_1 0))∧w'.cell? (ad318.add ((rd x9_1 0)).toNat)=some (.int .i64 (rd l1 (rd x9_1 0)))∧w'.cell? ⟨ad312.block,ad312.off + 1,none⟩=some (.int .i64 (rd x9_1 1))∧w'.cell? (ad318.add ((rd x9_1 1)).toNat)=some (.int .i64 (rd l1 (rd x9_1 1)))) (ds:=[]) (yvb 13 0) (by kernel_rfl) rfl rfl ⟨hx317_0,(keep_cell HK.out hw318_0 hne318_0),hx319_0,(keep_cell HK.out hw320_0 hne320_0)⟩ (fun hHeld=>?_);refine with_tabW spec_l20Rule.tab28 spec_l20Rule.bits28 (fun HT_ HW_=>?_)
     generalize w77.drew=w78 at HO_9 HO316 BK281 BK309 HI0 HK HB hx317_0 hx318_0 hx319_0 hx320_0 hHeld ⊢
     refine yvp 0 135 (yvb 13 1) HT_.out ?_
     refine yvp 1 136 (yvb 13 3) HT_.out ?_
     refine yvp 2 137 (yvb 13 7) HT_.out ?_
     refine yvp 6 141 (yvb 13 71) HT_.out ?_
     refine yvp 7 142 (yvb 13 199) HT_.out ?_
     refine yvp 8 143 (yvb 13 455) HT_.out ?_
     refine yvt 3 138 (yvb 13 463) HT_.out HW_.out hHeld ?_
     refine yvp 4 139 (yvb 13 479) HT_.out ?_
     refine yvt 5 140 (yvb 13 511) HT_.out HW_.out hHeld ?_
     refine yvt 9 144 (yvb 13 1023) HT_.out HW_.out hHeld ?_
     refine yvp 10 145 (yvb 13 2047) HT_.out ?_
     refine yvt 11 146 (yvb 13 4095) HT_.out HW_.out hHeld ?_
     refine yvp 12 147 (yvb 13 8191) HT_.out ?_
     refine done_ (done_of HT_.out (by kernel_rfl)) ?_
     try go_wp2
     replace HO_9:=yam (Kd.Yd HO_9.out)
     replace HO316:=yam (Kd.Yd HO316.out)
     replace BK281:=yam (ybd BK281.out)
     replace BK309:=yam (ybd BK309.out)
     replace HI0:=yam (IsS86.drew HI0.out)
     replace HK:=yam (keep_drew HK.out)
     replace HB:=yam (yed HB.out)
     have p321:0≤(1:Int):=(by omega)
     have q321:1 < (x9_1.length:Int):=ydt
     obtain ⟨ad321,e321,hx321_0⟩:=Kd.at_int (Kd.Yr HO_9.out).2.2 1 p321 q321
     obtain rfl:ad312=ad321:=(by injection e321)
     (try simp only [show (1:Int).toNat=1 from rfl,Nat.reduceMul,Nat.reduceEqDiff,Go.Addr.add,↓reduceIte] at hx321_0)
     have qi321:(1 < x9_1.length)=True:=eq_true (by omega)
     (try rw [show ((1:Int)).toNat=1 from rfl] at hx321_0)
     replace p321:=eq_true p321
     replace q321:=eq_true q321
     have p322:0≤(0:Int):=(by omega)
     have q322:0 < (x9_1.length:Int):=ydt
     obtain ⟨ad322,e322,hx322_0⟩:=Kd.at_int (Kd.Yr HO_9.out).2.2 0 p322 q322
     obtain rfl:ad312=ad322:=(by injection e322)
     have qi322:(0 < x9_1.length)=True:=eq_true (by omega)
     (try rw [show ((0:Int)).toNat=0 from rfl] at hx322_0)
     (try rw [Addr.add_zero'] at hx322_0)
     replace p322:=eq_true p322
     replace q322:=eq_true q322
     refine start_ (n:=9) (S:=fun w'=>w'.cell? ⟨ad312.block,ad312.off + 1,none⟩=some (.int .i64 (rd x9_1 1))∧w'.cell? ad312=some (.int .i64 (rd x9_1 0))) (ds:=[]) (yvb 9 0) (by kernel_rfl) rfl rfl ⟨hx321_0,hx322_0⟩ (fun hHeld=>?_);refine with_tabW spec_l20Rule.tab29 spec_l20Rule.bits29 (fun HT_ HW_=>?_)
     generalize w78.drew=w79 at HO_9 HO316 BK281 BK309 HI0 HK HB hx321_0 hx322_0 hHeld ⊢
     refine yvp 0 148 (yvb 9 1) HT_.out ?_
     refine yvp 1 149 (yvb 9 3) HT_.out ?_
     refine yvp 3 151 (yvb 9 11) HT_.out ?_
     refine yvp 4 152 (yvb 9 27) HT_.out ?_
     refine yvt 2 150 (yvb 9 31) HT_.out HW_.out hHeld ?_
     refine yvt 5 153 (yvb 9 63) HT_.out HW_.out hHeld ?_
     refine one_ (i:=6) (N:=some 154) (yvb 9 127) rfl rfl (one_of HT_.out (by kernel_rfl)) (by decide) (fun K hK=>?_)
     refine Kd.R_lit_step (Kd.int .i64) _ 3 ?hg (N:=154) ?hd (xs:=([rd x9_1 1,rd x9_1 0]:List Int)) (inner:=[.int .i64 (rd x9_1 1),.int .i64 (rd x9_1 0)]) (ok:=fun _=>True) (okp:=fun _=>True) ?hr ?hp (fun _ hk=>hk) trivial (Below.refl _ _) (Nat.le_refl _) (by simp) ?_;(case hd=>rfl);(case hg=>rfl);(case hr=>first|(go_simp;done)|(go_simp;rfl));(case hp=>exact (Reps.one (show Kd.M (Kd.int .i64) _ _ _ (rd x9_1 1) [.int .i64 (rd x9_1 1)] from rfl) (Reps.one (show Kd.M (Kd.int .i64) _ _ _ (rd x9_1 0) [.int .i64 (rd x9_1 0)] from rfl) (Reps.none _ _))))
     intro v324 w80 ho81 hb hg_ hnew_
     have HS0_:=(hb.cell (World.block_lt_of_cell? _ _ (hHeld.1))).trans (hHeld.1)
     have HS1_:=(hb.cell (World.block_lt_of_cell? _ _ (hHeld.2))).trans (hHeld.2)
     clear hg_ hnew_
     (first|rw [← Ny323.out] at ho81|(simp only [Int.reduceToNat] at ho81;rw [← Ny323.out] at ho81))
     have HO325:=yam (Kd.R_lower (Kd.Yw (Kd.Yw ho81 (Kd.R_lt (Kd.Yz HO_9.out))) (Kd.R_lt (Kd.Yz HO316.out))) (keep_size (w:=w) (g:=g) (row:=none) (by repeat (first|(with_reducible first|exact HK.out|apply KeepBut.set_|apply keep_drewN|apply keep_drew|apply keep_alloc|refine keep_far ?_ GW281.out _|refine keep_far ?_ GW309.out _)|exact HK.out))))
     replace HO_9:=yam (Kd.Ye (Kd.Yz HO_9.out) (Kd.Yb ho81) hb)
     replace HO316:=yam (Kd.Ye (Kd.Yz HO316.out) (Kd.Yb ho81) hb)
     replace BK281:=yam (ybb BK281.out hb)
     replace BK309:=yam (ybb BK309.out hb)
     replace HK:=yam (KeepBut.trans (by repeat (first|(with_reducible first|exact HK.out|apply KeepBut.set_|apply keep_drewN|apply keep_drew|apply keep_alloc|refine keep_far ?_ GW281.out _|refine keep_far ?_ GW309.out _)|exact HK.out)) (KeepBut.of_below hb g none) (.inl rfl))
     replace HB:=yam (below_step (by repeat (first|(with_reducible first|exact HB.out|apply yea|apply yen|apply yed|refine below_set ?_ (IsS86.ge HI0.out)|refine below_set ?_ GE281.out|refine below_set ?_ GE309.out)|exact HB.out)) hb)
     replace HI0:=yam (IsS86.below (by repeat (first|(with_reducible first|exact HI0.out|apply IsS86.alloc|apply IsS86.drewN|apply IsS86.drew|apply IsS86.set_1|refine IsS86.far ?_ NB0_281.out _|refine IsS86.far ?_ NB0_309.out _)|exact HI0.out)) hb)
     clear hb ho81
     obtain ⟨Ao82,co82,eo82⟩:=Kd.R_slice HO325.out
     (first|subst eo82|(injection eo82 with f1_ f2_ f3_;have f4_:=f1_.symm;have f5_:=f3_.symm;clear f1_ f2_ f3_;subst f4_;subst f5_))
     refine hK.out _ _ ⟨HS0_,HS1_⟩ (fun hHeld=>?_)
     clear hK K
     refine norm_ (a':=?_) ?_ ?_
     rotate_left
     ·show Act.put _ (some 154) _=_
      simp only [Act.put,yps,i64_w,i32_w]
      rfl
     refine yvp 7 155 (yvb 9 255) HT_.out ?_
     refine one_ (i:=8) (N:=none) (yvb 9 511) rfl rfl (one_of HT_.out (by kernel_rfl)) (by decide) (fun K hK=>?_)
     have hs83:w80.cell? ⟨gb309,1,none⟩=some (.slice Ao73 y314.length co73):=(blk_cell BK309.out 1).trans rfl
     have hfs83:=blk_frozen BK309.out 1
     have hns83_0:=NB281_309.out
     have hms83_0:=NB309_281.out
     refine skip_ (w1:=?_) (by rfl) rfl ?_ ?_
     rotate_left
     ·go_simp
      first|with_reducible rfl|rfl
     have hh0_:=Kd.own_blk (Kd.R_ne HO_9.out BK309.out (by decide))
     refine hK.out _ _ ⟨((cell_far (p:=⟨gb309,_,none⟩) (by exact hh0_) _).trans (hHeld.1)),((cell_far (p:=⟨gb309,_,none⟩) (by exact hh0_) _).trans (hHeld.2))⟩ (fun hHeld=>?_)
     clear hK K
     refine done_ (done_of HT_.out (by kernel_rfl)) ?_
     try go_wp2
     go_meet
     case rel=>exact ⟨_,(4),(y323),(0),(.slice Ao82 y323.length co82),H,⟨by have:=HK1.out;have:=HJ11.out;have:=HK3.out;first|omega|exact Nat.le_refl _⟩,⟨by (with_reducible repeat (first|apply Kd.Ya|apply Kd.Yn|apply Kd.Yd));exact Kd.R_mono (Kd.R_far (p:=⟨gb309,1,none⟩) (Kd.R_types HO325.out BK309.out (by decide)) (fun _ hk=>hk.2) (.slice Ao82 y323.length co82)) (fun _ hk=>trivial)⟩,⟨by (with_reducible repeat (first|refine ybn ?_ _|refine ybd ?_|refine yba ?_ _));refine blk_far ?_ NB281_309.out _;(with_reducible repeat (first|refine ybn ?_ _|refine ybd ?_|refine yba ?_ _));exact BK281.out⟩,⟨by (with_reducible repeat (first|refine ybn ?_ _|refine ybd ?_|refine yba ?_ _));refine blk_put (cs:= #[.int .i64 4,.slice Ao73 y314.length co73,.int .i64 0]) ?_ 1 _ rfl;(with_reducible repeat (first|refine ybn ?_ _|refine ybd ?_|refine yba ?_ _));exact BK309.out⟩,⟨by repeat (first|(with_reducible first|exact HI0.out|apply IsS86.alloc|apply IsS86.drewN|apply IsS86.drew|apply IsS86.set_1|refine IsS86.far ?_ NB0_281.out _|refine IsS86.far ?_ NB0_309.out _)|exact HI0.out)⟩,⟨by repeat (first|(with_reducible first|exact HK.out|apply KeepBut.set_|apply keep_drewN|apply keep_drew|apply keep_alloc|refine keep_far ?_ GW281.out _|refine keep_far ?_ GW309.out _)|exact HK.out)⟩,⟨by repeat (first|(with_reducible first|exact HB.out|apply yea|apply yen|apply yed|refine below_set ?_ (IsS86.ge HI0.out)|refine below_set ?_ GE281.out|refine below_set ?_ GE309.out)|exact HB.out)⟩⟩
    case rest=>as_aux_lemma =>
     clear HC50
     obtain ⟨kq,x310000_49,x310001_49,x310002_49,u310001,HA,HJ49,HO_310001,BK281,BK309,HI0,HK,HB⟩:=hcut
     rcases kq with _|kj49
     ·exact absurd HA.out (by simp [spec_l20Rule.j5])
     obtain ⟨H⟩:=HA
     simp only [spec_l20Rule.j5] at H
     replace H:=ybi H;obtain ⟨⟨t336,t337⟩,A116,H⟩:=H
     replace H:(if t336=true then ((spec_l20Rd_pick.f kj49 s0_0 t337 4).bind fun bt338=>(if bt338.1=0 then ((some (([0,6]:List Int):List Int)).bind fun y340=>((spec_l20Rd_pick.f kj49 s0_0 bt338.2 2).bind fun bt343=>(if 0≤bt343.1 then (if bt343.1 < (y340.length:Int) then (some (rd y340 bt343.1,x310001_49,x310002_49,bt343.2)) else (none)) else (none)))) else (if bt338.1=1 then ((some (([]:List Int):List Int)).bind fun y346=>(if y346.length + x310001_49.length < 17592186044416 then ((some (y346 ++ x310001_49:List Int)).bind fun y349=>(if 0 < (x310001_49.length:Int) then ((some (([rd x310001_49 0]:List Int):List Int)).bind fun y353=>(if y349.length + y353.length < 17592186044416 then (some (x310000_49,(y349 ++ y353),x310002_49,bt338.2)) else (none))) else (none))) else (none))) else (if bt338.1=2 then (some (x310000_49,(([wrap64 (a2 * a2),0]:List Int)),x310002_49,bt338.2)) else ((some (([(-1),257]:List Int):List Int)).bind fun y362=>((spec_l20Rd_pick.f kj49 s0_0 bt338.2 2).bind fun bt365=>(if 0≤bt365.1 then (if bt365.1 < (y362.length:Int) then (some (x310000_49,x310001_49,rd y362 bt365.1,bt365.2)) else (none)) else (none)))))))) else (some (x310000_49,x310001_49,x310002_49,t337)))=some (r1,r2,r3,r4):=H
     cases t336
     ·replace H:=yff H
      simp only [Option.some.injEq,Prod.mk.injEq] at H
      obtain ⟨rfl,rfl,rfl,rfl⟩:=H
      go_wp2_with (first|(refine goesL_ (some 194) rfl rfl Try.func68 (by kernel_rfl) rfl #[.pointer (some ⟨g,0,none⟩),.int .i64 a3] rfl ymd ?_;(with_reducible refine (spec_l20Rd_odd.calls kj49 g s0_0 t311 a3 false t337 w0 _ ?side1 ?side2 A116.out).mono ?_);(case side1=>repeat (first|(with_reducible first|exact HI0.out|apply IsS86.alloc|apply IsS86.drewN|apply IsS86.drew|apply IsS86.set_1|refine IsS86.far ?_ NB0_281.out _|refine IsS86.far ?_ NB0_309.out _)|exact HI0.out));(case side2=>repeat (first|(with_reducible first|exact HB.out|apply yea|apply yen|apply yed|refine below_set ?_ (IsS86.ge HI0.out)|refine below_set ?_ GE281.out|refine below_set ?_ GE309.out)|exact HB.out));rintro e w184 ⟨rfl,hi,hb,hk⟩;refine ⟨_,rfl,?_⟩;replace HO_310001:=yam (Kd.R_mono (Kd.R_keep (IsS86.apart (show IsS86 w0 _ g s0_0 t311 from by repeat (first|(with_reducible first|exact HI0.out|apply IsS86.alloc|apply IsS86.drewN|apply IsS86.drew|apply IsS86.set_1|refine IsS86.far ?_ NB0_281.out _|refine IsS86.far ?_ NB0_309.out _)|exact HI0.out)) (Kd.Yz HO_310001.out) (by decide)) hk (fun _ h=>h.2)) (fun _ h=>h.1));replace BK281:=yam (KeepBut.blk hk (g':=gb281) (o:= .cells #[.int .i64 0,.slice none 0 0,.int .i64 0] 32 (0,0)) (ybz BK281.out) NB281_0.out (by simp));replace BK309:=yam (KeepBut.blk hk (g':=gb309) (o:= .cells #[.int .i64 x310000_49,u310001,.int .i64 x310002_49] 32 (0,0)) (ybz BK309.out) NB309_0.out (by simp));replace HK:=yam (KeepBut.trans (by repeat (first|(with_reducible first|exact HK.out|apply KeepBut.set_|apply keep_drewN|apply keep_drew|apply keep_alloc|refine keep_far ?_ GW281.out _|refine keep_far ?_ GW309.out _)|exact HK.out)) hk (.inl rfl));replace HB:=yam (hb);replace HI0:=yam (hi);(try clear hb);(try clear hk);(try clear hi);have hnb185:=NB309_281.out;have hnc185:=NB281_309.out;have hnb186:=NB309_0.out;have hnc186:=NB0_309.out;obtain ⟨hcz187_0,hcz187_1,hcz187_2,hfz187_0,hfz187_1,hfz187_2⟩:=ybc BK309.out;have hnb188:=NB281_0.out;have hnc188:=NB0_281.out;obtain ⟨hcz189_0,hcz189_1,hcz189_2,hfz189_0,hfz189_1,hfz189_2⟩:=ybc BK281.out;obtain ⟨Ao190,co190,eo190⟩:=Kd.R_slice HO_310001.out;subst eo190))
      refine bodyPost_ret (results_cell_row rfl _ _ gb281 32 #[.int .i64 x310000_49,.slice Ao190 x310001_49.length co190,.int .i64 x310002_49] (0,0) _ rfl (by (with_reducible repeat (first|refine ybn ?_ _|refine ybd ?_|refine yba ?_ _));refine blk_put (cs:= #[.int .i64 x310000_49,.slice Ao190 x310001_49.length co190,.int .i64 0]) ?_ 2 _ rfl;(with_reducible repeat (first|refine ybn ?_ _|refine ybd ?_|refine yba ?_ _));refine blk_put (cs:= #[.int .i64 x310000_49,.slice none 0 0,.int .i64 0]) ?_ 1 _ rfl;(with_reducible repeat (first|refine ybn ?_ _|refine ybd ?_|refine yba ?_ _));refine blk_put (cs:= #[.int .i64 0,.slice none 0 0,.int .i64 0]) ?_ 0 _ rfl;(with_reducible repeat (first|refine ybn ?_ _|refine ybd ?_|refine yba ?_ _));exact BK281.out) Try.underlying32 rfl (by kernel_rfl)) rfl ?_
      exact ⟨_,by first|rfl|(simp [errW_none,errW_some] <;> rfl)|(simp only [← hji48];first|rfl|(simp [errW_none,errW_some] <;> rfl))|(simp [*,errW_none,errW_some] <;> rfl),by (with_reducible repeat (first|apply Kd.Ya|apply Kd.Yn|apply Kd.Yd));exact Kd.R_mono (Kd.R_far (p:=⟨gb281,2,none⟩) (Kd.R_far (p:=⟨gb281,1,none⟩) (Kd.R_far (p:=⟨gb281,0,none⟩) (Kd.R_types HO_310001.out BK281.out (by decide)) (fun _ hk=>hk.2) (.int .i64 x310000_49)) (fun _ hk=>hk.2) (.slice Ao190 x310001_49.length co190)) (fun _ hk=>hk.2) (.int .i64 x310002_49)) (fun _ hk=>trivial),by repeat (first|(with_reducible first|exact HI0.out|apply IsS86.alloc|apply IsS86.drewN|apply IsS86.drew|apply IsS86.set_1|refine IsS86.far ?_ NB0_281.out _|refine IsS86.far ?_ NB0_309.out _)|exact HI0.out),by repeat (first|(with_reducible first|exact HB.out|apply yea|apply yen|apply yed|refine below_set ?_ (IsS86.ge HI0.out)|refine below_set ?_ GE281.out|refine below_set ?_ GE309.out)|exact HB.out),by repeat (first|(with_reducible first|exact HK.out|apply KeepBut.set_|apply keep_drewN|apply keep_drew|apply keep_alloc|refine keep_far ?_ GW281.out _|refine keep_far ?_ GW309.out _)|exact HK.out)⟩
     replace H:=ytt H
     replace H:=ybi H;obtain ⟨⟨t338,t339⟩,A118,H⟩:=H
     replace H:(if t338=0 then ((some (([0,6]:List Int):List Int)).bind fun y340=>((spec_l20Rd_pick.f kj49 s0_0 t339 2).bind fun bt343=>(if 0≤bt343.1 then (if bt343.1 < (y340.length:Int) then (some (rd y340 bt343.1,x310001_49,x310002_49,bt343.2)) else (none)) else (none)))) else (if t338=1 then ((some (([]:List Int):List Int)).bind fun y346=>(if y346.length + x310001_49.length < 17592186044416 then ((some (y346 ++ x310001_49:List Int)).bind fun y349=>(if 0 < (x310001_49.length:Int) then ((some (([rd x310001_49 0]:List Int):List Int)).bind fun y353=>(if y349.length + y353.length < 17592186044416 then (some (x310000_49,(y349 ++ y353),x310002_49,t339)) else (none))) else (none))) else (none))) else (if t338=2 then (some (x310000_49,(([wrap64 (a2 * a2),0]:List Int)),x310002_49,t339)) else ((some (([(-1),257]:List Int):List Int)).bind fun y362=>((spec_l20Rd_pick.f kj49 s0_0 t339 2).bind fun bt365=>(if 0≤bt365.1 then (if bt365.1 < (y362.length:Int) then (some (x310000_49,x310001_49,rd y362 bt365.1,bt365.2)) else (none)) else (none)))))))=some (r1,r2,r3,r4):=H
     replace H:=yit H;obtain ⟨c119,H⟩ | ⟨c119,H⟩:=H
     ·have c119b0:(t338 == 0)=true:=beq_iff_eq.mpr c119
      have c119b1:(t338 != 0)=false:=bne_eq_false_iff_eq.mpr c119
      clear c119
      obtain ⟨y340,Ny340⟩:∃ y_:List Int,Aside0 (y_=(([0,6]:List Int))):=⟨_,⟨rfl⟩⟩
      replace H:((spec_l20Rd_pick.f kj49 s0_0 t339 2).bind fun bt343=>(if 0≤bt343.1 then (if bt343.1 < (y340.length:Int) then (some (rd y340 bt343.1,x310001_49,x310002_49,bt343.2)) else (none)) else (none)))=some (r1,r2,r3,r4):=yhn Ny340.out H
      replace H:=ybi H;obtain ⟨⟨t343,t344⟩,A120,H⟩:=H
      replace H:(if 0≤t343 then (if t343 < (y340.length:Int) then (some (rd y340 t343,x310001_49,x310002_49,t344)) else (none)) else (none))=some (r1,r2,r3,r4):=H
      replace H:=yif H;obtain ⟨c121b0,H⟩:=H
      replace H:=yif H;obtain ⟨c122b0,H⟩:=H
      simp only [Option.some.injEq,Prod.mk.injEq] at H
      obtain ⟨rfl,rfl,rfl,rfl⟩:=H
      go_wp2_with (first|(refine goesL_ (some 194) rfl rfl Try.func68 (by kernel_rfl) rfl #[.pointer (some ⟨g,0,none⟩),.int .i64 a3] rfl ymd ?_;(with_reducible refine (spec_l20Rd_odd.calls kj49 g s0_0 t311 a3 true t337 w0 _ ?side1 ?side2 A116.out).mono ?_);(case side1=>repeat (first|(with_reducible first|exact HI0.out|apply IsS86.alloc|apply IsS86.drewN|apply IsS86.drew|apply IsS86.set_1|refine IsS86.far ?_ NB0_281.out _|refine IsS86.far ?_ NB0_309.out _)|exact HI0.out));(case side2=>repeat (first|(with_reducible first|exact HB.out|apply yea|apply yen|apply yed|refine below_set ?_ (IsS86.ge HI0.out)|refine below_set ?_ GE281.out|refine below_set ?_ GE309.out)|exact HB.out));rintro e w123 ⟨rfl,hi,hb,hk⟩;refine ⟨_,rfl,?_⟩;replace HO_310001:=yam (Kd.R_mono (Kd.R_keep (IsS86.apart (show IsS86 w0 _ g s0_0 t311 from by repeat (first|(with_reducible first|exact HI0.out|apply IsS86.alloc|apply IsS86.drewN|apply IsS86.drew|apply IsS86.set_1|refine IsS86.far ?_ NB0_281.out _|refine IsS86.far ?_ NB0_309.out _)|exact HI0.out)) (Kd.Yz HO_310001.out) (by decide)) hk (fun _ h=>h.2)) (fun _ h=>h.1));replace BK281:=yam (KeepBut.blk hk (g':=gb281) (o:= .cells #[.int .i64 0,.slice none 0 0,.int .i64 0] 32 (0,0)) (ybz BK281.out) NB281_0.out (by simp));replace BK309:=yam (KeepBut.blk hk (g':=gb309) (o:= .cells #[.int .i64 x310000_49,u310001,.int .i64 x310002_49] 32 (0,0)) (ybz BK309.out) NB309_0.out (by simp));replace HK:=yam (KeepBut.trans (by repeat (first|(with_reducible first|exact HK.out|apply KeepBut.set_|apply keep_drewN|apply keep_drew|apply keep_alloc|refine keep_far ?_ GW281.out _|refine keep_far ?_ GW309.out _)|exact HK.out)) hk (.inl rfl));replace HB:=yam (hb);replace HI0:=yam (hi);(try clear hb);(try clear hk);(try clear hi))|(refine goesL_ (some 196) rfl rfl Try.func81 (by kernel_rfl) rfl #[.pointer (some ⟨g,0,none⟩),.int .i64 4] rfl ymd ?_;(with_reducible refine (spec_l20Rd_pick.calls kj49 g s0_0 t337 4 t338 t339 w0 _ ?side1 ?side2 A118.out).mono ?_);(case side1=>repeat (first|(with_reducible first|exact HI0.out|apply IsS86.alloc|apply IsS86.drewN|apply IsS86.drew|apply IsS86.set_1|refine IsS86.far ?_ NB0_281.out _|refine IsS86.far ?_ NB0_309.out _)|exact HI0.out));(case side2=>repeat (first|(with_reducible first|exact HB.out|apply yea|apply yen|apply yed|refine below_set ?_ (IsS86.ge HI0.out)|refine below_set ?_ GE281.out|refine below_set ?_ GE309.out)|exact HB.out));rintro e w124 ⟨rfl,hi,hb,hk⟩;refine ⟨_,rfl,?_⟩;replace HO_310001:=yam (Kd.R_mono (Kd.R_keep (IsS86.apart (show IsS86 w0 _ g s0_0 t337 from by repeat (first|(with_reducible first|exact HI0.out|apply IsS86.alloc|apply IsS86.drewN|apply IsS86.drew|apply IsS86.set_1|refine IsS86.far ?_ NB0_281.out _|refine IsS86.far ?_ NB0_309.out _)|exact HI0.out)) (Kd.Yz HO_310001.out) (by decide)) hk (fun _ h=>h.2)) (fun _ h=>h.1));replace BK281:=yam (KeepBut.blk hk (g':=gb281) (o:= .cells #[.int .i64 0,.slice none 0 0,.int .i64 0] 32 (0,0)) (ybz BK281.out) NB281_0.out (by simp));replace BK309:=yam (KeepBut.blk hk (g':=gb309) (o:= .cells #[.int .i64 x310000_49,u310001,.int .i64 x310002_49] 32 (0,0)) (ybz BK309.out) NB309_0.out (by simp));replace HK:=yam (KeepBut.trans (by repeat (first|(with_reducible first|exact HK.out|apply KeepBut.set_|apply keep_drewN|apply keep_drew|apply keep_alloc|refine keep_far ?_ GW281.out _|refine keep_far ?_ GW309.out _)|exact HK.out)) hk (.inl rfl));replace HB:=yam (hb);replace HI0:=yam (hi);(try clear hb);(try clear hk);(try clear hi))|((with_reducible refine gate_dst (N:=205) rfl ?_);(try (refine gate_guard (by rfl) ?_;dsimp only));refine Kd.R_lit (Kd.int .i64) _ 3 ?hg (N:=205) ?hd (xs:=([0,6]:List Int)) (inner:=[.int .i64 0,.int .i64 6]) (ok:=fun _=>True) (okp:=fun _=>True) ?hr ?hp (fun _ hk=>hk) trivial (Below.refl _ _) (Nat.le_refl _) (by simp) ?_;(case hd=>rfl);(case hg=>rfl);(case hr=>first|(go_simp;done)|(go_simp;rfl));(case hp=>exact (Reps.one (show Kd.M (Kd.int .i64) _ _ _ 0 [.int .i64 0] from rfl) (Reps.one (show Kd.M (Kd.int .i64) _ _ _ 6 [.int .i64 6] from rfl) (Reps.none _ _))));intro v341 w125 ho126 hb hg_ hnew_;clear hg_ hnew_;(first|rw [← Ny340.out] at ho126|(simp only [Int.reduceToNat] at ho126;rw [← Ny340.out] at ho126));have HO342:=yam (Kd.R_lower (Kd.Yw ho126 (Kd.R_lt (Kd.Yz HO_310001.out))) (keep_size (w:=w) (g:=g) (row:=none) (by repeat (first|(with_reducible first|exact HK.out|apply KeepBut.set_|apply keep_drewN|apply keep_drew|apply keep_alloc|refine keep_far ?_ GW281.out _|refine keep_far ?_ GW309.out _)|exact HK.out))));replace HO_310001:=yam (Kd.Ye (Kd.Yz HO_310001.out) (Kd.Yb ho126) hb);replace BK281:=yam (ybb BK281.out hb);replace BK309:=yam (ybb BK309.out hb);replace HK:=yam (KeepBut.trans (by repeat (first|(with_reducible first|exact HK.out|apply KeepBut.set_|apply keep_drewN|apply keep_drew|apply keep_alloc|refine keep_far ?_ GW281.out _|refine keep_far ?_ GW309.out _)|exact HK.out)) (KeepBut.of_below hb g none) (.inl rfl));replace HB:=yam (below_step (by repeat (first|(with_reducible first|exact HB.out|apply yea|apply yen|apply yed|refine below_set ?_ (IsS86.ge HI0.out)|refine below_set ?_ GE281.out|refine below_set ?_ GE309.out)|exact HB.out)) hb);replace HI0:=yam (IsS86.below (by repeat (first|(with_reducible first|exact HI0.out|apply IsS86.alloc|apply IsS86.drewN|apply IsS86.drew|apply IsS86.set_1|refine IsS86.far ?_ NB0_281.out _|refine IsS86.far ?_ NB0_309.out _)|exact HI0.out)) hb);clear hb ho126)|(refine goesL_ (some 207) rfl rfl Try.func81 (by kernel_rfl) rfl #[.pointer (some ⟨g,0,none⟩),.int .i64 2] rfl ymd ?_;(with_reducible refine (spec_l20Rd_pick.calls kj49 g s0_0 t339 2 t343 t344 w0 _ ?side1 ?side2 A120.out).mono ?_);(case side1=>repeat (first|(with_reducible first|exact HI0.out|apply IsS86.alloc|apply IsS86.drewN|apply IsS86.drew|apply IsS86.set_1|refine IsS86.far ?_ NB0_281.out _|refine IsS86.far ?_ NB0_309.out _)|exact HI0.out));(case side2=>repeat (first|(with_reducible first|exact HB.out|apply yea|apply yen|apply yed|refine below_set ?_ (IsS86.ge HI0.out)|refine below_set ?_ GE281.out|refine below_set ?_ GE309.out)|exact HB.out));rintro e w127 ⟨rfl,hi,hb,hk⟩;refine ⟨_,rfl,?_⟩;replace HO_310001:=yam (Kd.R_mono (Kd.R_keep (IsS86.apart (show IsS86 w0 _ g s0_0 t339 from by repeat (first|(with_reducible first|exact HI0.out|apply IsS86.alloc|apply IsS86.drewN|apply IsS86.drew|apply IsS86.set_1|refine IsS86.far ?_ NB0_281.out _|refine IsS86.far ?_ NB0_309.out _)|exact HI0.out)) (Kd.Yz HO_310001.out) (by decide)) hk (fun _ h=>h.2)) (fun _ h=>h.1));replace BK281:=yam (KeepBut.blk hk (g':=gb281) (o:= .cells #[.int .i64 0,.slice none 0 0,.int .i64 0] 32 (0,0)) (ybz BK281.out) NB281_0.out (by simp));replace BK309:=yam (KeepBut.blk hk (g':=gb309) (o:= .cells #[.int .i64 x310000_49,u310001,.int .i64 x310002_49] 32 (0,0)) (ybz BK309.out) NB309_0.out (by simp));replace HO342:=yam (Kd.R_mono (Kd.R_keep (IsS86.apart (show IsS86 w0 _ g s0_0 t339 from by repeat (first|(with_reducible first|exact HI0.out|apply IsS86.alloc|apply IsS86.drewN|apply IsS86.drew|apply IsS86.set_1|refine IsS86.far ?_ NB0_281.out _|refine IsS86.far ?_ NB0_309.out _)|exact HI0.out)) (Kd.Yz HO342.out) (by decide)) hk (fun _ h=>h.2)) (fun _ h=>h.1));replace HK:=yam (KeepBut.trans (by repeat (first|(with_reducible first|exact HK.out|apply KeepBut.set_|apply keep_drewN|apply keep_drew|apply keep_alloc|refine keep_far ?_ GW281.out _|refine keep_far ?_ GW309.out _)|exact HK.out)) hk (.inl rfl));replace HB:=yam (hb);replace HI0:=yam (hi);(try clear hb);(try clear hk);(try clear hi);obtain ⟨Ao128,co128,eo128⟩:=Kd.R_slice HO342.out;subst eo128;have p345:0≤(t343:Int):=ydt;have q345:t343 < (y340.length:Int):=ydt;obtain ⟨ad345,e345,hx345_0⟩:=Kd.at_int (Kd.Yr HO342.out).2.2 t343 p345 q345;cases e345;replace p345:=eq_true p345;replace q345:=eq_true q345;have hnb129:=NB309_281.out;have hnc129:=NB281_309.out;have hnb130:=NB309_0.out;have hnc130:=NB0_309.out;obtain ⟨hcz131_0,hcz131_1,hcz131_2,hfz131_0,hfz131_1,hfz131_2⟩:=ybc BK309.out;have hnb132:=NB281_0.out;have hnc132:=NB0_281.out;obtain ⟨hcz133_0,hcz133_1,hcz133_2,hfz133_0,hfz133_1,hfz133_2⟩:=ybc BK281.out;obtain ⟨Ao134,co134,eo134⟩:=Kd.R_slice HO_310001.out;subst eo134))
      refine bodyPost_ret (results_cell_row rfl _ _ gb281 32 #[.int .i64 (rd y340 t343),.slice Ao134 x310001_49.length co134,.int .i64 x310002_49] (0,0) _ rfl (by (with_reducible repeat (first|refine ybn ?_ _|refine ybd ?_|refine yba ?_ _));refine blk_put (cs:= #[.int .i64 (rd y340 t343),.slice Ao134 x310001_49.length co134,.int .i64 0]) ?_ 2 _ rfl;(with_reducible repeat (first|refine ybn ?_ _|refine ybd ?_|refine yba ?_ _));refine blk_put (cs:= #[.int .i64 (rd y340 t343),.slice none 0 0,.int .i64 0]) ?_ 1 _ rfl;(with_reducible repeat (first|refine ybn ?_ _|refine ybd ?_|refine yba ?_ _));refine blk_put (cs:= #[.int .i64 0,.slice none 0 0,.int .i64 0]) ?_ 0 _ rfl;(with_reducible repeat (first|refine ybn ?_ _|refine ybd ?_|refine yba ?_ _));refine blk_far ?_ NB281_309.out _;(with_reducible repeat (first|refine ybn ?_ _|refine ybd ?_|refine yba ?_ _));exact BK281.out) Try.underlying32 rfl (by kernel_rfl)) rfl ?_
      exact ⟨_,by first|rfl|(simp [errW_none,errW_some] <;> rfl)|(simp only [← hji48];first|rfl|(simp [errW_none,errW_some] <;> rfl))|(simp [*,errW_none,errW_some] <;> rfl),by (with_reducible repeat (first|apply Kd.Ya|apply Kd.Yn|apply Kd.Yd));exact Kd.R_mono (Kd.R_far (p:=⟨gb281,2,none⟩) (Kd.R_far (p:=⟨gb281,1,none⟩) (Kd.R_far (p:=⟨gb281,0,none⟩) (Kd.R_far (p:=⟨gb309,0,none⟩) (Kd.R_types (Kd.R_types HO_310001.out BK309.out (by decide)) BK281.out (by decide)) (fun _ hk=>hk.1.2) (.int .i64 (rd y340 t343))) (fun _ hk=>hk.2) (.int .i64 (rd y340 t343))) (fun _ hk=>hk.2) (.slice Ao134 x310001_49.length co134)) (fun _ hk=>hk.2) (.int .i64 x310002_49)) (fun _ hk=>trivial),by repeat (first|(with_reducible first|exact HI0.out|apply IsS86.alloc|apply IsS86.drewN|apply IsS86.drew|apply IsS86.set_1|refine IsS86.far ?_ NB0_281.out _|refine IsS86.far ?_ NB0_309.out _)|exact HI0.out),by repeat (first|(with_reducible first|exact HB.out|apply yea|apply yen|apply yed|refine below_set ?_ (IsS86.ge HI0.out)|refine below_set ?_ GE281.out|refine below_set ?_ GE309.out)|exact HB.out),by repeat (first|(with_reducible first|exact HK.out|apply KeepBut.set_|apply keep_drewN|apply keep_drew|apply keep_alloc|refine keep_far ?_ GW281.out _|refine keep_far ?_ GW309.out _)|exact HK.out)⟩
     have c119b0:(t338 == 0)=false:=beq_eq_false_iff_ne.mpr c119
     have c119b1:(t338 != 0)=true:=bne_iff_ne.mpr c119
     replace H:=yit H;obtain ⟨c135,H⟩ | ⟨c135,H⟩:=H
     rotate_left
     ·have c135b0:(t338 == 1)=false:=beq_eq_false_iff_ne.mpr c135
      have c135b1:(t338 != 1)=true:=bne_iff_ne.mpr c135
      replace H:=yit H;obtain ⟨c158,H⟩ | ⟨c158,H⟩:=H
      ·have c158b0:(t338 == 2)=true:=beq_iff_eq.mpr c158
       have c158b1:(t338 != 2)=false:=bne_eq_false_iff_eq.mpr c158
       clear c158
       obtain ⟨y359,Ny359⟩:∃ y_:List Int,Aside0 (y_=(([wrap64 (a2 * a2),0]:List Int))):=⟨_,⟨rfl⟩⟩
       replace H:(some (x310000_49,y359,x310002_49,t339))=some (r1,r2,r3,r4):=yhn Ny359.out H
       simp only [Option.some.injEq,Prod.mk.injEq] at H
       obtain ⟨rfl,rfl,rfl,rfl⟩:=H
       go_wp2_with (first|(refine goesL_ (some 194) rfl rfl Try.func68 (by kernel_rfl) rfl #[.pointer (some ⟨g,0,none⟩),.int .i64 a3] rfl ymd ?_;(with_reducible refine (spec_l20Rd_odd.calls kj49 g s0_0 t311 a3 true t337 w0 _ ?side1 ?side2 A116.out).mono ?_);(case side1=>repeat (first|(with_reducible first|exact HI0.out|apply IsS86.alloc|apply IsS86.drewN|apply IsS86.drew|apply IsS86.set_1|refine IsS86.far ?_ NB0_281.out _|refine IsS86.far ?_ NB0_309.out _)|exact HI0.out));(case side2=>repeat (first|(with_reducible first|exact HB.out|apply yea|apply yen|apply yed|refine below_set ?_ (IsS86.ge HI0.out)|refine below_set ?_ GE281.out|refine below_set ?_ GE309.out)|exact HB.out));rintro e w159 ⟨rfl,hi,hb,hk⟩;refine ⟨_,rfl,?_⟩;replace HO_310001:=yam (Kd.R_mono (Kd.R_keep (IsS86.apart (show IsS86 w0 _ g s0_0 t311 from by repeat (first|(with_reducible first|exact HI0.out|apply IsS86.alloc|apply IsS86.drewN|apply IsS86.drew|apply IsS86.set_1|refine IsS86.far ?_ NB0_281.out _|refine IsS86.far ?_ NB0_309.out _)|exact HI0.out)) (Kd.Yz HO_310001.out) (by decide)) hk (fun _ h=>h.2)) (fun _ h=>h.1));replace BK281:=yam (KeepBut.blk hk (g':=gb281) (o:= .cells #[.int .i64 0,.slice none 0 0,.int .i64 0] 32 (0,0)) (ybz BK281.out) NB281_0.out (by simp));replace BK309:=yam (KeepBut.blk hk (g':=gb309) (o:= .cells #[.int .i64 x310000_49,u310001,.int .i64 x310002_49] 32 (0,0)) (ybz BK309.out) NB309_0.out (by simp));replace HK:=yam (KeepBut.trans (by repeat (first|(with_reducible first|exact HK.out|apply KeepBut.set_|apply keep_drewN|apply keep_drew|apply keep_alloc|refine keep_far ?_ GW281.out _|refine keep_far ?_ GW309.out _)|exact HK.out)) hk (.inl rfl));replace HB:=yam (hb);replace HI0:=yam (hi);(try clear hb);(try clear hk);(try clear hi))|(refine goesL_ (some 196) rfl rfl Try.func81 (by kernel_rfl) rfl #[.pointer (some ⟨g,0,none⟩),.int .i64 4] rfl ymd ?_;(with_reducible refine (spec_l20Rd_pick.calls kj49 g s0_0 t337 4 t338 t339 w0 _ ?side1 ?side2 A118.out).mono ?_);(case side1=>repeat (first|(with_reducible first|exact HI0.out|apply IsS86.alloc|apply IsS86.drewN|apply IsS86.drew|apply IsS86.set_1|refine IsS86.far ?_ NB0_281.out _|refine IsS86.far ?_ NB0_309.out _)|exact HI0.out));(case side2=>repeat (first|(with_reducible first|exact HB.out|apply yea|apply yen|apply yed|refine below_set ?_ (IsS86.ge HI0.out)|refine below_set ?_ GE281.out|refine below_set ?_ GE309.out)|exact HB.out));rintro e w160 ⟨rfl,hi,hb,hk⟩;refine ⟨_,rfl,?_⟩;replace HO_310001:=yam (Kd.R_mono (Kd.R_keep (IsS86.apart (show IsS86 w0 _ g s0_0 t337 from by repeat (first|(with_reducible first|exact HI0.out|apply IsS86.alloc|apply IsS86.drewN|apply IsS86.drew|apply IsS86.set_1|refine IsS86.far ?_ NB0_281.out _|refine IsS86.far ?_ NB0_309.out _)|exact HI0.out)) (Kd.Yz HO_310001.out) (by decide)) hk (fun _ h=>h.2)) (fun _ h=>h.1));replace BK281:=yam (KeepBut.blk hk (g':=gb281) (o:= .cells #[.int .i64 0,.slice none 0 0,.int .i64 0] 32 (0,0)) (ybz BK281.out) NB281_0.out (by simp));replace BK309:=yam (KeepBut.blk hk (g':=gb309) (o:= .cells #[.int .i64 x310000_49,u310001,.int .i64 x310002_49] 32 (0,0)) (ybz BK309.out) NB309_0.out (by simp));replace HK:=yam (KeepBut.trans (by repeat (first|(with_reducible first|exact HK.out|apply KeepBut.set_|apply keep_drewN|apply keep_drew|apply keep_alloc|refine keep_far ?_ GW281.out _|refine keep_far ?_ GW309.out _)|exact HK.out)) hk (.inl rfl));replace HB:=yam (hb);replace HI0:=yam (hi);(try clear hb);(try clear hk);(try clear hi))|((with_reducible refine gate_dst (N:=229) rfl ?_);(try (refine gate_guard (by rfl) ?_;dsimp only));refine Kd.R_lit (Kd.int .i64) _ 3 ?hg (N:=229) ?hd (xs:=([wrap64 (a2 * a2),0]:List Int)) (inner:=[.int .i64 (wrap64 (a2 * a2)),.int .i64 0]) (ok:=fun _=>True) (okp:=fun _=>True) ?hr ?hp (fun _ hk=>hk) trivial (Below.refl _ _) (Nat.le_refl _) (by simp) ?_;(case hd=>rfl);(case hg=>rfl);(case hr=>first|(go_simp;done)|(go_simp;rfl));(case hp=>exact (Reps.one (show Kd.M (Kd.int .i64) _ _ _ (wrap64 (a2 * a2)) [.int .i64 (wrap64 (a2 * a2))] from rfl) (Reps.one (show Kd.M (Kd.int .i64) _ _ _ 0 [.int .i64 0] from rfl) (Reps.none _ _))));intro v360 w161 ho162 hb hg_ hnew_;clear hg_ hnew_;(first|rw [← Ny359.out] at ho162|(simp only [Int.reduceToNat] at ho162;rw [← Ny359.out] at ho162));have HO361:=yam (Kd.R_lower (Kd.Yw ho162 (Kd.R_lt (Kd.Yz HO_310001.out))) (keep_size (w:=w) (g:=g) (row:=none) (by repeat (first|(with_reducible first|exact HK.out|apply KeepBut.set_|apply keep_drewN|apply keep_drew|apply keep_alloc|refine keep_far ?_ GW281.out _|refine keep_far ?_ GW309.out _)|exact HK.out))));replace HO_310001:=yam (Kd.Ye (Kd.Yz HO_310001.out) (Kd.Yb ho162) hb);replace BK281:=yam (ybb BK281.out hb);replace BK309:=yam (ybb BK309.out hb);replace HK:=yam (KeepBut.trans (by repeat (first|(with_reducible first|exact HK.out|apply KeepBut.set_|apply keep_drewN|apply keep_drew|apply keep_alloc|refine keep_far ?_ GW281.out _|refine keep_far ?_ GW309.out _)|exact HK.out)) (KeepBut.of_below hb g none) (.inl rfl));replace HB:=yam (below_step (by repeat (first|(with_reducible first|exact HB.out|apply yea|apply yen|apply yed|refine below_set ?_ (IsS86.ge HI0.out)|refine below_set ?_ GE281.out|refine below_set ?_ GE309.out)|exact HB.out)) hb);replace HI0:=yam (IsS86.below (by repeat (first|(with_reducible first|exact HI0.out|apply IsS86.alloc|apply IsS86.drewN|apply IsS86.drew|apply IsS86.set_1|refine IsS86.far ?_ NB0_281.out _|refine IsS86.far ?_ NB0_309.out _)|exact HI0.out)) hb);clear hb ho162;obtain ⟨Ao163,co163,eo163⟩:=Kd.R_slice HO361.out;subst eo163;have hnb164:=NB309_281.out;have hnc164:=NB281_309.out;have hnb165:=NB309_0.out;have hnc165:=NB0_309.out;obtain ⟨hcz166_0,hcz166_1,hcz166_2,hfz166_0,hfz166_1,hfz166_2⟩:=ybc BK309.out;have hnb167:=NB281_0.out;have hnc167:=NB0_281.out;obtain ⟨hcz168_0,hcz168_1,hcz168_2,hfz168_0,hfz168_1,hfz168_2⟩:=ybc BK281.out))
       refine bodyPost_ret (results_cell_row rfl _ _ gb281 32 #[.int .i64 x310000_49,.slice Ao163 y359.length co163,.int .i64 x310002_49] (0,0) _ rfl (by (with_reducible repeat (first|refine ybn ?_ _|refine ybd ?_|refine yba ?_ _));refine blk_put (cs:= #[.int .i64 x310000_49,.slice Ao163 y359.length co163,.int .i64 0]) ?_ 2 _ rfl;(with_reducible repeat (first|refine ybn ?_ _|refine ybd ?_|refine yba ?_ _));refine blk_put (cs:= #[.int .i64 x310000_49,.slice none 0 0,.int .i64 0]) ?_ 1 _ rfl;(with_reducible repeat (first|refine ybn ?_ _|refine ybd ?_|refine yba ?_ _));refine blk_put (cs:= #[.int .i64 0,.slice none 0 0,.int .i64 0]) ?_ 0 _ rfl;(with_reducible repeat (first|refine ybn ?_ _|refine ybd ?_|refine yba ?_ _));refine blk_far ?_ NB281_309.out _;(with_reducible repeat (first|refine ybn ?_ _|refine ybd ?_|refine yba ?_ _));exact BK281.out) Try.underlying32 rfl (by kernel_rfl)) rfl ?_
       exact ⟨_,by first|rfl|(simp [errW_none,errW_some] <;> rfl)|(simp only [← hji48];first|rfl|(simp [errW_none,errW_some] <;> rfl))|(simp [*,errW_none,errW_some] <;> rfl),by (with_reducible repeat (first|apply Kd.Ya|apply Kd.Yn|apply Kd.Yd));exact Kd.R_mono (Kd.R_far (p:=⟨gb281,2,none⟩) (Kd.R_far (p:=⟨gb281,1,none⟩) (Kd.R_far (p:=⟨gb281,0,none⟩) (Kd.R_far (p:=⟨gb309,1,none⟩) (Kd.R_types (Kd.R_types HO361.out BK309.out (by decide)) BK281.out (by decide)) (fun _ hk=>hk.1.2) (.slice Ao163 y359.length co163)) (fun _ hk=>hk.2) (.int .i64 x310000_49)) (fun _ hk=>hk.2) (.slice Ao163 y359.length co163)) (fun _ hk=>hk.2) (.int .i64 x310002_49)) (fun _ hk=>trivial),by repeat (first|(with_reducible first|exact HI0.out|apply IsS86.alloc|apply IsS86.drewN|apply IsS86.drew|apply IsS86.set_1|refine IsS86.far ?_ NB0_281.out _|refine IsS86.far ?_ NB0_309.out _)|exact HI0.out),by repeat (first|(with_reducible first|exact HB.out|apply yea|apply yen|apply yed|refine below_set ?_ (IsS86.ge HI0.out)|refine below_set ?_ GE281.out|refine below_set ?_ GE309.out)|exact HB.out),by repeat (first|(with_reducible first|exact HK.out|apply KeepBut.set_|apply keep_drewN|apply keep_drew|apply keep_alloc|refine keep_far ?_ GW281.out _|refine keep_far ?_ GW309.out _)|exact HK.out)⟩
      have c158b0:(t338 == 2)=false:=beq_eq_false_iff_ne.mpr c158
      have c158b1:(t338 != 2)=true:=bne_iff_ne.mpr c158
      obtain ⟨y362,Ny362⟩:∃ y_:List Int,Aside0 (y_=(([(-1),257]:List Int))):=⟨_,⟨rfl⟩⟩
      replace H:((spec_l20Rd_pick.f kj49 s0_0 t339 2).bind fun bt365=>(if 0≤bt365.1 then (if bt365.1 < (y362.length:Int) then (some (x310000_49,x310001_49,rd y362 bt365.1,bt365.2)) else (none)) else (none)))=some (r1,r2,r3,r4):=yhn Ny362.out H
      replace H:=ybi H;obtain ⟨⟨t365,t366⟩,A169,H⟩:=H
      replace H:(if 0≤t365 then (if t365 < (y362.length:Int) then (some (x310000_49,x310001_49,rd y362 t365,t366)) else (none)) else (none))=some (r1,r2,r3,r4):=H
      replace H:=yif H;obtain ⟨c170b0,H⟩:=H
      replace H:=yif H;obtain ⟨c171b0,H⟩:=H
      simp only [Option.some.injEq,Prod.mk.injEq] at H
      obtain ⟨rfl,rfl,rfl,rfl⟩:=H
      go_wp2_with (first|(refine goesL_ (some 194) rfl rfl Try.func68 (by kernel_rfl) rfl #[.pointer (some ⟨g,0,none⟩),.int .i64 a3] rfl ymd ?_;(with_reducible refine (spec_l20Rd_odd.calls kj49 g s0_0 t311 a3 true t337 w0 _ ?side1 ?side2 A116.out).mono ?_);(case side1=>repeat (first|(with_reducible first|exact HI0.out|apply IsS86.alloc|apply IsS86.drewN|apply IsS86.drew|apply IsS86.set_1|refine IsS86.far ?_ NB0_281.out _|refine IsS86.far ?_ NB0_309.out _)|exact HI0.out));(case side2=>repeat (first|(with_reducible first|exact HB.out|apply yea|apply yen|apply yed|refine below_set ?_ (IsS86.ge HI0.out)|refine below_set ?_ GE281.out|refine below_set ?_ GE309.out)|exact HB.out));rintro e w172 ⟨rfl,hi,hb,hk⟩;refine ⟨_,rfl,?_⟩;replace HO_310001:=yam (Kd.R_mono (Kd.R_keep (IsS86.apart (show IsS86 w0 _ g s0_0 t311 from by repeat (first|(with_reducible first|exact HI0.out|apply IsS86.alloc|apply IsS86.drewN|apply IsS86.drew|apply IsS86.set_1|refine IsS86.far ?_ NB0_281.out _|refine IsS86.far ?_ NB0_309.out _)|exact HI0.out)) (Kd.Yz HO_310001.out) (by decide)) hk (fun _ h=>h.2)) (fun _ h=>h.1));replace BK281:=yam (KeepBut.blk hk (g':=gb281) (o:= .cells #[.int .i64 0,.slice none 0 0,.int .i64 0] 32 (0,0)) (ybz BK281.out) NB281_0.out (by simp));replace BK309:=yam (KeepBut.blk hk (g':=gb309) (o:= .cells #[.int .i64 x310000_49,u310001,.int .i64 x310002_49] 32 (0,0)) (ybz BK309.out) NB309_0.out (by simp));replace HK:=yam (KeepBut.trans (by repeat (first|(with_reducible first|exact HK.out|apply KeepBut.set_|apply keep_drewN|apply keep_drew|apply keep_alloc|refine keep_far ?_ GW281.out _|refine keep_far ?_ GW309.out _)|exact HK.out)) hk (.inl rfl));replace HB:=yam (hb);replace HI0:=yam (hi);(try clear hb);(try clear hk);(try clear hi))|(refine goesL_ (some 196) rfl rfl Try.func81 (by kernel_rfl) rfl #[.pointer (some ⟨g,0,none⟩),.int .i64 4] rfl ymd ?_;(with_reducible refine (spec_l20Rd_pick.calls kj49 g s0_0 t337 4 t338 t339 w0 _ ?side1 ?side2 A118.out).mono ?_);(case side1=>repeat (first|(with_reducible first|exact HI0.out|apply IsS86.alloc|apply IsS86.drewN|apply IsS86.drew|apply IsS86.set_1|refine IsS86.far ?_ NB0_281.out _|refine IsS86.far ?_ NB0_309.out _)|exact HI0.out));(case side2=>repeat (first|(with_reducible first|exact HB.out|apply yea|apply yen|apply yed|refine below_set ?_ (IsS86.ge HI0.out)|refine below_set ?_ GE281.out|refine below_set ?_ GE309.out)|exact HB.out));rintro e w173 ⟨rfl,hi,hb,hk⟩;refine ⟨_,rfl,?_⟩;replace HO_310001:=yam (Kd.R_mono (Kd.R_keep (IsS86.apart (show IsS86 w0 _ g s0_0 t337 from by repeat (first|(with_reducible first|exact HI0.out|apply IsS86.alloc|apply IsS86.drewN|apply IsS86.drew|apply IsS86.set_1|refine IsS86.far ?_ NB0_281.out _|refine IsS86.far ?_ NB0_309.out _)|exact HI0.out)) (Kd.Yz HO_310001.out) (by decide)) hk (fun _ h=>h.2)) (fun _ h=>h.1));replace BK281:=yam (KeepBut.blk hk (g':=gb281) (o:= .cells #[.int .i64 0,.slice none 0 0,.int .i64 0] 32 (0,0)) (ybz BK281.out) NB281_0.out (by simp));replace BK309:=yam (KeepBut.blk hk (g':=gb309) (o:= .cells #[.int .i64 x310000_49,u310001,.int .i64 x310002_49] 32 (0,0)) (ybz BK309.out) NB309_0.out (by simp));replace HK:=yam (KeepBut.trans (by repeat (first|(with_reducible first|exact HK.out|apply KeepBut.set_|apply keep_drewN|apply keep_drew|apply keep_alloc|refine keep_far ?_ GW281.out _|refine keep_far ?_ GW309.out _)|exact HK.out)) hk (.inl rfl));replace HB:=yam (hb);replace HI0:=yam (hi);(try clear hb);(try clear hk);(try clear hi))|((with_reducible refine gate_dst (N:=197) rfl ?_);(try (refine gate_guard (by rfl) ?_;dsimp only));refine Kd.R_lit (Kd.int .i64) _ 3 ?hg (N:=197) ?hd (xs:=([(-1),257]:List Int)) (inner:=[.int .i64 (-1),.int .i64 257]) (ok:=fun _=>True) (okp:=fun _=>True) ?hr ?hp (fun _ hk=>hk) trivial (Below.refl _ _) (Nat.le_refl _) (by simp) ?_;(case hd=>rfl);(case hg=>rfl);(case hr=>first|(go_simp;done)|(go_simp;rfl));(case hp=>exact (Reps.one (show Kd.M (Kd.int .i64) _ _ _ (-1) [.int .i64 (-1)] from rfl) (Reps.one (show Kd.M (Kd.int .i64) _ _ _ 257 [.int .i64 257] from rfl) (Reps.none _ _))));intro v363 w174 ho175 hb hg_ hnew_;clear hg_ hnew_;(first|rw [← Ny362.out] at ho175|(simp only [Int.reduceToNat] at ho175;rw [← Ny362.out] at ho175));have HO364:=yam (Kd.R_lower (Kd.Yw ho175 (Kd.R_lt (Kd.Yz HO_310001.out))) (keep_size (w:=w) (g:=g) (row:=none) (by repeat (first|(with_reducible first|exact HK.out|apply KeepBut.set_|apply keep_drewN|apply keep_drew|apply keep_alloc|refine keep_far ?_ GW281.out _|refine keep_far ?_ GW309.out _)|exact HK.out))));replace HO_310001:=yam (Kd.Ye (Kd.Yz HO_310001.out) (Kd.Yb ho175) hb);replace BK281:=yam (ybb BK281.out hb);replace BK309:=yam (ybb BK309.out hb);replace HK:=yam (KeepBut.trans (by repeat (first|(with_reducible first|exact HK.out|apply KeepBut.set_|apply keep_drewN|apply keep_drew|apply keep_alloc|refine keep_far ?_ GW281.out _|refine keep_far ?_ GW309.out _)|exact HK.out)) (KeepBut.of_below hb g none) (.inl rfl));replace HB:=yam (below_step (by repeat (first|(with_reducible first|exact HB.out|apply yea|apply yen|apply yed|refine below_set ?_ (IsS86.ge HI0.out)|refine below_set ?_ GE281.out|refine below_set ?_ GE309.out)|exact HB.out)) hb);replace HI0:=yam (IsS86.below (by repeat (first|(with_reducible first|exact HI0.out|apply IsS86.alloc|apply IsS86.drewN|apply IsS86.drew|apply IsS86.set_1|refine IsS86.far ?_ NB0_281.out _|refine IsS86.far ?_ NB0_309.out _)|exact HI0.out)) hb);clear hb ho175)|(refine goesL_ (some 199) rfl rfl Try.func81 (by kernel_rfl) rfl #[.pointer (some ⟨g,0,none⟩),.int .i64 2] rfl ymd ?_;(with_reducible refine (spec_l20Rd_pick.calls kj49 g s0_0 t339 2 t365 t366 w0 _ ?side1 ?side2 A169.out).mono ?_);(case side1=>repeat (first|(with_reducible first|exact HI0.out|apply IsS86.alloc|apply IsS86.drewN|apply IsS86.drew|apply IsS86.set_1|refine IsS86.far ?_ NB0_281.out _|refine IsS86.far ?_ NB0_309.out _)|exact HI0.out));(case side2=>repeat (first|(with_reducible first|exact HB.out|apply yea|apply yen|apply yed|refine below_set ?_ (IsS86.ge HI0.out)|refine below_set ?_ GE281.out|refine below_set ?_ GE309.out)|exact HB.out));rintro e w176 ⟨rfl,hi,hb,hk⟩;refine ⟨_,rfl,?_⟩;replace HO_310001:=yam (Kd.R_mono (Kd.R_keep (IsS86.apart (show IsS86 w0 _ g s0_0 t339 from by repeat (first|(with_reducible first|exact HI0.out|apply IsS86.alloc|apply IsS86.drewN|apply IsS86.drew|apply IsS86.set_1|refine IsS86.far ?_ NB0_281.out _|refine IsS86.far ?_ NB0_309.out _)|exact HI0.out)) (Kd.Yz HO_310001.out) (by decide)) hk (fun _ h=>h.2)) (fun _ h=>h.1));replace BK281:=yam (KeepBut.blk hk (g':=gb281) (o:= .cells #[.int .i64 0,.slice none 0 0,.int .i64 0] 32 (0,0)) (ybz BK281.out) NB281_0.out (by simp));replace BK309:=yam (KeepBut.blk hk (g':=gb309) (o:= .cells #[.int .i64 x310000_49,u310001,.int .i64 x310002_49] 32 (0,0)) (ybz BK309.out) NB309_0.out (by simp));replace HO364:=yam (Kd.R_mono (Kd.R_keep (IsS86.apart (show IsS86 w0 _ g s0_0 t339 from by repeat (first|(with_reducible first|exact HI0.out|apply IsS86.alloc|apply IsS86.drewN|apply IsS86.drew|apply IsS86.set_1|refine IsS86.far ?_ NB0_281.out _|refine IsS86.far ?_ NB0_309.out _)|exact HI0.out)) (Kd.Yz HO364.out) (by decide)) hk (fun _ h=>h.2)) (fun _ h=>h.1));replace HK:=yam (KeepBut.trans (by repeat (first|(with_reducible first|exact HK.out|apply KeepBut.set_|apply keep_drewN|apply keep_drew|apply keep_alloc|refine keep_far ?_ GW281.out _|refine keep_far ?_ GW309.out _)|exact HK.out)) hk (.inl rfl));replace HB:=yam (hb);replace HI0:=yam (hi);(try clear hb);(try clear hk);(try clear hi);obtain ⟨Ao177,co177,eo177⟩:=Kd.R_slice HO364.out;subst eo177;have p367:0≤(t365:Int):=ydt;have q367:t365 < (y362.length:Int):=ydt;obtain ⟨ad367,e367,hx367_0⟩:=Kd.at_int (Kd.Yr HO364.out).2.2 t365 p367 q367;cases e367;replace p367:=eq_true p367;replace q367:=eq_true q367;have hnb178:=NB309_281.out;have hnc178:=NB281_309.out;have hnb179:=NB309_0.out;have hnc179:=NB0_309.out;obtain ⟨hcz180_0,hcz180_1,hcz180_2,hfz180_0,hfz180_1,hfz180_2⟩:=ybc BK309.out;have hnb181:=NB281_0.out;have hnc181:=NB0_281.out;obtain ⟨hcz182_0,hcz182_1,hcz182_2,hfz182_0,hfz182_1,hfz182_2⟩:=ybc BK281.out;obtain ⟨Ao183,co183,eo183⟩:=Kd.R_slice HO_310001.out;subst eo183))
      refine bodyPost_ret (results_cell_row rfl _ _ gb281 32 #[.int .i64 x310000_49,.slice Ao183 x310001_49.length co183,.int .i64 (rd y362 t365)] (0,0) _ rfl (by (with_reducible repeat (first|refine ybn ?_ _|refine ybd ?_|refine yba ?_ _));refine blk_put (cs:= #[.int .i64 x310000_49,.slice Ao183 x310001_49.length co183,.int .i64 0]) ?_ 2 _ rfl;(with_reducible repeat (first|refine ybn ?_ _|refine ybd ?_|refine yba ?_ _));refine blk_put (cs:= #[.int .i64 x310000_49,.slice none 0 0,.int .i64 0]) ?_ 1 _ rfl;(with_reducible repeat (first|refine ybn ?_ _|refine ybd ?_|refine yba ?_ _));refine blk_put (cs:= #[.int .i64 0,.slice none 0 0,.int .i64 0]) ?_ 0 _ rfl;(with_reducible repeat (first|refine ybn ?_ _|refine ybd ?_|refine yba ?_ _));refine blk_far ?_ NB281_309.out _;(with_reducible repeat (first|refine ybn ?_ _|refine ybd ?_|refine yba ?_ _));exact BK281.out) Try.underlying32 rfl (by kernel_rfl)) rfl ?_
      exact ⟨_,by first|rfl|(simp [errW_none,errW_some] <;> rfl)|(simp only [← hji48];first|rfl|(simp [errW_none,errW_some] <;> rfl))|(simp [*,errW_none,errW_some] <;> rfl),by (with_reducible repeat (first|apply Kd.Ya|apply Kd.Yn|apply Kd.Yd));exact Kd.R_mono (Kd.R_far (p:=⟨gb281,2,none⟩) (Kd.R_far (p:=⟨gb281,1,none⟩) (Kd.R_far (p:=⟨gb281,0,none⟩) (Kd.R_far (p:=⟨gb309,2,none⟩) (Kd.R_types (Kd.R_types HO_310001.out BK309.out (by decide)) BK281.out (by decide)) (fun _ hk=>hk.1.2) (.int .i64 (rd y362 t365))) (fun _ hk=>hk.2) (.int .i64 x310000_49)) (fun _ hk=>hk.2) (.slice Ao183 x310001_49.length co183)) (fun _ hk=>hk.2) (.int .i64 (rd y362 t365))) (fun _ hk=>trivial),by repeat (first|(with_reducible first|exact HI0.out|apply IsS86.alloc|apply IsS86.drewN|apply IsS86.drew|apply IsS86.set_1|refine IsS86.far ?_ NB0_281.out _|refine IsS86.far ?_ NB0_309.out _)|exact HI0.out),by repeat (first|(with_reducible first|exact HB.out|apply yea|apply yen|apply yed|refine below_set ?_ (IsS86.ge HI0.out)|refine below_set ?_ GE281.out|refine below_set ?_ GE309.out)|exact HB.out),by repeat (first|(with_reducible first|exact HK.out|apply KeepBut.set_|apply keep_drewN|apply keep_drew|apply keep_alloc|refine keep_far ?_ GW281.out _|refine keep_far ?_ GW309.out _)|exact HK.out)⟩
     have c135b0:(t338 == 1)=true:=beq_iff_eq.mpr c135
     have c135b1:(t338 != 1)=false:=bne_eq_false_iff_eq.mpr c135
     clear c135
     obtain ⟨y346,Ny346⟩:∃ y_:List Int,Aside0 (y_=(([]:List Int))):=⟨_,⟨rfl⟩⟩
     replace H:(if y346.length + x310001_49.length < 17592186044416 then ((some (y346 ++ x310001_49:List Int)).bind fun y349=>(if 0 < (x310001_49.length:Int) then ((some (([rd x310001_49 0]:List Int):List Int)).bind fun y353=>(if y349.length + y353.length < 17592186044416 then (some (x310000_49,(y349 ++ y353),x310002_49,t339)) else (none))) else (none))) else (none))=some (r1,r2,r3,r4):=yhn Ny346.out H
     replace H:=yig H;obtain ⟨c136,H⟩:=H
     have LMc136:=yam c136
     clear c136
     obtain ⟨y349,Ny349⟩:∃ y_:List Int,Aside0 (y_=(y346 ++ x310001_49)):=⟨_,⟨rfl⟩⟩
     replace H:(if 0 < (x310001_49.length:Int) then ((some (([rd x310001_49 0]:List Int):List Int)).bind fun y353=>(if y349.length + y353.length < 17592186044416 then (some (x310000_49,(y349 ++ y353),x310002_49,t339)) else (none))) else (none))=some (r1,r2,r3,r4):=yhn Ny349.out H
     replace H:=yig H;obtain ⟨c137,H⟩:=H
     have c137b0:decide (0 < (x310001_49.length:Int))=true:=decide_eq_true c137
     have c137b1:decide (0 < x310001_49.length)=true:=decide_eq_true (by omega)
     clear c137
     obtain ⟨y353,Ny353⟩:∃ y_:List Int,Aside0 (y_=(([rd x310001_49 0]:List Int))):=⟨_,⟨rfl⟩⟩
     replace H:(if y349.length + y353.length < 17592186044416 then (some (x310000_49,(y349 ++ y353),x310002_49,t339)) else (none))=some (r1,r2,r3,r4):=yhn Ny353.out H
     replace H:=yig H;obtain ⟨c138,H⟩:=H
     have LMc138:=yam c138
     clear c138
     obtain ⟨y356,Ny356⟩:∃ y_:List Int,Aside0 (y_=(y349 ++ y353)):=⟨_,⟨rfl⟩⟩
     replace H:(some (x310000_49,y356,x310002_49,t339))=some (r1,r2,r3,r4):=yhn Ny356.out H
     simp only [Option.some.injEq,Prod.mk.injEq] at H
     obtain ⟨rfl,rfl,rfl,rfl⟩:=H
     try go_wp2_with (first|(refine goesL_ (some 194) rfl rfl Try.func68 (by kernel_rfl) rfl #[.pointer (some ⟨g,0,none⟩),.int .i64 a3] rfl ymd ?_;(with_reducible refine (spec_l20Rd_odd.calls kj49 g s0_0 t311 a3 true t337 w0 _ ?side1 ?side2 A116.out).mono ?_);(case side1=>repeat (first|(with_reducible first|exact HI0.out|apply IsS86.alloc|apply IsS86.drewN|apply IsS86.drew|apply IsS86.set_1|refine IsS86.far ?_ NB0_281.out _|refine IsS86.far ?_ NB0_309.out _)|exact HI0.out));(case side2=>repeat (first|(with_reducible first|exact HB.out|apply yea|apply yen|apply yed|refine below_set ?_ (IsS86.ge HI0.out)|refine below_set ?_ GE281.out|refine below_set ?_ GE309.out)|exact HB.out));rintro e w139 ⟨rfl,hi,hb,hk⟩;refine ⟨_,rfl,?_⟩;replace HO_310001:=yam (Kd.R_mono (Kd.R_keep (IsS86.apart (show IsS86 w0 _ g s0_0 t311 from by repeat (first|(with_reducible first|exact HI0.out|apply IsS86.alloc|apply IsS86.drewN|apply IsS86.drew|apply IsS86.set_1|refine IsS86.far ?_ NB0_281.out _|refine IsS86.far ?_ NB0_309.out _)|exact HI0.out)) (Kd.Yz HO_310001.out) (by decide)) hk (fun _ h=>h.2)) (fun _ h=>h.1));replace BK281:=yam (KeepBut.blk hk (g':=gb281) (o:= .cells #[.int .i64 0,.slice none 0 0,.int .i64 0] 32 (0,0)) (ybz BK281.out) NB281_0.out (by simp));replace BK309:=yam (KeepBut.blk hk (g':=gb309) (o:= .cells #[.int .i64 x310000_49,u310001,.int .i64 x310002_49] 32 (0,0)) (ybz BK309.out) NB309_0.out (by simp));replace HK:=yam (KeepBut.trans (by repeat (first|(with_reducible first|exact HK.out|apply KeepBut.set_|apply keep_drewN|apply keep_drew|apply keep_alloc|refine keep_far ?_ GW281.out _|refine keep_far ?_ GW309.out _)|exact HK.out)) hk (.inl rfl));replace HB:=yam (hb);replace HI0:=yam (hi);(try clear hb);(try clear hk);(try clear hi))|(refine goesL_ (some 196) rfl rfl Try.func81 (by kernel_rfl) rfl #[.pointer (some ⟨g,0,none⟩),.int .i64 4] rfl ymd ?_;(with_reducible refine (spec_l20Rd_pick.calls kj49 g s0_0 t337 4 t338 t339 w0 _ ?side1 ?side2 A118.out).mono ?_);(case side1=>repeat (first|(with_reducible first|exact HI0.out|apply IsS86.alloc|apply IsS86.drewN|apply IsS86.drew|apply IsS86.set_1|refine IsS86.far ?_ NB0_281.out _|refine IsS86.far ?_ NB0_309.out _)|exact HI0.out));(case side2=>repeat (first|(with_reducible first|exact HB.out|apply yea|apply yen|apply yed|refine below_set ?_ (IsS86.ge HI0.out)|refine below_set ?_ GE281.out|refine below_set ?_ GE309.out)|exact HB.out));rintro e w140 ⟨rfl,hi,hb,hk⟩;refine ⟨_,rfl,?_⟩;replace HO_310001:=yam (Kd.R_mono (Kd.R_keep (IsS86.apart (show IsS86 w0 _ g s0_0 t337 from by repeat (first|(with_reducible first|exact HI0.out|apply IsS86.alloc|apply IsS86.drewN|apply IsS86.drew|apply IsS86.set_1|refine IsS86.far ?_ NB0_281.out _|refine IsS86.far ?_ NB0_309.out _)|exact HI0.out)) (Kd.Yz HO_310001.out) (by decide)) hk (fun _ h=>h.2)) (fun _ h=>h.1));replace BK281:=yam (KeepBut.blk hk (g':=gb281) (o:= .cells #[.int .i64 0,.slice none 0 0,.int .i64 0] 32 (0,0)) (ybz BK281.out) NB281_0.out (by simp));replace BK309:=yam (KeepBut.blk hk (g':=gb309) (o:= .cells #[.int .i64 x310000_49,u310001,.int .i64 x310002_49] 32 (0,0)) (ybz BK309.out) NB309_0.out (by simp));replace HK:=yam (KeepBut.trans (by repeat (first|(with_reducible first|exact HK.out|apply KeepBut.set_|apply keep_drewN|apply keep_drew|apply keep_alloc|refine keep_far ?_ GW281.out _|refine keep_far ?_ GW309.out _)|exact HK.out)) hk (.inl rfl));replace HB:=yam (hb);replace HI0:=yam (hi);(try clear hb);(try clear hk);(try clear hi);obtain ⟨Ao141,co141,eo141⟩:=Kd.R_slice HO_310001.out;subst eo141))
     replace HO_310001:=yam (Kd.Yd HO_310001.out)
     replace BK281:=yam (ybd BK281.out)
     replace BK309:=yam (ybd BK309.out)
     replace HI0:=yam (IsS86.drew HI0.out)
     replace HK:=yam (keep_drew HK.out)
     replace HB:=yam (yed HB.out)
     have p352:0≤(0:Int):=(by omega)
     have q352:0 < (x310001_49.length:Int):=ydt
     obtain ⟨ad352,e352,hx352_0⟩:=Kd.at_int (Kd.Yr HO_310001.out).2.2 0 p352 q352
     cases e352
     have qi352:(0 < x310001_49.length)=True:=eq_true (by omega)
     (try rw [show ((0:Int)).toNat=0 from rfl] at hx352_0)
     (try rw [Addr.add_zero'] at hx352_0)
     replace p352:=eq_true p352
     replace q352:=eq_true q352
     refine start_ (n:=12) (S:=fun w'=>w'.cell? ⟨gb309,0,none⟩=some (.int .i64 x310000_49)∧w'.cell? ⟨gb309,1,none⟩=some (.slice (some ad352) x310001_49.length co141)∧w'.cell? ⟨gb309,2,none⟩=some (.int .i64 x310002_49)∧w'.cell? ad352=some (.int .i64 (rd x310001_49 0))) (ds:=[11]) (yvb 12 0) (by kernel_rfl) rfl rfl ⟨(blk_cell BK309.out 0).trans rfl,(blk_cell BK309.out 1).trans rfl,(blk_cell BK309.out 2).trans rfl,hx352_0⟩ (fun hHeld=>?_);refine with_tabW spec_l20Rule.tab43 spec_l20Rule.bits43 (fun HT_ HW_=>?_)
     generalize w140.drew=w142 at HO_310001 BK281 BK309 HI0 HK HB hx352_0 hHeld ⊢
     refine yvp 1 214 (yvb 12 2) HT_.out ?_
     refine yvp 4 217 (yvb 12 18) HT_.out ?_
     refine yvt 2 215 (yvb 12 22) HT_.out HW_.out hHeld ?_
     refine yvt 5 218 (yvb 12 54) HT_.out HW_.out hHeld ?_
     refine yvp 6 219 (yvb 12 118) HT_.out ?_
     refine yvt 7 220 (yvb 12 246) HT_.out HW_.out hHeld ?_
     refine join_ (σ:=Value × Value × Value) 3 (yvb 12 511) (fun s_=>[(213,s_.1),(216,s_.2.1),(221,s_.2.2)]) (fun s_ w'=>(w'.cell? ⟨gb309,0,none⟩=some (.int .i64 x310000_49)∧w'.cell? ⟨gb309,1,none⟩=some (.slice (some ad352) x310001_49.length co141)∧w'.cell? ⟨gb309,2,none⟩=some (.int .i64 x310002_49)∧w'.cell? ad352=some (.int .i64 (rd x310001_49 0)))∧(Kd.R (Kd.int .i64) 3 w' w.heap.size (fun k_=>some k_≠(s_.2.2:Value).ownBlock∧some k_≠(.slice (some ad352) x310001_49.length co141:Value).ownBlock) s_.2.1 y349)∧(Kd.R (Kd.int .i64) 3 w' w.heap.size (fun k_=>some k_≠(s_.2.1:Value).ownBlock∧some k_≠(.slice (some ad352) x310001_49.length co141:Value).ownBlock) s_.2.2 y353)∧(Kd.R (Kd.int .i64) 3 w' w.heap.size (fun k_=>some k_≠(s_.2.1:Value).ownBlock∧some k_≠(s_.2.2:Value).ownBlock) (.slice (some ad352) x310001_49.length co141) x310001_49)∧(w'.heap[gb281]?=some (.cells #[.int .i64 0,.slice none 0 0,.int .i64 0] 32 (0,0)))∧(w'.heap[gb309]?=some (.cells #[.int .i64 x310000_49,.slice (some ad352) x310001_49.length co141,.int .i64 x310002_49] 32 (0,0)))∧(IsS86 w0 w' g s0_0 t339)∧(KeepBut w w' g none)∧(Below w0.heap.size w0 w')) ?_ ?_
     rotate_left
     ·intro hCont
      refine two_ (i:=0) (j:=8) (Ni:=some 213) (Nj:=some 221) (yvb 12 247) (yvb 12 502) rfl rfl rfl rfl (two_of HT_.out (by kernel_rfl)) (by decide) (by decide) (fun K hK=>?_) (fun K hK=>?_)
      ·skip
       refine Kd.R_lit_step (Kd.int .i64) _ 3 ?hg (N:=213) ?hd (xs:=([]:List Int)) (inner:=[]) (ok:=fun _=>True) (okp:=fun _=>True) ?hr ?hp (fun _ hk=>hk) trivial (Below.refl _ _) (Nat.le_refl _) (by simp) ?_;(case hd=>rfl);(case hg=>rfl);(case hr=>first|(go_simp;done)|(go_simp;rfl));(case hp=>exact (Reps.none _ _))
       intro v347 w143 ho144 hb hg_ hnew_
       have HS3_:=(hb.cell (World.block_lt_of_cell? _ _ (hHeld.2.2.2))).trans (hHeld.2.2.2)
       clear hg_ hnew_
       (first|rw [← Ny346.out] at ho144|(simp only [Int.reduceToNat] at ho144;rw [← Ny346.out] at ho144))
       have HO348:=yam (Kd.R_lower (Kd.Yw ho144 (Kd.R_lt (Kd.Yz HO_310001.out))) (keep_size (w:=w) (g:=g) (row:=none) (by repeat (first|(with_reducible first|exact HK.out|apply KeepBut.set_|apply keep_drewN|apply keep_drew|apply keep_alloc|refine keep_far ?_ GW281.out _|refine keep_far ?_ GW309.out _)|exact HK.out))))
       replace HO_310001:=yam (Kd.Ye (Kd.Yz HO_310001.out) (Kd.Yb ho144) hb)
       replace BK281:=yam (ybb BK281.out hb)
       replace BK309:=yam (ybb BK309.out hb)
       replace HK:=yam (KeepBut.trans (by repeat (first|(with_reducible first|exact HK.out|apply KeepBut.set_|apply keep_drewN|apply keep_drew|apply keep_alloc|refine keep_far ?_ GW281.out _|refine keep_far ?_ GW309.out _)|exact HK.out)) (KeepBut.of_below hb g none) (.inl rfl))
       replace HB:=yam (below_step (by repeat (first|(with_reducible first|exact HB.out|apply yea|apply yen|apply yed|refine below_set ?_ (IsS86.ge HI0.out)|refine below_set ?_ GE281.out|refine below_set ?_ GE309.out)|exact HB.out)) hb)
       replace HI0:=yam (IsS86.below (by repeat (first|(with_reducible first|exact HI0.out|apply IsS86.alloc|apply IsS86.drewN|apply IsS86.drew|apply IsS86.set_1|refine IsS86.far ?_ NB0_281.out _|refine IsS86.far ?_ NB0_309.out _)|exact HI0.out)) hb)
       clear hb ho144
       refine hK.out _ _ ⟨(blk_cell BK309.out 0).trans rfl,(blk_cell BK309.out 1).trans rfl,(blk_cell BK309.out 2).trans rfl,HS3_⟩ (fun hHeld=>?_)
       clear hK K
       refine norm_ (a':=?_) ?_ ?_
       rotate_left
       ·show Act.put _ (some 213) _=_
        simp only [Act.put,yps,i64_w,i32_w]
        rfl
       refine two_ (i:=3) (j:=8) (Ni:=some 216) (Nj:=some 221) (yvb 12 255) (yvb 12 503) rfl rfl rfl rfl (two_of HT_.out (by kernel_rfl)) (by decide) (by decide) (fun K hK=>?_) (fun K hK=>?_)
       ·skip
        refine Kd.R_append_rows_step (Kd.int .i64) w.heap.size (by rfl) (.tmp 213) (.tmp 215) 23 3 (.int .i64 0) 8 rfl Try.underlying23 info3 rfl (by decide) (by omega) v347 y346 x310001_49 _ _ _ (fun k_=>some k_≠(.slice (some ad352) x310001_49.length co141:Value).ownBlock) (fun _=>False) rfl rfl ?aO ?aR (fun _ _ h=>h) (fun _ h=>h.elim) ?aF (Below.refl _ _) ?aS ?aL ?_
        (case aR=>repeat (first|exact (Kd.Yr HO_310001.out).2.2|(with_reducible refine Kd.C_alloc ?_ _)|(with_reducible refine Kd.C_drewN ?_ _)|(with_reducible refine Kd.C_drew ?_)))
        (case aF=>exact (fun k_ hk=>Kd.fresh' (Kd.R_lt (Kd.Yz HO_310001.out)) k_ hk))
        (case aO=>exact (by (with_reducible repeat (first|apply Kd.Ya|apply Kd.Yn|apply Kd.Yd));exact Kd.R_mono HO348.out (fun _ hk=>hk.2)))
        (case aS=>exact (keep_size (w:=w) (g:=g) (row:=none) (by repeat (first|(with_reducible first|exact HK.out|apply KeepBut.set_|apply keep_drewN|apply keep_drew|apply keep_alloc|refine keep_far ?_ GW281.out _|refine keep_far ?_ GW309.out _)|exact HK.out))))
        (case aL=>have:=LMc136.out;omega)
        intro v350 w145 ho hb hg hat
        have HS3_:=cell_grown hg (hHeld.2.2.2) (by first|(rw [add_block];exact (fun e_=>(by have h_:=HO348.out.1 _ e_.symm;simp [Value.ownBlock] at h_)))|(show some (Addr.add _ _).block≠_;rw [add_block];exact (fun e_=>(by have h_:=HO348.out.1 _ e_.symm;simp [Value.ownBlock] at h_)))|exact (fun e_=>(by have h_:=HO348.out.1 _ e_.symm;simp [Value.ownBlock] at h_)))
        rw [← Ny349.out] at ho
        replace HO_310001:=yam (Kd.R_after (ok:=(fun _=>True)) (Kd.Yz HO_310001.out) hg hat)
        replace BK281:=yam (blk_grown (g:=gb281) (o:= .cells #[.int .i64 0,.slice none 0 0,.int .i64 0] 32 (0,0)) (ybz BK281.out) hg (Kd.R_ne HO348.out BK281.out (by decide)))
        replace BK309:=yam (blk_grown (g:=gb309) (o:= .cells #[.int .i64 x310000_49,.slice (some ad352) x310001_49.length co141,.int .i64 x310002_49] 32 (0,0)) (ybz BK309.out) hg (Kd.R_ne HO348.out BK309.out (by decide)))
        replace HB:=yam (below_weaken (by repeat (first|(with_reducible first|exact HB.out|apply yea|apply yen|apply yed|refine below_set ?_ (IsS86.ge HI0.out)|refine below_set ?_ GE281.out|refine below_set ?_ GE309.out)|exact HB.out)) HL.out hb)
        replace HI0:=yam (IsS86.grown (by repeat (first|(with_reducible first|exact HI0.out|apply IsS86.alloc|apply IsS86.drewN|apply IsS86.drew|apply IsS86.set_1|refine IsS86.far ?_ NB0_281.out _|refine IsS86.far ?_ NB0_309.out _)|exact HI0.out)) hg (IsS86.own_ne HI0.out HO348.out (by decide)))
        replace HK:=yam (KeepBut.trans (by repeat (first|(with_reducible first|exact HK.out|apply KeepBut.set_|apply keep_drewN|apply keep_drew|apply keep_alloc|refine keep_far ?_ GW281.out _|refine keep_far ?_ GW309.out _)|exact HK.out)) (KeepBut.of_grown hg g) (Kd.R_base2 HO348.out))
        have HO351:=yam (ho)
        clear HO348
        clear ho hb hg hat
        refine hK.out _ _ ⟨(blk_cell BK309.out 0).trans rfl,(blk_cell BK309.out 1).trans rfl,(blk_cell BK309.out 2).trans rfl,HS3_⟩ (fun hHeld=>?_)
        clear hK K
        refine norm_ (a':=?_) ?_ ?_
        rotate_left
        ·show Act.put _ (some 216) _=_
         simp only [Act.put,yps,i64_w,i32_w]
         rfl
        refine one_ (i:=8) (N:=some 221) (yvb 12 511) rfl rfl (one_of HT_.out (by kernel_rfl)) (by decide) (fun K hK=>?_)
        refine Kd.R_lit_step (Kd.int .i64) _ 3 ?hg (N:=221) ?hd (xs:=([rd x310001_49 0]:List Int)) (inner:=[.int .i64 (rd x310001_49 0)]) (ok:=fun _=>True) (okp:=fun _=>True) ?hr ?hp (fun _ hk=>hk) trivial (Below.refl _ _) (Nat.le_refl _) (by simp) ?_;(case hd=>rfl);(case hg=>rfl);(case hr=>first|(go_simp;done)|(go_simp;rfl));(case hp=>exact (Reps.one (show Kd.M (Kd.int .i64) _ _ _ (rd x310001_49 0) [.int .i64 (rd x310001_49 0)] from rfl) (Reps.none _ _)))
        intro v354 w146 ho147 hb hg_ hnew_
        have HS3_:=(hb.cell (World.block_lt_of_cell? _ _ (hHeld.2.2.2))).trans (hHeld.2.2.2)
        clear hg_ hnew_
        (first|rw [← Ny353.out] at ho147|(simp only [Int.reduceToNat] at ho147;rw [← Ny353.out] at ho147))
        have HO355:=yam (Kd.R_lower (Kd.Yw (Kd.Yw ho147 (Kd.R_lt (Kd.Yz HO_310001.out))) (Kd.R_lt (Kd.Yz HO351.out))) (keep_size (w:=w) (g:=g) (row:=none) (by repeat (first|(with_reducible first|exact HK.out|apply KeepBut.set_|apply keep_drewN|apply keep_drew|apply keep_alloc|refine keep_far ?_ GW281.out _|refine keep_far ?_ GW309.out _)|exact HK.out))))
        replace HO_310001:=yam (Kd.Ye (Kd.Yz HO_310001.out) (Kd.Yb ho147) hb)
        replace HO351:=yam (Kd.Ye (Kd.Yz HO351.out) (Kd.Yb ho147) hb)
        replace BK281:=yam (ybb BK281.out hb)
        replace BK309:=yam (ybb BK309.out hb)
        replace HK:=yam (KeepBut.trans (by repeat (first|(with_reducible first|exact HK.out|apply KeepBut.set_|apply keep_drewN|apply keep_drew|apply keep_alloc|refine keep_far ?_ GW281.out _|refine keep_far ?_ GW309.out _)|exact HK.out)) (KeepBut.of_below hb g none) (.inl rfl))
        replace HB:=yam (below_step (by repeat (first|(with_reducible first|exact HB.out|apply yea|apply yen|apply yed|refine below_set ?_ (IsS86.ge HI0.out)|refine below_set ?_ GE281.out|refine below_set ?_ GE309.out)|exact HB.out)) hb)
        replace HI0:=yam (IsS86.below (by repeat (first|(with_reducible first|exact HI0.out|apply IsS86.alloc|apply IsS86.drewN|apply IsS86.drew|apply IsS86.set_1|refine IsS86.far ?_ NB0_281.out _|refine IsS86.far ?_ NB0_309.out _)|exact HI0.out)) hb)
        clear hb ho147
        refine hK.out _ _ ⟨(blk_cell BK309.out 0).trans rfl,(blk_cell BK309.out 1).trans rfl,(blk_cell BK309.out 2).trans rfl,HS3_⟩ (fun hHeld=>?_)
        clear hK K
        refine norm_ (a':=?_) ?_ ?_
        rotate_left
        ·show Act.put _ (some 221) _=_
         simp only [Act.put,yps,i64_w,i32_w]
         rfl
        exact norm_ (by simp only [putAll,Act.put,yps]) (hCont (v347,v350,v354) _ ⟨hHeld,(by (with_reducible repeat (first|apply Kd.Ya|apply Kd.Yn|apply Kd.Yd));exact Kd.R_mono HO351.out (fun _ hk=>⟨hk.2,hk.1⟩)),(by (with_reducible repeat (first|apply Kd.Ya|apply Kd.Yn|apply Kd.Yd));exact Kd.R_mono HO355.out (fun _ hk=>⟨hk.2,hk.1.2⟩)),(by (with_reducible repeat (first|apply Kd.Ya|apply Kd.Yn|apply Kd.Yd));exact Kd.R_mono HO_310001.out (fun _ hk=>⟨hk.1.2,hk.2⟩)),(ybz BK281.out),(ybz BK309.out),(by repeat (first|(with_reducible first|exact HI0.out|apply IsS86.alloc|apply IsS86.drewN|apply IsS86.drew|apply IsS86.set_1|refine IsS86.far ?_ NB0_281.out _|refine IsS86.far ?_ NB0_309.out _)|exact HI0.out)),(by repeat (first|(with_reducible first|exact HK.out|apply KeepBut.set_|apply keep_drewN|apply keep_drew|apply keep_alloc|refine keep_far ?_ GW281.out _|refine keep_far ?_ GW309.out _)|exact HK.out)),(by repeat (first|(with_reducible first|exact HB.out|apply yea|apply yen|apply yed|refine below_set ?_ (IsS86.ge HI0.out)|refine below_set ?_ GE281.out|refine below_set ?_ GE309.out)|exact HB.out))⟩)
       ·skip
        refine Kd.R_lit_step (Kd.int .i64) _ 3 ?hg (N:=221) ?hd (xs:=([rd x310001_49 0]:List Int)) (inner:=[.int .i64 (rd x310001_49 0)]) (ok:=fun _=>True) (okp:=fun _=>True) ?hr ?hp (fun _ hk=>hk) trivial (Below.refl _ _) (Nat.le_refl _) (by simp) ?_;(case hd=>rfl);(case hg=>rfl);(case hr=>first|(go_simp;done)|(go_simp;rfl));(case hp=>exact (Reps.one (show Kd.M (Kd.int .i64) _ _ _ (rd x310001_49 0) [.int .i64 (rd x310001_49 0)] from rfl) (Reps.none _ _)))
        intro v354 w145 ho146 hb hg_ hnew_
        have HS3_:=(hb.cell (World.block_lt_of_cell? _ _ (hHeld.2.2.2))).trans (hHeld.2.2.2)
        clear hg_ hnew_
        (first|rw [← Ny353.out] at ho146|(simp only [Int.reduceToNat] at ho146;rw [← Ny353.out] at ho146))
        have HO355:=yam (Kd.R_lower (Kd.Yw (Kd.Yw ho146 (Kd.R_lt (Kd.Yz HO_310001.out))) (Kd.R_lt (Kd.Yz HO348.out))) (keep_size (w:=w) (g:=g) (row:=none) (by repeat (first|(with_reducible first|exact HK.out|apply KeepBut.set_|apply keep_drewN|apply keep_drew|apply keep_alloc|refine keep_far ?_ GW281.out _|refine keep_far ?_ GW309.out _)|exact HK.out))))
        replace HO_310001:=yam (Kd.Ye (Kd.Yz HO_310001.out) (Kd.Yb ho146) hb)
        replace HO348:=yam (Kd.Ye (Kd.Yz HO348.out) (Kd.Yb ho146) hb)
        replace BK281:=yam (ybb BK281.out hb)
        replace BK309:=yam (ybb BK309.out hb)
        replace HK:=yam (KeepBut.trans (by repeat (first|(with_reducible first|exact HK.out|apply KeepBut.set_|apply keep_drewN|apply keep_drew|apply keep_alloc|refine keep_far ?_ GW281.out _|refine keep_far ?_ GW309.out _)|exact HK.out)) (KeepBut.of_below hb g none) (.inl rfl))
        replace HB:=yam (below_step (by repeat (first|(with_reducible first|exact HB.out|apply yea|apply yen|apply yed|refine below_set ?_ (IsS86.ge HI0.out)|refine below_set ?_ GE281.out|refine below_set ?_ GE309.out)|exact HB.out)) hb)
        replace HI0:=yam (IsS86.below (by repeat (first|(with_reducible first|exact HI0.out|apply IsS86.alloc|apply IsS86.drewN|apply IsS86.drew|apply IsS86.set_1|refine IsS86.far ?_ NB0_281.out _|refine IsS86.far ?_ NB0_309.out _)|exact HI0.out)) hb)
        clear hb ho146
        refine hK.out _ _ ⟨(blk_cell BK309.out 0).trans rfl,(blk_cell BK309.out 1).trans rfl,(blk_cell BK309.out 2).trans rfl,HS3_⟩ (fun hHeld=>?_)
        clear hK K
        refine norm_ (a':=?_) ?_ ?_
        rotate_left
        ·show Act.put _ (some 221) _=_
         simp only [Act.put,yps,i64_w,i32_w]
         rfl
        refine one_ (i:=3) (N:=some 216) (yvb 12 511) rfl rfl (one_of HT_.out (by kernel_rfl)) (by decide) (fun K hK=>?_)
        refine Kd.R_append_rows_step (Kd.int .i64) w.heap.size (by rfl) (.tmp 213) (.tmp 215) 23 3 (.int .i64 0) 8 rfl Try.underlying23 info3 rfl (by decide) (by omega) v347 y346 x310001_49 _ _ _ (fun k_=>some k_≠(.slice (some ad352) x310001_49.length co141:Value).ownBlock∧some k_≠(v354:Value).ownBlock) (fun _=>False) rfl rfl ?aO ?aR (fun _ _ h=>h) (fun _ h=>h.elim) ?aF (Below.refl _ _) ?aS ?aL ?_
        (case aR=>repeat (first|exact (Kd.Yr HO_310001.out).2.2|(with_reducible refine Kd.C_alloc ?_ _)|(with_reducible refine Kd.C_drewN ?_ _)|(with_reducible refine Kd.C_drew ?_)))
        (case aF=>exact (fun k_ hk=>⟨Kd.fresh' (Kd.R_lt (Kd.Yz HO_310001.out)) k_ hk,Kd.fresh' (Kd.R_lt (Kd.Yz HO355.out)) k_ hk⟩))
        (case aO=>exact (by (with_reducible repeat (first|apply Kd.Ya|apply Kd.Yn|apply Kd.Yd));exact Kd.R_mono HO348.out (fun _ hk=>⟨hk.1.2,hk.2⟩)))
        (case aS=>exact (keep_size (w:=w) (g:=g) (row:=none) (by repeat (first|(with_reducible first|exact HK.out|apply KeepBut.set_|apply keep_drewN|apply keep_drew|apply keep_alloc|refine keep_far ?_ GW281.out _|refine keep_far ?_ GW309.out _)|exact HK.out))))
        (case aL=>have:=LMc136.out;omega)
        intro v350 w147 ho hb hg hat
        have HS3_:=cell_grown hg (hHeld.2.2.2) (by first|(rw [add_block];exact (fun e_=>(by have h_:=HO348.out.1 _ e_.symm;simp [Value.ownBlock] at h_)))|(show some (Addr.add _ _).block≠_;rw [add_block];exact (fun e_=>(by have h_:=HO348.out.1 _ e_.symm;simp [Value.ownBlock] at h_)))|exact (fun e_=>(by have h_:=HO348.out.1 _ e_.symm;simp [Value.ownBlock] at h_)))
        rw [← Ny349.out] at ho
        replace HO_310001:=yam (Kd.R_after (ok:=(fun k_=>some k_≠(v354:Value).ownBlock)) (by (with_reducible repeat (first|apply Kd.Ya|apply Kd.Yn|apply Kd.Yd));exact Kd.R_mono HO_310001.out (fun _ hk=>⟨hk.2,hk.1.2⟩)) hg hat)
        replace BK281:=yam (blk_grown (g:=gb281) (o:= .cells #[.int .i64 0,.slice none 0 0,.int .i64 0] 32 (0,0)) (ybz BK281.out) hg (Kd.R_ne HO348.out BK281.out (by decide)))
        replace BK309:=yam (blk_grown (g:=gb309) (o:= .cells #[.int .i64 x310000_49,.slice (some ad352) x310001_49.length co141,.int .i64 x310002_49] 32 (0,0)) (ybz BK309.out) hg (Kd.R_ne HO348.out BK309.out (by decide)))
        replace HO355:=yam (Kd.R_after (ok:=(fun k_=>some k_≠(.slice (some ad352) x310001_49.length co141:Value).ownBlock)) (by (with_reducible repeat (first|apply Kd.Ya|apply Kd.Yn|apply Kd.Yd));exact Kd.R_mono HO355.out (fun _ hk=>⟨hk.1.2,hk.2⟩)) hg hat)
        replace HB:=yam (below_weaken (by repeat (first|(with_reducible first|exact HB.out|apply yea|apply yen|apply yed|refine below_set ?_ (IsS86.ge HI0.out)|refine below_set ?_ GE281.out|refine below_set ?_ GE309.out)|exact HB.out)) HL.out hb)
        replace HI0:=yam (IsS86.grown (by repeat (first|(with_reducible first|exact HI0.out|apply IsS86.alloc|apply IsS86.drewN|apply IsS86.drew|apply IsS86.set_1|refine IsS86.far ?_ NB0_281.out _|refine IsS86.far ?_ NB0_309.out _)|exact HI0.out)) hg (IsS86.own_ne HI0.out HO348.out (by decide)))
        replace HK:=yam (KeepBut.trans (by repeat (first|(with_reducible first|exact HK.out|apply KeepBut.set_|apply keep_drewN|apply keep_drew|apply keep_alloc|refine keep_far ?_ GW281.out _|refine keep_far ?_ GW309.out _)|exact HK.out)) (KeepBut.of_grown hg g) (Kd.R_base2 HO348.out))
        have HO351:=yam (ho)
        clear HO348
        clear ho hb hg hat
        refine hK.out _ _ ⟨(blk_cell BK309.out 0).trans rfl,(blk_cell BK309.out 1).trans rfl,(blk_cell BK309.out 2).trans rfl,HS3_⟩ (fun hHeld=>?_)
        clear hK K
        refine norm_ (a':=?_) ?_ ?_
        rotate_left
        ·show Act.put _ (some 216) _=_
         simp only [Act.put,yps,i64_w,i32_w]
         rfl
        exact norm_ (by simp only [putAll,Act.put,yps]) (hCont (v347,v350,v354) _ ⟨hHeld,(by (with_reducible repeat (first|apply Kd.Ya|apply Kd.Yn|apply Kd.Yd));exact Kd.R_mono HO351.out (fun _ hk=>⟨hk.2,hk.1⟩)),(by (with_reducible repeat (first|apply Kd.Ya|apply Kd.Yn|apply Kd.Yd));exact Kd.R_mono HO355.out (fun _ hk=>⟨hk.2,hk.1⟩)),(by (with_reducible repeat (first|apply Kd.Ya|apply Kd.Yn|apply Kd.Yd));exact Kd.R_mono HO_310001.out (fun _ hk=>⟨hk.2,hk.1⟩)),(ybz BK281.out),(ybz BK309.out),(by repeat (first|(with_reducible first|exact HI0.out|apply IsS86.alloc|apply IsS86.drewN|apply IsS86.drew|apply IsS86.set_1|refine IsS86.far ?_ NB0_281.out _|refine IsS86.far ?_ NB0_309.out _)|exact HI0.out)),(by repeat (first|(with_reducible first|exact HK.out|apply KeepBut.set_|apply keep_drewN|apply keep_drew|apply keep_alloc|refine keep_far ?_ GW281.out _|refine keep_far ?_ GW309.out _)|exact HK.out)),(by repeat (first|(with_reducible first|exact HB.out|apply yea|apply yen|apply yed|refine below_set ?_ (IsS86.ge HI0.out)|refine below_set ?_ GE281.out|refine below_set ?_ GE309.out)|exact HB.out))⟩)
      ·skip
       refine Kd.R_lit_step (Kd.int .i64) _ 3 ?hg (N:=221) ?hd (xs:=([rd x310001_49 0]:List Int)) (inner:=[.int .i64 (rd x310001_49 0)]) (ok:=fun _=>True) (okp:=fun _=>True) ?hr ?hp (fun _ hk=>hk) trivial (Below.refl _ _) (Nat.le_refl _) (by simp) ?_;(case hd=>rfl);(case hg=>rfl);(case hr=>first|(go_simp;done)|(go_simp;rfl));(case hp=>exact (Reps.one (show Kd.M (Kd.int .i64) _ _ _ (rd x310001_49 0) [.int .i64 (rd x310001_49 0)] from rfl) (Reps.none _ _)))
       intro v354 w143 ho144 hb hg_ hnew_
       have HS3_:=(hb.cell (World.block_lt_of_cell? _ _ (hHeld.2.2.2))).trans (hHeld.2.2.2)
       clear hg_ hnew_
       (first|rw [← Ny353.out] at ho144|(simp only [Int.reduceToNat] at ho144;rw [← Ny353.out] at ho144))
       have HO355:=yam (Kd.R_lower (Kd.Yw ho144 (Kd.R_lt (Kd.Yz HO_310001.out))) (keep_size (w:=w) (g:=g) (row:=none) (by repeat (first|(with_reducible first|exact HK.out|apply KeepBut.set_|apply keep_drewN|apply keep_drew|apply keep_alloc|refine keep_far ?_ GW281.out _|refine keep_far ?_ GW309.out _)|exact HK.out))))
       replace HO_310001:=yam (Kd.Ye (Kd.Yz HO_310001.out) (Kd.Yb ho144) hb)
       replace BK281:=yam (ybb BK281.out hb)
       replace BK309:=yam (ybb BK309.out hb)
       replace HK:=yam (KeepBut.trans (by repeat (first|(with_reducible first|exact HK.out|apply KeepBut.set_|apply keep_drewN|apply keep_drew|apply keep_alloc|refine keep_far ?_ GW281.out _|refine keep_far ?_ GW309.out _)|exact HK.out)) (KeepBut.of_below hb g none) (.inl rfl))
       replace HB:=yam (below_step (by repeat (first|(with_reducible first|exact HB.out|apply yea|apply yen|apply yed|refine below_set ?_ (IsS86.ge HI0.out)|refine below_set ?_ GE281.out|refine below_set ?_ GE309.out)|exact HB.out)) hb)
       replace HI0:=yam (IsS86.below (by repeat (first|(with_reducible first|exact HI0.out|apply IsS86.alloc|apply IsS86.drewN|apply IsS86.drew|apply IsS86.set_1|refine IsS86.far ?_ NB0_281.out _|refine IsS86.far ?_ NB0_309.out _)|exact HI0.out)) hb)
       clear hb ho144
       refine hK.out _ _ ⟨(blk_cell BK309.out 0).trans rfl,(blk_cell BK309.out 1).trans rfl,(blk_cell BK309.out 2).trans rfl,HS3_⟩ (fun hHeld=>?_)
       clear hK K
       refine norm_ (a':=?_) ?_ ?_
       rotate_left
       ·show Act.put _ (some 221) _=_
        simp only [Act.put,yps,i64_w,i32_w]
        rfl
       refine one_ (i:=0) (N:=some 213) (yvb 12 503) rfl rfl (one_of HT_.out (by kernel_rfl)) (by decide) (fun K hK=>?_)
       refine Kd.R_lit_step (Kd.int .i64) _ 3 ?hg (N:=213) ?hd (xs:=([]:List Int)) (inner:=[]) (ok:=fun _=>True) (okp:=fun _=>True) ?hr ?hp (fun _ hk=>hk) trivial (Below.refl _ _) (Nat.le_refl _) (by simp) ?_;(case hd=>rfl);(case hg=>rfl);(case hr=>first|(go_simp;done)|(go_simp;rfl));(case hp=>exact (Reps.none _ _))
       intro v347 w145 ho146 hb hg_ hnew_
       have HS3_:=(hb.cell (World.block_lt_of_cell? _ _ (hHeld.2.2.2))).trans (hHeld.2.2.2)
       clear hg_ hnew_
       (first|rw [← Ny346.out] at ho146|(simp only [Int.reduceToNat] at ho146;rw [← Ny346.out] at ho146))
       have HO348:=yam (Kd.R_lower (Kd.Yw (Kd.Yw ho146 (Kd.R_lt (Kd.Yz HO_310001.out))) (Kd.R_lt (Kd.Yz HO355.out))) (keep_size (w:=w) (g:=g) (row:=none) (by repeat (first|(with_reducible first|exact HK.out|apply KeepBut.set_|apply keep_drewN|apply keep_drew|apply keep_alloc|refine keep_far ?_ GW281.out _|refine keep_far ?_ GW309.out _)|exact HK.out))))
       replace HO_310001:=yam (Kd.Ye (Kd.Yz HO_310001.out) (Kd.Yb ho146) hb)
       replace HO355:=yam (Kd.Ye (Kd.Yz HO355.out) (Kd.Yb ho146) hb)
       replace BK281:=yam (ybb BK281.out hb)
       replace BK309:=yam (ybb BK309.out hb)
       replace HK:=yam (KeepBut.trans (by repeat (first|(with_reducible first|exact HK.out|apply KeepBut.set_|apply keep_drewN|apply keep_drew|apply keep_alloc|refine keep_far ?_ GW281.out _|refine keep_far ?_ GW309.out _)|exact HK.out)) (KeepBut.of_below hb g none) (.inl rfl))
       replace HB:=yam (below_step (by repeat (first|(with_reducible first|exact HB.out|apply yea|apply yen|apply yed|refine below_set ?_ (IsS86.ge HI0.out)|refine below_set ?_ GE281.out|refine below_set ?_ GE309.out)|exact HB.out)) hb)
       replace HI0:=yam (IsS86.below (by repeat (first|(with_reducible first|exact HI0.out|apply IsS86.alloc|apply IsS86.drewN|apply IsS86.drew|apply IsS86.set_1|refine IsS86.far ?_ NB0_281.out _|refine IsS86.far ?_ NB0_309.out _)|exact HI0.out)) hb)
       clear hb ho146
       refine hK.out _ _ ⟨(blk_cell BK309.out 0).trans rfl,(blk_cell BK309.out 1).trans rfl,(blk_cell BK309.out 2).trans rfl,HS3_⟩ (fun hHeld=>?_)
       clear hK K
       refine norm_ (a':=?_) ?_ ?_
       rotate_left
       ·show Act.put _ (some 213) _=_
        simp only [Act.put,yps,i64_w,i32_w]
        rfl
       refine one_ (i:=3) (N:=some 216) (yvb 12 511) rfl rfl (one_of HT_.out (by kernel_rfl)) (by decide) (fun K hK=>?_)
       refine Kd.R_append_rows_step (Kd.int .i64) w.heap.size (by rfl) (.tmp 213) (.tmp 215) 23 3 (.int .i64 0) 8 rfl Try.underlying23 info3 rfl (by decide) (by omega) v347 y346 x310001_49 _ _ _ (fun k_=>some k_≠(.slice (some ad352) x310001_49.length co141:Value).ownBlock∧some k_≠(v354:Value).ownBlock) (fun _=>False) rfl rfl ?aO ?aR (fun _ _ h=>h) (fun _ h=>h.elim) ?aF (Below.refl _ _) ?aS ?aL ?_
       (case aR=>repeat (first|exact (Kd.Yr HO_310001.out).2.2|(with_reducible refine Kd.C_alloc ?_ _)|(with_reducible refine Kd.C_drewN ?_ _)|(with_reducible refine Kd.C_drew ?_)))
       (case aF=>exact (fun k_ hk=>⟨Kd.fresh' (Kd.R_lt (Kd.Yz HO_310001.out)) k_ hk,Kd.fresh' (Kd.R_lt (Kd.Yz HO355.out)) k_ hk⟩))
       (case aO=>exact (by (with_reducible repeat (first|apply Kd.Ya|apply Kd.Yn|apply Kd.Yd));exact Kd.R_mono HO348.out (fun _ hk=>⟨hk.1.2,hk.2⟩)))
       (case aS=>exact (keep_size (w:=w) (g:=g) (row:=none) (by repeat (first|(with_reducible first|exact HK.out|apply KeepBut.set_|apply keep_drewN|apply keep_drew|apply keep_alloc|refine keep_far ?_ GW281.out _|refine keep_far ?_ GW309.out _)|exact HK.out))))
       (case aL=>have:=LMc136.out;omega)
       intro v350 w147 ho hb hg hat
       have HS3_:=cell_grown hg (hHeld.2.2.2) (by first|(rw [add_block];exact (fun e_=>(by have h_:=HO348.out.1 _ e_.symm;simp [Value.ownBlock] at h_)))|(show some (Addr.add _ _).block≠_;rw [add_block];exact (fun e_=>(by have h_:=HO348.out.1 _ e_.symm;simp [Value.ownBlock] at h_)))|exact (fun e_=>(by have h_:=HO348.out.1 _ e_.symm;simp [Value.ownBlock] at h_)))
       rw [← Ny349.out] at ho
       replace HO_310001:=yam (Kd.R_after (ok:=(fun k_=>some k_≠(v354:Value).ownBlock)) (by (with_reducible repeat (first|apply Kd.Ya|apply Kd.Yn|apply Kd.Yd));exact Kd.R_mono HO_310001.out (fun _ hk=>⟨hk.1.2,hk.2⟩)) hg hat)
       replace BK281:=yam (blk_grown (g:=gb281) (o:= .cells #[.int .i64 0,.slice none 0 0,.int .i64 0] 32 (0,0)) (ybz BK281.out) hg (Kd.R_ne HO348.out BK281.out (by decide)))
       replace BK309:=yam (blk_grown (g:=gb309) (o:= .cells #[.int .i64 x310000_49,.slice (some ad352) x310001_49.length co141,.int .i64 x310002_49] 32 (0,0)) (ybz BK309.out) hg (Kd.R_ne HO348.out BK309.out (by decide)))
       replace HO355:=yam (Kd.R_after (ok:=(fun k_=>some k_≠(.slice (some ad352) x310001_49.length co141:Value).ownBlock)) (by (with_reducible repeat (first|apply Kd.Ya|apply Kd.Yn|apply Kd.Yd));exact Kd.R_mono HO355.out (fun _ hk=>⟨hk.1.2,hk.2⟩)) hg hat)
       replace HB:=yam (below_weaken (by repeat (first|(with_reducible first|exact HB.out|apply yea|apply yen|apply yed|refine below_set ?_ (IsS86.ge HI0.out)|refine below_set ?_ GE281.out|refine below_set ?_ GE309.out)|exact HB.out)) HL.out hb)
       replace HI0:=yam (IsS86.grown (by repeat (first|(with_reducible first|exact HI0.out|apply IsS86.alloc|apply IsS86.drewN|apply IsS86.drew|apply IsS86.set_1|refine IsS86.far ?_ NB0_281.out _|refine IsS86.far ?_ NB0_309.out _)|exact HI0.out)) hg (IsS86.own_ne HI0.out HO348.out (by decide)))
       replace HK:=yam (KeepBut.trans (by repeat (first|(with_reducible first|exact HK.out|apply KeepBut.set_|apply keep_drewN|apply keep_drew|apply keep_alloc|refine keep_far ?_ GW281.out _|refine keep_far ?_ GW309.out _)|exact HK.out)) (KeepBut.of_grown hg g) (Kd.R_base2 HO348.out))
       have HO351:=yam (ho)
       clear HO348
       clear ho hb hg hat
       refine hK.out _ _ ⟨(blk_cell BK309.out 0).trans rfl,(blk_cell BK309.out 1).trans rfl,(blk_cell BK309.out 2).trans rfl,HS3_⟩ (fun hHeld=>?_)
       clear hK K
       refine norm_ (a':=?_) ?_ ?_
       rotate_left
       ·show Act.put _ (some 216) _=_
        simp only [Act.put,yps,i64_w,i32_w]
        rfl
       exact norm_ (by simp only [putAll,Act.put,yps]) (hCont (v347,v350,v354) _ ⟨hHeld,(by (with_reducible repeat (first|apply Kd.Ya|apply Kd.Yn|apply Kd.Yd));exact Kd.R_mono HO351.out (fun _ hk=>⟨hk.2,hk.1⟩)),(by (with_reducible repeat (first|apply Kd.Ya|apply Kd.Yn|apply Kd.Yd));exact Kd.R_mono HO355.out (fun _ hk=>⟨hk.2,hk.1⟩)),(by (with_reducible repeat (first|apply Kd.Ya|apply Kd.Yn|apply Kd.Yd));exact Kd.R_mono HO_310001.out (fun _ hk=>⟨hk.2,hk.1⟩)),(ybz BK281.out),(ybz BK309.out),(by repeat (first|(with_reducible first|exact HI0.out|apply IsS86.alloc|apply IsS86.drewN|apply IsS86.drew|apply IsS86.set_1|refine IsS86.far ?_ NB0_281.out _|refine IsS86.far ?_ NB0_309.out _)|exact HI0.out)),(by repeat (first|(with_reducible first|exact HK.out|apply KeepBut.set_|apply keep_drewN|apply keep_drew|apply keep_alloc|refine keep_far ?_ GW281.out _|refine keep_far ?_ GW309.out _)|exact HK.out)),(by repeat (first|(with_reducible first|exact HB.out|apply yea|apply yen|apply yed|refine below_set ?_ (IsS86.ge HI0.out)|refine below_set ?_ GE281.out|refine below_set ?_ GE309.out)|exact HB.out))⟩)
     rintro ⟨v347,v350,v354⟩ w148 ⟨hS_,h0_,h1_,h2_,h3_,h4_,h5_,h6_,h7_⟩
     have HO351:Aside0 (Kd.R (Kd.int .i64) 3 w148 w.heap.size (fun k_=>some k_≠(v354:Value).ownBlock∧some k_≠(.slice (some ad352) x310001_49.length co141:Value).ownBlock) v350 y349):=⟨h0_⟩
     have HO355:Aside0 (Kd.R (Kd.int .i64) 3 w148 w.heap.size (fun k_=>some k_≠(v350:Value).ownBlock∧some k_≠(.slice (some ad352) x310001_49.length co141:Value).ownBlock) v354 y353):=⟨h1_⟩
     replace HO_310001:Aside0 (Kd.R (Kd.int .i64) 3 w148 w.heap.size (fun k_=>some k_≠(v350:Value).ownBlock∧some k_≠(v354:Value).ownBlock) (.slice (some ad352) x310001_49.length co141) x310001_49):=⟨h2_⟩
     replace BK281:Aside0 (w148.heap[gb281]?=some (.cells #[.int .i64 0,.slice none 0 0,.int .i64 0] 32 (0,0))):=⟨h3_⟩
     replace BK309:Aside0 (w148.heap[gb309]?=some (.cells #[.int .i64 x310000_49,.slice (some ad352) x310001_49.length co141,.int .i64 x310002_49] 32 (0,0))):=⟨h4_⟩
     replace HI0:Aside0 (IsS86 w0 w148 g s0_0 t339):=⟨h5_⟩
     replace HK:Aside0 (KeepBut w w148 g none):=⟨h6_⟩
     replace HB:Aside0 (Below w0.heap.size w0 w148):=⟨h7_⟩
     clear h0_ h1_ h2_ h3_ h4_ h5_ h6_ h7_
     have hHeld:w148.cell? ⟨gb309,0,none⟩=some (.int .i64 x310000_49)∧w148.cell? ⟨gb309,1,none⟩=some (.slice (some ad352) x310001_49.length co141)∧w148.cell? ⟨gb309,2,none⟩=some (.int .i64 x310002_49)∧w148.cell? ad352=some (.int .i64 (rd x310001_49 0)):=hS_
     obtain ⟨Ao150,co150,eo150⟩:=Kd.R_slice HO355.out
     (first|subst eo150|(injection eo150 with f1_ f2_ f3_;have f4_:=f1_.symm;have f5_:=f3_.symm;clear f1_ f2_ f3_;subst f4_;subst f5_))
     refine norm_ (a':=?_) ?_ ?_
     rotate_left
     ·simp only [putAll,Act.put,yps]
      rfl
     refine one_ (i:=9) (N:=some 222) (yvb 12 1023) rfl rfl (one_of HT_.out (by kernel_rfl)) (by decide) (fun K hK=>?_)
     refine Kd.R_append_rows_step (Kd.int .i64) w.heap.size (by rfl) (.tmp 216) (.tmp 221) 23 3 (.int .i64 0) 8 rfl Try.underlying23 info3 rfl (by decide) (by omega) v350 y349 y353 _ _ _ (fun k_=>some k_≠(.slice (some ad352) x310001_49.length co141:Value).ownBlock∧some k_≠(.slice Ao150 y353.length co150:Value).ownBlock) (fun _=>False) rfl rfl ?aO ?aR (fun _ _ h=>h) (fun _ h=>h.elim) ?aF (Below.refl _ _) ?aS ?aL ?_
     (case aR=>repeat (first|exact (Kd.Yr HO355.out).2.2|(with_reducible refine Kd.C_alloc ?_ _)|(with_reducible refine Kd.C_drewN ?_ _)|(with_reducible refine Kd.C_drew ?_)))
     (case aF=>exact (fun k_ hk=>⟨Kd.fresh' (Kd.R_lt (Kd.Yz HO_310001.out)) k_ hk,Kd.fresh' (Kd.R_lt (Kd.Yz HO355.out)) k_ hk⟩))
     (case aO=>exact (by (with_reducible repeat (first|apply Kd.Ya|apply Kd.Yn|apply Kd.Yd));exact Kd.R_mono HO351.out (fun _ hk=>⟨hk.2,hk.1⟩)))
     (case aS=>exact (keep_size (w:=w) (g:=g) (row:=none) (by repeat (first|(with_reducible first|exact HK.out|apply KeepBut.set_|apply keep_drewN|apply keep_drew|apply keep_alloc|refine keep_far ?_ GW281.out _|refine keep_far ?_ GW309.out _)|exact HK.out))))
     (case aL=>have:=LMc138.out;omega)
     intro v357 w149 ho hb hg hat
     have HS3_:=cell_grown hg (hHeld.2.2.2) (by first|(rw [add_block];exact (fun e_=>(by have h_:=HO351.out.1 _ e_.symm;simp [Value.ownBlock] at h_)))|(show some (Addr.add _ _).block≠_;rw [add_block];exact (fun e_=>(by have h_:=HO351.out.1 _ e_.symm;simp [Value.ownBlock] at h_)))|exact (fun e_=>(by have h_:=HO351.out.1 _ e_.symm;simp [Value.ownBlock] at h_)))
     rw [← Ny356.out] at ho
     replace HO_310001:=yam (Kd.R_after (ok:=(fun k_=>some k_≠(.slice Ao150 y353.length co150:Value).ownBlock)) (by (with_reducible repeat (first|apply Kd.Ya|apply Kd.Yn|apply Kd.Yd));exact Kd.R_mono HO_310001.out (fun _ hk=>⟨hk.2,hk.1⟩)) hg hat)
     replace BK281:=yam (blk_grown (g:=gb281) (o:= .cells #[.int .i64 0,.slice none 0 0,.int .i64 0] 32 (0,0)) (ybz BK281.out) hg (Kd.R_ne HO351.out BK281.out (by decide)))
     replace BK309:=yam (blk_grown (g:=gb309) (o:= .cells #[.int .i64 x310000_49,.slice (some ad352) x310001_49.length co141,.int .i64 x310002_49] 32 (0,0)) (ybz BK309.out) hg (Kd.R_ne HO351.out BK309.out (by decide)))
     replace HO355:=yam (Kd.R_after (ok:=(fun k_=>some k_≠(.slice (some ad352) x310001_49.length co141:Value).ownBlock)) (by (with_reducible repeat (first|apply Kd.Ya|apply Kd.Yn|apply Kd.Yd));exact Kd.R_mono HO355.out (fun _ hk=>⟨hk.2,hk.1⟩)) hg hat)
     replace HB:=yam (below_weaken (by repeat (first|(with_reducible first|exact HB.out|apply yea|apply yen|apply yed|refine below_set ?_ (IsS86.ge HI0.out)|refine below_set ?_ GE281.out|refine below_set ?_ GE309.out)|exact HB.out)) HL.out hb)
     replace HI0:=yam (IsS86.grown (by repeat (first|(with_reducible first|exact HI0.out|apply IsS86.alloc|apply IsS86.drewN|apply IsS86.drew|apply IsS86.set_1|refine IsS86.far ?_ NB0_281.out _|refine IsS86.far ?_ NB0_309.out _)|exact HI0.out)) hg (IsS86.own_ne HI0.out HO351.out (by decide)))
     replace HK:=yam (KeepBut.trans (by repeat (first|(with_reducible first|exact HK.out|apply KeepBut.set_|apply keep_drewN|apply keep_drew|apply keep_alloc|refine keep_far ?_ GW281.out _|refine keep_far ?_ GW309.out _)|exact HK.out)) (KeepBut.of_grown hg g) (Kd.R_base2 HO351.out))
     have HO358:=yam (ho)
     clear HO351
     clear ho hb hg hat
     obtain ⟨Ao151,co151,eo151⟩:=Kd.R_slice HO358.out
     (first|subst eo151|(injection eo151 with f1_ f2_ f3_;have f4_:=f1_.symm;have f5_:=f3_.symm;clear f1_ f2_ f3_;subst f4_;subst f5_))
     refine hK.out _ _ ⟨(blk_cell BK309.out 0).trans rfl,(blk_cell BK309.out 1).trans rfl,(blk_cell BK309.out 2).trans rfl,HS3_⟩ (fun hHeld=>?_)
     clear hK K
     refine norm_ (a':=?_) ?_ ?_
     rotate_left
     ·show Act.put _ (some 222) _=_
      simp only [Act.put,yps,i64_w,i32_w]
      rfl
     refine yvp 10 223 (yvb 12 2047) HT_.out ?_
     refine last_ (i:=11) (N:=none) (yvb 12 4095) rfl rfl (one_of HT_.out (by kernel_rfl)) (by decide) (fun K hK=>?_)
     have hs152:w149.cell? ⟨gb309,1,none⟩=some (.slice (some ad352) x310001_49.length co141):=(blk_cell BK309.out 1).trans rfl
     have hfs152:=blk_frozen BK309.out 1
     have hns152_0:=NB281_309.out
     have hms152_0:=NB309_281.out
     refine skip_ (w1:=?_) (by rfl) rfl ?_ ?_
     rotate_left
     ·go_simp
      first|with_reducible rfl|rfl
     refine hK.out _ _ ?_
     clear hK K
     refine done_ (done_of HT_.out (by kernel_rfl)) ?_
     have hnb153:=NB309_281.out
     have hnc153:=NB281_309.out
     have hnb154:=NB309_0.out
     have hnc154:=NB0_309.out
     obtain ⟨hcz155_0,hcz155_1,hcz155_2,hfz155_0,hfz155_1,hfz155_2⟩:=ybc BK309.out
     have hnb156:=NB281_0.out
     have hnc156:=NB0_281.out
     obtain ⟨hcz157_0,hcz157_1,hcz157_2,hfz157_0,hfz157_1,hfz157_2⟩:=ybc BK281.out
     try go_wp2
     refine bodyPost_ret (results_cell_row rfl _ _ gb281 32 #[.int .i64 x310000_49,.slice Ao151 y356.length co151,.int .i64 x310002_49] (0,0) _ rfl (by (with_reducible repeat (first|refine ybn ?_ _|refine ybd ?_|refine yba ?_ _));refine blk_put (cs:= #[.int .i64 x310000_49,.slice Ao151 y356.length co151,.int .i64 0]) ?_ 2 _ rfl;(with_reducible repeat (first|refine ybn ?_ _|refine ybd ?_|refine yba ?_ _));refine blk_put (cs:= #[.int .i64 x310000_49,.slice none 0 0,.int .i64 0]) ?_ 1 _ rfl;(with_reducible repeat (first|refine ybn ?_ _|refine ybd ?_|refine yba ?_ _));refine blk_put (cs:= #[.int .i64 0,.slice none 0 0,.int .i64 0]) ?_ 0 _ rfl;(with_reducible repeat (first|refine ybn ?_ _|refine ybd ?_|refine yba ?_ _));refine blk_far ?_ NB281_309.out _;(with_reducible repeat (first|refine ybn ?_ _|refine ybd ?_|refine yba ?_ _));exact BK281.out) Try.underlying32 rfl (by kernel_rfl)) rfl ?_
     exact ⟨_,by first|rfl|(simp [errW_none,errW_some] <;> rfl)|(simp only [← hji48];first|rfl|(simp [errW_none,errW_some] <;> rfl))|(simp [*,errW_none,errW_some] <;> rfl),by (with_reducible repeat (first|apply Kd.Ya|apply Kd.Yn|apply Kd.Yd));exact Kd.R_mono (Kd.R_far (p:=⟨gb281,2,none⟩) (Kd.R_far (p:=⟨gb281,1,none⟩) (Kd.R_far (p:=⟨gb281,0,none⟩) (Kd.R_far (p:=⟨gb309,1,none⟩) (Kd.R_types (Kd.R_types HO358.out BK309.out (by decide)) BK281.out (by decide)) (fun _ hk=>hk.1.2) (.slice Ao151 y356.length co151)) (fun _ hk=>hk.2) (.int .i64 x310000_49)) (fun _ hk=>hk.2) (.slice Ao151 y356.length co151)) (fun _ hk=>hk.2) (.int .i64 x310002_49)) (fun _ hk=>trivial),by repeat (first|(with_reducible first|exact HI0.out|apply IsS86.alloc|apply IsS86.drewN|apply IsS86.drew|apply IsS86.set_1|refine IsS86.far ?_ NB0_281.out _|refine IsS86.far ?_ NB0_309.out _)|exact HI0.out),by repeat (first|(with_reducible first|exact HB.out|apply yea|apply yen|apply yed|refine below_set ?_ (IsS86.ge HI0.out)|refine below_set ?_ GE281.out|refine below_set ?_ GE309.out)|exact HB.out),by repeat (first|(with_reducible first|exact HK.out|apply KeepBut.set_|apply keep_drewN|apply keep_drew|apply keep_alloc|refine keep_far ?_ GW281.out _|refine keep_far ?_ GW309.out _)|exact HK.out)⟩
end Go.Proofs.Ythfbjkniinfgcaa.P
