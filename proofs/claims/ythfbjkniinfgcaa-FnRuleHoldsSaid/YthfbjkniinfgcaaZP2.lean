/- The machine's side: each Go function as a plain Lean function and the proof that the machine's call does what that function says; written by this session's own program over the kit's print. -/
import Derived.Test.YthfbjkniinfgcaaZP1
namespace Go.Proofs.Ythfbjkniinfgcaa.P
set_option maxHeartbeats 8000000
set_option maxRecDepth 100000
open Go.RowKit Go.Proofs.YthfbjkniinfgcaaW.PrintWords Go.Proofs.YthfbjkniinfgcaaW.PrintLast Go.Proofs.YthfbjkniinfgcaaW.PrintMore
attribute [local go_sem] max2_int min2_int max_two min_two max_three min_three max_four min_four   -- for this text's walks alone
set_option linter.unusedVariables false
set_option linter.unusedSimpArgs false
def IsS86 (w0 W:World)(g:Nat)(f0:List Int)(f1:Int):Prop:=∃ A0 c0,W.heap[g]?=some (.cells #[.slice A0 f0.length c0,.int .i64 f1] 86 (0,0))∧w0.heap.size≤g∧Kd.C (Kd.int .u8) w0 A0 f0.length f0
theorem IsS86.grown {w0 W:World}{g:Nat}{f0:List Int}{f1:Int}{W1:World}{row:Option Nat}(h:IsS86 w0 W g f0 f1)(hw:W.grownBy W1 row)(hne:some g≠row):IsS86 w0 W1 g f0 f1:=by
 obtain ⟨A0,c0,hb,hg,hr0⟩:=h
 exact ⟨A0,c0,blk_grown hb hw hne,hg,hr0⟩
theorem IsS86.own_neN {w0 W:World}{g:Nat}{f0:List Int}{f1:Int}{α:Type}{d:Kd α}{e:Nat}{base:Nat}{ok:Nat→Prop}{v:Value}{xs:List α}(h:IsS86 w0 W g f0 f1)(ho:Kd.N d e W base ok v xs)(ht:e≠86):some g≠v.ownBlock:=by
 obtain ⟨A0,c0,hb,hg,hr0⟩:=h
 exact Kd.N_ne ho hb ht
theorem IsS86.fresh {w0 W:World}{g:Nat}{f0:List Int}{f1:Int}(h:IsS86 w0 W g f0 f1):∀ k,W.heap.size≤k→k≠g:=by
 obtain ⟨A0,c0,hb,hg,hr0⟩:=h
 exact Kd.freshB hb
theorem IsS86.kept {w0 W:World}{g:Nat}{f0:List Int}{f1:Int}{W1:World}{S:Nat→Prop}(h:IsS86 w0 W g f0 f1)(hk:Kept W W1 S)(hne:¬ S g):IsS86 w0 W1 g f0 f1:=by
 obtain ⟨A0,c0,hb,hg,hr0⟩:=h
 exact ⟨A0,c0,blk_kept hb hk hne,hg,hr0⟩
theorem IsS86.below {w0 W:World}{g:Nat}{f0:List Int}{f1:Int}{W1:World}(h:IsS86 w0 W g f0 f1)(hw:Below W.heap.size W W1):IsS86 w0 W1 g f0 f1:=h.grown (grown_of_below hw none) (by simp)
theorem IsS86.alloc {w0 W:World}{g:Nat}{f0:List Int}{f1:Int}(h:IsS86 w0 W g f0 f1)(o:Obj):IsS86 w0 (W.alloc o) g f0 f1:=h.below (yea (Below.refl _ _) o)
theorem IsS86.drewN {w0 W:World}{g:Nat}{f0:List Int}{f1:Int}(h:IsS86 w0 W g f0 f1)(m:Nat):IsS86 w0 (W.drewN m) g f0 f1:=h
theorem IsS86.drew {w0 W:World}{g:Nat}{f0:List Int}{f1:Int}(h:IsS86 w0 W g f0 f1):IsS86 w0 W.drew g f0 f1:=h
theorem IsS86.at_ {w0 W:World}{g:Nat}{f0:List Int}{f1:Int}{w':World}{m:Nat}(hq:W.drewN m=w')(h:IsS86 w0 W g f0 f1):IsS86 w0 w' g f0 f1:=by subst hq;exact IsS86.drewN h m
theorem IsS86.apart {w0 W:World}{g:Nat}{f0:List Int}{f1:Int}{α:Type}{d:Kd α}{e:Nat}{base:Nat}{ok:Nat→Prop}{v:Value}{xs:List α}(h:IsS86 w0 W g f0 f1)(ho:d.R e W base ok v xs)(ht:∀ q,q∈e :: d.E→q≠86):d.R e W base (fun k=>ok k∧k≠g) v xs:=by
 obtain ⟨A0,c0,hb,hg,hr0⟩:=h
 exact Kd.R_types ho hb ht
theorem IsS86.own_ne {w0 W:World}{g:Nat}{f0:List Int}{f1:Int}{α:Type}{d:Kd α}{e:Nat}{base:Nat}{ok:Nat→Prop}{v:Value}{xs:List α}(h:IsS86 w0 W g f0 f1)(ho:d.R e W base ok v xs)(ht:e≠86):some g≠v.ownBlock:=by
 obtain ⟨A0,c0,hb,hg,hr0⟩:=h
 exact Kd.R_ne ho hb ht
theorem IsS86.apartQ {w0 W:World}{g:Nat}{f0:List Int}{f1:Int}{α:Type}{d:Kd α}{e:Nat}{base:Nat}{ok:Nat→Prop}{v:Value}{xs:List α}(h:IsS86 w0 W g f0 f1)(ho:d.Q e W base ok v xs)(ht:∀ q,q∈e :: d.E→q≠86):d.Q e W base (fun k=>ok k∧k≠g) v xs:=by
 obtain ⟨A0,c0,hb,hg,hr0⟩:=h
 exact Kd.Q_types ho hb ht
theorem IsS86.own_neQ {w0 W:World}{g:Nat}{f0:List Int}{f1:Int}{α:Type}{d:Kd α}{e:Nat}{base:Nat}{ok:Nat→Prop}{v:Value}{xs:List α}(h:IsS86 w0 W g f0 f1)(ho:d.Q e W base ok v xs)(ht:e≠86):some g≠v.ownBlock:=by
 obtain ⟨A0,c0,hb,hg,hr0⟩:=h
 exact Kd.Q_ne ho hb ht
theorem IsS86.apartS {w0 W:World}{g:Nat}{f0:List Int}{f1:Int}{α:Type}{d:Kd α}{e:Nat}{base:Nat}{ok:Nat→Prop}{v:Value}{xs:List α}(h:IsS86 w0 W g f0 f1)(ho:d.S e W base ok v xs)(ht:∀ q,q∈e :: d.E→q≠86):d.S e W base (fun k=>ok k∧k≠g) v xs:=by
 obtain ⟨A0,c0,hb,hg,hr0⟩:=h
 exact Kd.S_types ho hb ht
theorem IsS86.own_neS {w0 W:World}{g:Nat}{f0:List Int}{f1:Int}{α:Type}{d:Kd α}{e:Nat}{base:Nat}{ok:Nat→Prop}{v:Value}{xs:List α}(h:IsS86 w0 W g f0 f1)(ho:d.S e W base ok v xs)(ht:e≠86):some g≠v.ownBlock:=by
 obtain ⟨A0,c0,hb,hg,hr0⟩:=h
 exact Kd.S_ne ho hb ht
theorem IsS86.lt {w0 W:World}{g:Nat}{f0:List Int}{f1:Int}(h:IsS86 w0 W g f0 f1):g < W.heap.size:=by
 obtain ⟨A0,c0,hb,hg,hr0⟩:=h
 exact blk_lt hb
theorem IsS86.ge {w0 W:World}{g:Nat}{f0:List Int}{f1:Int}(h:IsS86 w0 W g f0 f1):w0.heap.size≤g:=by
 obtain ⟨A0,c0,hb,hg,hr0⟩:=h
 exact hg
theorem IsS86.ne_blk {w0 W:World}{g:Nat}{f0:List Int}{f1:Int}{a:Nat}{cs:Array Value}{t:TypeId}{fr:Nat × Nat}(h:IsS86 w0 W g f0 f1)(hb2:W.heap[a]?=some (.cells cs t fr))(ht:t≠86):g≠a:=by
 obtain ⟨A0,c0,hb,hg,hr0⟩:=h
 rintro rfl
 rw [hb] at hb2
 injection hb2 with hb2
 injection hb2 with _ ht2
 exact ht ht2.symm
theorem IsS86.far {w0 W:World}{g:Nat}{f0:List Int}{f1:Int}{p:Addr}(h:IsS86 w0 W g f0 f1)(hne:g≠p.block)(u:Value):IsS86 w0 (W.setCell p u) g f0 f1:=by
 obtain ⟨A0,c0,hb,hg,hr0⟩:=h
 exact ⟨A0,c0,blk_far hb hne u,hg,hr0⟩
theorem cellS86_0 {W:World}{g:Nat}{A0:Option Addr}{c0:Nat}{f0:List Int}{f1:Int}(h:W.heap[g]?=some (.cells #[.slice A0 f0.length c0,.int .i64 f1] 86 (0,0))):W.cell? ⟨g,0,none⟩=some (.slice A0 f0.length c0):=(blk_cell h 0).trans rfl
theorem cellS86_1 {W:World}{g:Nat}{A0:Option Addr}{c0:Nat}{f0:List Int}{f1:Int}(h:W.heap[g]?=some (.cells #[.slice A0 f0.length c0,.int .i64 f1] 86 (0,0))):W.cell? ⟨g,1,none⟩=some (.int .i64 f1):=(blk_cell h 1).trans rfl
theorem IsS86.set_1 {w0 W:World}{g:Nat}{f0:List Int}{f1:Int}(h:IsS86 w0 W g f0 f1)(x:Int):IsS86 w0 (W.setCell ⟨g,1,none⟩ (.int .i64 x)) g f0 x:=by
 obtain ⟨A0,c0,hb,hg,hr0⟩:=h
 exact ⟨A0,c0,by simpa using blk_set hb 1 (.int .i64 x),hg,hr0⟩
theorem IsS86.new (w0 W:World)(A0:Option Addr)(c0:Nat)(f0:List Int)(f1:Int)(hB:Below w0.heap.size w0 W)(hr0:Kd.C (Kd.int .u8) w0 A0 f0.length f0):IsS86 w0 (W.alloc (.cells #[.slice A0 f0.length c0,.int .i64 f1] 86)) W.heap.size f0 f1:=⟨A0,c0,by simpa using heap_alloc_new W _,hB.size,hr0⟩

def spec_l20Rd_pick.j0:Nat→Int→Bool→List Int→Int→Option (Int × Int)
 | 0,_,_,_,_=>none
 | k + 1,x1,x24,x1000,x1001=>if x24=true then (some (0,x1001)) else (if (wrap64 (x1001 - 1)) < (x1000.length:Int) then (if 0≤(wrap64 (x1001 - 1)) then (if x1=0 then (none) else (some (Int.tmod (wrap64 (rd x1000 (wrap64 (x1001 - 1)))) x1,x1001))) else (none)) else (if (x1000.length:Int)=0 then (none) else (if 0≤(Int.tmod (wrap64 (x1001 - 1)) (x1000.length:Int)) then (if (Int.tmod (wrap64 (x1001 - 1)) (x1000.length:Int)) < (x1000.length:Int) then (if 0≤(Int.tmod (wrap64 ((wrap64 ((wrap64 (x1001 - 1)) * 7)) + 3)) (x1000.length:Int)) then (if (Int.tmod (wrap64 ((wrap64 ((wrap64 (x1001 - 1)) * 7)) + 3)) (x1000.length:Int)) < (x1000.length:Int) then (if x1=0 then (none) else (some (Int.tmod (Go.bits .xor .i64 (wrap64 ((wrap64 ((wrap64 ((wrap64 ((wrap64 (rd x1000 (Int.tmod (wrap64 (x1001 - 1)) (x1000.length:Int)))) * 131)) + (wrap64 ((wrap64 (rd x1000 (Int.tmod (wrap64 ((wrap64 ((wrap64 (x1001 - 1)) * 7)) + 3)) (x1000.length:Int)))) * 1117)))) + (wrap64 ((wrap64 (x1001 - 1)) * 29)))) + (wrap64 ((wrap64 (Int.tdiv (wrap64 (x1001 - 1)) (x1000.length:Int))) * 53)))) (wrap64 (Int.tdiv (wrap64 ((wrap64 ((wrap64 ((wrap64 ((wrap64 (rd x1000 (Int.tmod (wrap64 (x1001 - 1)) (x1000.length:Int)))) * 131)) + (wrap64 ((wrap64 (rd x1000 (Int.tmod (wrap64 ((wrap64 ((wrap64 (x1001 - 1)) * 7)) + 3)) (x1000.length:Int)))) * 1117)))) + (wrap64 ((wrap64 (x1001 - 1)) * 29)))) + (wrap64 ((wrap64 (Int.tdiv (wrap64 (x1001 - 1)) (x1000.length:Int))) * 53)))) 64))) x1,x1001))) else (none)) else (none)) else (none)) else (none))))
def spec_l20Rd_pick.f (k:Nat)(s0_0:List Int)(s0_1:Int)(a1:Int):Option (Int × Int):=if a1 < 1 then (spec_l20Rd_pick.j0 k a1 true s0_0 (wrap64 (s0_1 + 1))) else (spec_l20Rd_pick.j0 k a1 ((s0_0.length:Int) == 0) s0_0 (wrap64 (s0_1 + 1)))
theorem spec_l20Rd_pick.calls (k:Nat)(g:Nat)(s0_0:List Int)(s0_1:Int)(a1:Int)(r1:Int)(r2:Int)(w0 w:World)(hI:IsS86 w0 w g s0_0 s0_1)(hB:Below w0.heap.size w0 w)(h:spec_l20Rd_pick.f k s0_0 s0_1 a1=some (r1,r2)) :
  Calls Try.prog 81 #[.pointer (some ⟨g,0,none⟩),.int .i64 a1] w fun e w'=>e= .returned (.int .i64 r1)∧IsS86 w0 w' g s0_0 r2∧Below w0.heap.size w0 w'∧KeepBut w w' g none:=by
 have HI0:=yam hI
 have HK:=yam (KeepBut.refl w g none)
 have HL:=yam hB.size
 clear hI
 have HW0:=yam hB.size
 have HB:=yam hB
 clear hB
 unfold spec_l20Rd_pick.f at h
 have H:=h
 clear h
 have HC3:=yam H
 clear H
 obtain ⟨ASz4_0,cSz4_0,HGz4,hgz4,HSz4_0⟩:=HI0.out
 have hcz4_0:=cellS86_0 HGz4
 have hcz4_1:=cellS86_1 HGz4
 have hfz4_1:=blk_frozen HGz4 1
 clear HGz4 hgz4
 go_enter Try.func81,Try.ntmps81
 go_upto_region 2 with (fail)
 repeat (go_quiet (fail);go_upto_region 2 with (fail))
 go_cut [24] (fun v24 wc=>∃ (kq:Nat) (x24_2:Bool),v24= .bool x24_2∧Aside0 (spec_l20Rd_pick.j0 kq a1 x24_2 s0_0 (wrap64 (s0_1 + 1))=some (r1,r2))∧Aside0 (kq≤k)∧Aside0 (IsS86 w0 wc g s0_0 (wrap64 (s0_1 + 1)))∧Aside0 (KeepBut w wc g none)∧Aside0 (Below w0.heap.size w0 wc))
 case first =>
  have H:=HC3.out
  clear HC3
  replace H:=yis H;obtain ⟨c5b0,H⟩ | ⟨c5b0,H⟩:=H
  ·(first|rw [c5b0]|(simp only [i64_w,i32_w];rw [c5b0])|skip)
   replace H:=yam H
   go_wp2
   repeat (go_quiet (fail);try go_wp2)
   go_meet
   case rel=>exact ⟨_,(true),yeq,H,⟨by first|omega|exact Nat.le_refl _⟩,⟨by repeat (first|(with_reducible first|exact HI0.out|apply IsS86.alloc|apply IsS86.drewN|apply IsS86.drew|apply IsS86.set_1)|exact HI0.out)⟩,⟨by repeat (first|(with_reducible first|exact HK.out|apply KeepBut.set_|apply keep_drewN|apply keep_drew|apply keep_alloc)|exact HK.out)⟩,⟨by repeat (first|(with_reducible first|exact HB.out|apply yea|apply yen|apply yed|refine below_set ?_ (IsS86.ge HI0.out))|exact HB.out)⟩⟩
  (first|rw [c5b0]|(simp only [i64_w,i32_w];rw [c5b0])|skip)
  replace H:=yam H
  obtain ⟨ASz6_0,cSz6_0,HGz6,hgz6,HSz6_0⟩:=HI0.out
  have hcz6_0:=cellS86_0 HGz6
  have hcz6_1:=cellS86_1 HGz6
  have hfz6_1:=blk_frozen HGz6 1
  clear HGz6 hgz6
  go_wp2
  repeat (go_quiet (fail);try go_wp2)
  go_meet
  case rel=>exact ⟨_,(((s0_0.length:Int) == 0)),yeq,H,⟨by first|omega|exact Nat.le_refl _⟩,⟨by repeat (first|(with_reducible first|exact HI0.out|apply IsS86.alloc|apply IsS86.drewN|apply IsS86.drew|apply IsS86.set_1)|exact HI0.out)⟩,⟨by repeat (first|(with_reducible first|exact HK.out|apply KeepBut.set_|apply keep_drewN|apply keep_drew|apply keep_alloc)|exact HK.out)⟩,⟨by repeat (first|(with_reducible first|exact HB.out|apply yea|apply yen|apply yed|refine below_set ?_ (IsS86.ge HI0.out))|exact HB.out)⟩⟩
 case rest =>
  clear HC3
  try clear hcz4_0
  try clear hcz4_1
  try clear hfz4_1
  obtain ⟨kq,x24_2,rfl,HA,HJ2,HI0,HK,HB⟩:=hcut
  rcases kq with _|kj2
  ·exact absurd HA.out (by simp [spec_l20Rd_pick.j0])
  obtain ⟨H⟩:=HA
  simp only [spec_l20Rd_pick.j0] at H
  cases x24_2
  rotate_left
  ·replace H:=ytt H
   simp only [Option.some.injEq,Prod.mk.injEq] at H
   obtain ⟨rfl,rfl⟩:=H
   go_wp2
   repeat (go_quiet (fail);try go_wp2)
   go_ret
   exact ⟨yer,by repeat (first|(with_reducible first|exact HI0.out|apply IsS86.alloc|apply IsS86.drewN|apply IsS86.drew|apply IsS86.set_1)|exact HI0.out),by repeat (first|(with_reducible first|exact HB.out|apply yea|apply yen|apply yed|refine below_set ?_ (IsS86.ge HI0.out))|exact HB.out),by repeat (first|(with_reducible first|exact HK.out|apply KeepBut.set_|apply keep_drewN|apply keep_drew|apply keep_alloc)|exact HK.out)⟩
  replace H:=yff H
  replace H:=yis H;obtain ⟨c8b0,H⟩ | ⟨c8b0,H⟩:=H
  ·obtain ⟨ji9,hji9⟩:∃ j_:Int,(wrap64 ((wrap64 (s0_1 + 1)) - 1))=j_:=⟨_,rfl⟩
   replace H:(if 0≤(ji9) then (if a1=0 then (none) else (some (Int.tmod (wrap64 (rd s0_0 (ji9))) a1,(wrap64 (s0_1 + 1))))) else (none))=some (r1,r2):=by first|(rw [hji9] at H;exact H)|(simp only [hji9] at H ⊢;exact H)
   (try rw [hji9] at c8b0)
   have hji9w:(IntKind.i64.wrap ((wrap64 (s0_1 + 1)) - 1))=ji9:=(i64_w _).trans hji9
   replace H:=yif H;obtain ⟨c10b0,H⟩:=H
   replace H:=yit H;obtain ⟨c11,H⟩ | ⟨c11,H⟩:=H
   ·exact absurd H (by simp)
   have c11b0:(a1 == 0)=false:=beq_eq_false_iff_ne.mpr c11
   have c11b1:(a1 != 0)=true:=bne_iff_ne.mpr c11
   simp only [Option.some.injEq,Prod.mk.injEq] at H
   obtain ⟨rfl,rfl⟩:=H
   obtain ⟨ASz12_0,cSz12_0,HGz12,hgz12,HSz12_0⟩:=HI0.out
   have hcz12_0:=cellS86_0 HGz12
   have hcz12_1:=cellS86_1 HGz12
   have hfz12_1:=blk_frozen HGz12 1
   clear HGz12 hgz12
   obtain ⟨ad101,e101,hx101_0,p101,q101⟩:=yat HSz12_0 (ji9)
   cases e101
   replace hx101_0:=pw_cell_below HB.out hx101_0
   go_wp2
   repeat (go_quiet (fail);try go_wp2)
   go_ret
   exact ⟨by first|rfl|(simp [errW_none,errW_some] <;> rfl)|(simp only [← hji9];first|rfl|(simp [errW_none,errW_some] <;> rfl))|(simp [*,errW_none,errW_some] <;> rfl),by repeat (first|(with_reducible first|exact HI0.out|apply IsS86.alloc|apply IsS86.drewN|apply IsS86.drew|apply IsS86.set_1)|exact HI0.out),by repeat (first|(with_reducible first|exact HB.out|apply yea|apply yen|apply yed|refine below_set ?_ (IsS86.ge HI0.out))|exact HB.out),by repeat (first|(with_reducible first|exact HK.out|apply KeepBut.set_|apply keep_drewN|apply keep_drew|apply keep_alloc)|exact HK.out)⟩
  replace H:=yit H;obtain ⟨c13,H⟩ | ⟨c13,H⟩:=H
  ·exact absurd H (by simp)
  have c13b0:((s0_0.length:Int) == 0)=false:=beq_eq_false_iff_ne.mpr c13
  have c13b1:((s0_0.length:Int) != 0)=true:=bne_iff_ne.mpr c13
  have c13b2:¬ (s0_0=[]):=fun h_=>c13 (by rw [h_];rfl)
  obtain ⟨ji14,hji14⟩:∃ j_:Int,(Int.tmod (wrap64 ((wrap64 (s0_1 + 1)) - 1)) (s0_0.length:Int))=j_:=⟨_,rfl⟩
  replace H:(if 0≤(ji14) then (if (ji14) < (s0_0.length:Int) then (if 0≤(Int.tmod (wrap64 ((wrap64 ((wrap64 ((wrap64 (s0_1 + 1)) - 1)) * 7)) + 3)) (s0_0.length:Int)) then (if (Int.tmod (wrap64 ((wrap64 ((wrap64 ((wrap64 (s0_1 + 1)) - 1)) * 7)) + 3)) (s0_0.length:Int)) < (s0_0.length:Int) then (if a1=0 then (none) else (some (Int.tmod (Go.bits .xor .i64 (wrap64 ((wrap64 ((wrap64 ((wrap64 ((wrap64 (rd s0_0 (ji14))) * 131)) + (wrap64 ((wrap64 (rd s0_0 (Int.tmod (wrap64 ((wrap64 ((wrap64 ((wrap64 (s0_1 + 1)) - 1)) * 7)) + 3)) (s0_0.length:Int)))) * 1117)))) + (wrap64 ((wrap64 ((wrap64 (s0_1 + 1)) - 1)) * 29)))) + (wrap64 ((wrap64 (Int.tdiv (wrap64 ((wrap64 (s0_1 + 1)) - 1)) (s0_0.length:Int))) * 53)))) (wrap64 (Int.tdiv (wrap64 ((wrap64 ((wrap64 ((wrap64 ((wrap64 (rd s0_0 (ji14))) * 131)) + (wrap64 ((wrap64 (rd s0_0 (Int.tmod (wrap64 ((wrap64 ((wrap64 ((wrap64 (s0_1 + 1)) - 1)) * 7)) + 3)) (s0_0.length:Int)))) * 1117)))) + (wrap64 ((wrap64 ((wrap64 (s0_1 + 1)) - 1)) * 29)))) + (wrap64 ((wrap64 (Int.tdiv (wrap64 ((wrap64 (s0_1 + 1)) - 1)) (s0_0.length:Int))) * 53)))) 64))) a1,(wrap64 (s0_1 + 1))))) else (none)) else (none)) else (none)) else (none))=some (r1,r2):=by first|(rw [hji14] at H;exact H)|(simp only [hji14] at H ⊢;exact H)
  by_cases c15:0≤(ji14)
  rotate_left
  ·rw [if_neg c15] at H
   exact absurd H (by simp)

  rw [if_pos c15] at H
  have c15b0:decide (0≤(ji14))=true:=decide_eq_true c15
  clear c15
  replace H:=yif H;obtain ⟨c16b0,H⟩:=H
  obtain ⟨ji17,hji17⟩:∃ j_:Int,(Int.tmod (wrap64 ((wrap64 ((wrap64 ((wrap64 (s0_1 + 1)) - 1)) * 7)) + 3)) (s0_0.length:Int))=j_:=⟨_,rfl⟩
  replace H:(if 0≤(ji17) then (if (ji17) < (s0_0.length:Int) then (if a1=0 then (none) else (some (Int.tmod (Go.bits .xor .i64 (wrap64 ((wrap64 ((wrap64 ((wrap64 ((wrap64 (rd s0_0 (ji14))) * 131)) + (wrap64 ((wrap64 (rd s0_0 (ji17))) * 1117)))) + (wrap64 ((wrap64 ((wrap64 (s0_1 + 1)) - 1)) * 29)))) + (wrap64 ((wrap64 (Int.tdiv (wrap64 ((wrap64 (s0_1 + 1)) - 1)) (s0_0.length:Int))) * 53)))) (wrap64 (Int.tdiv (wrap64 ((wrap64 ((wrap64 ((wrap64 ((wrap64 (rd s0_0 (ji14))) * 131)) + (wrap64 ((wrap64 (rd s0_0 (ji17))) * 1117)))) + (wrap64 ((wrap64 ((wrap64 (s0_1 + 1)) - 1)) * 29)))) + (wrap64 ((wrap64 (Int.tdiv (wrap64 ((wrap64 (s0_1 + 1)) - 1)) (s0_0.length:Int))) * 53)))) 64))) a1,(wrap64 (s0_1 + 1))))) else (none)) else (none))=some (r1,r2):=by first|(rw [hji17] at H;exact H)|(simp only [hji17] at H ⊢;exact H)
  replace H:=yif H;obtain ⟨c18b0,H⟩:=H
  replace H:=yif H;obtain ⟨c19b0,H⟩:=H
  replace H:=yit H;obtain ⟨c20,H⟩ | ⟨c20,H⟩:=H
  ·exact absurd H (by simp)
  have c20b0:(a1 == 0)=false:=beq_eq_false_iff_ne.mpr c20
  have c20b1:(a1 != 0)=true:=bne_iff_ne.mpr c20
  simp only [Option.some.injEq,Prod.mk.injEq] at H
  obtain ⟨rfl,rfl⟩:=H
  obtain ⟨ASz21_0,cSz21_0,HGz21,hgz21,HSz21_0⟩:=HI0.out
  have hcz21_0:=cellS86_0 HGz21
  have hcz21_1:=cellS86_1 HGz21
  have hfz21_1:=blk_frozen HGz21 1
  clear HGz21 hgz21
  obtain ⟨ad102,e102,hx102_0,p102,q102⟩:=yat HSz21_0 (ji14)
  cases e102
  replace hx102_0:=pw_cell_below HB.out hx102_0
  obtain ⟨ad103,e103,hx103_0,p103,q103⟩:=yat HSz21_0 (ji17)
  obtain rfl:ad102=ad103:=(by injection e103)
  replace hx103_0:=pw_cell_below HB.out hx103_0
  go_wp2
  repeat (go_quiet (fail);try go_wp2)
  go_ret
  exact ⟨by first|rfl|(simp [errW_none,errW_some] <;> rfl)|(simp only [← hji14,← hji17];first|rfl|(simp [errW_none,errW_some] <;> rfl))|(simp [*,errW_none,errW_some] <;> rfl),by repeat (first|(with_reducible first|exact HI0.out|apply IsS86.alloc|apply IsS86.drewN|apply IsS86.drew|apply IsS86.set_1)|exact HI0.out),by repeat (first|(with_reducible first|exact HB.out|apply yea|apply yen|apply yed|refine below_set ?_ (IsS86.ge HI0.out))|exact HB.out),by repeat (first|(with_reducible first|exact HK.out|apply KeepBut.set_|apply keep_drewN|apply keep_drew|apply keep_alloc)|exact HK.out)⟩
def spec_l20Open.f (l0:List Int):Option (List Int × Int):=if (l0.length:Int) > 2000 then (if 2000≤(l0.length:Int) then (some (l0.take 2000,0)) else (none)) else (some (l0,0))
theorem spec_l20Open.calls (A0:Option Addr)(c0:Nat)(l0:List Int)(r1:List Int)(r2:Int)(w0 w:World)(hB:Below w0.heap.size w0 w)(hr0:Kd.C (Kd.int .u8) w0 A0 l0.length l0)(hc0:l0.length≤c0)(h:spec_l20Open.f l0=some (r1,r2)) :
  Calls Try.prog 59 #[.slice A0 l0.length c0] w fun e w'=>∃ g_:Nat,e= .returned (.pointer (some ⟨g_,0,none⟩))∧IsS86 w0 w' g_ r1 r2∧Below w0.heap.size w0 w'∧Below w.heap.size w w':=by
 have hu86:=Try.underlying86
 have HR0:=yam hr0
 have HC0:=yam hc0
 clear hr0 hc0
 have HBW:=yam (Below.refl w.heap.size w)
 have HW0:=yam hB.size
 have HB:=yam hB
 clear hB
 unfold spec_l20Open.f at h
 have H:=h
 clear h
 replace H:=yit H;obtain ⟨c2,H⟩ | ⟨c2,H⟩:=H
 rotate_left
 ·have c2b0:decide (2000 < (l0.length:Int))=false:=decide_eq_false c2
  have c2b1:decide (2000 < l0.length)=false:=decide_eq_false (by omega)
  clear c2
  simp only [Option.some.injEq,Prod.mk.injEq] at H
  obtain ⟨rfl,rfl⟩:=H
  go_enter Try.func59,Try.ntmps59
  go_wp2_with (first|(refine ybe 10 #[.slice A0 l0.length c0,.int .i64 0] 86 ?_;intro gb197 hg w6 hbox hb;replace HB:=yam (below_step (yez HB.out) hb);have BK197:=yam (hbox);have GW197:=yam ((by rw [hg];exact (below_size (by repeat (first|(with_reducible first|exact HBW.out|apply yea|apply yen|apply yed)|exact HBW.out))):w.heap.size≤gb197));have GE197:=yam ((Nat.le_trans HW0.out (by rw [hg];exact (below_size (by repeat (first|(with_reducible first|exact HBW.out|apply yea|apply yen|apply yed)|exact HBW.out))):w.heap.size≤gb197):w0.heap.size≤gb197));replace HBW:=yam (below_step HBW.out hb);clear hb hbox hg))
  go_ret
  exact ⟨_,rfl,(show IsS86 w0 _ gb197 l0 0 from ⟨_,_,by (with_reducible repeat (first|refine ybn ?_ _|refine ybd ?_|refine yba ?_ _));exact BK197.out,GE197.out,HR0.out⟩),yhb,by repeat (first|(with_reducible first|exact HBW.out|apply yea|apply yen|apply yed|refine below_set ?_ GW197.out)|exact HBW.out)⟩
 have c2b0:decide (2000 < (l0.length:Int))=true:=decide_eq_true c2
 have c2b1:decide (2000 < l0.length)=true:=decide_eq_true (by omega)
 clear c2
 replace H:=yig H;obtain ⟨c3,H⟩:=H
 have c3b0:=eq_true c3
 have c3b1:decide (2000≤(l0.length:Int))=true:=decide_eq_true c3
 clear c3
 simp only [Option.some.injEq,Prod.mk.injEq] at H
 obtain ⟨rfl,rfl⟩:=H
 obtain ⟨i04,hi04,_,hsz4,_⟩:=info_parts info5
 obtain ⟨hcut4,hA4,hC4⟩:=print_take_of (P:=Try.prog) (Value.int .u8) 0 22 5 .i64 Try.underlying22 hi04 hsz4 A0 c0 l0 2000 (by omega) (ydt) HC0.out
 have HR195:=yam (Kd.C_of_reads (h1:=fun _=>rfl) (hA4 _ (Kd.reads_of_C HR0.out)))
 have HC195:=yam hC4
 clear hA4 hC4 hi04 hsz4
 go_enter Try.func59,Try.ntmps59
 go_wp2_with (first|(refine ybe 10 #[.slice A0 (l0.take 2000).length c0,.int .i64 0] 86 ?_;intro gb196 hg w5 hbox hb;replace HB:=yam (below_step (yez HB.out) hb);have BK196:=yam (hbox);have GW196:=yam ((by rw [hg];exact (below_size (by repeat (first|(with_reducible first|exact HBW.out|apply yea|apply yen|apply yed)|exact HBW.out))):w.heap.size≤gb196));have GE196:=yam ((Nat.le_trans HW0.out (by rw [hg];exact (below_size (by repeat (first|(with_reducible first|exact HBW.out|apply yea|apply yen|apply yed)|exact HBW.out))):w.heap.size≤gb196):w0.heap.size≤gb196));replace HBW:=yam (below_step HBW.out hb);clear hb hbox hg))
 go_ret
 exact ⟨_,rfl,(show IsS86 w0 _ gb196 (l0.take 2000) 0 from ⟨_,_,by (with_reducible repeat (first|refine ybn ?_ _|refine ybd ?_|refine yba ?_ _));exact BK196.out,GE196.out,HR195.out⟩),yhb,by repeat (first|(with_reducible first|exact HBW.out|apply yea|apply yen|apply yed|refine below_set ?_ GW196.out)|exact HBW.out)⟩
def spec_l20Rd_odd.f (k:Nat)(s0_0:List Int)(s0_1:Int)(a1:Int):Option (Bool × Int):=if a1 > 0 then ((spec_l20Rd_pick.f k s0_0 s0_1 a1).bind fun bt104=>(some ((bt104.1 == (wrap64 (a1 - 1))),bt104.2))) else (some (false,s0_1))
theorem spec_l20Rd_odd.calls (k:Nat)(g:Nat)(s0_0:List Int)(s0_1:Int)(a1:Int)(r1:Bool)(r2:Int)(w0 w:World)(hI:IsS86 w0 w g s0_0 s0_1)(hB:Below w0.heap.size w0 w)(h:spec_l20Rd_odd.f k s0_0 s0_1 a1=some (r1,r2)) :
  Calls Try.prog 68 #[.pointer (some ⟨g,0,none⟩),.int .i64 a1] w fun e w'=>e= .returned (.bool r1)∧IsS86 w0 w' g s0_0 r2∧Below w0.heap.size w0 w'∧KeepBut w w' g none:=by
 have HI0:=yam hI
 have HK:=yam (KeepBut.refl w g none)
 have HL:=yam hB.size
 clear hI
 have HW0:=yam hB.size
 have HB:=yam hB
 clear hB
 unfold spec_l20Rd_odd.f at h
 have H:=h
 clear h
 replace H:=yis H;obtain ⟨c3b0,H⟩ | ⟨c3b0,H⟩:=H
 rotate_left
 ·simp only [Option.some.injEq,Prod.mk.injEq] at H
  obtain ⟨rfl,rfl⟩:=H
  go_enter Try.func68,Try.ntmps68
  go_wp2
  go_ret
  exact ⟨yer,by repeat (first|(with_reducible first|exact HI0.out|apply IsS86.alloc|apply IsS86.drewN|apply IsS86.drew|apply IsS86.set_1)|exact HI0.out),by repeat (first|(with_reducible first|exact HB.out|apply yea|apply yen|apply yed|refine below_set ?_ (IsS86.ge HI0.out))|exact HB.out),by repeat (first|(with_reducible first|exact HK.out|apply KeepBut.set_|apply keep_drewN|apply keep_drew|apply keep_alloc)|exact HK.out)⟩
 replace H:=ybi H;obtain ⟨⟨t104,t105⟩,A4,H⟩:=H
 replace H:(some ((t104 == (wrap64 (a1 - 1))),t105))=some (r1,r2):=H
 simp only [Option.some.injEq,Prod.mk.injEq] at H
 obtain ⟨rfl,rfl⟩:=H
 go_enter Try.func68,Try.ntmps68
 go_wp2_with (first|(go_at_call 81;(with_reducible refine (spec_l20Rd_pick.calls k g s0_0 s0_1 a1 t104 t105 w0 _ ?side1 ?side2 A4.out).mono ?_);(case side1=>repeat (first|(with_reducible first|exact HI0.out|apply IsS86.alloc|apply IsS86.drewN|apply IsS86.drew|apply IsS86.set_1)|exact HI0.out));(case side2=>repeat (first|(with_reducible first|exact HB.out|apply yea|apply yen|apply yed|refine below_set ?_ (IsS86.ge HI0.out))|exact HB.out));rintro e w5 ⟨rfl,hi,hb,hk⟩;replace HK:=yam (KeepBut.trans (by repeat (first|(with_reducible first|exact HK.out|apply KeepBut.set_|apply keep_drewN|apply keep_drew|apply keep_alloc)|exact HK.out)) hk (.inl rfl));replace HB:=yam (hb);replace HI0:=yam (hi);(try clear hb);(try clear hk);(try clear hi)))
 go_ret
 exact ⟨yer,by repeat (first|(with_reducible first|exact HI0.out|apply IsS86.alloc|apply IsS86.drewN|apply IsS86.drew|apply IsS86.set_1)|exact HI0.out),by repeat (first|(with_reducible first|exact HB.out|apply yea|apply yen|apply yed|refine below_set ?_ (IsS86.ge HI0.out))|exact HB.out),by repeat (first|(with_reducible first|exact HK.out|apply KeepBut.set_|apply keep_drewN|apply keep_drew|apply keep_alloc)|exact HK.out)⟩
def spec_l20Size.f (k:Nat)(s0_0:List Int)(s0_1:Int)(a1:Int):Option (Int × Int):=(spec_l20Rd_odd.f k s0_0 s0_1 a1).bind fun bt106=>(if bt106.1=true then ((some (([1,5,(-1)]:List Int):List Int)).bind fun y108=>((spec_l20Rd_pick.f k s0_0 bt106.2 3).bind fun bt111=>(if 0≤bt111.1 then (if bt111.1 < (y108.length:Int) then (some (rd y108 bt111.1,bt111.2)) else (none)) else (none)))) else ((some (([2,3,3,4,4]:List Int):List Int)).bind fun y114=>((spec_l20Rd_pick.f k s0_0 bt106.2 5).bind fun bt117=>(if 0≤bt117.1 then (if bt117.1 < (y114.length:Int) then (some (rd y114 bt117.1,bt117.2)) else (none)) else (none)))))
theorem spec_l20Size.calls (k:Nat)(g:Nat)(s0_0:List Int)(s0_1:Int)(a1:Int)(r1:Int)(r2:Int)(w0 w:World)(hI:IsS86 w0 w g s0_0 s0_1)(hB:Below w0.heap.size w0 w)(h:spec_l20Size.f k s0_0 s0_1 a1=some (r1,r2)) :
  Calls Try.prog 65 #[.pointer (some ⟨g,0,none⟩),.int .i64 a1] w fun e w'=>e= .returned (.int .i64 r1)∧IsS86 w0 w' g s0_0 r2∧Below w0.heap.size w0 w'∧KeepBut w w' g none:=by
 have HI0:=yam hI
 have HK:=yam (KeepBut.refl w g none)
 have HL:=yam hB.size
 clear hI
 have HW0:=yam hB.size
 have HB:=yam hB
 clear hB
 unfold spec_l20Size.f at h
 have H:=h
 clear h
 replace H:=ybi H;obtain ⟨⟨t106,t107⟩,A3,H⟩:=H
 replace H:(if t106=true then ((some (([1,5,(-1)]:List Int):List Int)).bind fun y108=>((spec_l20Rd_pick.f k s0_0 t107 3).bind fun bt111=>(if 0≤bt111.1 then (if bt111.1 < (y108.length:Int) then (some (rd y108 bt111.1,bt111.2)) else (none)) else (none)))) else ((some (([2,3,3,4,4]:List Int):List Int)).bind fun y114=>((spec_l20Rd_pick.f k s0_0 t107 5).bind fun bt117=>(if 0≤bt117.1 then (if bt117.1 < (y114.length:Int) then (some (rd y114 bt117.1,bt117.2)) else (none)) else (none)))))=some (r1,r2):=H
 cases t106
 rotate_left
 ·replace H:=ytt H
  obtain ⟨y108,Ny108⟩:∃ y_:List Int,Aside0 (y_=(([1,5,(-1)]:List Int))):=⟨_,⟨rfl⟩⟩
  replace H:((spec_l20Rd_pick.f k s0_0 t107 3).bind fun bt111=>(if 0≤bt111.1 then (if bt111.1 < (y108.length:Int) then (some (rd y108 bt111.1,bt111.2)) else (none)) else (none)))=some (r1,r2):=yhn Ny108.out H
  replace H:=ybi H;obtain ⟨⟨t111,t112⟩,A5,H⟩:=H
  replace H:(if 0≤t111 then (if t111 < (y108.length:Int) then (some (rd y108 t111,t112)) else (none)) else (none))=some (r1,r2):=H
  replace H:=yif H;obtain ⟨c6b0,H⟩:=H
  replace H:=yif H;obtain ⟨c7b0,H⟩:=H
  simp only [Option.some.injEq,Prod.mk.injEq] at H
  obtain ⟨rfl,rfl⟩:=H
  go_enter Try.func65,Try.ntmps65
  go_wp2_with (first|(refine goesL_ (some 7) rfl rfl Try.func68 (by kernel_rfl) rfl #[.pointer (some ⟨g,0,none⟩),.int .i64 a1] rfl ymd ?_;(with_reducible refine (spec_l20Rd_odd.calls k g s0_0 s0_1 a1 true t107 w0 _ ?side1 ?side2 A3.out).mono ?_);(case side1=>repeat (first|(with_reducible first|exact HI0.out|apply IsS86.alloc|apply IsS86.drewN|apply IsS86.drew|apply IsS86.set_1)|exact HI0.out));(case side2=>repeat (first|(with_reducible first|exact HB.out|apply yea|apply yen|apply yed|refine below_set ?_ (IsS86.ge HI0.out))|exact HB.out));rintro e w8 ⟨rfl,hi,hb,hk⟩;refine ⟨_,rfl,?_⟩;replace HK:=yam (KeepBut.trans (by repeat (first|(with_reducible first|exact HK.out|apply KeepBut.set_|apply keep_drewN|apply keep_drew|apply keep_alloc)|exact HK.out)) hk (.inl rfl));replace HB:=yam (hb);replace HI0:=yam (hi);(try clear hb);(try clear hk);(try clear hi))|((with_reducible refine gate_dst (N:=8) rfl ?_);refine Kd.R_lit (Kd.int .i64) _ 3 ?hg (N:=8) ?hd (xs:=([1,5,(-1)]:List Int)) (inner:=[.int .i64 1,.int .i64 5,.int .i64 (-1)]) (ok:=fun _=>True) (okp:=fun _=>True) ?hr ?hp (fun _ hk=>hk) trivial (Below.refl _ _) (Nat.le_refl _) (by simp) ?_;(case hd=>rfl);(case hg=>rfl);(case hr=>first|(go_simp;done)|(go_simp;rfl));(case hp=>exact (Reps.one (show Kd.M (Kd.int .i64) _ _ _ 1 [.int .i64 1] from rfl) (Reps.one (show Kd.M (Kd.int .i64) _ _ _ 5 [.int .i64 5] from rfl) (Reps.one (show Kd.M (Kd.int .i64) _ _ _ (-1) [.int .i64 (-1)] from rfl) (Reps.none _ _)))));intro v109 w9 ho10 hb hg_ hnew_;clear hg_ hnew_;(first|rw [← Ny108.out] at ho10|(simp only [Int.reduceToNat] at ho10;rw [← Ny108.out] at ho10));have HO110:=yam (Kd.R_lower ho10 (keep_size (w:=w) (g:=g) (row:=none) (by repeat (first|(with_reducible first|exact HK.out|apply KeepBut.set_|apply keep_drewN|apply keep_drew|apply keep_alloc)|exact HK.out))));replace HK:=yam (KeepBut.trans (by repeat (first|(with_reducible first|exact HK.out|apply KeepBut.set_|apply keep_drewN|apply keep_drew|apply keep_alloc)|exact HK.out)) (KeepBut.of_below hb g none) (.inl rfl));replace HB:=yam (below_step (by repeat (first|(with_reducible first|exact HB.out|apply yea|apply yen|apply yed|refine below_set ?_ (IsS86.ge HI0.out))|exact HB.out)) hb);replace HI0:=yam (IsS86.below (by repeat (first|(with_reducible first|exact HI0.out|apply IsS86.alloc|apply IsS86.drewN|apply IsS86.drew|apply IsS86.set_1)|exact HI0.out)) hb);clear hb ho10)|(refine goesL_ (some 10) rfl rfl Try.func81 (by kernel_rfl) rfl #[.pointer (some ⟨g,0,none⟩),.int .i64 3] rfl ymd ?_;(with_reducible refine (spec_l20Rd_pick.calls k g s0_0 t107 3 t111 t112 w0 _ ?side1 ?side2 A5.out).mono ?_);(case side1=>repeat (first|(with_reducible first|exact HI0.out|apply IsS86.alloc|apply IsS86.drewN|apply IsS86.drew|apply IsS86.set_1)|exact HI0.out));(case side2=>repeat (first|(with_reducible first|exact HB.out|apply yea|apply yen|apply yed|refine below_set ?_ (IsS86.ge HI0.out))|exact HB.out));rintro e w11 ⟨rfl,hi,hb,hk⟩;refine ⟨_,rfl,?_⟩;replace HO110:=yam (Kd.R_mono (Kd.R_keep (IsS86.apart (show IsS86 w0 _ g s0_0 t107 from by repeat (first|(with_reducible first|exact HI0.out|apply IsS86.alloc|apply IsS86.drewN|apply IsS86.drew|apply IsS86.set_1)|exact HI0.out)) (Kd.Yz HO110.out) (by decide)) hk (fun _ h=>h.2)) (fun _ h=>h.1));replace HK:=yam (KeepBut.trans (by repeat (first|(with_reducible first|exact HK.out|apply KeepBut.set_|apply keep_drewN|apply keep_drew|apply keep_alloc)|exact HK.out)) hk (.inl rfl));replace HB:=yam (hb);replace HI0:=yam (hi);(try clear hb);(try clear hk);(try clear hi);obtain ⟨Ao12,co12,eo12⟩:=Kd.R_slice HO110.out;subst eo12;have p113:0≤(t111:Int):=ydt;have q113:t111 < (y108.length:Int):=ydt;obtain ⟨ad113,e113,hx113_0⟩:=Kd.at_int (Kd.Yr HO110.out).2.2 t111 p113 q113;cases e113;replace p113:=eq_true p113;replace q113:=eq_true q113))
  go_ret
  exact ⟨yer,by repeat (first|(with_reducible first|exact HI0.out|apply IsS86.alloc|apply IsS86.drewN|apply IsS86.drew|apply IsS86.set_1)|exact HI0.out),by repeat (first|(with_reducible first|exact HB.out|apply yea|apply yen|apply yed|refine below_set ?_ (IsS86.ge HI0.out))|exact HB.out),by repeat (first|(with_reducible first|exact HK.out|apply KeepBut.set_|apply keep_drewN|apply keep_drew|apply keep_alloc)|exact HK.out)⟩
 replace H:=yff H
 obtain ⟨y114,Ny114⟩:∃ y_:List Int,Aside0 (y_=(([2,3,3,4,4]:List Int))):=⟨_,⟨rfl⟩⟩
 replace H:((spec_l20Rd_pick.f k s0_0 t107 5).bind fun bt117=>(if 0≤bt117.1 then (if bt117.1 < (y114.length:Int) then (some (rd y114 bt117.1,bt117.2)) else (none)) else (none)))=some (r1,r2):=yhn Ny114.out H
 replace H:=ybi H;obtain ⟨⟨t117,t118⟩,A13,H⟩:=H
 replace H:(if 0≤t117 then (if t117 < (y114.length:Int) then (some (rd y114 t117,t118)) else (none)) else (none))=some (r1,r2):=H
 by_cases c14:0≤t117
 rotate_left
 ·rw [if_neg c14] at H
  exact absurd H (by simp)

 rw [if_pos c14] at H
 have c14b0:decide (0≤t117)=true:=decide_eq_true c14
 clear c14
 replace H:=yif H;obtain ⟨c15b0,H⟩:=H
 simp only [Option.some.injEq,Prod.mk.injEq] at H
 obtain ⟨rfl,rfl⟩:=H
 go_enter Try.func65,Try.ntmps65
 go_wp2_with (first|(refine goesL_ (some 7) rfl rfl Try.func68 (by kernel_rfl) rfl #[.pointer (some ⟨g,0,none⟩),.int .i64 a1] rfl ymd ?_;(with_reducible refine (spec_l20Rd_odd.calls k g s0_0 s0_1 a1 false t107 w0 _ ?side1 ?side2 A3.out).mono ?_);(case side1=>repeat (first|(with_reducible first|exact HI0.out|apply IsS86.alloc|apply IsS86.drewN|apply IsS86.drew|apply IsS86.set_1)|exact HI0.out));(case side2=>repeat (first|(with_reducible first|exact HB.out|apply yea|apply yen|apply yed|refine below_set ?_ (IsS86.ge HI0.out))|exact HB.out));rintro e w16 ⟨rfl,hi,hb,hk⟩;refine ⟨_,rfl,?_⟩;replace HK:=yam (KeepBut.trans (by repeat (first|(with_reducible first|exact HK.out|apply KeepBut.set_|apply keep_drewN|apply keep_drew|apply keep_alloc)|exact HK.out)) hk (.inl rfl));replace HB:=yam (hb);replace HI0:=yam (hi);(try clear hb);(try clear hk);(try clear hi))|((with_reducible refine gate_dst (N:=13) rfl ?_);refine Kd.R_lit (Kd.int .i64) _ 3 ?hg (N:=13) ?hd (xs:=([2,3,3,4,4]:List Int)) (inner:=[.int .i64 2,.int .i64 3,.int .i64 3,.int .i64 4,.int .i64 4]) (ok:=fun _=>True) (okp:=fun _=>True) ?hr ?hp (fun _ hk=>hk) trivial (Below.refl _ _) (Nat.le_refl _) (by simp) ?_;(case hd=>rfl);(case hg=>rfl);(case hr=>first|(go_simp;done)|(go_simp;rfl));(case hp=>exact (Reps.one (show Kd.M (Kd.int .i64) _ _ _ 2 [.int .i64 2] from rfl) (Reps.one (show Kd.M (Kd.int .i64) _ _ _ 3 [.int .i64 3] from rfl) (Reps.one (show Kd.M (Kd.int .i64) _ _ _ 3 [.int .i64 3] from rfl) (Reps.one (show Kd.M (Kd.int .i64) _ _ _ 4 [.int .i64 4] from rfl) (Reps.one (show Kd.M (Kd.int .i64) _ _ _ 4 [.int .i64 4] from rfl) (Reps.none _ _)))))));intro v115 w17 ho18 hb hg_ hnew_;clear hg_ hnew_;(first|rw [← Ny114.out] at ho18|(simp only [Int.reduceToNat] at ho18;rw [← Ny114.out] at ho18));have HO116:=yam (Kd.R_lower ho18 (keep_size (w:=w) (g:=g) (row:=none) (by repeat (first|(with_reducible first|exact HK.out|apply KeepBut.set_|apply keep_drewN|apply keep_drew|apply keep_alloc)|exact HK.out))));replace HK:=yam (KeepBut.trans (by repeat (first|(with_reducible first|exact HK.out|apply KeepBut.set_|apply keep_drewN|apply keep_drew|apply keep_alloc)|exact HK.out)) (KeepBut.of_below hb g none) (.inl rfl));replace HB:=yam (below_step (by repeat (first|(with_reducible first|exact HB.out|apply yea|apply yen|apply yed|refine below_set ?_ (IsS86.ge HI0.out))|exact HB.out)) hb);replace HI0:=yam (IsS86.below (by repeat (first|(with_reducible first|exact HI0.out|apply IsS86.alloc|apply IsS86.drewN|apply IsS86.drew|apply IsS86.set_1)|exact HI0.out)) hb);clear hb ho18)|(refine goesL_ (some 15) rfl rfl Try.func81 (by kernel_rfl) rfl #[.pointer (some ⟨g,0,none⟩),.int .i64 5] rfl ymd ?_;(with_reducible refine (spec_l20Rd_pick.calls k g s0_0 t107 5 t117 t118 w0 _ ?side1 ?side2 A13.out).mono ?_);(case side1=>repeat (first|(with_reducible first|exact HI0.out|apply IsS86.alloc|apply IsS86.drewN|apply IsS86.drew|apply IsS86.set_1)|exact HI0.out));(case side2=>repeat (first|(with_reducible first|exact HB.out|apply yea|apply yen|apply yed|refine below_set ?_ (IsS86.ge HI0.out))|exact HB.out));rintro e w19 ⟨rfl,hi,hb,hk⟩;refine ⟨_,rfl,?_⟩;replace HO116:=yam (Kd.R_mono (Kd.R_keep (IsS86.apart (show IsS86 w0 _ g s0_0 t107 from by repeat (first|(with_reducible first|exact HI0.out|apply IsS86.alloc|apply IsS86.drewN|apply IsS86.drew|apply IsS86.set_1)|exact HI0.out)) (Kd.Yz HO116.out) (by decide)) hk (fun _ h=>h.2)) (fun _ h=>h.1));replace HK:=yam (KeepBut.trans (by repeat (first|(with_reducible first|exact HK.out|apply KeepBut.set_|apply keep_drewN|apply keep_drew|apply keep_alloc)|exact HK.out)) hk (.inl rfl));replace HB:=yam (hb);replace HI0:=yam (hi);(try clear hb);(try clear hk);(try clear hi);obtain ⟨Ao20,co20,eo20⟩:=Kd.R_slice HO116.out;subst eo20;have p119:0≤(t117:Int):=ydt;have q119:t117 < (y114.length:Int):=ydt;obtain ⟨ad119,e119,hx119_0⟩:=Kd.at_int (Kd.Yr HO116.out).2.2 t117 p119 q119;cases e119;replace p119:=eq_true p119;replace q119:=eq_true q119))
 go_ret
 exact ⟨yer,by repeat (first|(with_reducible first|exact HI0.out|apply IsS86.alloc|apply IsS86.drewN|apply IsS86.drew|apply IsS86.set_1)|exact HI0.out),by repeat (first|(with_reducible first|exact HB.out|apply yea|apply yen|apply yed|refine below_set ?_ (IsS86.ge HI0.out))|exact HB.out),by repeat (first|(with_reducible first|exact HK.out|apply KeepBut.set_|apply keep_drewN|apply keep_drew|apply keep_alloc)|exact HK.out)⟩
mutual
def spec_LineCells.l0:Nat→Int→Int→List Int→Int→Option (List Int)
 | 0,_,_,_,_=>none
 | k + 1,x0,x1,x5,x6=>if x6 < x0 then ((spec_l1In.f x0 2 4).bind fun t123=>(if t123=true then ((spec_l1In.f x1 0 (wrap64 ((wrap64 (2 * x0)) - 1))).bind fun t124=>(spec_LineCells.j1 k x0 x1 x5 x6 t124)) else (spec_LineCells.j1 k x0 x1 x5 x6 false))) else (spec_LineCells.j1 k x0 x1 x5 x6 false)
def spec_LineCells.j1:Nat→Int→Int→List Int→Int→Bool→Option (List Int)
 | 0,_,_,_,_,_=>none
 | k + 1,x0,x1,x5,x6,x21=>if x21=true then (if x1 < x0 then (if x5.length < 17592186044416 then (spec_LineCells.l0 k x0 x1 (x5 ++ [wrap64 ((wrap64 (x1 * x0)) + x6)]) (wrap64 (x6 + 1))) else (none)) else (if x5.length < 17592186044416 then (spec_LineCells.l0 k x0 x1 (x5 ++ [wrap64 ((wrap64 ((wrap64 (x6 * x0)) + x1)) - x0)]) (wrap64 (x6 + 1))) else (none))) else (some x5)
end
def spec_LineCells.f (k:Nat)(a0:Int)(a1:Int):Option (List Int):=spec_LineCells.l0 k a0 a1 (([]:List Int)) 0
theorem spec_LineCells.mono_l:∀ k,(∀ y0 y1 y2 y3,LeO (spec_LineCells.l0 k y0 y1 y2 y3) (spec_LineCells.l0 (k + 1) y0 y1 y2 y3))∧(∀ y0 y1 y2 y3 y4,LeO (spec_LineCells.j1 k y0 y1 y2 y3 y4) (spec_LineCells.j1 (k + 1) y0 y1 y2 y3 y4))
 | 0=>⟨fun _ _ _ _ r h=>by simp [spec_LineCells.l0] at h,fun _ _ _ _ _ r h=>by simp [spec_LineCells.j1] at h⟩
 | k + 1=>by
  obtain ⟨ih0,ih1⟩:=spec_LineCells.mono_l k
  refine ⟨?_,?_⟩
  ·intro y0 y1 y2 y3
   unfold spec_LineCells.l0
   repeat' first
   | (with_reducible exact ih0 _ _ _ _)
   | (with_reducible exact ih1 _ _ _ _ _)
   | (with_reducible exact LeO.refl _)
   | (with_reducible exact LeO.none _)
   | (with_reducible refine LeO.ite ?_ ?_)
   | (with_reducible refine LeO.bind ?_ (fun _=>?_))
   | exact ih0 _ _ _ _
   | exact ih1 _ _ _ _ _
   | exact LeO.none _
   | refine LeO.ite ?_ ?_
   | refine LeO.bind ?_ (fun _=>?_)
  ·intro y0 y1 y2 y3 y4
   unfold spec_LineCells.j1
   repeat' first
   | (with_reducible exact ih0 _ _ _ _)
   | (with_reducible exact ih1 _ _ _ _ _)
   | (with_reducible exact LeO.refl _)
   | (with_reducible exact LeO.none _)
   | (with_reducible refine LeO.ite ?_ ?_)
   | (with_reducible refine LeO.bind ?_ (fun _=>?_))
   | exact ih0 _ _ _ _
   | exact ih1 _ _ _ _ _
   | exact LeO.none _
   | refine LeO.ite ?_ ?_
   | refine LeO.bind ?_ (fun _=>?_)
theorem spec_LineCells.mono:∀ a0 a1 k,LeO (spec_LineCells.f k a0 a1) (spec_LineCells.f (k + 1) a0 a1):=by
 intro a0 a1 k
 obtain ⟨ih0,ih1⟩:=spec_LineCells.mono_l k
 unfold spec_LineCells.f
 repeat' first
   | (with_reducible exact ih0 _ _ _ _)
   | (with_reducible exact ih1 _ _ _ _ _)
   | (with_reducible exact LeO.refl _)
   | (with_reducible exact LeO.none _)
   | (with_reducible refine LeO.ite ?_ ?_)
   | (with_reducible refine LeO.bind ?_ (fun _=>?_))
   | exact ih0 _ _ _ _
   | exact ih1 _ _ _ _ _
   | exact LeO.none _
   | refine LeO.ite ?_ ?_
   | refine LeO.bind ?_ (fun _=>?_)
theorem spec_LineCells.calls (k:Nat)(a0:Int)(a1:Int)(r:List Int)(w:World)(h:spec_LineCells.f k a0 a1=some r) :
  Calls Try.prog 94 #[.int .i64 a0,.int .i64 a1] w fun e w'=>∃ v0_:Value,e= .returned (v0_)∧Kd.R (Kd.int .i64) 3 w' w.heap.size (fun _=>True) v0_ r∧Below w.heap.size w w':=by
 have HB:=yam (Below.refl w.heap.size w)
 unfold spec_LineCells.f at h
 have H:=h
 clear h
 obtain ⟨y120,Ny120⟩:∃ y_:List Int,Aside0 (y_=(([]:List Int))):=⟨_,⟨rfl⟩⟩
 replace H:(spec_LineCells.l0 k a0 a1 y120 0)=some r:=yhn Ny120.out H
 replace H:=yam H
 go_enter Try.func94,Try.ntmps94
 go_wp2_with (first|((with_reducible refine gate_dst (N:=7) rfl ?_);refine Kd.R_lit (Kd.int .i64) _ 3 ?hg (N:=7) ?hd (xs:=([]:List Int)) (inner:=[]) (ok:=fun _=>True) (okp:=fun _=>True) ?hr ?hp (fun _ hk=>hk) trivial (Below.refl _ _) (Nat.le_refl _) (by simp) ?_;(case hd=>rfl);(case hg=>rfl);(case hr=>first|(go_simp;done)|(go_simp;rfl));(case hp=>exact (Reps.none _ _));intro v121 w3 ho4 hb hg_ hnew_;clear hg_ hnew_;(first|rw [← Ny120.out] at ho4|(simp only [Int.reduceToNat] at ho4;rw [← Ny120.out] at ho4));have HO122:=yam (Kd.R_lower ho4 (below_size (yez HB.out)));replace HB:=yam (below_step (yez HB.out) hb);clear hb ho4))
 go_loopg [5,6] k (fun kq v5 v6 w'=>∃ (x5_1:List Int) (x6_1:Int),v6= .int .i64 x6_1∧Aside0 (spec_LineCells.l0 kq a0 a1 x5_1 x6_1=some r)∧Aside0 (kq≤k)∧Aside0 (Kd.R (Kd.int .i64) 3 w' w.heap.size (fun _=>True) v5 x5_1)∧Aside0 (Below w.heap.size w w'))
 case atStart=>exact ⟨(y120),(0),yeq,H,⟨Nat.le_refl _⟩,⟨yka HO122.out⟩,⟨yhb⟩⟩
 case round =>
  clear H
  obtain ⟨x5_1,x6_1,rfl,HA,HK1,HO_5,HB⟩:=hrel
  rcases gk with _|k1
  ·exact absurd HA.out (by simp [spec_LineCells.l0])
  obtain ⟨H⟩:=HA
  simp only [spec_LineCells.l0] at H
  have HC5:=yam H
  clear H
  go_upto_region 3 with (fail)
  go_cut [21] (fun v21 wc=>∃ (kq:Nat) (x21_4:Bool),v21= .bool x21_4∧Aside0 (spec_LineCells.j1 kq a0 a1 x5_1 x6_1 x21_4=some r)∧Aside0 (kq≤k1)∧Aside0 (Kd.R (Kd.int .i64) 3 wc w.heap.size (fun _=>True) u5 x5_1)∧Aside0 (Below w.heap.size w wc))
  case first =>
   have H:=HC5.out
   clear HC5
   replace H:=yis H;obtain ⟨c6b0,H⟩ | ⟨c6b0,H⟩:=H
   rotate_left
   ·(first|rw [c6b0]|(simp only [i64_w,i32_w];rw [c6b0])|skip)
    replace H:=yam H
    go_wp2
    go_meet
    case rel=>exact ⟨_,(false),yeq,H,⟨by have:=HK1.out;first|omega|exact Nat.le_refl _⟩,⟨yka HO_5.out⟩,⟨yhb⟩⟩
   (first|rw [c6b0]|(simp only [i64_w,i32_w];rw [c6b0])|skip)
   replace H:=ybi H;obtain ⟨t123,A7,H⟩:=H
   try dsimp only at H
   cases t123
   ·replace H:=yff H
    replace H:=yam H
    go_wp2_with (first|(go_at_call 70;(with_reducible refine (spec_l1In.calls a0 2 4 false _ A7.out).mono ?_);rintro e w' ⟨rfl,⟨nd,rfl⟩⟩))
    go_meet
    case rel=>exact ⟨_,(false),yeq,H,⟨by have:=HK1.out;first|omega|exact Nat.le_refl _⟩,⟨yka HO_5.out⟩,⟨yhb⟩⟩
   replace H:=ytt H
   replace H:=ybi H;obtain ⟨t124,A9,H⟩:=H
   try dsimp only at H
   replace H:=yam H
   go_wp2_with (first|(go_at_call 70;(with_reducible refine (spec_l1In.calls a0 2 4 true _ A7.out).mono ?_);rintro e w' ⟨rfl,⟨nd,rfl⟩⟩)|(go_at_call 70;(with_reducible refine (spec_l1In.calls a1 0 (wrap64 ((wrap64 (2 * a0)) - 1)) t124 _ A9.out).mono ?_);rintro e w' ⟨rfl,⟨nd,rfl⟩⟩))
   go_meet
   case rel=>exact ⟨_,(t124),yeq,H,⟨by have:=HK1.out;first|omega|exact Nat.le_refl _⟩,⟨yka HO_5.out⟩,⟨yhb⟩⟩
  case rest =>
   clear HC5
   obtain ⟨kq,x21_4,rfl,HA,HJ4,HO_5,HB⟩:=hcut
   rcases kq with _|kj4
   ·exact absurd HA.out (by simp [spec_LineCells.j1])
   obtain ⟨H⟩:=HA
   simp only [spec_LineCells.j1] at H
   cases x21_4
   ·replace H:=yff H
    obtain rfl:=ysi H
    go_wp2
    go_ret
    exact ⟨_,yer,yka HO_5.out,yhb⟩
   replace H:=ytt H
   replace H:=yis H;obtain ⟨c11b0,H⟩ | ⟨c11b0,H⟩:=H
   ·replace H:=yig H;obtain ⟨c12,H⟩:=H
    have LMc12:=yam c12
    clear c12
    obtain ⟨y125,Ny125⟩:∃ y_:List Int,Aside0 (y_=(x5_1 ++ [wrap64 ((wrap64 (a1 * a0)) + x6_1)])):=⟨_,⟨rfl⟩⟩
    replace H:(spec_LineCells.l0 kj4 a0 a1 y125 (wrap64 (x6_1 + 1)))=some r:=yhn Ny125.out H
    replace H:=yam H
    go_wp2_with (first|((with_reducible refine gate_builtin (b:= .append) (xs:= #[.tmp 27,.tmp 33]) rfl ?_);at_builtin;refine Kd.R_append (Kd.int .i64) (w0:=w) w.heap.size rfl (.tmp 27) (.tmp 33) 23 3 (.int .i64 0) 8 rfl Try.underlying23 info3 rfl (by decide) (by omega) u5 x5_1 (wrap64 ((wrap64 (a1 * a0)) + x6_1)) [.int .i64 (wrap64 ((wrap64 (a1 * a0)) + x6_1))] (fun _=>True) (fun _=>False) rfl rfl ?aP (fun _ hk=>hk.elim) ?aF ?aO ?aB ?aS ?aL ?_;(case aP=>exact rfl);(case aB=>exact (yez HB.out));(case aF=>exact (fun _ _=>trivial));(case aO=>exact (Kd.Yz HO_5.out));(case aS=>exact (below_size (yez HB.out)));(case aL=>have:=LMc12.out;omega);intro v126 w13 ho hb hg hat;rw [← Ny125.out] at ho;replace HB:=yam (hb);have HO127:=yam (ho);clear HO_5;clear ho hb hg hat))
    go_roundg kj4
    case measure=>have:=HK1.out;have:=HJ4.out;omega
    case rel=>exact ⟨(y125),(wrap64 (x6_1 + 1)),yeq,H,⟨by have:=HK1.out;have:=HJ4.out;omega⟩,⟨yka HO127.out⟩,⟨yhb⟩⟩
   replace H:=yig H;obtain ⟨c14,H⟩:=H
   have LMc14:=yam c14
   clear c14
   obtain ⟨y128,Ny128⟩:∃ y_:List Int,Aside0 (y_=(x5_1 ++ [wrap64 ((wrap64 ((wrap64 (x6_1 * a0)) + a1)) - a0)])):=⟨_,⟨rfl⟩⟩
   replace H:(spec_LineCells.l0 kj4 a0 a1 y128 (wrap64 (x6_1 + 1)))=some r:=yhn Ny128.out H
   replace H:=yam H
   go_wp2_with (first|((with_reducible refine gate_builtin (b:= .append) (xs:= #[.tmp 35,.tmp 43]) rfl ?_);at_builtin;refine Kd.R_append (Kd.int .i64) (w0:=w) w.heap.size rfl (.tmp 35) (.tmp 43) 23 3 (.int .i64 0) 8 rfl Try.underlying23 info3 rfl (by decide) (by omega) u5 x5_1 (wrap64 ((wrap64 ((wrap64 (x6_1 * a0)) + a1)) - a0)) [.int .i64 (wrap64 ((wrap64 ((wrap64 (x6_1 * a0)) + a1)) - a0))] (fun _=>True) (fun _=>False) rfl rfl ?aP (fun _ hk=>hk.elim) ?aF ?aO ?aB ?aS ?aL ?_;(case aP=>exact rfl);(case aB=>exact (yez HB.out));(case aF=>exact (fun _ _=>trivial));(case aO=>exact (Kd.Yz HO_5.out));(case aS=>exact (below_size (yez HB.out)));(case aL=>have:=LMc14.out;omega);intro v129 w15 ho hb hg hat;rw [← Ny128.out] at ho;replace HB:=yam (hb);have HO130:=yam (ho);clear HO_5;clear ho hb hg hat))
   go_roundg kj4
   case measure=>have:=HK1.out;have:=HJ4.out;omega
   case rel=>exact ⟨(y128),(wrap64 (x6_1 + 1)),yeq,H,⟨by have:=HK1.out;have:=HJ4.out;omega⟩,⟨yka HO130.out⟩,⟨yhb⟩⟩
mutual
def spec_l2Clash.l0:Nat→List Int→Int→Int→Option (Bool)
 | 0,_,_,_=>none
 | k + 1,x0,x1,x5=>if x5 < (wrap64 (2 * x1)) then ((spec_LineCells.f k x1 x5).bind fun t131=>(spec_l2Clash.l1 k x0 x1 x5 t131 0 0)) else (some false)
def spec_l2Clash.l1:Nat→List Int→Int→Int→List Int→Int→Int→Option (Bool)
 | 0,_,_,_,_,_,_=>none
 | k + 1,x0,x1,x5,x6,x7,x8=>if x8 < (x6.length:Int) then (if 0≤x8 then (if 0≤(rd x6 x8) then (if (rd x6 x8) < (x0.length:Int) then (if (rd x0 (rd x6 x8)) > 0 then (if 0≤(rd x0 (rd x6 x8)) then (if (Int.tmod (shr .i64 x7 (rd x0 (rd x6 x8))) 2)=1 then (some true) else (spec_l2Clash.l1 k x0 x1 x5 x6 (Go.bits .or .i64 x7 (shl .i64 1 (rd x0 (rd x6 x8)))) (wrap64 (x8 + 1)))) else (none)) else (if 0≤(rd x0 (rd x6 x8)) then (spec_l2Clash.l1 k x0 x1 x5 x6 (Go.bits .or .i64 x7 (shl .i64 1 (rd x0 (rd x6 x8)))) (wrap64 (x8 + 1))) else (none))) else (none)) else (none)) else (none)) else (spec_l2Clash.l0 k x0 x1 (wrap64 (x5 + 1)))
end
def spec_l2Clash.f (k:Nat)(l0:List Int)(a1:Int):Option (Bool):=spec_l2Clash.l0 k l0 a1 0
theorem spec_l2Clash.calls (k:Nat)(A0:Option Addr)(c0:Nat)(l0:List Int)(a1:Int)(r:Bool)(w:World)(hr0:Kd.C (Kd.int .i64) w A0 l0.length l0)(hc0:l0.length≤c0)(h:spec_l2Clash.f k l0 a1=some r) :
  Calls Try.prog 92 #[.slice A0 l0.length c0,.int .i64 a1] w fun e w'=>e= .returned (.bool r)∧Below w.heap.size w w':=by
 have HR0:=yam hr0
 have HC0:=yam hc0
 clear hr0 hc0
 have HB:=yam (Below.refl w.heap.size w)
 unfold spec_l2Clash.f at h
 have H:=h
 clear h
 replace H:=yam H
 go_enter Try.func92,Try.ntmps92
 go_wp2
 go_loopg [5] k (fun kq v5 w'=>∃ (x5_1:Int),v5= .int .i64 x5_1∧Aside0 (spec_l2Clash.l0 kq l0 a1 x5_1=some r)∧Aside0 (kq≤k)∧Aside0 (Below w.heap.size w w'))
 case atStart=>exact ⟨(0),yeq,H,⟨Nat.le_refl _⟩,⟨yhb⟩⟩
 case round =>
  clear H
  obtain ⟨x5_1,rfl,HA,HK1,HB⟩:=hrel
  rcases gk with _|k1
  ·exact absurd HA.out (by simp [spec_l2Clash.l0])
  obtain ⟨H⟩:=HA
  simp only [spec_l2Clash.l0] at H
  replace H:=yis H;obtain ⟨c3b0,H⟩ | ⟨c3b0,H⟩:=H
  rotate_left
  ·obtain rfl:=ysi H
   go_wp2
   go_ret
   exact ⟨yer,yhb⟩
  replace H:=ybi H;obtain ⟨t131,A4,H⟩:=H
  try dsimp only at H
  replace H:=yam H
  go_wp2_with (first|(refine goesL_ (some 18) rfl rfl Try.func94 (by kernel_rfl) rfl #[.int .i64 a1,.int .i64 x5_1] rfl ymd ?_;(with_reducible refine (spec_LineCells.calls k1 a1 x5_1 t131 _ A4.out).mono ?_);rintro e w5 ⟨v132,rfl,ho0,hb⟩;refine ⟨_,rfl,?_⟩;have HO133:=yam (Kd.R_lower ho0 (below_size (yez HB.out)));replace HB:=yam (below_step (yez HB.out) hb);(try clear hb);(try clear ho0)))
  go_loopg [7,8] k1 (fun kq v7 v8 w'=>∃ (x7_2:Int) (x8_2:Int),v7= .int .i64 x7_2∧v8= .int .i64 x8_2∧Aside0 (spec_l2Clash.l1 kq l0 a1 x5_1 t131 x7_2 x8_2=some r)∧Aside0 (kq≤k1)∧Aside0 (Kd.R (Kd.int .i64) 3 w' w.heap.size (fun _=>True) v132 t131)∧Aside0 (Below w.heap.size w w'))
  case atStart=>exact ⟨(0),(0),yeq,yeq,H,⟨Nat.le_refl _⟩,⟨yka HO133.out⟩,⟨yhb⟩⟩
  case round =>
   clear H
   try clear c3b0
   obtain ⟨x7_2,x8_2,rfl,rfl,HA,HK2,HO_6,HB⟩:=hrel
   rcases gk with _|k2
   ·exact absurd HA.out (by simp [spec_l2Clash.l1])
   obtain ⟨H⟩:=HA
   simp only [spec_l2Clash.l1] at H
   replace H:=yis H;obtain ⟨c6b0,H⟩ | ⟨c6b0,H⟩:=H
   rotate_left
   ·replace H:=yam H
    obtain ⟨Ao21,co21,eo21⟩:=Kd.R_slice HO_6.out
    subst eo21
    go_wp2
    go_roundg k2
    case measure=>have:=HK1.out;have:=HK2.out;omega
    case rel=>exact ⟨(wrap64 (x5_1 + 1)),yeq,H,⟨by have:=HK1.out;have:=HK2.out;omega⟩,⟨yhb⟩⟩
   replace H:=yif H;obtain ⟨c7b0,H⟩:=H
   replace H:=yif H;obtain ⟨c8b0,H⟩:=H
   replace H:=yif H;obtain ⟨c9b0,H⟩:=H
   replace H:=yis H;obtain ⟨c10b0,H⟩ | ⟨c10b0,H⟩:=H
   rotate_left
   ·replace H:=yig H;obtain ⟨c18,H⟩:=H
    have c18b0:=eq_true c18
    have c18b1:decide (0≤(rd l0 (rd t131 x8_2)))=true:=decide_eq_true c18
    clear c18
    obtain ⟨ji19,hji19⟩:∃ j_:Int,(shl .i64 1 (rd l0 (rd t131 x8_2)))=j_:=⟨_,rfl⟩
    replace H:(spec_l2Clash.l1 k2 l0 a1 x5_1 t131 (Go.bits .or .i64 x7_2 (ji19)) (wrap64 (x8_2 + 1)))=some r:=by first|(rw [hji19] at H;exact H)|(simp only [hji19] at H ⊢;exact H)
    have hji19_:(IntKind.i64.wrap (1 * 2 ^ min (rd l0 (rd t131 x8_2)).toNat 64))=ji19:=hji19
    have hji19z:(rd l0 (rd t131 x8_2))≤64→(IntKind.i64.wrap (1 * 2 ^ (rd l0 (rd t131 x8_2)).toNat))=ji19:=shl_small hji19
    have hji19u:(IntKind.i64.wrap (2 ^ min (rd l0 (rd t131 x8_2)).toNat 64))=ji19:=by have h_:=hji19_;rw [Int.one_mul] at h_;exact h_
    have hji19v:(rd l0 (rd t131 x8_2))≤64→(IntKind.i64.wrap (2 ^ (rd l0 (rd t131 x8_2)).toNat))=ji19:=fun hle_=>by have h_:=hji19z hle_;rw [Int.one_mul] at h_;exact h_
    have hji19y:(wrap64 (1 * 2 ^ min (rd l0 (rd t131 x8_2)).toNat 64))=ji19:=(i64_w _).symm.trans hji19_
    have hji19x:(rd l0 (rd t131 x8_2))≤64→(wrap64 (1 * 2 ^ (rd l0 (rd t131 x8_2)).toNat))=ji19:=fun h_=>(i64_w _).symm.trans (hji19z h_)
    replace H:=yam H
    obtain ⟨Ao20,co20,eo20⟩:=Kd.R_slice HO_6.out
    subst eo20
    obtain ⟨ad134,e134,hx134_0,p134,q134⟩:=yat (Kd.Yr HO_6.out).2.2 x8_2
    cases e134
    obtain ⟨ad135,e135,hx135_0,p135,q135⟩:=yat HR0.out (rd t131 x8_2)
    cases e135
    replace hx135_0:=ybx HB.out hx135_0
    go_wp2
    go_roundg k2
    case measure=>have:=HK1.out;have:=HK2.out;omega
    case rel=>exact ⟨(Go.bits .or .i64 x7_2 (ji19)),(wrap64 (x8_2 + 1)),(by first|rfl|(simp;done)|(simp only [← hji19] <;> (first|rfl|simp))|(simp [*];done)),yeq,H,⟨by have:=HK1.out;have:=HK2.out;omega⟩,⟨yka HO_6.out⟩,⟨yhb⟩⟩
   replace H:=yig H;obtain ⟨c11,H⟩:=H
   have c11b0:=eq_true c11
   have c11b1:decide (0≤(rd l0 (rd t131 x8_2)))=true:=decide_eq_true c11
   clear c11
   obtain ⟨ji12,hji12⟩:∃ j_:Int,(shr .i64 x7_2 (rd l0 (rd t131 x8_2)))=j_:=⟨_,rfl⟩
   replace H:(if (Int.tmod (ji12) 2)=1 then (some true) else (spec_l2Clash.l1 k2 l0 a1 x5_1 t131 (Go.bits .or .i64 x7_2 (shl .i64 1 (rd l0 (rd t131 x8_2)))) (wrap64 (x8_2 + 1))))=some r:=by first|(rw [hji12] at H;exact H)|(simp only [hji12] at H ⊢;exact H)
   have hji12_:(x7_2 / 2 ^ min (rd l0 (rd t131 x8_2)).toNat 64)=ji12:=hji12
   have hji12z:(rd l0 (rd t131 x8_2))≤64→(x7_2 / 2 ^ (rd l0 (rd t131 x8_2)).toNat)=ji12:=shr_small hji12
   replace H:=yit H;obtain ⟨c13,H⟩ | ⟨c13,H⟩:=H
   ·have c13b0:((Int.tmod (ji12) 2) == 1)=true:=beq_iff_eq.mpr c13
    have c13b1:((Int.tmod (ji12) 2) != 1)=false:=bne_eq_false_iff_eq.mpr c13
    clear c13
    obtain rfl:=ysi H
    obtain ⟨Ao14,co14,eo14⟩:=Kd.R_slice HO_6.out
    subst eo14
    obtain ⟨ad134,e134,hx134_0,p134,q134⟩:=yat (Kd.Yr HO_6.out).2.2 x8_2
    cases e134
    obtain ⟨ad135,e135,hx135_0,p135,q135⟩:=yat HR0.out (rd t131 x8_2)
    cases e135
    replace hx135_0:=ybx HB.out hx135_0
    go_wp2
    go_ret
    exact ⟨by first|rfl|(simp [errW_none,errW_some] <;> rfl)|(simp only [← hji12];first|rfl|(simp [errW_none,errW_some] <;> rfl))|(simp [*,errW_none,errW_some] <;> rfl),yhb⟩
   have c13b0:((Int.tmod (ji12) 2) == 1)=false:=beq_eq_false_iff_ne.mpr c13
   have c13b1:((Int.tmod (ji12) 2) != 1)=true:=bne_iff_ne.mpr c13
   have c15b0:=eq_true (ydt:0≤(rd l0 (rd t131 x8_2)))
   obtain ⟨ji16,hji16⟩:∃ j_:Int,(shl .i64 1 (rd l0 (rd t131 x8_2)))=j_:=⟨_,rfl⟩
   replace H:(spec_l2Clash.l1 k2 l0 a1 x5_1 t131 (Go.bits .or .i64 x7_2 (ji16)) (wrap64 (x8_2 + 1)))=some r:=by first|(rw [hji16] at H;exact H)|(simp only [hji16] at H ⊢;exact H)
   have hji16_:(IntKind.i64.wrap (1 * 2 ^ min (rd l0 (rd t131 x8_2)).toNat 64))=ji16:=hji16
   have hji16z:(rd l0 (rd t131 x8_2))≤64→(IntKind.i64.wrap (1 * 2 ^ (rd l0 (rd t131 x8_2)).toNat))=ji16:=shl_small hji16
   have hji16u:(IntKind.i64.wrap (2 ^ min (rd l0 (rd t131 x8_2)).toNat 64))=ji16:=by have h_:=hji16_;rw [Int.one_mul] at h_;exact h_
   have hji16v:(rd l0 (rd t131 x8_2))≤64→(IntKind.i64.wrap (2 ^ (rd l0 (rd t131 x8_2)).toNat))=ji16:=fun hle_=>by have h_:=hji16z hle_;rw [Int.one_mul] at h_;exact h_
   have hji16y:(wrap64 (1 * 2 ^ min (rd l0 (rd t131 x8_2)).toNat 64))=ji16:=(i64_w _).symm.trans hji16_
   have hji16x:(rd l0 (rd t131 x8_2))≤64→(wrap64 (1 * 2 ^ (rd l0 (rd t131 x8_2)).toNat))=ji16:=fun h_=>(i64_w _).symm.trans (hji16z h_)
   replace H:=yam H
   obtain ⟨Ao17,co17,eo17⟩:=Kd.R_slice HO_6.out
   subst eo17
   obtain ⟨ad134,e134,hx134_0,p134,q134⟩:=yat (Kd.Yr HO_6.out).2.2 x8_2
   cases e134
   obtain ⟨ad135,e135,hx135_0,p135,q135⟩:=yat HR0.out (rd t131 x8_2)
   cases e135
   replace hx135_0:=ybx HB.out hx135_0
   go_wp2
   go_roundg k2
   case measure=>have:=HK1.out;have:=HK2.out;omega
   case rel=>exact ⟨(Go.bits .or .i64 x7_2 (ji16)),(wrap64 (x8_2 + 1)),(by first|rfl|(simp;done)|(simp only [← hji16] <;> (first|rfl|simp))|(simp [*];done)),yeq,H,⟨by have:=HK1.out;have:=HK2.out;omega⟩,⟨yka HO_6.out⟩,⟨yhb⟩⟩
def IsS3 (w0 W:World)(g:Nat)(f0:Int):Prop:=W.heap[g]?=some (.cells #[.int .i64 f0] 3 (0,0))∧w0.heap.size≤g
theorem IsS3.grown {w0 W:World}{g:Nat}{f0:Int}{W1:World}{row:Option Nat}(h:IsS3 w0 W g f0)(hw:W.grownBy W1 row)(hne:some g≠row):IsS3 w0 W1 g f0:=by
 obtain ⟨hb,hg⟩:=h
 exact ⟨blk_grown hb hw hne,hg⟩
theorem IsS3.own_neN {w0 W:World}{g:Nat}{f0:Int}{α:Type}{d:Kd α}{e:Nat}{base:Nat}{ok:Nat→Prop}{v:Value}{xs:List α}(h:IsS3 w0 W g f0)(ho:Kd.N d e W base ok v xs)(ht:e≠3):some g≠v.ownBlock:=by
 obtain ⟨hb,hg⟩:=h
 exact Kd.N_ne ho hb ht
theorem IsS3.fresh {w0 W:World}{g:Nat}{f0:Int}(h:IsS3 w0 W g f0):∀ k,W.heap.size≤k→k≠g:=by
 obtain ⟨hb,hg⟩:=h
 exact Kd.freshB hb
theorem IsS3.kept {w0 W:World}{g:Nat}{f0:Int}{W1:World}{S:Nat→Prop}(h:IsS3 w0 W g f0)(hk:Kept W W1 S)(hne:¬ S g):IsS3 w0 W1 g f0:=by
 obtain ⟨hb,hg⟩:=h
 exact ⟨blk_kept hb hk hne,hg⟩
theorem IsS3.below {w0 W:World}{g:Nat}{f0:Int}{W1:World}(h:IsS3 w0 W g f0)(hw:Below W.heap.size W W1):IsS3 w0 W1 g f0:=h.grown (grown_of_below hw none) (by simp)
theorem IsS3.alloc {w0 W:World}{g:Nat}{f0:Int}(h:IsS3 w0 W g f0)(o:Obj):IsS3 w0 (W.alloc o) g f0:=h.below (yea (Below.refl _ _) o)
theorem IsS3.drewN {w0 W:World}{g:Nat}{f0:Int}(h:IsS3 w0 W g f0)(m:Nat):IsS3 w0 (W.drewN m) g f0:=h
theorem IsS3.drew {w0 W:World}{g:Nat}{f0:Int}(h:IsS3 w0 W g f0):IsS3 w0 W.drew g f0:=h
theorem IsS3.at_ {w0 W:World}{g:Nat}{f0:Int}{w':World}{m:Nat}(hq:W.drewN m=w')(h:IsS3 w0 W g f0):IsS3 w0 w' g f0:=by subst hq;exact IsS3.drewN h m
theorem IsS3.apart {w0 W:World}{g:Nat}{f0:Int}{α:Type}{d:Kd α}{e:Nat}{base:Nat}{ok:Nat→Prop}{v:Value}{xs:List α}(h:IsS3 w0 W g f0)(ho:d.R e W base ok v xs)(ht:∀ q,q∈e :: d.E→q≠3):d.R e W base (fun k=>ok k∧k≠g) v xs:=by
 obtain ⟨hb,hg⟩:=h
 exact Kd.R_types ho hb ht
theorem IsS3.own_ne {w0 W:World}{g:Nat}{f0:Int}{α:Type}{d:Kd α}{e:Nat}{base:Nat}{ok:Nat→Prop}{v:Value}{xs:List α}(h:IsS3 w0 W g f0)(ho:d.R e W base ok v xs)(ht:e≠3):some g≠v.ownBlock:=by
 obtain ⟨hb,hg⟩:=h
 exact Kd.R_ne ho hb ht
theorem IsS3.apartQ {w0 W:World}{g:Nat}{f0:Int}{α:Type}{d:Kd α}{e:Nat}{base:Nat}{ok:Nat→Prop}{v:Value}{xs:List α}(h:IsS3 w0 W g f0)(ho:d.Q e W base ok v xs)(ht:∀ q,q∈e :: d.E→q≠3):d.Q e W base (fun k=>ok k∧k≠g) v xs:=by
 obtain ⟨hb,hg⟩:=h
 exact Kd.Q_types ho hb ht
theorem IsS3.own_neQ {w0 W:World}{g:Nat}{f0:Int}{α:Type}{d:Kd α}{e:Nat}{base:Nat}{ok:Nat→Prop}{v:Value}{xs:List α}(h:IsS3 w0 W g f0)(ho:d.Q e W base ok v xs)(ht:e≠3):some g≠v.ownBlock:=by
 obtain ⟨hb,hg⟩:=h
 exact Kd.Q_ne ho hb ht
theorem IsS3.apartS {w0 W:World}{g:Nat}{f0:Int}{α:Type}{d:Kd α}{e:Nat}{base:Nat}{ok:Nat→Prop}{v:Value}{xs:List α}(h:IsS3 w0 W g f0)(ho:d.S e W base ok v xs)(ht:∀ q,q∈e :: d.E→q≠3):d.S e W base (fun k=>ok k∧k≠g) v xs:=by
 obtain ⟨hb,hg⟩:=h
 exact Kd.S_types ho hb ht
theorem IsS3.own_neS {w0 W:World}{g:Nat}{f0:Int}{α:Type}{d:Kd α}{e:Nat}{base:Nat}{ok:Nat→Prop}{v:Value}{xs:List α}(h:IsS3 w0 W g f0)(ho:d.S e W base ok v xs)(ht:e≠3):some g≠v.ownBlock:=by
 obtain ⟨hb,hg⟩:=h
 exact Kd.S_ne ho hb ht
theorem IsS3.lt {w0 W:World}{g:Nat}{f0:Int}(h:IsS3 w0 W g f0):g < W.heap.size:=by
 obtain ⟨hb,hg⟩:=h
 exact blk_lt hb
theorem IsS3.ge {w0 W:World}{g:Nat}{f0:Int}(h:IsS3 w0 W g f0):w0.heap.size≤g:=by
 obtain ⟨hb,hg⟩:=h
 exact hg
theorem IsS3.ne_blk {w0 W:World}{g:Nat}{f0:Int}{a:Nat}{cs:Array Value}{t:TypeId}{fr:Nat × Nat}(h:IsS3 w0 W g f0)(hb2:W.heap[a]?=some (.cells cs t fr))(ht:t≠3):g≠a:=by
 obtain ⟨hb,hg⟩:=h
 rintro rfl
 rw [hb] at hb2
 injection hb2 with hb2
 injection hb2 with _ ht2
 exact ht ht2.symm
theorem IsS3.far {w0 W:World}{g:Nat}{f0:Int}{p:Addr}(h:IsS3 w0 W g f0)(hne:g≠p.block)(u:Value):IsS3 w0 (W.setCell p u) g f0:=by
 obtain ⟨hb,hg⟩:=h
 exact ⟨blk_far hb hne u,hg⟩
theorem cellS3_0 {W:World}{g:Nat}{f0:Int}(h:W.heap[g]?=some (.cells #[.int .i64 f0] 3 (0,0))):W.cell? ⟨g,0,none⟩=some (.int .i64 f0):=(blk_cell h 0).trans rfl
theorem IsS3.set_0 {w0 W:World}{g:Nat}{f0:Int}(h:IsS3 w0 W g f0)(x:Int):IsS3 w0 (W.setCell ⟨g,0,none⟩ (.int .i64 x)) g x:=by
 obtain ⟨hb,hg⟩:=h
 exact ⟨by simpa using blk_set hb 0 (.int .i64 x),hg⟩
theorem IsS3.new (w0 W:World)(f0:Int)(hB:Below w0.heap.size w0 W):IsS3 w0 (W.alloc (.cells #[.int .i64 f0] 3)) W.heap.size f0:=⟨by simpa using heap_alloc_new W _,hB.size⟩

theorem apart_ok {α:Type}{d:Kd α}{e base g:Nat}{W:World}{ok:Nat→Prop}{v:Value}{xs:List α}(ho:d.R e W base ok v xs)(h:∀ k,ok k→k≠g):d.R e W base (fun k=>ok k∧k≠g) v xs:=Kd.R_mono ho (fun k hk=>⟨hk,h k hk⟩)
mutual
def spec_l2Search.l0:Nat→List Int→Int→Int→Int→Int→Option (List Int × Int)
 | 0,_,_,_,_,_=>none
 | k + 1,x0,x1,x2,x9,x4000=>if x9≤x1 then ((some (([]:List Int):List Int)).bind fun y136=>(if y136.length + x0.length < 17592186044416 then ((some (y136 ++ x0:List Int)).bind fun y139=>(if 0≤x2 then (if x2 < (y139.length:Int) then ((some (y139.set (x2:Int).toNat x9:List Int)).bind fun y142=>((spec_l2Clash.f k y142 x1).bind fun t143=>(if t143=true then (spec_l2Search.l0 k x0 x1 x2 (wrap64 (x9 + 1)) x4000) else ((spec_l2Search.f k y142 x1 (wrap64 (x2 + 1)) x4000).bind fun bt144=>(if (bt144.1.length:Int) > 0 then (some (bt144.1,bt144.2)) else (spec_l2Search.l0 k x0 x1 x2 (wrap64 (x9 + 1)) bt144.2)))))) else (none)) else (none))) else (none))) else (some (([]:List Int),x4000))
def spec_l2Search.f:Nat→List Int→Int→Int→Int→Option (List Int × Int)
 | 0,_,_,_,_=>none
 | k + 1,l0,a1,a2,s3_0=>if a2=(l0.length:Int) then (if s3_0=0 then (some (l0,s3_0)) else (some (([]:List Int),wrap64 (s3_0 - 1)))) else (spec_l2Search.l0 k l0 a1 a2 1 s3_0)
end
theorem spec_l2Search.calls (k:Nat):∀ (P0_:Nat→Prop) (u9000_:Value) (l0:List Int) (a1:Int) (a2:Int) (g:Nat) (s3_0:Int) (r1:List Int) (r2:Int) (w0 w:World) (hI:IsS3 w0 w g s3_0) (hB:Below w0.heap.size w0 w) (hPg:¬ P0_ g) (ho0:Kd.R (Kd.int .i64) 3 w w0.heap.size P0_ u9000_ l0) (h:spec_l2Search.f k l0 a1 a2 s3_0=some (r1,r2)),
  Calls Try.prog 93 #[u9000_,.int .i64 a1,.int .i64 a2,.pointer (some ⟨g,0,none⟩)] w fun e w'=>∃ v0_:Value,e= .returned (v0_)∧Kd.R (Kd.int .i64) 3 w' w0.heap.size (fun k_=>(P0_ k_∨w.heap.size≤k_)) v0_ r1∧IsS3 w0 w' g r2∧Below w0.heap.size w0 w'∧Kept w w' (fun k_=>(P0_ k_)∨k_=g):=by
 induction k using Nat.strongRecOn with
 | _ k ih =>
 intro P0_ u9000_ l0 a1 a2 g s3_0 r1 r2 w0 w hI hB hPg ho0 h
 cases k with
 | zero=>exact absurd h (by simp [spec_l2Search.f])
 | succ k =>
 simp only [spec_l2Search.f] at h
 have HO0:=yam (show Kd.R (Kd.int .i64) 3 w w0.heap.size (fun k_=>(P0_ k_∨w.heap.size≤k_)) u9000_ l0 from Kd.R_mono ho0 (fun k_ hk=>(.inl hk)))
 have HI3:=yam hI
 have HPG:=yam (show ¬ (P0_ g∨w.heap.size≤g) from fun h_=>h_.elim hPg (fun q_=>absurd (IsS3.lt hI) (Nat.not_lt.mpr q_)))
 have HL:=yam hB.size
 clear hI
 have HK:=yam (Kept.refl w (fun k_=>(P0_ k_)∨k_=g))
 have HW0:=yam hB.size
 have HB:=yam hB
 clear hB
 have H:=h
 clear h
 replace H:=yit H;obtain ⟨c5,H⟩ | ⟨c5,H⟩:=H
 ·have c5b0:(a2 == (l0.length:Int))=true:=beq_iff_eq.mpr c5
  have c5b1:(a2 != (l0.length:Int))=false:=bne_eq_false_iff_eq.mpr c5
  clear c5
  replace H:=yit H;obtain ⟨c6,H⟩ | ⟨c6,H⟩:=H
  ·have c6b0:(s3_0 == 0)=true:=beq_iff_eq.mpr c6
   have c6b1:(s3_0 != 0)=false:=bne_eq_false_iff_eq.mpr c6
   clear c6
   simp only [Option.some.injEq,Prod.mk.injEq] at H
   obtain ⟨rfl,rfl⟩:=H
   obtain ⟨Ao7,co7,eo7⟩:=Kd.R_slice HO0.out
   subst eo7
   obtain ⟨HGz8,hgz8⟩:=HI3.out
   have hcz8_0:=cellS3_0 HGz8
   have hfz8_0:=blk_frozen HGz8 0
   clear HGz8 hgz8
   go_enter Try.func93,Try.ntmps93
   go_wp2
   go_ret
   exact ⟨_,yer,yka HO0.out,by repeat (first|(with_reducible first|exact HI3.out|apply IsS3.alloc|apply IsS3.drewN|apply IsS3.drew|apply IsS3.set_0)|exact HI3.out),by repeat (first|(with_reducible first|exact HB.out|apply yea|apply yen|apply yed|refine below_set ?_ (IsS3.ge HI3.out))|exact HB.out),by repeat (first|(with_reducible first|exact HK.out|apply Kept.alloc|apply Kept.drewN|apply Kept.drew|refine Kept.setCell ?_ (.inl (.inr rfl)) _)|exact HK.out)⟩
  have c6b0:(s3_0 == 0)=false:=beq_eq_false_iff_ne.mpr c6
  have c6b1:(s3_0 != 0)=true:=bne_iff_ne.mpr c6
  simp only [Option.some.injEq,Prod.mk.injEq] at H
  obtain ⟨rfl,rfl⟩:=H
  obtain ⟨Ao9,co9,eo9⟩:=Kd.R_slice HO0.out
  subst eo9
  obtain ⟨HGz10,hgz10⟩:=HI3.out
  have hcz10_0:=cellS3_0 HGz10
  have hfz10_0:=blk_frozen HGz10 0
  clear HGz10 hgz10
  go_enter Try.func93,Try.ntmps93
  go_wp2
  go_ret
  exact ⟨_,yer,by first|exact Kd.R_nil _ _ _ _ _|exact Kd.N_nil _ _ _ _ _|exact Kd.V_nil _ _ _ _ _|exact Kd.Q_nil _ _ _ _ _|exact Kd.S_nil _ _ _ _ _,by repeat (first|(with_reducible first|exact HI3.out|apply IsS3.alloc|apply IsS3.drewN|apply IsS3.drew|apply IsS3.set_0)|exact HI3.out),by repeat (first|(with_reducible first|exact HB.out|apply yea|apply yen|apply yed|refine below_set ?_ (IsS3.ge HI3.out))|exact HB.out),by repeat (first|(with_reducible first|exact HK.out|apply Kept.alloc|apply Kept.drewN|apply Kept.drew|refine Kept.setCell ?_ (.inl (.inr rfl)) _)|exact HK.out)⟩
 have c5b0:(a2 == (l0.length:Int))=false:=beq_eq_false_iff_ne.mpr c5
 have c5b1:(a2 != (l0.length:Int))=true:=bne_iff_ne.mpr c5
 replace H:=yam H
 obtain ⟨Ao11,co11,eo11⟩:=Kd.R_slice HO0.out
 subst eo11
 go_enter Try.func93,Try.ntmps93
 go_wp2
 go_loopg [9] k (fun kq v9 w'=>∃ (x0_1:List Int) (x9_1:Int) (x4000_1:Int),v9= .int .i64 x9_1∧Aside0 (spec_l2Search.l0 kq x0_1 a1 a2 x9_1 x4000_1=some (r1,r2))∧Aside0 (kq≤k)∧Aside0 (Kd.R (Kd.int .i64) 3 w' w0.heap.size (fun k_=>(P0_ k_∨w.heap.size≤k_)) (.slice Ao11 l0.length co11) x0_1)∧Aside0 (IsS3 w0 w' g x4000_1)∧Aside0 (Kept w w' (fun k_=>(P0_ k_)∨k_=g))∧Aside0 (Below w0.heap.size w0 w'))
 case atStart=>exact ⟨(l0),(1),(s3_0),yeq,H,⟨Nat.le_refl _⟩,⟨yka HO0.out⟩,⟨by repeat (first|(with_reducible first|exact HI3.out|apply IsS3.alloc|apply IsS3.drewN|apply IsS3.drew|apply IsS3.set_0)|exact HI3.out)⟩,⟨by repeat (first|(with_reducible first|exact HK.out|apply Kept.alloc|apply Kept.drewN|apply Kept.drew|refine Kept.setCell ?_ (.inl (.inr rfl)) _)|exact HK.out)⟩,⟨by repeat (first|(with_reducible first|exact HB.out|apply yea|apply yen|apply yed|refine below_set ?_ (IsS3.ge HI3.out))|exact HB.out)⟩⟩
 case round =>
  clear H
  try clear c5
  try clear c5b0
  try clear c5b1
  obtain ⟨x0_1,x9_1,x4000_1,rfl,HA,HK1,HO_0,HI3,HK,HB⟩:=hrel
  have hl0_1:=(Kd.Yr HO_0.out).1
  rw [hl0_1] at HO_0
  (try simp only [hl0_1])
  rcases gk with _|k1
  ·exact absurd HA.out (by simp [spec_l2Search.l0])
  obtain ⟨H⟩:=HA
  simp only [spec_l2Search.l0] at H
  replace H:=yis H;obtain ⟨c12b0,H⟩ | ⟨c12b0,H⟩:=H
  rotate_left
  ·simp only [Option.some.injEq,Prod.mk.injEq] at H
   obtain ⟨rfl,rfl⟩:=H
   go_wp2
   go_ret
   exact ⟨_,yer,by first|exact Kd.R_nil _ _ _ _ _|exact Kd.N_nil _ _ _ _ _|exact Kd.V_nil _ _ _ _ _|exact Kd.Q_nil _ _ _ _ _|exact Kd.S_nil _ _ _ _ _,by repeat (first|(with_reducible first|exact HI3.out|apply IsS3.alloc|apply IsS3.drewN|apply IsS3.drew|apply IsS3.set_0)|exact HI3.out),by repeat (first|(with_reducible first|exact HB.out|apply yea|apply yen|apply yed|refine below_set ?_ (IsS3.ge HI3.out))|exact HB.out),by repeat (first|(with_reducible first|exact HK.out|apply Kept.alloc|apply Kept.drewN|apply Kept.drew|refine Kept.setCell ?_ (.inl (.inr rfl)) _)|exact HK.out)⟩
  obtain ⟨y136,Ny136⟩:∃ y_:List Int,Aside0 (y_=(([]:List Int))):=⟨_,⟨rfl⟩⟩
  replace H:(if y136.length + x0_1.length < 17592186044416 then ((some (y136 ++ x0_1:List Int)).bind fun y139=>(if 0≤a2 then (if a2 < (y139.length:Int) then ((some (y139.set (a2:Int).toNat x9_1:List Int)).bind fun y142=>((spec_l2Clash.f k1 y142 a1).bind fun t143=>(if t143=true then (spec_l2Search.l0 k1 x0_1 a1 a2 (wrap64 (x9_1 + 1)) x4000_1) else ((spec_l2Search.f k1 y142 a1 (wrap64 (a2 + 1)) x4000_1).bind fun bt144=>(if (bt144.1.length:Int) > 0 then (some (bt144.1,bt144.2)) else (spec_l2Search.l0 k1 x0_1 a1 a2 (wrap64 (x9_1 + 1)) bt144.2)))))) else (none)) else (none))) else (none))=some (r1,r2):=yhn Ny136.out H
  replace H:=yig H;obtain ⟨c13,H⟩:=H
  have LMc13:=yam c13
  clear c13
  obtain ⟨y139,Ny139⟩:∃ y_:List Int,Aside0 (y_=(y136 ++ x0_1)):=⟨_,⟨rfl⟩⟩
  replace H:(if 0≤a2 then (if a2 < (y139.length:Int) then ((some (y139.set (a2:Int).toNat x9_1:List Int)).bind fun y142=>((spec_l2Clash.f k1 y142 a1).bind fun t143=>(if t143=true then (spec_l2Search.l0 k1 x0_1 a1 a2 (wrap64 (x9_1 + 1)) x4000_1) else ((spec_l2Search.f k1 y142 a1 (wrap64 (a2 + 1)) x4000_1).bind fun bt144=>(if (bt144.1.length:Int) > 0 then (some (bt144.1,bt144.2)) else (spec_l2Search.l0 k1 x0_1 a1 a2 (wrap64 (x9_1 + 1)) bt144.2)))))) else (none)) else (none))=some (r1,r2):=yhn Ny139.out H
  replace H:=yif H;obtain ⟨c14b0,H⟩:=H
  replace H:=yif H;obtain ⟨c15b0,H⟩:=H
  obtain ⟨y142,Ny142⟩:∃ y_:List Int,Aside0 (y_=(y139.set (a2:Int).toNat x9_1)):=⟨_,⟨rfl⟩⟩
  replace H:((spec_l2Clash.f k1 y142 a1).bind fun t143=>(if t143=true then (spec_l2Search.l0 k1 x0_1 a1 a2 (wrap64 (x9_1 + 1)) x4000_1) else ((spec_l2Search.f k1 y142 a1 (wrap64 (a2 + 1)) x4000_1).bind fun bt144=>(if (bt144.1.length:Int) > 0 then (some (bt144.1,bt144.2)) else (spec_l2Search.l0 k1 x0_1 a1 a2 (wrap64 (x9_1 + 1)) bt144.2)))))=some (r1,r2):=yhn Ny142.out H
  replace H:=ybi H;obtain ⟨t143,A17,H⟩:=H
  replace H:(if t143=true then (spec_l2Search.l0 k1 x0_1 a1 a2 (wrap64 (x9_1 + 1)) x4000_1) else ((spec_l2Search.f k1 y142 a1 (wrap64 (a2 + 1)) x4000_1).bind fun bt144=>(if (bt144.1.length:Int) > 0 then (some (bt144.1,bt144.2)) else (spec_l2Search.l0 k1 x0_1 a1 a2 (wrap64 (x9_1 + 1)) bt144.2))))=some (r1,r2):=H
  cases t143
  rotate_left
  ·replace H:=ytt H
   replace H:=yam H
   go_wp2_with (first|((with_reducible refine gate_dst (N:=32) rfl ?_);refine Kd.R_lit (Kd.int .i64) _ 3 ?hg (N:=32) ?hd (xs:=([]:List Int)) (inner:=[]) (ok:=fun _=>True) (okp:=fun _=>True) ?hr ?hp (fun _ hk=>hk) trivial (Below.refl _ _) (Nat.le_refl _) (by simp) ?_;(case hd=>rfl);(case hg=>rfl);(case hr=>first|(go_simp;done)|(go_simp;rfl));(case hp=>exact (Reps.none _ _));intro v137 w19 ho20 hb hg_ hnew_;clear hg_ hnew_;(first|rw [← Ny136.out] at ho20|(simp only [Int.reduceToNat] at ho20;rw [← Ny136.out] at ho20));have HO138:=yam (Kd.R_lower (Kd.Yw (Kd.R_newM (M:=fun k_=>(P0_ k_∨w.heap.size≤k_)) ho20 (by first|exact HK.out.1|exact (show Kept w _ (fun k_=>(P0_ k_)∨k_=g) from by repeat (first|(with_reducible first|exact HK.out|apply Kept.alloc|apply Kept.drewN|apply Kept.drew|refine Kept.setCell ?_ (.inl (.inr rfl)) _)|exact HK.out)).1) (fun k_ h_=> .inr h_)) (Kd.R_lt (yka HO_0.out))) (below_size (by repeat (first|(with_reducible first|exact HB.out|apply yea|apply yen|apply yed|refine below_set ?_ (IsS3.ge HI3.out))|exact HB.out))));replace HO_0:=yam (Kd.Ye (yka HO_0.out) (Kd.Yb ho20) hb);replace HK:=yam (Kept.below (S:=(fun k_=>(P0_ k_)∨k_=g)) (by repeat (first|(with_reducible first|exact HK.out|apply Kept.alloc|apply Kept.drewN|apply Kept.drew|refine Kept.setCell ?_ (.inl (.inr rfl)) _)|exact HK.out)) hb);replace HB:=yam (below_step (by repeat (first|(with_reducible first|exact HB.out|apply yea|apply yen|apply yed|refine below_set ?_ (IsS3.ge HI3.out))|exact HB.out)) hb);replace HI3:=yam (IsS3.below (by repeat (first|(with_reducible first|exact HI3.out|apply IsS3.alloc|apply IsS3.drewN|apply IsS3.drew|apply IsS3.set_0)|exact HI3.out)) hb);clear hb ho20)|((with_reducible refine gate_builtin (b:= .append) (xs:= #[.tmp 32,.tmp 33]) rfl ?_);at_builtin;refine Kd.R_append_rows (Kd.int .i64) (w0:=w0) w0.heap.size rfl (.tmp 32) (.tmp 33) 23 3 (.int .i64 0) 8 rfl Try.underlying23 info3 rfl (by decide) (by omega) v137 y136 x0_1 _ _ _ (fun k_=>(P0_ k_∨w.heap.size≤k_)∧some k_≠(.slice Ao11 x0_1.length co11:Value).ownBlock) (fun _=>False) rfl rfl ?aO ?aR (fun _ _ h=>h) (fun _ h=>h.elim) ?aF ?aB ?aS ?aL ?_;(case aR=>repeat (first|exact (Kd.Yr HO_0.out).2.2|(with_reducible refine Kd.C_alloc ?_ _)|(with_reducible refine Kd.C_drewN ?_ _)|(with_reducible refine Kd.C_drew ?_)));(case aB=>exact (by repeat (first|(with_reducible first|exact HB.out|apply yea|apply yen|apply yed|refine below_set ?_ (IsS3.ge HI3.out))|exact HB.out)));(case aF=>exact (fun k_ hk=>⟨(.inr (Nat.le_trans (by first|exact HK.out.1|exact (show Kept w _ (fun k_=>(P0_ k_)∨k_=g) from by repeat (first|(with_reducible first|exact HK.out|apply Kept.alloc|apply Kept.drewN|apply Kept.drew|refine Kept.setCell ?_ (.inl (.inr rfl)) _)|exact HK.out)).1) hk)),Kd.fresh' (Kd.R_lt (yka HO_0.out)) k_ hk⟩));(case aO=>exact (by (with_reducible repeat (first|apply Kd.Ya|apply Kd.Yn|apply Kd.Yd));exact Kd.R_mono HO138.out (fun _ hk=>⟨hk.1.1,hk.2⟩)));(case aS=>exact (below_size (by repeat (first|(with_reducible first|exact HB.out|apply yea|apply yen|apply yed|refine below_set ?_ (IsS3.ge HI3.out))|exact HB.out))));(case aL=>have:=LMc13.out;omega);intro v140 w21 ho hb hg hat;rw [← Ny139.out] at ho;replace HO_0:=yam (Kd.R_after (ok:=(fun k_=>(P0_ k_∨w.heap.size≤k_))) (yka HO_0.out) hg hat);replace HI3:=yam (IsS3.grown (by repeat (first|(with_reducible first|exact HI3.out|apply IsS3.alloc|apply IsS3.drewN|apply IsS3.drew|apply IsS3.set_0)|exact HI3.out)) hg (fun e_=>HPG.out (by first|exact (HO138.out.1 g e_.symm)|exact (HO138.out.1 g e_.symm).1|exact (HO138.out.1 g e_.symm).1.1|exact (HO138.out.1 g e_.symm).1.1.1|exact (HO138.out.1 g e_.symm).1.1.1.1)));replace HB:=yam (hb);replace HK:=yam (Kept.of_grown (S:=(fun k_=>(P0_ k_)∨k_=g)) hg (by repeat (first|(with_reducible first|exact HK.out|apply Kept.alloc|apply Kept.drewN|apply Kept.drew|refine Kept.setCell ?_ (.inl (.inr rfl)) _)|exact HK.out)) (fun k_ e_=>Or.imp_left Or.inl ((HO138.out.1 k_ e_).1.1)));have HO141:=yam (ho);clear HO138;clear ho hb hg hat;have p16:0≤(a2:Int):=ydt;have q16:(a2:Int) < ((y139.length:Int):Int):=ydt;obtain ⟨go16,co16,eo16,gb16,gl16,cl16,HG16⟩:=Kd.R_form HO141.out (by omega);(first|cases eo16|(injection eo16 with ea_ en_ ec_;(first|subst ea_|(injection ea_ with ea_;subst ea_));subst ec_;clear en_));have GB16:=yam gb16;have GG16:=yam HG16;clear gb16 gl16 HG16;have HMgo16:=yam (show (P0_ go16∨w.heap.size≤go16) from (HO141.out.1 _ rfl).1);obtain ⟨hx16_0,hf16_0⟩:=Kd.R_celln 0 HO141.out (a2:Int) p16 q16;replace p16:=eq_true p16;replace q16:=eq_true q16;obtain ⟨hy22_,hz22_⟩:=Kd.R_celln 0 HO141.out (a2:Int) (ydt) (ydt);have HP22:=Kd.R_putg HO141.out (a2:Int) x9_1)|((with_reducible refine gate_store (t:=3) (p:=38) rfl ?_);refine store_event (t:=3) (p:=38) (v:=?vo_w23) (w1:=(w21.setCell ⟨go16,(a2:Int).toNat,none⟩ (.int .i64 x9_1))) ?hg ?ho ?hn ?hr ?_;(case ho=>rfl);(case hg=>rfl);(case hn=>rfl);(case hr=>first|(go_simp;done)|(go_simp;rfl));intro w23 hw;have hg:w21.grownBy w23 (some go16):=(by rw [hw];exact HP22.2);have hp_:Kd.R (Kd.int .i64) 3 w23 w0.heap.size (fun k_=>(P0_ k_∨w.heap.size≤k_)∧some k_≠(.slice Ao11 x0_1.length co11:Value).ownBlock) (.slice (some ⟨go16,0,none⟩) y139.length co16) y142:=(by rw [hw,Ny142.out];exact HP22.1);clear HP22;replace HO_0:=yam (Kd.R_after (v:=(.slice (some ⟨go16,0,none⟩) y139.length co16)) (v1:=(.slice (some ⟨go16,0,none⟩) y139.length co16)) (ok:=(fun k_=>(P0_ k_∨w.heap.size≤k_))) (yka HO_0.out) hg (.inl rfl));replace HI3:=yam (IsS3.grown (by repeat (first|(with_reducible first|exact HI3.out|apply IsS3.alloc|apply IsS3.drewN|apply IsS3.drew|apply IsS3.set_0)|exact HI3.out)) hg (fun e_=>HPG.out (by first|exact (HO141.out.1 g e_.symm)|exact (HO141.out.1 g e_.symm).1|exact (HO141.out.1 g e_.symm).1.1|exact (HO141.out.1 g e_.symm).1.1.1|exact (HO141.out.1 g e_.symm).1.1.1.1)));replace HB:=yam ((by rw [hw];exact below_set (HB.out) GB16.out:Below w0.heap.size w0 w23));replace HK:=yam (Kept.of_grown (S:=(fun k_=>(P0_ k_)∨k_=g)) hg (by repeat (first|(with_reducible first|exact HK.out|apply Kept.alloc|apply Kept.drewN|apply Kept.drew|refine Kept.setCell ?_ (.inl (.inr rfl)) _)|exact HK.out)) (fun k_ e_=>Or.imp_left Or.inl ((HO141.out.1 k_ e_).1)));replace HO141:=yam (hp_);clear hg hw hp_)|(refine goesL_ (some 41) rfl rfl Try.func92 (by kernel_rfl) rfl #[.slice (some ⟨go16,0,none⟩) y142.length co16,.int .i64 a1] rfl (by (try simp only [List.map_toArray,List.map_cons,List.map_nil]);first|done|(rw [show y142.length=y139.length from (Kd.Yr HO141.out).1.symm] <;> rfl)|rfl|(simp only [List.length_drop,List.length_take];rfl)) ?_;(with_reducible refine (spec_l2Clash.calls k1 _ _ y142 a1 true _ ?side1 ?side2 A17.out).mono ?_);(case side1=>exact Kd.Cz (Kd.Yr HO141.out).2.2);(case side2=>rw [show y142.length=y139.length from (Kd.Yr HO141.out).1.symm];exact (Kd.Yr HO141.out).2.1);rintro e w24 ⟨rfl,hb⟩;refine ⟨_,rfl,?_⟩;replace HO_0:=yam (Kd.R_below (yka HO_0.out) hb);replace HO141:=yam (Kd.R_below (yka HO141.out) hb);replace HK:=yam (Kept.below (S:=(fun k_=>(P0_ k_)∨k_=g)) (by repeat (first|(with_reducible first|exact HK.out|apply Kept.alloc|apply Kept.drewN|apply Kept.drew|refine Kept.setCell ?_ (.inl (.inr rfl)) _)|exact HK.out)) hb);replace HB:=yam (below_step (by repeat (first|(with_reducible first|exact HB.out|apply yea|apply yen|apply yed|refine below_set ?_ (IsS3.ge HI3.out))|exact HB.out)) hb);replace HI3:=yam (IsS3.below (by repeat (first|(with_reducible first|exact HI3.out|apply IsS3.alloc|apply IsS3.drewN|apply IsS3.drew|apply IsS3.set_0)|exact HI3.out)) hb);(try clear hb)))
   (try simp only [← hl0_1])
   go_roundg k1
   case measure=>have:=HK1.out;omega
   case rel=>exact ⟨(x0_1),(wrap64 (x9_1 + 1)),(x4000_1),yeq,H,⟨by have:=HK1.out;omega⟩,⟨by (try simp only [hl0_1]);(with_reducible repeat (first|apply Kd.Ya|apply Kd.Yn|apply Kd.Yd));exact Kd.R_mono HO_0.out (fun _ hk=>hk.1)⟩,⟨by repeat (first|(with_reducible first|exact HI3.out|apply IsS3.alloc|apply IsS3.drewN|apply IsS3.drew|apply IsS3.set_0)|exact HI3.out)⟩,⟨by repeat (first|(with_reducible first|exact HK.out|apply Kept.alloc|apply Kept.drewN|apply Kept.drew|refine Kept.setCell ?_ (.inl (.inr rfl)) _)|exact HK.out)⟩,⟨by repeat (first|(with_reducible first|exact HB.out|apply yea|apply yen|apply yed|refine below_set ?_ (IsS3.ge HI3.out))|exact HB.out)⟩⟩
  replace H:=yff H
  replace H:=ybi H;obtain ⟨⟨t144,t147⟩,A25,H⟩:=H
  replace H:(if (t144.length:Int) > 0 then (some (t144,t147)) else (spec_l2Search.l0 k1 x0_1 a1 a2 (wrap64 (x9_1 + 1)) t147))=some (r1,r2):=H
  replace H:=yit H;obtain ⟨c26,H⟩ | ⟨c26,H⟩:=H
  ·have c26b0:decide (0 < (t144.length:Int))=true:=decide_eq_true c26
   have c26b1:decide (0 < t144.length)=true:=decide_eq_true (by omega)
   clear c26
   simp only [Option.some.injEq,Prod.mk.injEq] at H
   obtain ⟨rfl,rfl⟩:=H
   go_wp2_with (first|((with_reducible refine gate_dst (N:=32) rfl ?_);refine Kd.R_lit (Kd.int .i64) _ 3 ?hg (N:=32) ?hd (xs:=([]:List Int)) (inner:=[]) (ok:=fun _=>True) (okp:=fun _=>True) ?hr ?hp (fun _ hk=>hk) trivial (Below.refl _ _) (Nat.le_refl _) (by simp) ?_;(case hd=>rfl);(case hg=>rfl);(case hr=>first|(go_simp;done)|(go_simp;rfl));(case hp=>exact (Reps.none _ _));intro v137 w27 ho28 hb hg_ hnew_;clear hg_ hnew_;(first|rw [← Ny136.out] at ho28|(simp only [Int.reduceToNat] at ho28;rw [← Ny136.out] at ho28));have HO138:=yam (Kd.R_lower (Kd.Yw (Kd.R_newM (M:=fun k_=>(P0_ k_∨w.heap.size≤k_)) ho28 (by first|exact HK.out.1|exact (show Kept w _ (fun k_=>(P0_ k_)∨k_=g) from by repeat (first|(with_reducible first|exact HK.out|apply Kept.alloc|apply Kept.drewN|apply Kept.drew|refine Kept.setCell ?_ (.inl (.inr rfl)) _)|exact HK.out)).1) (fun k_ h_=> .inr h_)) (Kd.R_lt (yka HO_0.out))) (below_size (by repeat (first|(with_reducible first|exact HB.out|apply yea|apply yen|apply yed|refine below_set ?_ (IsS3.ge HI3.out))|exact HB.out))));replace HO_0:=yam (Kd.Ye (yka HO_0.out) (Kd.Yb ho28) hb);replace HK:=yam (Kept.below (S:=(fun k_=>(P0_ k_)∨k_=g)) (by repeat (first|(with_reducible first|exact HK.out|apply Kept.alloc|apply Kept.drewN|apply Kept.drew|refine Kept.setCell ?_ (.inl (.inr rfl)) _)|exact HK.out)) hb);replace HB:=yam (below_step (by repeat (first|(with_reducible first|exact HB.out|apply yea|apply yen|apply yed|refine below_set ?_ (IsS3.ge HI3.out))|exact HB.out)) hb);replace HI3:=yam (IsS3.below (by repeat (first|(with_reducible first|exact HI3.out|apply IsS3.alloc|apply IsS3.drewN|apply IsS3.drew|apply IsS3.set_0)|exact HI3.out)) hb);clear hb ho28)|((with_reducible refine gate_builtin (b:= .append) (xs:= #[.tmp 32,.tmp 33]) rfl ?_);at_builtin;refine Kd.R_append_rows (Kd.int .i64) (w0:=w0) w0.heap.size rfl (.tmp 32) (.tmp 33) 23 3 (.int .i64 0) 8 rfl Try.underlying23 info3 rfl (by decide) (by omega) v137 y136 x0_1 _ _ _ (fun k_=>(P0_ k_∨w.heap.size≤k_)∧some k_≠(.slice Ao11 x0_1.length co11:Value).ownBlock) (fun _=>False) rfl rfl ?aO ?aR (fun _ _ h=>h) (fun _ h=>h.elim) ?aF ?aB ?aS ?aL ?_;(case aR=>repeat (first|exact (Kd.Yr HO_0.out).2.2|(with_reducible refine Kd.C_alloc ?_ _)|(with_reducible refine Kd.C_drewN ?_ _)|(with_reducible refine Kd.C_drew ?_)));(case aB=>exact (by repeat (first|(with_reducible first|exact HB.out|apply yea|apply yen|apply yed|refine below_set ?_ (IsS3.ge HI3.out))|exact HB.out)));(case aF=>exact (fun k_ hk=>⟨(.inr (Nat.le_trans (by first|exact HK.out.1|exact (show Kept w _ (fun k_=>(P0_ k_)∨k_=g) from by repeat (first|(with_reducible first|exact HK.out|apply Kept.alloc|apply Kept.drewN|apply Kept.drew|refine Kept.setCell ?_ (.inl (.inr rfl)) _)|exact HK.out)).1) hk)),Kd.fresh' (Kd.R_lt (yka HO_0.out)) k_ hk⟩));(case aO=>exact (by (with_reducible repeat (first|apply Kd.Ya|apply Kd.Yn|apply Kd.Yd));exact Kd.R_mono HO138.out (fun _ hk=>⟨hk.1.1,hk.2⟩)));(case aS=>exact (below_size (by repeat (first|(with_reducible first|exact HB.out|apply yea|apply yen|apply yed|refine below_set ?_ (IsS3.ge HI3.out))|exact HB.out))));(case aL=>have:=LMc13.out;omega);intro v140 w29 ho hb hg hat;rw [← Ny139.out] at ho;replace HO_0:=yam (Kd.R_after (ok:=(fun k_=>(P0_ k_∨w.heap.size≤k_))) (yka HO_0.out) hg hat);replace HI3:=yam (IsS3.grown (by repeat (first|(with_reducible first|exact HI3.out|apply IsS3.alloc|apply IsS3.drewN|apply IsS3.drew|apply IsS3.set_0)|exact HI3.out)) hg (fun e_=>HPG.out (by first|exact (HO138.out.1 g e_.symm)|exact (HO138.out.1 g e_.symm).1|exact (HO138.out.1 g e_.symm).1.1|exact (HO138.out.1 g e_.symm).1.1.1|exact (HO138.out.1 g e_.symm).1.1.1.1)));replace HB:=yam (hb);replace HK:=yam (Kept.of_grown (S:=(fun k_=>(P0_ k_)∨k_=g)) hg (by repeat (first|(with_reducible first|exact HK.out|apply Kept.alloc|apply Kept.drewN|apply Kept.drew|refine Kept.setCell ?_ (.inl (.inr rfl)) _)|exact HK.out)) (fun k_ e_=>Or.imp_left Or.inl ((HO138.out.1 k_ e_).1.1)));have HO141:=yam (ho);clear HO138;clear ho hb hg hat;have p16:0≤(a2:Int):=ydt;have q16:(a2:Int) < ((y139.length:Int):Int):=ydt;obtain ⟨go16,co16,eo16,gb16,gl16,cl16,HG16⟩:=Kd.R_form HO141.out (by omega);(first|cases eo16|(injection eo16 with ea_ en_ ec_;(first|subst ea_|(injection ea_ with ea_;subst ea_));subst ec_;clear en_));have GB16:=yam gb16;have GG16:=yam HG16;clear gb16 gl16 HG16;have HMgo16:=yam (show (P0_ go16∨w.heap.size≤go16) from (HO141.out.1 _ rfl).1);obtain ⟨hx16_0,hf16_0⟩:=Kd.R_celln 0 HO141.out (a2:Int) p16 q16;replace p16:=eq_true p16;replace q16:=eq_true q16;obtain ⟨hy30_,hz30_⟩:=Kd.R_celln 0 HO141.out (a2:Int) (ydt) (ydt);have HP30:=Kd.R_putg HO141.out (a2:Int) x9_1)|((with_reducible refine gate_store (t:=3) (p:=38) rfl ?_);refine store_event (t:=3) (p:=38) (v:=?vo_w31) (w1:=(w29.setCell ⟨go16,(a2:Int).toNat,none⟩ (.int .i64 x9_1))) ?hg ?ho ?hn ?hr ?_;(case ho=>rfl);(case hg=>rfl);(case hn=>rfl);(case hr=>first|(go_simp;done)|(go_simp;rfl));intro w31 hw;have hg:w29.grownBy w31 (some go16):=(by rw [hw];exact HP30.2);have hp_:Kd.R (Kd.int .i64) 3 w31 w0.heap.size (fun k_=>(P0_ k_∨w.heap.size≤k_)∧some k_≠(.slice Ao11 x0_1.length co11:Value).ownBlock) (.slice (some ⟨go16,0,none⟩) y139.length co16) y142:=(by rw [hw,Ny142.out];exact HP30.1);clear HP30;replace HO_0:=yam (Kd.R_after (v:=(.slice (some ⟨go16,0,none⟩) y139.length co16)) (v1:=(.slice (some ⟨go16,0,none⟩) y139.length co16)) (ok:=(fun k_=>(P0_ k_∨w.heap.size≤k_))) (yka HO_0.out) hg (.inl rfl));replace HI3:=yam (IsS3.grown (by repeat (first|(with_reducible first|exact HI3.out|apply IsS3.alloc|apply IsS3.drewN|apply IsS3.drew|apply IsS3.set_0)|exact HI3.out)) hg (fun e_=>HPG.out (by first|exact (HO141.out.1 g e_.symm)|exact (HO141.out.1 g e_.symm).1|exact (HO141.out.1 g e_.symm).1.1|exact (HO141.out.1 g e_.symm).1.1.1|exact (HO141.out.1 g e_.symm).1.1.1.1)));replace HB:=yam ((by rw [hw];exact below_set (HB.out) GB16.out:Below w0.heap.size w0 w31));replace HK:=yam (Kept.of_grown (S:=(fun k_=>(P0_ k_)∨k_=g)) hg (by repeat (first|(with_reducible first|exact HK.out|apply Kept.alloc|apply Kept.drewN|apply Kept.drew|refine Kept.setCell ?_ (.inl (.inr rfl)) _)|exact HK.out)) (fun k_ e_=>Or.imp_left Or.inl ((HO141.out.1 k_ e_).1)));replace HO141:=yam (hp_);clear hg hw hp_)|(refine goesL_ (some 41) rfl rfl Try.func92 (by kernel_rfl) rfl #[.slice (some ⟨go16,0,none⟩) y142.length co16,.int .i64 a1] rfl (by (try simp only [List.map_toArray,List.map_cons,List.map_nil]);first|done|(rw [show y142.length=y139.length from (Kd.Yr HO141.out).1.symm] <;> rfl)|rfl|(simp only [List.length_drop,List.length_take];rfl)) ?_;(with_reducible refine (spec_l2Clash.calls k1 _ _ y142 a1 false _ ?side1 ?side2 A17.out).mono ?_);(case side1=>exact Kd.Cz (Kd.Yr HO141.out).2.2);(case side2=>rw [show y142.length=y139.length from (Kd.Yr HO141.out).1.symm];exact (Kd.Yr HO141.out).2.1);rintro e w32 ⟨rfl,hb⟩;refine ⟨_,rfl,?_⟩;replace HO_0:=yam (Kd.R_below (yka HO_0.out) hb);replace HO141:=yam (Kd.R_below (yka HO141.out) hb);replace HK:=yam (Kept.below (S:=(fun k_=>(P0_ k_)∨k_=g)) (by repeat (first|(with_reducible first|exact HK.out|apply Kept.alloc|apply Kept.drewN|apply Kept.drew|refine Kept.setCell ?_ (.inl (.inr rfl)) _)|exact HK.out)) hb);replace HB:=yam (below_step (by repeat (first|(with_reducible first|exact HB.out|apply yea|apply yen|apply yed|refine below_set ?_ (IsS3.ge HI3.out))|exact HB.out)) hb);replace HI3:=yam (IsS3.below (by repeat (first|(with_reducible first|exact HI3.out|apply IsS3.alloc|apply IsS3.drewN|apply IsS3.drew|apply IsS3.set_0)|exact HI3.out)) hb);(try clear hb))|(refine goesL_ (some 47) rfl rfl Try.func93 (by kernel_rfl) rfl #[.slice (some ⟨go16,0,none⟩) y139.length co16,.int .i64 a1,.int .i64 (wrap64 (a2 + 1)),.pointer (some ⟨g,0,none⟩)] rfl ymd ?_;(with_reducible refine (ih k1 (by have:=HK1.out;omega) (fun k_=>some k_=(.slice (some ⟨go16,0,none⟩) y139.length co16:Value).ownBlock) (.slice (some ⟨go16,0,none⟩) y139.length co16) y142 a1 (wrap64 (a2 + 1)) g x4000_1 t144 t147 w0 _ ?side1 ?side2 ?sideP ?side3 A25.out).mono ?_);(case side1=>repeat (first|(with_reducible first|exact HI3.out|apply IsS3.alloc|apply IsS3.drewN|apply IsS3.drew|apply IsS3.set_0)|exact HI3.out));(case side2=>repeat (first|(with_reducible first|exact HB.out|apply yea|apply yen|apply yed|refine below_set ?_ (IsS3.ge HI3.out))|exact HB.out));(case sideP=>exact (fun e_=>HPG.out (by first|exact (HO141.out.1 g e_.symm)|exact (HO141.out.1 g e_.symm).1|exact (HO141.out.1 g e_.symm).1.1|exact (HO141.out.1 g e_.symm).1.1.1|exact (HO141.out.1 g e_.symm).1.1.1.1)));(case side3=>exact Kd.R_tight rfl HO141.out);rintro e w33 ⟨v145,rfl,ho0,hi,hb,hkp⟩;refine ⟨_,rfl,?_⟩;replace HI3:=yam (hi);have HO146:=yam (Kd.R_mono (ok':=fun k_=>(P0_ k_∨w.heap.size≤k_)∧some k_≠(.slice Ao11 x0_1.length co11:Value).ownBlock) ho0 (fun k_ hk_=>⟨Or.elim hk_ (fun hs_=>(HO141.out.1 k_ (hs_).symm).1) (fun hn_=>(.inr (Nat.le_trans (by first|exact HK.out.1|exact (show Kept w _ (fun k_=>(P0_ k_)∨k_=g) from by repeat (first|(with_reducible first|exact HK.out|apply Kept.alloc|apply Kept.drewN|apply Kept.drew|refine Kept.setCell ?_ (.inl (.inr rfl)) _)|exact HK.out)).1) hn_))),Or.elim hk_ (fun hs_=>fun e_=>((((apart_ok HO_0.out (fun k_ hk_ e_=>HPG.out (by subst e_;first|exact hk_|exact hk_.1|exact hk_.1.1|exact hk_.1.1.1)))).1 k_ e_.symm).1.2) hs_) (fun hn_=>(Kd.fresh' (Kd.R_lt (yka HO_0.out)) k_ hn_))⟩));replace HO_0:=yam (Kd.R_mono (ok':=fun k_=>(P0_ k_∨w.heap.size≤k_)∧some k_≠(v145:Value).ownBlock) (Kd.R_keptB ((apart_ok HO_0.out (fun k_ hk_ e_=>HPG.out (by subst e_;first|exact hk_|exact hk_.1|exact hk_.1.1|exact hk_.1.1.1)))) hkp (fun k_ hk_ hs_=>Or.elim hs_ (fun hs_=>(hk_.1.2) hs_) (fun e_=>(hk_.2) e_))) (fun k_ hk_=>⟨hk_.1.1.1,fun e_=>Or.elim (ho0.1 k_ e_.symm) (fun hs_=>hk_.2.1 (.inl hs_)) (fun hn_=>Nat.not_le.2 hk_.2.2 hn_)⟩));replace HK:=yam (Kept.then_ (S:=(fun k_=>(P0_ k_)∨k_=g)) (by repeat (first|(with_reducible first|exact HK.out|apply Kept.alloc|apply Kept.drewN|apply Kept.drew|refine Kept.setCell ?_ (.inl (.inr rfl)) _)|exact HK.out)) hkp (fun k_ hs_=>Or.elim hs_ (fun hs_=>(fun e_=>Or.imp_left Or.inl ((HO141.out.1 k_ e_.symm).1)) hs_) (fun e_=> .inl (.inr e_))));replace HB:=yam (hb);clear HO141;(try clear hb);(try clear hkp);(try clear ho0);obtain ⟨Ao34,co34,eo34⟩:=Kd.R_slice HO146.out;subst eo34))
   go_ret
   exact ⟨_,yer,by (with_reducible repeat (first|apply Kd.Ya|apply Kd.Yn|apply Kd.Yd));exact Kd.R_mono HO146.out (fun _ hk=>hk.1),by repeat (first|(with_reducible first|exact HI3.out|apply IsS3.alloc|apply IsS3.drewN|apply IsS3.drew|apply IsS3.set_0)|exact HI3.out),by repeat (first|(with_reducible first|exact HB.out|apply yea|apply yen|apply yed|refine below_set ?_ (IsS3.ge HI3.out))|exact HB.out),by repeat (first|(with_reducible first|exact HK.out|apply Kept.alloc|apply Kept.drewN|apply Kept.drew|refine Kept.setCell ?_ (.inl (.inr rfl)) _)|exact HK.out)⟩
  have c26b0:decide (0 < (t144.length:Int))=false:=decide_eq_false c26
  have c26b1:decide (0 < t144.length)=false:=decide_eq_false (by omega)
  clear c26
  replace H:=yam H
  go_wp2_with (first|((with_reducible refine gate_dst (N:=32) rfl ?_);refine Kd.R_lit (Kd.int .i64) _ 3 ?hg (N:=32) ?hd (xs:=([]:List Int)) (inner:=[]) (ok:=fun _=>True) (okp:=fun _=>True) ?hr ?hp (fun _ hk=>hk) trivial (Below.refl _ _) (Nat.le_refl _) (by simp) ?_;(case hd=>rfl);(case hg=>rfl);(case hr=>first|(go_simp;done)|(go_simp;rfl));(case hp=>exact (Reps.none _ _));intro v137 w35 ho36 hb hg_ hnew_;clear hg_ hnew_;(first|rw [← Ny136.out] at ho36|(simp only [Int.reduceToNat] at ho36;rw [← Ny136.out] at ho36));have HO138:=yam (Kd.R_lower (Kd.Yw (Kd.R_newM (M:=fun k_=>(P0_ k_∨w.heap.size≤k_)) ho36 (by first|exact HK.out.1|exact (show Kept w _ (fun k_=>(P0_ k_)∨k_=g) from by repeat (first|(with_reducible first|exact HK.out|apply Kept.alloc|apply Kept.drewN|apply Kept.drew|refine Kept.setCell ?_ (.inl (.inr rfl)) _)|exact HK.out)).1) (fun k_ h_=> .inr h_)) (Kd.R_lt (yka HO_0.out))) (below_size (by repeat (first|(with_reducible first|exact HB.out|apply yea|apply yen|apply yed|refine below_set ?_ (IsS3.ge HI3.out))|exact HB.out))));replace HO_0:=yam (Kd.Ye (yka HO_0.out) (Kd.Yb ho36) hb);replace HK:=yam (Kept.below (S:=(fun k_=>(P0_ k_)∨k_=g)) (by repeat (first|(with_reducible first|exact HK.out|apply Kept.alloc|apply Kept.drewN|apply Kept.drew|refine Kept.setCell ?_ (.inl (.inr rfl)) _)|exact HK.out)) hb);replace HB:=yam (below_step (by repeat (first|(with_reducible first|exact HB.out|apply yea|apply yen|apply yed|refine below_set ?_ (IsS3.ge HI3.out))|exact HB.out)) hb);replace HI3:=yam (IsS3.below (by repeat (first|(with_reducible first|exact HI3.out|apply IsS3.alloc|apply IsS3.drewN|apply IsS3.drew|apply IsS3.set_0)|exact HI3.out)) hb);clear hb ho36)|((with_reducible refine gate_builtin (b:= .append) (xs:= #[.tmp 32,.tmp 33]) rfl ?_);at_builtin;refine Kd.R_append_rows (Kd.int .i64) (w0:=w0) w0.heap.size rfl (.tmp 32) (.tmp 33) 23 3 (.int .i64 0) 8 rfl Try.underlying23 info3 rfl (by decide) (by omega) v137 y136 x0_1 _ _ _ (fun k_=>(P0_ k_∨w.heap.size≤k_)∧some k_≠(.slice Ao11 x0_1.length co11:Value).ownBlock) (fun _=>False) rfl rfl ?aO ?aR (fun _ _ h=>h) (fun _ h=>h.elim) ?aF ?aB ?aS ?aL ?_;(case aR=>repeat (first|exact (Kd.Yr HO_0.out).2.2|(with_reducible refine Kd.C_alloc ?_ _)|(with_reducible refine Kd.C_drewN ?_ _)|(with_reducible refine Kd.C_drew ?_)));(case aB=>exact (by repeat (first|(with_reducible first|exact HB.out|apply yea|apply yen|apply yed|refine below_set ?_ (IsS3.ge HI3.out))|exact HB.out)));(case aF=>exact (fun k_ hk=>⟨(.inr (Nat.le_trans (by first|exact HK.out.1|exact (show Kept w _ (fun k_=>(P0_ k_)∨k_=g) from by repeat (first|(with_reducible first|exact HK.out|apply Kept.alloc|apply Kept.drewN|apply Kept.drew|refine Kept.setCell ?_ (.inl (.inr rfl)) _)|exact HK.out)).1) hk)),Kd.fresh' (Kd.R_lt (yka HO_0.out)) k_ hk⟩));(case aO=>exact (by (with_reducible repeat (first|apply Kd.Ya|apply Kd.Yn|apply Kd.Yd));exact Kd.R_mono HO138.out (fun _ hk=>⟨hk.1.1,hk.2⟩)));(case aS=>exact (below_size (by repeat (first|(with_reducible first|exact HB.out|apply yea|apply yen|apply yed|refine below_set ?_ (IsS3.ge HI3.out))|exact HB.out))));(case aL=>have:=LMc13.out;omega);intro v140 w37 ho hb hg hat;rw [← Ny139.out] at ho;replace HO_0:=yam (Kd.R_after (ok:=(fun k_=>(P0_ k_∨w.heap.size≤k_))) (yka HO_0.out) hg hat);replace HI3:=yam (IsS3.grown (by repeat (first|(with_reducible first|exact HI3.out|apply IsS3.alloc|apply IsS3.drewN|apply IsS3.drew|apply IsS3.set_0)|exact HI3.out)) hg (fun e_=>HPG.out (by first|exact (HO138.out.1 g e_.symm)|exact (HO138.out.1 g e_.symm).1|exact (HO138.out.1 g e_.symm).1.1|exact (HO138.out.1 g e_.symm).1.1.1|exact (HO138.out.1 g e_.symm).1.1.1.1)));replace HB:=yam (hb);replace HK:=yam (Kept.of_grown (S:=(fun k_=>(P0_ k_)∨k_=g)) hg (by repeat (first|(with_reducible first|exact HK.out|apply Kept.alloc|apply Kept.drewN|apply Kept.drew|refine Kept.setCell ?_ (.inl (.inr rfl)) _)|exact HK.out)) (fun k_ e_=>Or.imp_left Or.inl ((HO138.out.1 k_ e_).1.1)));have HO141:=yam (ho);clear HO138;clear ho hb hg hat;have p16:0≤(a2:Int):=ydt;have q16:(a2:Int) < ((y139.length:Int):Int):=ydt;obtain ⟨go16,co16,eo16,gb16,gl16,cl16,HG16⟩:=Kd.R_form HO141.out (by omega);(first|cases eo16|(injection eo16 with ea_ en_ ec_;(first|subst ea_|(injection ea_ with ea_;subst ea_));subst ec_;clear en_));have GB16:=yam gb16;have GG16:=yam HG16;clear gb16 gl16 HG16;have HMgo16:=yam (show (P0_ go16∨w.heap.size≤go16) from (HO141.out.1 _ rfl).1);obtain ⟨hx16_0,hf16_0⟩:=Kd.R_celln 0 HO141.out (a2:Int) p16 q16;replace p16:=eq_true p16;replace q16:=eq_true q16;obtain ⟨hy38_,hz38_⟩:=Kd.R_celln 0 HO141.out (a2:Int) (ydt) (ydt);have HP38:=Kd.R_putg HO141.out (a2:Int) x9_1)|((with_reducible refine gate_store (t:=3) (p:=38) rfl ?_);refine store_event (t:=3) (p:=38) (v:=?vo_w39) (w1:=(w37.setCell ⟨go16,(a2:Int).toNat,none⟩ (.int .i64 x9_1))) ?hg ?ho ?hn ?hr ?_;(case ho=>rfl);(case hg=>rfl);(case hn=>rfl);(case hr=>first|(go_simp;done)|(go_simp;rfl));intro w39 hw;have hg:w37.grownBy w39 (some go16):=(by rw [hw];exact HP38.2);have hp_:Kd.R (Kd.int .i64) 3 w39 w0.heap.size (fun k_=>(P0_ k_∨w.heap.size≤k_)∧some k_≠(.slice Ao11 x0_1.length co11:Value).ownBlock) (.slice (some ⟨go16,0,none⟩) y139.length co16) y142:=(by rw [hw,Ny142.out];exact HP38.1);clear HP38;replace HO_0:=yam (Kd.R_after (v:=(.slice (some ⟨go16,0,none⟩) y139.length co16)) (v1:=(.slice (some ⟨go16,0,none⟩) y139.length co16)) (ok:=(fun k_=>(P0_ k_∨w.heap.size≤k_))) (yka HO_0.out) hg (.inl rfl));replace HI3:=yam (IsS3.grown (by repeat (first|(with_reducible first|exact HI3.out|apply IsS3.alloc|apply IsS3.drewN|apply IsS3.drew|apply IsS3.set_0)|exact HI3.out)) hg (fun e_=>HPG.out (by first|exact (HO141.out.1 g e_.symm)|exact (HO141.out.1 g e_.symm).1|exact (HO141.out.1 g e_.symm).1.1|exact (HO141.out.1 g e_.symm).1.1.1|exact (HO141.out.1 g e_.symm).1.1.1.1)));replace HB:=yam ((by rw [hw];exact below_set (HB.out) GB16.out:Below w0.heap.size w0 w39));replace HK:=yam (Kept.of_grown (S:=(fun k_=>(P0_ k_)∨k_=g)) hg (by repeat (first|(with_reducible first|exact HK.out|apply Kept.alloc|apply Kept.drewN|apply Kept.drew|refine Kept.setCell ?_ (.inl (.inr rfl)) _)|exact HK.out)) (fun k_ e_=>Or.imp_left Or.inl ((HO141.out.1 k_ e_).1)));replace HO141:=yam (hp_);clear hg hw hp_)|(refine goesL_ (some 41) rfl rfl Try.func92 (by kernel_rfl) rfl #[.slice (some ⟨go16,0,none⟩) y142.length co16,.int .i64 a1] rfl (by (try simp only [List.map_toArray,List.map_cons,List.map_nil]);first|done|(rw [show y142.length=y139.length from (Kd.Yr HO141.out).1.symm] <;> rfl)|rfl|(simp only [List.length_drop,List.length_take];rfl)) ?_;(with_reducible refine (spec_l2Clash.calls k1 _ _ y142 a1 false _ ?side1 ?side2 A17.out).mono ?_);(case side1=>exact Kd.Cz (Kd.Yr HO141.out).2.2);(case side2=>rw [show y142.length=y139.length from (Kd.Yr HO141.out).1.symm];exact (Kd.Yr HO141.out).2.1);rintro e w40 ⟨rfl,hb⟩;refine ⟨_,rfl,?_⟩;replace HO_0:=yam (Kd.R_below (yka HO_0.out) hb);replace HO141:=yam (Kd.R_below (yka HO141.out) hb);replace HK:=yam (Kept.below (S:=(fun k_=>(P0_ k_)∨k_=g)) (by repeat (first|(with_reducible first|exact HK.out|apply Kept.alloc|apply Kept.drewN|apply Kept.drew|refine Kept.setCell ?_ (.inl (.inr rfl)) _)|exact HK.out)) hb);replace HB:=yam (below_step (by repeat (first|(with_reducible first|exact HB.out|apply yea|apply yen|apply yed|refine below_set ?_ (IsS3.ge HI3.out))|exact HB.out)) hb);replace HI3:=yam (IsS3.below (by repeat (first|(with_reducible first|exact HI3.out|apply IsS3.alloc|apply IsS3.drewN|apply IsS3.drew|apply IsS3.set_0)|exact HI3.out)) hb);(try clear hb))|(refine goesL_ (some 47) rfl rfl Try.func93 (by kernel_rfl) rfl #[.slice (some ⟨go16,0,none⟩) y139.length co16,.int .i64 a1,.int .i64 (wrap64 (a2 + 1)),.pointer (some ⟨g,0,none⟩)] rfl ymd ?_;(with_reducible refine (ih k1 (by have:=HK1.out;omega) (fun k_=>some k_=(.slice (some ⟨go16,0,none⟩) y139.length co16:Value).ownBlock) (.slice (some ⟨go16,0,none⟩) y139.length co16) y142 a1 (wrap64 (a2 + 1)) g x4000_1 t144 t147 w0 _ ?side1 ?side2 ?sideP ?side3 A25.out).mono ?_);(case side1=>repeat (first|(with_reducible first|exact HI3.out|apply IsS3.alloc|apply IsS3.drewN|apply IsS3.drew|apply IsS3.set_0)|exact HI3.out));(case side2=>repeat (first|(with_reducible first|exact HB.out|apply yea|apply yen|apply yed|refine below_set ?_ (IsS3.ge HI3.out))|exact HB.out));(case sideP=>exact (fun e_=>HPG.out (by first|exact (HO141.out.1 g e_.symm)|exact (HO141.out.1 g e_.symm).1|exact (HO141.out.1 g e_.symm).1.1|exact (HO141.out.1 g e_.symm).1.1.1|exact (HO141.out.1 g e_.symm).1.1.1.1)));(case side3=>exact Kd.R_tight rfl HO141.out);rintro e w41 ⟨v145,rfl,ho0,hi,hb,hkp⟩;refine ⟨_,rfl,?_⟩;replace HI3:=yam (hi);have HO146:=yam (Kd.R_mono (ok':=fun k_=>(P0_ k_∨w.heap.size≤k_)∧some k_≠(.slice Ao11 x0_1.length co11:Value).ownBlock) ho0 (fun k_ hk_=>⟨Or.elim hk_ (fun hs_=>(HO141.out.1 k_ (hs_).symm).1) (fun hn_=>(.inr (Nat.le_trans (by first|exact HK.out.1|exact (show Kept w _ (fun k_=>(P0_ k_)∨k_=g) from by repeat (first|(with_reducible first|exact HK.out|apply Kept.alloc|apply Kept.drewN|apply Kept.drew|refine Kept.setCell ?_ (.inl (.inr rfl)) _)|exact HK.out)).1) hn_))),Or.elim hk_ (fun hs_=>fun e_=>((((apart_ok HO_0.out (fun k_ hk_ e_=>HPG.out (by subst e_;first|exact hk_|exact hk_.1|exact hk_.1.1|exact hk_.1.1.1)))).1 k_ e_.symm).1.2) hs_) (fun hn_=>(Kd.fresh' (Kd.R_lt (yka HO_0.out)) k_ hn_))⟩));replace HO_0:=yam (Kd.R_mono (ok':=fun k_=>(P0_ k_∨w.heap.size≤k_)∧some k_≠(v145:Value).ownBlock) (Kd.R_keptB ((apart_ok HO_0.out (fun k_ hk_ e_=>HPG.out (by subst e_;first|exact hk_|exact hk_.1|exact hk_.1.1|exact hk_.1.1.1)))) hkp (fun k_ hk_ hs_=>Or.elim hs_ (fun hs_=>(hk_.1.2) hs_) (fun e_=>(hk_.2) e_))) (fun k_ hk_=>⟨hk_.1.1.1,fun e_=>Or.elim (ho0.1 k_ e_.symm) (fun hs_=>hk_.2.1 (.inl hs_)) (fun hn_=>Nat.not_le.2 hk_.2.2 hn_)⟩));replace HK:=yam (Kept.then_ (S:=(fun k_=>(P0_ k_)∨k_=g)) (by repeat (first|(with_reducible first|exact HK.out|apply Kept.alloc|apply Kept.drewN|apply Kept.drew|refine Kept.setCell ?_ (.inl (.inr rfl)) _)|exact HK.out)) hkp (fun k_ hs_=>Or.elim hs_ (fun hs_=>(fun e_=>Or.imp_left Or.inl ((HO141.out.1 k_ e_.symm).1)) hs_) (fun e_=> .inl (.inr e_))));replace HB:=yam (hb);clear HO141;(try clear hb);(try clear hkp);(try clear ho0);obtain ⟨Ao42,co42,eo42⟩:=Kd.R_slice HO146.out;subst eo42))
  (try simp only [← hl0_1])
  go_roundg k1
  case measure=>have:=HK1.out;omega
  case rel=>exact ⟨(x0_1),(wrap64 (x9_1 + 1)),(t147),yeq,H,⟨by have:=HK1.out;omega⟩,⟨by (try simp only [hl0_1]);(with_reducible repeat (first|apply Kd.Ya|apply Kd.Yn|apply Kd.Yd));exact Kd.R_mono HO_0.out (fun _ hk=>hk.1)⟩,⟨by repeat (first|(with_reducible first|exact HI3.out|apply IsS3.alloc|apply IsS3.drewN|apply IsS3.drew|apply IsS3.set_0)|exact HI3.out)⟩,⟨by repeat (first|(with_reducible first|exact HK.out|apply Kept.alloc|apply Kept.drewN|apply Kept.drew|refine Kept.setCell ?_ (.inl (.inr rfl)) _)|exact HK.out)⟩,⟨by repeat (first|(with_reducible first|exact HB.out|apply yea|apply yen|apply yed|refine below_set ?_ (IsS3.ge HI3.out))|exact HB.out)⟩⟩
def spec_SquareNumber.f (k:Nat)(a0:Int)(a1:Int):Option (List Int) :=
 if 2≤a0∧a0≤4∧0≤a1 then (spec_l2Search.f k (List.replicate (wrap64 (a0 * a0)).toNat 0) a0 0 a1).bind fun t=>(if t.1.length < 17592186044416 then some t.1 else none) else some []
abbrev spec_SquareNumber.box (w:World)(nd:Nat)(a1:Int):World:=((w.drewN nd).alloc (Obj.cells #[Value.int IntKind.i64 0] 3)).setCell ⟨w.heap.size,0,none⟩ (.int .i64 a1)
theorem spec_SquareNumber.box_is (w:World)(nd:Nat)(a1:Int):IsS3 w (spec_SquareNumber.box w nd a1) w.heap.size a1:=IsS3.set_0 (IsS3.new w (w.drewN nd) 0 (pw_below_drewN (Below.refl _ _) nd)) a1
theorem spec_SquareNumber.box_below (w:World)(nd:Nat)(a1:Int):Below w.heap.size w (spec_SquareNumber.box w nd a1):=below_set (below_alloc (pw_below_drewN (Below.refl _ _) nd) _) (Nat.le_refl _)
theorem spec_SquareNumber.calls (k:Nat)(a0:Int)(a1:Int)(r:List Int)(w:World)(h:spec_SquareNumber.f k a0 a1=some r) :
  Calls Try.prog 88 #[.int .i64 a0,.int .i64 a1] w fun e w'=>∃ v0_:Value,e= .returned (v0_)∧Kd.R (Kd.int .i64) 3 w' w.heap.size (fun _=>True) v0_ r∧Below w.heap.size w w':=by
 unfold spec_SquareNumber.f at h
 by_cases hc:2≤a0∧a0≤4∧0≤a1
 ·rw [if_pos hc] at h
  obtain ⟨⟨t1,t2⟩,hS,h⟩:=Option.bind_eq_some_iff.1 h
  by_cases hlen:t1.length < 17592186044416
  ·simp only [hlen,if_true,Option.some.injEq] at h
   subst h
   have HS:=yam hS
   have HLN:=yam hlen
   have HL:=yam (show spec_l1In.f a0 2 4=some true by unfold spec_l1In.f;rw [if_pos hc.1,decide_eq_true hc.2.1])
   have hn:decide (a1 < 0)=false:=decide_eq_false (by omega)
   have HM:=yam (show 0≤wrap64 (a0 * a0)∧wrap64 (a0 * a0)≤16 by
    have:a0=2∨a0=3∨a0=4:=by omega
    rcases this with rfl|rfl|rfl <;> decide +kernel)
   clear hc hS hlen
   go_enter Try.func88,Try.ntmps88
   go_wp2_with (first
    | (go_at_call 70;(with_reducible refine (spec_l1In.calls a0 2 4 true _ HL.out).mono ?_);rintro e w' ⟨rfl,⟨nd,rfl⟩⟩;have hcz:((w.drewN nd).alloc (Obj.cells #[Value.int IntKind.i64 0] 3)).cell? ⟨w.heap.size,0,none⟩=some (.int .i64 0):=(blk_cell (heap_alloc_new (w.drewN nd) (Obj.cells #[Value.int IntKind.i64 0] 3)) 0).trans rfl;have hfz:((w.drewN nd).alloc (Obj.cells #[Value.int IntKind.i64 0] 3)).frozen? ⟨w.heap.size,0,none⟩=false:=blk_frozen (heap_alloc_new (w.drewN nd) (Obj.cells #[Value.int IntKind.i64 0] 3)) 0;have HI:=yam (spec_SquareNumber.box_is w nd a1);have HB:=yam (spec_SquareNumber.box_below w nd a1))
    | ((with_reducible refine gate_dst (N:=20) rfl ?_);refine Kd.R_make (Kd.int .i64) _ 3 rfl (N:=20) rfl 23 _ _ rfl (wrap64 (a0 * a0)) rfl rfl Try.underlying23 (.int .i64 0) 8 info3 rfl (by decide) (by omega) 0 (ok:=fun k_=>w.heap.size < k_) (okp:=fun _=>False) rfl (fun _ hk=>hk.elim) (IsS3.lt HI.out) HM.out.1 (by have:=HM.out.2;omega) (Below.refl _ _) (Nat.le_refl _) ?_;intro v20 w20 ho20 hb hg_ hnew_;clear hg_ hnew_;replace HI:=yam (IsS3.below HI.out hb);have HO20:=yam (Kd.R_lower ho20 (below_size HB.out));replace HB:=yam (below_step HB.out hb);clear ho20 hb)
    | (refine goesL_ (some 23) rfl rfl Try.func93 (by kernel_rfl) rfl #[v20,.int .i64 a0,.int .i64 0,.pointer (some ⟨w.heap.size,0,none⟩)] rfl yma ?_;(with_reducible refine (spec_l2Search.calls k (fun k_=>w.heap.size < k_) v20 (List.replicate (wrap64 (a0 * a0)).toNat 0) a0 0 w.heap.size a1 t1 t2 w _ HI.out HB.out (Nat.lt_irrefl _) HO20.out HS.out).mono ?_);rintro e w23 ⟨v23,rfl,ho0,hi,hb,hkp⟩;refine ⟨_,rfl,?_⟩;have n1_:=yam (Kd.R_mono (ok':=fun _=>True) ho0 (fun _ _=>trivial));have n2_:=yam hb;clear HI HB HO20 hi hb hkp ho0;have HO23:=n1_;have HB:=n2_;clear n1_ n2_;obtain ⟨A23,c23,e23⟩:=Kd.R_slice HO23.out;subst e23)
    | ((with_reducible refine gate_dst (N:=24) rfl ?_);refine Kd.R_lit (Kd.int .i64) _ 3 ?hg (N:=24) ?hd (xs:=([]:List Int)) (inner:=[]) (ok:=fun _=>True) (okp:=fun _=>True) ?hr ?hp (fun _ hk=>hk) trivial (Below.refl _ _) (Nat.le_refl _) (by simp) ?_;(case hd=>rfl);(case hg=>rfl);(case hr=>first|(go_simp;done)|(go_simp;rfl));(case hp=>exact (Reps.none _ _));intro v24 w24 ho24 hb hg_ hnew_;clear hg_ hnew_;replace HO23:=yam (Kd.R_elder' HO23.out (Kd.R_base ho24) hb);have HO24:=yam (Kd.R_lower ho24 (below_size HB.out));replace HB:=yam (below_step HB.out hb);clear hb ho24)
    | ((with_reducible refine gate_builtin (b:= .append) (xs:= #[.tmp 24,.tmp 25]) rfl ?_);at_builtin;refine Kd.R_append_rows (Kd.int .i64) (w0:=w) w.heap.size rfl (.tmp 24) (.tmp 25) 23 3 (.int .i64 0) 8 rfl Try.underlying23 info3 rfl (by decide) (by omega) v24 [] t1 _ _ _ (fun _=>True) (fun _=>False) rfl rfl HO24.out (Kd.R_reads' HO23.out).2.2 (fun _ _ h=>h) (fun _ h=>h.elim) (fun _ _=>trivial) HB.out (below_size HB.out) (by have:=HLN.out;simp only [List.length_nil];omega) ?_;intro v26 w26 ho hb hg hat;have HO26:=yam ho;replace HB:=yam hb;clear HO23 HO24 ho hb hg hat))
   go_ret
   exact ⟨_,rfl,HO26.out,HB.out⟩
  ·simp [hlen] at h
 ·rw [if_neg hc] at h
  obtain rfl:=Option.some.inj h
  by_cases hs:2≤a0∧a0≤4
  ·have HL:=yam (show spec_l1In.f a0 2 4=some true by unfold spec_l1In.f;rw [if_pos hs.1,decide_eq_true hs.2])
   have hn:decide (a1 < 0)=true:=decide_eq_true (by omega)
   clear hc hs
   go_enter Try.func88,Try.ntmps88
   go_wp2_with (first
    | (go_at_call 70;(with_reducible refine (spec_l1In.calls a0 2 4 true _ HL.out).mono ?_);rintro e w' ⟨rfl,⟨nd,rfl⟩⟩)
    | ((with_reducible refine gate_dst (N:=15) rfl ?_);refine Kd.R_lit (Kd.int .i64) _ 3 ?hg (N:=15) ?hd (xs:=([]:List Int)) (inner:=[]) (ok:=fun _=>True) (okp:=fun _=>True) ?hr ?hp (fun _ hk=>hk) trivial (Below.refl _ _) (Nat.le_refl _) (by simp) ?_;(case hd=>rfl);(case hg=>rfl);(case hr=>first|(go_simp;done)|(go_simp;rfl));(case hp=>exact (Reps.none _ _));intro v24 w24 ho24 hb hg_ hnew_;clear hg_ hnew_;have HO:=yam ho24;have HB:=yam (below_step (pw_below_drewN (Below.refl w.heap.size w) nd) hb);clear ho24 hb))
   go_ret
   exact ⟨_,rfl,HO.out,HB.out⟩
  ·have HL:=yam (show spec_l1In.f a0 2 4=some false by
    unfold spec_l1In.f
    by_cases h2:a0 ≥ 2
    ·rw [if_pos h2,decide_eq_false (by omega)]
    ·rw [if_neg h2])
   clear hc hs
   go_enter Try.func88,Try.ntmps88
   go_wp2_with (first
    | (go_at_call 70;(with_reducible refine (spec_l1In.calls a0 2 4 false _ HL.out).mono ?_);rintro e w' ⟨rfl,⟨nd,rfl⟩⟩)
    | ((with_reducible refine gate_dst (N:=15) rfl ?_);refine Kd.R_lit (Kd.int .i64) _ 3 ?hg (N:=15) ?hd (xs:=([]:List Int)) (inner:=[]) (ok:=fun _=>True) (okp:=fun _=>True) ?hr ?hp (fun _ hk=>hk) trivial (Below.refl _ _) (Nat.le_refl _) (by simp) ?_;(case hd=>rfl);(case hg=>rfl);(case hr=>first|(go_simp;done)|(go_simp;rfl));(case hp=>exact (Reps.none _ _));intro v24 w24 ho24 hb hg_ hnew_;clear hg_ hnew_;have HO:=yam ho24;have HB:=yam (below_step (pw_below_drewN (Below.refl w.heap.size w) nd) hb);clear ho24 hb))
   go_ret
   exact ⟨_,rfl,HO.out,HB.out⟩
def spec_l20Solved.f (k:Nat)(s0_0:List Int)(s0_1:Int)(a1:Int):Option (List Int × Int):=(some (([2,12,576]:List Int):List Int)).bind fun y148=>(if 0≤(wrap64 (a1 - 2)) then (if (wrap64 (a1 - 2)) < (y148.length:Int) then ((spec_l20Rd_pick.f k s0_0 s0_1 256).bind fun bt152=>((spec_l20Rd_pick.f k s0_0 bt152.2 3).bind fun bt154=>(if (rd y148 (wrap64 (a1 - 2)))=0 then (none) else ((spec_SquareNumber.f k a1 (Int.tmod (wrap64 ((wrap64 (bt152.1 * 3)) + bt154.1)) (rd y148 (wrap64 (a1 - 2))))).bind fun t156=>(some (t156,bt154.2)))))) else (none)) else (none))
theorem spec_l20Solved.calls (k:Nat)(g:Nat)(s0_0:List Int)(s0_1:Int)(a1:Int)(r1:List Int)(r2:Int)(w0 w:World)(hI:IsS86 w0 w g s0_0 s0_1)(hB:Below w0.heap.size w0 w)(h:spec_l20Solved.f k s0_0 s0_1 a1=some (r1,r2)) :
  Calls Try.prog 67 #[.pointer (some ⟨g,0,none⟩),.int .i64 a1] w fun e w'=>∃ v0_:Value,e= .returned (v0_)∧Kd.R (Kd.int .i64) 3 w' w.heap.size (fun _=>True) v0_ r1∧IsS86 w0 w' g s0_0 r2∧Below w0.heap.size w0 w'∧KeepBut w w' g none:=by
 have HI0:=yam hI
 have HK:=yam (KeepBut.refl w g none)
 have HL:=yam hB.size
 clear hI
 have HW0:=yam hB.size
 have HB:=yam hB
 clear hB
 unfold spec_l20Solved.f at h
 have H:=h
 clear h
 obtain ⟨y148,Ny148⟩:∃ y_:List Int,Aside0 (y_=(([2,12,576]:List Int))):=⟨_,⟨rfl⟩⟩
 replace H:(if 0≤(wrap64 (a1 - 2)) then (if (wrap64 (a1 - 2)) < (y148.length:Int) then ((spec_l20Rd_pick.f k s0_0 s0_1 256).bind fun bt152=>((spec_l20Rd_pick.f k s0_0 bt152.2 3).bind fun bt154=>(if (rd y148 (wrap64 (a1 - 2)))=0 then (none) else ((spec_SquareNumber.f k a1 (Int.tmod (wrap64 ((wrap64 (bt152.1 * 3)) + bt154.1)) (rd y148 (wrap64 (a1 - 2))))).bind fun t156=>(some (t156,bt154.2)))))) else (none)) else (none))=some (r1,r2):=yhn Ny148.out H
 obtain ⟨ji3,hji3⟩:∃ j_:Int,(wrap64 (a1 - 2))=j_:=⟨_,rfl⟩
 replace H:(if 0≤(ji3) then (if (ji3) < (y148.length:Int) then ((spec_l20Rd_pick.f k s0_0 s0_1 256).bind fun bt152=>((spec_l20Rd_pick.f k s0_0 bt152.2 3).bind fun bt154=>(if (rd y148 (ji3))=0 then (none) else ((spec_SquareNumber.f k a1 (Int.tmod (wrap64 ((wrap64 (bt152.1 * 3)) + bt154.1)) (rd y148 (ji3)))).bind fun t156=>(some (t156,bt154.2)))))) else (none)) else (none))=some (r1,r2):=by first|(rw [hji3] at H;exact H)|(simp only [hji3] at H ⊢;exact H)
 have hji3w:(IntKind.i64.wrap (a1 - 2))=ji3:=(i64_w _).trans hji3
 by_cases c4:0≤(ji3)
 rotate_left
 ·rw [if_neg c4] at H
  exact absurd H (by simp)

 rw [if_pos c4] at H
 have c4b0:decide (0≤(ji3))=true:=decide_eq_true c4
 clear c4
 replace H:=yif H;obtain ⟨c5b0,H⟩:=H
 replace H:=ybi H;obtain ⟨⟨t152,t153⟩,A6,H⟩:=H
 replace H:((spec_l20Rd_pick.f k s0_0 t153 3).bind fun bt154=>(if (rd y148 (ji3))=0 then (none) else ((spec_SquareNumber.f k a1 (Int.tmod (wrap64 ((wrap64 (t152 * 3)) + bt154.1)) (rd y148 (ji3)))).bind fun t156=>(some (t156,bt154.2)))))=some (r1,r2):=H
 replace H:=ybi H;obtain ⟨⟨t154,t155⟩,A7,H⟩:=H
 replace H:(if (rd y148 (ji3))=0 then (none) else ((spec_SquareNumber.f k a1 (Int.tmod (wrap64 ((wrap64 (t152 * 3)) + t154)) (rd y148 (ji3)))).bind fun t156=>(some (t156,t155))))=some (r1,r2):=H
 replace H:=yit H;obtain ⟨c8,H⟩ | ⟨c8,H⟩:=H
 ·exact absurd H (by simp)
 have c8b0:((rd y148 (ji3)) == 0)=false:=beq_eq_false_iff_ne.mpr c8
 have c8b1:((rd y148 (ji3)) != 0)=true:=bne_iff_ne.mpr c8
 replace H:=ybi H;obtain ⟨t156,A9,H⟩:=H
 replace H:(some (t156,t155))=some (r1,r2):=H
 simp only [Option.some.injEq,Prod.mk.injEq] at H
 obtain ⟨rfl,rfl⟩:=H
 go_enter Try.func67,Try.ntmps67
 go_wp2_with (first|((with_reducible refine gate_dst (N:=6) rfl ?_);refine Kd.R_lit (Kd.int .i64) _ 3 ?hg (N:=6) ?hd (xs:=([2,12,576]:List Int)) (inner:=[.int .i64 2,.int .i64 12,.int .i64 576]) (ok:=fun _=>True) (okp:=fun _=>True) ?hr ?hp (fun _ hk=>hk) trivial (Below.refl _ _) (Nat.le_refl _) (by simp) ?_;(case hd=>rfl);(case hg=>rfl);(case hr=>first|(go_simp;done)|(go_simp;rfl));(case hp=>exact (Reps.one (show Kd.M (Kd.int .i64) _ _ _ 2 [.int .i64 2] from rfl) (Reps.one (show Kd.M (Kd.int .i64) _ _ _ 12 [.int .i64 12] from rfl) (Reps.one (show Kd.M (Kd.int .i64) _ _ _ 576 [.int .i64 576] from rfl) (Reps.none _ _)))));intro v149 w10 ho11 hb hg_ hnew_;clear hg_ hnew_;(first|rw [← Ny148.out] at ho11|(simp only [Int.reduceToNat] at ho11;rw [← Ny148.out] at ho11));have HO150:=yam (Kd.R_lower ho11 (keep_size (w:=w) (g:=g) (row:=none) (by repeat (first|(with_reducible first|exact HK.out|apply KeepBut.set_|apply keep_drewN|apply keep_drew|apply keep_alloc)|exact HK.out))));replace HK:=yam (KeepBut.trans (by repeat (first|(with_reducible first|exact HK.out|apply KeepBut.set_|apply keep_drewN|apply keep_drew|apply keep_alloc)|exact HK.out)) (KeepBut.of_below hb g none) (.inl rfl));replace HB:=yam (below_step (by repeat (first|(with_reducible first|exact HB.out|apply yea|apply yen|apply yed|refine below_set ?_ (IsS86.ge HI0.out))|exact HB.out)) hb);replace HI0:=yam (IsS86.below (by repeat (first|(with_reducible first|exact HI0.out|apply IsS86.alloc|apply IsS86.drewN|apply IsS86.drew|apply IsS86.set_1)|exact HI0.out)) hb);clear hb ho11;obtain ⟨Ao12,co12,eo12⟩:=Kd.R_slice HO150.out;subst eo12;have p151:0≤((ji3):Int):=ydt;have q151:(ji3) < (y148.length:Int):=ydt;obtain ⟨ad151,e151,hx151_0⟩:=Kd.at_int (Kd.Yr HO150.out).2.2 (ji3) p151 q151;cases e151;replace p151:=eq_true p151;replace q151:=eq_true q151)|(refine goesL_ (some 13) rfl rfl Try.func81 (by kernel_rfl) rfl #[.pointer (some ⟨g,0,none⟩),.int .i64 256] rfl ymd ?_;(with_reducible refine (spec_l20Rd_pick.calls k g s0_0 s0_1 256 t152 t153 w0 _ ?side1 ?side2 A6.out).mono ?_);(case side1=>repeat (first|(with_reducible first|exact HI0.out|apply IsS86.alloc|apply IsS86.drewN|apply IsS86.drew|apply IsS86.set_1)|exact HI0.out));(case side2=>repeat (first|(with_reducible first|exact HB.out|apply yea|apply yen|apply yed|refine below_set ?_ (IsS86.ge HI0.out))|exact HB.out));rintro e w13 ⟨rfl,hi,hb,hk⟩;refine ⟨_,rfl,?_⟩;replace HO150:=yam (Kd.R_mono (Kd.R_keep (IsS86.apart (show IsS86 w0 _ g s0_0 s0_1 from by repeat (first|(with_reducible first|exact HI0.out|apply IsS86.alloc|apply IsS86.drewN|apply IsS86.drew|apply IsS86.set_1)|exact HI0.out)) (Kd.Yz HO150.out) (by decide)) hk (fun _ h=>h.2)) (fun _ h=>h.1));replace HK:=yam (KeepBut.trans (by repeat (first|(with_reducible first|exact HK.out|apply KeepBut.set_|apply keep_drewN|apply keep_drew|apply keep_alloc)|exact HK.out)) hk (.inl rfl));replace HB:=yam (hb);replace HI0:=yam (hi);(try clear hb);(try clear hk);(try clear hi))|(refine goesL_ (some 16) rfl rfl Try.func81 (by kernel_rfl) rfl #[.pointer (some ⟨g,0,none⟩),.int .i64 3] rfl ymd ?_;(with_reducible refine (spec_l20Rd_pick.calls k g s0_0 t153 3 t154 t155 w0 _ ?side1 ?side2 A7.out).mono ?_);(case side1=>repeat (first|(with_reducible first|exact HI0.out|apply IsS86.alloc|apply IsS86.drewN|apply IsS86.drew|apply IsS86.set_1)|exact HI0.out));(case side2=>repeat (first|(with_reducible first|exact HB.out|apply yea|apply yen|apply yed|refine below_set ?_ (IsS86.ge HI0.out))|exact HB.out));rintro e w14 ⟨rfl,hi,hb,hk⟩;refine ⟨_,rfl,?_⟩;replace HO150:=yam (Kd.R_mono (Kd.R_keep (IsS86.apart (show IsS86 w0 _ g s0_0 t153 from by repeat (first|(with_reducible first|exact HI0.out|apply IsS86.alloc|apply IsS86.drewN|apply IsS86.drew|apply IsS86.set_1)|exact HI0.out)) (Kd.Yz HO150.out) (by decide)) hk (fun _ h=>h.2)) (fun _ h=>h.1));replace HK:=yam (KeepBut.trans (by repeat (first|(with_reducible first|exact HK.out|apply KeepBut.set_|apply keep_drewN|apply keep_drew|apply keep_alloc)|exact HK.out)) hk (.inl rfl));replace HB:=yam (hb);replace HI0:=yam (hi);(try clear hb);(try clear hk);(try clear hi))|(refine goesL_ (some 20) rfl rfl Try.func88 (by kernel_rfl) rfl #[.int .i64 a1,.int .i64 (Int.tmod (wrap64 ((wrap64 (t152 * 3)) + t154)) (rd y148 (ji3)))] rfl (by (try simp only [List.map_toArray,List.map_cons,List.map_nil]);first|done|(simp only [hji3];rfl)|rfl|(simp only [List.length_drop,List.length_take];rfl)) ?_;(with_reducible refine (spec_SquareNumber.calls k a1 (Int.tmod (wrap64 ((wrap64 (t152 * 3)) + t154)) (rd y148 (ji3))) t156 _ A9.out).mono ?_);rintro e w15 ⟨v157,rfl,ho0,hb⟩;refine ⟨_,rfl,?_⟩;have HO158:=yam (Kd.R_lower (Kd.Yw ho0 (Kd.R_lt (Kd.Yz HO150.out))) (keep_size (w:=w) (g:=g) (row:=none) (by repeat (first|(with_reducible first|exact HK.out|apply KeepBut.set_|apply keep_drewN|apply keep_drew|apply keep_alloc)|exact HK.out))));replace HO150:=yam (Kd.Ye (Kd.Yz HO150.out) (Kd.Yb ho0) hb);replace HK:=yam (KeepBut.trans (by repeat (first|(with_reducible first|exact HK.out|apply KeepBut.set_|apply keep_drewN|apply keep_drew|apply keep_alloc)|exact HK.out)) (KeepBut.of_below hb g none) (.inl rfl));replace HB:=yam (below_step (by repeat (first|(with_reducible first|exact HB.out|apply yea|apply yen|apply yed|refine below_set ?_ (IsS86.ge HI0.out))|exact HB.out)) hb);replace HI0:=yam (IsS86.below (by repeat (first|(with_reducible first|exact HI0.out|apply IsS86.alloc|apply IsS86.drewN|apply IsS86.drew|apply IsS86.set_1)|exact HI0.out)) hb);(try clear hb);(try clear ho0)))
 go_ret
 exact ⟨_,by first|rfl|(simp [errW_none,errW_some] <;> rfl)|(simp only [← hji3];first|rfl|(simp [errW_none,errW_some] <;> rfl))|(simp [*,errW_none,errW_some] <;> rfl),by (with_reducible repeat (first|apply Kd.Ya|apply Kd.Yn|apply Kd.Yd));exact Kd.R_mono HO158.out (fun _ hk=>trivial),by repeat (first|(with_reducible first|exact HI0.out|apply IsS86.alloc|apply IsS86.drewN|apply IsS86.drew|apply IsS86.set_1)|exact HI0.out),by repeat (first|(with_reducible first|exact HB.out|apply yea|apply yen|apply yed|refine below_set ?_ (IsS86.ge HI0.out))|exact HB.out),by repeat (first|(with_reducible first|exact HK.out|apply KeepBut.set_|apply keep_drewN|apply keep_drew|apply keep_alloc)|exact HK.out)⟩
end Go.Proofs.Ythfbjkniinfgcaa.P
