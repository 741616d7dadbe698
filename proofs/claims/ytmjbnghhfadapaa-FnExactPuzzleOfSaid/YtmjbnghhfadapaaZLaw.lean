/- The row of the law FnExactPuzzleOf: its parameters are opened, the printed walk and the plain proof are joined, and they are shut again. -/
import Derived.Below
import Derived.ChangeOld
import Derived.Lib.SmallJoins
import Derived.OpenShut
import Derived.ProofKit
import Derived.ShutString
import Derived.SizedLaws
import Derived.Test.YtmjbnghhfadapaaRows
import Derived.Test.YtmjbnghhfadapaaZP5
import Derived.Test.YtmjbnghhfadapaaZS
import Derived.Test.YtmjbnghhfadapaaZW
import Derived.WalkKit
namespace Go.Proofs.Ytmjbnghhfadapaa.fnExactPuzzleOf
open Go.ChangeShapes Go.WideShapes Go.ChangeAt Go.RowKit Go.Joins
open Go.Proofs.YtmjbnghhfadapaaW.PrintWords
theorem own:ownKnob Try.prog.godebug=none:=by kernel_rfl
theorem laidOut:laidOutB Try.prog=true:=by kernel_rfl
def IsRow (k:IntKind)(w:World)(a:Option Addr)(len cap:Nat)(zs:List Int):Prop :=
 (a=none∧len=0∧cap=0∧zs=[]) ∨
 ∃ x,a=some x∧len≤cap∧cap≤maxLen∧zs.length=cap∧(∀ i,i < zs.length→w.cell? (x.add i)=some (.int k (zs.getD i 0)))∧∀ n∈zs,(Lit.int k n).wf=true
set_option maxRecDepth 100000 in
theorem lifted (os:Os)(started:os.Started)(H:Type)(enc:TypeId × Value→H) :
  ReturnsInHanded {} Try.checked os 5 .any (Rows.fnExactPuzzleOfSpec.pre6 enc Try.prog Try.f5 Rows.fnExactPuzzleOfRow.domain false) (Rows.fnExactPuzzleOfSpec.post enc Try.prog Try.f5 false true false false):=by
 refine returnsInHanded_of_change_sized (C:=Try.checked) own started (by kernel_rfl) Try.func5
  (ChangeSpec.witness6 (enc:=enc) (C:=Try.checked) false ⟨#[],#[.slice none 0 0,.int .i64 0,.slice none 0 0],[]⟩ 8 (by kernel_rfl) (by kernel_rfl) (by kernel_rfl) (by kernel_rfl)) ?_
 intro W base args ds gs before hval0 hW hcnd hsz0 _
 have hval:∀ (j:Nat) t v,Try.f5.params[j]?=some t→args[j]?=some v→Value.okWide Try.prog W .any base t v:=hval0
 have hW':=hW
 obtain ⟨p,q,hA0,hV,rfl,hfz,hnd⟩:=hW
 have hA:DataW.TrodAll enc Try.prog W 0 (fun _=>true) true Try.f5.params.toList args.toList ds p:=hA0
 rw [Try.params5] at hA hval
 obtain ⟨v0,vs0,d0,ds0,p0,q0,hargs,rfl,rfl,h0,r0⟩:=trodAll_cons hA
 obtain ⟨v1,vs1,d1,ds1,p1,q1,rfl,rfl,rfl,h1,r1⟩:=trodAll_cons r0
 obtain ⟨v2,vs2,d2,ds2,p2,q2,rfl,rfl,rfl,h2,r2⟩:=trodAll_cons r1
 obtain ⟨rfl,rfl,rfl⟩:=trodAll_nil r2
 obtain rfl:args= #[v0,v1,v2]:=by cases args;simp_all
 obtain ⟨rfl,rfl⟩:=trodVars_none hV
 have k0:=h0
 have lt0:∀ x∈p0,x.block < W.heap.size:=by obtain ⟨m,hm⟩:=k0;exact DataW.trod_lt m _ _ _ hm
 obtain ⟨b0,m0,e0,rfl⟩:=okWide_slice Try.underlying22 (hval 0 22 v0 rfl rfl)
 obtain ⟨fuel0,hf0⟩:=h0
 obtain ⟨z0,w0⟩:∃ zs,IsRow .i64 W b0 m0 e0 zs:=by
  rcases open_ints Try.underlying22 Try.underlying3 (by kernel_rfl) hf0 with ⟨hcs,_⟩ | ⟨x,l,c,zs,hcs,_,hl,hm,hz,_,hcell,hwz⟩
  ·simp [Value.cells] at hcs
   obtain ⟨rfl,rfl,rfl⟩:=hcs
   exact ⟨[],.inl ⟨rfl,rfl,rfl,rfl⟩⟩
  ·simp [Value.cells] at hcs
   obtain ⟨rfl,rfl,rfl⟩:=hcs
   exact ⟨zs,.inr ⟨_,rfl,hl,hm,by simpa using hz,hcell,hwz⟩⟩
 obtain ⟨l0,rfl,hr0,hm0,hw0,hcc0⟩:=ReadsInt.ofRowC w0
 obtain ⟨a1,rfl,rfl,rfl,w1⟩:=open_int Try.underlying3 (hval 1 3 v1 rfl rfl) h1
 have k2:=h2
 have lt2:∀ x∈p2,x.block < W.heap.size:=by obtain ⟨m,hm⟩:=k2;exact DataW.trod_lt m _ _ _ hm
 obtain ⟨b2,m2,e2,rfl⟩:=okWide_slice Try.underlying33 (hval 2 33 v2 rfl rfl)
 obtain ⟨fuel2,hf2⟩:=h2
 obtain ⟨A2,c2,l2,he2,hcc2,hr2,hm2,hw2⟩:=Pure.rules_of (c:= .slice b2 m2 e2) hf2
 cases he2
 obtain ⟨k,h⟩:=Pure.FnExactPuzzleOf l0 hm0 hw0 a1 w1 l2 hm2 hw2
 refine (P.laws_FnExactPuzzleOf.calls k _ _ l0 a1 _ _ l2 true W (Kd.C_of_reads (d:=(0:Int)) (h1:=fun _=>rfl) hr0) hcc0 hr2 hcc2 h).mono fun e W' ⟨he,bel⟩=>?_
 subst he
 exact ⟨_,rfl,_,_,_,[],_,[],hW',trodAll_mk1 (shut_bool Try.underlying4 _),(trodAll_cons_mk (Below.trod laidOut (by kernel_rfl) (of_decide_eq_true (by kernel_rfl)) k0 bel lt0) (trodAll_cons_mk (shut_int Try.underlying3 w1) (trodAll_cons_mk (Below.trod laidOut (by kernel_rfl) (of_decide_eq_true (by kernel_rfl)) k2 bel lt2) trodAll_mk0))),rfl,bel.frame _,fun h=>by cases h⟩
theorem over:Rows.fnExactPuzzleOfRow.holds Try.pinned (OpenSpec.ofChange Rows.fnExactPuzzleOfSpec) :=
 OpenClaim.holds_of_wide 5 Try.f5 rfl rfl rfl rfl rfl rfl rfl ⟨rfl,rfl,rfl,rfl,rfl⟩ rfl rfl rfl rfl rfl (by kernel_rfl) Try.func5 (by kernel_rfl)
  (of_decide_eq_true (by kernel_rfl)) (by unfold Func.isWrapper;first|(rw [if_pos (by decide +kernel)];kernel_rfl)|(rw [if_neg (by decide +kernel)];exact ⟨rfl,rfl⟩))
  (fun os started H enc _=>lifted os started H enc)
theorem proved:Rows.FnExactPuzzleOfSaid:=over
end Go.Proofs.Ytmjbnghhfadapaa.fnExactPuzzleOf
namespace Go.Proofs.Ytmjbnghhfadapaa
theorem fnExactPuzzleOf_holds:Rows.FnExactPuzzleOfSaid:=fnExactPuzzleOf.proved
end Go.Proofs.Ytmjbnghhfadapaa
