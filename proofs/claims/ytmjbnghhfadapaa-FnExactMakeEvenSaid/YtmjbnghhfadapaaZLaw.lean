/- The row of the law FnExactMakeEven: its parameters are opened, the printed walk and the plain proof are joined, and they are shut again. -/
import Derived.Below
import Derived.ChangeOld
import Derived.Lib.SmallJoins
import Derived.OpenShut
import Derived.ProofKit
import Derived.ShutString
import Derived.SizedLaws
import Derived.Test.YtmjbnghhfadapaaRows
import Derived.Test.YtmjbnghhfadapaaZP8
import Derived.Test.YtmjbnghhfadapaaZS
import Derived.Test.YtmjbnghhfadapaaZW
import Derived.WalkKit
namespace Go.Proofs.Ytmjbnghhfadapaa.fnExactMakeEven
open Go.ChangeShapes Go.WideShapes Go.ChangeAt Go.RowKit Go.Joins
open Go.Proofs.YtmjbnghhfadapaaW.PrintWords
theorem own:ownKnob Try.prog.godebug=none:=by kernel_rfl
theorem laidOut:laidOutB Try.prog=true:=by kernel_rfl
def IsRow (k:IntKind)(w:World)(a:Option Addr)(len cap:Nat)(zs:List Int):Prop :=
 (a=none∧len=0∧cap=0∧zs=[]) ∨
 ∃ x,a=some x∧len≤cap∧cap≤maxLen∧zs.length=cap∧(∀ i,i < zs.length→w.cell? (x.add i)=some (.int k (zs.getD i 0)))∧∀ n∈zs,(Lit.int k n).wf=true
theorem cellsPuzzle:Try.prog.cellsOf 48=3:=by kernel_rfl
set_option maxRecDepth 100000 in
theorem lifted (os:Os)(started:os.Started)(H:Type)(enc:TypeId × Value→H) :
  ReturnsInHanded {} Try.checked os 10 .any (Rows.fnExactMakeEvenSpec.pre6 enc Try.prog Try.f10 Rows.fnExactMakeEvenRow.domain false) (Rows.fnExactMakeEvenSpec.post enc Try.prog Try.f10 false true false false):=by
 refine returnsInHanded_of_change_sized (C:=Try.checked) own started (by kernel_rfl) Try.func10
  (ChangeSpec.witness6 (enc:=enc) (C:=Try.checked) false ⟨#[],#[.agg #[.int .i64 0,.slice none 0 0,.slice none 0 0]],[]⟩ 8 (by kernel_rfl) (by kernel_rfl) (by kernel_rfl) (by kernel_rfl)) ?_
 intro W base args ds gs before hval0 hW hcnd hsz0 _
 have hval:∀ (j:Nat) t v,Try.f10.params[j]?=some t→args[j]?=some v→Value.okWide Try.prog W .any base t v:=hval0
 have hW':=hW
 obtain ⟨p,q,hA0,hV,rfl,hfz,hnd⟩:=hW
 have hA:DataW.TrodAll enc Try.prog W 0 (fun _=>true) true Try.f10.params.toList args.toList ds p:=hA0
 rw [Try.params10] at hA hval
 obtain ⟨v0,vs0,d0,ds0,p0,q0,hargs,rfl,rfl,h0,r0⟩:=trodAll_cons hA
 obtain ⟨rfl,rfl,rfl⟩:=trodAll_nil r0
 obtain rfl:args= #[v0]:=by cases args;simp_all
 obtain ⟨rfl,rfl⟩:=trodVars_none hV
 have k0:=h0
 have lt0:∀ x∈p0,x.block < W.heap.size:=by obtain ⟨m,hm⟩:=k0;exact DataW.trod_lt m _ _ _ hm
 obtain ⟨u0_0,u0_1,u0_2,y0_0,y0_1,y0_2,m0,rfl,rfl,rfl,hy0_0,hy0_1,hy0_2⟩:=open_agg3 Try.underlying48 (by kernel_rfl) cellsPuzzle (hval 0 48 v0 rfl rfl) h0
 obtain ⟨a0_0,e0_0,rfl,w0_0⟩:=DataW.trod_int Try.underlying3 hy0_0
 obtain rfl:u0_0= .int .i64 a0_0:=by simpa using e0_0
 obtain ⟨A0_1,c0_1,l0_1,rfl,hcc0_1,hr0_1,hm0_1,hw0_1⟩:=Pure.ints_of hy0_1
 obtain ⟨A0_2,c0_2,l0_2,rfl,hcc0_2,hr0_2,hm0_2,hw0_2⟩:=Pure.rules_of hy0_2
 obtain ⟨k,h⟩:=Pure.FnExactMakeEven a0_0 w0_0 l0_1 hm0_1 hw0_1 l0_2 hm0_2 hw0_2
 refine (P.laws_FnExactMakeEven.calls k a0_0 _ _ l0_1 _ _ l0_2 true W hr0_1 hcc0_1 hr0_2 hcc0_2 h).mono fun e W' ⟨he,bel⟩=>?_
 subst he
 exact ⟨_,rfl,_,_,_,[],_,[],hW',trodAll_mk1 (shut_bool Try.underlying4 _),(trodAll_cons_mk (Below.trod laidOut (by kernel_rfl) (of_decide_eq_true (by kernel_rfl)) k0 bel lt0) trodAll_mk0),rfl,bel.frame _,fun h=>by cases h⟩
theorem over:Rows.fnExactMakeEvenRow.holds Try.pinned (OpenSpec.ofChange Rows.fnExactMakeEvenSpec) :=
 OpenClaim.holds_of_wide 10 Try.f10 rfl rfl rfl rfl rfl rfl rfl ⟨rfl,rfl,rfl,rfl,rfl⟩ rfl rfl rfl rfl rfl (by kernel_rfl) Try.func10 (by kernel_rfl)
  (of_decide_eq_true (by kernel_rfl)) (by unfold Func.isWrapper;first|(rw [if_pos (by decide +kernel)];kernel_rfl)|(rw [if_neg (by decide +kernel)];exact ⟨rfl,rfl⟩))
  (fun os started H enc _=>lifted os started H enc)
theorem proved:Rows.FnExactMakeEvenSaid:=over
end Go.Proofs.Ytmjbnghhfadapaa.fnExactMakeEven
namespace Go.Proofs.Ytmjbnghhfadapaa
theorem fnExactMakeEven_holds:Rows.FnExactMakeEvenSaid:=fnExactMakeEven.proved
end Go.Proofs.Ytmjbnghhfadapaa
