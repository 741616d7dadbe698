/- The machine's side: each Go function as a plain Lean function and the proof that the machine's call does what that function says; written by this session's own program over the kit's print. -/
import Derived.Test.YthfbjkniinfgcaaZP1
import Derived.Test.YthfbjkniinfgcaaZP4
namespace Go.Proofs.Ythfbjkniinfgcaa.P
set_option maxHeartbeats 8000000
set_option maxRecDepth 100000
open Go.RowKit Go.Proofs.YthfbjkniinfgcaaW.PrintWords Go.Proofs.YthfbjkniinfgcaaW.PrintLast Go.Proofs.YthfbjkniinfgcaaW.PrintMore
attribute [local go_sem] max2_int min2_int max_two min_two max_three min_three max_four min_four   -- for this text's walks alone
set_option linter.unusedVariables false
set_option linter.unusedSimpArgs false
mutual
def laws_FnRuleHolds.j0:Nat→List Int→Int→Bool→Bool→Int→List Int→Int→Option (Bool)
 | 0,_,_,_,_,_,_,_=>none
 | k + 1,x4,x5,x6,x39,x863000,x863001,x863002=>if x39=true then (if x6=true then (some false) else ((laws_alive.f k).bind fun t867=>(some t867))) else (laws_FnRuleHolds.l0 k x4 x5 x6 (([]:List Int)) (wrap64 ((x863001.length:Int) - 1)) x863000 x863001 x863002)
def laws_FnRuleHolds.l0:Nat→List Int→Int→Bool→List Int→Int→Int→List Int→Int→Option (Bool)
 | 0,_,_,_,_,_,_,_,_=>none
 | k + 1,x4,x5,x6,x7,x8,x863000,x863001,x863002=>if x8 ≥ 0 then (if 0≤x8 then (if x8 < (x863001.length:Int) then (if x7.length < 17592186044416 then (laws_FnRuleHolds.l0 k x4 x5 x6 (x7 ++ [rd x863001 x8]) (wrap64 (x8 - 1)) x863000 x863001 x863002) else (none)) else (none)) else (none)) else ((impl_RuleHolds.f k x863000 x7 x863002 x4 x5).bind fun t875=>((impl_RulePossible.f k x863000 x863001 x863002 x4 x5).bind fun t876=>(if x6=true then (if t876=true then ((impl_GridFilled.f k x4 x5).bind fun t877=>(if t877 < (x4.length:Int) then (if x863000=4 then (if t875=true then (some false) else (some true)) else (some (x6 == t875))) else (if (x6 == t876)=true then (if x863000=4 then (if t875=true then (some false) else (some true)) else (some (x6 == t875))) else (some false)))) else (some false)) else ((impl_GridFilled.f k x4 x5).bind fun t878=>(if t878 < (x4.length:Int) then (if x863000=4 then (some true) else (some (x6 == t875))) else (if (x6 == t876)=true then (if x863000=4 then (some true) else (some (x6 == t875))) else (some false)))))))
end
def laws_FnRuleHolds.f (k:Nat)(l0:List Int):Option (Bool):=if (l0.length:Int) > 1048576 then (some true) else ((spec_DrawRuleHolds.f k l0).bind fun bt853=>((impl_RuleHolds.f k bt853.1 bt853.2.1 bt853.2.2.1 bt853.2.2.2.1 bt853.2.2.2.2).bind fun t863=>((spec_RuleHolds.f k bt853.1 bt853.2.1 bt853.2.2.1 bt853.2.2.2.1 bt853.2.2.2.2).bind fun t864=>(if (t863 != t864)=true then (some false) else ((spec_RuleValid.f k bt853.1 bt853.2.1 bt853.2.2.1 bt853.2.2.2.2).bind fun t865=>(if t865=true then ((spec_GridValid.f k bt853.2.2.2.1 bt853.2.2.2.2).bind fun t866=>(laws_FnRuleHolds.j0 k bt853.2.2.2.1 bt853.2.2.2.2 t863 (!t866) bt853.1 bt853.2.1 bt853.2.2.1)) else (laws_FnRuleHolds.j0 k bt853.2.2.2.1 bt853.2.2.2.2 t863 true bt853.1 bt853.2.1 bt853.2.2.1)))))))
theorem laws_FnRuleHolds.calls (k:Nat)(A0:Option Addr)(c0:Nat)(l0:List Int)(r:Bool)(w:World)(hr0:Kd.C (Kd.int .u8) w A0 l0.length l0)(hc0:l0.length≤c0)(h:laws_FnRuleHolds.f k l0=some r) :
  Calls Try.prog 10 #[.slice A0 l0.length c0] w fun e w'=>e= .returned (.bool r)∧Below w.heap.size w w':=by
 have hu32:=Try.underlying32
 have HR0:=yam hr0
 have HC0:=yam hc0
 clear hr0 hc0
 have HB:=yam (Below.refl w.heap.size w)
 unfold laws_FnRuleHolds.f at h
 have H:=h
 clear h
 replace H:=yit H;obtain ⟨c2,H⟩ | ⟨c2,H⟩:=H
 ·have c2b0:decide (1048576 < (l0.length:Int))=true:=decide_eq_true c2
  have c2b1:decide (1048576 < l0.length)=true:=decide_eq_true (by omega)
  clear c2
  obtain rfl:=ysi H
  go_enter Try.func10,Try.ntmps10
  go_wp2
  go_ret
  exact ⟨yer,yhb⟩
 have c2b0:decide (1048576 < (l0.length:Int))=false:=decide_eq_false c2
 have c2b1:decide (1048576 < l0.length)=false:=decide_eq_false (by omega)
 clear c2
 replace H:=ybi H;obtain ⟨⟨t853,t854,t857,t858,t861⟩,A3,H⟩:=H
 try dsimp only at H
 replace H:=ybi H;obtain ⟨t863,A4,H⟩:=H
 try dsimp only at H
 replace H:=ybi H;obtain ⟨t864,A5,H⟩:=H
 try dsimp only at H
 replace H:=yit H;obtain ⟨c6,H⟩ | ⟨c6,H⟩:=H
 ·have c6b0:(t863 != t864)=true:=c6
  (try (have c6b1:decide (t863=t864)=false:=by simpa using c6))
  (try (have c6b2:(t863 == t864)=false:=by simpa using c6))
  (try (have c6b3:¬ (t863=t864):=by simpa using c6))
  clear c6
  obtain rfl:=ysi H
  go_enter Try.func10,Try.ntmps10
  go_wp2_with (first|((with_reducible refine gate_callee (f:=45) rfl ?_);refine goesL_ (some 16) rfl rfl Try.func45 (by kernel_rfl) rfl #[.slice A0 l0.length c0] rfl ymd ?_;(with_reducible refine (spec_DrawRuleHolds.calls k _ _ l0 t853 t854 t857 t858 t861 _ ?_ ?_ A3.out).mono ?_);exact Kd.Cz (HR0.out);exact HC0.out;rintro e w7 ⟨v855,v859,rfl,ho0,ho1,hb⟩;refine ⟨_,rfl,?_⟩;have HO856:=yam (Kd.R_lower ho0 (below_size (yez HB.out)));have HO860:=yam (Kd.R_lower ho1 (below_size (yez HB.out)));replace HB:=yam (below_step (yez HB.out) hb);(try clear hb);(try clear ho0);(try clear ho1))|((with_reducible refine gate_dst (N:=3) rfl ?_);(try (refine gate_guard (by rfl) ?_;dsimp only));refine ybe 3 #[.int .i64 0,.slice none 0 0,.int .i64 0] 32 ?_;intro gb862 hg w8 hbox hb;replace HO856:=yam (Kd.R_below (Kd.Yz HO856.out) hb);replace HO860:=yam (Kd.R_below (Kd.Yz HO860.out) hb);have BK862:=yam (hbox);have GW862:=yam ((by rw [hg];exact (below_size (yez HB.out)):w.heap.size≤gb862));replace HB:=yam (below_step (yez HB.out) hb);have GE862:=GW862;clear hb hbox hg;obtain ⟨hcz9_0,hcz9_1,hcz9_2,hfz9_0,hfz9_1,hfz9_2⟩:=ybc BK862.out;obtain ⟨Ao10,co10,eo10⟩:=Kd.R_slice HO856.out;subst eo10;obtain ⟨Ao11,co11,eo11⟩:=Kd.R_slice HO860.out;subst eo11)|((with_reducible refine gate_callee (f:=46) rfl ?_);refine goesL_ (some 23) rfl rfl Try.func46 (by kernel_rfl) rfl #[.agg #[.int .i64 t853,.slice Ao10 t854.length co10,.int .i64 t857],.slice Ao11 t858.length co11,.int .i64 t861] rfl ymd ?_;(with_reducible refine (impl_RuleHolds.calls k t853 _ _ t854 t857 _ _ t858 t861 t863 _ ?side1 ?side2 ?side3 ?side4 A4.out).mono ?_);(case side1=>refine (Kd.Yr (e:=3) (base:=w.heap.size) (ok:=fun k_=>some k_≠(.slice Ao11 t858.length co11:Value).ownBlock) (n:=t854.length) (c:=co10) ?_).2.2;exact (by (with_reducible repeat (first|apply Kd.Ya|apply Kd.Yn|apply Kd.Yd));exact (Kd.R_mono (Kd.R_far (p:=⟨gb862,2,none⟩) (Kd.R_far (p:=⟨gb862,1,none⟩) (Kd.R_far (p:=⟨gb862,0,none⟩) (Kd.R_types HO856.out BK862.out (by decide)) (fun _ hk=>hk.2) (.int .i64 t853)) (fun _ hk=>hk.2) (.slice Ao10 t854.length co10)) (fun _ hk=>hk.2) (.int .i64 t857)) (fun _ h_=>h_.1))));(case side2=>exact (Kd.Yr HO856.out).2.1);(case side3=>refine (Kd.Yr (e:=3) (base:=w.heap.size) (ok:=fun k_=>some k_≠(.slice Ao10 t854.length co10:Value).ownBlock) (n:=t858.length) (c:=co11) ?_).2.2;exact (by (with_reducible repeat (first|apply Kd.Ya|apply Kd.Yn|apply Kd.Yd));exact (Kd.R_mono (Kd.R_far (p:=⟨gb862,2,none⟩) (Kd.R_far (p:=⟨gb862,1,none⟩) (Kd.R_far (p:=⟨gb862,0,none⟩) (Kd.R_types HO860.out BK862.out (by decide)) (fun _ hk=>hk.2) (.int .i64 t853)) (fun _ hk=>hk.2) (.slice Ao10 t854.length co10)) (fun _ hk=>hk.2) (.int .i64 t857)) (fun _ h_=>h_.1))));(case side4=>exact (Kd.Yr HO860.out).2.1);rintro e w12 ⟨rfl,hb⟩;refine ⟨_,rfl,?_⟩;replace HO856:=yam (Kd.R_below (by (with_reducible repeat (first|apply Kd.Ya|apply Kd.Yn|apply Kd.Yd));exact (Kd.R_mono (Kd.R_far (p:=⟨gb862,2,none⟩) (Kd.R_far (p:=⟨gb862,1,none⟩) (Kd.R_far (p:=⟨gb862,0,none⟩) (Kd.R_types HO856.out BK862.out (by decide)) (fun _ hk=>hk.2) (.int .i64 t853)) (fun _ hk=>hk.2) (.slice Ao10 t854.length co10)) (fun _ hk=>hk.2) (.int .i64 t857)) (fun _ h_=>h_.1))) hb);replace HO860:=yam (Kd.R_below (by (with_reducible repeat (first|apply Kd.Ya|apply Kd.Yn|apply Kd.Yd));exact (Kd.R_mono (Kd.R_far (p:=⟨gb862,2,none⟩) (Kd.R_far (p:=⟨gb862,1,none⟩) (Kd.R_far (p:=⟨gb862,0,none⟩) (Kd.R_types HO860.out BK862.out (by decide)) (fun _ hk=>hk.2) (.int .i64 t853)) (fun _ hk=>hk.2) (.slice Ao10 t854.length co10)) (fun _ hk=>hk.2) (.int .i64 t857)) (fun _ h_=>h_.1))) hb);replace BK862:=yam (blk_below (g:=gb862) (o:= .cells #[.int .i64 t853,.slice Ao10 t854.length co10,.int .i64 t857] 32 (0,0)) (by (with_reducible repeat (first|refine ybn ?_ _|refine ybd ?_|refine yba ?_ _));refine blk_put (cs:= #[.int .i64 t853,.slice Ao10 t854.length co10,.int .i64 0]) ?_ 2 _ rfl;(with_reducible repeat (first|refine ybn ?_ _|refine ybd ?_|refine yba ?_ _));refine blk_put (cs:= #[.int .i64 t853,.slice none 0 0,.int .i64 0]) ?_ 1 _ rfl;(with_reducible repeat (first|refine ybn ?_ _|refine ybd ?_|refine yba ?_ _));refine blk_put (cs:= #[.int .i64 0,.slice none 0 0,.int .i64 0]) ?_ 0 _ rfl;(with_reducible repeat (first|refine ybn ?_ _|refine ybd ?_|refine yba ?_ _));exact BK862.out) hb);replace HB:=yam (below_step yhb hb);(try clear hb);(try clear hk);obtain ⟨hcz13_0,hcz13_1,hcz13_2,hfz13_0,hfz13_1,hfz13_2⟩:=ybc BK862.out)|((with_reducible refine gate_callee (f:=47) rfl ?_);refine goesL_ (some 28) rfl rfl Try.func47 (by kernel_rfl) rfl #[.agg #[.int .i64 t853,.slice Ao10 t854.length co10,.int .i64 t857],.slice Ao11 t858.length co11,.int .i64 t861] rfl ymd ?_;(with_reducible refine (spec_RuleHolds.calls k t853 _ _ t854 t857 _ _ t858 t861 t864 _ ?_ ?_ ?_ ?_ A5.out).mono ?_);exact Kd.Cz (Kd.Yr HO856.out).2.2;exact (Kd.Yr HO856.out).2.1;exact Kd.Cz (Kd.Yr HO860.out).2.2;exact (Kd.Yr HO860.out).2.1;rintro e w14 ⟨rfl,hb⟩;refine ⟨_,rfl,?_⟩;replace HO856:=yam (Kd.R_below (Kd.Yz HO856.out) hb);replace HO860:=yam (Kd.R_below (Kd.Yz HO860.out) hb);replace BK862:=yam (ybb BK862.out hb);replace HB:=yam (below_step yhb hb);(try clear hb)))
  go_ret
  exact ⟨yer,yhb⟩
 have c6b0:(t863 != t864)=false:=by simpa using c6
 (try (have c6b1:decide (t863=t864)=true:=by simpa using c6))
 (try (have c6b2:(t863 == t864)=true:=by simpa using c6))
 clear c6
 have HC15:=yam H
 clear H
 go_enter Try.func10,Try.ntmps10
 go_upto_region 7 with (first|((with_reducible refine gate_callee (f:=45) rfl ?_);refine goesL_ (some 16) rfl rfl Try.func45 (by kernel_rfl) rfl #[.slice A0 l0.length c0] rfl ymd ?_;(with_reducible refine (spec_DrawRuleHolds.calls k _ _ l0 t853 t854 t857 t858 t861 _ ?_ ?_ A3.out).mono ?_);exact Kd.Cz (HR0.out);exact HC0.out;rintro e w16 ⟨v855,v859,rfl,ho0,ho1,hb⟩;refine ⟨_,rfl,?_⟩;have HO856:=yam (Kd.R_lower ho0 (below_size (yez HB.out)));have HO860:=yam (Kd.R_lower ho1 (below_size (yez HB.out)));replace HB:=yam (below_step (yez HB.out) hb);(try clear hb);(try clear ho0);(try clear ho1))|((with_reducible refine gate_dst (N:=3) rfl ?_);(try (refine gate_guard (by rfl) ?_;dsimp only));refine ybe 3 #[.int .i64 0,.slice none 0 0,.int .i64 0] 32 ?_;intro gb862 hg w17 hbox hb;replace HO856:=yam (Kd.R_below (Kd.Yz HO856.out) hb);replace HO860:=yam (Kd.R_below (Kd.Yz HO860.out) hb);have BK862:=yam (hbox);have GW862:=yam ((by rw [hg];exact (below_size (yez HB.out)):w.heap.size≤gb862));replace HB:=yam (below_step (yez HB.out) hb);have GE862:=GW862;clear hb hbox hg;obtain ⟨hcz18_0,hcz18_1,hcz18_2,hfz18_0,hfz18_1,hfz18_2⟩:=ybc BK862.out;obtain ⟨Ao19,co19,eo19⟩:=Kd.R_slice HO856.out;subst eo19;obtain ⟨Ao20,co20,eo20⟩:=Kd.R_slice HO860.out;subst eo20)|((with_reducible refine gate_callee (f:=46) rfl ?_);refine goesL_ (some 23) rfl rfl Try.func46 (by kernel_rfl) rfl #[.agg #[.int .i64 t853,.slice Ao19 t854.length co19,.int .i64 t857],.slice Ao20 t858.length co20,.int .i64 t861] rfl ymd ?_;(with_reducible refine (impl_RuleHolds.calls k t853 _ _ t854 t857 _ _ t858 t861 t863 _ ?side1 ?side2 ?side3 ?side4 A4.out).mono ?_);(case side1=>refine (Kd.Yr (e:=3) (base:=w.heap.size) (ok:=fun k_=>some k_≠(.slice Ao20 t858.length co20:Value).ownBlock) (n:=t854.length) (c:=co19) ?_).2.2;exact (by (with_reducible repeat (first|apply Kd.Ya|apply Kd.Yn|apply Kd.Yd));exact (Kd.R_mono (Kd.R_far (p:=⟨gb862,2,none⟩) (Kd.R_far (p:=⟨gb862,1,none⟩) (Kd.R_far (p:=⟨gb862,0,none⟩) (Kd.R_types HO856.out BK862.out (by decide)) (fun _ hk=>hk.2) (.int .i64 t853)) (fun _ hk=>hk.2) (.slice Ao19 t854.length co19)) (fun _ hk=>hk.2) (.int .i64 t857)) (fun _ h_=>h_.1))));(case side2=>exact (Kd.Yr HO856.out).2.1);(case side3=>refine (Kd.Yr (e:=3) (base:=w.heap.size) (ok:=fun k_=>some k_≠(.slice Ao19 t854.length co19:Value).ownBlock) (n:=t858.length) (c:=co20) ?_).2.2;exact (by (with_reducible repeat (first|apply Kd.Ya|apply Kd.Yn|apply Kd.Yd));exact (Kd.R_mono (Kd.R_far (p:=⟨gb862,2,none⟩) (Kd.R_far (p:=⟨gb862,1,none⟩) (Kd.R_far (p:=⟨gb862,0,none⟩) (Kd.R_types HO860.out BK862.out (by decide)) (fun _ hk=>hk.2) (.int .i64 t853)) (fun _ hk=>hk.2) (.slice Ao19 t854.length co19)) (fun _ hk=>hk.2) (.int .i64 t857)) (fun _ h_=>h_.1))));(case side4=>exact (Kd.Yr HO860.out).2.1);rintro e w21 ⟨rfl,hb⟩;refine ⟨_,rfl,?_⟩;replace HO856:=yam (Kd.R_below (by (with_reducible repeat (first|apply Kd.Ya|apply Kd.Yn|apply Kd.Yd));exact (Kd.R_mono (Kd.R_far (p:=⟨gb862,2,none⟩) (Kd.R_far (p:=⟨gb862,1,none⟩) (Kd.R_far (p:=⟨gb862,0,none⟩) (Kd.R_types HO856.out BK862.out (by decide)) (fun _ hk=>hk.2) (.int .i64 t853)) (fun _ hk=>hk.2) (.slice Ao19 t854.length co19)) (fun _ hk=>hk.2) (.int .i64 t857)) (fun _ h_=>h_.1))) hb);replace HO860:=yam (Kd.R_below (by (with_reducible repeat (first|apply Kd.Ya|apply Kd.Yn|apply Kd.Yd));exact (Kd.R_mono (Kd.R_far (p:=⟨gb862,2,none⟩) (Kd.R_far (p:=⟨gb862,1,none⟩) (Kd.R_far (p:=⟨gb862,0,none⟩) (Kd.R_types HO860.out BK862.out (by decide)) (fun _ hk=>hk.2) (.int .i64 t853)) (fun _ hk=>hk.2) (.slice Ao19 t854.length co19)) (fun _ hk=>hk.2) (.int .i64 t857)) (fun _ h_=>h_.1))) hb);replace BK862:=yam (blk_below (g:=gb862) (o:= .cells #[.int .i64 t853,.slice Ao19 t854.length co19,.int .i64 t857] 32 (0,0)) (by (with_reducible repeat (first|refine ybn ?_ _|refine ybd ?_|refine yba ?_ _));refine blk_put (cs:= #[.int .i64 t853,.slice Ao19 t854.length co19,.int .i64 0]) ?_ 2 _ rfl;(with_reducible repeat (first|refine ybn ?_ _|refine ybd ?_|refine yba ?_ _));refine blk_put (cs:= #[.int .i64 t853,.slice none 0 0,.int .i64 0]) ?_ 1 _ rfl;(with_reducible repeat (first|refine ybn ?_ _|refine ybd ?_|refine yba ?_ _));refine blk_put (cs:= #[.int .i64 0,.slice none 0 0,.int .i64 0]) ?_ 0 _ rfl;(with_reducible repeat (first|refine ybn ?_ _|refine ybd ?_|refine yba ?_ _));exact BK862.out) hb);replace HB:=yam (below_step yhb hb);(try clear hb);(try clear hk);obtain ⟨hcz22_0,hcz22_1,hcz22_2,hfz22_0,hfz22_1,hfz22_2⟩:=ybc BK862.out)|((with_reducible refine gate_callee (f:=47) rfl ?_);refine goesL_ (some 28) rfl rfl Try.func47 (by kernel_rfl) rfl #[.agg #[.int .i64 t853,.slice Ao19 t854.length co19,.int .i64 t857],.slice Ao20 t858.length co20,.int .i64 t861] rfl ymd ?_;(with_reducible refine (spec_RuleHolds.calls k t853 _ _ t854 t857 _ _ t858 t861 t864 _ ?_ ?_ ?_ ?_ A5.out).mono ?_);exact Kd.Cz (Kd.Yr HO856.out).2.2;exact (Kd.Yr HO856.out).2.1;exact Kd.Cz (Kd.Yr HO860.out).2.2;exact (Kd.Yr HO860.out).2.1;rintro e w23 ⟨rfl,hb⟩;refine ⟨_,rfl,?_⟩;replace HO856:=yam (Kd.R_below (Kd.Yz HO856.out) hb);replace HO860:=yam (Kd.R_below (Kd.Yz HO860.out) hb);replace BK862:=yam (ybb BK862.out hb);replace HB:=yam (below_step yhb hb);(try clear hb)))
 (try simp only [Act.put,yps])
 go_cut [39] (fun v39 wc=>∃ (kq:Nat) (x39_14:Bool),v39= .bool x39_14∧Aside0 (laws_FnRuleHolds.j0 kq t858 t861 t863 x39_14 t853 t854 t857=some r)∧Aside0 (kq≤k)∧Aside0 (Kd.R (Kd.int .i64) 3 wc w.heap.size (fun k_=>some k_≠((.slice Ao19 t854.length co19):Value).ownBlock) (.slice Ao20 t858.length co20) t858)∧Aside0 (Kd.R (Kd.int .i64) 3 wc w.heap.size (fun k_=>some k_≠((.slice Ao20 t858.length co20):Value).ownBlock) (.slice Ao19 t854.length co19) t854)∧Aside0 (wc.heap[gb862]?=some (.cells #[.int .i64 t853,(.slice Ao19 t854.length co19),.int .i64 t857] 32 (0,0)))∧Aside0 (Below w.heap.size w wc))
 case first =>
  have H:=HC15.out
  clear HC15
  replace H:=ybi H;obtain ⟨t865,A24,H⟩:=H
  try dsimp only at H
  cases t865
  ·replace H:=yff H
   replace H:=yam H
   obtain ⟨hcz29_0,hcz29_1,hcz29_2,hfz29_0,hfz29_1,hfz29_2⟩:=ybc BK862.out
   go_wp2_with (first|((with_reducible refine gate_callee (f:=24) rfl ?_);refine goesL_ (some 32) rfl rfl Try.func24 (by kernel_rfl) rfl #[.agg #[.int .i64 t853,.slice Ao19 t854.length co19,.int .i64 t857],.int .i64 t861] rfl ymd ?_;(with_reducible refine (spec_RuleValid.calls k t853 _ _ t854 t857 t861 false _ ?_ ?_ A24.out).mono ?_);exact Kd.Cz (Kd.Yr HO856.out).2.2;exact (Kd.Yr HO856.out).2.1;rintro e w30 ⟨rfl,hb⟩;refine ⟨_,rfl,?_⟩;replace HO856:=yam (Kd.R_below (Kd.Yz HO856.out) hb);replace HO860:=yam (Kd.R_below (Kd.Yz HO860.out) hb);replace BK862:=yam (ybb BK862.out hb);replace HB:=yam (below_step yhb hb);(try clear hb)))
   go_meet
   case rel=>exact ⟨_,(true),yeq,H,⟨by first|omega|exact Nat.le_refl _⟩,⟨yka HO860.out⟩,⟨yka HO856.out⟩,⟨ybk BK862.out⟩,⟨yhb⟩⟩
  replace H:=ytt H
  replace H:=ybi H;obtain ⟨t866,A26,H⟩:=H
  try dsimp only at H
  replace H:=yam H
  obtain ⟨hcz27_0,hcz27_1,hcz27_2,hfz27_0,hfz27_1,hfz27_2⟩:=ybc BK862.out
  go_wp2_with (first|((with_reducible refine gate_callee (f:=24) rfl ?_);refine goesL_ (some 32) rfl rfl Try.func24 (by kernel_rfl) rfl #[.agg #[.int .i64 t853,.slice Ao19 t854.length co19,.int .i64 t857],.int .i64 t861] rfl ymd ?_;(with_reducible refine (spec_RuleValid.calls k t853 _ _ t854 t857 t861 true _ ?_ ?_ A24.out).mono ?_);exact Kd.Cz (Kd.Yr HO856.out).2.2;exact (Kd.Yr HO856.out).2.1;rintro e w28 ⟨rfl,hb⟩;refine ⟨_,rfl,?_⟩;replace HO856:=yam (Kd.R_below (Kd.Yz HO856.out) hb);replace HO860:=yam (Kd.R_below (Kd.Yz HO860.out) hb);replace BK862:=yam (ybb BK862.out hb);replace HB:=yam (below_step yhb hb);(try clear hb))|(go_at_call 49;(with_reducible refine (spec_GridValid.calls k _ _ t858 t861 t866 _ ?_ ?_ A26.out).mono ?_);exact Kd.Cz (Kd.Yr HO860.out).2.2;exact (Kd.Yr HO860.out).2.1;rintro e w' ⟨rfl,⟨nd,rfl⟩⟩))
  go_meet
  case rel=>exact ⟨_,(!t866),yeq,H,⟨by first|omega|exact Nat.le_refl _⟩,⟨yka HO860.out⟩,⟨yka HO856.out⟩,⟨ybk BK862.out⟩,⟨yhb⟩⟩
 case rest =>
  clear HC15
  try clear c2b0
  try clear c2b1
  try clear c6b0
  try clear c6b1
  try clear c6b2
  try clear hcz18_0
  try clear hcz18_1
  try clear hcz18_2
  try clear hcz22_0
  try clear hcz22_1
  try clear hcz22_2
  try clear hfz18_0
  try clear hfz18_1
  try clear hfz18_2
  try clear hfz22_0
  try clear hfz22_1
  try clear hfz22_2
  obtain ⟨kq,x39_14,rfl,HA,HJ14,HO_4,HO_863001,BK862,HB⟩:=hcut
  rcases kq with _|kj14
  ·exact absurd HA.out (by simp [laws_FnRuleHolds.j0])
  obtain ⟨H⟩:=HA
  simp only [laws_FnRuleHolds.j0] at H
  cases x39_14
  rotate_left
  ·replace H:=ytt H
   cases t863
   rotate_left
   ·replace H:=ytt H
    obtain rfl:=ysi H
    go_wp2
    go_ret
    exact ⟨yer,yhb⟩
   replace H:=yff H
   replace H:=ybi H;obtain ⟨t867,A33,H⟩:=H
   try dsimp only at H
   obtain rfl:=ysi H
   go_wp2_with (first|(go_at_call 19;(with_reducible refine (laws_alive.calls kj14  t867 _ A33.out).mono ?_);rintro e w34 ⟨rfl,hb⟩;replace HO_4:=yam (Kd.R_below (Kd.Yz HO_4.out) hb);replace HO_863001:=yam (Kd.R_below (Kd.Yz HO_863001.out) hb);replace BK862:=yam (ybb BK862.out hb);replace HB:=yam (below_step yhb hb);(try clear hb)))
   go_ret
   exact ⟨yer,yhb⟩
  replace H:=yff H
  obtain ⟨y868,Ny868⟩:∃ y_:List Int,Aside0 (y_=(([]:List Int))):=⟨_,⟨rfl⟩⟩
  replace H:(laws_FnRuleHolds.l0 kj14 t858 t861 t863 y868 (wrap64 ((t854.length:Int) - 1)) t853 t854 t857)=some r:=yhn Ny868.out H
  replace H:=yam H
  go_wp2_with (first|((with_reducible refine gate_dst (N:=45) rfl ?_);(try (refine gate_guard (by rfl) ?_;dsimp only));refine Kd.R_lit (Kd.int .i64) _ 3 ?hg (N:=45) ?hd (xs:=([]:List Int)) (inner:=[]) (ok:=fun _=>True) (okp:=fun _=>True) ?hr ?hp (fun _ hk=>hk) trivial (Below.refl _ _) (Nat.le_refl _) (by simp) ?_;(case hd=>rfl);(case hg=>rfl);(case hr=>first|(go_simp;done)|(go_simp;rfl));(case hp=>exact (Reps.none _ _));intro v869 w35 ho36 hb hg_ hnew_;clear hg_ hnew_;(first|rw [← Ny868.out] at ho36|(simp only [Int.reduceToNat] at ho36;rw [← Ny868.out] at ho36));have HO870:=yam (Kd.R_lower (Kd.Yw (Kd.Yw ho36 (Kd.R_lt (Kd.Yz HO_4.out))) (Kd.R_lt (Kd.Yz HO_863001.out))) (below_size yhb));replace HO_4:=yam (Kd.Ye (Kd.Yz HO_4.out) (Kd.Yb ho36) hb);replace HO_863001:=yam (Kd.Ye (Kd.Yz HO_863001.out) (Kd.Yb ho36) hb);replace BK862:=yam (ybb BK862.out hb);replace HB:=yam (below_step yhb hb);clear hb ho36;obtain ⟨hcz37_0,hcz37_1,hcz37_2,hfz37_0,hfz37_1,hfz37_2⟩:=ybc BK862.out))
  go_loopg [7,8] kj14 (fun kq v7 v8 w'=>∃ (x7_2:List Int) (x8_2:Int),v8= .int .i64 x8_2∧Aside0 (laws_FnRuleHolds.l0 kq t858 t861 t863 x7_2 x8_2 t853 t854 t857=some r)∧Aside0 (kq≤kj14)∧Aside0 (Kd.R (Kd.int .i64) 3 w' w.heap.size (fun k_=>some k_≠(v7:Value).ownBlock∧some k_≠((.slice Ao19 t854.length co19):Value).ownBlock) (.slice Ao20 t858.length co20) t858)∧Aside0 (Kd.R (Kd.int .i64) 3 w' w.heap.size (fun k_=>some k_≠((.slice Ao20 t858.length co20):Value).ownBlock∧some k_≠((.slice Ao19 t854.length co19):Value).ownBlock) v7 x7_2)∧Aside0 (Kd.R (Kd.int .i64) 3 w' w.heap.size (fun k_=>some k_≠((.slice Ao20 t858.length co20):Value).ownBlock∧some k_≠(v7:Value).ownBlock) (.slice Ao19 t854.length co19) t854)∧Aside0 (w'.heap[gb862]?=some (.cells #[.int .i64 t853,(.slice Ao19 t854.length co19),.int .i64 t857] 32 (0,0)))∧Aside0 (Below w.heap.size w w'))
  case atStart=>exact ⟨(y868),(wrap64 ((t854.length:Int) - 1)),yeq,H,⟨Nat.le_refl _⟩,⟨by (with_reducible repeat (first|apply Kd.Ya|apply Kd.Yn|apply Kd.Yd));exact Kd.R_mono HO_4.out (fun _ hk=>⟨hk.2,hk.1⟩)⟩,⟨by (with_reducible repeat (first|apply Kd.Ya|apply Kd.Yn|apply Kd.Yd));exact Kd.R_mono HO870.out (fun _ hk=>⟨hk.1.2,hk.2⟩)⟩,⟨yka HO_863001.out⟩,⟨ybk BK862.out⟩,⟨yhb⟩⟩
  case round =>
   clear H
   try clear hcz37_0
   try clear hcz37_1
   try clear hcz37_2
   try clear hfz37_0
   try clear hfz37_1
   try clear hfz37_2
   obtain ⟨x7_2,x8_2,rfl,HA,HK2,HO_4,HO_7,HO_863001,BK862,HB⟩:=hrel
   rcases gk with _|k2
   ·exact absurd HA.out (by simp [laws_FnRuleHolds.l0])
   obtain ⟨H⟩:=HA
   simp only [laws_FnRuleHolds.l0] at H
   replace H:=yis H;obtain ⟨c38b0,H⟩ | ⟨c38b0,H⟩:=H
   ·replace H:=yif H;obtain ⟨c39b0,H⟩:=H
    replace H:=yif H;obtain ⟨c40b0,H⟩:=H
    replace H:=yig H;obtain ⟨c41,H⟩:=H
    have LMc41:=yam c41
    clear c41
    obtain ⟨y872,Ny872⟩:∃ y_:List Int,Aside0 (y_=(x7_2 ++ [rd t854 x8_2])):=⟨_,⟨rfl⟩⟩
    replace H:(laws_FnRuleHolds.l0 k2 t858 t861 t863 y872 (wrap64 (x8_2 - 1)) t853 t854 t857)=some r:=yhn Ny872.out H
    replace H:=yam H
    obtain ⟨hcz42_0,hcz42_1,hcz42_2,hfz42_0,hfz42_1,hfz42_2⟩:=ybc BK862.out
    obtain ⟨ad871,e871,hx871_0,p871,q871⟩:=yat (Kd.Yr HO_863001.out).2.2 x8_2
    cases e871
    go_wp2_with (first|((with_reducible refine gate_builtin (b:= .append) (xs:= #[.tmp 54,.tmp 60]) rfl ?_);(try (refine gate_guard (by rfl) ?_;dsimp only));at_builtin;refine Kd.R_append (Kd.int .i64) (w0:=w) w.heap.size rfl (.tmp 54) (.tmp 60) 23 3 (.int .i64 0) 8 rfl Try.underlying23 info3 rfl (by decide) (by omega) u7 x7_2 (rd t854 x8_2) [.int .i64 (rd t854 x8_2)] (fun k_=>some k_≠(.slice Ao20 t858.length co20:Value).ownBlock∧some k_≠(.slice (some ad871) t854.length co19:Value).ownBlock) (fun _=>False) rfl rfl ?aP (fun _ hk=>hk.elim) ?aF ?aO ?aB ?aS ?aL ?_;(case aP=>exact rfl);(case aB=>exact yhb);(case aF=>exact (fun k_ hk=>⟨Kd.fresh' (Kd.R_lt (Kd.Yz HO_4.out)) k_ hk,Kd.fresh' (Kd.R_lt (Kd.Yz HO_863001.out)) k_ hk⟩));(case aO=>exact (Kd.Yz HO_7.out));(case aS=>exact (below_size yhb));(case aL=>have:=LMc41.out;omega);intro v873 w43 ho hb hg hat;rw [← Ny872.out] at ho;replace HO_4:=yam (Kd.R_after (ok:=(fun k_=>some k_≠(.slice (some ad871) t854.length co19:Value).ownBlock)) (by (with_reducible repeat (first|apply Kd.Ya|apply Kd.Yn|apply Kd.Yd));exact Kd.R_mono HO_4.out (fun _ hk=>⟨hk.2,hk.1⟩)) hg hat);replace HO_863001:=yam (Kd.R_after (ok:=(fun k_=>some k_≠(.slice Ao20 t858.length co20:Value).ownBlock)) (Kd.Yz HO_863001.out) hg hat);replace BK862:=yam (blk_grown (g:=gb862) (o:= .cells #[.int .i64 t853,.slice (some ad871) t854.length co19,.int .i64 t857] 32 (0,0)) (ybz BK862.out) hg (Kd.R_ne HO_7.out BK862.out (by decide)));replace HB:=yam (hb);have HO874:=yam (ho);clear HO_7;clear ho hb hg hat))
    go_roundg k2
    case measure=>have:=HJ14.out;have:=HK2.out;omega
    case rel=>exact ⟨(y872),(wrap64 (x8_2 - 1)),yeq,H,⟨by have:=HJ14.out;have:=HK2.out;omega⟩,⟨by (with_reducible repeat (first|apply Kd.Ya|apply Kd.Yn|apply Kd.Yd));exact Kd.R_mono HO_4.out (fun _ hk=>⟨hk.2,hk.1⟩)⟩,⟨yka HO874.out⟩,⟨yka HO_863001.out⟩,⟨ybk BK862.out⟩,⟨yhb⟩⟩
   replace H:=ybi H;obtain ⟨t875,A44,H⟩:=H
   try dsimp only at H
   replace H:=ybi H;obtain ⟨t876,A45,H⟩:=H
   try dsimp only at H
   cases t863
   ·replace H:=yff H
    replace H:=ybi H;obtain ⟨t878,A101,H⟩:=H
    try dsimp only at H
    replace H:=yis H;obtain ⟨c102b0,H⟩ | ⟨c102b0,H⟩:=H
    ·replace H:=yit H;obtain ⟨c103,H⟩ | ⟨c103,H⟩:=H
     rotate_left
     ·have c103b0:(t853 == 4)=false:=beq_eq_false_iff_ne.mpr c103
      have c103b1:(t853 != 4)=true:=bne_iff_ne.mpr c103
      obtain rfl:=ysi H
      obtain ⟨hcz110_0,hcz110_1,hcz110_2,hfz110_0,hfz110_1,hfz110_2⟩:=ybc BK862.out
      obtain ⟨Ao111,co111,eo111⟩:=Kd.R_slice HO_7.out
      subst eo111
      go_wp2_with (first|((with_reducible refine gate_callee (f:=46) rfl ?_);refine goesL_ (some 70) rfl rfl Try.func46 (by kernel_rfl) rfl #[.agg #[.int .i64 t853,.slice Ao111 x7_2.length co111,.int .i64 t857],.slice Ao20 t858.length co20,.int .i64 t861] rfl ymd ?_;(with_reducible refine (impl_RuleHolds.calls k2 t853 _ _ x7_2 t857 _ _ t858 t861 t875 _ ?_ ?_ ?_ ?_ A44.out).mono ?_);exact Kd.Cz (Kd.Yr HO_7.out).2.2;exact (Kd.Yr HO_7.out).2.1;exact Kd.Cz (Kd.Yr HO_4.out).2.2;exact (Kd.Yr HO_4.out).2.1;rintro e w112 ⟨rfl,hb⟩;refine ⟨_,rfl,?_⟩;replace HO_4:=yam (Kd.R_below (Kd.Yz HO_4.out) hb);replace HO_7:=yam (Kd.R_below (Kd.Yz HO_7.out) hb);replace HO_863001:=yam (Kd.R_below (Kd.Yz HO_863001.out) hb);replace BK862:=yam (ybb BK862.out hb);replace HB:=yam (below_step yhb hb);(try clear hb);obtain ⟨hcz113_0,hcz113_1,hcz113_2,hfz113_0,hfz113_1,hfz113_2⟩:=ybc BK862.out)|((with_reducible refine gate_callee (f:=44) rfl ?_);refine goesL_ (some 74) rfl rfl Try.func44 (by kernel_rfl) rfl #[.agg #[.int .i64 t853,.slice Ao19 t854.length co19,.int .i64 t857],.slice Ao20 t858.length co20,.int .i64 t861] rfl ymd ?_;(with_reducible refine (impl_RulePossible.calls k2 t853 _ _ t854 t857 _ _ t858 t861 t876 _ ?_ ?_ ?_ ?_ A45.out).mono ?_);exact Kd.Cz (Kd.Yr HO_863001.out).2.2;exact (Kd.Yr HO_863001.out).2.1;exact Kd.Cz (Kd.Yr HO_4.out).2.2;exact (Kd.Yr HO_4.out).2.1;rintro e w114 ⟨rfl,hb⟩;refine ⟨_,rfl,?_⟩;replace HO_4:=yam (Kd.R_below (Kd.Yz HO_4.out) hb);replace HO_7:=yam (Kd.R_below (Kd.Yz HO_7.out) hb);replace HO_863001:=yam (Kd.R_below (Kd.Yz HO_863001.out) hb);replace BK862:=yam (ybb BK862.out hb);replace HB:=yam (below_step yhb hb);(try clear hb))|(go_at_call 50;(with_reducible refine (impl_GridFilled.calls k2 _ _ t858 t861 t878 _ ?_ ?_ A101.out).mono ?_);exact Kd.Cz (Kd.Yr HO_4.out).2.2;exact (Kd.Yr HO_4.out).2.1;rintro e w' ⟨rfl,⟨nd,rfl⟩⟩;obtain ⟨hcz115_0,hcz115_1,hcz115_2,hfz115_0,hfz115_1,hfz115_2⟩:=ybc BK862.out))
      go_ret
      exact ⟨yer,yhb⟩
     have c103b0:(t853 == 4)=true:=beq_iff_eq.mpr c103
     have c103b1:(t853 != 4)=false:=bne_eq_false_iff_eq.mpr c103
     clear c103
     obtain rfl:=ysi H
     obtain ⟨hcz104_0,hcz104_1,hcz104_2,hfz104_0,hfz104_1,hfz104_2⟩:=ybc BK862.out
     obtain ⟨Ao105,co105,eo105⟩:=Kd.R_slice HO_7.out
     subst eo105
     go_wp2_with (first|((with_reducible refine gate_callee (f:=46) rfl ?_);refine goesL_ (some 70) rfl rfl Try.func46 (by kernel_rfl) rfl #[.agg #[.int .i64 t853,.slice Ao105 x7_2.length co105,.int .i64 t857],.slice Ao20 t858.length co20,.int .i64 t861] rfl ymd ?_;(with_reducible refine (impl_RuleHolds.calls k2 t853 _ _ x7_2 t857 _ _ t858 t861 t875 _ ?_ ?_ ?_ ?_ A44.out).mono ?_);exact Kd.Cz (Kd.Yr HO_7.out).2.2;exact (Kd.Yr HO_7.out).2.1;exact Kd.Cz (Kd.Yr HO_4.out).2.2;exact (Kd.Yr HO_4.out).2.1;rintro e w106 ⟨rfl,hb⟩;refine ⟨_,rfl,?_⟩;replace HO_4:=yam (Kd.R_below (Kd.Yz HO_4.out) hb);replace HO_7:=yam (Kd.R_below (Kd.Yz HO_7.out) hb);replace HO_863001:=yam (Kd.R_below (Kd.Yz HO_863001.out) hb);replace BK862:=yam (ybb BK862.out hb);replace HB:=yam (below_step yhb hb);(try clear hb);obtain ⟨hcz107_0,hcz107_1,hcz107_2,hfz107_0,hfz107_1,hfz107_2⟩:=ybc BK862.out)|((with_reducible refine gate_callee (f:=44) rfl ?_);refine goesL_ (some 74) rfl rfl Try.func44 (by kernel_rfl) rfl #[.agg #[.int .i64 t853,.slice Ao19 t854.length co19,.int .i64 t857],.slice Ao20 t858.length co20,.int .i64 t861] rfl ymd ?_;(with_reducible refine (impl_RulePossible.calls k2 t853 _ _ t854 t857 _ _ t858 t861 t876 _ ?_ ?_ ?_ ?_ A45.out).mono ?_);exact Kd.Cz (Kd.Yr HO_863001.out).2.2;exact (Kd.Yr HO_863001.out).2.1;exact Kd.Cz (Kd.Yr HO_4.out).2.2;exact (Kd.Yr HO_4.out).2.1;rintro e w108 ⟨rfl,hb⟩;refine ⟨_,rfl,?_⟩;replace HO_4:=yam (Kd.R_below (Kd.Yz HO_4.out) hb);replace HO_7:=yam (Kd.R_below (Kd.Yz HO_7.out) hb);replace HO_863001:=yam (Kd.R_below (Kd.Yz HO_863001.out) hb);replace BK862:=yam (ybb BK862.out hb);replace HB:=yam (below_step yhb hb);(try clear hb))|(go_at_call 50;(with_reducible refine (impl_GridFilled.calls k2 _ _ t858 t861 t878 _ ?_ ?_ A101.out).mono ?_);exact Kd.Cz (Kd.Yr HO_4.out).2.2;exact (Kd.Yr HO_4.out).2.1;rintro e w' ⟨rfl,⟨nd,rfl⟩⟩;obtain ⟨hcz109_0,hcz109_1,hcz109_2,hfz109_0,hfz109_1,hfz109_2⟩:=ybc BK862.out))
     go_ret
     exact ⟨yer,yhb⟩
    replace H:=yit H;obtain ⟨c116,H⟩ | ⟨c116,H⟩:=H
    rotate_left
    ·have c116b0:(false == t876)=false:=by simpa using c116
     (try (have c116b1:decide (false=t876)=false:=by simpa using c116))
     (try (have c116b2:(false == t876)=false:=by simpa using c116))
     (try (have c116b3:¬ (false=t876):=by simpa using c116))
     clear c116
     obtain rfl:=ysi H
     obtain ⟨hcz130_0,hcz130_1,hcz130_2,hfz130_0,hfz130_1,hfz130_2⟩:=ybc BK862.out
     obtain ⟨Ao131,co131,eo131⟩:=Kd.R_slice HO_7.out
     subst eo131
     go_wp2_with (first|((with_reducible refine gate_callee (f:=46) rfl ?_);refine goesL_ (some 70) rfl rfl Try.func46 (by kernel_rfl) rfl #[.agg #[.int .i64 t853,.slice Ao131 x7_2.length co131,.int .i64 t857],.slice Ao20 t858.length co20,.int .i64 t861] rfl ymd ?_;(with_reducible refine (impl_RuleHolds.calls k2 t853 _ _ x7_2 t857 _ _ t858 t861 t875 _ ?_ ?_ ?_ ?_ A44.out).mono ?_);exact Kd.Cz (Kd.Yr HO_7.out).2.2;exact (Kd.Yr HO_7.out).2.1;exact Kd.Cz (Kd.Yr HO_4.out).2.2;exact (Kd.Yr HO_4.out).2.1;rintro e w132 ⟨rfl,hb⟩;refine ⟨_,rfl,?_⟩;replace HO_4:=yam (Kd.R_below (Kd.Yz HO_4.out) hb);replace HO_7:=yam (Kd.R_below (Kd.Yz HO_7.out) hb);replace HO_863001:=yam (Kd.R_below (Kd.Yz HO_863001.out) hb);replace BK862:=yam (ybb BK862.out hb);replace HB:=yam (below_step yhb hb);(try clear hb);obtain ⟨hcz133_0,hcz133_1,hcz133_2,hfz133_0,hfz133_1,hfz133_2⟩:=ybc BK862.out)|((with_reducible refine gate_callee (f:=44) rfl ?_);refine goesL_ (some 74) rfl rfl Try.func44 (by kernel_rfl) rfl #[.agg #[.int .i64 t853,.slice Ao19 t854.length co19,.int .i64 t857],.slice Ao20 t858.length co20,.int .i64 t861] rfl ymd ?_;(with_reducible refine (impl_RulePossible.calls k2 t853 _ _ t854 t857 _ _ t858 t861 t876 _ ?_ ?_ ?_ ?_ A45.out).mono ?_);exact Kd.Cz (Kd.Yr HO_863001.out).2.2;exact (Kd.Yr HO_863001.out).2.1;exact Kd.Cz (Kd.Yr HO_4.out).2.2;exact (Kd.Yr HO_4.out).2.1;rintro e w134 ⟨rfl,hb⟩;refine ⟨_,rfl,?_⟩;replace HO_4:=yam (Kd.R_below (Kd.Yz HO_4.out) hb);replace HO_7:=yam (Kd.R_below (Kd.Yz HO_7.out) hb);replace HO_863001:=yam (Kd.R_below (Kd.Yz HO_863001.out) hb);replace BK862:=yam (ybb BK862.out hb);replace HB:=yam (below_step yhb hb);(try clear hb))|(go_at_call 50;(with_reducible refine (impl_GridFilled.calls k2 _ _ t858 t861 t878 _ ?_ ?_ A101.out).mono ?_);exact Kd.Cz (Kd.Yr HO_4.out).2.2;exact (Kd.Yr HO_4.out).2.1;rintro e w' ⟨rfl,⟨nd,rfl⟩⟩))
     go_ret
     exact ⟨yer,yhb⟩
    have c116b0:(false == t876)=true:=c116
    (try (have c116b1:decide (false=t876)=true:=by simpa using c116))
    (try (have c116b2:(false == t876)=true:=by simpa using c116))
    clear c116
    replace H:=yit H;obtain ⟨c117,H⟩ | ⟨c117,H⟩:=H
    rotate_left
    ·have c117b0:(t853 == 4)=false:=beq_eq_false_iff_ne.mpr c117
     have c117b1:(t853 != 4)=true:=bne_iff_ne.mpr c117
     obtain rfl:=ysi H
     obtain ⟨hcz124_0,hcz124_1,hcz124_2,hfz124_0,hfz124_1,hfz124_2⟩:=ybc BK862.out
     obtain ⟨Ao125,co125,eo125⟩:=Kd.R_slice HO_7.out
     subst eo125
     go_wp2_with (first|((with_reducible refine gate_callee (f:=46) rfl ?_);refine goesL_ (some 70) rfl rfl Try.func46 (by kernel_rfl) rfl #[.agg #[.int .i64 t853,.slice Ao125 x7_2.length co125,.int .i64 t857],.slice Ao20 t858.length co20,.int .i64 t861] rfl ymd ?_;(with_reducible refine (impl_RuleHolds.calls k2 t853 _ _ x7_2 t857 _ _ t858 t861 t875 _ ?_ ?_ ?_ ?_ A44.out).mono ?_);exact Kd.Cz (Kd.Yr HO_7.out).2.2;exact (Kd.Yr HO_7.out).2.1;exact Kd.Cz (Kd.Yr HO_4.out).2.2;exact (Kd.Yr HO_4.out).2.1;rintro e w126 ⟨rfl,hb⟩;refine ⟨_,rfl,?_⟩;replace HO_4:=yam (Kd.R_below (Kd.Yz HO_4.out) hb);replace HO_7:=yam (Kd.R_below (Kd.Yz HO_7.out) hb);replace HO_863001:=yam (Kd.R_below (Kd.Yz HO_863001.out) hb);replace BK862:=yam (ybb BK862.out hb);replace HB:=yam (below_step yhb hb);(try clear hb);obtain ⟨hcz127_0,hcz127_1,hcz127_2,hfz127_0,hfz127_1,hfz127_2⟩:=ybc BK862.out)|((with_reducible refine gate_callee (f:=44) rfl ?_);refine goesL_ (some 74) rfl rfl Try.func44 (by kernel_rfl) rfl #[.agg #[.int .i64 t853,.slice Ao19 t854.length co19,.int .i64 t857],.slice Ao20 t858.length co20,.int .i64 t861] rfl ymd ?_;(with_reducible refine (impl_RulePossible.calls k2 t853 _ _ t854 t857 _ _ t858 t861 t876 _ ?_ ?_ ?_ ?_ A45.out).mono ?_);exact Kd.Cz (Kd.Yr HO_863001.out).2.2;exact (Kd.Yr HO_863001.out).2.1;exact Kd.Cz (Kd.Yr HO_4.out).2.2;exact (Kd.Yr HO_4.out).2.1;rintro e w128 ⟨rfl,hb⟩;refine ⟨_,rfl,?_⟩;replace HO_4:=yam (Kd.R_below (Kd.Yz HO_4.out) hb);replace HO_7:=yam (Kd.R_below (Kd.Yz HO_7.out) hb);replace HO_863001:=yam (Kd.R_below (Kd.Yz HO_863001.out) hb);replace BK862:=yam (ybb BK862.out hb);replace HB:=yam (below_step yhb hb);(try clear hb))|(go_at_call 50;(with_reducible refine (impl_GridFilled.calls k2 _ _ t858 t861 t878 _ ?_ ?_ A101.out).mono ?_);exact Kd.Cz (Kd.Yr HO_4.out).2.2;exact (Kd.Yr HO_4.out).2.1;rintro e w' ⟨rfl,⟨nd,rfl⟩⟩;obtain ⟨hcz129_0,hcz129_1,hcz129_2,hfz129_0,hfz129_1,hfz129_2⟩:=ybc BK862.out))
     go_ret
     exact ⟨yer,yhb⟩
    have c117b0:(t853 == 4)=true:=beq_iff_eq.mpr c117
    have c117b1:(t853 != 4)=false:=bne_eq_false_iff_eq.mpr c117
    clear c117
    obtain rfl:=ysi H
    obtain ⟨hcz118_0,hcz118_1,hcz118_2,hfz118_0,hfz118_1,hfz118_2⟩:=ybc BK862.out
    obtain ⟨Ao119,co119,eo119⟩:=Kd.R_slice HO_7.out
    subst eo119
    go_wp2_with (first|((with_reducible refine gate_callee (f:=46) rfl ?_);refine goesL_ (some 70) rfl rfl Try.func46 (by kernel_rfl) rfl #[.agg #[.int .i64 t853,.slice Ao119 x7_2.length co119,.int .i64 t857],.slice Ao20 t858.length co20,.int .i64 t861] rfl ymd ?_;(with_reducible refine (impl_RuleHolds.calls k2 t853 _ _ x7_2 t857 _ _ t858 t861 t875 _ ?_ ?_ ?_ ?_ A44.out).mono ?_);exact Kd.Cz (Kd.Yr HO_7.out).2.2;exact (Kd.Yr HO_7.out).2.1;exact Kd.Cz (Kd.Yr HO_4.out).2.2;exact (Kd.Yr HO_4.out).2.1;rintro e w120 ⟨rfl,hb⟩;refine ⟨_,rfl,?_⟩;replace HO_4:=yam (Kd.R_below (Kd.Yz HO_4.out) hb);replace HO_7:=yam (Kd.R_below (Kd.Yz HO_7.out) hb);replace HO_863001:=yam (Kd.R_below (Kd.Yz HO_863001.out) hb);replace BK862:=yam (ybb BK862.out hb);replace HB:=yam (below_step yhb hb);(try clear hb);obtain ⟨hcz121_0,hcz121_1,hcz121_2,hfz121_0,hfz121_1,hfz121_2⟩:=ybc BK862.out)|((with_reducible refine gate_callee (f:=44) rfl ?_);refine goesL_ (some 74) rfl rfl Try.func44 (by kernel_rfl) rfl #[.agg #[.int .i64 t853,.slice Ao19 t854.length co19,.int .i64 t857],.slice Ao20 t858.length co20,.int .i64 t861] rfl ymd ?_;(with_reducible refine (impl_RulePossible.calls k2 t853 _ _ t854 t857 _ _ t858 t861 t876 _ ?_ ?_ ?_ ?_ A45.out).mono ?_);exact Kd.Cz (Kd.Yr HO_863001.out).2.2;exact (Kd.Yr HO_863001.out).2.1;exact Kd.Cz (Kd.Yr HO_4.out).2.2;exact (Kd.Yr HO_4.out).2.1;rintro e w122 ⟨rfl,hb⟩;refine ⟨_,rfl,?_⟩;replace HO_4:=yam (Kd.R_below (Kd.Yz HO_4.out) hb);replace HO_7:=yam (Kd.R_below (Kd.Yz HO_7.out) hb);replace HO_863001:=yam (Kd.R_below (Kd.Yz HO_863001.out) hb);replace BK862:=yam (ybb BK862.out hb);replace HB:=yam (below_step yhb hb);(try clear hb))|(go_at_call 50;(with_reducible refine (impl_GridFilled.calls k2 _ _ t858 t861 t878 _ ?_ ?_ A101.out).mono ?_);exact Kd.Cz (Kd.Yr HO_4.out).2.2;exact (Kd.Yr HO_4.out).2.1;rintro e w' ⟨rfl,⟨nd,rfl⟩⟩;obtain ⟨hcz123_0,hcz123_1,hcz123_2,hfz123_0,hfz123_1,hfz123_2⟩:=ybc BK862.out))
    go_ret
    exact ⟨yer,yhb⟩
   replace H:=ytt H
   cases t876
   ·replace H:=yff H
    obtain rfl:=ysi H
    obtain ⟨hcz96_0,hcz96_1,hcz96_2,hfz96_0,hfz96_1,hfz96_2⟩:=ybc BK862.out
    obtain ⟨Ao97,co97,eo97⟩:=Kd.R_slice HO_7.out
    subst eo97
    go_wp2_with (first|((with_reducible refine gate_callee (f:=46) rfl ?_);refine goesL_ (some 70) rfl rfl Try.func46 (by kernel_rfl) rfl #[.agg #[.int .i64 t853,.slice Ao97 x7_2.length co97,.int .i64 t857],.slice Ao20 t858.length co20,.int .i64 t861] rfl ymd ?_;(with_reducible refine (impl_RuleHolds.calls k2 t853 _ _ x7_2 t857 _ _ t858 t861 t875 _ ?_ ?_ ?_ ?_ A44.out).mono ?_);exact Kd.Cz (Kd.Yr HO_7.out).2.2;exact (Kd.Yr HO_7.out).2.1;exact Kd.Cz (Kd.Yr HO_4.out).2.2;exact (Kd.Yr HO_4.out).2.1;rintro e w98 ⟨rfl,hb⟩;refine ⟨_,rfl,?_⟩;replace HO_4:=yam (Kd.R_below (Kd.Yz HO_4.out) hb);replace HO_7:=yam (Kd.R_below (Kd.Yz HO_7.out) hb);replace HO_863001:=yam (Kd.R_below (Kd.Yz HO_863001.out) hb);replace BK862:=yam (ybb BK862.out hb);replace HB:=yam (below_step yhb hb);(try clear hb);obtain ⟨hcz99_0,hcz99_1,hcz99_2,hfz99_0,hfz99_1,hfz99_2⟩:=ybc BK862.out)|((with_reducible refine gate_callee (f:=44) rfl ?_);refine goesL_ (some 74) rfl rfl Try.func44 (by kernel_rfl) rfl #[.agg #[.int .i64 t853,.slice Ao19 t854.length co19,.int .i64 t857],.slice Ao20 t858.length co20,.int .i64 t861] rfl ymd ?_;(with_reducible refine (impl_RulePossible.calls k2 t853 _ _ t854 t857 _ _ t858 t861 false _ ?_ ?_ ?_ ?_ A45.out).mono ?_);exact Kd.Cz (Kd.Yr HO_863001.out).2.2;exact (Kd.Yr HO_863001.out).2.1;exact Kd.Cz (Kd.Yr HO_4.out).2.2;exact (Kd.Yr HO_4.out).2.1;rintro e w100 ⟨rfl,hb⟩;refine ⟨_,rfl,?_⟩;replace HO_4:=yam (Kd.R_below (Kd.Yz HO_4.out) hb);replace HO_7:=yam (Kd.R_below (Kd.Yz HO_7.out) hb);replace HO_863001:=yam (Kd.R_below (Kd.Yz HO_863001.out) hb);replace BK862:=yam (ybb BK862.out hb);replace HB:=yam (below_step yhb hb);(try clear hb)))
    go_ret
    exact ⟨yer,yhb⟩
   replace H:=ytt H
   replace H:=ybi H;obtain ⟨t877,A48,H⟩:=H
   try dsimp only at H
   replace H:=yis H;obtain ⟨c49b0,H⟩ | ⟨c49b0,H⟩:=H
   ·replace H:=yit H;obtain ⟨c50,H⟩ | ⟨c50,H⟩:=H
    rotate_left
    ·have c50b0:(t853 == 4)=false:=beq_eq_false_iff_ne.mpr c50
     have c50b1:(t853 != 4)=true:=bne_iff_ne.mpr c50
     obtain rfl:=ysi H
     obtain ⟨hcz64_0,hcz64_1,hcz64_2,hfz64_0,hfz64_1,hfz64_2⟩:=ybc BK862.out
     obtain ⟨Ao65,co65,eo65⟩:=Kd.R_slice HO_7.out
     subst eo65
     go_wp2_with (first|((with_reducible refine gate_callee (f:=46) rfl ?_);refine goesL_ (some 70) rfl rfl Try.func46 (by kernel_rfl) rfl #[.agg #[.int .i64 t853,.slice Ao65 x7_2.length co65,.int .i64 t857],.slice Ao20 t858.length co20,.int .i64 t861] rfl ymd ?_;(with_reducible refine (impl_RuleHolds.calls k2 t853 _ _ x7_2 t857 _ _ t858 t861 t875 _ ?_ ?_ ?_ ?_ A44.out).mono ?_);exact Kd.Cz (Kd.Yr HO_7.out).2.2;exact (Kd.Yr HO_7.out).2.1;exact Kd.Cz (Kd.Yr HO_4.out).2.2;exact (Kd.Yr HO_4.out).2.1;rintro e w66 ⟨rfl,hb⟩;refine ⟨_,rfl,?_⟩;replace HO_4:=yam (Kd.R_below (Kd.Yz HO_4.out) hb);replace HO_7:=yam (Kd.R_below (Kd.Yz HO_7.out) hb);replace HO_863001:=yam (Kd.R_below (Kd.Yz HO_863001.out) hb);replace BK862:=yam (ybb BK862.out hb);replace HB:=yam (below_step yhb hb);(try clear hb);obtain ⟨hcz67_0,hcz67_1,hcz67_2,hfz67_0,hfz67_1,hfz67_2⟩:=ybc BK862.out)|((with_reducible refine gate_callee (f:=44) rfl ?_);refine goesL_ (some 74) rfl rfl Try.func44 (by kernel_rfl) rfl #[.agg #[.int .i64 t853,.slice Ao19 t854.length co19,.int .i64 t857],.slice Ao20 t858.length co20,.int .i64 t861] rfl ymd ?_;(with_reducible refine (impl_RulePossible.calls k2 t853 _ _ t854 t857 _ _ t858 t861 true _ ?_ ?_ ?_ ?_ A45.out).mono ?_);exact Kd.Cz (Kd.Yr HO_863001.out).2.2;exact (Kd.Yr HO_863001.out).2.1;exact Kd.Cz (Kd.Yr HO_4.out).2.2;exact (Kd.Yr HO_4.out).2.1;rintro e w68 ⟨rfl,hb⟩;refine ⟨_,rfl,?_⟩;replace HO_4:=yam (Kd.R_below (Kd.Yz HO_4.out) hb);replace HO_7:=yam (Kd.R_below (Kd.Yz HO_7.out) hb);replace HO_863001:=yam (Kd.R_below (Kd.Yz HO_863001.out) hb);replace BK862:=yam (ybb BK862.out hb);replace HB:=yam (below_step yhb hb);(try clear hb))|(go_at_call 50;(with_reducible refine (impl_GridFilled.calls k2 _ _ t858 t861 t877 _ ?_ ?_ A48.out).mono ?_);exact Kd.Cz (Kd.Yr HO_4.out).2.2;exact (Kd.Yr HO_4.out).2.1;rintro e w' ⟨rfl,⟨nd,rfl⟩⟩;obtain ⟨hcz69_0,hcz69_1,hcz69_2,hfz69_0,hfz69_1,hfz69_2⟩:=ybc BK862.out))
     go_ret
     exact ⟨yer,yhb⟩
    have c50b0:(t853 == 4)=true:=beq_iff_eq.mpr c50
    have c50b1:(t853 != 4)=false:=bne_eq_false_iff_eq.mpr c50
    clear c50
    cases t875
    rotate_left
    ·replace H:=ytt H
     obtain rfl:=ysi H
     obtain ⟨hcz52_0,hcz52_1,hcz52_2,hfz52_0,hfz52_1,hfz52_2⟩:=ybc BK862.out
     obtain ⟨Ao53,co53,eo53⟩:=Kd.R_slice HO_7.out
     subst eo53
     go_wp2_with (first|((with_reducible refine gate_callee (f:=46) rfl ?_);refine goesL_ (some 70) rfl rfl Try.func46 (by kernel_rfl) rfl #[.agg #[.int .i64 t853,.slice Ao53 x7_2.length co53,.int .i64 t857],.slice Ao20 t858.length co20,.int .i64 t861] rfl ymd ?_;(with_reducible refine (impl_RuleHolds.calls k2 t853 _ _ x7_2 t857 _ _ t858 t861 true _ ?_ ?_ ?_ ?_ A44.out).mono ?_);exact Kd.Cz (Kd.Yr HO_7.out).2.2;exact (Kd.Yr HO_7.out).2.1;exact Kd.Cz (Kd.Yr HO_4.out).2.2;exact (Kd.Yr HO_4.out).2.1;rintro e w54 ⟨rfl,hb⟩;refine ⟨_,rfl,?_⟩;replace HO_4:=yam (Kd.R_below (Kd.Yz HO_4.out) hb);replace HO_7:=yam (Kd.R_below (Kd.Yz HO_7.out) hb);replace HO_863001:=yam (Kd.R_below (Kd.Yz HO_863001.out) hb);replace BK862:=yam (ybb BK862.out hb);replace HB:=yam (below_step yhb hb);(try clear hb);obtain ⟨hcz55_0,hcz55_1,hcz55_2,hfz55_0,hfz55_1,hfz55_2⟩:=ybc BK862.out)|((with_reducible refine gate_callee (f:=44) rfl ?_);refine goesL_ (some 74) rfl rfl Try.func44 (by kernel_rfl) rfl #[.agg #[.int .i64 t853,.slice Ao19 t854.length co19,.int .i64 t857],.slice Ao20 t858.length co20,.int .i64 t861] rfl ymd ?_;(with_reducible refine (impl_RulePossible.calls k2 t853 _ _ t854 t857 _ _ t858 t861 true _ ?_ ?_ ?_ ?_ A45.out).mono ?_);exact Kd.Cz (Kd.Yr HO_863001.out).2.2;exact (Kd.Yr HO_863001.out).2.1;exact Kd.Cz (Kd.Yr HO_4.out).2.2;exact (Kd.Yr HO_4.out).2.1;rintro e w56 ⟨rfl,hb⟩;refine ⟨_,rfl,?_⟩;replace HO_4:=yam (Kd.R_below (Kd.Yz HO_4.out) hb);replace HO_7:=yam (Kd.R_below (Kd.Yz HO_7.out) hb);replace HO_863001:=yam (Kd.R_below (Kd.Yz HO_863001.out) hb);replace BK862:=yam (ybb BK862.out hb);replace HB:=yam (below_step yhb hb);(try clear hb))|(go_at_call 50;(with_reducible refine (impl_GridFilled.calls k2 _ _ t858 t861 t877 _ ?_ ?_ A48.out).mono ?_);exact Kd.Cz (Kd.Yr HO_4.out).2.2;exact (Kd.Yr HO_4.out).2.1;rintro e w' ⟨rfl,⟨nd,rfl⟩⟩;obtain ⟨hcz57_0,hcz57_1,hcz57_2,hfz57_0,hfz57_1,hfz57_2⟩:=ybc BK862.out))
     go_ret
     exact ⟨yer,yhb⟩
    replace H:=yff H
    obtain rfl:=ysi H
    obtain ⟨hcz58_0,hcz58_1,hcz58_2,hfz58_0,hfz58_1,hfz58_2⟩:=ybc BK862.out
    obtain ⟨Ao59,co59,eo59⟩:=Kd.R_slice HO_7.out
    subst eo59
    go_wp2_with (first|((with_reducible refine gate_callee (f:=46) rfl ?_);refine goesL_ (some 70) rfl rfl Try.func46 (by kernel_rfl) rfl #[.agg #[.int .i64 t853,.slice Ao59 x7_2.length co59,.int .i64 t857],.slice Ao20 t858.length co20,.int .i64 t861] rfl ymd ?_;(with_reducible refine (impl_RuleHolds.calls k2 t853 _ _ x7_2 t857 _ _ t858 t861 false _ ?_ ?_ ?_ ?_ A44.out).mono ?_);exact Kd.Cz (Kd.Yr HO_7.out).2.2;exact (Kd.Yr HO_7.out).2.1;exact Kd.Cz (Kd.Yr HO_4.out).2.2;exact (Kd.Yr HO_4.out).2.1;rintro e w60 ⟨rfl,hb⟩;refine ⟨_,rfl,?_⟩;replace HO_4:=yam (Kd.R_below (Kd.Yz HO_4.out) hb);replace HO_7:=yam (Kd.R_below (Kd.Yz HO_7.out) hb);replace HO_863001:=yam (Kd.R_below (Kd.Yz HO_863001.out) hb);replace BK862:=yam (ybb BK862.out hb);replace HB:=yam (below_step yhb hb);(try clear hb);obtain ⟨hcz61_0,hcz61_1,hcz61_2,hfz61_0,hfz61_1,hfz61_2⟩:=ybc BK862.out)|((with_reducible refine gate_callee (f:=44) rfl ?_);refine goesL_ (some 74) rfl rfl Try.func44 (by kernel_rfl) rfl #[.agg #[.int .i64 t853,.slice Ao19 t854.length co19,.int .i64 t857],.slice Ao20 t858.length co20,.int .i64 t861] rfl ymd ?_;(with_reducible refine (impl_RulePossible.calls k2 t853 _ _ t854 t857 _ _ t858 t861 true _ ?_ ?_ ?_ ?_ A45.out).mono ?_);exact Kd.Cz (Kd.Yr HO_863001.out).2.2;exact (Kd.Yr HO_863001.out).2.1;exact Kd.Cz (Kd.Yr HO_4.out).2.2;exact (Kd.Yr HO_4.out).2.1;rintro e w62 ⟨rfl,hb⟩;refine ⟨_,rfl,?_⟩;replace HO_4:=yam (Kd.R_below (Kd.Yz HO_4.out) hb);replace HO_7:=yam (Kd.R_below (Kd.Yz HO_7.out) hb);replace HO_863001:=yam (Kd.R_below (Kd.Yz HO_863001.out) hb);replace BK862:=yam (ybb BK862.out hb);replace HB:=yam (below_step yhb hb);(try clear hb))|(go_at_call 50;(with_reducible refine (impl_GridFilled.calls k2 _ _ t858 t861 t877 _ ?_ ?_ A48.out).mono ?_);exact Kd.Cz (Kd.Yr HO_4.out).2.2;exact (Kd.Yr HO_4.out).2.1;rintro e w' ⟨rfl,⟨nd,rfl⟩⟩;obtain ⟨hcz63_0,hcz63_1,hcz63_2,hfz63_0,hfz63_1,hfz63_2⟩:=ybc BK862.out))
    go_ret
    exact ⟨yer,yhb⟩
   by_cases c70:(true == true)=true
   rotate_left
   ·exact absurd rfl c70
   rw [if_pos c70] at H
   have c70b0:(true == true)=true:=c70
   clear c70
   replace H:=yit H;obtain ⟨c71,H⟩ | ⟨c71,H⟩:=H
   rotate_left
   ·have c71b0:(t853 == 4)=false:=beq_eq_false_iff_ne.mpr c71
    have c71b1:(t853 != 4)=true:=bne_iff_ne.mpr c71
    obtain rfl:=ysi H
    obtain ⟨hcz85_0,hcz85_1,hcz85_2,hfz85_0,hfz85_1,hfz85_2⟩:=ybc BK862.out
    obtain ⟨Ao86,co86,eo86⟩:=Kd.R_slice HO_7.out
    subst eo86
    go_wp2_with (first|((with_reducible refine gate_callee (f:=46) rfl ?_);refine goesL_ (some 70) rfl rfl Try.func46 (by kernel_rfl) rfl #[.agg #[.int .i64 t853,.slice Ao86 x7_2.length co86,.int .i64 t857],.slice Ao20 t858.length co20,.int .i64 t861] rfl ymd ?_;(with_reducible refine (impl_RuleHolds.calls k2 t853 _ _ x7_2 t857 _ _ t858 t861 t875 _ ?_ ?_ ?_ ?_ A44.out).mono ?_);exact Kd.Cz (Kd.Yr HO_7.out).2.2;exact (Kd.Yr HO_7.out).2.1;exact Kd.Cz (Kd.Yr HO_4.out).2.2;exact (Kd.Yr HO_4.out).2.1;rintro e w87 ⟨rfl,hb⟩;refine ⟨_,rfl,?_⟩;replace HO_4:=yam (Kd.R_below (Kd.Yz HO_4.out) hb);replace HO_7:=yam (Kd.R_below (Kd.Yz HO_7.out) hb);replace HO_863001:=yam (Kd.R_below (Kd.Yz HO_863001.out) hb);replace BK862:=yam (ybb BK862.out hb);replace HB:=yam (below_step yhb hb);(try clear hb);obtain ⟨hcz88_0,hcz88_1,hcz88_2,hfz88_0,hfz88_1,hfz88_2⟩:=ybc BK862.out)|((with_reducible refine gate_callee (f:=44) rfl ?_);refine goesL_ (some 74) rfl rfl Try.func44 (by kernel_rfl) rfl #[.agg #[.int .i64 t853,.slice Ao19 t854.length co19,.int .i64 t857],.slice Ao20 t858.length co20,.int .i64 t861] rfl ymd ?_;(with_reducible refine (impl_RulePossible.calls k2 t853 _ _ t854 t857 _ _ t858 t861 true _ ?_ ?_ ?_ ?_ A45.out).mono ?_);exact Kd.Cz (Kd.Yr HO_863001.out).2.2;exact (Kd.Yr HO_863001.out).2.1;exact Kd.Cz (Kd.Yr HO_4.out).2.2;exact (Kd.Yr HO_4.out).2.1;rintro e w89 ⟨rfl,hb⟩;refine ⟨_,rfl,?_⟩;replace HO_4:=yam (Kd.R_below (Kd.Yz HO_4.out) hb);replace HO_7:=yam (Kd.R_below (Kd.Yz HO_7.out) hb);replace HO_863001:=yam (Kd.R_below (Kd.Yz HO_863001.out) hb);replace BK862:=yam (ybb BK862.out hb);replace HB:=yam (below_step yhb hb);(try clear hb))|(go_at_call 50;(with_reducible refine (impl_GridFilled.calls k2 _ _ t858 t861 t877 _ ?_ ?_ A48.out).mono ?_);exact Kd.Cz (Kd.Yr HO_4.out).2.2;exact (Kd.Yr HO_4.out).2.1;rintro e w' ⟨rfl,⟨nd,rfl⟩⟩;obtain ⟨hcz90_0,hcz90_1,hcz90_2,hfz90_0,hfz90_1,hfz90_2⟩:=ybc BK862.out))
    go_ret
    exact ⟨yer,yhb⟩
   have c71b0:(t853 == 4)=true:=beq_iff_eq.mpr c71
   have c71b1:(t853 != 4)=false:=bne_eq_false_iff_eq.mpr c71
   clear c71
   cases t875
   rotate_left
   ·replace H:=ytt H
    obtain rfl:=ysi H
    obtain ⟨hcz73_0,hcz73_1,hcz73_2,hfz73_0,hfz73_1,hfz73_2⟩:=ybc BK862.out
    obtain ⟨Ao74,co74,eo74⟩:=Kd.R_slice HO_7.out
    subst eo74
    go_wp2_with (first|((with_reducible refine gate_callee (f:=46) rfl ?_);refine goesL_ (some 70) rfl rfl Try.func46 (by kernel_rfl) rfl #[.agg #[.int .i64 t853,.slice Ao74 x7_2.length co74,.int .i64 t857],.slice Ao20 t858.length co20,.int .i64 t861] rfl ymd ?_;(with_reducible refine (impl_RuleHolds.calls k2 t853 _ _ x7_2 t857 _ _ t858 t861 true _ ?_ ?_ ?_ ?_ A44.out).mono ?_);exact Kd.Cz (Kd.Yr HO_7.out).2.2;exact (Kd.Yr HO_7.out).2.1;exact Kd.Cz (Kd.Yr HO_4.out).2.2;exact (Kd.Yr HO_4.out).2.1;rintro e w75 ⟨rfl,hb⟩;refine ⟨_,rfl,?_⟩;replace HO_4:=yam (Kd.R_below (Kd.Yz HO_4.out) hb);replace HO_7:=yam (Kd.R_below (Kd.Yz HO_7.out) hb);replace HO_863001:=yam (Kd.R_below (Kd.Yz HO_863001.out) hb);replace BK862:=yam (ybb BK862.out hb);replace HB:=yam (below_step yhb hb);(try clear hb);obtain ⟨hcz76_0,hcz76_1,hcz76_2,hfz76_0,hfz76_1,hfz76_2⟩:=ybc BK862.out)|((with_reducible refine gate_callee (f:=44) rfl ?_);refine goesL_ (some 74) rfl rfl Try.func44 (by kernel_rfl) rfl #[.agg #[.int .i64 t853,.slice Ao19 t854.length co19,.int .i64 t857],.slice Ao20 t858.length co20,.int .i64 t861] rfl ymd ?_;(with_reducible refine (impl_RulePossible.calls k2 t853 _ _ t854 t857 _ _ t858 t861 true _ ?_ ?_ ?_ ?_ A45.out).mono ?_);exact Kd.Cz (Kd.Yr HO_863001.out).2.2;exact (Kd.Yr HO_863001.out).2.1;exact Kd.Cz (Kd.Yr HO_4.out).2.2;exact (Kd.Yr HO_4.out).2.1;rintro e w77 ⟨rfl,hb⟩;refine ⟨_,rfl,?_⟩;replace HO_4:=yam (Kd.R_below (Kd.Yz HO_4.out) hb);replace HO_7:=yam (Kd.R_below (Kd.Yz HO_7.out) hb);replace HO_863001:=yam (Kd.R_below (Kd.Yz HO_863001.out) hb);replace BK862:=yam (ybb BK862.out hb);replace HB:=yam (below_step yhb hb);(try clear hb))|(go_at_call 50;(with_reducible refine (impl_GridFilled.calls k2 _ _ t858 t861 t877 _ ?_ ?_ A48.out).mono ?_);exact Kd.Cz (Kd.Yr HO_4.out).2.2;exact (Kd.Yr HO_4.out).2.1;rintro e w' ⟨rfl,⟨nd,rfl⟩⟩;obtain ⟨hcz78_0,hcz78_1,hcz78_2,hfz78_0,hfz78_1,hfz78_2⟩:=ybc BK862.out))
    go_ret
    exact ⟨yer,yhb⟩
   replace H:=yff H
   obtain rfl:=ysi H
   obtain ⟨hcz79_0,hcz79_1,hcz79_2,hfz79_0,hfz79_1,hfz79_2⟩:=ybc BK862.out
   obtain ⟨Ao80,co80,eo80⟩:=Kd.R_slice HO_7.out
   subst eo80
   go_wp2_with (first|((with_reducible refine gate_callee (f:=46) rfl ?_);refine goesL_ (some 70) rfl rfl Try.func46 (by kernel_rfl) rfl #[.agg #[.int .i64 t853,.slice Ao80 x7_2.length co80,.int .i64 t857],.slice Ao20 t858.length co20,.int .i64 t861] rfl ymd ?_;(with_reducible refine (impl_RuleHolds.calls k2 t853 _ _ x7_2 t857 _ _ t858 t861 false _ ?_ ?_ ?_ ?_ A44.out).mono ?_);exact Kd.Cz (Kd.Yr HO_7.out).2.2;exact (Kd.Yr HO_7.out).2.1;exact Kd.Cz (Kd.Yr HO_4.out).2.2;exact (Kd.Yr HO_4.out).2.1;rintro e w81 ⟨rfl,hb⟩;refine ⟨_,rfl,?_⟩;replace HO_4:=yam (Kd.R_below (Kd.Yz HO_4.out) hb);replace HO_7:=yam (Kd.R_below (Kd.Yz HO_7.out) hb);replace HO_863001:=yam (Kd.R_below (Kd.Yz HO_863001.out) hb);replace BK862:=yam (ybb BK862.out hb);replace HB:=yam (below_step yhb hb);(try clear hb);obtain ⟨hcz82_0,hcz82_1,hcz82_2,hfz82_0,hfz82_1,hfz82_2⟩:=ybc BK862.out)|((with_reducible refine gate_callee (f:=44) rfl ?_);refine goesL_ (some 74) rfl rfl Try.func44 (by kernel_rfl) rfl #[.agg #[.int .i64 t853,.slice Ao19 t854.length co19,.int .i64 t857],.slice Ao20 t858.length co20,.int .i64 t861] rfl ymd ?_;(with_reducible refine (impl_RulePossible.calls k2 t853 _ _ t854 t857 _ _ t858 t861 true _ ?_ ?_ ?_ ?_ A45.out).mono ?_);exact Kd.Cz (Kd.Yr HO_863001.out).2.2;exact (Kd.Yr HO_863001.out).2.1;exact Kd.Cz (Kd.Yr HO_4.out).2.2;exact (Kd.Yr HO_4.out).2.1;rintro e w83 ⟨rfl,hb⟩;refine ⟨_,rfl,?_⟩;replace HO_4:=yam (Kd.R_below (Kd.Yz HO_4.out) hb);replace HO_7:=yam (Kd.R_below (Kd.Yz HO_7.out) hb);replace HO_863001:=yam (Kd.R_below (Kd.Yz HO_863001.out) hb);replace BK862:=yam (ybb BK862.out hb);replace HB:=yam (below_step yhb hb);(try clear hb))|(go_at_call 50;(with_reducible refine (impl_GridFilled.calls k2 _ _ t858 t861 t877 _ ?_ ?_ A48.out).mono ?_);exact Kd.Cz (Kd.Yr HO_4.out).2.2;exact (Kd.Yr HO_4.out).2.1;rintro e w' ⟨rfl,⟨nd,rfl⟩⟩;obtain ⟨hcz84_0,hcz84_1,hcz84_2,hfz84_0,hfz84_1,hfz84_2⟩:=ybc BK862.out))
   go_ret
   exact ⟨yer,yhb⟩
def laws_FnRuleHolds.Pure:Prop:=∀ (l0:List Int),l0.length≤maxLen→l0.length * 1≤140737488351232→(∀ x∈l0,(Lit.int .u8 x).wf=true)→∃ k,laws_FnRuleHolds.f k l0=some true
theorem laws_FnRuleHolds.walk (P:laws_FnRuleHolds.Pure)(a0:Option Addr)(len0 cap0:Nat)(z0:List Int)(w:World)(w0:(a0=none∧len0=0∧cap0=0∧z0=[])∨∃ x,a0=some x∧len0≤cap0∧cap0≤maxLen∧z0.length=cap0∧(∀ i,i < z0.length→w.cell? (x.add i)=some (.int .u8 (z0.getD i 0)))∧∀ n∈z0,(Lit.int .u8 n).wf=true)(y0:len0 * 1≤140737488351232) :
  Calls Try.prog 10 #[.slice a0 len0 cap0] w fun e w'=>e= .returned (.bool true)∧Below w.heap.size w w':=by
 obtain ⟨l0,rfl,hr0,hm0,hw0,hc0⟩:=ReadsInt.ofRowC w0
 obtain ⟨k,h⟩:=P l0 hm0 y0 hw0
 refine (laws_FnRuleHolds.calls k _ _ l0 true w (Kd.C_of_reads (d:=(0:Int)) (h1:=fun _=>rfl) hr0) hc0 h).mono ?_
 rintro e w' ⟨rfl,hd⟩
 exact ⟨rfl,hd⟩
end Go.Proofs.Ythfbjkniinfgcaa.P
