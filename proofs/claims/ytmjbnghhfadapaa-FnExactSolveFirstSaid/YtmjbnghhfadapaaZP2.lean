/- The machine's side: each Go function as a plain Lean function and the proof that the machine's call does what that function says; written by this session's own program over the kit's print. -/
import Derived.Test.YtmjbnghhfadapaaZP1
namespace Go.Proofs.Ytmjbnghhfadapaa.P
open Go.RowKit Go.Proofs.YtmjbnghhfadapaaW.PrintWords Go.Proofs.YtmjbnghhfadapaaW.PrintLast Go.Proofs.YtmjbnghhfadapaaW.PrintMore
attribute [local go_sem] max2_int min2_int max_two min_two max_three min_three max_four min_four   -- for this text's walks alone
set_option linter.unusedVariables false
set_option linter.unusedSimpArgs false
/-! ### laws_toRuleS: function 23 -/
def laws_toRuleS.l0 : Nat → List (S70) → List (S73) → Int → Option ((List (S73)))
 | 0, _, _, _ => none
 | k + 1, x0, x3, x4 => if x4 < (x0.length : Int) then (if 0 ≤ x4 then ((laws_toRule.f k ((rd_T70 x0 x4).f0) ((rd_T70 x0 x4).f1) ((rd_T70 x0 x4).f2)).bind fun bt463 => (if x4 < (x3.length : Int) then (laws_toRuleS.l0 k x0 (x3.set (x4 : Int).toNat (⟨bt463.1, bt463.2.1, bt463.2.2⟩ : S73)) (wrap64 (x4 + 1))) else (none))) else (none)) else (some x3)
def laws_toRuleS.f (k : Nat) (l0 : List (S70)) : Option ((List (S73))) := if 0 ≤ (l0.length : Int) then (if ((l0.length : Int) : Int).toNat ≤ 7036874417766 then (laws_toRuleS.l0 k l0 (List.replicate ((l0.length : Int) : Int).toNat z73) 0) else (none)) else (none)
set_option maxHeartbeats 8000000 in
set_option maxRecDepth 100000 in
theorem laws_toRuleS.calls (k : Nat) (A0 : Option Addr) (c0 : Nat) (l0 : List (S70)) (r : List (S73)) (w : World) (hr0 : Kd.C k70 w A0 l0.length l0) (hc0 : l0.length ≤ c0) (h : laws_toRuleS.f k l0 = some r) :
  Calls Try.prog 23 #[.slice A0 l0.length c0] w fun e w' => ∃ v0_ : Value, e = .returned (v0_) ∧ Kd.S k73 73 w' w.heap.size (fun _ => True) v0_ r ∧ Below w.heap.size w w' := by
 have hu70 := Try.underlying70
 have hu73 := Try.underlying73
 have HR0 := yam hr0
 have HC0 := yam hc0
 clear hr0 hc0
 have HB := yam (Below.refl w.heap.size w)
 have H : (if 0 ≤ (l0.length : Int) then (if ((l0.length : Int) : Int).toNat ≤ 7036874417766 then (laws_toRuleS.l0 k l0 (List.replicate ((l0.length : Int) : Int).toNat z73) 0) else (none)) else (none)) = some r := h
 clear h
 by_cases c2 : 0 ≤ (l0.length : Int)
 rotate_left
 ·rw [if_neg c2] at H
  exact absurd H (by simp)

 rw [if_pos c2] at H
 have c2b0 := eq_true c2
 have c2b1 : decide (0 ≤ (l0.length : Int)) = true := decide_eq_true c2
 clear c2
 by_cases c3 : ((l0.length : Int) : Int).toNat ≤ 7036874417766
 rotate_left
 ·rw [if_neg c3] at H
  exact absurd H (by simp)
 rw [if_pos c3] at H
 have c3b0 := eq_true c3
 have c3b1 : decide (((l0.length : Int) : Int).toNat ≤ 7036874417766) = true := decide_eq_true c3
 clear c3
 obtain ⟨y459, hy459⟩ : ∃ y_ : List (S73), y_ = (List.replicate ((l0.length : Int) : Int).toNat z73) := ⟨_, rfl⟩
 replace H : (laws_toRuleS.l0 k l0 y459 0) = some r := by first | (rw [hy459]; with_reducible exact H) | (have H2_ := (Option.bind_some _ _).symm.trans H; rw [hy459]; with_reducible exact H2_) | (have H2_ := (Option.bind_some _ _).symm.trans H; with_reducible exact H2_) | with_reducible exact H | (rw [hy459]; exact H) | exact H
 have Ny459 := yam hy459
 clear hy459
 have H' := yam H
 clear H
 go_enter Try.func23, Try.ntmps23
 go_wp2_with (first | ((with_reducible refine gate_dst (N := 7) rfl ?_); refine Kd.S_make k73 _ 73 rfl (N := 7) rfl 35 _ _ rfl (l0.length : Int) rfl rfl Try.underlying35 (.agg #[(.int .i64 0), (.slice none 0 0), (.int .i64 0)]) 40 info73 rfl (by decide) (by omega) z73 (ok := fun _ => True) (okp := fun _ => True) (k73_mkM _ _ _ z73 (Kd.R_nil _ _ _ _ _)) (fun _ hk => hk) trivial (of_decide_eq_true (by first | (with_reducible assumption) | assumption)) (Nat.le_trans (Nat.mul_le_mul_right _ (of_decide_eq_true (by first | (with_reducible assumption) | assumption) : (l0.length : Int).toNat ≤ 7036874417766)) (by omega)) (Below.refl _ _) (Nat.le_refl _) ?_; intro v460 w4 ho5 hb hg_ hnew_; clear hg_ hnew_; (first | rw [← Ny459.out] at ho5 | (simp only [Int.reduceToNat] at ho5; rw [← Ny459.out] at ho5)); have n0_ := yam (Kd.S_lower ho5 (below_size (yez HB.out))); have n1_ := yam (below_step (yez HB.out) hb); clear HB; have HO461 := n0_; have HB := n1_; clear n0_ n1_; clear hb ho5))
 go_loopg [4] k (fun kq v4 w' => ∃ (x3_1 : List (S73)) (x4_1 : Int), v4 = .int .i64 x4_1 ∧ Aside0 (laws_toRuleS.l0 kq l0 x3_1 x4_1 = some r) ∧ Aside0 (kq ≤ k) ∧ Aside0 (Kd.S k73 73 w' w.heap.size (fun _ => True) v460 x3_1) ∧ Aside0 (Below w.heap.size w w'))
 case atStart => exact ⟨(y459), (0), (by first | rfl | (simp; done) | (simp [*]; done)), H', ⟨Nat.le_refl _⟩, ⟨by (with_reducible repeat (first | apply Kd.S_alloc | apply Kd.S_drewN | apply Kd.S_drew)); exact HO461.out⟩, ⟨by repeat (first | (with_reducible first | exact HB.out | apply yea | apply yen | apply yed) | exact HB.out)⟩⟩
 case round =>
  clear H'
  try clear c2
  try clear c2b0
  try clear c2b1
  try clear p2
  try clear c3
  try clear c3b0
  try clear c3b1
  obtain ⟨x3_1, x4_1, rfl, HA, HK1, HO_3, HB⟩ := hrel
  cases gk with
  | zero => exact absurd HA.out (by simp [laws_toRuleS.l0])
  | succ k1 =>
   have H := HA.out
   clear HA
   simp only [laws_toRuleS.l0] at H
   by_cases c6 : x4_1 < (l0.length : Int)
   rotate_left
   ·rw [if_neg c6] at H
    have c6b0 : decide (x4_1 < (l0.length : Int)) = false := decide_eq_false c6
    clear c6
    obtain rfl := Option.some.inj H
    go_wp2
    go_ret
    exact ⟨_, by first | rfl | (simp [errW_none, errW_some] <;> rfl) | (simp [*, errW_none, errW_some] <;> rfl), by (with_reducible repeat (first | apply Kd.S_alloc | apply Kd.S_drewN | apply Kd.S_drew)); exact HO_3.out, by repeat (first | (with_reducible first | exact HB.out | apply yea | apply yen | apply yed) | exact HB.out)⟩
   rw [if_pos c6] at H
   have c6b0 : decide (x4_1 < (l0.length : Int)) = true := decide_eq_true c6
   clear c6
   by_cases c7 : 0 ≤ x4_1
   rotate_left
   ·rw [if_neg c7] at H
    exact absurd H (by simp)
   rw [if_pos c7] at H
   have c7b0 : decide (0 ≤ x4_1) = true := decide_eq_true c7
   clear c7
   replace H := Option.bind_eq_some_iff.mp H
   obtain ⟨⟨t463, t464, t467⟩, A80, H⟩ := H
   try dsimp only at H
   have A8 := yam A80
   clear A80
   by_cases c9 : x4_1 < (x3_1.length : Int)
   rotate_left
   ·rw [if_neg c9] at H
    exact absurd H (by simp)
   rw [if_pos c9] at H
   have c9b0 : decide (x4_1 < (x3_1.length : Int)) = true := decide_eq_true c9
   clear c9
   obtain ⟨y468, hy468⟩ : ∃ y_ : List (S73), y_ = (x3_1.set (x4_1 : Int).toNat (⟨t463, t464, t467⟩ : S73)) := ⟨_, rfl⟩
   replace H : (laws_toRuleS.l0 k1 l0 y468 (wrap64 (x4_1 + 1))) = some r := by first | (rw [hy468]; with_reducible exact H) | (have H2_ := (Option.bind_some _ _).symm.trans H; rw [hy468]; with_reducible exact H2_) | (have H2_ := (Option.bind_some _ _).symm.trans H; with_reducible exact H2_) | with_reducible exact H | (rw [hy468]; exact H) | exact H
   have Ny468 := yam hy468
   clear hy468
   have H' := yam H
   clear H
   have p462 : 0 ≤ (x4_1 : Int) := of_decide_eq_true (by first | (with_reducible assumption) | assumption)
   have q462 : x4_1 < (l0.length : Int) := of_decide_eq_true (by first | (with_reducible assumption) | assumption)
   obtain ⟨ad462, A462_1, c462_1, e462, hx462_0, hx462_1, hx462_2, hl462_1, hi462_1⟩ := at_T70 HR0.out x4_1 p462 q462
   cases e462
   replace hx462_0 := (HB.out.cell (World.block_lt_of_cell? w _ hx462_0)).trans hx462_0
   replace hx462_1 := (HB.out.cell (World.block_lt_of_cell? w _ hx462_1)).trans hx462_1
   replace hx462_2 := (HB.out.cell (World.block_lt_of_cell? w _ hx462_2)).trans hx462_2
   have HR462_1 := yam hi462_1
   have HC462_1 := yam hl462_1
   clear hi462_1 hl462_1
   replace p462 := eq_true p462
   replace q462 := eq_true q462
   go_wp2_with (first | ((with_reducible refine gate_callee (f := 56) rfl ?_); refine goesL_ (some 20) rfl rfl Try.func56 (by kernel_rfl) rfl #[.agg #[.int .i64 ((rd_T70 l0 x4_1).f0), .slice A462_1 ((rd_T70 l0 x4_1).f1).length c462_1, .int .i64 ((rd_T70 l0 x4_1).f2)]] rfl (by (try simp only [List.map_toArray, List.map_cons, List.map_nil]); first | done | rfl | (simp only [List.length_drop, List.length_take]; rfl)) ?_; (with_reducible refine (laws_toRule.calls k1 ((rd_T70 l0 x4_1).f0) _ _ ((rd_T70 l0 x4_1).f1) ((rd_T70 l0 x4_1).f2) t463 t464 t467 _ ?side1 ?side2 A8.out).mono ?_); (case side1 => exact Kd.Cz ((Kd.C_below HR462_1.out HB.out))); (case side2 => exact HC462_1.out); rintro e w11 ⟨v465, rfl, ho0, hb⟩; obtain ⟨Aq_v465, cq_v465, eq_v465⟩ := Kd.R_slice ho0; subst eq_v465; refine ⟨_, rfl, ?_⟩; have n0_ := yam (Kd.S_elder' (by (with_reducible repeat (first | apply Kd.S_alloc | apply Kd.S_drewN | apply Kd.S_drew)); exact HO_3.out) (Kd.Yb ho0) hb); have n1_ := yam (Kd.R_lower ho0 (below_size (yez HB.out))); have n2_ := yam (below_step (yez HB.out) hb); clear HO_3; clear HB; have HO_3 := n0_; have HO466 := n1_; have HB := n2_; clear n0_ n1_ n2_; (try clear hb); (try clear hb2); (try clear hk); (try clear hi); (try clear ho0); have p10 : 0 ≤ (x4_1 : Int) := of_decide_eq_true (by first | (with_reducible assumption) | assumption); have q10 : (x4_1 : Int) < ((x3_1.length : Int) : Int) := of_decide_eq_true (by first | (with_reducible assumption) | assumption); obtain ⟨go10, co10, eo10, gb10, gl10, cl10, HG10⟩ := Kd.S_form HO_3.out (by omega); (first | cases eo10 | (injection eo10 with ea_ en_ ec_; (first | subst ea_ | (injection ea_ with ea_; subst ea_)); subst ec_; clear en_)); have GB10 := yam gb10; have GG10 := yam HG10; clear gb10 gl10 HG10; obtain ⟨_, ce10, hcl10, hM10, hcc10, hfr10, _, _⟩ := Kd.S_elem HO_3.out z73 (x4_1 : Int) p10 q10; obtain ⟨ve10_1, rfl, ge10_1⟩ := k73_openM hM10; have hx10_0 : w11.cell? ⟨go10, (x4_1 : Int).toNat * 3, none⟩ = some (.int .i64 ((rd_T73 x3_1 x4_1).f0)) := hcc10 0 _ rfl; have hx10_1 : w11.cell? ⟨go10, (x4_1 : Int).toNat * 3 + 1, none⟩ = some (ve10_1) := hcc10 1 _ rfl; have hx10_2 : w11.cell? ⟨go10, (x4_1 : Int).toNat * 3 + 2, none⟩ = some (.int .i64 ((rd_T73 x3_1 x4_1).f2)) := hcc10 2 _ rfl; have hf10_0 : w11.frozen? ⟨go10, (x4_1 : Int).toNat * 3, none⟩ = false := hfr10 0; have hf10_1 : w11.frozen? ⟨go10, (x4_1 : Int).toNat * 3 + 1, none⟩ = false := hfr10 1; have hf10_2 : w11.frozen? ⟨go10, (x4_1 : Int).toNat * 3 + 2, none⟩ = false := hfr10 2; clear hcl10 hcc10 hfr10 hM10; replace p10 := eq_true p10; replace q10 := eq_true q10; have n_ := yam (Kd.S_mono (ok' := (fun k_ => some k_ ≠ ((.slice Aq_v465 (t464).length cq_v465) : Value).ownBlock)) HO_3.out (fun k_ hk => hk.2)); clear HO_3; have HO_3 := n_; clear n_; have HX12 := yam (show Kd.S k73 73 w11 w.heap.size (fun k_ => ((fun _ => True)) k_ ∧ ¬ ((fun k_ => some k_ = ((.slice Aq_v465 (t464).length cq_v465) : Value).ownBlock)) k_) (.slice (some ⟨go10, 0, none⟩) x3_1.length co10) x3_1 from (by (with_reducible repeat (first | apply Kd.S_alloc | apply Kd.S_drewN | apply Kd.S_drew)); exact Kd.S_mono HO_3.out (fun k_ hk => ⟨trivial, fun e_ => hk e_⟩))); obtain ⟨oki12, ce12, hcl12, hM12, hcc12, hfr12, hoki12, hH12⟩ := Kd.S_elem HX12.out z73 (x4_1 : Int) (of_decide_eq_true (by first | (with_reducible assumption) | assumption)) (by have h_ : (x4_1 : Int) < ((x3_1.length : Int) : Int) := of_decide_eq_true (by first | (with_reducible assumption) | assumption); first | exact h_ | (have e_ := (Kd.S_reads' HO_3.out).1; omega) | simpa using h_); obtain ⟨ve12_1, rfl, ge12_1⟩ := k73_openM hM12; have HP12 := Kd.S_seg hH12 (of_decide_eq_true (by first | (with_reducible assumption) | assumption)) (by have h_ : (x4_1 : Int) < ((x3_1.length : Int) : Int) := of_decide_eq_true (by first | (with_reducible assumption) | assumption); first | exact h_ | (have e_ := (Kd.S_reads' HO_3.out).1; omega) | simpa using h_) (seg := [.int .i64 t463, (.slice Aq_v465 (t464).length cq_v465), .int .i64 t467]) (j := 0) (show 3 ≤ 3 from by decide) (x' := (⟨t463, t464, t467⟩ : S73)) (k73_mkM _ _ _ (⟨t463, t464, t467⟩ : S73) (Kd.R_mono (Kd.R_tight rfl (Kd.R_mono (ok' := fun k_ => ((fun _ => True)) k_ ∧ k_ ≠ go10) (Kd.R_apart' (HO466.out) (Kd.S_typed HO_3.out) (by decide)) (fun k_ hk => ⟨trivial, fun e_ => (hk.2) (by rw [e_]; rfl)⟩))) (fun _ h_ => Or.inr (h_)))) (fun _ hk => hk) (fun k_ hk_ => ((Kd.R_mono (ok' := fun k_ => ((fun _ => True)) k_ ∧ k_ ≠ go10) (Kd.R_apart' (HO466.out) (Kd.S_typed HO_3.out) (by decide)) (fun k_ hk => ⟨trivial, fun e_ => (hk.2) (by rw [e_]; rfl)⟩))).1 k_ hk_.symm); have hx12_0 := hcc12 0 _ rfl; (try simp only [show (k73).sz = 3 from rfl, Nat.mul_one, Nat.add_zero] at hx12_0); have hf12_0 := hfr12 0; (try simp only [show (k73).sz = 3 from rfl, Nat.mul_one, Nat.add_zero] at hf12_0); have hx12_1 := hcc12 1 _ rfl; (try simp only [show (k73).sz = 3 from rfl, Nat.mul_one, Nat.add_zero] at hx12_1); have hf12_1 := hfr12 1; (try simp only [show (k73).sz = 3 from rfl, Nat.mul_one, Nat.add_zero] at hf12_1); have hx12_2 := hcc12 2 _ rfl; (try simp only [show (k73).sz = 3 from rfl, Nat.mul_one, Nat.add_zero] at hx12_2); have hf12_2 := hfr12 2; (try simp only [show (k73).sz = 3 from rfl, Nat.mul_one, Nat.add_zero] at hf12_2); clear hcl12 hcc12 hfr12 hM12 hoki12 hH12) | ((with_reducible refine gate_store (t := 73) (p := 21) rfl ?_); refine store_event (t := 73) (p := 21) (v := ?vo_w13) (w1 := (((w11.setCell ⟨go10, (x4_1 : Int).toNat * 3, none⟩ (.int .i64 t463)).setCell ⟨go10, (x4_1 : Int).toNat * 3 + 1, none⟩ ((.slice Aq_v465 (t464).length cq_v465))).setCell ⟨go10, (x4_1 : Int).toNat * 3 + 2, none⟩ (.int .i64 t467))) ?hg ?ho ?hn ?hr ?_; (case ho => rfl); (case hg => rfl); (case hn => rfl); (case hr => first | (go_simp; done) | (go_simp; rfl)); intro w13 hw; have hg : w11.grownBy w13 (some go10) := (by rw [hw]; exact HP12.2); have hp_ : Kd.S k73 73 w13 w.heap.size (fun _ => True) (.slice (some ⟨go10, 0, none⟩) x3_1.length co10) y468 := (by rw [hw, Ny468.out]; exact HP12.1); clear HP12; have n0_ := yam (hp_); have n1_ := yam ((by rw [hw]; exact below_set (below_set (below_set (HB.out) GB10.out) GB10.out) GB10.out : Below w.heap.size w w13)); clear HO_3; clear HB; clear HO466; have HO_3 := n0_; have HB := n1_; clear n0_ n1_; clear hg hw hp_))
   go_roundg k1
   case measure => have := HK1.out; omega
   case rel => exact ⟨(y468), (wrap64 (x4_1 + 1)), (by first | rfl | (simp; done) | (simp [*]; done)), H', ⟨by have := HK1.out; omega⟩, ⟨by (with_reducible repeat (first | apply Kd.S_alloc | apply Kd.S_drewN | apply Kd.S_drew)); exact HO_3.out⟩, ⟨by repeat (first | (with_reducible first | exact HB.out | apply yea | apply yen | apply yed) | exact HB.out)⟩⟩
/-! ### laws_toPuzzle: function 32 -/
def laws_toPuzzle.f (k : Nat) (a0_0 : Int) (l0_1 : List Int) (l0_2 : List (S70)) : Option (Int × List Int × (List (S73))) := (laws_toIntS.f k l0_1).bind fun t600 => ((laws_toRuleS.f k l0_2).bind fun t603 => (some (a0_0, t600, t603)))
set_option maxHeartbeats 8000000 in
set_option maxRecDepth 100000 in
theorem laws_toPuzzle.calls (k : Nat) (a0_0 : Int) (A0_1 : Option Addr) (c0_1 : Nat) (l0_1 : List Int) (A0_2 : Option Addr) (c0_2 : Nat) (l0_2 : List (S70)) (r1 : Int) (r2 : List Int) (r3 : List (S73)) (w : World) (hr0_1 : Kd.C (Kd.int .i64) w A0_1 l0_1.length l0_1) (hc0_1 : l0_1.length ≤ c0_1) (hr0_2 : Kd.C k70 w A0_2 l0_2.length l0_2) (hc0_2 : l0_2.length ≤ c0_2) (h : laws_toPuzzle.f k a0_0 l0_1 l0_2 = some (r1, r2, r3)) :
  Calls Try.prog 32 #[.agg #[.int .i64 a0_0, .slice A0_1 l0_1.length c0_1, .slice A0_2 l0_2.length c0_2]] w fun e w' => ∃ v1_ v2_ : Value, e = .returned (.agg #[.int .i64 r1, v1_, v2_]) ∧ Kd.R (Kd.int .i64) 3 w' w.heap.size (fun _ => True) v1_ r2 ∧ Kd.S k73 73 w' w.heap.size (fun k_ => some k_ ≠ (v1_ : Value).ownBlock) v2_ r3 ∧ Below w.heap.size w w' := by
 have hu48 := Try.underlying48
 have hu37 := Try.underlying37
 have HR0_1 := yam hr0_1
 have HC0_1 := yam hc0_1
 clear hr0_1 hc0_1
 have HR0_2 := yam hr0_2
 have HC0_2 := yam hc0_2
 clear hr0_2 hc0_2
 have HB := yam (Below.refl w.heap.size w)
 have H : ((laws_toIntS.f k l0_1).bind fun t600 => ((laws_toRuleS.f k l0_2).bind fun t603 => (some (a0_0, t600, t603)))) = some (r1, r2, r3) := h
 clear h
 replace H := Option.bind_eq_some_iff.mp H
 obtain ⟨t600, A20, H⟩ := H
 replace H : ((laws_toRuleS.f k l0_2).bind fun t603 => (some (a0_0, t600, t603))) = some (r1, r2, r3) := H
 have A2 := yam A20
 clear A20
 replace H := Option.bind_eq_some_iff.mp H
 obtain ⟨t603, A30, H⟩ := H
 replace H : (some (a0_0, t600, t603)) = some (r1, r2, r3) := H
 have A3 := yam A30
 clear A30
 simp only [Option.some.injEq, Prod.mk.injEq] at H
 obtain ⟨rfl, rfl, rfl⟩ := H
 go_enter Try.func32, Try.ntmps32
 go_wp2_with (first | ((with_reducible refine gate_dst (N := 1) rfl ?_); refine box_event ?hg (N := 1) ?hd (cs := #[.int .i64 a0_0, .slice A0_1 l0_1.length c0_1, .slice A0_2 l0_2.length c0_2]) (t := 48) ?hr ?_; (case hd => rfl); (case hg => rfl); (case hr => first | (go_simp; done) | (go_simp; rfl)); intro gb597 hg w4 hbox hb; have n0_ := yam (below_step (yez HB.out) hb); have n1_ := yam (hbox); have n2_ := yam ((by rw [hg]; exact (below_size (yez HB.out)) : w.heap.size ≤ gb597)); have n3_ := n2_; clear HB; have HB := n0_; have BK597 := n1_; have GW597 := n2_; have GE597 := n3_; clear n0_ n1_ n2_ n3_; clear hb hbox hg) | ((with_reducible refine gate_dst (N := 2) rfl ?_); refine box_event ?hg (N := 2) ?hd (cs := #[.int .i64 0, .slice none 0 0, .slice none 0 0]) (t := 37) ?hr ?_; (case hd => rfl); (case hg => rfl); (case hr => first | (go_simp; done) | (go_simp; rfl)); intro gb598 hg w5 hbox hb; have n0_ := yam (blk_below (g := gb597) (o := .cells #[.int .i64 a0_0, .slice A0_1 l0_1.length c0_1, .slice A0_2 l0_2.length c0_2] 48 (0, 0)) (ybz BK597.out) hb); have n1_ := yam (below_step (by repeat (first | (with_reducible first | exact HB.out | apply yea | apply yen | apply yed | refine below_set ?_ GE597.out) | exact HB.out)) hb); have n2_ := yam (hbox); have n3_ := yam ((by rw [hg]; exact (below_size (by repeat (first | (with_reducible first | exact HB.out | apply yea | apply yen | apply yed | refine below_set ?_ GE597.out) | exact HB.out))) : w.heap.size ≤ gb598)); have n4_ := n3_; have n5_ := yam ((by rw [hg]; exact Nat.ne_of_lt (blk_lt (g := gb597) (o := .cells #[.int .i64 a0_0, .slice A0_1 l0_1.length c0_1, .slice A0_2 l0_2.length c0_2] 48 (0, 0)) (ybz BK597.out)) : gb597 ≠ gb598)); have n6_ := yam ((by rw [hg]; exact Nat.ne_of_gt (blk_lt (g := gb597) (o := .cells #[.int .i64 a0_0, .slice A0_1 l0_1.length c0_1, .slice A0_2 l0_2.length c0_2] 48 (0, 0)) (ybz BK597.out)) : gb598 ≠ gb597)); clear BK597; clear HB; have BK597 := n0_; have HB := n1_; have BK598 := n2_; have GW598 := n3_; have GE598 := n4_; have NB597_598 := n5_; have NB598_597 := n6_; clear n0_ n1_ n2_ n3_ n4_ n5_ n6_; clear hb hbox hg) | ((with_reducible refine gate_dst (N := 3) rfl ?_); refine box_event ?hg (N := 3) ?hd (cs := #[.int .i64 0, .slice none 0 0, .slice none 0 0]) (t := 37) ?hr ?_; (case hd => rfl); (case hg => rfl); (case hr => first | (go_simp; done) | (go_simp; rfl)); intro gb599 hg w6 hbox hb; have n0_ := yam (blk_below (g := gb597) (o := .cells #[.int .i64 a0_0, .slice A0_1 l0_1.length c0_1, .slice A0_2 l0_2.length c0_2] 48 (0, 0)) (ybz BK597.out) hb); have n1_ := yam (blk_below (g := gb598) (o := .cells #[.int .i64 0, .slice none 0 0, .slice none 0 0] 37 (0, 0)) (ybz BK598.out) hb); have n2_ := yam (below_step (by repeat (first | (with_reducible first | exact HB.out | apply yea | apply yen | apply yed | refine below_set ?_ GE597.out | refine below_set ?_ GE598.out) | exact HB.out)) hb); have n3_ := yam (hbox); have n4_ := yam ((by rw [hg]; exact (below_size (by repeat (first | (with_reducible first | exact HB.out | apply yea | apply yen | apply yed | refine below_set ?_ GE597.out | refine below_set ?_ GE598.out) | exact HB.out))) : w.heap.size ≤ gb599)); have n5_ := n4_; have n6_ := yam ((by rw [hg]; exact Nat.ne_of_lt (blk_lt (g := gb597) (o := .cells #[.int .i64 a0_0, .slice A0_1 l0_1.length c0_1, .slice A0_2 l0_2.length c0_2] 48 (0, 0)) (ybz BK597.out)) : gb597 ≠ gb599)); have n7_ := yam ((by rw [hg]; exact Nat.ne_of_gt (blk_lt (g := gb597) (o := .cells #[.int .i64 a0_0, .slice A0_1 l0_1.length c0_1, .slice A0_2 l0_2.length c0_2] 48 (0, 0)) (ybz BK597.out)) : gb599 ≠ gb597)); have n8_ := yam ((by rw [hg]; exact Nat.ne_of_lt (blk_lt (g := gb598) (o := .cells #[.int .i64 0, .slice none 0 0, .slice none 0 0] 37 (0, 0)) (ybz BK598.out)) : gb598 ≠ gb599)); have n9_ := yam ((by rw [hg]; exact Nat.ne_of_gt (blk_lt (g := gb598) (o := .cells #[.int .i64 0, .slice none 0 0, .slice none 0 0] 37 (0, 0)) (ybz BK598.out)) : gb599 ≠ gb598)); clear BK597; clear BK598; clear HB; have BK597 := n0_; have BK598 := n1_; have HB := n2_; have BK599 := n3_; have GW599 := n4_; have GE599 := n5_; have NB597_599 := n6_; have NB599_597 := n7_; have NB598_599 := n8_; have NB599_598 := n9_; clear n0_ n1_ n2_ n3_ n4_ n5_ n6_ n7_ n8_ n9_; clear hb hbox hg; have hnb7 := NB597_598.out; have hnc7 := NB598_597.out; have hnb8 := NB597_599.out; have hnc8 := NB599_597.out; obtain ⟨hcz9_0, hcz9_1, hcz9_2, hfz9_0, hfz9_1, hfz9_2⟩ := ybc BK597.out; have hnb10 := NB599_598.out; have hnc10 := NB598_599.out; obtain ⟨hcz11_0, hcz11_1, hcz11_2, hfz11_0, hfz11_1, hfz11_2⟩ := ybc BK599.out) | ((with_reducible refine gate_callee (f := 22) rfl ?_); refine goesL_ (some 9) rfl rfl Try.func22 (by kernel_rfl) rfl #[.slice A0_1 l0_1.length c0_1] rfl (by (try simp only [List.map_toArray, List.map_cons, List.map_nil]); first | done | rfl | (simp only [List.length_drop, List.length_take]; rfl)) ?_; (with_reducible refine (laws_toIntS.calls k _ _ l0_1 t600 _ ?side1 ?side2 A2.out).mono ?_); (case side1 => exact Kd.C_below HR0_1.out (by repeat (first | (with_reducible first | exact HB.out | apply yea | apply yen | apply yed | refine below_set ?_ GE597.out | refine below_set ?_ GE598.out | refine below_set ?_ GE599.out) | exact HB.out))); (case side2 => exact HC0_1.out); rintro e w12 ⟨v601, rfl, ho0, hb⟩; refine ⟨_, rfl, ?_⟩; have n0_ := yam (Kd.R_lower ho0 (below_size (by repeat (first | (with_reducible first | exact HB.out | apply yea | apply yen | apply yed | refine below_set ?_ GE597.out | refine below_set ?_ GE598.out | refine below_set ?_ GE599.out) | exact HB.out)))); have n1_ := yam (blk_below (g := gb597) (o := .cells #[.int .i64 a0_0, .slice A0_1 l0_1.length c0_1, .slice A0_2 l0_2.length c0_2] 48 (0, 0)) (by (with_reducible repeat (first | refine ybn ?_ _ | refine ybd ?_ | refine yba ?_ _)); refine blk_far ?_ NB597_599.out _; (with_reducible repeat (first | refine ybn ?_ _ | refine ybd ?_ | refine yba ?_ _)); exact BK597.out) hb); have n2_ := yam (blk_below (g := gb598) (o := .cells #[.int .i64 0, .slice none 0 0, .slice none 0 0] 37 (0, 0)) (by (with_reducible repeat (first | refine ybn ?_ _ | refine ybd ?_ | refine yba ?_ _)); refine blk_far ?_ NB598_599.out _; (with_reducible repeat (first | refine ybn ?_ _ | refine ybd ?_ | refine yba ?_ _)); exact BK598.out) hb); have n3_ := yam (blk_below (g := gb599) (o := .cells #[.int .i64 a0_0, .slice none 0 0, .slice none 0 0] 37 (0, 0)) (by (with_reducible repeat (first | refine ybn ?_ _ | refine ybd ?_ | refine yba ?_ _)); refine blk_put (cs := #[.int .i64 0, .slice none 0 0, .slice none 0 0]) ?_ 0 _ rfl; (with_reducible repeat (first | refine ybn ?_ _ | refine ybd ?_ | refine yba ?_ _)); exact BK599.out) hb); have n4_ := yam (below_step (by repeat (first | (with_reducible first | exact HB.out | apply yea | apply yen | apply yed | refine below_set ?_ GE597.out | refine below_set ?_ GE598.out | refine below_set ?_ GE599.out) | exact HB.out)) hb); clear BK597; clear BK598; clear BK599; clear HB; have HO602 := n0_; have BK597 := n1_; have BK598 := n2_; have BK599 := n3_; have HB := n4_; clear n0_ n1_ n2_ n3_ n4_; (try clear hb); (try clear hb2); (try clear hk); (try clear hi); (try clear ho0); obtain ⟨Ao13, co13, eo13⟩ := Kd.R_slice HO602.out; subst eo13; obtain ⟨hcz14_0, hcz14_1, hcz14_2, hfz14_0, hfz14_1, hfz14_2⟩ := ybc BK599.out; obtain ⟨hcz15_0, hcz15_1, hcz15_2, hfz15_0, hfz15_1, hfz15_2⟩ := ybc BK597.out) | ((with_reducible refine gate_callee (f := 23) rfl ?_); refine goesL_ (some 13) rfl rfl Try.func23 (by kernel_rfl) rfl #[.slice A0_2 l0_2.length c0_2] rfl (by (try simp only [List.map_toArray, List.map_cons, List.map_nil]); first | done | rfl | (simp only [List.length_drop, List.length_take]; rfl)) ?_; (with_reducible refine (laws_toRuleS.calls k _ _ l0_2 t603 _ ?side1 ?side2 A3.out).mono ?_); (case side1 => exact Kd.C_below HR0_2.out (by repeat (first | (with_reducible first | exact HB.out | apply yea | apply yen | apply yed | refine below_set ?_ GE597.out | refine below_set ?_ GE598.out | refine below_set ?_ GE599.out) | exact HB.out))); (case side2 => exact HC0_2.out); rintro e w16 ⟨v604, rfl, ho0, hb⟩; refine ⟨_, rfl, ?_⟩; have n0_ := yam (Kd.R_below (by (with_reducible repeat (first | apply Kd.Ya | apply Kd.Yn | apply Kd.Yd)); exact (Kd.R_mono (Kd.R_far (p := ⟨gb599, 1, none⟩) (Kd.R_types HO602.out BK599.out (by decide)) (fun _ hk => hk.2) (.slice Ao13 t600.length co13)) (fun _ h_ => h_.1))) hb); have n1_ := yam (Kd.S_lower (Kd.S_new' ho0 (Kd.R_lt (by (with_reducible repeat (first | apply Kd.Ya | apply Kd.Yn | apply Kd.Yd)); exact (Kd.R_mono (Kd.R_far (p := ⟨gb599, 1, none⟩) (Kd.R_types HO602.out BK599.out (by decide)) (fun _ hk => hk.2) (.slice Ao13 t600.length co13)) (fun _ h_ => h_.1))))) (below_size (by repeat (first | (with_reducible first | exact HB.out | apply yea | apply yen | apply yed | refine below_set ?_ GE597.out | refine below_set ?_ GE598.out | refine below_set ?_ GE599.out) | exact HB.out)))); have n2_ := yam (blk_below (g := gb597) (o := .cells #[.int .i64 a0_0, .slice A0_1 l0_1.length c0_1, .slice A0_2 l0_2.length c0_2] 48 (0, 0)) (by (with_reducible repeat (first | refine ybn ?_ _ | refine ybd ?_ | refine yba ?_ _)); refine blk_far ?_ NB597_599.out _; (with_reducible repeat (first | refine ybn ?_ _ | refine ybd ?_ | refine yba ?_ _)); exact BK597.out) hb); have n3_ := yam (blk_below (g := gb598) (o := .cells #[.int .i64 0, .slice none 0 0, .slice none 0 0] 37 (0, 0)) (by (with_reducible repeat (first | refine ybn ?_ _ | refine ybd ?_ | refine yba ?_ _)); refine blk_far ?_ NB598_599.out _; (with_reducible repeat (first | refine ybn ?_ _ | refine ybd ?_ | refine yba ?_ _)); exact BK598.out) hb); have n4_ := yam (blk_below (g := gb599) (o := .cells #[.int .i64 a0_0, .slice Ao13 t600.length co13, .slice none 0 0] 37 (0, 0)) (by (with_reducible repeat (first | refine ybn ?_ _ | refine ybd ?_ | refine yba ?_ _)); refine blk_put (cs := #[.int .i64 a0_0, .slice none 0 0, .slice none 0 0]) ?_ 1 _ rfl; (with_reducible repeat (first | refine ybn ?_ _ | refine ybd ?_ | refine yba ?_ _)); exact BK599.out) hb); have n5_ := yam (below_step (by repeat (first | (with_reducible first | exact HB.out | apply yea | apply yen | apply yed | refine below_set ?_ GE597.out | refine below_set ?_ GE598.out | refine below_set ?_ GE599.out) | exact HB.out)) hb); clear HO602; clear BK597; clear BK598; clear BK599; clear HB; have HO602 := n0_; have HO605 := n1_; have BK597 := n2_; have BK598 := n3_; have BK599 := n4_; have HB := n5_; clear n0_ n1_ n2_ n3_ n4_ n5_; (try clear hb); (try clear hb2); (try clear hk); (try clear hi); (try clear ho0); obtain ⟨Ao17, co17, eo17⟩ := Kd.S_slice HO605.out; subst eo17; obtain ⟨hcz18_0, hcz18_1, hcz18_2, hfz18_0, hfz18_1, hfz18_2⟩ := ybc BK599.out; obtain ⟨hcz19_0, hcz19_1, hcz19_2, hfz19_0, hfz19_1, hfz19_2⟩ := ybc BK598.out))
 refine bodyPost_ret (results_cell_row rfl _ _ gb598 37 #[.int .i64 a0_0, .slice Ao13 t600.length co13, .slice Ao17 t603.length co17] (0, 0) _ rfl (by (with_reducible repeat (first | refine ybn ?_ _ | refine ybd ?_ | refine yba ?_ _)); refine blk_put (cs := #[.int .i64 a0_0, .slice Ao13 t600.length co13, .slice none 0 0]) ?_ 2 _ rfl; (with_reducible repeat (first | refine ybn ?_ _ | refine ybd ?_ | refine yba ?_ _)); refine blk_put (cs := #[.int .i64 a0_0, .slice none 0 0, .slice none 0 0]) ?_ 1 _ rfl; (with_reducible repeat (first | refine ybn ?_ _ | refine ybd ?_ | refine yba ?_ _)); refine blk_put (cs := #[.int .i64 0, .slice none 0 0, .slice none 0 0]) ?_ 0 _ rfl; (with_reducible repeat (first | refine ybn ?_ _ | refine ybd ?_ | refine yba ?_ _)); refine blk_far ?_ NB598_599.out _; (with_reducible repeat (first | refine ybn ?_ _ | refine ybd ?_ | refine yba ?_ _)); exact BK598.out) Try.underlying37 rfl (by kernel_rfl)) rfl ?_
 exact ⟨_, _, by first | rfl | (simp [errW_none, errW_some] <;> rfl) | (simp [*, errW_none, errW_some] <;> rfl), by (with_reducible repeat (first | apply Kd.Ya | apply Kd.Yn | apply Kd.Yd)); exact Kd.R_mono (Kd.R_far (p := ⟨gb598, 2, none⟩) (Kd.R_far (p := ⟨gb598, 1, none⟩) (Kd.R_far (p := ⟨gb598, 0, none⟩) (Kd.R_far (p := ⟨gb599, 2, none⟩) (Kd.R_types (Kd.R_types HO602.out BK599.out (by decide)) BK598.out (by decide)) (fun _ hk => hk.1.2) (.slice Ao17 t603.length co17)) (fun _ hk => hk.2) (.int .i64 a0_0)) (fun _ hk => hk.2) (.slice Ao13 t600.length co13)) (fun _ hk => hk.2) (.slice Ao17 t603.length co17)) (fun _ hk => trivial), by (with_reducible repeat (first | apply Kd.S_alloc | apply Kd.S_drewN | apply Kd.S_drew)); exact Kd.S_mono (Kd.S_far (p := ⟨gb598, 2, none⟩) (Kd.S_far (p := ⟨gb598, 1, none⟩) (Kd.S_far (p := ⟨gb598, 0, none⟩) (Kd.S_far (p := ⟨gb599, 2, none⟩) (Kd.S_types (Kd.S_types HO605.out BK599.out (by decide)) BK598.out (by decide)) (fun _ hk => hk.1.2) (.slice Ao17 t603.length co17)) (fun _ hk => hk.2) (.int .i64 a0_0)) (fun _ hk => hk.2) (.slice Ao13 t600.length co13)) (fun _ hk => hk.2) (.slice Ao17 t603.length co17)) (fun _ hk => hk.1.1.2), by repeat (first | (with_reducible first | exact HB.out | apply yea | apply yen | apply yed | refine below_set ?_ GE597.out | refine below_set ?_ GE598.out | refine below_set ?_ GE599.out) | exact HB.out)⟩
/-! ### spec_l1In: function 42 -/
def spec_l1In.f (a0 : Int) (a1 : Int) (a2 : Int) : Option (Bool) := if a0 ≥ a1 then (some (decide (a0 ≤ a2))) else (some false)
set_option maxHeartbeats 8000000 in
set_option maxRecDepth 100000 in
theorem spec_l1In.calls (a0 : Int) (a1 : Int) (a2 : Int) (r : Bool) (w : World) (h : spec_l1In.f a0 a1 a2 = some r) :
  Calls Try.prog 42 #[.int .i64 a0, .int .i64 a1, .int .i64 a2] w fun e w' => e = .returned (.bool r) ∧ Drawn0 w w' := by
 have H : (if a0 ≥ a1 then (some (decide (a0 ≤ a2))) else (some false)) = some r := h
 clear h
 by_cases c4 : a0 ≥ a1
 ·rw [if_pos c4] at H
  have c4b0 : decide (a1 ≤ a0) = true := decide_eq_true c4
  clear c4
  obtain rfl := Option.some.inj H
  go_enter Try.func42, Try.ntmps42
  go_wp2
  go_ret
  exact ⟨by first | rfl | (simp; done) | (simp [*]; done), by repeat (first | exact Drawn0.refl _ | apply Drawn0.step)⟩
 rw [if_neg c4] at H
 have c4b0 : decide (a1 ≤ a0) = false := decide_eq_false c4
 clear c4
 obtain rfl := Option.some.inj H
 go_enter Try.func42, Try.ntmps42
 go_wp2
 go_ret
 exact ⟨by first | rfl | (simp; done) | (simp [*]; done), by repeat (first | exact Drawn0.refl _ | apply Drawn0.step)⟩
/-! ### spec_GridValid: function 84 -/
def spec_GridValid.l0 : Nat → List Int → Int → Int → Option (Bool)
 | 0, _, _, _ => none
 | k + 1, x0, x1, x5 => if x5 < (x0.length : Int) then (if 0 ≤ x5 then ((spec_l1In.f (rd x0 x5) 0 x1).bind fun t329 => (if t329 = true then (spec_GridValid.l0 k x0 x1 (wrap64 (x5 + 1))) else (some false))) else (none)) else ((spec_l1In.f x1 2 4).bind fun t330 => (if t330 = true then (some ((x0.length : Int) == (wrap64 (x1 * x1)))) else (some false)))
def spec_GridValid.f (k : Nat) (l0 : List Int) (a1 : Int) : Option (Bool) := spec_GridValid.l0 k l0 a1 0
set_option maxHeartbeats 8000000 in
set_option maxRecDepth 100000 in
theorem spec_GridValid.calls (k : Nat) (A0 : Option Addr) (c0 : Nat) (l0 : List Int) (a1 : Int) (r : Bool) (w : World) (hr0 : Kd.C (Kd.int .i64) w A0 l0.length l0) (hc0 : l0.length ≤ c0) (h : spec_GridValid.f k l0 a1 = some r) :
  Calls Try.prog 84 #[.slice A0 l0.length c0, .int .i64 a1] w fun e w' => e = .returned (.bool r) ∧ Drawn0 w w' := by
 have HR0 := yam hr0
 have HC0 := yam hc0
 clear hr0 hc0
 have H : (spec_GridValid.l0 k l0 a1 0) = some r := h
 clear h
 have H' := yam H
 clear H
 go_enter Try.func84, Try.ntmps84
 go_wp2
 go_loopg [5] k (fun kq v5 w' => ∃ (x5_1 : Int), v5 = .int .i64 x5_1 ∧ Aside0 (spec_GridValid.l0 kq l0 a1 x5_1 = some r) ∧ Aside0 (kq ≤ k) ∧ Drawn0 w w')
 case atStart => exact ⟨(0), (by first | rfl | (simp; done) | (simp [*]; done)), H', ⟨Nat.le_refl _⟩, by repeat (first | exact Drawn0.refl _ | apply Drawn0.step)⟩
 case round =>
  clear H'
  try clear p2
  obtain ⟨x5_1, rfl, HA, HK1, ⟨m1, rfl⟩⟩ := hrel
  cases gk with
  | zero => exact absurd HA.out (by simp [spec_GridValid.l0])
  | succ k1 =>
   have H := HA.out
   clear HA
   simp only [spec_GridValid.l0] at H
   by_cases c3 : x5_1 < (l0.length : Int)
   rotate_left
   ·rw [if_neg c3] at H
    have c3b0 : decide (x5_1 < (l0.length : Int)) = false := decide_eq_false c3
    clear c3
    replace H := Option.bind_eq_some_iff.mp H
    obtain ⟨t330, A70, H⟩ := H
    try dsimp only at H
    have A7 := yam A70
    clear A70
    by_cases c8 : t330 = true
    ·subst c8
     have H1 : (some ((l0.length : Int) == (wrap64 (a1 * a1)))) = some r := by rw [if_pos rfl] at H; exact H
     clear H
     have H := H1
     clear H1
     obtain rfl := Option.some.inj H
     go_wp2_with (first | ((with_reducible refine gate_callee (f := 42) rfl ?_); refine goesL_ (some 20) rfl rfl Try.func42 (by kernel_rfl) rfl #[.int .i64 a1, .int .i64 2, .int .i64 4] rfl (by (try simp only [List.map_toArray, List.map_cons, List.map_nil]); first | done | rfl | (simp only [List.length_drop, List.length_take]; rfl)) ?_; (with_reducible refine (spec_l1In.calls a1 2 4 true _ A7.out).mono ?_); rintro e w' ⟨rfl, ⟨nd, rfl⟩⟩; refine ⟨_, rfl, ?_⟩))
     go_ret
     exact ⟨by first | rfl | (simp; done) | (simp [*]; done), by repeat (first | exact Drawn0.refl _ | apply Drawn0.step)⟩
    replace c8 := Bool.eq_false_iff.mpr c8
    subst c8
    have H1 : (some false) = some r := by rw [if_neg (show ¬ (false = true) by decide)] at H; exact H
    clear H
    have H := H1
    clear H1
    obtain rfl := Option.some.inj H
    go_wp2_with (first | ((with_reducible refine gate_callee (f := 42) rfl ?_); refine goesL_ (some 20) rfl rfl Try.func42 (by kernel_rfl) rfl #[.int .i64 a1, .int .i64 2, .int .i64 4] rfl (by (try simp only [List.map_toArray, List.map_cons, List.map_nil]); first | done | rfl | (simp only [List.length_drop, List.length_take]; rfl)) ?_; (with_reducible refine (spec_l1In.calls a1 2 4 false _ A7.out).mono ?_); rintro e w' ⟨rfl, ⟨nd, rfl⟩⟩; refine ⟨_, rfl, ?_⟩))
    go_ret
    exact ⟨by first | rfl | (simp; done) | (simp [*]; done), by repeat (first | exact Drawn0.refl _ | apply Drawn0.step)⟩

   rw [if_pos c3] at H
   have c3b0 : decide (x5_1 < (l0.length : Int)) = true := decide_eq_true c3
   clear c3
   by_cases c4 : 0 ≤ x5_1
   rotate_left
   ·rw [if_neg c4] at H
    exact absurd H (by simp)
   rw [if_pos c4] at H
   have c4b0 : decide (0 ≤ x5_1) = true := decide_eq_true c4
   clear c4
   replace H := Option.bind_eq_some_iff.mp H
   obtain ⟨t329, A50, H⟩ := H
   try dsimp only at H
   have A5 := yam A50
   clear A50
   by_cases c6 : t329 = true
   rotate_left
   ·replace c6 := Bool.eq_false_iff.mpr c6
    subst c6
    have H1 : (some false) = some r := by rw [if_neg (show ¬ (false = true) by decide)] at H; exact H
    clear H
    have H := H1
    clear H1
    obtain rfl := Option.some.inj H
    have p328 : 0 ≤ (x5_1 : Int) := of_decide_eq_true (by first | (with_reducible assumption) | assumption)
    have q328 : x5_1 < (l0.length : Int) := of_decide_eq_true (by first | (with_reducible assumption) | assumption)
    obtain ⟨ad328, e328, hx328_0⟩ := Kd.at_int HR0.out x5_1 p328 q328
    cases e328
    replace p328 := eq_true p328
    replace q328 := eq_true q328
    go_wp2_with (first | ((with_reducible refine gate_callee (f := 42) rfl ?_); refine goesL_ (some 17) rfl rfl Try.func42 (by kernel_rfl) rfl #[.int .i64 (rd l0 x5_1), .int .i64 0, .int .i64 a1] rfl (by (try simp only [List.map_toArray, List.map_cons, List.map_nil]); first | done | rfl | (simp only [List.length_drop, List.length_take]; rfl)) ?_; (with_reducible refine (spec_l1In.calls (rd l0 x5_1) 0 a1 false _ A5.out).mono ?_); rintro e w' ⟨rfl, ⟨nd, rfl⟩⟩; refine ⟨_, rfl, ?_⟩))
    go_ret
    exact ⟨by first | rfl | (simp; done) | (simp [*]; done), by repeat (first | exact Drawn0.refl _ | apply Drawn0.step)⟩
   subst c6
   have H1 : (spec_GridValid.l0 k1 l0 a1 (wrap64 (x5_1 + 1))) = some r := by rw [if_pos rfl] at H; exact H
   clear H
   have H := H1
   clear H1
   have H' := yam H
   clear H
   have p328 : 0 ≤ (x5_1 : Int) := of_decide_eq_true (by first | (with_reducible assumption) | assumption)
   have q328 : x5_1 < (l0.length : Int) := of_decide_eq_true (by first | (with_reducible assumption) | assumption)
   obtain ⟨ad328, e328, hx328_0⟩ := Kd.at_int HR0.out x5_1 p328 q328
   cases e328
   replace p328 := eq_true p328
   replace q328 := eq_true q328
   go_wp2_with (first | ((with_reducible refine gate_callee (f := 42) rfl ?_); refine goesL_ (some 17) rfl rfl Try.func42 (by kernel_rfl) rfl #[.int .i64 (rd l0 x5_1), .int .i64 0, .int .i64 a1] rfl (by (try simp only [List.map_toArray, List.map_cons, List.map_nil]); first | done | rfl | (simp only [List.length_drop, List.length_take]; rfl)) ?_; (with_reducible refine (spec_l1In.calls (rd l0 x5_1) 0 a1 true _ A5.out).mono ?_); rintro e w' ⟨rfl, ⟨nd, rfl⟩⟩; refine ⟨_, rfl, ?_⟩))
   go_roundg k1
   case measure => have := HK1.out; omega
   case rel => exact ⟨(wrap64 (x5_1 + 1)), (by first | rfl | (simp; done) | (simp [*]; done)), H', ⟨by have := HK1.out; omega⟩, by repeat (first | exact Drawn0.refl _ | apply Drawn0.step)⟩
/-! ### spec_RuleValid: function 83 -/
mutual
def spec_RuleValid.l0 : Nat → Int → Int → Int → List Int → Int → Option (Bool)
 | 0, _, _, _, _, _ => none
 | k + 1, x1, x5, x321000, x321001, x321002 => if x5 < (x321001.length : Int) then (if 0 ≤ x5 then ((spec_l1In.f (rd x321001 x5) 0 (wrap64 ((wrap64 (x1 * x1)) - 1))).bind fun t322 => (if t322 = true then (spec_RuleValid.l1 k x1 x5 0 x321000 x321001 x321002) else (some false))) else (none)) else ((spec_l1In.f x1 2 4).bind fun t325 => (if t325 = true then (spec_RuleValid.j2 k x1 (x321001.length : Int) (decide ((x321001.length : Int) > 4)) x321000 x321001 x321002) else (spec_RuleValid.j2 k x1 (x321001.length : Int) true x321000 x321001 x321002)))
def spec_RuleValid.l1 : Nat → Int → Int → Int → Int → List Int → Int → Option (Bool)
 | 0, _, _, _, _, _, _ => none
 | k + 1, x1, x5, x6, x321000, x321001, x321002 => if x6 < x5 then (if 0 ≤ x6 then (if x6 < (x321001.length : Int) then (if 0 ≤ x5 then (if x5 < (x321001.length : Int) then (if (rd x321001 x6) = (rd x321001 x5) then (some false) else (spec_RuleValid.l1 k x1 x5 (wrap64 (x6 + 1)) x321000 x321001 x321002)) else (none)) else (none)) else (none)) else (none)) else (spec_RuleValid.l0 k x1 (wrap64 (x5 + 1)) x321000 x321001 x321002)
def spec_RuleValid.j2 : Nat → Int → Int → Bool → Int → List Int → Int → Option (Bool)
 | 0, _, _, _, _, _, _ => none
 | k + 1, x1, x7, x51, x321000, x321001, x321002 => if x51 = true then (some false) else (if x321000 = 1 then (if x7 ≥ 2 then (some (x321002 == 0)) else (some false)) else (if x321000 = 2 then (spec_RuleValid.j3 k x1 x7 x321000 (x321000 == 2) x321000 x321001 x321002) else (spec_RuleValid.j3 k x1 x7 x321000 (x321000 == 3) x321000 x321001 x321002)))
def spec_RuleValid.j3 : Nat → Int → Int → Int → Bool → Int → List Int → Int → Option (Bool)
 | 0, _, _, _, _, _, _, _ => none
 | k + 1, x1, x7, x53, x63, x321000, x321001, x321002 => if x63 = true then (if x7 ≥ 1 then ((spec_l1In.f x321002 1 (wrap64 ((wrap64 ((wrap64 (x1 * x1)) * x1)) * x1))).bind fun t326 => (some t326)) else (some false)) else (if x53 = 4 then (if x7 = 2 then (some (x321002 == 0)) else (some false)) else (if x53 = 5 then (if x7 = 2 then ((spec_l1In.f x321002 0 (wrap64 (x1 - 1))).bind fun t327 => (some t327)) else (some false)) else (some false)))
end
def spec_RuleValid.f (k : Nat) (a0_0 : Int) (l0_1 : List Int) (a0_2 : Int) (a1 : Int) : Option (Bool) := spec_RuleValid.l0 k a1 0 a0_0 l0_1 a0_2
set_option maxHeartbeats 8000000 in
set_option maxRecDepth 100000 in
theorem spec_RuleValid.calls (k : Nat) (a0_0 : Int) (A0_1 : Option Addr) (c0_1 : Nat) (l0_1 : List Int) (a0_2 : Int) (a1 : Int) (r : Bool) (w : World) (hr0_1 : Kd.C (Kd.int .i64) w A0_1 l0_1.length l0_1) (hc0_1 : l0_1.length ≤ c0_1) (h : spec_RuleValid.f k a0_0 l0_1 a0_2 a1 = some r) :
  Calls Try.prog 83 #[.agg #[.int .i64 a0_0, .slice A0_1 l0_1.length c0_1, .int .i64 a0_2], .int .i64 a1] w fun e w' => e = .returned (.bool r) ∧ Below w.heap.size w w' := by
 have hu73 := Try.underlying73
 have HR0_1 := yam hr0_1
 have HC0_1 := yam hc0_1
 clear hr0_1 hc0_1
 have HB := yam (Below.refl w.heap.size w)
 have H : (spec_RuleValid.l0 k a1 0 a0_0 l0_1 a0_2) = some r := h
 clear h
 have H' := yam H
 clear H
 go_enter Try.func83, Try.ntmps83
 go_wp2_with (first | ((with_reducible refine gate_dst (N := 2) rfl ?_); refine box_event ?hg (N := 2) ?hd (cs := #[.int .i64 a0_0, .slice A0_1 l0_1.length c0_1, .int .i64 a0_2]) (t := 73) ?hr ?_; (case hd => rfl); (case hg => rfl); (case hr => first | (go_simp; done) | (go_simp; rfl)); intro gb320 hg w3 hbox hb; have n0_ := yam (below_step (yez HB.out) hb); have n1_ := yam (hbox); have n2_ := yam ((by rw [hg]; exact (below_size (yez HB.out)) : w.heap.size ≤ gb320)); have n3_ := n2_; clear HB; have HB := n0_; have BK320 := n1_; have GW320 := n2_; have GE320 := n3_; clear n0_ n1_ n2_ n3_; clear hb hbox hg))
 repeat (go_quiet (first | ((with_reducible refine gate_dst (N := 2) rfl ?_); refine box_event ?hg (N := 2) ?hd (cs := #[.int .i64 a0_0, .slice A0_1 l0_1.length c0_1, .int .i64 a0_2]) (t := 73) ?hr ?_; (case hd => rfl); (case hg => rfl); (case hr => first | (go_simp; done) | (go_simp; rfl)); intro gb320 hg w3 hbox hb; have n0_ := yam (below_step (yez HB.out) hb); have n1_ := yam (hbox); have n2_ := yam ((by rw [hg]; exact (below_size (yez HB.out)) : w.heap.size ≤ gb320)); have n3_ := n2_; clear HB; have HB := n0_; have BK320 := n1_; have GW320 := n2_; have GE320 := n3_; clear n0_ n1_ n2_ n3_; clear hb hbox hg)); try go_wp2_with (first | ((with_reducible refine gate_dst (N := 2) rfl ?_); refine box_event ?hg (N := 2) ?hd (cs := #[.int .i64 a0_0, .slice A0_1 l0_1.length c0_1, .int .i64 a0_2]) (t := 73) ?hr ?_; (case hd => rfl); (case hg => rfl); (case hr => first | (go_simp; done) | (go_simp; rfl)); intro gb320 hg w3 hbox hb; have n0_ := yam (below_step (yez HB.out) hb); have n1_ := yam (hbox); have n2_ := yam ((by rw [hg]; exact (below_size (yez HB.out)) : w.heap.size ≤ gb320)); have n3_ := n2_; clear HB; have HB := n0_; have BK320 := n1_; have GW320 := n2_; have GE320 := n3_; clear n0_ n1_ n2_ n3_; clear hb hbox hg)))
 go_loopg [5] k (fun kq v5 w' => ∃ (x5_1 : Int), v5 = .int .i64 x5_1 ∧ Aside0 (spec_RuleValid.l0 kq a1 x5_1 a0_0 l0_1 a0_2 = some r) ∧ Aside0 (kq ≤ k) ∧ Aside0 (w'.heap[gb320]? = some (.cells #[.int .i64 a0_0, (.slice A0_1 l0_1.length c0_1), .int .i64 a0_2] 73 (0, 0))) ∧ Aside0 (Below w.heap.size w w'))
 case atStart => exact ⟨(0), (by first | rfl | (simp; done) | (simp [*]; done)), H', ⟨Nat.le_refl _⟩, ⟨by (with_reducible repeat (first | refine ybn ?_ _ | refine ybd ?_ | refine yba ?_ _)); exact BK320.out⟩, ⟨by repeat (first | (with_reducible first | exact HB.out | apply yea | apply yen | apply yed | refine below_set ?_ GE320.out) | exact HB.out)⟩⟩
 case round =>
  clear H'
  try clear p2
  obtain ⟨x5_1, rfl, HA, HK1, BK320, HB⟩ := hrel
  cases gk with
  | zero => exact absurd HA.out (by simp [spec_RuleValid.l0])
  | succ k1 =>
   have H := HA.out
   clear HA
   simp only [spec_RuleValid.l0] at H
   by_cases c4 : x5_1 < (l0_1.length : Int)
   ·rw [if_pos c4] at H
    have c4b0 : decide (x5_1 < (l0_1.length : Int)) = true := decide_eq_true c4
    clear c4
    by_cases c5 : 0 ≤ x5_1
    rotate_left
    ·rw [if_neg c5] at H
     exact absurd H (by simp)
    rw [if_pos c5] at H
    have c5b0 : decide (0 ≤ x5_1) = true := decide_eq_true c5
    clear c5
    replace H := Option.bind_eq_some_iff.mp H
    obtain ⟨t322, A60, H⟩ := H
    try dsimp only at H
    have A6 := yam A60
    clear A60
    by_cases c7 : t322 = true
    rotate_left
    ·replace c7 := Bool.eq_false_iff.mpr c7
     subst c7
     have H1 : (some false) = some r := by rw [if_neg (show ¬ (false = true) by decide)] at H; exact H
     clear H
     have H := H1
     clear H1
     obtain rfl := Option.some.inj H
     obtain ⟨hcz17_0, hcz17_1, hcz17_2, hfz17_0, hfz17_1, hfz17_2⟩ := ybc BK320.out
     have p321 : 0 ≤ (x5_1 : Int) := of_decide_eq_true (by first | (with_reducible assumption) | assumption)
     have q321 : x5_1 < (l0_1.length : Int) := of_decide_eq_true (by first | (with_reducible assumption) | assumption)
     obtain ⟨ad321, e321, hx321_0⟩ := Kd.at_int HR0_1.out x5_1 p321 q321
     cases e321
     replace hx321_0 := (HB.out.cell (World.block_lt_of_cell? w _ hx321_0)).trans hx321_0
     replace p321 := eq_true p321
     replace q321 := eq_true q321
     have hwq0_ : IntKind.i64.wrap (a1 * a1) = wrap64 (a1 * a1) := i64_w _
     have hwq1_ : IntKind.i64.wrap ((wrap64 (a1 * a1)) - 1) = wrap64 ((wrap64 (a1 * a1)) - 1) := i64_w _
     go_wp2_with (first | (go_at_call 42; (with_reducible refine (spec_l1In.calls (rd l0_1 x5_1) 0 (wrap64 ((wrap64 (a1 * a1)) - 1)) false _ A6.out).mono ?_); rintro e w' ⟨rfl, ⟨nd, rfl⟩⟩; (try first | exact ⟨rfl, _, World.drewN_drewN _ _ _⟩ | exact ⟨rfl, _, Eq.trans (World.drewN_drewN _ _ _) (congrArg (World.drewN _) (Nat.add_assoc _ _ _))⟩)))
     repeat (go_quiet (first | (go_at_call 42; (with_reducible refine (spec_l1In.calls (rd l0_1 x5_1) 0 (wrap64 ((wrap64 (a1 * a1)) - 1)) false _ A6.out).mono ?_); rintro e w' ⟨rfl, ⟨nd, rfl⟩⟩; (try first | exact ⟨rfl, _, World.drewN_drewN _ _ _⟩ | exact ⟨rfl, _, Eq.trans (World.drewN_drewN _ _ _) (congrArg (World.drewN _) (Nat.add_assoc _ _ _))⟩))); try go_wp2_with (first | (go_at_call 42; (with_reducible refine (spec_l1In.calls (rd l0_1 x5_1) 0 (wrap64 ((wrap64 (a1 * a1)) - 1)) false _ A6.out).mono ?_); rintro e w' ⟨rfl, ⟨nd, rfl⟩⟩; (try first | exact ⟨rfl, _, World.drewN_drewN _ _ _⟩ | exact ⟨rfl, _, Eq.trans (World.drewN_drewN _ _ _) (congrArg (World.drewN _) (Nat.add_assoc _ _ _))⟩))))
     go_ret
     exact ⟨by first | rfl | (simp [errW_none, errW_some] <;> rfl) | (simp [*, errW_none, errW_some] <;> rfl), by repeat (first | (with_reducible first | exact HB.out | apply yea | apply yen | apply yed | refine below_set ?_ GE320.out) | exact HB.out)⟩
    subst c7
    have H1 : (spec_RuleValid.l1 k1 a1 x5_1 0 a0_0 l0_1 a0_2) = some r := by rw [if_pos rfl] at H; exact H
    clear H
    have H := H1
    clear H1
    have H' := yam H
    clear H
    obtain ⟨hcz8_0, hcz8_1, hcz8_2, hfz8_0, hfz8_1, hfz8_2⟩ := ybc BK320.out
    have p321 : 0 ≤ (x5_1 : Int) := of_decide_eq_true (by first | (with_reducible assumption) | assumption)
    have q321 : x5_1 < (l0_1.length : Int) := of_decide_eq_true (by first | (with_reducible assumption) | assumption)
    obtain ⟨ad321, e321, hx321_0⟩ := Kd.at_int HR0_1.out x5_1 p321 q321
    cases e321
    replace hx321_0 := (HB.out.cell (World.block_lt_of_cell? w _ hx321_0)).trans hx321_0
    replace p321 := eq_true p321
    replace q321 := eq_true q321
    have hwq0_ : IntKind.i64.wrap (a1 * a1) = wrap64 (a1 * a1) := i64_w _
    have hwq1_ : IntKind.i64.wrap ((wrap64 (a1 * a1)) - 1) = wrap64 ((wrap64 (a1 * a1)) - 1) := i64_w _
    go_wp2_with (first | (go_at_call 42; (with_reducible refine (spec_l1In.calls (rd l0_1 x5_1) 0 (wrap64 ((wrap64 (a1 * a1)) - 1)) true _ A6.out).mono ?_); rintro e w' ⟨rfl, ⟨nd, rfl⟩⟩; (try first | exact ⟨rfl, _, World.drewN_drewN _ _ _⟩ | exact ⟨rfl, _, Eq.trans (World.drewN_drewN _ _ _) (congrArg (World.drewN _) (Nat.add_assoc _ _ _))⟩)))
    repeat (go_quiet (first | (go_at_call 42; (with_reducible refine (spec_l1In.calls (rd l0_1 x5_1) 0 (wrap64 ((wrap64 (a1 * a1)) - 1)) true _ A6.out).mono ?_); rintro e w' ⟨rfl, ⟨nd, rfl⟩⟩; (try first | exact ⟨rfl, _, World.drewN_drewN _ _ _⟩ | exact ⟨rfl, _, Eq.trans (World.drewN_drewN _ _ _) (congrArg (World.drewN _) (Nat.add_assoc _ _ _))⟩))); try go_wp2_with (first | (go_at_call 42; (with_reducible refine (spec_l1In.calls (rd l0_1 x5_1) 0 (wrap64 ((wrap64 (a1 * a1)) - 1)) true _ A6.out).mono ?_); rintro e w' ⟨rfl, ⟨nd, rfl⟩⟩; (try first | exact ⟨rfl, _, World.drewN_drewN _ _ _⟩ | exact ⟨rfl, _, Eq.trans (World.drewN_drewN _ _ _) (congrArg (World.drewN _) (Nat.add_assoc _ _ _))⟩))))
    go_loopg [6] k1 (fun kq v6 w' => ∃ (x6_2 : Int), v6 = .int .i64 x6_2 ∧ Aside0 (spec_RuleValid.l1 kq a1 x5_1 x6_2 a0_0 l0_1 a0_2 = some r) ∧ Aside0 (kq ≤ k1) ∧ Aside0 (w'.heap[gb320]? = some (.cells #[.int .i64 a0_0, (.slice (some ad321) l0_1.length c0_1), .int .i64 a0_2] 73 (0, 0))) ∧ Aside0 (Below w.heap.size w w'))
    case atStart => exact ⟨(0), (by first | rfl | (simp; done) | (simp [*]; done)), H', ⟨Nat.le_refl _⟩, ⟨by (with_reducible repeat (first | refine ybn ?_ _ | refine ybd ?_ | refine yba ?_ _)); exact BK320.out⟩, ⟨by repeat (first | (with_reducible first | exact HB.out | apply yea | apply yen | apply yed | refine below_set ?_ GE320.out) | exact HB.out)⟩⟩
    case round =>
     clear H'
     try clear p2
     try clear p3
     try clear q3
     try clear hx3
     try clear c4
     try clear c4b0
     try clear c5
     try clear c5b0
     try clear p6
     try clear c7
     try clear c8
     try clear hcz8_0
     try clear hcz8_1
     try clear hcz8_2
     try clear hfz8_0
     try clear hfz8_1
     try clear hfz8_2
     try clear hx321_0
     try clear p2
     try clear p321
     try clear q321
     obtain ⟨x6_2, rfl, HA, HK2, BK320, HB⟩ := hrel
     cases gk with
     | zero => exact absurd HA.out (by simp [spec_RuleValid.l1])
     | succ k2 =>
      have H := HA.out
      clear HA
      simp only [spec_RuleValid.l1] at H
      by_cases c9 : x6_2 < x5_1
      rotate_left
      ·rw [if_neg c9] at H
       have c9b0 : decide (x6_2 < x5_1) = false := decide_eq_false c9
       clear c9
       have H' := yam H
       clear H
       go_wp2
       repeat (go_quiet (fail); try go_wp2)
       go_roundg k2
       case measure => have := HK1.out; have := HK2.out; omega
       case rel => exact ⟨(wrap64 (x5_1 + 1)), (by first | rfl | (simp; done) | (simp [*]; done)), H', ⟨by have := HK1.out; have := HK2.out; omega⟩, ⟨by (with_reducible repeat (first | refine ybn ?_ _ | refine ybd ?_ | refine yba ?_ _)); exact BK320.out⟩, ⟨by repeat (first | (with_reducible first | exact HB.out | apply yea | apply yen | apply yed | refine below_set ?_ GE320.out) | exact HB.out)⟩⟩
      rw [if_pos c9] at H
      have c9b0 : decide (x6_2 < x5_1) = true := decide_eq_true c9
      clear c9
      by_cases c10 : 0 ≤ x6_2
      rotate_left
      ·rw [if_neg c10] at H
       exact absurd H (by simp)
      rw [if_pos c10] at H
      have c10b0 : decide (0 ≤ x6_2) = true := decide_eq_true c10
      clear c10
      by_cases c11 : x6_2 < (l0_1.length : Int)
      rotate_left
      ·rw [if_neg c11] at H
       exact absurd H (by simp)
      rw [if_pos c11] at H
      have c11b0 : decide (x6_2 < (l0_1.length : Int)) = true := decide_eq_true c11
      clear c11
      by_cases c12 : 0 ≤ x5_1
      rotate_left
      ·rw [if_neg c12] at H
       exact absurd H (by simp)
      rw [if_pos c12] at H
      have c12b0 : decide (0 ≤ x5_1) = true := decide_eq_true c12
      clear c12
      by_cases c13 : x5_1 < (l0_1.length : Int)
      rotate_left
      ·rw [if_neg c13] at H
       exact absurd H (by simp)
      rw [if_pos c13] at H
      have c13b0 : decide (x5_1 < (l0_1.length : Int)) = true := decide_eq_true c13
      clear c13
      by_cases c14 : (rd l0_1 x6_2) = (rd l0_1 x5_1)
      ·rw [if_pos c14] at H
       have c14b0 : ((rd l0_1 x6_2) == (rd l0_1 x5_1)) = true := beq_iff_eq.mpr c14
       have c14b1 : ((rd l0_1 x6_2) != (rd l0_1 x5_1)) = false := bne_eq_false_iff_eq.mpr c14
       clear c14
       obtain rfl := Option.some.inj H
       obtain ⟨hcz15_0, hcz15_1, hcz15_2, hfz15_0, hfz15_1, hfz15_2⟩ := ybc BK320.out
       have p323 : 0 ≤ (x6_2 : Int) := of_decide_eq_true (by first | (with_reducible assumption) | assumption)
       have q323 : x6_2 < (l0_1.length : Int) := of_decide_eq_true (by first | (with_reducible assumption) | assumption)
       obtain ⟨ad323, e323, hx323_0⟩ := Kd.at_int HR0_1.out x6_2 p323 q323
       obtain rfl : ad321 = ad323 := (by injection e323)
       replace hx323_0 := (HB.out.cell (World.block_lt_of_cell? w _ hx323_0)).trans hx323_0
       replace p323 := eq_true p323
       replace q323 := eq_true q323
       have p324 : 0 ≤ (x5_1 : Int) := of_decide_eq_true (by first | (with_reducible assumption) | assumption)
       have q324 : x5_1 < (l0_1.length : Int) := of_decide_eq_true (by first | (with_reducible assumption) | assumption)
       obtain ⟨ad324, e324, hx324_0⟩ := Kd.at_int HR0_1.out x5_1 p324 q324
       obtain rfl : ad321 = ad324 := (by injection e324)
       replace hx324_0 := (HB.out.cell (World.block_lt_of_cell? w _ hx324_0)).trans hx324_0
       replace p324 := eq_true p324
       replace q324 := eq_true q324
       go_wp2
       repeat (go_quiet (fail); try go_wp2)
       go_ret
       exact ⟨by first | rfl | (simp [errW_none, errW_some] <;> rfl) | (simp [*, errW_none, errW_some] <;> rfl), by repeat (first | (with_reducible first | exact HB.out | apply yea | apply yen | apply yed | refine below_set ?_ GE320.out) | exact HB.out)⟩
      rw [if_neg c14] at H
      have c14b0 : ((rd l0_1 x6_2) == (rd l0_1 x5_1)) = false := beq_eq_false_iff_ne.mpr c14
      have c14b1 : ((rd l0_1 x6_2) != (rd l0_1 x5_1)) = true := bne_iff_ne.mpr c14
      have H' := yam H
      clear H
      obtain ⟨hcz16_0, hcz16_1, hcz16_2, hfz16_0, hfz16_1, hfz16_2⟩ := ybc BK320.out
      have p323 : 0 ≤ (x6_2 : Int) := of_decide_eq_true (by first | (with_reducible assumption) | assumption)
      have q323 : x6_2 < (l0_1.length : Int) := of_decide_eq_true (by first | (with_reducible assumption) | assumption)
      obtain ⟨ad323, e323, hx323_0⟩ := Kd.at_int HR0_1.out x6_2 p323 q323
      obtain rfl : ad321 = ad323 := (by injection e323)
      replace hx323_0 := (HB.out.cell (World.block_lt_of_cell? w _ hx323_0)).trans hx323_0
      replace p323 := eq_true p323
      replace q323 := eq_true q323
      have p324 : 0 ≤ (x5_1 : Int) := of_decide_eq_true (by first | (with_reducible assumption) | assumption)
      have q324 : x5_1 < (l0_1.length : Int) := of_decide_eq_true (by first | (with_reducible assumption) | assumption)
      obtain ⟨ad324, e324, hx324_0⟩ := Kd.at_int HR0_1.out x5_1 p324 q324
      obtain rfl : ad321 = ad324 := (by injection e324)
      replace hx324_0 := (HB.out.cell (World.block_lt_of_cell? w _ hx324_0)).trans hx324_0
      replace p324 := eq_true p324
      replace q324 := eq_true q324
      go_wp2
      repeat (go_quiet (fail); try go_wp2)
      go_roundg k2
      case measure => have := HK1.out; have := HK2.out; omega
      case rel => exact ⟨(wrap64 (x6_2 + 1)), (by first | rfl | (simp; done) | (simp [*]; done)), H', ⟨by have := HK1.out; have := HK2.out; omega⟩, ⟨by (with_reducible repeat (first | refine ybn ?_ _ | refine ybd ?_ | refine yba ?_ _)); exact BK320.out⟩, ⟨by repeat (first | (with_reducible first | exact HB.out | apply yea | apply yen | apply yed | refine below_set ?_ GE320.out) | exact HB.out)⟩⟩
   rw [if_neg c4] at H
   have c4b0 : decide (x5_1 < (l0_1.length : Int)) = false := decide_eq_false c4
   clear c4
   have HC18 := yam H
   clear H
   obtain ⟨hcz19_0, hcz19_1, hcz19_2, hfz19_0, hfz19_1, hfz19_2⟩ := ybc BK320.out
   go_upto_region 12 with (fail)
   repeat (go_quiet (fail); go_upto_region 12 with (fail))
   go_cut [51] (fun v51 wc => ∃ (kq : Nat) (x51_17 : Bool), v51 = .bool x51_17 ∧ Aside0 (spec_RuleValid.j2 kq a1 (l0_1.length : Int) x51_17 a0_0 l0_1 a0_2 = some r) ∧ Aside0 (kq ≤ k1) ∧ Aside0 (wc.heap[gb320]? = some (.cells #[.int .i64 a0_0, (.slice A0_1 l0_1.length c0_1), .int .i64 a0_2] 73 (0, 0))) ∧ Aside0 (Below w.heap.size w wc))
   case first =>
    have H := HC18.out
    clear HC18
    replace H := Option.bind_eq_some_iff.mp H
    obtain ⟨t325, A200, H⟩ := H
    try dsimp only at H
    have A20 := yam A200
    clear A200
    by_cases c21 : t325 = true
    ·subst c21
     have H1 : (spec_RuleValid.j2 k1 a1 (l0_1.length : Int) (decide ((l0_1.length : Int) > 4)) a0_0 l0_1 a0_2) = some r := by rw [if_pos rfl] at H; exact H
     clear H
     have H := H1
     clear H1
     have H' := yam H
     clear H
     go_wp2_with (first | (go_at_call 42; (with_reducible refine (spec_l1In.calls a1 2 4 true _ A20.out).mono ?_); rintro e w' ⟨rfl, ⟨nd, rfl⟩⟩; (try first | exact ⟨rfl, _, World.drewN_drewN _ _ _⟩ | exact ⟨rfl, _, Eq.trans (World.drewN_drewN _ _ _) (congrArg (World.drewN _) (Nat.add_assoc _ _ _))⟩)))
     repeat (go_quiet (first | (go_at_call 42; (with_reducible refine (spec_l1In.calls a1 2 4 true _ A20.out).mono ?_); rintro e w' ⟨rfl, ⟨nd, rfl⟩⟩; (try first | exact ⟨rfl, _, World.drewN_drewN _ _ _⟩ | exact ⟨rfl, _, Eq.trans (World.drewN_drewN _ _ _) (congrArg (World.drewN _) (Nat.add_assoc _ _ _))⟩))); try go_wp2_with (first | (go_at_call 42; (with_reducible refine (spec_l1In.calls a1 2 4 true _ A20.out).mono ?_); rintro e w' ⟨rfl, ⟨nd, rfl⟩⟩; (try first | exact ⟨rfl, _, World.drewN_drewN _ _ _⟩ | exact ⟨rfl, _, Eq.trans (World.drewN_drewN _ _ _) (congrArg (World.drewN _) (Nat.add_assoc _ _ _))⟩))))
     go_meet
     case rel => exact ⟨_, (decide ((l0_1.length : Int) > 4)), (by first | rfl | (simp; done) | (simp [*]; done)), H', ⟨by have := HK1.out; first | omega | exact Nat.le_refl _⟩, ⟨by (with_reducible repeat (first | refine ybn ?_ _ | refine ybd ?_ | refine yba ?_ _)); exact BK320.out⟩, ⟨by repeat (first | (with_reducible first | exact HB.out | apply yea | apply yen | apply yed | refine below_set ?_ GE320.out) | exact HB.out)⟩⟩
    replace c21 := Bool.eq_false_iff.mpr c21
    subst c21
    have H1 : (spec_RuleValid.j2 k1 a1 (l0_1.length : Int) true a0_0 l0_1 a0_2) = some r := by rw [if_neg (show ¬ (false = true) by decide)] at H; exact H
    clear H
    have H := H1
    clear H1
    have H' := yam H
    clear H
    go_wp2_with (first | (go_at_call 42; (with_reducible refine (spec_l1In.calls a1 2 4 false _ A20.out).mono ?_); rintro e w' ⟨rfl, ⟨nd, rfl⟩⟩; (try first | exact ⟨rfl, _, World.drewN_drewN _ _ _⟩ | exact ⟨rfl, _, Eq.trans (World.drewN_drewN _ _ _) (congrArg (World.drewN _) (Nat.add_assoc _ _ _))⟩)))
    repeat (go_quiet (first | (go_at_call 42; (with_reducible refine (spec_l1In.calls a1 2 4 false _ A20.out).mono ?_); rintro e w' ⟨rfl, ⟨nd, rfl⟩⟩; (try first | exact ⟨rfl, _, World.drewN_drewN _ _ _⟩ | exact ⟨rfl, _, Eq.trans (World.drewN_drewN _ _ _) (congrArg (World.drewN _) (Nat.add_assoc _ _ _))⟩))); try go_wp2_with (first | (go_at_call 42; (with_reducible refine (spec_l1In.calls a1 2 4 false _ A20.out).mono ?_); rintro e w' ⟨rfl, ⟨nd, rfl⟩⟩; (try first | exact ⟨rfl, _, World.drewN_drewN _ _ _⟩ | exact ⟨rfl, _, Eq.trans (World.drewN_drewN _ _ _) (congrArg (World.drewN _) (Nat.add_assoc _ _ _))⟩))))
    go_meet
    case rel => exact ⟨_, (true), (by first | rfl | (simp; done) | (simp [*]; done)), H', ⟨by have := HK1.out; first | omega | exact Nat.le_refl _⟩, ⟨by (with_reducible repeat (first | refine ybn ?_ _ | refine ybd ?_ | refine yba ?_ _)); exact BK320.out⟩, ⟨by repeat (first | (with_reducible first | exact HB.out | apply yea | apply yen | apply yed | refine below_set ?_ GE320.out) | exact HB.out)⟩⟩
   case rest =>
    clear HC18
    try clear c1
    try clear c2
    try clear p2
    try clear p3
    try clear q3
    try clear hx3
    try clear c4
    try clear c4b0
    try clear c5
    try clear c5b0
    try clear p6
    try clear c7
    try clear c8
    try clear c9
    try clear c9b0
    try clear c10
    try clear c10b0
    try clear c11
    try clear c11b0
    try clear c12
    try clear c12b0
    try clear c13
    try clear c13b0
    try clear c14
    try clear c14b0
    try clear c14b1
    try clear c21
    try clear hcz15_0
    try clear hcz15_1
    try clear hcz15_2
    try clear hcz16_0
    try clear hcz16_1
    try clear hcz16_2
    try clear hcz17_0
    try clear hcz17_1
    try clear hcz17_2
    try clear hcz19_0
    try clear hcz19_1
    try clear hcz19_2
    try clear hcz8_0
    try clear hcz8_1
    try clear hcz8_2
    try clear hfz15_0
    try clear hfz15_1
    try clear hfz15_2
    try clear hfz16_0
    try clear hfz16_1
    try clear hfz16_2
    try clear hfz17_0
    try clear hfz17_1
    try clear hfz17_2
    try clear hfz19_0
    try clear hfz19_1
    try clear hfz19_2
    try clear hfz8_0
    try clear hfz8_1
    try clear hfz8_2
    try clear hx321_0
    try clear hx323_0
    try clear hx324_0
    try clear p2
    try clear p3
    try clear p321
    try clear p323
    try clear p324
    try clear p6
    try clear q3
    try clear q321
    try clear q323
    try clear q324
    obtain ⟨kq, x51_17, rfl, HA, HJ17, BK320, HB⟩ := hcut
    cases kq with
    | zero => exact absurd HA.out (by simp [spec_RuleValid.j2])
    | succ kj17 =>
     have H := HA.out
     clear HA
     simp only [spec_RuleValid.j2] at H
     by_cases c22 : x51_17 = true
     ·subst c22
      have H1 : (some false) = some r := by rw [if_pos rfl] at H; exact H
      clear H
      have H := H1
      clear H1
      obtain rfl := Option.some.inj H
      go_wp2
      repeat (go_quiet (fail); try go_wp2)
      go_ret
      exact ⟨by first | rfl | (simp [errW_none, errW_some] <;> rfl) | (simp [*, errW_none, errW_some] <;> rfl), by repeat (first | (with_reducible first | exact HB.out | apply yea | apply yen | apply yed | refine below_set ?_ GE320.out) | exact HB.out)⟩
     replace c22 := Bool.eq_false_iff.mpr c22
     subst c22
     have H1 : (if a0_0 = 1 then (if (l0_1.length : Int) ≥ 2 then (some (a0_2 == 0)) else (some false)) else (if a0_0 = 2 then (spec_RuleValid.j3 kj17 a1 (l0_1.length : Int) a0_0 (a0_0 == 2) a0_0 l0_1 a0_2) else (spec_RuleValid.j3 kj17 a1 (l0_1.length : Int) a0_0 (a0_0 == 3) a0_0 l0_1 a0_2))) = some r := by rw [if_neg (show ¬ (false = true) by decide)] at H; exact H
     clear H
     have H := H1
     clear H1
     by_cases c23 : a0_0 = 1
     ·rw [if_pos c23] at H
      have c23b0 : (a0_0 == 1) = true := beq_iff_eq.mpr c23
      have c23b1 : (a0_0 != 1) = false := bne_eq_false_iff_eq.mpr c23
      clear c23
      by_cases c24 : (l0_1.length : Int) ≥ 2
      ·rw [if_pos c24] at H
       have c24b0 : decide (2 ≤ (l0_1.length : Int)) = true := decide_eq_true c24
       have c24b1 : decide (2 ≤ l0_1.length) = true := decide_eq_true (by omega)
       clear c24
       obtain rfl := Option.some.inj H
       obtain ⟨hcz25_0, hcz25_1, hcz25_2, hfz25_0, hfz25_1, hfz25_2⟩ := ybc BK320.out
       go_wp2
       repeat (go_quiet (fail); try go_wp2)
       go_ret
       exact ⟨by first | rfl | (simp [errW_none, errW_some] <;> rfl) | (simp [*, errW_none, errW_some] <;> rfl), by repeat (first | (with_reducible first | exact HB.out | apply yea | apply yen | apply yed | refine below_set ?_ GE320.out) | exact HB.out)⟩
      rw [if_neg c24] at H
      have c24b0 : decide (2 ≤ (l0_1.length : Int)) = false := decide_eq_false c24
      have c24b1 : decide (2 ≤ l0_1.length) = false := decide_eq_false (by omega)
      clear c24
      obtain rfl := Option.some.inj H
      obtain ⟨hcz26_0, hcz26_1, hcz26_2, hfz26_0, hfz26_1, hfz26_2⟩ := ybc BK320.out
      go_wp2
      repeat (go_quiet (fail); try go_wp2)
      go_ret
      exact ⟨by first | rfl | (simp [errW_none, errW_some] <;> rfl) | (simp [*, errW_none, errW_some] <;> rfl), by repeat (first | (with_reducible first | exact HB.out | apply yea | apply yen | apply yed | refine below_set ?_ GE320.out) | exact HB.out)⟩
     rw [if_neg c23] at H
     have c23b0 : (a0_0 == 1) = false := beq_eq_false_iff_ne.mpr c23
     have c23b1 : (a0_0 != 1) = true := bne_iff_ne.mpr c23
     have HC27 := yam H
     clear H
     obtain ⟨hcz28_0, hcz28_1, hcz28_2, hfz28_0, hfz28_1, hfz28_2⟩ := ybc BK320.out
     go_upto_if 63 with (fail)
     repeat (go_quiet (fail); go_upto_if 63 with (fail))
     go_cut [63] (fun v63 wc => ∃ (kq : Nat) (x63_26 : Bool), v63 = .bool x63_26 ∧ Aside0 (spec_RuleValid.j3 kq a1 (l0_1.length : Int) a0_0 x63_26 a0_0 l0_1 a0_2 = some r) ∧ Aside0 (kq ≤ kj17) ∧ Aside0 (wc.heap[gb320]? = some (.cells #[.int .i64 a0_0, (.slice A0_1 l0_1.length c0_1), .int .i64 a0_2] 73 (0, 0))) ∧ Aside0 (Below w.heap.size w wc))
     case first =>
      have H := HC27.out
      clear HC27
      by_cases c29 : a0_0 = 2
      rotate_left
      ·rw [if_neg c29] at H
       have c29b0 : (a0_0 == 2) = false := beq_eq_false_iff_ne.mpr c29
       have c29b1 : (a0_0 != 2) = true := bne_iff_ne.mpr c29
       (first | rw [c29b0] | (simp only [i64_w, i32_w]; rw [c29b0]) | skip)
       have H' := yam H
       clear H
       go_wp2
       repeat (go_quiet (fail); try go_wp2)
       go_meet
       case rel => exact ⟨_, ((a0_0 == 3)), (by first | rfl | (simp; done) | (simp [*]; done)), H', ⟨by have := HK1.out; have := HJ17.out; first | omega | exact Nat.le_refl _⟩, ⟨by (with_reducible repeat (first | refine ybn ?_ _ | refine ybd ?_ | refine yba ?_ _)); exact BK320.out⟩, ⟨by repeat (first | (with_reducible first | exact HB.out | apply yea | apply yen | apply yed | refine below_set ?_ GE320.out) | exact HB.out)⟩⟩
      rw [if_pos c29] at H
      have c29b0 : (a0_0 == 2) = true := beq_iff_eq.mpr c29
      have c29b1 : (a0_0 != 2) = false := bne_eq_false_iff_eq.mpr c29
      clear c29
      (first | rw [c29b0] | (simp only [i64_w, i32_w]; rw [c29b0]) | skip)
      have H' := yam H
      clear H
      go_wp2
      repeat (go_quiet (fail); try go_wp2)
      go_meet
      case rel => exact ⟨_, ((a0_0 == 2)), (by first | rfl | (simp; done) | (simp [*]; done)), H', ⟨by have := HK1.out; have := HJ17.out; first | omega | exact Nat.le_refl _⟩, ⟨by (with_reducible repeat (first | refine ybn ?_ _ | refine ybd ?_ | refine yba ?_ _)); exact BK320.out⟩, ⟨by repeat (first | (with_reducible first | exact HB.out | apply yea | apply yen | apply yed | refine below_set ?_ GE320.out) | exact HB.out)⟩⟩
     case rest =>
      clear HC27
      try clear c1
      try clear c2
      try clear p2
      try clear p3
      try clear q3
      try clear hx3
      try clear c4
      try clear c4b0
      try clear c5
      try clear c5b0
      try clear p6
      try clear c7
      try clear c8
      try clear c9
      try clear c9b0
      try clear c10
      try clear c10b0
      try clear c11
      try clear c11b0
      try clear c12
      try clear c12b0
      try clear c13
      try clear c13b0
      try clear c14
      try clear c14b0
      try clear c14b1
      try clear c21
      try clear c22
      try clear c23
      try clear c23b0
      try clear c23b1
      try clear c24
      try clear c24b0
      try clear c24b1
      try clear c29
      try clear c29b0
      try clear c29b1
      try clear hcz15_0
      try clear hcz15_1
      try clear hcz15_2
      try clear hcz16_0
      try clear hcz16_1
      try clear hcz16_2
      try clear hcz17_0
      try clear hcz17_1
      try clear hcz17_2
      try clear hcz19_0
      try clear hcz19_1
      try clear hcz19_2
      try clear hcz25_0
      try clear hcz25_1
      try clear hcz25_2
      try clear hcz26_0
      try clear hcz26_1
      try clear hcz26_2
      try clear hcz28_0
      try clear hcz28_1
      try clear hcz28_2
      try clear hcz8_0
      try clear hcz8_1
      try clear hcz8_2
      try clear hfz15_0
      try clear hfz15_1
      try clear hfz15_2
      try clear hfz16_0
      try clear hfz16_1
      try clear hfz16_2
      try clear hfz17_0
      try clear hfz17_1
      try clear hfz17_2
      try clear hfz19_0
      try clear hfz19_1
      try clear hfz19_2
      try clear hfz25_0
      try clear hfz25_1
      try clear hfz25_2
      try clear hfz26_0
      try clear hfz26_1
      try clear hfz26_2
      try clear hfz28_0
      try clear hfz28_1
      try clear hfz28_2
      try clear hfz8_0
      try clear hfz8_1
      try clear hfz8_2
      try clear hx321_0
      try clear hx323_0
      try clear hx324_0
      try clear p2
      try clear p3
      try clear p321
      try clear p323
      try clear p324
      try clear p6
      try clear q3
      try clear q321
      try clear q323
      try clear q324
      obtain ⟨kq, x63_26, rfl, HA, HJ26, BK320, HB⟩ := hcut
      cases kq with
      | zero => exact absurd HA.out (by simp [spec_RuleValid.j3])
      | succ kj26 =>
       have H := HA.out
       clear HA
       simp only [spec_RuleValid.j3] at H
       by_cases c30 : x63_26 = true
       ·subst c30
        have H1 : (if (l0_1.length : Int) ≥ 1 then ((spec_l1In.f a0_2 1 (wrap64 ((wrap64 ((wrap64 (a1 * a1)) * a1)) * a1))).bind fun t326 => (some t326)) else (some false)) = some r := by rw [if_pos rfl] at H; exact H
        clear H
        have H := H1
        clear H1
        by_cases c31 : (l0_1.length : Int) ≥ 1
        rotate_left
        ·rw [if_neg c31] at H
         have c31b0 : decide (1 ≤ (l0_1.length : Int)) = false := decide_eq_false c31
         have c31b1 : decide (1 ≤ l0_1.length) = false := decide_eq_false (by omega)
         clear c31
         obtain rfl := Option.some.inj H
         go_wp2
         repeat (go_quiet (fail); try go_wp2)
         go_ret
         exact ⟨by first | rfl | (simp [errW_none, errW_some] <;> rfl) | (simp [*, errW_none, errW_some] <;> rfl), by repeat (first | (with_reducible first | exact HB.out | apply yea | apply yen | apply yed | refine below_set ?_ GE320.out) | exact HB.out)⟩
        rw [if_pos c31] at H
        have c31b0 : decide (1 ≤ (l0_1.length : Int)) = true := decide_eq_true c31
        have c31b1 : decide (1 ≤ l0_1.length) = true := decide_eq_true (by omega)
        clear c31
        replace H := Option.bind_eq_some_iff.mp H
        obtain ⟨t326, A320, H⟩ := H
        try dsimp only at H
        have A32 := yam A320
        clear A320
        obtain rfl := Option.some.inj H
        obtain ⟨hcz33_0, hcz33_1, hcz33_2, hfz33_0, hfz33_1, hfz33_2⟩ := ybc BK320.out
        have hwq0_ : IntKind.i64.wrap (a1 * a1) = wrap64 (a1 * a1) := i64_w _
        have hwq1_ : IntKind.i64.wrap ((wrap64 (a1 * a1)) * a1) = wrap64 ((wrap64 (a1 * a1)) * a1) := i64_w _
        have hwq2_ : IntKind.i64.wrap ((wrap64 ((wrap64 (a1 * a1)) * a1)) * a1) = wrap64 ((wrap64 ((wrap64 (a1 * a1)) * a1)) * a1) := i64_w _
        go_wp2_with (first | (go_at_call 42; (with_reducible refine (spec_l1In.calls a0_2 1 (wrap64 ((wrap64 ((wrap64 (a1 * a1)) * a1)) * a1)) t326 _ A32.out).mono ?_); rintro e w' ⟨rfl, ⟨nd, rfl⟩⟩; (try first | exact ⟨rfl, _, World.drewN_drewN _ _ _⟩ | exact ⟨rfl, _, Eq.trans (World.drewN_drewN _ _ _) (congrArg (World.drewN _) (Nat.add_assoc _ _ _))⟩)))
        repeat (go_quiet (first | (go_at_call 42; (with_reducible refine (spec_l1In.calls a0_2 1 (wrap64 ((wrap64 ((wrap64 (a1 * a1)) * a1)) * a1)) t326 _ A32.out).mono ?_); rintro e w' ⟨rfl, ⟨nd, rfl⟩⟩; (try first | exact ⟨rfl, _, World.drewN_drewN _ _ _⟩ | exact ⟨rfl, _, Eq.trans (World.drewN_drewN _ _ _) (congrArg (World.drewN _) (Nat.add_assoc _ _ _))⟩))); try go_wp2_with (first | (go_at_call 42; (with_reducible refine (spec_l1In.calls a0_2 1 (wrap64 ((wrap64 ((wrap64 (a1 * a1)) * a1)) * a1)) t326 _ A32.out).mono ?_); rintro e w' ⟨rfl, ⟨nd, rfl⟩⟩; (try first | exact ⟨rfl, _, World.drewN_drewN _ _ _⟩ | exact ⟨rfl, _, Eq.trans (World.drewN_drewN _ _ _) (congrArg (World.drewN _) (Nat.add_assoc _ _ _))⟩))))
        go_ret
        exact ⟨by first | rfl | (simp [errW_none, errW_some] <;> rfl) | (simp [*, errW_none, errW_some] <;> rfl), by repeat (first | (with_reducible first | exact HB.out | apply yea | apply yen | apply yed | refine below_set ?_ GE320.out) | exact HB.out)⟩
       replace c30 := Bool.eq_false_iff.mpr c30
       subst c30
       have H1 : (if a0_0 = 4 then (if (l0_1.length : Int) = 2 then (some (a0_2 == 0)) else (some false)) else (if a0_0 = 5 then (if (l0_1.length : Int) = 2 then ((spec_l1In.f a0_2 0 (wrap64 (a1 - 1))).bind fun t327 => (some t327)) else (some false)) else (some false))) = some r := by rw [if_neg (show ¬ (false = true) by decide)] at H; exact H
       clear H
       have H := H1
       clear H1
       by_cases c34 : a0_0 = 4
       ·rw [if_pos c34] at H
        have c34b0 : (a0_0 == 4) = true := beq_iff_eq.mpr c34
        have c34b1 : (a0_0 != 4) = false := bne_eq_false_iff_eq.mpr c34
        clear c34
        by_cases c35 : (l0_1.length : Int) = 2
        rotate_left
        ·rw [if_neg c35] at H
         have c35b0 : ((l0_1.length : Int) == 2) = false := beq_eq_false_iff_ne.mpr c35
         have c35b1 : ((l0_1.length : Int) != 2) = true := bne_iff_ne.mpr c35
         obtain rfl := Option.some.inj H
         go_wp2
         repeat (go_quiet (fail); try go_wp2)
         go_ret
         exact ⟨by first | rfl | (simp [errW_none, errW_some] <;> rfl) | (simp [*, errW_none, errW_some] <;> rfl), by repeat (first | (with_reducible first | exact HB.out | apply yea | apply yen | apply yed | refine below_set ?_ GE320.out) | exact HB.out)⟩
        rw [if_pos c35] at H
        have c35b0 : ((l0_1.length : Int) == 2) = true := beq_iff_eq.mpr c35
        have c35b1 : ((l0_1.length : Int) != 2) = false := bne_eq_false_iff_eq.mpr c35
        clear c35
        obtain rfl := Option.some.inj H
        obtain ⟨hcz36_0, hcz36_1, hcz36_2, hfz36_0, hfz36_1, hfz36_2⟩ := ybc BK320.out
        go_wp2
        repeat (go_quiet (fail); try go_wp2)
        go_ret
        exact ⟨by first | rfl | (simp [errW_none, errW_some] <;> rfl) | (simp [*, errW_none, errW_some] <;> rfl), by repeat (first | (with_reducible first | exact HB.out | apply yea | apply yen | apply yed | refine below_set ?_ GE320.out) | exact HB.out)⟩
       rw [if_neg c34] at H
       have c34b0 : (a0_0 == 4) = false := beq_eq_false_iff_ne.mpr c34
       have c34b1 : (a0_0 != 4) = true := bne_iff_ne.mpr c34
       by_cases c37 : a0_0 = 5
       rotate_left
       ·rw [if_neg c37] at H
        have c37b0 : (a0_0 == 5) = false := beq_eq_false_iff_ne.mpr c37
        have c37b1 : (a0_0 != 5) = true := bne_iff_ne.mpr c37
        obtain rfl := Option.some.inj H
        go_wp2
        repeat (go_quiet (fail); try go_wp2)
        go_ret
        exact ⟨by first | rfl | (simp [errW_none, errW_some] <;> rfl) | (simp [*, errW_none, errW_some] <;> rfl), by repeat (first | (with_reducible first | exact HB.out | apply yea | apply yen | apply yed | refine below_set ?_ GE320.out) | exact HB.out)⟩

       rw [if_pos c37] at H
       have c37b0 : (a0_0 == 5) = true := beq_iff_eq.mpr c37
       have c37b1 : (a0_0 != 5) = false := bne_eq_false_iff_eq.mpr c37
       clear c37
       by_cases c38 : (l0_1.length : Int) = 2
       rotate_left
       ·rw [if_neg c38] at H
        have c38b0 : ((l0_1.length : Int) == 2) = false := beq_eq_false_iff_ne.mpr c38
        have c38b1 : ((l0_1.length : Int) != 2) = true := bne_iff_ne.mpr c38
        obtain rfl := Option.some.inj H
        go_wp2
        repeat (go_quiet (fail); try go_wp2)
        go_ret
        exact ⟨by first | rfl | (simp [errW_none, errW_some] <;> rfl) | (simp [*, errW_none, errW_some] <;> rfl), by repeat (first | (with_reducible first | exact HB.out | apply yea | apply yen | apply yed | refine below_set ?_ GE320.out) | exact HB.out)⟩
       rw [if_pos c38] at H
       have c38b0 : ((l0_1.length : Int) == 2) = true := beq_iff_eq.mpr c38
       have c38b1 : ((l0_1.length : Int) != 2) = false := bne_eq_false_iff_eq.mpr c38
       clear c38
       replace H := Option.bind_eq_some_iff.mp H
       obtain ⟨t327, A390, H⟩ := H
       try dsimp only at H
       have A39 := yam A390
       clear A390
       obtain rfl := Option.some.inj H
       obtain ⟨hcz40_0, hcz40_1, hcz40_2, hfz40_0, hfz40_1, hfz40_2⟩ := ybc BK320.out
       have hwq0_ : IntKind.i64.wrap (a1 - 1) = wrap64 (a1 - 1) := i64_w _
       go_wp2_with (first | (go_at_call 42; (with_reducible refine (spec_l1In.calls a0_2 0 (wrap64 (a1 - 1)) t327 _ A39.out).mono ?_); rintro e w' ⟨rfl, ⟨nd, rfl⟩⟩; (try first | exact ⟨rfl, _, World.drewN_drewN _ _ _⟩ | exact ⟨rfl, _, Eq.trans (World.drewN_drewN _ _ _) (congrArg (World.drewN _) (Nat.add_assoc _ _ _))⟩)))
       repeat (go_quiet (first | (go_at_call 42; (with_reducible refine (spec_l1In.calls a0_2 0 (wrap64 (a1 - 1)) t327 _ A39.out).mono ?_); rintro e w' ⟨rfl, ⟨nd, rfl⟩⟩; (try first | exact ⟨rfl, _, World.drewN_drewN _ _ _⟩ | exact ⟨rfl, _, Eq.trans (World.drewN_drewN _ _ _) (congrArg (World.drewN _) (Nat.add_assoc _ _ _))⟩))); try go_wp2_with (first | (go_at_call 42; (with_reducible refine (spec_l1In.calls a0_2 0 (wrap64 (a1 - 1)) t327 _ A39.out).mono ?_); rintro e w' ⟨rfl, ⟨nd, rfl⟩⟩; (try first | exact ⟨rfl, _, World.drewN_drewN _ _ _⟩ | exact ⟨rfl, _, Eq.trans (World.drewN_drewN _ _ _) (congrArg (World.drewN _) (Nat.add_assoc _ _ _))⟩))))
       go_ret
       exact ⟨by first | rfl | (simp [errW_none, errW_some] <;> rfl) | (simp [*, errW_none, errW_some] <;> rfl), by repeat (first | (with_reducible first | exact HB.out | apply yea | apply yen | apply yed | refine below_set ?_ GE320.out) | exact HB.out)⟩
/-! ### spec_PuzzleValid: function 62 -/
def spec_PuzzleValid.l0 : Nat → Int → Int → List Int → List (S73) → Option (Bool)
 | 0, _, _, _, _ => none
 | k + 1, x3, x332000, x332001, x332002 => if x3 < (x332002.length : Int) then (if 0 ≤ x3 then ((spec_RuleValid.f k ((rd_T73 x332002 x3).f0) ((rd_T73 x332002 x3).f1) ((rd_T73 x332002 x3).f2) x332000).bind fun t333 => (if t333 = true then (spec_PuzzleValid.l0 k (wrap64 (x3 + 1)) x332000 x332001 x332002) else (some false))) else (none)) else ((spec_GridValid.f k x332001 x332000).bind fun t334 => (if t334 = true then (some (decide ((x332002.length : Int) ≤ 20))) else (some false)))
def spec_PuzzleValid.f (k : Nat) (a0_0 : Int) (l0_1 : List Int) (l0_2 : List (S73)) : Option (Bool) := spec_PuzzleValid.l0 k 0 a0_0 l0_1 l0_2
def spec_PuzzleValid.T4 : Bool × List (List Nat × List Nat) := (true, [([], []), ([0], [0]), ([], []), ([1, 2], [1, 2]), ([3], [3]), ([], []), ([5], [5]), ([4, 6], [4, 6]), ([7], [7])])
def spec_PuzzleValid.B4 : List Nat := [0, 1, 0, 7, 15, 0, 32, 127, 255]
theorem spec_PuzzleValid.tab4 : rtab .any (opsOf Try.f62 4) = spec_PuzzleValid.T4 := by kernel_rfl
theorem spec_PuzzleValid.bits4 : waitsOk spec_PuzzleValid.T4.2 spec_PuzzleValid.B4 = true := by kernel_rfl
set_option maxHeartbeats 8000000 in
set_option maxRecDepth 100000 in
theorem spec_PuzzleValid.calls (k : Nat) (a0_0 : Int) (A0_1 : Option Addr) (c0_1 : Nat) (l0_1 : List Int) (A0_2 : Option Addr) (c0_2 : Nat) (l0_2 : List (S73)) (r : Bool) (w : World) (hr0_1 : Kd.C (Kd.int .i64) w A0_1 l0_1.length l0_1) (hc0_1 : l0_1.length ≤ c0_1) (hr0_2 : Kd.C k73 w A0_2 l0_2.length l0_2) (hc0_2 : l0_2.length ≤ c0_2) (h : spec_PuzzleValid.f k a0_0 l0_1 l0_2 = some r) :
  Calls Try.prog 62 #[.agg #[.int .i64 a0_0, .slice A0_1 l0_1.length c0_1, .slice A0_2 l0_2.length c0_2]] w fun e w' => e = .returned (.bool r) ∧ Below w.heap.size w w' := by
 have hu37 := Try.underlying37
 have hu73 := Try.underlying73
 have HR0_1 := yam hr0_1
 have HC0_1 := yam hc0_1
 clear hr0_1 hc0_1
 have HR0_2 := yam hr0_2
 have HC0_2 := yam hc0_2
 clear hr0_2 hc0_2
 have HB := yam (Below.refl w.heap.size w)
 have H : (spec_PuzzleValid.l0 k 0 a0_0 l0_1 l0_2) = some r := h
 clear h
 have H' := yam H
 clear H
 go_enter Try.func62, Try.ntmps62
 go_wp2_with (first | ((with_reducible refine gate_dst (N := 1) rfl ?_); (try (refine gate_guard (by rfl) ?_; dsimp only)); refine box_event ?hg (N := 1) ?hd (cs := #[.int .i64 a0_0, .slice A0_1 l0_1.length c0_1, .slice A0_2 l0_2.length c0_2]) (t := 37) ?hr ?_; (case hd => rfl); (case hg => rfl); (case hr => first | (go_simp; done) | (go_simp; rfl)); intro gb331 hg w2 hbox hb; have n0_ := yam (below_step (yez HB.out) hb); have n1_ := yam (hbox); have n2_ := yam ((by rw [hg]; exact (below_size (yez HB.out)) : w.heap.size ≤ gb331)); have n3_ := n2_; clear HB; have HB := n0_; have BK331 := n1_; have GW331 := n2_; have GE331 := n3_; clear n0_ n1_ n2_ n3_; clear hb hbox hg))
 go_loopg [3] k (fun kq v3 w' => ∃ (x3_1 : Int), v3 = .int .i64 x3_1 ∧ Aside0 (spec_PuzzleValid.l0 kq x3_1 a0_0 l0_1 l0_2 = some r) ∧ Aside0 (kq ≤ k) ∧ Aside0 (w'.heap[gb331]? = some (.cells #[.int .i64 a0_0, (.slice A0_1 l0_1.length c0_1), (.slice A0_2 l0_2.length c0_2)] 37 (0, 0))) ∧ Aside0 (Below w.heap.size w w'))
 case atStart => exact ⟨(0), (by first | rfl | (simp; done) | (simp [*]; done)), H', ⟨Nat.le_refl _⟩, ⟨by (with_reducible repeat (first | refine ybn ?_ _ | refine ybd ?_ | refine yba ?_ _)); exact BK331.out⟩, ⟨by repeat (first | (with_reducible first | exact HB.out | apply yea | apply yen | apply yed | refine below_set ?_ GE331.out) | exact HB.out)⟩⟩
 case round =>
  clear H'
  try clear p2
  obtain ⟨x3_1, rfl, HA, HK1, BK331, HB⟩ := hrel
  cases gk with
  | zero => exact absurd HA.out (by simp [spec_PuzzleValid.l0])
  | succ k1 =>
   have H := HA.out
   clear HA
   simp only [spec_PuzzleValid.l0] at H
   by_cases c3 : x3_1 < (l0_2.length : Int)
   rotate_left
   ·rw [if_neg c3] at H
    have c3b0 : decide (x3_1 < (l0_2.length : Int)) = false := decide_eq_false c3
    clear c3
    replace H := Option.bind_eq_some_iff.mp H
    obtain ⟨t334, A130, H⟩ := H
    try dsimp only at H
    have A13 := yam A130
    clear A130
    by_cases c14 : t334 = true
    ·subst c14
     have H1 : (some (decide ((l0_2.length : Int) ≤ 20))) = some r := by rw [if_pos rfl] at H; exact H
     clear H
     have H := H1
     clear H1
     obtain rfl := Option.some.inj H
     obtain ⟨hcz15_0, hcz15_1, hcz15_2, hfz15_0, hfz15_1, hfz15_2⟩ := ybc BK331.out
     go_wp2_with (first | ((with_reducible refine gate_callee (f := 84) rfl ?_); refine goesL_ (some 24) rfl rfl Try.func84 (by kernel_rfl) rfl #[.slice A0_1 l0_1.length c0_1, .int .i64 a0_0] rfl (by (try simp only [List.map_toArray, List.map_cons, List.map_nil]); first | done | rfl | (simp only [List.length_drop, List.length_take]; rfl)) ?_; (with_reducible refine (spec_GridValid.calls k1 _ _ l0_1 a0_0 true _ ?side1 ?side2 A13.out).mono ?_); (case side1 => exact Kd.Cz ((Kd.C_below HR0_1.out HB.out))); (case side2 => exact HC0_1.out); rintro e w' ⟨rfl, ⟨nd, rfl⟩⟩; refine ⟨_, rfl, ?_⟩))
     go_ret
     exact ⟨by first | rfl | (simp [errW_none, errW_some] <;> rfl) | (simp [*, errW_none, errW_some] <;> rfl), by repeat (first | (with_reducible first | exact HB.out | apply yea | apply yen | apply yed | refine below_set ?_ GE331.out) | exact HB.out)⟩
    replace c14 := Bool.eq_false_iff.mpr c14
    subst c14
    have H1 : (some false) = some r := by rw [if_neg (show ¬ (false = true) by decide)] at H; exact H
    clear H
    have H := H1
    clear H1
    obtain rfl := Option.some.inj H
    obtain ⟨hcz16_0, hcz16_1, hcz16_2, hfz16_0, hfz16_1, hfz16_2⟩ := ybc BK331.out
    go_wp2_with (first | ((with_reducible refine gate_callee (f := 84) rfl ?_); refine goesL_ (some 24) rfl rfl Try.func84 (by kernel_rfl) rfl #[.slice A0_1 l0_1.length c0_1, .int .i64 a0_0] rfl (by (try simp only [List.map_toArray, List.map_cons, List.map_nil]); first | done | rfl | (simp only [List.length_drop, List.length_take]; rfl)) ?_; (with_reducible refine (spec_GridValid.calls k1 _ _ l0_1 a0_0 false _ ?side1 ?side2 A13.out).mono ?_); (case side1 => exact Kd.Cz ((Kd.C_below HR0_1.out HB.out))); (case side2 => exact HC0_1.out); rintro e w' ⟨rfl, ⟨nd, rfl⟩⟩; refine ⟨_, rfl, ?_⟩))
    go_ret
    exact ⟨by first | rfl | (simp [errW_none, errW_some] <;> rfl) | (simp [*, errW_none, errW_some] <;> rfl), by repeat (first | (with_reducible first | exact HB.out | apply yea | apply yen | apply yed | refine below_set ?_ GE331.out) | exact HB.out)⟩

   rw [if_pos c3] at H
   have c3b0 : decide (x3_1 < (l0_2.length : Int)) = true := decide_eq_true c3
   clear c3
   by_cases c4 : 0 ≤ x3_1
   rotate_left
   ·rw [if_neg c4] at H
    exact absurd H (by simp)
   rw [if_pos c4] at H
   have c4b0 : decide (0 ≤ x3_1) = true := decide_eq_true c4
   clear c4
   replace H := Option.bind_eq_some_iff.mp H
   obtain ⟨t333, A50, H⟩ := H
   try dsimp only at H
   have A5 := yam A50
   clear A50
   by_cases c6 : t333 = true
   rotate_left
   ·replace c6 := Bool.eq_false_iff.mpr c6
    subst c6
    have H1 : (some false) = some r := by rw [if_neg (show ¬ (false = true) by decide)] at H; exact H
    clear H
    have H := H1
    clear H1
    obtain rfl := Option.some.inj H
    obtain ⟨hcz10_0, hcz10_1, hcz10_2, hfz10_0, hfz10_1, hfz10_2⟩ := ybc BK331.out
    try go_wp2
    have n0_ := yam (ybd BK331.out)
    have n1_ := yam (yed HB.out)
    clear BK331
    clear HB
    have BK331 := n0_
    have HB := n1_
    clear n0_ n1_
    have p332 : 0 ≤ (x3_1 : Int) := of_decide_eq_true (by first | (with_reducible assumption) | assumption)
    have q332 : x3_1 < (l0_2.length : Int) := of_decide_eq_true (by first | (with_reducible assumption) | assumption)
    obtain ⟨ad332, A332_1, c332_1, e332, hx332_0, hx332_1, hx332_2, hl332_1, hi332_1⟩ := at_T73 HR0_2.out x3_1 p332 q332
    have hw332_2 := hx332_2
    have hw332_1 := hx332_1
    have hw332_0 := hx332_0
    cases e332
    replace hx332_0 := (HB.out.cell (World.block_lt_of_cell? w _ hx332_0)).trans hx332_0
    replace hx332_1 := (HB.out.cell (World.block_lt_of_cell? w _ hx332_1)).trans hx332_1
    replace hx332_2 := (HB.out.cell (World.block_lt_of_cell? w _ hx332_2)).trans hx332_2
    have HR332_1 := yam hi332_1
    have HC332_1 := yam hl332_1
    clear hi332_1 hl332_1
    replace p332 := eq_true p332
    replace q332 := eq_true q332
    refine start_ (n := 9) (S := fun w' => w'.cell? ⟨gb331, 0, none⟩ = some (.int .i64 a0_0) ∧ w'.cell? ⟨gb331, 1, none⟩ = some (.slice A0_1 l0_1.length c0_1) ∧ w'.cell? ⟨gb331, 2, none⟩ = some (.slice (some ad332) l0_2.length c0_2) ∧ w'.cell? (ad332.add ((x3_1).toNat * 3)) = some (.int .i64 ((rd_T73 l0_2 x3_1).f0)) ∧ w'.cell? ⟨(ad332.add ((x3_1).toNat * 3)).block, (ad332.add ((x3_1).toNat * 3)).off + 1, none⟩ = some (.slice A332_1 ((rd_T73 l0_2 x3_1).f1).length c332_1) ∧ w'.cell? ⟨(ad332.add ((x3_1).toNat * 3)).block, (ad332.add ((x3_1).toNat * 3)).off + 2, none⟩ = some (.int .i64 ((rd_T73 l0_2 x3_1).f2))) (ds := []) #[false, false, false, false, false, false, false, false, false] (by kernel_rfl) rfl rfl ⟨(blk_cell BK331.out 0).trans rfl, (blk_cell BK331.out 1).trans rfl, (blk_cell BK331.out 2).trans rfl, ((HB.out.cell (World.block_lt_of_cell? w _ hw332_0)).trans hw332_0), ((HB.out.cell (World.block_lt_of_cell? w _ hw332_1)).trans hw332_1), ((HB.out.cell (World.block_lt_of_cell? w _ hw332_2)).trans hw332_2)⟩ (fun hHeld => ?_); refine with_tabW spec_PuzzleValid.tab4 spec_PuzzleValid.bits4 (fun HT_ HW_ => ?_)
    generalize wr.drew = w11 at BK331 HB HR332_1 hx332_0 hx332_1 hx332_2 hHeld ⊢
    refine yvp 0 11 (yvb 9 1) HT_.out ?_
    refine yvp 2 13 (yvb 9 5) HT_.out ?_
    refine yvp 5 16 (yvb 9 37) HT_.out ?_
    refine yvt 1 12 (yvb 9 39) HT_.out HW_.out hHeld ?_
    refine yvp 3 14 (yvb 9 47) HT_.out ?_
    refine yvt 4 15 (yvb 9 63) HT_.out HW_.out hHeld ?_
    refine yvt 6 17 (yvb 9 127) HT_.out HW_.out hHeld ?_
    refine one_ (i := 7) (N := some 18) #[true, true, true, true, true, true, true, true, false] rfl rfl (one_of HT_.out (by kernel_rfl)) (by decide) (fun K hK => ?_)
    refine goes_ Try.func83 (by kernel_rfl) rfl #[.agg #[.int .i64 ((rd_T73 l0_2 x3_1).f0), .slice A332_1 ((rd_T73 l0_2 x3_1).f1).length c332_1, .int .i64 ((rd_T73 l0_2 x3_1).f2)], .int .i64 a0_0] (by rfl) rfl rfl (by (try simp only [List.map_toArray, List.map_cons, List.map_nil]); first | done | rfl | (simp only [List.length_drop, List.length_take]; rfl)) ?_
    with_reducible refine (spec_RuleValid.calls k1 ((rd_T73 l0_2 x3_1).f0) _ _ ((rd_T73 l0_2 x3_1).f1) ((rd_T73 l0_2 x3_1).f2) a0_0 false _ ?side1 ?side2 A5.out).mono ?_
    (case side1 => exact Kd.Cz ((Kd.C_below HR332_1.out HB.out)))
    (case side2 => exact HC332_1.out)
    rintro e w12 ⟨rfl, hb⟩
    refine ⟨_, rfl, ?_⟩
    have n0_ := yam (blk_below (g := gb331) (o := .cells #[.int .i64 a0_0, .slice A0_1 l0_1.length c0_1, .slice (some ad332) l0_2.length c0_2] 37 (0, 0)) (ybz BK331.out) hb)
    have n1_ := yam (below_step (by repeat (first | (with_reducible first | exact HB.out | apply yea | apply yen | apply yed | refine below_set ?_ GE331.out) | exact HB.out)) hb)
    clear BK331
    clear HB
    have BK331 := n0_
    have HB := n1_
    clear n0_ n1_
    (try clear hb)
    (try clear hb2)
    (try clear hk)
    (try clear hi)
    refine hK.out _ _ ⟨(blk_cell BK331.out 0).trans rfl, (blk_cell BK331.out 1).trans rfl, (blk_cell BK331.out 2).trans rfl, ((HB.out.cell (World.block_lt_of_cell? w _ hw332_0)).trans hw332_0), ((HB.out.cell (World.block_lt_of_cell? w _ hw332_1)).trans hw332_1), ((HB.out.cell (World.block_lt_of_cell? w _ hw332_2)).trans hw332_2)⟩ (fun hHeld => ?_)
    clear hK K
    refine norm_ (a' := ?_) ?_ ?_
    rotate_left
    ·show Act.put _ (some 18) _ = _
     simp only [Act.put, yps, i64_w, i32_w]
     rfl
    refine yvp 8 19 (yvb 9 511) HT_.out ?_
    refine done_ (done_of HT_.out (by kernel_rfl)) ?_
    try go_wp2
    go_ret
    exact ⟨by first | rfl | (simp [errW_none, errW_some] <;> rfl) | (simp [*, errW_none, errW_some] <;> rfl), by repeat (first | (with_reducible first | exact HB.out | apply yea | apply yen | apply yed | refine below_set ?_ GE331.out) | exact HB.out)⟩
   subst c6
   have H1 : (spec_PuzzleValid.l0 k1 (wrap64 (x3_1 + 1)) a0_0 l0_1 l0_2) = some r := by rw [if_pos rfl] at H; exact H
   clear H
   have H := H1
   clear H1
   have H' := yam H
   clear H
   obtain ⟨hcz7_0, hcz7_1, hcz7_2, hfz7_0, hfz7_1, hfz7_2⟩ := ybc BK331.out
   try go_wp2
   have n0_ := yam (ybd BK331.out)
   have n1_ := yam (yed HB.out)
   clear BK331
   clear HB
   have BK331 := n0_
   have HB := n1_
   clear n0_ n1_
   have p332 : 0 ≤ (x3_1 : Int) := of_decide_eq_true (by first | (with_reducible assumption) | assumption)
   have q332 : x3_1 < (l0_2.length : Int) := of_decide_eq_true (by first | (with_reducible assumption) | assumption)
   obtain ⟨ad332, A332_1, c332_1, e332, hx332_0, hx332_1, hx332_2, hl332_1, hi332_1⟩ := at_T73 HR0_2.out x3_1 p332 q332
   have hw332_2 := hx332_2
   have hw332_1 := hx332_1
   have hw332_0 := hx332_0
   cases e332
   replace hx332_0 := (HB.out.cell (World.block_lt_of_cell? w _ hx332_0)).trans hx332_0
   replace hx332_1 := (HB.out.cell (World.block_lt_of_cell? w _ hx332_1)).trans hx332_1
   replace hx332_2 := (HB.out.cell (World.block_lt_of_cell? w _ hx332_2)).trans hx332_2
   have HR332_1 := yam hi332_1
   have HC332_1 := yam hl332_1
   clear hi332_1 hl332_1
   replace p332 := eq_true p332
   replace q332 := eq_true q332
   refine start_ (n := 9) (S := fun w' => w'.cell? ⟨gb331, 0, none⟩ = some (.int .i64 a0_0) ∧ w'.cell? ⟨gb331, 1, none⟩ = some (.slice A0_1 l0_1.length c0_1) ∧ w'.cell? ⟨gb331, 2, none⟩ = some (.slice (some ad332) l0_2.length c0_2) ∧ w'.cell? (ad332.add ((x3_1).toNat * 3)) = some (.int .i64 ((rd_T73 l0_2 x3_1).f0)) ∧ w'.cell? ⟨(ad332.add ((x3_1).toNat * 3)).block, (ad332.add ((x3_1).toNat * 3)).off + 1, none⟩ = some (.slice A332_1 ((rd_T73 l0_2 x3_1).f1).length c332_1) ∧ w'.cell? ⟨(ad332.add ((x3_1).toNat * 3)).block, (ad332.add ((x3_1).toNat * 3)).off + 2, none⟩ = some (.int .i64 ((rd_T73 l0_2 x3_1).f2))) (ds := []) #[false, false, false, false, false, false, false, false, false] (by kernel_rfl) rfl rfl ⟨(blk_cell BK331.out 0).trans rfl, (blk_cell BK331.out 1).trans rfl, (blk_cell BK331.out 2).trans rfl, ((HB.out.cell (World.block_lt_of_cell? w _ hw332_0)).trans hw332_0), ((HB.out.cell (World.block_lt_of_cell? w _ hw332_1)).trans hw332_1), ((HB.out.cell (World.block_lt_of_cell? w _ hw332_2)).trans hw332_2)⟩ (fun hHeld => ?_); refine with_tabW spec_PuzzleValid.tab4 spec_PuzzleValid.bits4 (fun HT_ HW_ => ?_)
   generalize wr.drew = w8 at BK331 HB HR332_1 hx332_0 hx332_1 hx332_2 hHeld ⊢
   refine yvp 0 11 (yvb 9 1) HT_.out ?_
   refine yvp 2 13 (yvb 9 5) HT_.out ?_
   refine yvp 5 16 (yvb 9 37) HT_.out ?_
   refine yvt 1 12 (yvb 9 39) HT_.out HW_.out hHeld ?_
   refine yvp 3 14 (yvb 9 47) HT_.out ?_
   refine yvt 4 15 (yvb 9 63) HT_.out HW_.out hHeld ?_
   refine yvt 6 17 (yvb 9 127) HT_.out HW_.out hHeld ?_
   refine one_ (i := 7) (N := some 18) #[true, true, true, true, true, true, true, true, false] rfl rfl (one_of HT_.out (by kernel_rfl)) (by decide) (fun K hK => ?_)
   refine goes_ Try.func83 (by kernel_rfl) rfl #[.agg #[.int .i64 ((rd_T73 l0_2 x3_1).f0), .slice A332_1 ((rd_T73 l0_2 x3_1).f1).length c332_1, .int .i64 ((rd_T73 l0_2 x3_1).f2)], .int .i64 a0_0] (by rfl) rfl rfl (by (try simp only [List.map_toArray, List.map_cons, List.map_nil]); first | done | rfl | (simp only [List.length_drop, List.length_take]; rfl)) ?_
   with_reducible refine (spec_RuleValid.calls k1 ((rd_T73 l0_2 x3_1).f0) _ _ ((rd_T73 l0_2 x3_1).f1) ((rd_T73 l0_2 x3_1).f2) a0_0 true _ ?side1 ?side2 A5.out).mono ?_
   (case side1 => exact Kd.Cz ((Kd.C_below HR332_1.out HB.out)))
   (case side2 => exact HC332_1.out)
   rintro e w9 ⟨rfl, hb⟩
   refine ⟨_, rfl, ?_⟩
   have n0_ := yam (blk_below (g := gb331) (o := .cells #[.int .i64 a0_0, .slice A0_1 l0_1.length c0_1, .slice (some ad332) l0_2.length c0_2] 37 (0, 0)) (ybz BK331.out) hb)
   have n1_ := yam (below_step (by repeat (first | (with_reducible first | exact HB.out | apply yea | apply yen | apply yed | refine below_set ?_ GE331.out) | exact HB.out)) hb)
   clear BK331
   clear HB
   have BK331 := n0_
   have HB := n1_
   clear n0_ n1_
   (try clear hb)
   (try clear hb2)
   (try clear hk)
   (try clear hi)
   refine hK.out _ _ ⟨(blk_cell BK331.out 0).trans rfl, (blk_cell BK331.out 1).trans rfl, (blk_cell BK331.out 2).trans rfl, ((HB.out.cell (World.block_lt_of_cell? w _ hw332_0)).trans hw332_0), ((HB.out.cell (World.block_lt_of_cell? w _ hw332_1)).trans hw332_1), ((HB.out.cell (World.block_lt_of_cell? w _ hw332_2)).trans hw332_2)⟩ (fun hHeld => ?_)
   clear hK K
   refine norm_ (a' := ?_) ?_ ?_
   rotate_left
   ·show Act.put _ (some 18) _ = _
    simp only [Act.put, yps, i64_w, i32_w]
    rfl
   refine yvp 8 19 (yvb 9 511) HT_.out ?_
   refine done_ (done_of HT_.out (by kernel_rfl)) ?_
   try go_wp2
   go_roundg k1
   case measure => have := HK1.out; omega
   case rel => exact ⟨(wrap64 (x3_1 + 1)), (by first | rfl | (simp; done) | (simp [*]; done)), H', ⟨by have := HK1.out; omega⟩, ⟨by (with_reducible repeat (first | refine ybn ?_ _ | refine ybd ?_ | refine yba ?_ _)); exact BK331.out⟩, ⟨by repeat (first | (with_reducible first | exact HB.out | apply yea | apply yen | apply yed | refine below_set ?_ GE331.out) | exact HB.out)⟩⟩
/-! ### spec_LineCells: function 87 -/
mutual
def spec_LineCells.l0 : Nat → Int → Int → List Int → Int → Option (List Int)
 | 0, _, _, _, _ => none
 | k + 1, x0, x1, x5, x6 => if x6 < x0 then ((spec_l1In.f x0 2 4).bind fun t104 => (if t104 = true then ((spec_l1In.f x1 0 (wrap64 ((wrap64 (2 * x0)) - 1))).bind fun t105 => (spec_LineCells.j1 k x0 x1 x5 x6 t105)) else (spec_LineCells.j1 k x0 x1 x5 x6 false))) else (spec_LineCells.j1 k x0 x1 x5 x6 false)
def spec_LineCells.j1 : Nat → Int → Int → List Int → Int → Bool → Option (List Int)
 | 0, _, _, _, _, _ => none
 | k + 1, x0, x1, x5, x6, x21 => if x21 = true then (if x1 < x0 then (if x5.length < 17592186044416 then (spec_LineCells.l0 k x0 x1 (x5 ++ [wrap64 ((wrap64 (x1 * x0)) + x6)]) (wrap64 (x6 + 1))) else (none)) else (if x5.length < 17592186044416 then (spec_LineCells.l0 k x0 x1 (x5 ++ [wrap64 ((wrap64 ((wrap64 (x6 * x0)) + x1)) - x0)]) (wrap64 (x6 + 1))) else (none))) else (some x5)
end
def spec_LineCells.f (k : Nat) (a0 : Int) (a1 : Int) : Option (List Int) := spec_LineCells.l0 k a0 a1 (([] : List Int)) 0
theorem spec_LineCells.mono_l : ∀ k, (∀ y0 y1 y2 y3, LeO (spec_LineCells.l0 k y0 y1 y2 y3) (spec_LineCells.l0 (k + 1) y0 y1 y2 y3)) ∧ (∀ y0 y1 y2 y3 y4, LeO (spec_LineCells.j1 k y0 y1 y2 y3 y4) (spec_LineCells.j1 (k + 1) y0 y1 y2 y3 y4))
 | 0 => ⟨fun _ _ _ _ r h => by simp [spec_LineCells.l0] at h, fun _ _ _ _ _ r h => by simp [spec_LineCells.j1] at h⟩
 | k + 1 => by
  obtain ⟨ih0, ih1⟩ := spec_LineCells.mono_l k
  refine ⟨?_, ?_⟩
  ·intro y0 y1 y2 y3
   unfold spec_LineCells.l0
   repeat' first
   | (with_reducible exact ih0 _ _ _ _)
   | (with_reducible exact ih1 _ _ _ _ _)
   | (with_reducible exact LeO.refl _)
   | (with_reducible exact LeO.none _)
   | (with_reducible refine LeO.ite ?_ ?_)
   | (with_reducible refine LeO.bind ?_ (fun _ => ?_))
   | exact ih0 _ _ _ _
   | exact ih1 _ _ _ _ _
   | exact LeO.none _
   | refine LeO.ite ?_ ?_
   | refine LeO.bind ?_ (fun _ => ?_)
  ·intro y0 y1 y2 y3 y4
   unfold spec_LineCells.j1
   repeat' first
   | (with_reducible exact ih0 _ _ _ _)
   | (with_reducible exact ih1 _ _ _ _ _)
   | (with_reducible exact LeO.refl _)
   | (with_reducible exact LeO.none _)
   | (with_reducible refine LeO.ite ?_ ?_)
   | (with_reducible refine LeO.bind ?_ (fun _ => ?_))
   | exact ih0 _ _ _ _
   | exact ih1 _ _ _ _ _
   | exact LeO.none _
   | refine LeO.ite ?_ ?_
   | refine LeO.bind ?_ (fun _ => ?_)
theorem spec_LineCells.mono : ∀ a0 a1 k, LeO (spec_LineCells.f k a0 a1) (spec_LineCells.f (k + 1) a0 a1) := by
 intro a0 a1 k
 obtain ⟨ih0, ih1⟩ := spec_LineCells.mono_l k
 unfold spec_LineCells.f
 repeat' first
   | (with_reducible exact ih0 _ _ _ _)
   | (with_reducible exact ih1 _ _ _ _ _)
   | (with_reducible exact LeO.refl _)
   | (with_reducible exact LeO.none _)
   | (with_reducible refine LeO.ite ?_ ?_)
   | (with_reducible refine LeO.bind ?_ (fun _ => ?_))
   | exact ih0 _ _ _ _
   | exact ih1 _ _ _ _ _
   | exact LeO.none _
   | refine LeO.ite ?_ ?_
   | refine LeO.bind ?_ (fun _ => ?_)
set_option maxHeartbeats 8000000 in
set_option maxRecDepth 100000 in
theorem spec_LineCells.calls (k : Nat) (a0 : Int) (a1 : Int) (r : List Int) (w : World) (h : spec_LineCells.f k a0 a1 = some r) :
  Calls Try.prog 87 #[.int .i64 a0, .int .i64 a1] w fun e w' => ∃ v0_ : Value, e = .returned (v0_) ∧ Kd.R (Kd.int .i64) 3 w' w.heap.size (fun _ => True) v0_ r ∧ Below w.heap.size w w' := by
 have HB := yam (Below.refl w.heap.size w)
 have H : (spec_LineCells.l0 k a0 a1 (([] : List Int)) 0) = some r := h
 clear h
 obtain ⟨y101, hy101⟩ : ∃ y_ : List Int, y_ = (([] : List Int)) := ⟨_, rfl⟩
 replace H : (spec_LineCells.l0 k a0 a1 y101 0) = some r := by first | (rw [hy101]; with_reducible exact H) | (have H2_ := (Option.bind_some _ _).symm.trans H; rw [hy101]; with_reducible exact H2_) | (have H2_ := (Option.bind_some _ _).symm.trans H; with_reducible exact H2_) | with_reducible exact H | (rw [hy101]; exact H) | exact H
 have Ny101 := yam hy101
 clear hy101
 have H' := yam H
 clear H
 go_enter Try.func87, Try.ntmps87
 go_wp2_with (first | ((with_reducible refine gate_dst (N := 7) rfl ?_); refine Kd.R_lit (Kd.int .i64) _ 3 ?hg (N := 7) ?hd (xs := ([] : List Int)) (inner := []) (ok := fun _ => True) (okp := fun _ => True) ?hr ?hp (fun _ hk => hk) trivial (Below.refl _ _) (Nat.le_refl _) (by simp) ?_; (case hd => rfl); (case hg => rfl); (case hr => first | (go_simp; done) | (go_simp; rfl)); (case hp => exact (Reps.none _ _)); intro v102 w3 ho4 hb hg_ hnew_; clear hg_ hnew_; (first | rw [← Ny101.out] at ho4 | (simp only [Int.reduceToNat] at ho4; rw [← Ny101.out] at ho4)); have n0_ := yam (Kd.R_lower ho4 (below_size (yez HB.out))); have n1_ := yam (below_step (yez HB.out) hb); clear HB; have HO103 := n0_; have HB := n1_; clear n0_ n1_; clear hb ho4))
 go_loopg [5, 6] k (fun kq v5 v6 w' => ∃ (x5_1 : List Int) (x6_1 : Int), v6 = .int .i64 x6_1 ∧ Aside0 (spec_LineCells.l0 kq a0 a1 x5_1 x6_1 = some r) ∧ Aside0 (kq ≤ k) ∧ Aside0 (Kd.R (Kd.int .i64) 3 w' w.heap.size (fun _ => True) v5 x5_1) ∧ Aside0 (Below w.heap.size w w'))
 case atStart => exact ⟨(y101), (0), (by first | rfl | (simp; done) | (simp [*]; done)), H', ⟨Nat.le_refl _⟩, ⟨by (with_reducible repeat (first | apply Kd.Ya | apply Kd.Yn | apply Kd.Yd)); exact HO103.out⟩, ⟨by repeat (first | (with_reducible first | exact HB.out | apply yea | apply yen | apply yed) | exact HB.out)⟩⟩
 case round =>
  clear H'
  try clear p2
  obtain ⟨x5_1, x6_1, rfl, HA, HK1, HO_5, HB⟩ := hrel
  cases gk with
  | zero => exact absurd HA.out (by simp [spec_LineCells.l0])
  | succ k1 =>
   have H := HA.out
   clear HA
   simp only [spec_LineCells.l0] at H
   have HC5 := yam H
   clear H
   go_upto_region 3 with (fail)
   go_cut [21] (fun v21 wc => ∃ (kq : Nat) (x21_4 : Bool), v21 = .bool x21_4 ∧ Aside0 (spec_LineCells.j1 kq a0 a1 x5_1 x6_1 x21_4 = some r) ∧ Aside0 (kq ≤ k1) ∧ Aside0 (Kd.R (Kd.int .i64) 3 wc w.heap.size (fun _ => True) u5 x5_1) ∧ Aside0 (Below w.heap.size w wc))
   case first =>
    have H := HC5.out
    clear HC5
    by_cases c6 : x6_1 < a0
    rotate_left
    ·rw [if_neg c6] at H
     have c6b0 : decide (x6_1 < a0) = false := decide_eq_false c6
     clear c6
     (first | rw [c6b0] | (simp only [i64_w, i32_w]; rw [c6b0]) | skip)
     have H' := yam H
     clear H
     go_wp2
     go_meet
     case rel => exact ⟨_, (false), (by first | rfl | (simp; done) | (simp [*]; done)), H', ⟨by have := HK1.out; first | omega | exact Nat.le_refl _⟩, ⟨by (with_reducible repeat (first | apply Kd.Ya | apply Kd.Yn | apply Kd.Yd)); exact HO_5.out⟩, ⟨by repeat (first | (with_reducible first | exact HB.out | apply yea | apply yen | apply yed) | exact HB.out)⟩⟩
    rw [if_pos c6] at H
    have c6b0 : decide (x6_1 < a0) = true := decide_eq_true c6
    clear c6
    (first | rw [c6b0] | (simp only [i64_w, i32_w]; rw [c6b0]) | skip)
    replace H := Option.bind_eq_some_iff.mp H
    obtain ⟨t104, A70, H⟩ := H
    try dsimp only at H
    have A7 := yam A70
    clear A70
    by_cases c8 : t104 = true
    rotate_left
    ·replace c8 := Bool.eq_false_iff.mpr c8
     subst c8
     have H1 : (spec_LineCells.j1 k1 a0 a1 x5_1 x6_1 false) = some r := by rw [if_neg (show ¬ (false = true) by decide)] at H; exact H
     clear H
     have H := H1
     clear H1
     have H' := yam H
     clear H
     go_wp2_with (first | (go_at_call 42; (with_reducible refine (spec_l1In.calls a0 2 4 false _ A7.out).mono ?_); rintro e w' ⟨rfl, ⟨nd, rfl⟩⟩))
     go_meet
     case rel => exact ⟨_, (false), (by first | rfl | (simp; done) | (simp [*]; done)), H', ⟨by have := HK1.out; first | omega | exact Nat.le_refl _⟩, ⟨by (with_reducible repeat (first | apply Kd.Ya | apply Kd.Yn | apply Kd.Yd)); exact HO_5.out⟩, ⟨by repeat (first | (with_reducible first | exact HB.out | apply yea | apply yen | apply yed) | exact HB.out)⟩⟩
    subst c8
    have H1 : ((spec_l1In.f a1 0 (wrap64 ((wrap64 (2 * a0)) - 1))).bind fun t105 => (spec_LineCells.j1 k1 a0 a1 x5_1 x6_1 t105)) = some r := by rw [if_pos rfl] at H; exact H
    clear H
    have H := H1
    clear H1
    replace H := Option.bind_eq_some_iff.mp H
    obtain ⟨t105, A90, H⟩ := H
    try dsimp only at H
    have A9 := yam A90
    clear A90
    have H' := yam H
    clear H
    go_wp2_with (first | (go_at_call 42; (with_reducible refine (spec_l1In.calls a0 2 4 true _ A7.out).mono ?_); rintro e w' ⟨rfl, ⟨nd, rfl⟩⟩) | (go_at_call 42; (with_reducible refine (spec_l1In.calls a1 0 (wrap64 ((wrap64 (2 * a0)) - 1)) t105 _ A9.out).mono ?_); rintro e w' ⟨rfl, ⟨nd, rfl⟩⟩))
    go_meet
    case rel => exact ⟨_, (t105), (by first | rfl | (simp; done) | (simp [*]; done)), H', ⟨by have := HK1.out; first | omega | exact Nat.le_refl _⟩, ⟨by (with_reducible repeat (first | apply Kd.Ya | apply Kd.Yn | apply Kd.Yd)); exact HO_5.out⟩, ⟨by repeat (first | (with_reducible first | exact HB.out | apply yea | apply yen | apply yed) | exact HB.out)⟩⟩
   case rest =>
    clear HC5
    try clear p2
    try clear c6
    try clear c6b0
    try clear p6
    try clear c8
    try clear p2
    obtain ⟨kq, x21_4, rfl, HA, HJ4, HO_5, HB⟩ := hcut
    cases kq with
    | zero => exact absurd HA.out (by simp [spec_LineCells.j1])
    | succ kj4 =>
     have H := HA.out
     clear HA
     simp only [spec_LineCells.j1] at H
     by_cases c10 : x21_4 = true
     rotate_left
     ·replace c10 := Bool.eq_false_iff.mpr c10
      subst c10
      have H1 : (some x5_1) = some r := by rw [if_neg (show ¬ (false = true) by decide)] at H; exact H
      clear H
      have H := H1
      clear H1
      obtain rfl := Option.some.inj H
      go_wp2
      go_ret
      exact ⟨_, by first | rfl | (simp [errW_none, errW_some] <;> rfl) | (simp [*, errW_none, errW_some] <;> rfl), by (with_reducible repeat (first | apply Kd.Ya | apply Kd.Yn | apply Kd.Yd)); exact HO_5.out, by repeat (first | (with_reducible first | exact HB.out | apply yea | apply yen | apply yed) | exact HB.out)⟩

     subst c10
     have H1 : (if a1 < a0 then (if x5_1.length < 17592186044416 then (spec_LineCells.l0 kj4 a0 a1 (x5_1 ++ [wrap64 ((wrap64 (a1 * a0)) + x6_1)]) (wrap64 (x6_1 + 1))) else (none)) else (if x5_1.length < 17592186044416 then (spec_LineCells.l0 kj4 a0 a1 (x5_1 ++ [wrap64 ((wrap64 ((wrap64 (x6_1 * a0)) + a1)) - a0)]) (wrap64 (x6_1 + 1))) else (none))) = some r := by rw [if_pos rfl] at H; exact H
     clear H
     have H := H1
     clear H1
     by_cases c11 : a1 < a0
     ·rw [if_pos c11] at H
      have c11b0 : decide (a1 < a0) = true := decide_eq_true c11
      clear c11
      by_cases c12 : x5_1.length < 17592186044416
      rotate_left
      ·rw [if_neg c12] at H
       exact absurd H (by simp)
      rw [if_pos c12] at H
      have LMc12 := yam c12
      clear c12
      obtain ⟨y106, hy106⟩ : ∃ y_ : List Int, y_ = (x5_1 ++ [wrap64 ((wrap64 (a1 * a0)) + x6_1)]) := ⟨_, rfl⟩
      replace H : (spec_LineCells.l0 kj4 a0 a1 y106 (wrap64 (x6_1 + 1))) = some r := by first | (rw [hy106]; with_reducible exact H) | (have H2_ := (Option.bind_some _ _).symm.trans H; rw [hy106]; with_reducible exact H2_) | (have H2_ := (Option.bind_some _ _).symm.trans H; with_reducible exact H2_) | with_reducible exact H | (rw [hy106]; exact H) | exact H
      have Ny106 := yam hy106
      clear hy106
      have H' := yam H
      clear H
      go_wp2_with (first | ((with_reducible refine gate_builtin (b := .append) (xs := #[.tmp 27, .tmp 33]) rfl ?_); at_builtin; refine Kd.R_append (Kd.int .i64) (w0 := w) w.heap.size rfl (.tmp 27) (.tmp 33) 22 3 (.int .i64 0) 8 rfl Try.underlying22 info3 rfl (by decide) (by omega) u5 x5_1 (wrap64 ((wrap64 (a1 * a0)) + x6_1)) [.int .i64 (wrap64 ((wrap64 (a1 * a0)) + x6_1))] (fun _ => True) (fun _ => False) rfl rfl ?aP (fun _ hk => hk.elim) ?aF ?aO ?aB ?aS ?aL ?_; (case aP => exact rfl); (case aB => exact (yez HB.out)); (case aF => exact (fun _ _ => trivial)); (case aO => exact (Kd.Yz HO_5.out)); (case aS => exact (below_size (yez HB.out))); (case aL => have := LMc12.out; omega); intro v107 w13 ho hb hg hat; rw [← Ny106.out] at ho; have n0_ := yam (hb); have n1_ := yam (ho); clear HB; clear HO_5; have HB := n0_; have HO108 := n1_; clear n0_ n1_; clear ho hb hg hat))
      go_roundg kj4
      case measure => have := HK1.out; have := HJ4.out; omega
      case rel => exact ⟨(y106), (wrap64 (x6_1 + 1)), (by first | rfl | (simp; done) | (simp [*]; done)), H', ⟨by have := HK1.out; have := HJ4.out; omega⟩, ⟨by (with_reducible repeat (first | apply Kd.Ya | apply Kd.Yn | apply Kd.Yd)); exact HO108.out⟩, ⟨by repeat (first | (with_reducible first | exact HB.out | apply yea | apply yen | apply yed) | exact HB.out)⟩⟩
     rw [if_neg c11] at H
     have c11b0 : decide (a1 < a0) = false := decide_eq_false c11
     clear c11
     by_cases c14 : x5_1.length < 17592186044416
     rotate_left
     ·rw [if_neg c14] at H
      exact absurd H (by simp)
     rw [if_pos c14] at H
     have LMc14 := yam c14
     clear c14
     obtain ⟨y109, hy109⟩ : ∃ y_ : List Int, y_ = (x5_1 ++ [wrap64 ((wrap64 ((wrap64 (x6_1 * a0)) + a1)) - a0)]) := ⟨_, rfl⟩
     replace H : (spec_LineCells.l0 kj4 a0 a1 y109 (wrap64 (x6_1 + 1))) = some r := by first | (rw [hy109]; with_reducible exact H) | (have H2_ := (Option.bind_some _ _).symm.trans H; rw [hy109]; with_reducible exact H2_) | (have H2_ := (Option.bind_some _ _).symm.trans H; with_reducible exact H2_) | with_reducible exact H | (rw [hy109]; exact H) | exact H
     have Ny109 := yam hy109
     clear hy109
     have H' := yam H
     clear H
     go_wp2_with (first | ((with_reducible refine gate_builtin (b := .append) (xs := #[.tmp 35, .tmp 43]) rfl ?_); at_builtin; refine Kd.R_append (Kd.int .i64) (w0 := w) w.heap.size rfl (.tmp 35) (.tmp 43) 22 3 (.int .i64 0) 8 rfl Try.underlying22 info3 rfl (by decide) (by omega) u5 x5_1 (wrap64 ((wrap64 ((wrap64 (x6_1 * a0)) + a1)) - a0)) [.int .i64 (wrap64 ((wrap64 ((wrap64 (x6_1 * a0)) + a1)) - a0))] (fun _ => True) (fun _ => False) rfl rfl ?aP (fun _ hk => hk.elim) ?aF ?aO ?aB ?aS ?aL ?_; (case aP => exact rfl); (case aB => exact (yez HB.out)); (case aF => exact (fun _ _ => trivial)); (case aO => exact (Kd.Yz HO_5.out)); (case aS => exact (below_size (yez HB.out))); (case aL => have := LMc14.out; omega); intro v110 w15 ho hb hg hat; rw [← Ny109.out] at ho; have n0_ := yam (hb); have n1_ := yam (ho); clear HB; clear HO_5; have HB := n0_; have HO111 := n1_; clear n0_ n1_; clear ho hb hg hat))
     go_roundg kj4
     case measure => have := HK1.out; have := HJ4.out; omega
     case rel => exact ⟨(y109), (wrap64 (x6_1 + 1)), (by first | rfl | (simp; done) | (simp [*]; done)), H', ⟨by have := HK1.out; have := HJ4.out; omega⟩, ⟨by (with_reducible repeat (first | apply Kd.Ya | apply Kd.Yn | apply Kd.Yd)); exact HO111.out⟩, ⟨by repeat (first | (with_reducible first | exact HB.out | apply yea | apply yen | apply yed) | exact HB.out)⟩⟩
/-! ### spec_l2Clash: function 71 -/
mutual
def spec_l2Clash.l0 : Nat → List Int → Int → Int → Option (Bool)
 | 0, _, _, _ => none
 | k + 1, x0, x1, x5 => if x5 < (wrap64 (2 * x1)) then ((spec_LineCells.f k x1 x5).bind fun t112 => (spec_l2Clash.l1 k x0 x1 x5 t112 0 0)) else (some false)
def spec_l2Clash.l1 : Nat → List Int → Int → Int → List Int → Int → Int → Option (Bool)
 | 0, _, _, _, _, _, _ => none
 | k + 1, x0, x1, x5, x6, x7, x8 => if x8 < (x6.length : Int) then (if 0 ≤ x8 then (if 0 ≤ (rd x6 x8) then (if (rd x6 x8) < (x0.length : Int) then (if (rd x0 (rd x6 x8)) > 0 then (if 0 ≤ (rd x0 (rd x6 x8)) then (if (Int.tmod (shr .i64 x7 (rd x0 (rd x6 x8))) 2) = 1 then (some true) else (spec_l2Clash.l1 k x0 x1 x5 x6 (Go.bits .or .i64 x7 (shl .i64 1 (rd x0 (rd x6 x8)))) (wrap64 (x8 + 1)))) else (none)) else (if 0 ≤ (rd x0 (rd x6 x8)) then (spec_l2Clash.l1 k x0 x1 x5 x6 (Go.bits .or .i64 x7 (shl .i64 1 (rd x0 (rd x6 x8)))) (wrap64 (x8 + 1))) else (none))) else (none)) else (none)) else (none)) else (spec_l2Clash.l0 k x0 x1 (wrap64 (x5 + 1)))
end
def spec_l2Clash.f (k : Nat) (l0 : List Int) (a1 : Int) : Option (Bool) := spec_l2Clash.l0 k l0 a1 0
set_option maxHeartbeats 8000000 in
set_option maxRecDepth 100000 in
theorem spec_l2Clash.calls (k : Nat) (A0 : Option Addr) (c0 : Nat) (l0 : List Int) (a1 : Int) (r : Bool) (w : World) (hr0 : Kd.C (Kd.int .i64) w A0 l0.length l0) (hc0 : l0.length ≤ c0) (h : spec_l2Clash.f k l0 a1 = some r) :
  Calls Try.prog 71 #[.slice A0 l0.length c0, .int .i64 a1] w fun e w' => e = .returned (.bool r) ∧ Below w.heap.size w w' := by
 have HR0 := yam hr0
 have HC0 := yam hc0
 clear hr0 hc0
 have HB := yam (Below.refl w.heap.size w)
 have H : (spec_l2Clash.l0 k l0 a1 0) = some r := h
 clear h
 have H' := yam H
 clear H
 go_enter Try.func71, Try.ntmps71
 go_wp2
 go_loopg [5] k (fun kq v5 w' => ∃ (x5_1 : Int), v5 = .int .i64 x5_1 ∧ Aside0 (spec_l2Clash.l0 kq l0 a1 x5_1 = some r) ∧ Aside0 (kq ≤ k) ∧ Aside0 (Below w.heap.size w w'))
 case atStart => exact ⟨(0), (by first | rfl | (simp; done) | (simp [*]; done)), H', ⟨Nat.le_refl _⟩, ⟨by repeat (first | (with_reducible first | exact HB.out | apply yea | apply yen | apply yed) | exact HB.out)⟩⟩
 case round =>
  clear H'
  try clear p2
  obtain ⟨x5_1, rfl, HA, HK1, HB⟩ := hrel
  cases gk with
  | zero => exact absurd HA.out (by simp [spec_l2Clash.l0])
  | succ k1 =>
   have H := HA.out
   clear HA
   simp only [spec_l2Clash.l0] at H
   by_cases c3 : x5_1 < (wrap64 (2 * a1))
   rotate_left
   ·rw [if_neg c3] at H
    have c3b0 : decide (x5_1 < (wrap64 (2 * a1))) = false := decide_eq_false c3
    clear c3
    obtain rfl := Option.some.inj H
    go_wp2
    go_ret
    exact ⟨by first | rfl | (simp [errW_none, errW_some] <;> rfl) | (simp [*, errW_none, errW_some] <;> rfl), by repeat (first | (with_reducible first | exact HB.out | apply yea | apply yen | apply yed) | exact HB.out)⟩

   rw [if_pos c3] at H
   have c3b0 : decide (x5_1 < (wrap64 (2 * a1))) = true := decide_eq_true c3
   clear c3
   replace H := Option.bind_eq_some_iff.mp H
   obtain ⟨t112, A40, H⟩ := H
   try dsimp only at H
   have A4 := yam A40
   clear A40
   have H' := yam H
   clear H
   go_wp2_with (first | ((with_reducible refine gate_callee (f := 87) rfl ?_); refine goesL_ (some 18) rfl rfl Try.func87 (by kernel_rfl) rfl #[.int .i64 a1, .int .i64 x5_1] rfl (by (try simp only [List.map_toArray, List.map_cons, List.map_nil]); first | done | rfl | (simp only [List.length_drop, List.length_take]; rfl)) ?_; (with_reducible refine (spec_LineCells.calls k1 a1 x5_1 t112 _ A4.out).mono ?_); rintro e w5 ⟨v113, rfl, ho0, hb⟩; refine ⟨_, rfl, ?_⟩; have n0_ := yam (Kd.R_lower ho0 (below_size (yez HB.out))); have n1_ := yam (below_step (yez HB.out) hb); clear HB; have HO114 := n0_; have HB := n1_; clear n0_ n1_; (try clear hb); (try clear hb2); (try clear hk); (try clear hi); (try clear ho0)))
   go_loopg [7, 8] k1 (fun kq v7 v8 w' => ∃ (x7_2 : Int) (x8_2 : Int), v7 = .int .i64 x7_2 ∧ v8 = .int .i64 x8_2 ∧ Aside0 (spec_l2Clash.l1 kq l0 a1 x5_1 t112 x7_2 x8_2 = some r) ∧ Aside0 (kq ≤ k1) ∧ Aside0 (Kd.R (Kd.int .i64) 3 w' w.heap.size (fun _ => True) v113 t112) ∧ Aside0 (Below w.heap.size w w'))
   case atStart => exact ⟨(0), (0), (by first | rfl | (simp; done) | (simp [*]; done)), (by first | rfl | (simp; done) | (simp [*]; done)), H', ⟨Nat.le_refl _⟩, ⟨by (with_reducible repeat (first | apply Kd.Ya | apply Kd.Yn | apply Kd.Yd)); exact HO114.out⟩, ⟨by repeat (first | (with_reducible first | exact HB.out | apply yea | apply yen | apply yed) | exact HB.out)⟩⟩
   case round =>
    clear H'
    try clear p2
    try clear c3
    try clear c3b0
    try clear p2
    obtain ⟨x7_2, x8_2, rfl, rfl, HA, HK2, HO_6, HB⟩ := hrel
    cases gk with
    | zero => exact absurd HA.out (by simp [spec_l2Clash.l1])
    | succ k2 =>
     have H := HA.out
     clear HA
     simp only [spec_l2Clash.l1] at H
     by_cases c6 : x8_2 < (t112.length : Int)
     rotate_left
     ·rw [if_neg c6] at H
      have c6b0 : decide (x8_2 < (t112.length : Int)) = false := decide_eq_false c6
      clear c6
      have H' := yam H
      clear H
      obtain ⟨Ao21, co21, eo21⟩ := Kd.R_slice HO_6.out
      subst eo21
      go_wp2
      go_roundg k2
      case measure => have := HK1.out; have := HK2.out; omega
      case rel => exact ⟨(wrap64 (x5_1 + 1)), (by first | rfl | (simp; done) | (simp [*]; done)), H', ⟨by have := HK1.out; have := HK2.out; omega⟩, ⟨by repeat (first | (with_reducible first | exact HB.out | apply yea | apply yen | apply yed) | exact HB.out)⟩⟩
     rw [if_pos c6] at H
     have c6b0 : decide (x8_2 < (t112.length : Int)) = true := decide_eq_true c6
     clear c6
     by_cases c7 : 0 ≤ x8_2
     rotate_left
     ·rw [if_neg c7] at H
      exact absurd H (by simp)
     rw [if_pos c7] at H
     have c7b0 : decide (0 ≤ x8_2) = true := decide_eq_true c7
     clear c7
     by_cases c8 : 0 ≤ (rd t112 x8_2)
     rotate_left
     ·rw [if_neg c8] at H
      exact absurd H (by simp)
     rw [if_pos c8] at H
     have c8b0 : decide (0 ≤ (rd t112 x8_2)) = true := decide_eq_true c8
     clear c8
     by_cases c9 : (rd t112 x8_2) < (l0.length : Int)
     rotate_left
     ·rw [if_neg c9] at H
      exact absurd H (by simp)
     rw [if_pos c9] at H
     have c9b0 : decide ((rd t112 x8_2) < (l0.length : Int)) = true := decide_eq_true c9
     clear c9
     by_cases c10 : (rd l0 (rd t112 x8_2)) > 0
     rotate_left
     ·rw [if_neg c10] at H
      have c10b0 : decide (0 < (rd l0 (rd t112 x8_2))) = false := decide_eq_false c10
      clear c10
      by_cases c18 : 0 ≤ (rd l0 (rd t112 x8_2))
      rotate_left
      ·rw [if_neg c18] at H
       exact absurd H (by simp)
      rw [if_pos c18] at H
      have c18b0 := eq_true c18
      have c18b1 : decide (0 ≤ (rd l0 (rd t112 x8_2))) = true := decide_eq_true c18
      clear c18
      obtain ⟨ji19, hji19⟩ : ∃ j_ : Int, (shl .i64 1 (rd l0 (rd t112 x8_2))) = j_ := ⟨_, rfl⟩
      replace H : (spec_l2Clash.l1 k2 l0 a1 x5_1 t112 (Go.bits .or .i64 x7_2 (ji19)) (wrap64 (x8_2 + 1))) = some r := by first | (rw [hji19] at H; exact H) | (simp only [hji19] at H ⊢; exact H)
      have hji19_ : (IntKind.i64.wrap (1 * 2 ^ min (rd l0 (rd t112 x8_2)).toNat 64)) = ji19 := hji19
      have hji19z : (rd l0 (rd t112 x8_2)) ≤ 64 → (IntKind.i64.wrap (1 * 2 ^ (rd l0 (rd t112 x8_2)).toNat)) = ji19 := shl_small hji19
      have hji19u : (IntKind.i64.wrap (2 ^ min (rd l0 (rd t112 x8_2)).toNat 64)) = ji19 := by have h_ := hji19_; rw [Int.one_mul] at h_; exact h_
      have hji19v : (rd l0 (rd t112 x8_2)) ≤ 64 → (IntKind.i64.wrap (2 ^ (rd l0 (rd t112 x8_2)).toNat)) = ji19 := fun hle_ => by have h_ := hji19z hle_; rw [Int.one_mul] at h_; exact h_
      have hji19y : (wrap64 (1 * 2 ^ min (rd l0 (rd t112 x8_2)).toNat 64)) = ji19 := (i64_w _).symm.trans hji19_
      have hji19x : (rd l0 (rd t112 x8_2)) ≤ 64 → (wrap64 (1 * 2 ^ (rd l0 (rd t112 x8_2)).toNat)) = ji19 := fun h_ => (i64_w _).symm.trans (hji19z h_)
      have H' := yam H
      clear H
      obtain ⟨Ao20, co20, eo20⟩ := Kd.R_slice HO_6.out
      subst eo20
      have p115 : 0 ≤ (x8_2 : Int) := of_decide_eq_true (by first | (with_reducible assumption) | assumption)
      have q115 : x8_2 < (t112.length : Int) := of_decide_eq_true (by first | (with_reducible assumption) | assumption)
      obtain ⟨ad115, e115, hx115_0⟩ := Kd.at_int (Kd.Yr HO_6.out).2.2 x8_2 p115 q115
      cases e115
      replace p115 := eq_true p115
      replace q115 := eq_true q115
      have p116 : 0 ≤ ((rd t112 x8_2) : Int) := of_decide_eq_true (by first | (with_reducible assumption) | assumption)
      have q116 : (rd t112 x8_2) < (l0.length : Int) := of_decide_eq_true (by first | (with_reducible assumption) | assumption)
      obtain ⟨ad116, e116, hx116_0⟩ := Kd.at_int HR0.out (rd t112 x8_2) p116 q116
      cases e116
      replace hx116_0 := (HB.out.cell (World.block_lt_of_cell? w _ hx116_0)).trans hx116_0
      replace p116 := eq_true p116
      replace q116 := eq_true q116
      go_wp2
      go_roundg k2
      case measure => have := HK1.out; have := HK2.out; omega
      case rel => exact ⟨(Go.bits .or .i64 x7_2 (ji19)), (wrap64 (x8_2 + 1)), (by first | rfl | (simp; done) | (simp only [← hji19] <;> (first | rfl | simp)) | (simp [*]; done)), (by first | rfl | (simp; done) | (simp [*]; done)), H', ⟨by have := HK1.out; have := HK2.out; omega⟩, ⟨by (with_reducible repeat (first | apply Kd.Ya | apply Kd.Yn | apply Kd.Yd)); exact HO_6.out⟩, ⟨by repeat (first | (with_reducible first | exact HB.out | apply yea | apply yen | apply yed) | exact HB.out)⟩⟩
     rw [if_pos c10] at H
     have c10b0 : decide (0 < (rd l0 (rd t112 x8_2))) = true := decide_eq_true c10
     clear c10
     by_cases c11 : 0 ≤ (rd l0 (rd t112 x8_2))
     rotate_left
     ·rw [if_neg c11] at H
      exact absurd H (by simp)
     rw [if_pos c11] at H
     have c11b0 := eq_true c11
     have c11b1 : decide (0 ≤ (rd l0 (rd t112 x8_2))) = true := decide_eq_true c11
     clear c11
     obtain ⟨ji12, hji12⟩ : ∃ j_ : Int, (shr .i64 x7_2 (rd l0 (rd t112 x8_2))) = j_ := ⟨_, rfl⟩
     replace H : (if (Int.tmod (ji12) 2) = 1 then (some true) else (spec_l2Clash.l1 k2 l0 a1 x5_1 t112 (Go.bits .or .i64 x7_2 (shl .i64 1 (rd l0 (rd t112 x8_2)))) (wrap64 (x8_2 + 1)))) = some r := by first | (rw [hji12] at H; exact H) | (simp only [hji12] at H ⊢; exact H)
     have hji12_ : (x7_2 / 2 ^ min (rd l0 (rd t112 x8_2)).toNat 64) = ji12 := hji12
     have hji12z : (rd l0 (rd t112 x8_2)) ≤ 64 → (x7_2 / 2 ^ (rd l0 (rd t112 x8_2)).toNat) = ji12 := shr_small hji12
     by_cases c13 : (Int.tmod (ji12) 2) = 1
     ·rw [if_pos c13] at H
      have c13b0 : ((Int.tmod (ji12) 2) == 1) = true := beq_iff_eq.mpr c13
      have c13b1 : ((Int.tmod (ji12) 2) != 1) = false := bne_eq_false_iff_eq.mpr c13
      clear c13
      obtain rfl := Option.some.inj H
      obtain ⟨Ao14, co14, eo14⟩ := Kd.R_slice HO_6.out
      subst eo14
      have p115 : 0 ≤ (x8_2 : Int) := of_decide_eq_true (by first | (with_reducible assumption) | assumption)
      have q115 : x8_2 < (t112.length : Int) := of_decide_eq_true (by first | (with_reducible assumption) | assumption)
      obtain ⟨ad115, e115, hx115_0⟩ := Kd.at_int (Kd.Yr HO_6.out).2.2 x8_2 p115 q115
      cases e115
      replace p115 := eq_true p115
      replace q115 := eq_true q115
      have p116 : 0 ≤ ((rd t112 x8_2) : Int) := of_decide_eq_true (by first | (with_reducible assumption) | assumption)
      have q116 : (rd t112 x8_2) < (l0.length : Int) := of_decide_eq_true (by first | (with_reducible assumption) | assumption)
      obtain ⟨ad116, e116, hx116_0⟩ := Kd.at_int HR0.out (rd t112 x8_2) p116 q116
      cases e116
      replace hx116_0 := (HB.out.cell (World.block_lt_of_cell? w _ hx116_0)).trans hx116_0
      replace p116 := eq_true p116
      replace q116 := eq_true q116
      go_wp2
      go_ret
      exact ⟨by first | rfl | (simp [errW_none, errW_some] <;> rfl) | (simp only [← hji12]; first | rfl | (simp [errW_none, errW_some] <;> rfl)) | (simp [*, errW_none, errW_some] <;> rfl), by repeat (first | (with_reducible first | exact HB.out | apply yea | apply yen | apply yed) | exact HB.out)⟩
     rw [if_neg c13] at H
     have c13b0 : ((Int.tmod (ji12) 2) == 1) = false := beq_eq_false_iff_ne.mpr c13
     have c13b1 : ((Int.tmod (ji12) 2) != 1) = true := bne_iff_ne.mpr c13
     have c15b0 := eq_true (of_decide_eq_true (by first | (with_reducible assumption) | assumption) : 0 ≤ (rd l0 (rd t112 x8_2)))
     obtain ⟨ji16, hji16⟩ : ∃ j_ : Int, (shl .i64 1 (rd l0 (rd t112 x8_2))) = j_ := ⟨_, rfl⟩
     replace H : (spec_l2Clash.l1 k2 l0 a1 x5_1 t112 (Go.bits .or .i64 x7_2 (ji16)) (wrap64 (x8_2 + 1))) = some r := by first | (rw [hji16] at H; exact H) | (simp only [hji16] at H ⊢; exact H)
     have hji16_ : (IntKind.i64.wrap (1 * 2 ^ min (rd l0 (rd t112 x8_2)).toNat 64)) = ji16 := hji16
     have hji16z : (rd l0 (rd t112 x8_2)) ≤ 64 → (IntKind.i64.wrap (1 * 2 ^ (rd l0 (rd t112 x8_2)).toNat)) = ji16 := shl_small hji16
     have hji16u : (IntKind.i64.wrap (2 ^ min (rd l0 (rd t112 x8_2)).toNat 64)) = ji16 := by have h_ := hji16_; rw [Int.one_mul] at h_; exact h_
     have hji16v : (rd l0 (rd t112 x8_2)) ≤ 64 → (IntKind.i64.wrap (2 ^ (rd l0 (rd t112 x8_2)).toNat)) = ji16 := fun hle_ => by have h_ := hji16z hle_; rw [Int.one_mul] at h_; exact h_
     have hji16y : (wrap64 (1 * 2 ^ min (rd l0 (rd t112 x8_2)).toNat 64)) = ji16 := (i64_w _).symm.trans hji16_
     have hji16x : (rd l0 (rd t112 x8_2)) ≤ 64 → (wrap64 (1 * 2 ^ (rd l0 (rd t112 x8_2)).toNat)) = ji16 := fun h_ => (i64_w _).symm.trans (hji16z h_)
     have H' := yam H
     clear H
     obtain ⟨Ao17, co17, eo17⟩ := Kd.R_slice HO_6.out
     subst eo17
     have p115 : 0 ≤ (x8_2 : Int) := of_decide_eq_true (by first | (with_reducible assumption) | assumption)
     have q115 : x8_2 < (t112.length : Int) := of_decide_eq_true (by first | (with_reducible assumption) | assumption)
     obtain ⟨ad115, e115, hx115_0⟩ := Kd.at_int (Kd.Yr HO_6.out).2.2 x8_2 p115 q115
     cases e115
     replace p115 := eq_true p115
     replace q115 := eq_true q115
     have p116 : 0 ≤ ((rd t112 x8_2) : Int) := of_decide_eq_true (by first | (with_reducible assumption) | assumption)
     have q116 : (rd t112 x8_2) < (l0.length : Int) := of_decide_eq_true (by first | (with_reducible assumption) | assumption)
     obtain ⟨ad116, e116, hx116_0⟩ := Kd.at_int HR0.out (rd t112 x8_2) p116 q116
     cases e116
     replace hx116_0 := (HB.out.cell (World.block_lt_of_cell? w _ hx116_0)).trans hx116_0
     replace p116 := eq_true p116
     replace q116 := eq_true q116
     go_wp2
     go_roundg k2
     case measure => have := HK1.out; have := HK2.out; omega
     case rel => exact ⟨(Go.bits .or .i64 x7_2 (ji16)), (wrap64 (x8_2 + 1)), (by first | rfl | (simp; done) | (simp only [← hji16] <;> (first | rfl | simp)) | (simp [*]; done)), (by first | rfl | (simp; done) | (simp [*]; done)), H', ⟨by have := HK1.out; have := HK2.out; omega⟩, ⟨by (with_reducible repeat (first | apply Kd.Ya | apply Kd.Yn | apply Kd.Yd)); exact HO_6.out⟩, ⟨by repeat (first | (with_reducible first | exact HB.out | apply yea | apply yen | apply yed) | exact HB.out)⟩⟩
/-! ### spec_MasksValid: function 97 -/
def spec_MasksValid.l0 : Nat → List Int → Int → Int → Option (Bool)
 | 0, _, _, _ => none
 | k + 1, x0, x1, x5 => if x5 < (x0.length : Int) then (if 0 ≤ x5 then (if 0 ≤ (wrap64 ((Go.bits .and .i64 x1 7) + 1)) then ((spec_l1In.f (rd x0 x5) 0 (wrap64 ((shl .i64 1 (wrap64 ((Go.bits .and .i64 x1 7) + 1))) - 2))).bind fun t336 => (if t336 = true then (if (Int.tmod (rd x0 x5) 2) = 0 then (spec_MasksValid.l0 k x0 x1 (wrap64 (x5 + 1))) else (some false)) else (some false))) else (none)) else (none)) else ((spec_l1In.f x1 2 4).bind fun t338 => (if t338 = true then (some ((x0.length : Int) == (wrap64 (x1 * x1)))) else (some false)))
def spec_MasksValid.f (k : Nat) (l0 : List Int) (a1 : Int) : Option (Bool) := spec_MasksValid.l0 k l0 a1 0
set_option maxHeartbeats 8000000 in
set_option maxRecDepth 100000 in
theorem spec_MasksValid.calls (k : Nat) (A0 : Option Addr) (c0 : Nat) (l0 : List Int) (a1 : Int) (r : Bool) (w : World) (hr0 : Kd.C (Kd.int .i64) w A0 l0.length l0) (hc0 : l0.length ≤ c0) (h : spec_MasksValid.f k l0 a1 = some r) :
  Calls Try.prog 97 #[.slice A0 l0.length c0, .int .i64 a1] w fun e w' => e = .returned (.bool r) ∧ Drawn0 w w' := by
 have HR0 := yam hr0
 have HC0 := yam hc0
 clear hr0 hc0
 have H : (spec_MasksValid.l0 k l0 a1 0) = some r := h
 clear h
 have H' := yam H
 clear H
 go_enter Try.func97, Try.ntmps97
 go_wp2
 repeat (go_quiet (fail); try go_wp2)
 go_loopg [5] k (fun kq v5 w' => ∃ (x5_1 : Int), v5 = .int .i64 x5_1 ∧ Aside0 (spec_MasksValid.l0 kq l0 a1 x5_1 = some r) ∧ Aside0 (kq ≤ k) ∧ Drawn0 w w')
 case atStart => exact ⟨(0), (by first | rfl | (simp; done) | (simp [*]; done)), H', ⟨Nat.le_refl _⟩, by repeat (first | exact Drawn0.refl _ | apply Drawn0.step)⟩
 case round =>
  clear H'
  try clear p2
  obtain ⟨x5_1, rfl, HA, HK1, ⟨m1, rfl⟩⟩ := hrel
  cases gk with
  | zero => exact absurd HA.out (by simp [spec_MasksValid.l0])
  | succ k1 =>
   have H := HA.out
   clear HA
   simp only [spec_MasksValid.l0] at H
   by_cases c3 : x5_1 < (l0.length : Int)
   rotate_left
   ·rw [if_neg c3] at H
    have c3b0 : decide (x5_1 < (l0.length : Int)) = false := decide_eq_false c3
    clear c3
    replace H := Option.bind_eq_some_iff.mp H
    obtain ⟨t338, A110, H⟩ := H
    try dsimp only at H
    have A11 := yam A110
    clear A110
    by_cases c12 : t338 = true
    ·subst c12
     have H1 : (some ((l0.length : Int) == (wrap64 (a1 * a1)))) = some r := by rw [if_pos rfl] at H; exact H
     clear H
     have H := H1
     clear H1
     obtain rfl := Option.some.inj H
     go_wp2_with (first | (go_at_call 42; (with_reducible refine (spec_l1In.calls a1 2 4 true _ A11.out).mono ?_); rintro e w' ⟨rfl, ⟨nd, rfl⟩⟩; (try first | exact ⟨rfl, _, World.drewN_drewN _ _ _⟩ | exact ⟨rfl, _, Eq.trans (World.drewN_drewN _ _ _) (congrArg (World.drewN _) (Nat.add_assoc _ _ _))⟩)))
     repeat (go_quiet (first | (go_at_call 42; (with_reducible refine (spec_l1In.calls a1 2 4 true _ A11.out).mono ?_); rintro e w' ⟨rfl, ⟨nd, rfl⟩⟩; (try first | exact ⟨rfl, _, World.drewN_drewN _ _ _⟩ | exact ⟨rfl, _, Eq.trans (World.drewN_drewN _ _ _) (congrArg (World.drewN _) (Nat.add_assoc _ _ _))⟩))); try go_wp2_with (first | (go_at_call 42; (with_reducible refine (spec_l1In.calls a1 2 4 true _ A11.out).mono ?_); rintro e w' ⟨rfl, ⟨nd, rfl⟩⟩; (try first | exact ⟨rfl, _, World.drewN_drewN _ _ _⟩ | exact ⟨rfl, _, Eq.trans (World.drewN_drewN _ _ _) (congrArg (World.drewN _) (Nat.add_assoc _ _ _))⟩))))
     go_ret
     exact ⟨by first | rfl | (simp; done) | (simp [*]; done), by repeat (first | exact Drawn0.refl _ | apply Drawn0.step)⟩
    replace c12 := Bool.eq_false_iff.mpr c12
    subst c12
    have H1 : (some false) = some r := by rw [if_neg (show ¬ (false = true) by decide)] at H; exact H
    clear H
    have H := H1
    clear H1
    obtain rfl := Option.some.inj H
    go_wp2_with (first | (go_at_call 42; (with_reducible refine (spec_l1In.calls a1 2 4 false _ A11.out).mono ?_); rintro e w' ⟨rfl, ⟨nd, rfl⟩⟩; (try first | exact ⟨rfl, _, World.drewN_drewN _ _ _⟩ | exact ⟨rfl, _, Eq.trans (World.drewN_drewN _ _ _) (congrArg (World.drewN _) (Nat.add_assoc _ _ _))⟩)))
    repeat (go_quiet (first | (go_at_call 42; (with_reducible refine (spec_l1In.calls a1 2 4 false _ A11.out).mono ?_); rintro e w' ⟨rfl, ⟨nd, rfl⟩⟩; (try first | exact ⟨rfl, _, World.drewN_drewN _ _ _⟩ | exact ⟨rfl, _, Eq.trans (World.drewN_drewN _ _ _) (congrArg (World.drewN _) (Nat.add_assoc _ _ _))⟩))); try go_wp2_with (first | (go_at_call 42; (with_reducible refine (spec_l1In.calls a1 2 4 false _ A11.out).mono ?_); rintro e w' ⟨rfl, ⟨nd, rfl⟩⟩; (try first | exact ⟨rfl, _, World.drewN_drewN _ _ _⟩ | exact ⟨rfl, _, Eq.trans (World.drewN_drewN _ _ _) (congrArg (World.drewN _) (Nat.add_assoc _ _ _))⟩))))
    go_ret
    exact ⟨by first | rfl | (simp; done) | (simp [*]; done), by repeat (first | exact Drawn0.refl _ | apply Drawn0.step)⟩

   rw [if_pos c3] at H
   have c3b0 : decide (x5_1 < (l0.length : Int)) = true := decide_eq_true c3
   clear c3
   by_cases c4 : 0 ≤ x5_1
   rotate_left
   ·rw [if_neg c4] at H
    exact absurd H (by simp)
   rw [if_pos c4] at H
   have c4b0 : decide (0 ≤ x5_1) = true := decide_eq_true c4
   clear c4
   obtain ⟨ji5, hji5⟩ : ∃ j_ : Int, (wrap64 ((Go.bits .and .i64 a1 7) + 1)) = j_ := ⟨_, rfl⟩
   replace H : (if 0 ≤ (ji5) then ((spec_l1In.f (rd l0 x5_1) 0 (wrap64 ((shl .i64 1 (ji5)) - 2))).bind fun t336 => (if t336 = true then (if (Int.tmod (rd l0 x5_1) 2) = 0 then (spec_MasksValid.l0 k1 l0 a1 (wrap64 (x5_1 + 1))) else (some false)) else (some false))) else (none)) = some r := by first | (rw [hji5] at H; exact H) | (simp only [hji5] at H ⊢; exact H)
   have hji5w : (IntKind.i64.wrap ((Go.bits .and .i64 a1 7) + 1)) = ji5 := (i64_w _).trans hji5
   by_cases c6 : 0 ≤ (ji5)
   rotate_left
   ·rw [if_neg c6] at H
    exact absurd H (by simp)
   rw [if_pos c6] at H
   have c6b0 := eq_true c6
   have c6b1 : decide (0 ≤ (ji5)) = true := decide_eq_true c6
   clear c6
   obtain ⟨ji7, hji7⟩ : ∃ j_ : Int, (shl .i64 1 (ji5)) = j_ := ⟨_, rfl⟩
   replace H : ((spec_l1In.f (rd l0 x5_1) 0 (wrap64 ((ji7) - 2))).bind fun t336 => (if t336 = true then (if (Int.tmod (rd l0 x5_1) 2) = 0 then (spec_MasksValid.l0 k1 l0 a1 (wrap64 (x5_1 + 1))) else (some false)) else (some false))) = some r := by first | (rw [hji7] at H; exact H) | (simp only [hji7] at H ⊢; exact H)
   have hji7_ : (IntKind.i64.wrap (1 * 2 ^ min (ji5).toNat 64)) = ji7 := hji7
   have hji7z : (ji5) ≤ 64 → (IntKind.i64.wrap (1 * 2 ^ (ji5).toNat)) = ji7 := shl_small hji7
   have hji7u : (IntKind.i64.wrap (2 ^ min (ji5).toNat 64)) = ji7 := by have h_ := hji7_; rw [Int.one_mul] at h_; exact h_
   have hji7v : (ji5) ≤ 64 → (IntKind.i64.wrap (2 ^ (ji5).toNat)) = ji7 := fun hle_ => by have h_ := hji7z hle_; rw [Int.one_mul] at h_; exact h_
   have hji7y : (wrap64 (1 * 2 ^ min (ji5).toNat 64)) = ji7 := (i64_w _).symm.trans hji7_
   have hji7x : (ji5) ≤ 64 → (wrap64 (1 * 2 ^ (ji5).toNat)) = ji7 := fun h_ => (i64_w _).symm.trans (hji7z h_)
   replace H := Option.bind_eq_some_iff.mp H
   obtain ⟨t336, A80, H⟩ := H
   try dsimp only at H
   have A8 := yam A80
   clear A80
   by_cases c9 : t336 = true
   rotate_left
   ·replace c9 := Bool.eq_false_iff.mpr c9
    subst c9
    have H1 : (some false) = some r := by rw [if_neg (show ¬ (false = true) by decide)] at H; exact H
    clear H
    have H := H1
    clear H1
    obtain rfl := Option.some.inj H
    have p335 : 0 ≤ (x5_1 : Int) := of_decide_eq_true (by first | (with_reducible assumption) | assumption)
    have q335 : x5_1 < (l0.length : Int) := of_decide_eq_true (by first | (with_reducible assumption) | assumption)
    obtain ⟨ad335, e335, hx335_0⟩ := Kd.at_int HR0.out x5_1 p335 q335
    cases e335
    replace p335 := eq_true p335
    replace q335 := eq_true q335
    have hwq0_ : IntKind.i64.wrap ((ji7) - 2) = wrap64 ((ji7) - 2) := i64_w _
    go_wp2_with (first | (go_at_call 42; (with_reducible refine (spec_l1In.calls (rd l0 x5_1) 0 (wrap64 ((ji7) - 2)) false _ A8.out).mono ?_); rintro e w' ⟨rfl, ⟨nd, rfl⟩⟩; (try first | exact ⟨rfl, _, World.drewN_drewN _ _ _⟩ | exact ⟨rfl, _, Eq.trans (World.drewN_drewN _ _ _) (congrArg (World.drewN _) (Nat.add_assoc _ _ _))⟩)))
    repeat (go_quiet (first | (go_at_call 42; (with_reducible refine (spec_l1In.calls (rd l0 x5_1) 0 (wrap64 ((ji7) - 2)) false _ A8.out).mono ?_); rintro e w' ⟨rfl, ⟨nd, rfl⟩⟩; (try first | exact ⟨rfl, _, World.drewN_drewN _ _ _⟩ | exact ⟨rfl, _, Eq.trans (World.drewN_drewN _ _ _) (congrArg (World.drewN _) (Nat.add_assoc _ _ _))⟩))); try go_wp2_with (first | (go_at_call 42; (with_reducible refine (spec_l1In.calls (rd l0 x5_1) 0 (wrap64 ((ji7) - 2)) false _ A8.out).mono ?_); rintro e w' ⟨rfl, ⟨nd, rfl⟩⟩; (try first | exact ⟨rfl, _, World.drewN_drewN _ _ _⟩ | exact ⟨rfl, _, Eq.trans (World.drewN_drewN _ _ _) (congrArg (World.drewN _) (Nat.add_assoc _ _ _))⟩))))
    go_ret
    exact ⟨by first | rfl | (simp; done) | (simp only [← hji5, ← hji7] <;> (first | rfl | simp)) | (simp [*]; done), by repeat (first | exact Drawn0.refl _ | apply Drawn0.step)⟩
   subst c9
   have H1 : (if (Int.tmod (rd l0 x5_1) 2) = 0 then (spec_MasksValid.l0 k1 l0 a1 (wrap64 (x5_1 + 1))) else (some false)) = some r := by rw [if_pos rfl] at H; exact H
   clear H
   have H := H1
   clear H1
   by_cases c10 : (Int.tmod (rd l0 x5_1) 2) = 0
   rotate_left
   ·rw [if_neg c10] at H
    have c10b0 : ((Int.tmod (rd l0 x5_1) 2) == 0) = false := beq_eq_false_iff_ne.mpr c10
    have c10b1 : ((Int.tmod (rd l0 x5_1) 2) != 0) = true := bne_iff_ne.mpr c10
    obtain rfl := Option.some.inj H
    have p335 : 0 ≤ (x5_1 : Int) := of_decide_eq_true (by first | (with_reducible assumption) | assumption)
    have q335 : x5_1 < (l0.length : Int) := of_decide_eq_true (by first | (with_reducible assumption) | assumption)
    obtain ⟨ad335, e335, hx335_0⟩ := Kd.at_int HR0.out x5_1 p335 q335
    cases e335
    replace p335 := eq_true p335
    replace q335 := eq_true q335
    have hwq0_ : IntKind.i64.wrap ((ji7) - 2) = wrap64 ((ji7) - 2) := i64_w _
    go_wp2_with (first | (go_at_call 42; (with_reducible refine (spec_l1In.calls (rd l0 x5_1) 0 (wrap64 ((ji7) - 2)) true _ A8.out).mono ?_); rintro e w' ⟨rfl, ⟨nd, rfl⟩⟩; (try first | exact ⟨rfl, _, World.drewN_drewN _ _ _⟩ | exact ⟨rfl, _, Eq.trans (World.drewN_drewN _ _ _) (congrArg (World.drewN _) (Nat.add_assoc _ _ _))⟩); have p337 : 0 ≤ (x5_1 : Int) := of_decide_eq_true (by first | (with_reducible assumption) | assumption); have q337 : x5_1 < (l0.length : Int) := of_decide_eq_true (by first | (with_reducible assumption) | assumption); obtain ⟨ad337, e337, hx337_0⟩ := Kd.at_int HR0.out x5_1 p337 q337; obtain rfl : ad335 = ad337 := (by injection e337); replace p337 := eq_true p337; replace q337 := eq_true q337))
    repeat (go_quiet (first | (go_at_call 42; (with_reducible refine (spec_l1In.calls (rd l0 x5_1) 0 (wrap64 ((ji7) - 2)) true _ A8.out).mono ?_); rintro e w' ⟨rfl, ⟨nd, rfl⟩⟩; (try first | exact ⟨rfl, _, World.drewN_drewN _ _ _⟩ | exact ⟨rfl, _, Eq.trans (World.drewN_drewN _ _ _) (congrArg (World.drewN _) (Nat.add_assoc _ _ _))⟩); have p337 : 0 ≤ (x5_1 : Int) := of_decide_eq_true (by first | (with_reducible assumption) | assumption); have q337 : x5_1 < (l0.length : Int) := of_decide_eq_true (by first | (with_reducible assumption) | assumption); obtain ⟨ad337, e337, hx337_0⟩ := Kd.at_int HR0.out x5_1 p337 q337; obtain rfl : ad335 = ad337 := (by injection e337); replace p337 := eq_true p337; replace q337 := eq_true q337)); try go_wp2_with (first | (go_at_call 42; (with_reducible refine (spec_l1In.calls (rd l0 x5_1) 0 (wrap64 ((ji7) - 2)) true _ A8.out).mono ?_); rintro e w' ⟨rfl, ⟨nd, rfl⟩⟩; (try first | exact ⟨rfl, _, World.drewN_drewN _ _ _⟩ | exact ⟨rfl, _, Eq.trans (World.drewN_drewN _ _ _) (congrArg (World.drewN _) (Nat.add_assoc _ _ _))⟩); have p337 : 0 ≤ (x5_1 : Int) := of_decide_eq_true (by first | (with_reducible assumption) | assumption); have q337 : x5_1 < (l0.length : Int) := of_decide_eq_true (by first | (with_reducible assumption) | assumption); obtain ⟨ad337, e337, hx337_0⟩ := Kd.at_int HR0.out x5_1 p337 q337; obtain rfl : ad335 = ad337 := (by injection e337); replace p337 := eq_true p337; replace q337 := eq_true q337)))
    go_ret
    exact ⟨by first | rfl | (simp; done) | (simp only [← hji5, ← hji7] <;> (first | rfl | simp)) | (simp [*]; done), by repeat (first | exact Drawn0.refl _ | apply Drawn0.step)⟩
   rw [if_pos c10] at H
   have c10b0 : ((Int.tmod (rd l0 x5_1) 2) == 0) = true := beq_iff_eq.mpr c10
   have c10b1 : ((Int.tmod (rd l0 x5_1) 2) != 0) = false := bne_eq_false_iff_eq.mpr c10
   clear c10
   have H' := yam H
   clear H
   have p335 : 0 ≤ (x5_1 : Int) := of_decide_eq_true (by first | (with_reducible assumption) | assumption)
   have q335 : x5_1 < (l0.length : Int) := of_decide_eq_true (by first | (with_reducible assumption) | assumption)
   obtain ⟨ad335, e335, hx335_0⟩ := Kd.at_int HR0.out x5_1 p335 q335
   cases e335
   replace p335 := eq_true p335
   replace q335 := eq_true q335
   have hwq0_ : IntKind.i64.wrap ((ji7) - 2) = wrap64 ((ji7) - 2) := i64_w _
   go_wp2_with (first | (go_at_call 42; (with_reducible refine (spec_l1In.calls (rd l0 x5_1) 0 (wrap64 ((ji7) - 2)) true _ A8.out).mono ?_); rintro e w' ⟨rfl, ⟨nd, rfl⟩⟩; (try first | exact ⟨rfl, _, World.drewN_drewN _ _ _⟩ | exact ⟨rfl, _, Eq.trans (World.drewN_drewN _ _ _) (congrArg (World.drewN _) (Nat.add_assoc _ _ _))⟩); have p337 : 0 ≤ (x5_1 : Int) := of_decide_eq_true (by first | (with_reducible assumption) | assumption); have q337 : x5_1 < (l0.length : Int) := of_decide_eq_true (by first | (with_reducible assumption) | assumption); obtain ⟨ad337, e337, hx337_0⟩ := Kd.at_int HR0.out x5_1 p337 q337; obtain rfl : ad335 = ad337 := (by injection e337); replace p337 := eq_true p337; replace q337 := eq_true q337))
   repeat (go_quiet (first | (go_at_call 42; (with_reducible refine (spec_l1In.calls (rd l0 x5_1) 0 (wrap64 ((ji7) - 2)) true _ A8.out).mono ?_); rintro e w' ⟨rfl, ⟨nd, rfl⟩⟩; (try first | exact ⟨rfl, _, World.drewN_drewN _ _ _⟩ | exact ⟨rfl, _, Eq.trans (World.drewN_drewN _ _ _) (congrArg (World.drewN _) (Nat.add_assoc _ _ _))⟩); have p337 : 0 ≤ (x5_1 : Int) := of_decide_eq_true (by first | (with_reducible assumption) | assumption); have q337 : x5_1 < (l0.length : Int) := of_decide_eq_true (by first | (with_reducible assumption) | assumption); obtain ⟨ad337, e337, hx337_0⟩ := Kd.at_int HR0.out x5_1 p337 q337; obtain rfl : ad335 = ad337 := (by injection e337); replace p337 := eq_true p337; replace q337 := eq_true q337)); try go_wp2_with (first | (go_at_call 42; (with_reducible refine (spec_l1In.calls (rd l0 x5_1) 0 (wrap64 ((ji7) - 2)) true _ A8.out).mono ?_); rintro e w' ⟨rfl, ⟨nd, rfl⟩⟩; (try first | exact ⟨rfl, _, World.drewN_drewN _ _ _⟩ | exact ⟨rfl, _, Eq.trans (World.drewN_drewN _ _ _) (congrArg (World.drewN _) (Nat.add_assoc _ _ _))⟩); have p337 : 0 ≤ (x5_1 : Int) := of_decide_eq_true (by first | (with_reducible assumption) | assumption); have q337 : x5_1 < (l0.length : Int) := of_decide_eq_true (by first | (with_reducible assumption) | assumption); obtain ⟨ad337, e337, hx337_0⟩ := Kd.at_int HR0.out x5_1 p337 q337; obtain rfl : ad335 = ad337 := (by injection e337); replace p337 := eq_true p337; replace q337 := eq_true q337)))
   go_roundg k1
   case measure => have := HK1.out; omega
   case rel => exact ⟨(wrap64 (x5_1 + 1)), (by first | rfl | (simp; done) | (simp [*]; done)), H', ⟨by have := HK1.out; omega⟩, by repeat (first | exact Drawn0.refl _ | apply Drawn0.step)⟩
end Go.Proofs.Ytmjbnghhfadapaa.P
