/- The machine's side: each Go function as a plain Lean function and the proof that the machine's call does what that function says; written by this session's own program over the kit's print. -/
import Derived.Test.YthfbjkniinfgcaaZP1
import Derived.Test.YthfbjkniinfgcaaZP4
import Derived.Test.YthfbjkniinfgcaaZP5
namespace Go.Proofs.Ythfbjkniinfgcaa.P
open Go.RowKit Go.Proofs.YthfbjkniinfgcaaW.PrintWords Go.Proofs.YthfbjkniinfgcaaW.PrintLast Go.Proofs.YthfbjkniinfgcaaW.PrintMore
attribute [local go_sem] max2_int min2_int max_two min_two max_three min_three max_four min_four   -- for this text's walks alone
set_option linter.unusedVariables false
set_option linter.unusedSimpArgs false

/-! ### laws_FnExactRulePossible: function 8 -/
def laws_FnExactRulePossible.f (k : Nat) (a0_0 : Int) (l0_1 : List Int) (a0_2 : Int) (l1 : List Int) (a2 : Int) : Option (Bool) := if (l1.length : Int) > 1048576 then (some true) else ((laws_szRule.f a0_0 l0_1 a0_2 1048576).bind fun t699 => (if t699 < 0 then (some true) else ((laws_toRule.f k a0_0 l0_1 a0_2).bind fun bt700 => ((laws_toIntS.f k l1).bind fun t705 => ((spec_RulePossible.f k bt700.1 bt700.2.1 bt700.2.2 t705 a2).bind fun t708 => ((laws_toRule.f k a0_0 l0_1 a0_2).bind fun bt709 => ((laws_toIntS.f k l1).bind fun t715 => ((impl_RulePossible.f k bt709.1 bt709.2.1 bt709.2.2 t715 a2).bind fun t718 => (if (t718 != t708) = true then (some false) else ((laws_toRule.f k a0_0 l0_1 a0_2).bind fun bt719 => ((laws_eqRule.f k bt709.1 bt709.2.1 bt709.2.2 bt719.1 bt719.2.1 bt719.2.2).bind fun t724 => (if t724 = true then ((laws_toIntS.f k l1).bind fun t725 => ((laws_eqIntS.f k t715 t725).bind fun t728 => (if t728 = true then (some true) else (some false)))) else (some false)))))))))))))
theorem laws_FnExactRulePossible.mono : ∀ a0 a1 a2 a3 a4 k, LeO (laws_FnExactRulePossible.f k a0 a1 a2 a3 a4) (laws_FnExactRulePossible.f (k + 1) a0 a1 a2 a3 a4) := by
  intro a0 a1 a2 a3 a4 k
  unfold laws_FnExactRulePossible.f
  repeat' first
      | (with_reducible exact impl_RulePossible.mono _ _ _ _ _ _)
      | (with_reducible exact laws_eqIntS.mono _ _ _)
      | (with_reducible exact laws_eqRule.mono _ _ _ _ _ _ _)
      | (with_reducible exact laws_toIntS.mono _ _)
      | (with_reducible exact laws_toRule.mono _ _ _ _)
      | (with_reducible exact spec_RulePossible.mono _ _ _ _ _ _)
      | (with_reducible exact LeO.refl _)
      | (with_reducible exact LeO.none _)
      | (with_reducible refine LeO.ite ?_ ?_)
      | (with_reducible refine LeO.bind ?_ (fun _ => ?_))
      | exact impl_RulePossible.mono _ _ _ _ _ _
      | exact laws_eqIntS.mono _ _ _
      | exact laws_eqRule.mono _ _ _ _ _ _ _
      | exact laws_toIntS.mono _ _
      | exact laws_toRule.mono _ _ _ _
      | exact spec_RulePossible.mono _ _ _ _ _ _
      | exact LeO.none _
      | refine LeO.ite ?_ ?_
      | refine LeO.bind ?_ (fun _ => ?_)
set_option maxHeartbeats 8000000 in
set_option maxRecDepth 100000 in
theorem laws_FnExactRulePossible.calls (k : Nat) (a0_0 : Int) (A0_1 : Option Addr) (c0_1 : Nat) (l0_1 : List Int) (a0_2 : Int) (A1 : Option Addr) (c1 : Nat) (l1 : List Int) (a2 : Int) (r : Bool) (w : World) (hr0_1 : Kd.C (Kd.int .i64) w A0_1 l0_1.length l0_1) (hc0_1 : l0_1.length ≤ c0_1) (hr1 : Kd.C (Kd.int .i64) w A1 l1.length l1) (hc1 : l1.length ≤ c1) (h : laws_FnExactRulePossible.f k a0_0 l0_1 a0_2 l1 a2 = some r) :
    Calls Try.prog 8 #[.agg #[.int .i64 a0_0, .slice A0_1 l0_1.length c0_1, .int .i64 a0_2], .slice A1 l1.length c1, .int .i64 a2] w fun e w' => e = .returned (.bool r) ∧ Below w.heap.size w w' := by
  have hu47 := Try.underlying47
  have hu32 := Try.underlying32
  have HR0_1 := yam hr0_1
  have HC0_1 := yam hc0_1
  clear hr0_1 hc0_1
  have HR1 := yam hr1
  have HC1 := yam hc1
  clear hr1 hc1
  have HB := yam (Below.refl w.heap.size w)
  have H : (if (l1.length : Int) > 1048576 then (some true) else ((laws_szRule.f a0_0 l0_1 a0_2 1048576).bind fun t699 => (if t699 < 0 then (some true) else ((laws_toRule.f k a0_0 l0_1 a0_2).bind fun bt700 => ((laws_toIntS.f k l1).bind fun t705 => ((spec_RulePossible.f k bt700.1 bt700.2.1 bt700.2.2 t705 a2).bind fun t708 => ((laws_toRule.f k a0_0 l0_1 a0_2).bind fun bt709 => ((laws_toIntS.f k l1).bind fun t715 => ((impl_RulePossible.f k bt709.1 bt709.2.1 bt709.2.2 t715 a2).bind fun t718 => (if (t718 != t708) = true then (some false) else ((laws_toRule.f k a0_0 l0_1 a0_2).bind fun bt719 => ((laws_eqRule.f k bt709.1 bt709.2.1 bt709.2.2 bt719.1 bt719.2.1 bt719.2.2).bind fun t724 => (if t724 = true then ((laws_toIntS.f k l1).bind fun t725 => ((laws_eqIntS.f k t715 t725).bind fun t728 => (if t728 = true then (some true) else (some false)))) else (some false)))))))))))))) = some r := h
  clear h
  by_cases c4 : (l1.length : Int) > 1048576
  · rw [if_pos c4] at H
    have c4b0 : decide (1048576 < (l1.length : Int)) = true := decide_eq_true c4
    have c4b1 : decide (1048576 < l1.length) = true := decide_eq_true (by omega)
    clear c4
    obtain rfl := Option.some.inj H
    go_enter Try.func8, Try.ntmps8
    go_wp2_with (first | ((with_reducible refine gate_dst (N := 3) rfl ?_); refine box_event ?hg (N := 3) ?hd (cs := #[.int .i64 a0_0, .slice A0_1 l0_1.length c0_1, .int .i64 a0_2]) (t := 47) ?hr ?_; (case hd => rfl); (case hg => rfl); (case hr => first | (go_simp; done) | (go_simp; rfl)); intro gb698 hg w5 hbox hb; have n0_ := yam (below_step (yez HB.out) hb); have n1_ := yam (hbox); have n2_ := yam ((by rw [hg]; exact (below_size (yez HB.out)) : w.heap.size ≤ gb698)); have n3_ := yam ((by rw [hg]; exact (below_size (yez HB.out)) : w.heap.size ≤ gb698)); clear HB; have HB := n0_; have BK698 := n1_; have GW698 := n2_; have GE698 := n3_; clear n0_ n1_ n2_ n3_; clear hb hbox hg))
    go_ret
    exact ⟨by first | rfl | (simp [errW_none, errW_some] <;> rfl) | (simp [*, errW_none, errW_some] <;> rfl), by repeat (first | (with_reducible first | exact HB.out | apply yea | apply yen | apply yed | refine below_set ?_ GE698.out) | exact HB.out)⟩
  rw [if_neg c4] at H
  have c4b0 : decide (1048576 < (l1.length : Int)) = false := decide_eq_false c4
  have c4b1 : decide (1048576 < l1.length) = false := decide_eq_false (by omega)
  clear c4
  replace H := Option.bind_eq_some_iff.mp H
  obtain ⟨t699, A60, H⟩ := H
  try dsimp only at H
  have A6 := yam A60
  clear A60
  by_cases c7 : t699 < 0
  · rw [if_pos c7] at H
    have c7b0 : decide (t699 < 0) = true := decide_eq_true c7
    clear c7
    obtain rfl := Option.some.inj H
    go_enter Try.func8, Try.ntmps8
    go_wp2_with (first | ((with_reducible refine gate_dst (N := 3) rfl ?_); refine box_event ?hg (N := 3) ?hd (cs := #[.int .i64 a0_0, .slice A0_1 l0_1.length c0_1, .int .i64 a0_2]) (t := 47) ?hr ?_; (case hd => rfl); (case hg => rfl); (case hr => first | (go_simp; done) | (go_simp; rfl)); intro gb698 hg w8 hbox hb; have n0_ := yam (below_step (yez HB.out) hb); have n1_ := yam (hbox); have n2_ := yam ((by rw [hg]; exact (below_size (yez HB.out)) : w.heap.size ≤ gb698)); have n3_ := yam ((by rw [hg]; exact (below_size (yez HB.out)) : w.heap.size ≤ gb698)); clear HB; have HB := n0_; have BK698 := n1_; have GW698 := n2_; have GE698 := n3_; clear n0_ n1_ n2_ n3_; clear hb hbox hg; have hcz9_0 : w8.cell? ⟨gb698, 0, none⟩ = some (.int .i64 a0_0) := (blk_cell BK698.out 0).trans rfl; have hcz9_1 : w8.cell? ⟨gb698, 1, none⟩ = some (.slice A0_1 l0_1.length c0_1) := (blk_cell BK698.out 1).trans rfl; have hcz9_2 : w8.cell? ⟨gb698, 2, none⟩ = some (.int .i64 a0_2) := (blk_cell BK698.out 2).trans rfl; have hfz9_0 := blk_frozen BK698.out 0; have hfz9_1 := blk_frozen BK698.out 1; have hfz9_2 := blk_frozen BK698.out 2) | ((with_reducible refine gate_callee (f := 30) rfl ?_); refine goesL_ (some 17) rfl rfl Try.func30 (by kernel_rfl) rfl #[.agg #[.int .i64 a0_0, .slice A0_1 l0_1.length c0_1, .int .i64 a0_2], .int .i64 1048576] rfl (by (try simp only [List.map_toArray, List.map_cons, List.map_nil]); first | done | rfl | (simp only [List.length_drop, List.length_take]; rfl)) ?_; (with_reducible refine (laws_szRule.calls a0_0 _ _ l0_1 a0_2 1048576 t699 _ ?side1 ?side2 A6.out).mono ?_); (case side1 => exact Kd.Cz ((Kd.C_below HR0_1.out HB.out))); (case side2 => exact HC0_1.out); rintro e w10 ⟨rfl, hb⟩; refine ⟨_, rfl, ?_⟩; have n0_ := yam (blk_below (g := gb698) (o := .cells #[.int .i64 a0_0, .slice A0_1 l0_1.length c0_1, .int .i64 a0_2] 47 (0, 0)) (ybz BK698.out) hb); have n1_ := yam (below_step (by repeat (first | (with_reducible first | exact HB.out | apply yea | apply yen | apply yed | refine below_set ?_ GE698.out) | exact HB.out)) hb); clear BK698; clear HB; have BK698 := n0_; have HB := n1_; clear n0_ n1_; (try clear hb); (try clear hb2); (try clear hk); (try clear hi)))
    go_ret
    exact ⟨by first | rfl | (simp [errW_none, errW_some] <;> rfl) | (simp [*, errW_none, errW_some] <;> rfl), by repeat (first | (with_reducible first | exact HB.out | apply yea | apply yen | apply yed | refine below_set ?_ GE698.out) | exact HB.out)⟩
  rw [if_neg c7] at H
  have c7b0 : decide (t699 < 0) = false := decide_eq_false c7
  clear c7
  replace H := Option.bind_eq_some_iff.mp H
  obtain ⟨⟨t700, t701, t704⟩, A110, H⟩ := H
  try dsimp only at H
  have A11 := yam A110
  clear A110
  replace H := Option.bind_eq_some_iff.mp H
  obtain ⟨t705, A120, H⟩ := H
  try dsimp only at H
  have A12 := yam A120
  clear A120
  replace H := Option.bind_eq_some_iff.mp H
  obtain ⟨t708, A130, H⟩ := H
  try dsimp only at H
  have A13 := yam A130
  clear A130
  replace H := Option.bind_eq_some_iff.mp H
  obtain ⟨⟨t709, t710, t713⟩, A140, H⟩ := H
  try dsimp only at H
  have A14 := yam A140
  clear A140
  replace H := Option.bind_eq_some_iff.mp H
  obtain ⟨t715, A150, H⟩ := H
  try dsimp only at H
  have A15 := yam A150
  clear A150
  replace H := Option.bind_eq_some_iff.mp H
  obtain ⟨t718, A160, H⟩ := H
  try dsimp only at H
  have A16 := yam A160
  clear A160
  by_cases c17 : (t718 != t708) = true
  · rw [if_pos c17] at H
    have c17b0 : (t718 != t708) = true := c17
    (try (have c17b1 : decide (t718 = t708) = false := by simpa using c17))
    (try (have c17b2 : (t718 == t708) = false := by simpa using c17))
    (try (have c17b3 : ¬ (t718 = t708) := by simpa using c17))
    clear c17
    obtain rfl := Option.some.inj H
    go_enter Try.func8, Try.ntmps8
    go_wp2_with (first | ((with_reducible refine gate_dst (N := 3) rfl ?_); refine box_event ?hg (N := 3) ?hd (cs := #[.int .i64 a0_0, .slice A0_1 l0_1.length c0_1, .int .i64 a0_2]) (t := 47) ?hr ?_; (case hd => rfl); (case hg => rfl); (case hr => first | (go_simp; done) | (go_simp; rfl)); intro gb698 hg w18 hbox hb; have n0_ := yam (below_step (yez HB.out) hb); have n1_ := yam (hbox); have n2_ := yam ((by rw [hg]; exact (below_size (yez HB.out)) : w.heap.size ≤ gb698)); have n3_ := yam ((by rw [hg]; exact (below_size (yez HB.out)) : w.heap.size ≤ gb698)); clear HB; have HB := n0_; have BK698 := n1_; have GW698 := n2_; have GE698 := n3_; clear n0_ n1_ n2_ n3_; clear hb hbox hg; have hcz19_0 : w18.cell? ⟨gb698, 0, none⟩ = some (.int .i64 a0_0) := (blk_cell BK698.out 0).trans rfl; have hcz19_1 : w18.cell? ⟨gb698, 1, none⟩ = some (.slice A0_1 l0_1.length c0_1) := (blk_cell BK698.out 1).trans rfl; have hcz19_2 : w18.cell? ⟨gb698, 2, none⟩ = some (.int .i64 a0_2) := (blk_cell BK698.out 2).trans rfl; have hfz19_0 := blk_frozen BK698.out 0; have hfz19_1 := blk_frozen BK698.out 1; have hfz19_2 := blk_frozen BK698.out 2) | ((with_reducible refine gate_callee (f := 30) rfl ?_); refine goesL_ (some 17) rfl rfl Try.func30 (by kernel_rfl) rfl #[.agg #[.int .i64 a0_0, .slice A0_1 l0_1.length c0_1, .int .i64 a0_2], .int .i64 1048576] rfl (by (try simp only [List.map_toArray, List.map_cons, List.map_nil]); first | done | rfl | (simp only [List.length_drop, List.length_take]; rfl)) ?_; (with_reducible refine (laws_szRule.calls a0_0 _ _ l0_1 a0_2 1048576 t699 _ ?side1 ?side2 A6.out).mono ?_); (case side1 => exact Kd.Cz ((Kd.C_below HR0_1.out HB.out))); (case side2 => exact HC0_1.out); rintro e w20 ⟨rfl, hb⟩; refine ⟨_, rfl, ?_⟩; have n0_ := yam (blk_below (g := gb698) (o := .cells #[.int .i64 a0_0, .slice A0_1 l0_1.length c0_1, .int .i64 a0_2] 47 (0, 0)) (ybz BK698.out) hb); have n1_ := yam (below_step (by repeat (first | (with_reducible first | exact HB.out | apply yea | apply yen | apply yed | refine below_set ?_ GE698.out) | exact HB.out)) hb); clear BK698; clear HB; have BK698 := n0_; have HB := n1_; clear n0_ n1_; (try clear hb); (try clear hb2); (try clear hk); (try clear hi); have hcz21_0 : w20.cell? ⟨gb698, 0, none⟩ = some (.int .i64 a0_0) := (blk_cell BK698.out 0).trans rfl; have hcz21_1 : w20.cell? ⟨gb698, 1, none⟩ = some (.slice A0_1 l0_1.length c0_1) := (blk_cell BK698.out 1).trans rfl; have hcz21_2 : w20.cell? ⟨gb698, 2, none⟩ = some (.int .i64 a0_2) := (blk_cell BK698.out 2).trans rfl; have hfz21_0 := blk_frozen BK698.out 0; have hfz21_1 := blk_frozen BK698.out 1; have hfz21_2 := blk_frozen BK698.out 2) | ((with_reducible refine gate_callee (f := 32) rfl ?_); refine goesL_ (some 21) rfl rfl Try.func32 (by kernel_rfl) rfl #[.agg #[.int .i64 a0_0, .slice A0_1 l0_1.length c0_1, .int .i64 a0_2]] rfl (by (try simp only [List.map_toArray, List.map_cons, List.map_nil]); first | done | rfl | (simp only [List.length_drop, List.length_take]; rfl)) ?_; (with_reducible refine (laws_toRule.calls k a0_0 _ _ l0_1 a0_2 t700 t701 t704 _ ?side1 ?side2 A11.out).mono ?_); (case side1 => exact Kd.Cz ((Kd.C_below HR0_1.out HB.out))); (case side2 => exact HC0_1.out); rintro e w22 ⟨v702, rfl, ho0, hb⟩; refine ⟨_, rfl, ?_⟩; have n0_ := yam (Kd.R_lower ho0 (below_size (by repeat (first | (with_reducible first | exact HB.out | apply yea | apply yen | apply yed | refine below_set ?_ GE698.out) | exact HB.out)))); have n1_ := yam (blk_below (g := gb698) (o := .cells #[.int .i64 a0_0, .slice A0_1 l0_1.length c0_1, .int .i64 a0_2] 47 (0, 0)) (ybz BK698.out) hb); have n2_ := yam (below_step (by repeat (first | (with_reducible first | exact HB.out | apply yea | apply yen | apply yed | refine below_set ?_ GE698.out) | exact HB.out)) hb); clear BK698; clear HB; have HO703 := n0_; have BK698 := n1_; have HB := n2_; clear n0_ n1_ n2_; (try clear hb); (try clear hb2); (try clear hk); (try clear hi); (try clear ho0)) | ((with_reducible refine gate_callee (f := 33) rfl ?_); refine goesL_ (some 23) rfl rfl Try.func33 (by kernel_rfl) rfl #[.slice A1 l1.length c1] rfl (by (try simp only [List.map_toArray, List.map_cons, List.map_nil]); first | done | rfl | (simp only [List.length_drop, List.length_take]; rfl)) ?_; (with_reducible refine (laws_toIntS.calls k _ _ l1 t705 _ ?side1 ?side2 A12.out).mono ?_); (case side1 => exact Kd.Cz ((Kd.C_below HR1.out HB.out))); (case side2 => exact HC1.out); rintro e w23 ⟨v706, rfl, ho0, hb⟩; refine ⟨_, rfl, ?_⟩; have n0_ := yam (Kd.Ye (Kd.Yz HO703.out) (Kd.Yb ho0) hb); have n1_ := yam (Kd.R_lower (Kd.Yw ho0 (Kd.R_lt (Kd.Yz HO703.out))) (below_size (by repeat (first | (with_reducible first | exact HB.out | apply yea | apply yen | apply yed | refine below_set ?_ GE698.out) | exact HB.out)))); have n2_ := yam (blk_below (g := gb698) (o := .cells #[.int .i64 a0_0, .slice A0_1 l0_1.length c0_1, .int .i64 a0_2] 47 (0, 0)) (ybz BK698.out) hb); have n3_ := yam (below_step (by repeat (first | (with_reducible first | exact HB.out | apply yea | apply yen | apply yed | refine below_set ?_ GE698.out) | exact HB.out)) hb); clear HO703; clear BK698; clear HB; have HO703 := n0_; have HO707 := n1_; have BK698 := n2_; have HB := n3_; clear n0_ n1_ n2_ n3_; (try clear hb); (try clear hb2); (try clear hk); (try clear hi); (try clear ho0); obtain ⟨Ao24, co24, eo24⟩ := Kd.R_slice HO703.out; subst eo24; obtain ⟨Ao25, co25, eo25⟩ := Kd.R_slice HO707.out; subst eo25) | ((with_reducible refine gate_callee (f := 43) rfl ?_); refine goesL_ (some 25) rfl rfl Try.func43 (by kernel_rfl) rfl #[.agg #[.int .i64 t700, .slice Ao24 t701.length co24, .int .i64 t704], .slice Ao25 t705.length co25, .int .i64 a2] rfl (by (try simp only [List.map_toArray, List.map_cons, List.map_nil]); first | done | rfl | (simp only [List.length_drop, List.length_take]; rfl)) ?_; (with_reducible refine (spec_RulePossible.calls k t700 _ _ t701 t704 _ _ t705 a2 t708 _ ?side1 ?side2 ?side3 ?side4 A13.out).mono ?_); (case side1 => repeat (first | exact (Kd.Yr HO703.out).2.2 | (with_reducible refine Kd.C_alloc ?_ _) | (with_reducible refine Kd.C_drewN ?_ _) | (with_reducible refine Kd.C_drew ?_))); (case side2 => exact (Kd.Yr HO703.out).2.1); (case side3 => repeat (first | exact (Kd.Yr HO707.out).2.2 | (with_reducible refine Kd.C_alloc ?_ _) | (with_reducible refine Kd.C_drewN ?_ _) | (with_reducible refine Kd.C_drew ?_))); (case side4 => exact (Kd.Yr HO707.out).2.1); rintro e w26 ⟨rfl, hb⟩; refine ⟨_, rfl, ?_⟩; have n0_ := yam (Kd.R_below (Kd.Yz HO703.out) hb); have n1_ := yam (Kd.R_below (Kd.Yz HO707.out) hb); have n2_ := yam (blk_below (g := gb698) (o := .cells #[.int .i64 a0_0, .slice A0_1 l0_1.length c0_1, .int .i64 a0_2] 47 (0, 0)) (ybz BK698.out) hb); have n3_ := yam (below_step (by repeat (first | (with_reducible first | exact HB.out | apply yea | apply yen | apply yed | refine below_set ?_ GE698.out) | exact HB.out)) hb); clear HO703; clear HO707; clear BK698; clear HB; have HO703 := n0_; have HO707 := n1_; have BK698 := n2_; have HB := n3_; clear n0_ n1_ n2_ n3_; (try clear hb); (try clear hb2); (try clear hk); (try clear hi); have hcz27_0 : w26.cell? ⟨gb698, 0, none⟩ = some (.int .i64 a0_0) := (blk_cell BK698.out 0).trans rfl; have hcz27_1 : w26.cell? ⟨gb698, 1, none⟩ = some (.slice A0_1 l0_1.length c0_1) := (blk_cell BK698.out 1).trans rfl; have hcz27_2 : w26.cell? ⟨gb698, 2, none⟩ = some (.int .i64 a0_2) := (blk_cell BK698.out 2).trans rfl; have hfz27_0 := blk_frozen BK698.out 0; have hfz27_1 := blk_frozen BK698.out 1; have hfz27_2 := blk_frozen BK698.out 2) | ((with_reducible refine gate_callee (f := 32) rfl ?_); refine goesL_ (some 27) rfl rfl Try.func32 (by kernel_rfl) rfl #[.agg #[.int .i64 a0_0, .slice A0_1 l0_1.length c0_1, .int .i64 a0_2]] rfl (by (try simp only [List.map_toArray, List.map_cons, List.map_nil]); first | done | rfl | (simp only [List.length_drop, List.length_take]; rfl)) ?_; (with_reducible refine (laws_toRule.calls k a0_0 _ _ l0_1 a0_2 t709 t710 t713 _ ?side1 ?side2 A14.out).mono ?_); (case side1 => exact Kd.Cz ((Kd.C_below HR0_1.out HB.out))); (case side2 => exact HC0_1.out); rintro e w28 ⟨v711, rfl, ho0, hb⟩; refine ⟨_, rfl, ?_⟩; have n0_ := yam (Kd.Ye (Kd.Yz HO703.out) (Kd.Yb ho0) hb); have n1_ := yam (Kd.Ye (Kd.Yz HO707.out) (Kd.Yb ho0) hb); have n2_ := yam (Kd.R_lower (Kd.Yw (Kd.Yw ho0 (Kd.R_lt (Kd.Yz HO703.out))) (Kd.R_lt (Kd.Yz HO707.out))) (below_size (by repeat (first | (with_reducible first | exact HB.out | apply yea | apply yen | apply yed | refine below_set ?_ GE698.out) | exact HB.out)))); have n3_ := yam (blk_below (g := gb698) (o := .cells #[.int .i64 a0_0, .slice A0_1 l0_1.length c0_1, .int .i64 a0_2] 47 (0, 0)) (ybz BK698.out) hb); have n4_ := yam (below_step (by repeat (first | (with_reducible first | exact HB.out | apply yea | apply yen | apply yed | refine below_set ?_ GE698.out) | exact HB.out)) hb); clear HO703; clear HO707; clear BK698; clear HB; have HO703 := n0_; have HO707 := n1_; have HO712 := n2_; have BK698 := n3_; have HB := n4_; clear n0_ n1_ n2_ n3_ n4_; (try clear hb); (try clear hb2); (try clear hk); (try clear hi); (try clear ho0)) | ((with_reducible refine gate_dst (N := 9) rfl ?_); refine box_event ?hg (N := 9) ?hd (cs := #[.int .i64 0, .slice none 0 0, .int .i64 0]) (t := 32) ?hr ?_; (case hd => rfl); (case hg => rfl); (case hr => first | (go_simp; done) | (go_simp; rfl)); intro gb714 hg w29 hbox hb; have n0_ := yam (Kd.R_below (Kd.Yz HO703.out) hb); have n1_ := yam (Kd.R_below (Kd.Yz HO707.out) hb); have n2_ := yam (Kd.R_below (Kd.Yz HO712.out) hb); have n3_ := yam (blk_below (g := gb698) (o := .cells #[.int .i64 a0_0, .slice A0_1 l0_1.length c0_1, .int .i64 a0_2] 47 (0, 0)) (ybz BK698.out) hb); have n4_ := yam (below_step (by repeat (first | (with_reducible first | exact HB.out | apply yea | apply yen | apply yed | refine below_set ?_ GE698.out) | exact HB.out)) hb); have n5_ := yam (hbox); have n6_ := yam ((by rw [hg]; exact (below_size (by repeat (first | (with_reducible first | exact HB.out | apply yea | apply yen | apply yed | refine below_set ?_ GE698.out) | exact HB.out))) : w.heap.size ≤ gb714)); have n7_ := yam ((by rw [hg]; exact (below_size (by repeat (first | (with_reducible first | exact HB.out | apply yea | apply yen | apply yed | refine below_set ?_ GE698.out) | exact HB.out))) : w.heap.size ≤ gb714)); have n8_ := yam ((by rw [hg]; exact Nat.ne_of_lt (blk_lt (g := gb698) (o := .cells #[.int .i64 a0_0, .slice A0_1 l0_1.length c0_1, .int .i64 a0_2] 47 (0, 0)) (ybz BK698.out)) : gb698 ≠ gb714)); have n9_ := yam ((by rw [hg]; exact Nat.ne_of_gt (blk_lt (g := gb698) (o := .cells #[.int .i64 a0_0, .slice A0_1 l0_1.length c0_1, .int .i64 a0_2] 47 (0, 0)) (ybz BK698.out)) : gb714 ≠ gb698)); clear HO703; clear HO707; clear HO712; clear BK698; clear HB; have HO703 := n0_; have HO707 := n1_; have HO712 := n2_; have BK698 := n3_; have HB := n4_; have BK714 := n5_; have GW714 := n6_; have GE714 := n7_; have NB698_714 := n8_; have NB714_698 := n9_; clear n0_ n1_ n2_ n3_ n4_ n5_ n6_ n7_ n8_ n9_; clear hb hbox hg; have hnb30 := NB714_698.out; have hnc30 := NB698_714.out; have hcz31_0 : w29.cell? ⟨gb714, 0, none⟩ = some (.int .i64 0) := (blk_cell BK714.out 0).trans rfl; have hcz31_1 : w29.cell? ⟨gb714, 1, none⟩ = some (.slice none 0 0) := (blk_cell BK714.out 1).trans rfl; have hcz31_2 : w29.cell? ⟨gb714, 2, none⟩ = some (.int .i64 0) := (blk_cell BK714.out 2).trans rfl; have hfz31_0 := blk_frozen BK714.out 0; have hfz31_1 := blk_frozen BK714.out 1; have hfz31_2 := blk_frozen BK714.out 2; obtain ⟨Ao32, co32, eo32⟩ := Kd.R_slice HO712.out; subst eo32) | ((with_reducible refine gate_callee (f := 33) rfl ?_); refine goesL_ (some 29) rfl rfl Try.func33 (by kernel_rfl) rfl #[.slice A1 l1.length c1] rfl (by (try simp only [List.map_toArray, List.map_cons, List.map_nil]); first | done | rfl | (simp only [List.length_drop, List.length_take]; rfl)) ?_; (with_reducible refine (laws_toIntS.calls k _ _ l1 t715 _ ?side1 ?side2 A15.out).mono ?_); (case side1 => exact Kd.C_below HR1.out (by repeat (first | (with_reducible first | exact HB.out | apply yea | apply yen | apply yed | refine below_set ?_ GE698.out | refine below_set ?_ GE714.out) | exact HB.out))); (case side2 => exact HC1.out); rintro e w33 ⟨v716, rfl, ho0, hb⟩; refine ⟨_, rfl, ?_⟩; have n0_ := yam (Kd.Ye (by (with_reducible repeat (first | apply Kd.Ya | apply Kd.Yn | apply Kd.Yd)); exact (Kd.R_mono (Kd.R_far (p := ⟨gb714, 2, none⟩) (Kd.R_far (p := ⟨gb714, 1, none⟩) (Kd.R_far (p := ⟨gb714, 0, none⟩) (Kd.R_types HO703.out BK714.out (by decide)) (fun _ hk => hk.2) (.int .i64 t709)) (fun _ hk => hk.2) (.slice Ao32 t710.length co32)) (fun _ hk => hk.2) (.int .i64 t713)) (fun _ h_ => h_.1))) (Kd.Yb ho0) hb); have n1_ := yam (Kd.Ye (by (with_reducible repeat (first | apply Kd.Ya | apply Kd.Yn | apply Kd.Yd)); exact (Kd.R_mono (Kd.R_far (p := ⟨gb714, 2, none⟩) (Kd.R_far (p := ⟨gb714, 1, none⟩) (Kd.R_far (p := ⟨gb714, 0, none⟩) (Kd.R_types HO707.out BK714.out (by decide)) (fun _ hk => hk.2) (.int .i64 t709)) (fun _ hk => hk.2) (.slice Ao32 t710.length co32)) (fun _ hk => hk.2) (.int .i64 t713)) (fun _ h_ => h_.1))) (Kd.Yb ho0) hb); have n2_ := yam (Kd.Ye (by (with_reducible repeat (first | apply Kd.Ya | apply Kd.Yn | apply Kd.Yd)); exact (Kd.R_mono (Kd.R_far (p := ⟨gb714, 2, none⟩) (Kd.R_far (p := ⟨gb714, 1, none⟩) (Kd.R_far (p := ⟨gb714, 0, none⟩) (Kd.R_types HO712.out BK714.out (by decide)) (fun _ hk => hk.2) (.int .i64 t709)) (fun _ hk => hk.2) (.slice Ao32 t710.length co32)) (fun _ hk => hk.2) (.int .i64 t713)) (fun _ h_ => h_.1))) (Kd.Yb ho0) hb); have n3_ := yam (Kd.R_lower (Kd.Yw (Kd.Yw (Kd.Yw ho0 (Kd.R_lt (by (with_reducible repeat (first | apply Kd.Ya | apply Kd.Yn | apply Kd.Yd)); exact (Kd.R_mono (Kd.R_far (p := ⟨gb714, 2, none⟩) (Kd.R_far (p := ⟨gb714, 1, none⟩) (Kd.R_far (p := ⟨gb714, 0, none⟩) (Kd.R_types HO703.out BK714.out (by decide)) (fun _ hk => hk.2) (.int .i64 t709)) (fun _ hk => hk.2) (.slice Ao32 t710.length co32)) (fun _ hk => hk.2) (.int .i64 t713)) (fun _ h_ => h_.1))))) (Kd.R_lt (by (with_reducible repeat (first | apply Kd.Ya | apply Kd.Yn | apply Kd.Yd)); exact (Kd.R_mono (Kd.R_far (p := ⟨gb714, 2, none⟩) (Kd.R_far (p := ⟨gb714, 1, none⟩) (Kd.R_far (p := ⟨gb714, 0, none⟩) (Kd.R_types HO707.out BK714.out (by decide)) (fun _ hk => hk.2) (.int .i64 t709)) (fun _ hk => hk.2) (.slice Ao32 t710.length co32)) (fun _ hk => hk.2) (.int .i64 t713)) (fun _ h_ => h_.1))))) (Kd.R_lt (by (with_reducible repeat (first | apply Kd.Ya | apply Kd.Yn | apply Kd.Yd)); exact (Kd.R_mono (Kd.R_far (p := ⟨gb714, 2, none⟩) (Kd.R_far (p := ⟨gb714, 1, none⟩) (Kd.R_far (p := ⟨gb714, 0, none⟩) (Kd.R_types HO712.out BK714.out (by decide)) (fun _ hk => hk.2) (.int .i64 t709)) (fun _ hk => hk.2) (.slice Ao32 t710.length co32)) (fun _ hk => hk.2) (.int .i64 t713)) (fun _ h_ => h_.1))))) (below_size (by repeat (first | (with_reducible first | exact HB.out | apply yea | apply yen | apply yed | refine below_set ?_ GE698.out | refine below_set ?_ GE714.out) | exact HB.out)))); have n4_ := yam (blk_below (g := gb698) (o := .cells #[.int .i64 a0_0, .slice A0_1 l0_1.length c0_1, .int .i64 a0_2] 47 (0, 0)) (by (with_reducible repeat (first | refine ybn ?_ _ | refine ybd ?_ | refine yba ?_ _)); refine blk_far ?_ NB698_714.out _; (with_reducible repeat (first | refine ybn ?_ _ | refine ybd ?_ | refine yba ?_ _)); refine blk_far ?_ NB698_714.out _; (with_reducible repeat (first | refine ybn ?_ _ | refine ybd ?_ | refine yba ?_ _)); refine blk_far ?_ NB698_714.out _; (with_reducible repeat (first | refine ybn ?_ _ | refine ybd ?_ | refine yba ?_ _)); exact BK698.out) hb); have n5_ := yam (blk_below (g := gb714) (o := .cells #[.int .i64 t709, .slice Ao32 t710.length co32, .int .i64 t713] 32 (0, 0)) (by (with_reducible repeat (first | refine ybn ?_ _ | refine ybd ?_ | refine yba ?_ _)); refine blk_put (cs := #[.int .i64 t709, .slice Ao32 t710.length co32, .int .i64 0]) ?_ 2 _ rfl; (with_reducible repeat (first | refine ybn ?_ _ | refine ybd ?_ | refine yba ?_ _)); refine blk_put (cs := #[.int .i64 t709, .slice none 0 0, .int .i64 0]) ?_ 1 _ rfl; (with_reducible repeat (first | refine ybn ?_ _ | refine ybd ?_ | refine yba ?_ _)); refine blk_put (cs := #[.int .i64 0, .slice none 0 0, .int .i64 0]) ?_ 0 _ rfl; (with_reducible repeat (first | refine ybn ?_ _ | refine ybd ?_ | refine yba ?_ _)); exact BK714.out) hb); have n6_ := yam (below_step (by repeat (first | (with_reducible first | exact HB.out | apply yea | apply yen | apply yed | refine below_set ?_ GE698.out | refine below_set ?_ GE714.out) | exact HB.out)) hb); clear HO703; clear HO707; clear HO712; clear BK698; clear BK714; clear HB; have HO703 := n0_; have HO707 := n1_; have HO712 := n2_; have HO717 := n3_; have BK698 := n4_; have BK714 := n5_; have HB := n6_; clear n0_ n1_ n2_ n3_ n4_ n5_ n6_; (try clear hb); (try clear hb2); (try clear hk); (try clear hi); (try clear ho0); have hcz34_0 : w33.cell? ⟨gb714, 0, none⟩ = some (.int .i64 t709) := (blk_cell BK714.out 0).trans rfl; have hcz34_1 : w33.cell? ⟨gb714, 1, none⟩ = some (.slice Ao32 t710.length co32) := (blk_cell BK714.out 1).trans rfl; have hcz34_2 : w33.cell? ⟨gb714, 2, none⟩ = some (.int .i64 t713) := (blk_cell BK714.out 2).trans rfl; have hfz34_0 := blk_frozen BK714.out 0; have hfz34_1 := blk_frozen BK714.out 1; have hfz34_2 := blk_frozen BK714.out 2; obtain ⟨Ao35, co35, eo35⟩ := Kd.R_slice HO717.out; subst eo35) | ((with_reducible refine gate_callee (f := 44) rfl ?_); refine goesL_ (some 33) rfl rfl Try.func44 (by kernel_rfl) rfl #[.agg #[.int .i64 t709, .slice Ao32 t710.length co32, .int .i64 t713], .slice Ao35 t715.length co35, .int .i64 a2] rfl (by (try simp only [List.map_toArray, List.map_cons, List.map_nil]); first | done | rfl | (simp only [List.length_drop, List.length_take]; rfl)) ?_; (with_reducible refine (impl_RulePossible.calls k t709 _ _ t710 t713 _ _ t715 a2 t718 _ ?side1 ?side2 ?side3 ?side4 A16.out).mono ?_); (case side1 => repeat (first | exact (Kd.Yr HO712.out).2.2 | (with_reducible refine Kd.C_alloc ?_ _) | (with_reducible refine Kd.C_drewN ?_ _) | (with_reducible refine Kd.C_drew ?_))); (case side2 => exact (Kd.Yr HO712.out).2.1); (case side3 => repeat (first | exact (Kd.Yr HO717.out).2.2 | (with_reducible refine Kd.C_alloc ?_ _) | (with_reducible refine Kd.C_drewN ?_ _) | (with_reducible refine Kd.C_drew ?_))); (case side4 => exact (Kd.Yr HO717.out).2.1); rintro e w36 ⟨rfl, hb⟩; refine ⟨_, rfl, ?_⟩; have n0_ := yam (Kd.R_below (Kd.Yz HO703.out) hb); have n1_ := yam (Kd.R_below (Kd.Yz HO707.out) hb); have n2_ := yam (Kd.R_below (Kd.Yz HO712.out) hb); have n3_ := yam (Kd.R_below (Kd.Yz HO717.out) hb); have n4_ := yam (blk_below (g := gb698) (o := .cells #[.int .i64 a0_0, .slice A0_1 l0_1.length c0_1, .int .i64 a0_2] 47 (0, 0)) (ybz BK698.out) hb); have n5_ := yam (blk_below (g := gb714) (o := .cells #[.int .i64 t709, .slice Ao32 t710.length co32, .int .i64 t713] 32 (0, 0)) (ybz BK714.out) hb); have n6_ := yam (below_step (by repeat (first | (with_reducible first | exact HB.out | apply yea | apply yen | apply yed | refine below_set ?_ GE698.out | refine below_set ?_ GE714.out) | exact HB.out)) hb); clear HO703; clear HO707; clear HO712; clear HO717; clear BK698; clear BK714; clear HB; have HO703 := n0_; have HO707 := n1_; have HO712 := n2_; have HO717 := n3_; have BK698 := n4_; have BK714 := n5_; have HB := n6_; clear n0_ n1_ n2_ n3_ n4_ n5_ n6_; (try clear hb); (try clear hb2); (try clear hk); (try clear hi)))
    go_ret
    exact ⟨by first | rfl | (simp [errW_none, errW_some] <;> rfl) | (simp [*, errW_none, errW_some] <;> rfl), by repeat (first | (with_reducible first | exact HB.out | apply yea | apply yen | apply yed | refine below_set ?_ GE698.out | refine below_set ?_ GE714.out) | exact HB.out)⟩
  rw [if_neg c17] at H
  have c17b0 : (t718 != t708) = false := by simpa using c17
  (try (have c17b1 : decide (t718 = t708) = true := by simpa using c17))
  (try (have c17b2 : (t718 == t708) = true := by simpa using c17))
  clear c17
  replace H := Option.bind_eq_some_iff.mp H
  obtain ⟨⟨t719, t720, t723⟩, A370, H⟩ := H
  try dsimp only at H
  have A37 := yam A370
  clear A370
  replace H := Option.bind_eq_some_iff.mp H
  obtain ⟨t724, A380, H⟩ := H
  try dsimp only at H
  have A38 := yam A380
  clear A380
  by_cases c39 : t724 = true
  rotate_left
  · replace c39 := Bool.eq_false_iff.mpr c39
    subst c39
    have H1 : (some false) = some r := by rw [if_neg (show ¬ (false = true) by decide)] at H; exact H
    clear H
    have H := H1
    clear H1
    obtain rfl := Option.some.inj H
    go_enter Try.func8, Try.ntmps8
    try go_wp2_with (first | ((with_reducible refine gate_dst (N := 3) rfl ?_); refine box_event ?hg (N := 3) ?hd (cs := #[.int .i64 a0_0, .slice A0_1 l0_1.length c0_1, .int .i64 a0_2]) (t := 47) ?hr ?_; (case hd => rfl); (case hg => rfl); (case hr => first | (go_simp; done) | (go_simp; rfl)); intro gb698 hg w93 hbox hb; have n0_ := yam (below_step (yez HB.out) hb); have n1_ := yam (hbox); have n2_ := yam ((by rw [hg]; exact (below_size (yez HB.out)) : w.heap.size ≤ gb698)); have n3_ := yam ((by rw [hg]; exact (below_size (yez HB.out)) : w.heap.size ≤ gb698)); clear HB; have HB := n0_; have BK698 := n1_; have GW698 := n2_; have GE698 := n3_; clear n0_ n1_ n2_ n3_; clear hb hbox hg; have hcz94_0 : w93.cell? ⟨gb698, 0, none⟩ = some (.int .i64 a0_0) := (blk_cell BK698.out 0).trans rfl; have hcz94_1 : w93.cell? ⟨gb698, 1, none⟩ = some (.slice A0_1 l0_1.length c0_1) := (blk_cell BK698.out 1).trans rfl; have hcz94_2 : w93.cell? ⟨gb698, 2, none⟩ = some (.int .i64 a0_2) := (blk_cell BK698.out 2).trans rfl; have hfz94_0 := blk_frozen BK698.out 0; have hfz94_1 := blk_frozen BK698.out 1; have hfz94_2 := blk_frozen BK698.out 2) | ((with_reducible refine gate_callee (f := 30) rfl ?_); refine goesL_ (some 17) rfl rfl Try.func30 (by kernel_rfl) rfl #[.agg #[.int .i64 a0_0, .slice A0_1 l0_1.length c0_1, .int .i64 a0_2], .int .i64 1048576] rfl (by (try simp only [List.map_toArray, List.map_cons, List.map_nil]); first | done | rfl | (simp only [List.length_drop, List.length_take]; rfl)) ?_; (with_reducible refine (laws_szRule.calls a0_0 _ _ l0_1 a0_2 1048576 t699 _ ?side1 ?side2 A6.out).mono ?_); (case side1 => exact Kd.Cz ((Kd.C_below HR0_1.out HB.out))); (case side2 => exact HC0_1.out); rintro e w95 ⟨rfl, hb⟩; refine ⟨_, rfl, ?_⟩; have n0_ := yam (blk_below (g := gb698) (o := .cells #[.int .i64 a0_0, .slice A0_1 l0_1.length c0_1, .int .i64 a0_2] 47 (0, 0)) (ybz BK698.out) hb); have n1_ := yam (below_step (by repeat (first | (with_reducible first | exact HB.out | apply yea | apply yen | apply yed | refine below_set ?_ GE698.out) | exact HB.out)) hb); clear BK698; clear HB; have BK698 := n0_; have HB := n1_; clear n0_ n1_; (try clear hb); (try clear hb2); (try clear hk); (try clear hi); have hcz96_0 : w95.cell? ⟨gb698, 0, none⟩ = some (.int .i64 a0_0) := (blk_cell BK698.out 0).trans rfl; have hcz96_1 : w95.cell? ⟨gb698, 1, none⟩ = some (.slice A0_1 l0_1.length c0_1) := (blk_cell BK698.out 1).trans rfl; have hcz96_2 : w95.cell? ⟨gb698, 2, none⟩ = some (.int .i64 a0_2) := (blk_cell BK698.out 2).trans rfl; have hfz96_0 := blk_frozen BK698.out 0; have hfz96_1 := blk_frozen BK698.out 1; have hfz96_2 := blk_frozen BK698.out 2) | ((with_reducible refine gate_callee (f := 32) rfl ?_); refine goesL_ (some 21) rfl rfl Try.func32 (by kernel_rfl) rfl #[.agg #[.int .i64 a0_0, .slice A0_1 l0_1.length c0_1, .int .i64 a0_2]] rfl (by (try simp only [List.map_toArray, List.map_cons, List.map_nil]); first | done | rfl | (simp only [List.length_drop, List.length_take]; rfl)) ?_; (with_reducible refine (laws_toRule.calls k a0_0 _ _ l0_1 a0_2 t700 t701 t704 _ ?side1 ?side2 A11.out).mono ?_); (case side1 => exact Kd.Cz ((Kd.C_below HR0_1.out HB.out))); (case side2 => exact HC0_1.out); rintro e w97 ⟨v702, rfl, ho0, hb⟩; refine ⟨_, rfl, ?_⟩; have n0_ := yam (Kd.R_lower ho0 (below_size (by repeat (first | (with_reducible first | exact HB.out | apply yea | apply yen | apply yed | refine below_set ?_ GE698.out) | exact HB.out)))); have n1_ := yam (blk_below (g := gb698) (o := .cells #[.int .i64 a0_0, .slice A0_1 l0_1.length c0_1, .int .i64 a0_2] 47 (0, 0)) (ybz BK698.out) hb); have n2_ := yam (below_step (by repeat (first | (with_reducible first | exact HB.out | apply yea | apply yen | apply yed | refine below_set ?_ GE698.out) | exact HB.out)) hb); clear BK698; clear HB; have HO703 := n0_; have BK698 := n1_; have HB := n2_; clear n0_ n1_ n2_; (try clear hb); (try clear hb2); (try clear hk); (try clear hi); (try clear ho0)) | ((with_reducible refine gate_callee (f := 33) rfl ?_); refine goesL_ (some 23) rfl rfl Try.func33 (by kernel_rfl) rfl #[.slice A1 l1.length c1] rfl (by (try simp only [List.map_toArray, List.map_cons, List.map_nil]); first | done | rfl | (simp only [List.length_drop, List.length_take]; rfl)) ?_; (with_reducible refine (laws_toIntS.calls k _ _ l1 t705 _ ?side1 ?side2 A12.out).mono ?_); (case side1 => exact Kd.Cz ((Kd.C_below HR1.out HB.out))); (case side2 => exact HC1.out); rintro e w98 ⟨v706, rfl, ho0, hb⟩; refine ⟨_, rfl, ?_⟩; have n0_ := yam (Kd.Ye (Kd.Yz HO703.out) (Kd.Yb ho0) hb); have n1_ := yam (Kd.R_lower (Kd.Yw ho0 (Kd.R_lt (Kd.Yz HO703.out))) (below_size (by repeat (first | (with_reducible first | exact HB.out | apply yea | apply yen | apply yed | refine below_set ?_ GE698.out) | exact HB.out)))); have n2_ := yam (blk_below (g := gb698) (o := .cells #[.int .i64 a0_0, .slice A0_1 l0_1.length c0_1, .int .i64 a0_2] 47 (0, 0)) (ybz BK698.out) hb); have n3_ := yam (below_step (by repeat (first | (with_reducible first | exact HB.out | apply yea | apply yen | apply yed | refine below_set ?_ GE698.out) | exact HB.out)) hb); clear HO703; clear BK698; clear HB; have HO703 := n0_; have HO707 := n1_; have BK698 := n2_; have HB := n3_; clear n0_ n1_ n2_ n3_; (try clear hb); (try clear hb2); (try clear hk); (try clear hi); (try clear ho0); obtain ⟨Ao99, co99, eo99⟩ := Kd.R_slice HO703.out; subst eo99; obtain ⟨Ao100, co100, eo100⟩ := Kd.R_slice HO707.out; subst eo100) | ((with_reducible refine gate_callee (f := 43) rfl ?_); refine goesL_ (some 25) rfl rfl Try.func43 (by kernel_rfl) rfl #[.agg #[.int .i64 t700, .slice Ao99 t701.length co99, .int .i64 t704], .slice Ao100 t705.length co100, .int .i64 a2] rfl (by (try simp only [List.map_toArray, List.map_cons, List.map_nil]); first | done | rfl | (simp only [List.length_drop, List.length_take]; rfl)) ?_; (with_reducible refine (spec_RulePossible.calls k t700 _ _ t701 t704 _ _ t705 a2 t708 _ ?side1 ?side2 ?side3 ?side4 A13.out).mono ?_); (case side1 => repeat (first | exact (Kd.Yr HO703.out).2.2 | (with_reducible refine Kd.C_alloc ?_ _) | (with_reducible refine Kd.C_drewN ?_ _) | (with_reducible refine Kd.C_drew ?_))); (case side2 => exact (Kd.Yr HO703.out).2.1); (case side3 => repeat (first | exact (Kd.Yr HO707.out).2.2 | (with_reducible refine Kd.C_alloc ?_ _) | (with_reducible refine Kd.C_drewN ?_ _) | (with_reducible refine Kd.C_drew ?_))); (case side4 => exact (Kd.Yr HO707.out).2.1); rintro e w101 ⟨rfl, hb⟩; refine ⟨_, rfl, ?_⟩; have n0_ := yam (Kd.R_below (Kd.Yz HO703.out) hb); have n1_ := yam (Kd.R_below (Kd.Yz HO707.out) hb); have n2_ := yam (blk_below (g := gb698) (o := .cells #[.int .i64 a0_0, .slice A0_1 l0_1.length c0_1, .int .i64 a0_2] 47 (0, 0)) (ybz BK698.out) hb); have n3_ := yam (below_step (by repeat (first | (with_reducible first | exact HB.out | apply yea | apply yen | apply yed | refine below_set ?_ GE698.out) | exact HB.out)) hb); clear HO703; clear HO707; clear BK698; clear HB; have HO703 := n0_; have HO707 := n1_; have BK698 := n2_; have HB := n3_; clear n0_ n1_ n2_ n3_; (try clear hb); (try clear hb2); (try clear hk); (try clear hi); have hcz102_0 : w101.cell? ⟨gb698, 0, none⟩ = some (.int .i64 a0_0) := (blk_cell BK698.out 0).trans rfl; have hcz102_1 : w101.cell? ⟨gb698, 1, none⟩ = some (.slice A0_1 l0_1.length c0_1) := (blk_cell BK698.out 1).trans rfl; have hcz102_2 : w101.cell? ⟨gb698, 2, none⟩ = some (.int .i64 a0_2) := (blk_cell BK698.out 2).trans rfl; have hfz102_0 := blk_frozen BK698.out 0; have hfz102_1 := blk_frozen BK698.out 1; have hfz102_2 := blk_frozen BK698.out 2) | ((with_reducible refine gate_callee (f := 32) rfl ?_); refine goesL_ (some 27) rfl rfl Try.func32 (by kernel_rfl) rfl #[.agg #[.int .i64 a0_0, .slice A0_1 l0_1.length c0_1, .int .i64 a0_2]] rfl (by (try simp only [List.map_toArray, List.map_cons, List.map_nil]); first | done | rfl | (simp only [List.length_drop, List.length_take]; rfl)) ?_; (with_reducible refine (laws_toRule.calls k a0_0 _ _ l0_1 a0_2 t709 t710 t713 _ ?side1 ?side2 A14.out).mono ?_); (case side1 => exact Kd.Cz ((Kd.C_below HR0_1.out HB.out))); (case side2 => exact HC0_1.out); rintro e w103 ⟨v711, rfl, ho0, hb⟩; refine ⟨_, rfl, ?_⟩; have n0_ := yam (Kd.Ye (Kd.Yz HO703.out) (Kd.Yb ho0) hb); have n1_ := yam (Kd.Ye (Kd.Yz HO707.out) (Kd.Yb ho0) hb); have n2_ := yam (Kd.R_lower (Kd.Yw (Kd.Yw ho0 (Kd.R_lt (Kd.Yz HO703.out))) (Kd.R_lt (Kd.Yz HO707.out))) (below_size (by repeat (first | (with_reducible first | exact HB.out | apply yea | apply yen | apply yed | refine below_set ?_ GE698.out) | exact HB.out)))); have n3_ := yam (blk_below (g := gb698) (o := .cells #[.int .i64 a0_0, .slice A0_1 l0_1.length c0_1, .int .i64 a0_2] 47 (0, 0)) (ybz BK698.out) hb); have n4_ := yam (below_step (by repeat (first | (with_reducible first | exact HB.out | apply yea | apply yen | apply yed | refine below_set ?_ GE698.out) | exact HB.out)) hb); clear HO703; clear HO707; clear BK698; clear HB; have HO703 := n0_; have HO707 := n1_; have HO712 := n2_; have BK698 := n3_; have HB := n4_; clear n0_ n1_ n2_ n3_ n4_; (try clear hb); (try clear hb2); (try clear hk); (try clear hi); (try clear ho0)) | ((with_reducible refine gate_dst (N := 9) rfl ?_); refine box_event ?hg (N := 9) ?hd (cs := #[.int .i64 0, .slice none 0 0, .int .i64 0]) (t := 32) ?hr ?_; (case hd => rfl); (case hg => rfl); (case hr => first | (go_simp; done) | (go_simp; rfl)); intro gb714 hg w104 hbox hb; have n0_ := yam (Kd.R_below (Kd.Yz HO703.out) hb); have n1_ := yam (Kd.R_below (Kd.Yz HO707.out) hb); have n2_ := yam (Kd.R_below (Kd.Yz HO712.out) hb); have n3_ := yam (blk_below (g := gb698) (o := .cells #[.int .i64 a0_0, .slice A0_1 l0_1.length c0_1, .int .i64 a0_2] 47 (0, 0)) (ybz BK698.out) hb); have n4_ := yam (below_step (by repeat (first | (with_reducible first | exact HB.out | apply yea | apply yen | apply yed | refine below_set ?_ GE698.out) | exact HB.out)) hb); have n5_ := yam (hbox); have n6_ := yam ((by rw [hg]; exact (below_size (by repeat (first | (with_reducible first | exact HB.out | apply yea | apply yen | apply yed | refine below_set ?_ GE698.out) | exact HB.out))) : w.heap.size ≤ gb714)); have n7_ := yam ((by rw [hg]; exact (below_size (by repeat (first | (with_reducible first | exact HB.out | apply yea | apply yen | apply yed | refine below_set ?_ GE698.out) | exact HB.out))) : w.heap.size ≤ gb714)); have n8_ := yam ((by rw [hg]; exact Nat.ne_of_lt (blk_lt (g := gb698) (o := .cells #[.int .i64 a0_0, .slice A0_1 l0_1.length c0_1, .int .i64 a0_2] 47 (0, 0)) (ybz BK698.out)) : gb698 ≠ gb714)); have n9_ := yam ((by rw [hg]; exact Nat.ne_of_gt (blk_lt (g := gb698) (o := .cells #[.int .i64 a0_0, .slice A0_1 l0_1.length c0_1, .int .i64 a0_2] 47 (0, 0)) (ybz BK698.out)) : gb714 ≠ gb698)); clear HO703; clear HO707; clear HO712; clear BK698; clear HB; have HO703 := n0_; have HO707 := n1_; have HO712 := n2_; have BK698 := n3_; have HB := n4_; have BK714 := n5_; have GW714 := n6_; have GE714 := n7_; have NB698_714 := n8_; have NB714_698 := n9_; clear n0_ n1_ n2_ n3_ n4_ n5_ n6_ n7_ n8_ n9_; clear hb hbox hg; have hnb105 := NB714_698.out; have hnc105 := NB698_714.out; have hcz106_0 : w104.cell? ⟨gb714, 0, none⟩ = some (.int .i64 0) := (blk_cell BK714.out 0).trans rfl; have hcz106_1 : w104.cell? ⟨gb714, 1, none⟩ = some (.slice none 0 0) := (blk_cell BK714.out 1).trans rfl; have hcz106_2 : w104.cell? ⟨gb714, 2, none⟩ = some (.int .i64 0) := (blk_cell BK714.out 2).trans rfl; have hfz106_0 := blk_frozen BK714.out 0; have hfz106_1 := blk_frozen BK714.out 1; have hfz106_2 := blk_frozen BK714.out 2; obtain ⟨Ao107, co107, eo107⟩ := Kd.R_slice HO712.out; subst eo107) | ((with_reducible refine gate_callee (f := 33) rfl ?_); refine goesL_ (some 29) rfl rfl Try.func33 (by kernel_rfl) rfl #[.slice A1 l1.length c1] rfl (by (try simp only [List.map_toArray, List.map_cons, List.map_nil]); first | done | rfl | (simp only [List.length_drop, List.length_take]; rfl)) ?_; (with_reducible refine (laws_toIntS.calls k _ _ l1 t715 _ ?side1 ?side2 A15.out).mono ?_); (case side1 => exact Kd.C_below HR1.out (by repeat (first | (with_reducible first | exact HB.out | apply yea | apply yen | apply yed | refine below_set ?_ GE698.out | refine below_set ?_ GE714.out) | exact HB.out))); (case side2 => exact HC1.out); rintro e w108 ⟨v716, rfl, ho0, hb⟩; refine ⟨_, rfl, ?_⟩; have n0_ := yam (Kd.Ye (by (with_reducible repeat (first | apply Kd.Ya | apply Kd.Yn | apply Kd.Yd)); exact (Kd.R_mono (Kd.R_far (p := ⟨gb714, 2, none⟩) (Kd.R_far (p := ⟨gb714, 1, none⟩) (Kd.R_far (p := ⟨gb714, 0, none⟩) (Kd.R_types HO703.out BK714.out (by decide)) (fun _ hk => hk.2) (.int .i64 t709)) (fun _ hk => hk.2) (.slice Ao107 t710.length co107)) (fun _ hk => hk.2) (.int .i64 t713)) (fun _ h_ => h_.1))) (Kd.Yb ho0) hb); have n1_ := yam (Kd.Ye (by (with_reducible repeat (first | apply Kd.Ya | apply Kd.Yn | apply Kd.Yd)); exact (Kd.R_mono (Kd.R_far (p := ⟨gb714, 2, none⟩) (Kd.R_far (p := ⟨gb714, 1, none⟩) (Kd.R_far (p := ⟨gb714, 0, none⟩) (Kd.R_types HO707.out BK714.out (by decide)) (fun _ hk => hk.2) (.int .i64 t709)) (fun _ hk => hk.2) (.slice Ao107 t710.length co107)) (fun _ hk => hk.2) (.int .i64 t713)) (fun _ h_ => h_.1))) (Kd.Yb ho0) hb); have n2_ := yam (Kd.Ye (by (with_reducible repeat (first | apply Kd.Ya | apply Kd.Yn | apply Kd.Yd)); exact (Kd.R_mono (Kd.R_far (p := ⟨gb714, 2, none⟩) (Kd.R_far (p := ⟨gb714, 1, none⟩) (Kd.R_far (p := ⟨gb714, 0, none⟩) (Kd.R_types HO712.out BK714.out (by decide)) (fun _ hk => hk.2) (.int .i64 t709)) (fun _ hk => hk.2) (.slice Ao107 t710.length co107)) (fun _ hk => hk.2) (.int .i64 t713)) (fun _ h_ => h_.1))) (Kd.Yb ho0) hb); have n3_ := yam (Kd.R_lower (Kd.Yw (Kd.Yw (Kd.Yw ho0 (Kd.R_lt (by (with_reducible repeat (first | apply Kd.Ya | apply Kd.Yn | apply Kd.Yd)); exact (Kd.R_mono (Kd.R_far (p := ⟨gb714, 2, none⟩) (Kd.R_far (p := ⟨gb714, 1, none⟩) (Kd.R_far (p := ⟨gb714, 0, none⟩) (Kd.R_types HO703.out BK714.out (by decide)) (fun _ hk => hk.2) (.int .i64 t709)) (fun _ hk => hk.2) (.slice Ao107 t710.length co107)) (fun _ hk => hk.2) (.int .i64 t713)) (fun _ h_ => h_.1))))) (Kd.R_lt (by (with_reducible repeat (first | apply Kd.Ya | apply Kd.Yn | apply Kd.Yd)); exact (Kd.R_mono (Kd.R_far (p := ⟨gb714, 2, none⟩) (Kd.R_far (p := ⟨gb714, 1, none⟩) (Kd.R_far (p := ⟨gb714, 0, none⟩) (Kd.R_types HO707.out BK714.out (by decide)) (fun _ hk => hk.2) (.int .i64 t709)) (fun _ hk => hk.2) (.slice Ao107 t710.length co107)) (fun _ hk => hk.2) (.int .i64 t713)) (fun _ h_ => h_.1))))) (Kd.R_lt (by (with_reducible repeat (first | apply Kd.Ya | apply Kd.Yn | apply Kd.Yd)); exact (Kd.R_mono (Kd.R_far (p := ⟨gb714, 2, none⟩) (Kd.R_far (p := ⟨gb714, 1, none⟩) (Kd.R_far (p := ⟨gb714, 0, none⟩) (Kd.R_types HO712.out BK714.out (by decide)) (fun _ hk => hk.2) (.int .i64 t709)) (fun _ hk => hk.2) (.slice Ao107 t710.length co107)) (fun _ hk => hk.2) (.int .i64 t713)) (fun _ h_ => h_.1))))) (below_size (by repeat (first | (with_reducible first | exact HB.out | apply yea | apply yen | apply yed | refine below_set ?_ GE698.out | refine below_set ?_ GE714.out) | exact HB.out)))); have n4_ := yam (blk_below (g := gb698) (o := .cells #[.int .i64 a0_0, .slice A0_1 l0_1.length c0_1, .int .i64 a0_2] 47 (0, 0)) (by (with_reducible repeat (first | refine ybn ?_ _ | refine ybd ?_ | refine yba ?_ _)); refine blk_far ?_ NB698_714.out _; (with_reducible repeat (first | refine ybn ?_ _ | refine ybd ?_ | refine yba ?_ _)); refine blk_far ?_ NB698_714.out _; (with_reducible repeat (first | refine ybn ?_ _ | refine ybd ?_ | refine yba ?_ _)); refine blk_far ?_ NB698_714.out _; (with_reducible repeat (first | refine ybn ?_ _ | refine ybd ?_ | refine yba ?_ _)); exact BK698.out) hb); have n5_ := yam (blk_below (g := gb714) (o := .cells #[.int .i64 t709, .slice Ao107 t710.length co107, .int .i64 t713] 32 (0, 0)) (by (with_reducible repeat (first | refine ybn ?_ _ | refine ybd ?_ | refine yba ?_ _)); refine blk_put (cs := #[.int .i64 t709, .slice Ao107 t710.length co107, .int .i64 0]) ?_ 2 _ rfl; (with_reducible repeat (first | refine ybn ?_ _ | refine ybd ?_ | refine yba ?_ _)); refine blk_put (cs := #[.int .i64 t709, .slice none 0 0, .int .i64 0]) ?_ 1 _ rfl; (with_reducible repeat (first | refine ybn ?_ _ | refine ybd ?_ | refine yba ?_ _)); refine blk_put (cs := #[.int .i64 0, .slice none 0 0, .int .i64 0]) ?_ 0 _ rfl; (with_reducible repeat (first | refine ybn ?_ _ | refine ybd ?_ | refine yba ?_ _)); exact BK714.out) hb); have n6_ := yam (below_step (by repeat (first | (with_reducible first | exact HB.out | apply yea | apply yen | apply yed | refine below_set ?_ GE698.out | refine below_set ?_ GE714.out) | exact HB.out)) hb); clear HO703; clear HO707; clear HO712; clear BK698; clear BK714; clear HB; have HO703 := n0_; have HO707 := n1_; have HO712 := n2_; have HO717 := n3_; have BK698 := n4_; have BK714 := n5_; have HB := n6_; clear n0_ n1_ n2_ n3_ n4_ n5_ n6_; (try clear hb); (try clear hb2); (try clear hk); (try clear hi); (try clear ho0); have hcz109_0 : w108.cell? ⟨gb714, 0, none⟩ = some (.int .i64 t709) := (blk_cell BK714.out 0).trans rfl; have hcz109_1 : w108.cell? ⟨gb714, 1, none⟩ = some (.slice Ao107 t710.length co107) := (blk_cell BK714.out 1).trans rfl; have hcz109_2 : w108.cell? ⟨gb714, 2, none⟩ = some (.int .i64 t713) := (blk_cell BK714.out 2).trans rfl; have hfz109_0 := blk_frozen BK714.out 0; have hfz109_1 := blk_frozen BK714.out 1; have hfz109_2 := blk_frozen BK714.out 2; obtain ⟨Ao110, co110, eo110⟩ := Kd.R_slice HO717.out; subst eo110) | ((with_reducible refine gate_callee (f := 44) rfl ?_); refine goesL_ (some 33) rfl rfl Try.func44 (by kernel_rfl) rfl #[.agg #[.int .i64 t709, .slice Ao107 t710.length co107, .int .i64 t713], .slice Ao110 t715.length co110, .int .i64 a2] rfl (by (try simp only [List.map_toArray, List.map_cons, List.map_nil]); first | done | rfl | (simp only [List.length_drop, List.length_take]; rfl)) ?_; (with_reducible refine (impl_RulePossible.calls k t709 _ _ t710 t713 _ _ t715 a2 t718 _ ?side1 ?side2 ?side3 ?side4 A16.out).mono ?_); (case side1 => repeat (first | exact (Kd.Yr HO712.out).2.2 | (with_reducible refine Kd.C_alloc ?_ _) | (with_reducible refine Kd.C_drewN ?_ _) | (with_reducible refine Kd.C_drew ?_))); (case side2 => exact (Kd.Yr HO712.out).2.1); (case side3 => repeat (first | exact (Kd.Yr HO717.out).2.2 | (with_reducible refine Kd.C_alloc ?_ _) | (with_reducible refine Kd.C_drewN ?_ _) | (with_reducible refine Kd.C_drew ?_))); (case side4 => exact (Kd.Yr HO717.out).2.1); rintro e w111 ⟨rfl, hb⟩; refine ⟨_, rfl, ?_⟩; have n0_ := yam (Kd.R_below (Kd.Yz HO703.out) hb); have n1_ := yam (Kd.R_below (Kd.Yz HO707.out) hb); have n2_ := yam (Kd.R_below (Kd.Yz HO712.out) hb); have n3_ := yam (Kd.R_below (Kd.Yz HO717.out) hb); have n4_ := yam (blk_below (g := gb698) (o := .cells #[.int .i64 a0_0, .slice A0_1 l0_1.length c0_1, .int .i64 a0_2] 47 (0, 0)) (ybz BK698.out) hb); have n5_ := yam (blk_below (g := gb714) (o := .cells #[.int .i64 t709, .slice Ao107 t710.length co107, .int .i64 t713] 32 (0, 0)) (ybz BK714.out) hb); have n6_ := yam (below_step (by repeat (first | (with_reducible first | exact HB.out | apply yea | apply yen | apply yed | refine below_set ?_ GE698.out | refine below_set ?_ GE714.out) | exact HB.out)) hb); clear HO703; clear HO707; clear HO712; clear HO717; clear BK698; clear BK714; clear HB; have HO703 := n0_; have HO707 := n1_; have HO712 := n2_; have HO717 := n3_; have BK698 := n4_; have BK714 := n5_; have HB := n6_; clear n0_ n1_ n2_ n3_ n4_ n5_ n6_; (try clear hb); (try clear hb2); (try clear hk); (try clear hi)))
    have n0_ := yam (Kd.Yd HO703.out)
    have n1_ := yam (Kd.Yd HO707.out)
    have n2_ := yam (Kd.Yd HO712.out)
    have n3_ := yam (Kd.Yd HO717.out)
    have n4_ := yam (ybd BK698.out)
    have n5_ := yam (ybd BK714.out)
    have n6_ := yam (yed HB.out)
    clear HO703
    clear HO707
    clear HO712
    clear HO717
    clear BK698
    clear BK714
    clear HB
    have HO703 := n0_
    have HO707 := n1_
    have HO712 := n2_
    have HO717 := n3_
    have BK698 := n4_
    have BK714 := n5_
    have HB := n6_
    clear n0_ n1_ n2_ n3_ n4_ n5_ n6_
    refine start_ (n := 5) (S := fun w' => w'.cell? ⟨gb714, 0, none⟩ = some (.int .i64 t709) ∧ w'.cell? ⟨gb714, 1, none⟩ = some (.slice Ao107 t710.length co107) ∧ w'.cell? ⟨gb714, 2, none⟩ = some (.int .i64 t713) ∧ w'.cell? ⟨gb698, 0, none⟩ = some (.int .i64 a0_0) ∧ w'.cell? ⟨gb698, 1, none⟩ = some (.slice A0_1 l0_1.length c0_1) ∧ w'.cell? ⟨gb698, 2, none⟩ = some (.int .i64 a0_2)) (ds := []) #[false, false, false, false, false] (by kernel_rfl) rfl rfl ⟨(blk_cell BK714.out 0).trans rfl, (blk_cell BK714.out 1).trans rfl, (blk_cell BK714.out 2).trans rfl, (blk_cell BK698.out 0).trans rfl, (blk_cell BK698.out 1).trans rfl, (blk_cell BK698.out 2).trans rfl⟩ (fun hHeld => ?_)
    generalize w111.drew = w112 at HO703 HO707 HO712 HO717 BK698 BK714 HB hHeld ⊢
    refine take_ (i := 0) (N := some 37) (v := ?_) (a' := ?_) #[true, false, false, false, false] rfl rfl (by kernel_rfl) (fun _ _ _ h => h) (Or.inl ⟨by rfl, ?_⟩) hHeld ?_ ?_
    rotate_left
    · rintro w' ⟨s0, s1, s2, s3, s4, s5⟩
      go_simp
      with_reducible rfl
    rotate_left
    · simp only [Act.put, yps, i64_w, i32_w]
      rfl
    refine take_ (i := 1) (N := some 38) (v := ?_) (a' := ?_) #[true, true, false, false, false] rfl rfl (by kernel_rfl) (fun _ _ _ h => h) (Or.inl ⟨by rfl, ?_⟩) hHeld ?_ ?_
    rotate_left
    · rintro w' ⟨s0, s1, s2, s3, s4, s5⟩
      go_simp
      with_reducible rfl
    rotate_left
    · simp only [Act.put, yps, i64_w, i32_w]
      rfl
    refine one_ (i := 2) (N := some 39) #[true, true, true, false, false] rfl rfl (by kernel_rfl) (by decide) (fun K hK => ?_)
    refine goes_ Try.func32 (by kernel_rfl) rfl #[.agg #[.int .i64 a0_0, .slice A0_1 l0_1.length c0_1, .int .i64 a0_2]] (by rfl) rfl rfl (by (try simp only [List.map_toArray, List.map_cons, List.map_nil]); first | done | rfl | (simp only [List.length_drop, List.length_take]; rfl)) ?_
    with_reducible refine (laws_toRule.calls k a0_0 _ _ l0_1 a0_2 t719 t720 t723 _ ?side1 ?side2 A37.out).mono ?_
    (case side1 => exact Kd.Cz ((Kd.C_below HR0_1.out HB.out)))
    (case side2 => exact HC0_1.out)
    rintro e w113 ⟨v721, rfl, ho0, hb⟩
    refine ⟨_, rfl, ?_⟩
    have n0_ := yam (Kd.Ye (Kd.Yz HO703.out) (Kd.Yb ho0) hb)
    have n1_ := yam (Kd.Ye (Kd.Yz HO707.out) (Kd.Yb ho0) hb)
    have n2_ := yam (Kd.Ye (Kd.Yz HO712.out) (Kd.Yb ho0) hb)
    have n3_ := yam (Kd.Ye (Kd.Yz HO717.out) (Kd.Yb ho0) hb)
    have n4_ := yam (Kd.R_lower (Kd.Yw (Kd.Yw (Kd.Yw (Kd.Yw ho0 (Kd.R_lt (Kd.Yz HO703.out))) (Kd.R_lt (Kd.Yz HO707.out))) (Kd.R_lt (Kd.Yz HO712.out))) (Kd.R_lt (Kd.Yz HO717.out))) (below_size (by repeat (first | (with_reducible first | exact HB.out | apply yea | apply yen | apply yed | refine below_set ?_ GE698.out | refine below_set ?_ GE714.out) | exact HB.out))))
    have n5_ := yam (blk_below (g := gb698) (o := .cells #[.int .i64 a0_0, .slice A0_1 l0_1.length c0_1, .int .i64 a0_2] 47 (0, 0)) (ybz BK698.out) hb)
    have n6_ := yam (blk_below (g := gb714) (o := .cells #[.int .i64 t709, .slice Ao107 t710.length co107, .int .i64 t713] 32 (0, 0)) (ybz BK714.out) hb)
    have n7_ := yam (below_step (by repeat (first | (with_reducible first | exact HB.out | apply yea | apply yen | apply yed | refine below_set ?_ GE698.out | refine below_set ?_ GE714.out) | exact HB.out)) hb)
    clear HO703
    clear HO707
    clear HO712
    clear HO717
    clear BK698
    clear BK714
    clear HB
    have HO703 := n0_
    have HO707 := n1_
    have HO712 := n2_
    have HO717 := n3_
    have HO722 := n4_
    have BK698 := n5_
    have BK714 := n6_
    have HB := n7_
    clear n0_ n1_ n2_ n3_ n4_ n5_ n6_ n7_
    (try clear hb)
    (try clear hb2)
    (try clear hk)
    (try clear hi)
    (try clear ho0)
    obtain ⟨Ao114, co114, eo114⟩ := Kd.R_slice HO722.out
    (first | subst eo114 | (injection eo114 with f1_ f2_ f3_; have f4_ := f1_.symm; have f5_ := f3_.symm; clear f1_ f2_ f3_; subst f4_; subst f5_))
    refine hK.out _ _ ⟨(blk_cell BK714.out 0).trans rfl, (blk_cell BK714.out 1).trans rfl, (blk_cell BK714.out 2).trans rfl, (blk_cell BK698.out 0).trans rfl, (blk_cell BK698.out 1).trans rfl, (blk_cell BK698.out 2).trans rfl⟩ (fun hHeld => ?_)
    clear hK K
    refine norm_ (a' := ?_) ?_ ?_
    rotate_left
    · show Act.put _ (some 39) _ = _
      simp only [Act.put, yps, i64_w, i32_w]
      rfl
    refine one_ (i := 3) (N := some 40) #[true, true, true, true, false] rfl rfl (by kernel_rfl) (by decide) (fun K hK => ?_)
    refine goes_ Try.func36 (by kernel_rfl) rfl #[.agg #[.int .i64 t709, .slice Ao107 t710.length co107, .int .i64 t713], .agg #[.int .i64 t719, .slice Ao114 t720.length co114, .int .i64 t723]] (by rfl) rfl rfl (by (try simp only [List.map_toArray, List.map_cons, List.map_nil]); first | done | rfl | (simp only [List.length_drop, List.length_take]; rfl)) ?_
    with_reducible refine (laws_eqRule.calls k t709 _ _ t710 t713 t719 _ _ t720 t723 false _ ?side1 ?side2 ?side3 ?side4 A38.out).mono ?_
    (case side1 => repeat (first | exact (Kd.Yr HO712.out).2.2 | (with_reducible refine Kd.C_alloc ?_ _) | (with_reducible refine Kd.C_drewN ?_ _) | (with_reducible refine Kd.C_drew ?_)))
    (case side2 => exact (Kd.Yr HO712.out).2.1)
    (case side3 => repeat (first | exact (Kd.Yr HO722.out).2.2 | (with_reducible refine Kd.C_alloc ?_ _) | (with_reducible refine Kd.C_drewN ?_ _) | (with_reducible refine Kd.C_drew ?_)))
    (case side4 => exact (Kd.Yr HO722.out).2.1)
    rintro e w115 ⟨rfl, hb⟩
    refine ⟨_, rfl, ?_⟩
    have n0_ := yam (Kd.R_below (Kd.Yz HO703.out) hb)
    have n1_ := yam (Kd.R_below (Kd.Yz HO707.out) hb)
    have n2_ := yam (Kd.R_below (Kd.Yz HO712.out) hb)
    have n3_ := yam (Kd.R_below (Kd.Yz HO717.out) hb)
    have n4_ := yam (Kd.R_below (Kd.Yz HO722.out) hb)
    have n5_ := yam (blk_below (g := gb698) (o := .cells #[.int .i64 a0_0, .slice A0_1 l0_1.length c0_1, .int .i64 a0_2] 47 (0, 0)) (ybz BK698.out) hb)
    have n6_ := yam (blk_below (g := gb714) (o := .cells #[.int .i64 t709, .slice Ao107 t710.length co107, .int .i64 t713] 32 (0, 0)) (ybz BK714.out) hb)
    have n7_ := yam (below_step (by repeat (first | (with_reducible first | exact HB.out | apply yea | apply yen | apply yed | refine below_set ?_ GE698.out | refine below_set ?_ GE714.out) | exact HB.out)) hb)
    clear HO703
    clear HO707
    clear HO712
    clear HO717
    clear HO722
    clear BK698
    clear BK714
    clear HB
    have HO703 := n0_
    have HO707 := n1_
    have HO712 := n2_
    have HO717 := n3_
    have HO722 := n4_
    have BK698 := n5_
    have BK714 := n6_
    have HB := n7_
    clear n0_ n1_ n2_ n3_ n4_ n5_ n6_ n7_
    (try clear hb)
    (try clear hb2)
    (try clear hk)
    (try clear hi)
    refine hK.out _ _ ⟨(blk_cell BK714.out 0).trans rfl, (blk_cell BK714.out 1).trans rfl, (blk_cell BK714.out 2).trans rfl, (blk_cell BK698.out 0).trans rfl, (blk_cell BK698.out 1).trans rfl, (blk_cell BK698.out 2).trans rfl⟩ (fun hHeld => ?_)
    clear hK K
    refine norm_ (a' := ?_) ?_ ?_
    rotate_left
    · show Act.put _ (some 40) _ = _
      simp only [Act.put, yps, i64_w, i32_w]
      rfl
    refine pure_ (i := 4) (N := some 41) (v := ?_) (a' := ?_) #[true, true, true, true, true] rfl rfl (by kernel_rfl) (fun _ _ _ h => h) (Or.inl ⟨by rfl, ?_⟩) ?_ ?_
    rotate_left
    · intro w'
      go_simp
      with_reducible rfl
    rotate_left
    · simp only [Act.put, yps, i64_w, i32_w]
      rfl
    refine done_ (by kernel_rfl) ?_
    try go_wp2
    go_ret
    exact ⟨by first | rfl | (simp [errW_none, errW_some] <;> rfl) | (simp [*, errW_none, errW_some] <;> rfl), by repeat (first | (with_reducible first | exact HB.out | apply yea | apply yen | apply yed | refine below_set ?_ GE698.out | refine below_set ?_ GE714.out) | exact HB.out)⟩

  subst c39
  have H1 : ((laws_toIntS.f k l1).bind fun t725 => ((laws_eqIntS.f k t715 t725).bind fun t728 => (if t728 = true then (some true) else (some false)))) = some r := by rw [if_pos rfl] at H; exact H
  clear H
  have H := H1
  clear H1
  replace H := Option.bind_eq_some_iff.mp H
  obtain ⟨t725, A400, H⟩ := H
  try dsimp only at H
  have A40 := yam A400
  clear A400
  replace H := Option.bind_eq_some_iff.mp H
  obtain ⟨t728, A410, H⟩ := H
  try dsimp only at H
  have A41 := yam A410
  clear A410
  by_cases c42 : t728 = true
  · subst c42
    have H1 : (some true) = some r := by rw [if_pos rfl] at H; exact H
    clear H
    have H := H1
    clear H1
    obtain rfl := Option.some.inj H
    go_enter Try.func8, Try.ntmps8
    try go_wp2_with (first | ((with_reducible refine gate_dst (N := 3) rfl ?_); refine box_event ?hg (N := 3) ?hd (cs := #[.int .i64 a0_0, .slice A0_1 l0_1.length c0_1, .int .i64 a0_2]) (t := 47) ?hr ?_; (case hd => rfl); (case hg => rfl); (case hr => first | (go_simp; done) | (go_simp; rfl)); intro gb698 hg w43 hbox hb; have n0_ := yam (below_step (yez HB.out) hb); have n1_ := yam (hbox); have n2_ := yam ((by rw [hg]; exact (below_size (yez HB.out)) : w.heap.size ≤ gb698)); have n3_ := yam ((by rw [hg]; exact (below_size (yez HB.out)) : w.heap.size ≤ gb698)); clear HB; have HB := n0_; have BK698 := n1_; have GW698 := n2_; have GE698 := n3_; clear n0_ n1_ n2_ n3_; clear hb hbox hg; have hcz44_0 : w43.cell? ⟨gb698, 0, none⟩ = some (.int .i64 a0_0) := (blk_cell BK698.out 0).trans rfl; have hcz44_1 : w43.cell? ⟨gb698, 1, none⟩ = some (.slice A0_1 l0_1.length c0_1) := (blk_cell BK698.out 1).trans rfl; have hcz44_2 : w43.cell? ⟨gb698, 2, none⟩ = some (.int .i64 a0_2) := (blk_cell BK698.out 2).trans rfl; have hfz44_0 := blk_frozen BK698.out 0; have hfz44_1 := blk_frozen BK698.out 1; have hfz44_2 := blk_frozen BK698.out 2) | ((with_reducible refine gate_callee (f := 30) rfl ?_); refine goesL_ (some 17) rfl rfl Try.func30 (by kernel_rfl) rfl #[.agg #[.int .i64 a0_0, .slice A0_1 l0_1.length c0_1, .int .i64 a0_2], .int .i64 1048576] rfl (by (try simp only [List.map_toArray, List.map_cons, List.map_nil]); first | done | rfl | (simp only [List.length_drop, List.length_take]; rfl)) ?_; (with_reducible refine (laws_szRule.calls a0_0 _ _ l0_1 a0_2 1048576 t699 _ ?side1 ?side2 A6.out).mono ?_); (case side1 => exact Kd.Cz ((Kd.C_below HR0_1.out HB.out))); (case side2 => exact HC0_1.out); rintro e w45 ⟨rfl, hb⟩; refine ⟨_, rfl, ?_⟩; have n0_ := yam (blk_below (g := gb698) (o := .cells #[.int .i64 a0_0, .slice A0_1 l0_1.length c0_1, .int .i64 a0_2] 47 (0, 0)) (ybz BK698.out) hb); have n1_ := yam (below_step (by repeat (first | (with_reducible first | exact HB.out | apply yea | apply yen | apply yed | refine below_set ?_ GE698.out) | exact HB.out)) hb); clear BK698; clear HB; have BK698 := n0_; have HB := n1_; clear n0_ n1_; (try clear hb); (try clear hb2); (try clear hk); (try clear hi); have hcz46_0 : w45.cell? ⟨gb698, 0, none⟩ = some (.int .i64 a0_0) := (blk_cell BK698.out 0).trans rfl; have hcz46_1 : w45.cell? ⟨gb698, 1, none⟩ = some (.slice A0_1 l0_1.length c0_1) := (blk_cell BK698.out 1).trans rfl; have hcz46_2 : w45.cell? ⟨gb698, 2, none⟩ = some (.int .i64 a0_2) := (blk_cell BK698.out 2).trans rfl; have hfz46_0 := blk_frozen BK698.out 0; have hfz46_1 := blk_frozen BK698.out 1; have hfz46_2 := blk_frozen BK698.out 2) | ((with_reducible refine gate_callee (f := 32) rfl ?_); refine goesL_ (some 21) rfl rfl Try.func32 (by kernel_rfl) rfl #[.agg #[.int .i64 a0_0, .slice A0_1 l0_1.length c0_1, .int .i64 a0_2]] rfl (by (try simp only [List.map_toArray, List.map_cons, List.map_nil]); first | done | rfl | (simp only [List.length_drop, List.length_take]; rfl)) ?_; (with_reducible refine (laws_toRule.calls k a0_0 _ _ l0_1 a0_2 t700 t701 t704 _ ?side1 ?side2 A11.out).mono ?_); (case side1 => exact Kd.Cz ((Kd.C_below HR0_1.out HB.out))); (case side2 => exact HC0_1.out); rintro e w47 ⟨v702, rfl, ho0, hb⟩; refine ⟨_, rfl, ?_⟩; have n0_ := yam (Kd.R_lower ho0 (below_size (by repeat (first | (with_reducible first | exact HB.out | apply yea | apply yen | apply yed | refine below_set ?_ GE698.out) | exact HB.out)))); have n1_ := yam (blk_below (g := gb698) (o := .cells #[.int .i64 a0_0, .slice A0_1 l0_1.length c0_1, .int .i64 a0_2] 47 (0, 0)) (ybz BK698.out) hb); have n2_ := yam (below_step (by repeat (first | (with_reducible first | exact HB.out | apply yea | apply yen | apply yed | refine below_set ?_ GE698.out) | exact HB.out)) hb); clear BK698; clear HB; have HO703 := n0_; have BK698 := n1_; have HB := n2_; clear n0_ n1_ n2_; (try clear hb); (try clear hb2); (try clear hk); (try clear hi); (try clear ho0)) | ((with_reducible refine gate_callee (f := 33) rfl ?_); refine goesL_ (some 23) rfl rfl Try.func33 (by kernel_rfl) rfl #[.slice A1 l1.length c1] rfl (by (try simp only [List.map_toArray, List.map_cons, List.map_nil]); first | done | rfl | (simp only [List.length_drop, List.length_take]; rfl)) ?_; (with_reducible refine (laws_toIntS.calls k _ _ l1 t705 _ ?side1 ?side2 A12.out).mono ?_); (case side1 => exact Kd.Cz ((Kd.C_below HR1.out HB.out))); (case side2 => exact HC1.out); rintro e w48 ⟨v706, rfl, ho0, hb⟩; refine ⟨_, rfl, ?_⟩; have n0_ := yam (Kd.Ye (Kd.Yz HO703.out) (Kd.Yb ho0) hb); have n1_ := yam (Kd.R_lower (Kd.Yw ho0 (Kd.R_lt (Kd.Yz HO703.out))) (below_size (by repeat (first | (with_reducible first | exact HB.out | apply yea | apply yen | apply yed | refine below_set ?_ GE698.out) | exact HB.out)))); have n2_ := yam (blk_below (g := gb698) (o := .cells #[.int .i64 a0_0, .slice A0_1 l0_1.length c0_1, .int .i64 a0_2] 47 (0, 0)) (ybz BK698.out) hb); have n3_ := yam (below_step (by repeat (first | (with_reducible first | exact HB.out | apply yea | apply yen | apply yed | refine below_set ?_ GE698.out) | exact HB.out)) hb); clear HO703; clear BK698; clear HB; have HO703 := n0_; have HO707 := n1_; have BK698 := n2_; have HB := n3_; clear n0_ n1_ n2_ n3_; (try clear hb); (try clear hb2); (try clear hk); (try clear hi); (try clear ho0); obtain ⟨Ao49, co49, eo49⟩ := Kd.R_slice HO703.out; subst eo49; obtain ⟨Ao50, co50, eo50⟩ := Kd.R_slice HO707.out; subst eo50) | ((with_reducible refine gate_callee (f := 43) rfl ?_); refine goesL_ (some 25) rfl rfl Try.func43 (by kernel_rfl) rfl #[.agg #[.int .i64 t700, .slice Ao49 t701.length co49, .int .i64 t704], .slice Ao50 t705.length co50, .int .i64 a2] rfl (by (try simp only [List.map_toArray, List.map_cons, List.map_nil]); first | done | rfl | (simp only [List.length_drop, List.length_take]; rfl)) ?_; (with_reducible refine (spec_RulePossible.calls k t700 _ _ t701 t704 _ _ t705 a2 t708 _ ?side1 ?side2 ?side3 ?side4 A13.out).mono ?_); (case side1 => repeat (first | exact (Kd.Yr HO703.out).2.2 | (with_reducible refine Kd.C_alloc ?_ _) | (with_reducible refine Kd.C_drewN ?_ _) | (with_reducible refine Kd.C_drew ?_))); (case side2 => exact (Kd.Yr HO703.out).2.1); (case side3 => repeat (first | exact (Kd.Yr HO707.out).2.2 | (with_reducible refine Kd.C_alloc ?_ _) | (with_reducible refine Kd.C_drewN ?_ _) | (with_reducible refine Kd.C_drew ?_))); (case side4 => exact (Kd.Yr HO707.out).2.1); rintro e w51 ⟨rfl, hb⟩; refine ⟨_, rfl, ?_⟩; have n0_ := yam (Kd.R_below (Kd.Yz HO703.out) hb); have n1_ := yam (Kd.R_below (Kd.Yz HO707.out) hb); have n2_ := yam (blk_below (g := gb698) (o := .cells #[.int .i64 a0_0, .slice A0_1 l0_1.length c0_1, .int .i64 a0_2] 47 (0, 0)) (ybz BK698.out) hb); have n3_ := yam (below_step (by repeat (first | (with_reducible first | exact HB.out | apply yea | apply yen | apply yed | refine below_set ?_ GE698.out) | exact HB.out)) hb); clear HO703; clear HO707; clear BK698; clear HB; have HO703 := n0_; have HO707 := n1_; have BK698 := n2_; have HB := n3_; clear n0_ n1_ n2_ n3_; (try clear hb); (try clear hb2); (try clear hk); (try clear hi); have hcz52_0 : w51.cell? ⟨gb698, 0, none⟩ = some (.int .i64 a0_0) := (blk_cell BK698.out 0).trans rfl; have hcz52_1 : w51.cell? ⟨gb698, 1, none⟩ = some (.slice A0_1 l0_1.length c0_1) := (blk_cell BK698.out 1).trans rfl; have hcz52_2 : w51.cell? ⟨gb698, 2, none⟩ = some (.int .i64 a0_2) := (blk_cell BK698.out 2).trans rfl; have hfz52_0 := blk_frozen BK698.out 0; have hfz52_1 := blk_frozen BK698.out 1; have hfz52_2 := blk_frozen BK698.out 2) | ((with_reducible refine gate_callee (f := 32) rfl ?_); refine goesL_ (some 27) rfl rfl Try.func32 (by kernel_rfl) rfl #[.agg #[.int .i64 a0_0, .slice A0_1 l0_1.length c0_1, .int .i64 a0_2]] rfl (by (try simp only [List.map_toArray, List.map_cons, List.map_nil]); first | done | rfl | (simp only [List.length_drop, List.length_take]; rfl)) ?_; (with_reducible refine (laws_toRule.calls k a0_0 _ _ l0_1 a0_2 t709 t710 t713 _ ?side1 ?side2 A14.out).mono ?_); (case side1 => exact Kd.Cz ((Kd.C_below HR0_1.out HB.out))); (case side2 => exact HC0_1.out); rintro e w53 ⟨v711, rfl, ho0, hb⟩; refine ⟨_, rfl, ?_⟩; have n0_ := yam (Kd.Ye (Kd.Yz HO703.out) (Kd.Yb ho0) hb); have n1_ := yam (Kd.Ye (Kd.Yz HO707.out) (Kd.Yb ho0) hb); have n2_ := yam (Kd.R_lower (Kd.Yw (Kd.Yw ho0 (Kd.R_lt (Kd.Yz HO703.out))) (Kd.R_lt (Kd.Yz HO707.out))) (below_size (by repeat (first | (with_reducible first | exact HB.out | apply yea | apply yen | apply yed | refine below_set ?_ GE698.out) | exact HB.out)))); have n3_ := yam (blk_below (g := gb698) (o := .cells #[.int .i64 a0_0, .slice A0_1 l0_1.length c0_1, .int .i64 a0_2] 47 (0, 0)) (ybz BK698.out) hb); have n4_ := yam (below_step (by repeat (first | (with_reducible first | exact HB.out | apply yea | apply yen | apply yed | refine below_set ?_ GE698.out) | exact HB.out)) hb); clear HO703; clear HO707; clear BK698; clear HB; have HO703 := n0_; have HO707 := n1_; have HO712 := n2_; have BK698 := n3_; have HB := n4_; clear n0_ n1_ n2_ n3_ n4_; (try clear hb); (try clear hb2); (try clear hk); (try clear hi); (try clear ho0)) | ((with_reducible refine gate_dst (N := 9) rfl ?_); refine box_event ?hg (N := 9) ?hd (cs := #[.int .i64 0, .slice none 0 0, .int .i64 0]) (t := 32) ?hr ?_; (case hd => rfl); (case hg => rfl); (case hr => first | (go_simp; done) | (go_simp; rfl)); intro gb714 hg w54 hbox hb; have n0_ := yam (Kd.R_below (Kd.Yz HO703.out) hb); have n1_ := yam (Kd.R_below (Kd.Yz HO707.out) hb); have n2_ := yam (Kd.R_below (Kd.Yz HO712.out) hb); have n3_ := yam (blk_below (g := gb698) (o := .cells #[.int .i64 a0_0, .slice A0_1 l0_1.length c0_1, .int .i64 a0_2] 47 (0, 0)) (ybz BK698.out) hb); have n4_ := yam (below_step (by repeat (first | (with_reducible first | exact HB.out | apply yea | apply yen | apply yed | refine below_set ?_ GE698.out) | exact HB.out)) hb); have n5_ := yam (hbox); have n6_ := yam ((by rw [hg]; exact (below_size (by repeat (first | (with_reducible first | exact HB.out | apply yea | apply yen | apply yed | refine below_set ?_ GE698.out) | exact HB.out))) : w.heap.size ≤ gb714)); have n7_ := yam ((by rw [hg]; exact (below_size (by repeat (first | (with_reducible first | exact HB.out | apply yea | apply yen | apply yed | refine below_set ?_ GE698.out) | exact HB.out))) : w.heap.size ≤ gb714)); have n8_ := yam ((by rw [hg]; exact Nat.ne_of_lt (blk_lt (g := gb698) (o := .cells #[.int .i64 a0_0, .slice A0_1 l0_1.length c0_1, .int .i64 a0_2] 47 (0, 0)) (ybz BK698.out)) : gb698 ≠ gb714)); have n9_ := yam ((by rw [hg]; exact Nat.ne_of_gt (blk_lt (g := gb698) (o := .cells #[.int .i64 a0_0, .slice A0_1 l0_1.length c0_1, .int .i64 a0_2] 47 (0, 0)) (ybz BK698.out)) : gb714 ≠ gb698)); clear HO703; clear HO707; clear HO712; clear BK698; clear HB; have HO703 := n0_; have HO707 := n1_; have HO712 := n2_; have BK698 := n3_; have HB := n4_; have BK714 := n5_; have GW714 := n6_; have GE714 := n7_; have NB698_714 := n8_; have NB714_698 := n9_; clear n0_ n1_ n2_ n3_ n4_ n5_ n6_ n7_ n8_ n9_; clear hb hbox hg; have hnb55 := NB714_698.out; have hnc55 := NB698_714.out; have hcz56_0 : w54.cell? ⟨gb714, 0, none⟩ = some (.int .i64 0) := (blk_cell BK714.out 0).trans rfl; have hcz56_1 : w54.cell? ⟨gb714, 1, none⟩ = some (.slice none 0 0) := (blk_cell BK714.out 1).trans rfl; have hcz56_2 : w54.cell? ⟨gb714, 2, none⟩ = some (.int .i64 0) := (blk_cell BK714.out 2).trans rfl; have hfz56_0 := blk_frozen BK714.out 0; have hfz56_1 := blk_frozen BK714.out 1; have hfz56_2 := blk_frozen BK714.out 2; obtain ⟨Ao57, co57, eo57⟩ := Kd.R_slice HO712.out; subst eo57) | ((with_reducible refine gate_callee (f := 33) rfl ?_); refine goesL_ (some 29) rfl rfl Try.func33 (by kernel_rfl) rfl #[.slice A1 l1.length c1] rfl (by (try simp only [List.map_toArray, List.map_cons, List.map_nil]); first | done | rfl | (simp only [List.length_drop, List.length_take]; rfl)) ?_; (with_reducible refine (laws_toIntS.calls k _ _ l1 t715 _ ?side1 ?side2 A15.out).mono ?_); (case side1 => exact Kd.C_below HR1.out (by repeat (first | (with_reducible first | exact HB.out | apply yea | apply yen | apply yed | refine below_set ?_ GE698.out | refine below_set ?_ GE714.out) | exact HB.out))); (case side2 => exact HC1.out); rintro e w58 ⟨v716, rfl, ho0, hb⟩; refine ⟨_, rfl, ?_⟩; have n0_ := yam (Kd.Ye (by (with_reducible repeat (first | apply Kd.Ya | apply Kd.Yn | apply Kd.Yd)); exact (Kd.R_mono (Kd.R_far (p := ⟨gb714, 2, none⟩) (Kd.R_far (p := ⟨gb714, 1, none⟩) (Kd.R_far (p := ⟨gb714, 0, none⟩) (Kd.R_types HO703.out BK714.out (by decide)) (fun _ hk => hk.2) (.int .i64 t709)) (fun _ hk => hk.2) (.slice Ao57 t710.length co57)) (fun _ hk => hk.2) (.int .i64 t713)) (fun _ h_ => h_.1))) (Kd.Yb ho0) hb); have n1_ := yam (Kd.Ye (by (with_reducible repeat (first | apply Kd.Ya | apply Kd.Yn | apply Kd.Yd)); exact (Kd.R_mono (Kd.R_far (p := ⟨gb714, 2, none⟩) (Kd.R_far (p := ⟨gb714, 1, none⟩) (Kd.R_far (p := ⟨gb714, 0, none⟩) (Kd.R_types HO707.out BK714.out (by decide)) (fun _ hk => hk.2) (.int .i64 t709)) (fun _ hk => hk.2) (.slice Ao57 t710.length co57)) (fun _ hk => hk.2) (.int .i64 t713)) (fun _ h_ => h_.1))) (Kd.Yb ho0) hb); have n2_ := yam (Kd.Ye (by (with_reducible repeat (first | apply Kd.Ya | apply Kd.Yn | apply Kd.Yd)); exact (Kd.R_mono (Kd.R_far (p := ⟨gb714, 2, none⟩) (Kd.R_far (p := ⟨gb714, 1, none⟩) (Kd.R_far (p := ⟨gb714, 0, none⟩) (Kd.R_types HO712.out BK714.out (by decide)) (fun _ hk => hk.2) (.int .i64 t709)) (fun _ hk => hk.2) (.slice Ao57 t710.length co57)) (fun _ hk => hk.2) (.int .i64 t713)) (fun _ h_ => h_.1))) (Kd.Yb ho0) hb); have n3_ := yam (Kd.R_lower (Kd.Yw (Kd.Yw (Kd.Yw ho0 (Kd.R_lt (by (with_reducible repeat (first | apply Kd.Ya | apply Kd.Yn | apply Kd.Yd)); exact (Kd.R_mono (Kd.R_far (p := ⟨gb714, 2, none⟩) (Kd.R_far (p := ⟨gb714, 1, none⟩) (Kd.R_far (p := ⟨gb714, 0, none⟩) (Kd.R_types HO703.out BK714.out (by decide)) (fun _ hk => hk.2) (.int .i64 t709)) (fun _ hk => hk.2) (.slice Ao57 t710.length co57)) (fun _ hk => hk.2) (.int .i64 t713)) (fun _ h_ => h_.1))))) (Kd.R_lt (by (with_reducible repeat (first | apply Kd.Ya | apply Kd.Yn | apply Kd.Yd)); exact (Kd.R_mono (Kd.R_far (p := ⟨gb714, 2, none⟩) (Kd.R_far (p := ⟨gb714, 1, none⟩) (Kd.R_far (p := ⟨gb714, 0, none⟩) (Kd.R_types HO707.out BK714.out (by decide)) (fun _ hk => hk.2) (.int .i64 t709)) (fun _ hk => hk.2) (.slice Ao57 t710.length co57)) (fun _ hk => hk.2) (.int .i64 t713)) (fun _ h_ => h_.1))))) (Kd.R_lt (by (with_reducible repeat (first | apply Kd.Ya | apply Kd.Yn | apply Kd.Yd)); exact (Kd.R_mono (Kd.R_far (p := ⟨gb714, 2, none⟩) (Kd.R_far (p := ⟨gb714, 1, none⟩) (Kd.R_far (p := ⟨gb714, 0, none⟩) (Kd.R_types HO712.out BK714.out (by decide)) (fun _ hk => hk.2) (.int .i64 t709)) (fun _ hk => hk.2) (.slice Ao57 t710.length co57)) (fun _ hk => hk.2) (.int .i64 t713)) (fun _ h_ => h_.1))))) (below_size (by repeat (first | (with_reducible first | exact HB.out | apply yea | apply yen | apply yed | refine below_set ?_ GE698.out | refine below_set ?_ GE714.out) | exact HB.out)))); have n4_ := yam (blk_below (g := gb698) (o := .cells #[.int .i64 a0_0, .slice A0_1 l0_1.length c0_1, .int .i64 a0_2] 47 (0, 0)) (by (with_reducible repeat (first | refine ybn ?_ _ | refine ybd ?_ | refine yba ?_ _)); refine blk_far ?_ NB698_714.out _; (with_reducible repeat (first | refine ybn ?_ _ | refine ybd ?_ | refine yba ?_ _)); refine blk_far ?_ NB698_714.out _; (with_reducible repeat (first | refine ybn ?_ _ | refine ybd ?_ | refine yba ?_ _)); refine blk_far ?_ NB698_714.out _; (with_reducible repeat (first | refine ybn ?_ _ | refine ybd ?_ | refine yba ?_ _)); exact BK698.out) hb); have n5_ := yam (blk_below (g := gb714) (o := .cells #[.int .i64 t709, .slice Ao57 t710.length co57, .int .i64 t713] 32 (0, 0)) (by (with_reducible repeat (first | refine ybn ?_ _ | refine ybd ?_ | refine yba ?_ _)); refine blk_put (cs := #[.int .i64 t709, .slice Ao57 t710.length co57, .int .i64 0]) ?_ 2 _ rfl; (with_reducible repeat (first | refine ybn ?_ _ | refine ybd ?_ | refine yba ?_ _)); refine blk_put (cs := #[.int .i64 t709, .slice none 0 0, .int .i64 0]) ?_ 1 _ rfl; (with_reducible repeat (first | refine ybn ?_ _ | refine ybd ?_ | refine yba ?_ _)); refine blk_put (cs := #[.int .i64 0, .slice none 0 0, .int .i64 0]) ?_ 0 _ rfl; (with_reducible repeat (first | refine ybn ?_ _ | refine ybd ?_ | refine yba ?_ _)); exact BK714.out) hb); have n6_ := yam (below_step (by repeat (first | (with_reducible first | exact HB.out | apply yea | apply yen | apply yed | refine below_set ?_ GE698.out | refine below_set ?_ GE714.out) | exact HB.out)) hb); clear HO703; clear HO707; clear HO712; clear BK698; clear BK714; clear HB; have HO703 := n0_; have HO707 := n1_; have HO712 := n2_; have HO717 := n3_; have BK698 := n4_; have BK714 := n5_; have HB := n6_; clear n0_ n1_ n2_ n3_ n4_ n5_ n6_; (try clear hb); (try clear hb2); (try clear hk); (try clear hi); (try clear ho0); have hcz59_0 : w58.cell? ⟨gb714, 0, none⟩ = some (.int .i64 t709) := (blk_cell BK714.out 0).trans rfl; have hcz59_1 : w58.cell? ⟨gb714, 1, none⟩ = some (.slice Ao57 t710.length co57) := (blk_cell BK714.out 1).trans rfl; have hcz59_2 : w58.cell? ⟨gb714, 2, none⟩ = some (.int .i64 t713) := (blk_cell BK714.out 2).trans rfl; have hfz59_0 := blk_frozen BK714.out 0; have hfz59_1 := blk_frozen BK714.out 1; have hfz59_2 := blk_frozen BK714.out 2; obtain ⟨Ao60, co60, eo60⟩ := Kd.R_slice HO717.out; subst eo60) | ((with_reducible refine gate_callee (f := 44) rfl ?_); refine goesL_ (some 33) rfl rfl Try.func44 (by kernel_rfl) rfl #[.agg #[.int .i64 t709, .slice Ao57 t710.length co57, .int .i64 t713], .slice Ao60 t715.length co60, .int .i64 a2] rfl (by (try simp only [List.map_toArray, List.map_cons, List.map_nil]); first | done | rfl | (simp only [List.length_drop, List.length_take]; rfl)) ?_; (with_reducible refine (impl_RulePossible.calls k t709 _ _ t710 t713 _ _ t715 a2 t718 _ ?side1 ?side2 ?side3 ?side4 A16.out).mono ?_); (case side1 => repeat (first | exact (Kd.Yr HO712.out).2.2 | (with_reducible refine Kd.C_alloc ?_ _) | (with_reducible refine Kd.C_drewN ?_ _) | (with_reducible refine Kd.C_drew ?_))); (case side2 => exact (Kd.Yr HO712.out).2.1); (case side3 => repeat (first | exact (Kd.Yr HO717.out).2.2 | (with_reducible refine Kd.C_alloc ?_ _) | (with_reducible refine Kd.C_drewN ?_ _) | (with_reducible refine Kd.C_drew ?_))); (case side4 => exact (Kd.Yr HO717.out).2.1); rintro e w61 ⟨rfl, hb⟩; refine ⟨_, rfl, ?_⟩; have n0_ := yam (Kd.R_below (Kd.Yz HO703.out) hb); have n1_ := yam (Kd.R_below (Kd.Yz HO707.out) hb); have n2_ := yam (Kd.R_below (Kd.Yz HO712.out) hb); have n3_ := yam (Kd.R_below (Kd.Yz HO717.out) hb); have n4_ := yam (blk_below (g := gb698) (o := .cells #[.int .i64 a0_0, .slice A0_1 l0_1.length c0_1, .int .i64 a0_2] 47 (0, 0)) (ybz BK698.out) hb); have n5_ := yam (blk_below (g := gb714) (o := .cells #[.int .i64 t709, .slice Ao57 t710.length co57, .int .i64 t713] 32 (0, 0)) (ybz BK714.out) hb); have n6_ := yam (below_step (by repeat (first | (with_reducible first | exact HB.out | apply yea | apply yen | apply yed | refine below_set ?_ GE698.out | refine below_set ?_ GE714.out) | exact HB.out)) hb); clear HO703; clear HO707; clear HO712; clear HO717; clear BK698; clear BK714; clear HB; have HO703 := n0_; have HO707 := n1_; have HO712 := n2_; have HO717 := n3_; have BK698 := n4_; have BK714 := n5_; have HB := n6_; clear n0_ n1_ n2_ n3_ n4_ n5_ n6_; (try clear hb); (try clear hb2); (try clear hk); (try clear hi)))
    have n0_ := yam (Kd.Yd HO703.out)
    have n1_ := yam (Kd.Yd HO707.out)
    have n2_ := yam (Kd.Yd HO712.out)
    have n3_ := yam (Kd.Yd HO717.out)
    have n4_ := yam (ybd BK698.out)
    have n5_ := yam (ybd BK714.out)
    have n6_ := yam (yed HB.out)
    clear HO703
    clear HO707
    clear HO712
    clear HO717
    clear BK698
    clear BK714
    clear HB
    have HO703 := n0_
    have HO707 := n1_
    have HO712 := n2_
    have HO717 := n3_
    have BK698 := n4_
    have BK714 := n5_
    have HB := n6_
    clear n0_ n1_ n2_ n3_ n4_ n5_ n6_
    refine start_ (n := 5) (S := fun w' => w'.cell? ⟨gb714, 0, none⟩ = some (.int .i64 t709) ∧ w'.cell? ⟨gb714, 1, none⟩ = some (.slice Ao57 t710.length co57) ∧ w'.cell? ⟨gb714, 2, none⟩ = some (.int .i64 t713) ∧ w'.cell? ⟨gb698, 0, none⟩ = some (.int .i64 a0_0) ∧ w'.cell? ⟨gb698, 1, none⟩ = some (.slice A0_1 l0_1.length c0_1) ∧ w'.cell? ⟨gb698, 2, none⟩ = some (.int .i64 a0_2)) (ds := []) #[false, false, false, false, false] (by kernel_rfl) rfl rfl ⟨(blk_cell BK714.out 0).trans rfl, (blk_cell BK714.out 1).trans rfl, (blk_cell BK714.out 2).trans rfl, (blk_cell BK698.out 0).trans rfl, (blk_cell BK698.out 1).trans rfl, (blk_cell BK698.out 2).trans rfl⟩ (fun hHeld => ?_)
    generalize w61.drew = w62 at HO703 HO707 HO712 HO717 BK698 BK714 HB hHeld ⊢
    refine take_ (i := 0) (N := some 37) (v := ?_) (a' := ?_) #[true, false, false, false, false] rfl rfl (by kernel_rfl) (fun _ _ _ h => h) (Or.inl ⟨by rfl, ?_⟩) hHeld ?_ ?_
    rotate_left
    · rintro w' ⟨s0, s1, s2, s3, s4, s5⟩
      go_simp
      with_reducible rfl
    rotate_left
    · simp only [Act.put, yps, i64_w, i32_w]
      rfl
    refine take_ (i := 1) (N := some 38) (v := ?_) (a' := ?_) #[true, true, false, false, false] rfl rfl (by kernel_rfl) (fun _ _ _ h => h) (Or.inl ⟨by rfl, ?_⟩) hHeld ?_ ?_
    rotate_left
    · rintro w' ⟨s0, s1, s2, s3, s4, s5⟩
      go_simp
      with_reducible rfl
    rotate_left
    · simp only [Act.put, yps, i64_w, i32_w]
      rfl
    refine one_ (i := 2) (N := some 39) #[true, true, true, false, false] rfl rfl (by kernel_rfl) (by decide) (fun K hK => ?_)
    refine goes_ Try.func32 (by kernel_rfl) rfl #[.agg #[.int .i64 a0_0, .slice A0_1 l0_1.length c0_1, .int .i64 a0_2]] (by rfl) rfl rfl (by (try simp only [List.map_toArray, List.map_cons, List.map_nil]); first | done | rfl | (simp only [List.length_drop, List.length_take]; rfl)) ?_
    with_reducible refine (laws_toRule.calls k a0_0 _ _ l0_1 a0_2 t719 t720 t723 _ ?side1 ?side2 A37.out).mono ?_
    (case side1 => exact Kd.Cz ((Kd.C_below HR0_1.out HB.out)))
    (case side2 => exact HC0_1.out)
    rintro e w63 ⟨v721, rfl, ho0, hb⟩
    refine ⟨_, rfl, ?_⟩
    have n0_ := yam (Kd.Ye (Kd.Yz HO703.out) (Kd.Yb ho0) hb)
    have n1_ := yam (Kd.Ye (Kd.Yz HO707.out) (Kd.Yb ho0) hb)
    have n2_ := yam (Kd.Ye (Kd.Yz HO712.out) (Kd.Yb ho0) hb)
    have n3_ := yam (Kd.Ye (Kd.Yz HO717.out) (Kd.Yb ho0) hb)
    have n4_ := yam (Kd.R_lower (Kd.Yw (Kd.Yw (Kd.Yw (Kd.Yw ho0 (Kd.R_lt (Kd.Yz HO703.out))) (Kd.R_lt (Kd.Yz HO707.out))) (Kd.R_lt (Kd.Yz HO712.out))) (Kd.R_lt (Kd.Yz HO717.out))) (below_size (by repeat (first | (with_reducible first | exact HB.out | apply yea | apply yen | apply yed | refine below_set ?_ GE698.out | refine below_set ?_ GE714.out) | exact HB.out))))
    have n5_ := yam (blk_below (g := gb698) (o := .cells #[.int .i64 a0_0, .slice A0_1 l0_1.length c0_1, .int .i64 a0_2] 47 (0, 0)) (ybz BK698.out) hb)
    have n6_ := yam (blk_below (g := gb714) (o := .cells #[.int .i64 t709, .slice Ao57 t710.length co57, .int .i64 t713] 32 (0, 0)) (ybz BK714.out) hb)
    have n7_ := yam (below_step (by repeat (first | (with_reducible first | exact HB.out | apply yea | apply yen | apply yed | refine below_set ?_ GE698.out | refine below_set ?_ GE714.out) | exact HB.out)) hb)
    clear HO703
    clear HO707
    clear HO712
    clear HO717
    clear BK698
    clear BK714
    clear HB
    have HO703 := n0_
    have HO707 := n1_
    have HO712 := n2_
    have HO717 := n3_
    have HO722 := n4_
    have BK698 := n5_
    have BK714 := n6_
    have HB := n7_
    clear n0_ n1_ n2_ n3_ n4_ n5_ n6_ n7_
    (try clear hb)
    (try clear hb2)
    (try clear hk)
    (try clear hi)
    (try clear ho0)
    obtain ⟨Ao64, co64, eo64⟩ := Kd.R_slice HO722.out
    (first | subst eo64 | (injection eo64 with f1_ f2_ f3_; have f4_ := f1_.symm; have f5_ := f3_.symm; clear f1_ f2_ f3_; subst f4_; subst f5_))
    refine hK.out _ _ ⟨(blk_cell BK714.out 0).trans rfl, (blk_cell BK714.out 1).trans rfl, (blk_cell BK714.out 2).trans rfl, (blk_cell BK698.out 0).trans rfl, (blk_cell BK698.out 1).trans rfl, (blk_cell BK698.out 2).trans rfl⟩ (fun hHeld => ?_)
    clear hK K
    refine norm_ (a' := ?_) ?_ ?_
    rotate_left
    · show Act.put _ (some 39) _ = _
      simp only [Act.put, yps, i64_w, i32_w]
      rfl
    refine one_ (i := 3) (N := some 40) #[true, true, true, true, false] rfl rfl (by kernel_rfl) (by decide) (fun K hK => ?_)
    refine goes_ Try.func36 (by kernel_rfl) rfl #[.agg #[.int .i64 t709, .slice Ao57 t710.length co57, .int .i64 t713], .agg #[.int .i64 t719, .slice Ao64 t720.length co64, .int .i64 t723]] (by rfl) rfl rfl (by (try simp only [List.map_toArray, List.map_cons, List.map_nil]); first | done | rfl | (simp only [List.length_drop, List.length_take]; rfl)) ?_
    with_reducible refine (laws_eqRule.calls k t709 _ _ t710 t713 t719 _ _ t720 t723 true _ ?side1 ?side2 ?side3 ?side4 A38.out).mono ?_
    (case side1 => repeat (first | exact (Kd.Yr HO712.out).2.2 | (with_reducible refine Kd.C_alloc ?_ _) | (with_reducible refine Kd.C_drewN ?_ _) | (with_reducible refine Kd.C_drew ?_)))
    (case side2 => exact (Kd.Yr HO712.out).2.1)
    (case side3 => repeat (first | exact (Kd.Yr HO722.out).2.2 | (with_reducible refine Kd.C_alloc ?_ _) | (with_reducible refine Kd.C_drewN ?_ _) | (with_reducible refine Kd.C_drew ?_)))
    (case side4 => exact (Kd.Yr HO722.out).2.1)
    rintro e w65 ⟨rfl, hb⟩
    refine ⟨_, rfl, ?_⟩
    have n0_ := yam (Kd.R_below (Kd.Yz HO703.out) hb)
    have n1_ := yam (Kd.R_below (Kd.Yz HO707.out) hb)
    have n2_ := yam (Kd.R_below (Kd.Yz HO712.out) hb)
    have n3_ := yam (Kd.R_below (Kd.Yz HO717.out) hb)
    have n4_ := yam (Kd.R_below (Kd.Yz HO722.out) hb)
    have n5_ := yam (blk_below (g := gb698) (o := .cells #[.int .i64 a0_0, .slice A0_1 l0_1.length c0_1, .int .i64 a0_2] 47 (0, 0)) (ybz BK698.out) hb)
    have n6_ := yam (blk_below (g := gb714) (o := .cells #[.int .i64 t709, .slice Ao57 t710.length co57, .int .i64 t713] 32 (0, 0)) (ybz BK714.out) hb)
    have n7_ := yam (below_step (by repeat (first | (with_reducible first | exact HB.out | apply yea | apply yen | apply yed | refine below_set ?_ GE698.out | refine below_set ?_ GE714.out) | exact HB.out)) hb)
    clear HO703
    clear HO707
    clear HO712
    clear HO717
    clear HO722
    clear BK698
    clear BK714
    clear HB
    have HO703 := n0_
    have HO707 := n1_
    have HO712 := n2_
    have HO717 := n3_
    have HO722 := n4_
    have BK698 := n5_
    have BK714 := n6_
    have HB := n7_
    clear n0_ n1_ n2_ n3_ n4_ n5_ n6_ n7_
    (try clear hb)
    (try clear hb2)
    (try clear hk)
    (try clear hi)
    refine hK.out _ _ ⟨(blk_cell BK714.out 0).trans rfl, (blk_cell BK714.out 1).trans rfl, (blk_cell BK714.out 2).trans rfl, (blk_cell BK698.out 0).trans rfl, (blk_cell BK698.out 1).trans rfl, (blk_cell BK698.out 2).trans rfl⟩ (fun hHeld => ?_)
    clear hK K
    refine norm_ (a' := ?_) ?_ ?_
    rotate_left
    · show Act.put _ (some 40) _ = _
      simp only [Act.put, yps, i64_w, i32_w]
      rfl
    refine pure_ (i := 4) (N := some 41) (v := ?_) (a' := ?_) #[true, true, true, true, true] rfl rfl (by kernel_rfl) (fun _ _ _ h => h) (Or.inl ⟨by rfl, ?_⟩) ?_ ?_
    rotate_left
    · intro w'
      go_simp
      with_reducible rfl
    rotate_left
    · simp only [Act.put, yps, i64_w, i32_w]
      rfl
    refine done_ (by kernel_rfl) ?_
    try go_wp2_with (first | ((with_reducible refine gate_callee (f := 33) rfl ?_); refine goesL_ (some 44) rfl rfl Try.func33 (by kernel_rfl) rfl #[.slice A1 l1.length c1] rfl (by (try simp only [List.map_toArray, List.map_cons, List.map_nil]); first | done | rfl | (simp only [List.length_drop, List.length_take]; rfl)) ?_; (with_reducible refine (laws_toIntS.calls k _ _ l1 t725 _ ?side1 ?side2 A40.out).mono ?_); (case side1 => exact Kd.Cz ((Kd.C_below HR1.out HB.out))); (case side2 => exact HC1.out); rintro e w66 ⟨v726, rfl, ho0, hb⟩; refine ⟨_, rfl, ?_⟩; have n0_ := yam (Kd.Ye (Kd.Yz HO703.out) (Kd.Yb ho0) hb); have n1_ := yam (Kd.Ye (Kd.Yz HO707.out) (Kd.Yb ho0) hb); have n2_ := yam (Kd.Ye (Kd.Yz HO712.out) (Kd.Yb ho0) hb); have n3_ := yam (Kd.Ye (Kd.Yz HO717.out) (Kd.Yb ho0) hb); have n4_ := yam (Kd.Ye (Kd.Yz HO722.out) (Kd.Yb ho0) hb); have n5_ := yam (Kd.R_lower (Kd.Yw (Kd.Yw (Kd.Yw (Kd.Yw (Kd.Yw ho0 (Kd.R_lt (Kd.Yz HO703.out))) (Kd.R_lt (Kd.Yz HO707.out))) (Kd.R_lt (Kd.Yz HO712.out))) (Kd.R_lt (Kd.Yz HO717.out))) (Kd.R_lt (Kd.Yz HO722.out))) (below_size (by repeat (first | (with_reducible first | exact HB.out | apply yea | apply yen | apply yed | refine below_set ?_ GE698.out | refine below_set ?_ GE714.out) | exact HB.out)))); have n6_ := yam (blk_below (g := gb698) (o := .cells #[.int .i64 a0_0, .slice A0_1 l0_1.length c0_1, .int .i64 a0_2] 47 (0, 0)) (ybz BK698.out) hb); have n7_ := yam (blk_below (g := gb714) (o := .cells #[.int .i64 t709, .slice Ao57 t710.length co57, .int .i64 t713] 32 (0, 0)) (ybz BK714.out) hb); have n8_ := yam (below_step (by repeat (first | (with_reducible first | exact HB.out | apply yea | apply yen | apply yed | refine below_set ?_ GE698.out | refine below_set ?_ GE714.out) | exact HB.out)) hb); clear HO703; clear HO707; clear HO712; clear HO717; clear HO722; clear BK698; clear BK714; clear HB; have HO703 := n0_; have HO707 := n1_; have HO712 := n2_; have HO717 := n3_; have HO722 := n4_; have HO727 := n5_; have BK698 := n6_; have BK714 := n7_; have HB := n8_; clear n0_ n1_ n2_ n3_ n4_ n5_ n6_ n7_ n8_; (try clear hb); (try clear hb2); (try clear hk); (try clear hi); (try clear ho0); obtain ⟨Ao67, co67, eo67⟩ := Kd.R_slice HO727.out; subst eo67) | ((with_reducible refine gate_callee (f := 35) rfl ?_); refine goesL_ (some 45) rfl rfl Try.func35 (by kernel_rfl) rfl #[.slice Ao60 t715.length co60, .slice Ao67 t725.length co67] rfl (by (try simp only [List.map_toArray, List.map_cons, List.map_nil]); first | done | rfl | (simp only [List.length_drop, List.length_take]; rfl)) ?_; (with_reducible refine (laws_eqIntS.calls k _ _ t715 _ _ t725 true _ ?side1 ?side2 ?side3 ?side4 A41.out).mono ?_); (case side1 => repeat (first | exact (Kd.Yr HO717.out).2.2 | (with_reducible refine Kd.C_alloc ?_ _) | (with_reducible refine Kd.C_drewN ?_ _) | (with_reducible refine Kd.C_drew ?_))); (case side2 => exact (Kd.Yr HO717.out).2.1); (case side3 => repeat (first | exact (Kd.Yr HO727.out).2.2 | (with_reducible refine Kd.C_alloc ?_ _) | (with_reducible refine Kd.C_drewN ?_ _) | (with_reducible refine Kd.C_drew ?_))); (case side4 => exact (Kd.Yr HO727.out).2.1); rintro e w' ⟨rfl, ⟨nd, rfl⟩⟩; refine ⟨_, rfl, ?_⟩))
    go_ret
    exact ⟨by first | rfl | (simp [errW_none, errW_some] <;> rfl) | (simp [*, errW_none, errW_some] <;> rfl), by repeat (first | (with_reducible first | exact HB.out | apply yea | apply yen | apply yed | refine below_set ?_ GE698.out | refine below_set ?_ GE714.out) | exact HB.out)⟩
  replace c42 := Bool.eq_false_iff.mpr c42
  subst c42
  have H1 : (some false) = some r := by rw [if_neg (show ¬ (false = true) by decide)] at H; exact H
  clear H
  have H := H1
  clear H1
  obtain rfl := Option.some.inj H
  go_enter Try.func8, Try.ntmps8
  try go_wp2_with (first | ((with_reducible refine gate_dst (N := 3) rfl ?_); refine box_event ?hg (N := 3) ?hd (cs := #[.int .i64 a0_0, .slice A0_1 l0_1.length c0_1, .int .i64 a0_2]) (t := 47) ?hr ?_; (case hd => rfl); (case hg => rfl); (case hr => first | (go_simp; done) | (go_simp; rfl)); intro gb698 hg w68 hbox hb; have n0_ := yam (below_step (yez HB.out) hb); have n1_ := yam (hbox); have n2_ := yam ((by rw [hg]; exact (below_size (yez HB.out)) : w.heap.size ≤ gb698)); have n3_ := yam ((by rw [hg]; exact (below_size (yez HB.out)) : w.heap.size ≤ gb698)); clear HB; have HB := n0_; have BK698 := n1_; have GW698 := n2_; have GE698 := n3_; clear n0_ n1_ n2_ n3_; clear hb hbox hg; have hcz69_0 : w68.cell? ⟨gb698, 0, none⟩ = some (.int .i64 a0_0) := (blk_cell BK698.out 0).trans rfl; have hcz69_1 : w68.cell? ⟨gb698, 1, none⟩ = some (.slice A0_1 l0_1.length c0_1) := (blk_cell BK698.out 1).trans rfl; have hcz69_2 : w68.cell? ⟨gb698, 2, none⟩ = some (.int .i64 a0_2) := (blk_cell BK698.out 2).trans rfl; have hfz69_0 := blk_frozen BK698.out 0; have hfz69_1 := blk_frozen BK698.out 1; have hfz69_2 := blk_frozen BK698.out 2) | ((with_reducible refine gate_callee (f := 30) rfl ?_); refine goesL_ (some 17) rfl rfl Try.func30 (by kernel_rfl) rfl #[.agg #[.int .i64 a0_0, .slice A0_1 l0_1.length c0_1, .int .i64 a0_2], .int .i64 1048576] rfl (by (try simp only [List.map_toArray, List.map_cons, List.map_nil]); first | done | rfl | (simp only [List.length_drop, List.length_take]; rfl)) ?_; (with_reducible refine (laws_szRule.calls a0_0 _ _ l0_1 a0_2 1048576 t699 _ ?side1 ?side2 A6.out).mono ?_); (case side1 => exact Kd.Cz ((Kd.C_below HR0_1.out HB.out))); (case side2 => exact HC0_1.out); rintro e w70 ⟨rfl, hb⟩; refine ⟨_, rfl, ?_⟩; have n0_ := yam (blk_below (g := gb698) (o := .cells #[.int .i64 a0_0, .slice A0_1 l0_1.length c0_1, .int .i64 a0_2] 47 (0, 0)) (ybz BK698.out) hb); have n1_ := yam (below_step (by repeat (first | (with_reducible first | exact HB.out | apply yea | apply yen | apply yed | refine below_set ?_ GE698.out) | exact HB.out)) hb); clear BK698; clear HB; have BK698 := n0_; have HB := n1_; clear n0_ n1_; (try clear hb); (try clear hb2); (try clear hk); (try clear hi); have hcz71_0 : w70.cell? ⟨gb698, 0, none⟩ = some (.int .i64 a0_0) := (blk_cell BK698.out 0).trans rfl; have hcz71_1 : w70.cell? ⟨gb698, 1, none⟩ = some (.slice A0_1 l0_1.length c0_1) := (blk_cell BK698.out 1).trans rfl; have hcz71_2 : w70.cell? ⟨gb698, 2, none⟩ = some (.int .i64 a0_2) := (blk_cell BK698.out 2).trans rfl; have hfz71_0 := blk_frozen BK698.out 0; have hfz71_1 := blk_frozen BK698.out 1; have hfz71_2 := blk_frozen BK698.out 2) | ((with_reducible refine gate_callee (f := 32) rfl ?_); refine goesL_ (some 21) rfl rfl Try.func32 (by kernel_rfl) rfl #[.agg #[.int .i64 a0_0, .slice A0_1 l0_1.length c0_1, .int .i64 a0_2]] rfl (by (try simp only [List.map_toArray, List.map_cons, List.map_nil]); first | done | rfl | (simp only [List.length_drop, List.length_take]; rfl)) ?_; (with_reducible refine (laws_toRule.calls k a0_0 _ _ l0_1 a0_2 t700 t701 t704 _ ?side1 ?side2 A11.out).mono ?_); (case side1 => exact Kd.Cz ((Kd.C_below HR0_1.out HB.out))); (case side2 => exact HC0_1.out); rintro e w72 ⟨v702, rfl, ho0, hb⟩; refine ⟨_, rfl, ?_⟩; have n0_ := yam (Kd.R_lower ho0 (below_size (by repeat (first | (with_reducible first | exact HB.out | apply yea | apply yen | apply yed | refine below_set ?_ GE698.out) | exact HB.out)))); have n1_ := yam (blk_below (g := gb698) (o := .cells #[.int .i64 a0_0, .slice A0_1 l0_1.length c0_1, .int .i64 a0_2] 47 (0, 0)) (ybz BK698.out) hb); have n2_ := yam (below_step (by repeat (first | (with_reducible first | exact HB.out | apply yea | apply yen | apply yed | refine below_set ?_ GE698.out) | exact HB.out)) hb); clear BK698; clear HB; have HO703 := n0_; have BK698 := n1_; have HB := n2_; clear n0_ n1_ n2_; (try clear hb); (try clear hb2); (try clear hk); (try clear hi); (try clear ho0)) | ((with_reducible refine gate_callee (f := 33) rfl ?_); refine goesL_ (some 23) rfl rfl Try.func33 (by kernel_rfl) rfl #[.slice A1 l1.length c1] rfl (by (try simp only [List.map_toArray, List.map_cons, List.map_nil]); first | done | rfl | (simp only [List.length_drop, List.length_take]; rfl)) ?_; (with_reducible refine (laws_toIntS.calls k _ _ l1 t705 _ ?side1 ?side2 A12.out).mono ?_); (case side1 => exact Kd.Cz ((Kd.C_below HR1.out HB.out))); (case side2 => exact HC1.out); rintro e w73 ⟨v706, rfl, ho0, hb⟩; refine ⟨_, rfl, ?_⟩; have n0_ := yam (Kd.Ye (Kd.Yz HO703.out) (Kd.Yb ho0) hb); have n1_ := yam (Kd.R_lower (Kd.Yw ho0 (Kd.R_lt (Kd.Yz HO703.out))) (below_size (by repeat (first | (with_reducible first | exact HB.out | apply yea | apply yen | apply yed | refine below_set ?_ GE698.out) | exact HB.out)))); have n2_ := yam (blk_below (g := gb698) (o := .cells #[.int .i64 a0_0, .slice A0_1 l0_1.length c0_1, .int .i64 a0_2] 47 (0, 0)) (ybz BK698.out) hb); have n3_ := yam (below_step (by repeat (first | (with_reducible first | exact HB.out | apply yea | apply yen | apply yed | refine below_set ?_ GE698.out) | exact HB.out)) hb); clear HO703; clear BK698; clear HB; have HO703 := n0_; have HO707 := n1_; have BK698 := n2_; have HB := n3_; clear n0_ n1_ n2_ n3_; (try clear hb); (try clear hb2); (try clear hk); (try clear hi); (try clear ho0); obtain ⟨Ao74, co74, eo74⟩ := Kd.R_slice HO703.out; subst eo74; obtain ⟨Ao75, co75, eo75⟩ := Kd.R_slice HO707.out; subst eo75) | ((with_reducible refine gate_callee (f := 43) rfl ?_); refine goesL_ (some 25) rfl rfl Try.func43 (by kernel_rfl) rfl #[.agg #[.int .i64 t700, .slice Ao74 t701.length co74, .int .i64 t704], .slice Ao75 t705.length co75, .int .i64 a2] rfl (by (try simp only [List.map_toArray, List.map_cons, List.map_nil]); first | done | rfl | (simp only [List.length_drop, List.length_take]; rfl)) ?_; (with_reducible refine (spec_RulePossible.calls k t700 _ _ t701 t704 _ _ t705 a2 t708 _ ?side1 ?side2 ?side3 ?side4 A13.out).mono ?_); (case side1 => repeat (first | exact (Kd.Yr HO703.out).2.2 | (with_reducible refine Kd.C_alloc ?_ _) | (with_reducible refine Kd.C_drewN ?_ _) | (with_reducible refine Kd.C_drew ?_))); (case side2 => exact (Kd.Yr HO703.out).2.1); (case side3 => repeat (first | exact (Kd.Yr HO707.out).2.2 | (with_reducible refine Kd.C_alloc ?_ _) | (with_reducible refine Kd.C_drewN ?_ _) | (with_reducible refine Kd.C_drew ?_))); (case side4 => exact (Kd.Yr HO707.out).2.1); rintro e w76 ⟨rfl, hb⟩; refine ⟨_, rfl, ?_⟩; have n0_ := yam (Kd.R_below (Kd.Yz HO703.out) hb); have n1_ := yam (Kd.R_below (Kd.Yz HO707.out) hb); have n2_ := yam (blk_below (g := gb698) (o := .cells #[.int .i64 a0_0, .slice A0_1 l0_1.length c0_1, .int .i64 a0_2] 47 (0, 0)) (ybz BK698.out) hb); have n3_ := yam (below_step (by repeat (first | (with_reducible first | exact HB.out | apply yea | apply yen | apply yed | refine below_set ?_ GE698.out) | exact HB.out)) hb); clear HO703; clear HO707; clear BK698; clear HB; have HO703 := n0_; have HO707 := n1_; have BK698 := n2_; have HB := n3_; clear n0_ n1_ n2_ n3_; (try clear hb); (try clear hb2); (try clear hk); (try clear hi); have hcz77_0 : w76.cell? ⟨gb698, 0, none⟩ = some (.int .i64 a0_0) := (blk_cell BK698.out 0).trans rfl; have hcz77_1 : w76.cell? ⟨gb698, 1, none⟩ = some (.slice A0_1 l0_1.length c0_1) := (blk_cell BK698.out 1).trans rfl; have hcz77_2 : w76.cell? ⟨gb698, 2, none⟩ = some (.int .i64 a0_2) := (blk_cell BK698.out 2).trans rfl; have hfz77_0 := blk_frozen BK698.out 0; have hfz77_1 := blk_frozen BK698.out 1; have hfz77_2 := blk_frozen BK698.out 2) | ((with_reducible refine gate_callee (f := 32) rfl ?_); refine goesL_ (some 27) rfl rfl Try.func32 (by kernel_rfl) rfl #[.agg #[.int .i64 a0_0, .slice A0_1 l0_1.length c0_1, .int .i64 a0_2]] rfl (by (try simp only [List.map_toArray, List.map_cons, List.map_nil]); first | done | rfl | (simp only [List.length_drop, List.length_take]; rfl)) ?_; (with_reducible refine (laws_toRule.calls k a0_0 _ _ l0_1 a0_2 t709 t710 t713 _ ?side1 ?side2 A14.out).mono ?_); (case side1 => exact Kd.Cz ((Kd.C_below HR0_1.out HB.out))); (case side2 => exact HC0_1.out); rintro e w78 ⟨v711, rfl, ho0, hb⟩; refine ⟨_, rfl, ?_⟩; have n0_ := yam (Kd.Ye (Kd.Yz HO703.out) (Kd.Yb ho0) hb); have n1_ := yam (Kd.Ye (Kd.Yz HO707.out) (Kd.Yb ho0) hb); have n2_ := yam (Kd.R_lower (Kd.Yw (Kd.Yw ho0 (Kd.R_lt (Kd.Yz HO703.out))) (Kd.R_lt (Kd.Yz HO707.out))) (below_size (by repeat (first | (with_reducible first | exact HB.out | apply yea | apply yen | apply yed | refine below_set ?_ GE698.out) | exact HB.out)))); have n3_ := yam (blk_below (g := gb698) (o := .cells #[.int .i64 a0_0, .slice A0_1 l0_1.length c0_1, .int .i64 a0_2] 47 (0, 0)) (ybz BK698.out) hb); have n4_ := yam (below_step (by repeat (first | (with_reducible first | exact HB.out | apply yea | apply yen | apply yed | refine below_set ?_ GE698.out) | exact HB.out)) hb); clear HO703; clear HO707; clear BK698; clear HB; have HO703 := n0_; have HO707 := n1_; have HO712 := n2_; have BK698 := n3_; have HB := n4_; clear n0_ n1_ n2_ n3_ n4_; (try clear hb); (try clear hb2); (try clear hk); (try clear hi); (try clear ho0)) | ((with_reducible refine gate_dst (N := 9) rfl ?_); refine box_event ?hg (N := 9) ?hd (cs := #[.int .i64 0, .slice none 0 0, .int .i64 0]) (t := 32) ?hr ?_; (case hd => rfl); (case hg => rfl); (case hr => first | (go_simp; done) | (go_simp; rfl)); intro gb714 hg w79 hbox hb; have n0_ := yam (Kd.R_below (Kd.Yz HO703.out) hb); have n1_ := yam (Kd.R_below (Kd.Yz HO707.out) hb); have n2_ := yam (Kd.R_below (Kd.Yz HO712.out) hb); have n3_ := yam (blk_below (g := gb698) (o := .cells #[.int .i64 a0_0, .slice A0_1 l0_1.length c0_1, .int .i64 a0_2] 47 (0, 0)) (ybz BK698.out) hb); have n4_ := yam (below_step (by repeat (first | (with_reducible first | exact HB.out | apply yea | apply yen | apply yed | refine below_set ?_ GE698.out) | exact HB.out)) hb); have n5_ := yam (hbox); have n6_ := yam ((by rw [hg]; exact (below_size (by repeat (first | (with_reducible first | exact HB.out | apply yea | apply yen | apply yed | refine below_set ?_ GE698.out) | exact HB.out))) : w.heap.size ≤ gb714)); have n7_ := yam ((by rw [hg]; exact (below_size (by repeat (first | (with_reducible first | exact HB.out | apply yea | apply yen | apply yed | refine below_set ?_ GE698.out) | exact HB.out))) : w.heap.size ≤ gb714)); have n8_ := yam ((by rw [hg]; exact Nat.ne_of_lt (blk_lt (g := gb698) (o := .cells #[.int .i64 a0_0, .slice A0_1 l0_1.length c0_1, .int .i64 a0_2] 47 (0, 0)) (ybz BK698.out)) : gb698 ≠ gb714)); have n9_ := yam ((by rw [hg]; exact Nat.ne_of_gt (blk_lt (g := gb698) (o := .cells #[.int .i64 a0_0, .slice A0_1 l0_1.length c0_1, .int .i64 a0_2] 47 (0, 0)) (ybz BK698.out)) : gb714 ≠ gb698)); clear HO703; clear HO707; clear HO712; clear BK698; clear HB; have HO703 := n0_; have HO707 := n1_; have HO712 := n2_; have BK698 := n3_; have HB := n4_; have BK714 := n5_; have GW714 := n6_; have GE714 := n7_; have NB698_714 := n8_; have NB714_698 := n9_; clear n0_ n1_ n2_ n3_ n4_ n5_ n6_ n7_ n8_ n9_; clear hb hbox hg; have hnb80 := NB714_698.out; have hnc80 := NB698_714.out; have hcz81_0 : w79.cell? ⟨gb714, 0, none⟩ = some (.int .i64 0) := (blk_cell BK714.out 0).trans rfl; have hcz81_1 : w79.cell? ⟨gb714, 1, none⟩ = some (.slice none 0 0) := (blk_cell BK714.out 1).trans rfl; have hcz81_2 : w79.cell? ⟨gb714, 2, none⟩ = some (.int .i64 0) := (blk_cell BK714.out 2).trans rfl; have hfz81_0 := blk_frozen BK714.out 0; have hfz81_1 := blk_frozen BK714.out 1; have hfz81_2 := blk_frozen BK714.out 2; obtain ⟨Ao82, co82, eo82⟩ := Kd.R_slice HO712.out; subst eo82) | ((with_reducible refine gate_callee (f := 33) rfl ?_); refine goesL_ (some 29) rfl rfl Try.func33 (by kernel_rfl) rfl #[.slice A1 l1.length c1] rfl (by (try simp only [List.map_toArray, List.map_cons, List.map_nil]); first | done | rfl | (simp only [List.length_drop, List.length_take]; rfl)) ?_; (with_reducible refine (laws_toIntS.calls k _ _ l1 t715 _ ?side1 ?side2 A15.out).mono ?_); (case side1 => exact Kd.C_below HR1.out (by repeat (first | (with_reducible first | exact HB.out | apply yea | apply yen | apply yed | refine below_set ?_ GE698.out | refine below_set ?_ GE714.out) | exact HB.out))); (case side2 => exact HC1.out); rintro e w83 ⟨v716, rfl, ho0, hb⟩; refine ⟨_, rfl, ?_⟩; have n0_ := yam (Kd.Ye (by (with_reducible repeat (first | apply Kd.Ya | apply Kd.Yn | apply Kd.Yd)); exact (Kd.R_mono (Kd.R_far (p := ⟨gb714, 2, none⟩) (Kd.R_far (p := ⟨gb714, 1, none⟩) (Kd.R_far (p := ⟨gb714, 0, none⟩) (Kd.R_types HO703.out BK714.out (by decide)) (fun _ hk => hk.2) (.int .i64 t709)) (fun _ hk => hk.2) (.slice Ao82 t710.length co82)) (fun _ hk => hk.2) (.int .i64 t713)) (fun _ h_ => h_.1))) (Kd.Yb ho0) hb); have n1_ := yam (Kd.Ye (by (with_reducible repeat (first | apply Kd.Ya | apply Kd.Yn | apply Kd.Yd)); exact (Kd.R_mono (Kd.R_far (p := ⟨gb714, 2, none⟩) (Kd.R_far (p := ⟨gb714, 1, none⟩) (Kd.R_far (p := ⟨gb714, 0, none⟩) (Kd.R_types HO707.out BK714.out (by decide)) (fun _ hk => hk.2) (.int .i64 t709)) (fun _ hk => hk.2) (.slice Ao82 t710.length co82)) (fun _ hk => hk.2) (.int .i64 t713)) (fun _ h_ => h_.1))) (Kd.Yb ho0) hb); have n2_ := yam (Kd.Ye (by (with_reducible repeat (first | apply Kd.Ya | apply Kd.Yn | apply Kd.Yd)); exact (Kd.R_mono (Kd.R_far (p := ⟨gb714, 2, none⟩) (Kd.R_far (p := ⟨gb714, 1, none⟩) (Kd.R_far (p := ⟨gb714, 0, none⟩) (Kd.R_types HO712.out BK714.out (by decide)) (fun _ hk => hk.2) (.int .i64 t709)) (fun _ hk => hk.2) (.slice Ao82 t710.length co82)) (fun _ hk => hk.2) (.int .i64 t713)) (fun _ h_ => h_.1))) (Kd.Yb ho0) hb); have n3_ := yam (Kd.R_lower (Kd.Yw (Kd.Yw (Kd.Yw ho0 (Kd.R_lt (by (with_reducible repeat (first | apply Kd.Ya | apply Kd.Yn | apply Kd.Yd)); exact (Kd.R_mono (Kd.R_far (p := ⟨gb714, 2, none⟩) (Kd.R_far (p := ⟨gb714, 1, none⟩) (Kd.R_far (p := ⟨gb714, 0, none⟩) (Kd.R_types HO703.out BK714.out (by decide)) (fun _ hk => hk.2) (.int .i64 t709)) (fun _ hk => hk.2) (.slice Ao82 t710.length co82)) (fun _ hk => hk.2) (.int .i64 t713)) (fun _ h_ => h_.1))))) (Kd.R_lt (by (with_reducible repeat (first | apply Kd.Ya | apply Kd.Yn | apply Kd.Yd)); exact (Kd.R_mono (Kd.R_far (p := ⟨gb714, 2, none⟩) (Kd.R_far (p := ⟨gb714, 1, none⟩) (Kd.R_far (p := ⟨gb714, 0, none⟩) (Kd.R_types HO707.out BK714.out (by decide)) (fun _ hk => hk.2) (.int .i64 t709)) (fun _ hk => hk.2) (.slice Ao82 t710.length co82)) (fun _ hk => hk.2) (.int .i64 t713)) (fun _ h_ => h_.1))))) (Kd.R_lt (by (with_reducible repeat (first | apply Kd.Ya | apply Kd.Yn | apply Kd.Yd)); exact (Kd.R_mono (Kd.R_far (p := ⟨gb714, 2, none⟩) (Kd.R_far (p := ⟨gb714, 1, none⟩) (Kd.R_far (p := ⟨gb714, 0, none⟩) (Kd.R_types HO712.out BK714.out (by decide)) (fun _ hk => hk.2) (.int .i64 t709)) (fun _ hk => hk.2) (.slice Ao82 t710.length co82)) (fun _ hk => hk.2) (.int .i64 t713)) (fun _ h_ => h_.1))))) (below_size (by repeat (first | (with_reducible first | exact HB.out | apply yea | apply yen | apply yed | refine below_set ?_ GE698.out | refine below_set ?_ GE714.out) | exact HB.out)))); have n4_ := yam (blk_below (g := gb698) (o := .cells #[.int .i64 a0_0, .slice A0_1 l0_1.length c0_1, .int .i64 a0_2] 47 (0, 0)) (by (with_reducible repeat (first | refine ybn ?_ _ | refine ybd ?_ | refine yba ?_ _)); refine blk_far ?_ NB698_714.out _; (with_reducible repeat (first | refine ybn ?_ _ | refine ybd ?_ | refine yba ?_ _)); refine blk_far ?_ NB698_714.out _; (with_reducible repeat (first | refine ybn ?_ _ | refine ybd ?_ | refine yba ?_ _)); refine blk_far ?_ NB698_714.out _; (with_reducible repeat (first | refine ybn ?_ _ | refine ybd ?_ | refine yba ?_ _)); exact BK698.out) hb); have n5_ := yam (blk_below (g := gb714) (o := .cells #[.int .i64 t709, .slice Ao82 t710.length co82, .int .i64 t713] 32 (0, 0)) (by (with_reducible repeat (first | refine ybn ?_ _ | refine ybd ?_ | refine yba ?_ _)); refine blk_put (cs := #[.int .i64 t709, .slice Ao82 t710.length co82, .int .i64 0]) ?_ 2 _ rfl; (with_reducible repeat (first | refine ybn ?_ _ | refine ybd ?_ | refine yba ?_ _)); refine blk_put (cs := #[.int .i64 t709, .slice none 0 0, .int .i64 0]) ?_ 1 _ rfl; (with_reducible repeat (first | refine ybn ?_ _ | refine ybd ?_ | refine yba ?_ _)); refine blk_put (cs := #[.int .i64 0, .slice none 0 0, .int .i64 0]) ?_ 0 _ rfl; (with_reducible repeat (first | refine ybn ?_ _ | refine ybd ?_ | refine yba ?_ _)); exact BK714.out) hb); have n6_ := yam (below_step (by repeat (first | (with_reducible first | exact HB.out | apply yea | apply yen | apply yed | refine below_set ?_ GE698.out | refine below_set ?_ GE714.out) | exact HB.out)) hb); clear HO703; clear HO707; clear HO712; clear BK698; clear BK714; clear HB; have HO703 := n0_; have HO707 := n1_; have HO712 := n2_; have HO717 := n3_; have BK698 := n4_; have BK714 := n5_; have HB := n6_; clear n0_ n1_ n2_ n3_ n4_ n5_ n6_; (try clear hb); (try clear hb2); (try clear hk); (try clear hi); (try clear ho0); have hcz84_0 : w83.cell? ⟨gb714, 0, none⟩ = some (.int .i64 t709) := (blk_cell BK714.out 0).trans rfl; have hcz84_1 : w83.cell? ⟨gb714, 1, none⟩ = some (.slice Ao82 t710.length co82) := (blk_cell BK714.out 1).trans rfl; have hcz84_2 : w83.cell? ⟨gb714, 2, none⟩ = some (.int .i64 t713) := (blk_cell BK714.out 2).trans rfl; have hfz84_0 := blk_frozen BK714.out 0; have hfz84_1 := blk_frozen BK714.out 1; have hfz84_2 := blk_frozen BK714.out 2; obtain ⟨Ao85, co85, eo85⟩ := Kd.R_slice HO717.out; subst eo85) | ((with_reducible refine gate_callee (f := 44) rfl ?_); refine goesL_ (some 33) rfl rfl Try.func44 (by kernel_rfl) rfl #[.agg #[.int .i64 t709, .slice Ao82 t710.length co82, .int .i64 t713], .slice Ao85 t715.length co85, .int .i64 a2] rfl (by (try simp only [List.map_toArray, List.map_cons, List.map_nil]); first | done | rfl | (simp only [List.length_drop, List.length_take]; rfl)) ?_; (with_reducible refine (impl_RulePossible.calls k t709 _ _ t710 t713 _ _ t715 a2 t718 _ ?side1 ?side2 ?side3 ?side4 A16.out).mono ?_); (case side1 => repeat (first | exact (Kd.Yr HO712.out).2.2 | (with_reducible refine Kd.C_alloc ?_ _) | (with_reducible refine Kd.C_drewN ?_ _) | (with_reducible refine Kd.C_drew ?_))); (case side2 => exact (Kd.Yr HO712.out).2.1); (case side3 => repeat (first | exact (Kd.Yr HO717.out).2.2 | (with_reducible refine Kd.C_alloc ?_ _) | (with_reducible refine Kd.C_drewN ?_ _) | (with_reducible refine Kd.C_drew ?_))); (case side4 => exact (Kd.Yr HO717.out).2.1); rintro e w86 ⟨rfl, hb⟩; refine ⟨_, rfl, ?_⟩; have n0_ := yam (Kd.R_below (Kd.Yz HO703.out) hb); have n1_ := yam (Kd.R_below (Kd.Yz HO707.out) hb); have n2_ := yam (Kd.R_below (Kd.Yz HO712.out) hb); have n3_ := yam (Kd.R_below (Kd.Yz HO717.out) hb); have n4_ := yam (blk_below (g := gb698) (o := .cells #[.int .i64 a0_0, .slice A0_1 l0_1.length c0_1, .int .i64 a0_2] 47 (0, 0)) (ybz BK698.out) hb); have n5_ := yam (blk_below (g := gb714) (o := .cells #[.int .i64 t709, .slice Ao82 t710.length co82, .int .i64 t713] 32 (0, 0)) (ybz BK714.out) hb); have n6_ := yam (below_step (by repeat (first | (with_reducible first | exact HB.out | apply yea | apply yen | apply yed | refine below_set ?_ GE698.out | refine below_set ?_ GE714.out) | exact HB.out)) hb); clear HO703; clear HO707; clear HO712; clear HO717; clear BK698; clear BK714; clear HB; have HO703 := n0_; have HO707 := n1_; have HO712 := n2_; have HO717 := n3_; have BK698 := n4_; have BK714 := n5_; have HB := n6_; clear n0_ n1_ n2_ n3_ n4_ n5_ n6_; (try clear hb); (try clear hb2); (try clear hk); (try clear hi)))
  have n0_ := yam (Kd.Yd HO703.out)
  have n1_ := yam (Kd.Yd HO707.out)
  have n2_ := yam (Kd.Yd HO712.out)
  have n3_ := yam (Kd.Yd HO717.out)
  have n4_ := yam (ybd BK698.out)
  have n5_ := yam (ybd BK714.out)
  have n6_ := yam (yed HB.out)
  clear HO703
  clear HO707
  clear HO712
  clear HO717
  clear BK698
  clear BK714
  clear HB
  have HO703 := n0_
  have HO707 := n1_
  have HO712 := n2_
  have HO717 := n3_
  have BK698 := n4_
  have BK714 := n5_
  have HB := n6_
  clear n0_ n1_ n2_ n3_ n4_ n5_ n6_
  refine start_ (n := 5) (S := fun w' => w'.cell? ⟨gb714, 0, none⟩ = some (.int .i64 t709) ∧ w'.cell? ⟨gb714, 1, none⟩ = some (.slice Ao82 t710.length co82) ∧ w'.cell? ⟨gb714, 2, none⟩ = some (.int .i64 t713) ∧ w'.cell? ⟨gb698, 0, none⟩ = some (.int .i64 a0_0) ∧ w'.cell? ⟨gb698, 1, none⟩ = some (.slice A0_1 l0_1.length c0_1) ∧ w'.cell? ⟨gb698, 2, none⟩ = some (.int .i64 a0_2)) (ds := []) #[false, false, false, false, false] (by kernel_rfl) rfl rfl ⟨(blk_cell BK714.out 0).trans rfl, (blk_cell BK714.out 1).trans rfl, (blk_cell BK714.out 2).trans rfl, (blk_cell BK698.out 0).trans rfl, (blk_cell BK698.out 1).trans rfl, (blk_cell BK698.out 2).trans rfl⟩ (fun hHeld => ?_)
  generalize w86.drew = w87 at HO703 HO707 HO712 HO717 BK698 BK714 HB hHeld ⊢
  refine take_ (i := 0) (N := some 37) (v := ?_) (a' := ?_) #[true, false, false, false, false] rfl rfl (by kernel_rfl) (fun _ _ _ h => h) (Or.inl ⟨by rfl, ?_⟩) hHeld ?_ ?_
  rotate_left
  · rintro w' ⟨s0, s1, s2, s3, s4, s5⟩
    go_simp
    with_reducible rfl
  rotate_left
  · simp only [Act.put, yps, i64_w, i32_w]
    rfl
  refine take_ (i := 1) (N := some 38) (v := ?_) (a' := ?_) #[true, true, false, false, false] rfl rfl (by kernel_rfl) (fun _ _ _ h => h) (Or.inl ⟨by rfl, ?_⟩) hHeld ?_ ?_
  rotate_left
  · rintro w' ⟨s0, s1, s2, s3, s4, s5⟩
    go_simp
    with_reducible rfl
  rotate_left
  · simp only [Act.put, yps, i64_w, i32_w]
    rfl
  refine one_ (i := 2) (N := some 39) #[true, true, true, false, false] rfl rfl (by kernel_rfl) (by decide) (fun K hK => ?_)
  refine goes_ Try.func32 (by kernel_rfl) rfl #[.agg #[.int .i64 a0_0, .slice A0_1 l0_1.length c0_1, .int .i64 a0_2]] (by rfl) rfl rfl (by (try simp only [List.map_toArray, List.map_cons, List.map_nil]); first | done | rfl | (simp only [List.length_drop, List.length_take]; rfl)) ?_
  with_reducible refine (laws_toRule.calls k a0_0 _ _ l0_1 a0_2 t719 t720 t723 _ ?side1 ?side2 A37.out).mono ?_
  (case side1 => exact Kd.Cz ((Kd.C_below HR0_1.out HB.out)))
  (case side2 => exact HC0_1.out)
  rintro e w88 ⟨v721, rfl, ho0, hb⟩
  refine ⟨_, rfl, ?_⟩
  have n0_ := yam (Kd.Ye (Kd.Yz HO703.out) (Kd.Yb ho0) hb)
  have n1_ := yam (Kd.Ye (Kd.Yz HO707.out) (Kd.Yb ho0) hb)
  have n2_ := yam (Kd.Ye (Kd.Yz HO712.out) (Kd.Yb ho0) hb)
  have n3_ := yam (Kd.Ye (Kd.Yz HO717.out) (Kd.Yb ho0) hb)
  have n4_ := yam (Kd.R_lower (Kd.Yw (Kd.Yw (Kd.Yw (Kd.Yw ho0 (Kd.R_lt (Kd.Yz HO703.out))) (Kd.R_lt (Kd.Yz HO707.out))) (Kd.R_lt (Kd.Yz HO712.out))) (Kd.R_lt (Kd.Yz HO717.out))) (below_size (by repeat (first | (with_reducible first | exact HB.out | apply yea | apply yen | apply yed | refine below_set ?_ GE698.out | refine below_set ?_ GE714.out) | exact HB.out))))
  have n5_ := yam (blk_below (g := gb698) (o := .cells #[.int .i64 a0_0, .slice A0_1 l0_1.length c0_1, .int .i64 a0_2] 47 (0, 0)) (ybz BK698.out) hb)
  have n6_ := yam (blk_below (g := gb714) (o := .cells #[.int .i64 t709, .slice Ao82 t710.length co82, .int .i64 t713] 32 (0, 0)) (ybz BK714.out) hb)
  have n7_ := yam (below_step (by repeat (first | (with_reducible first | exact HB.out | apply yea | apply yen | apply yed | refine below_set ?_ GE698.out | refine below_set ?_ GE714.out) | exact HB.out)) hb)
  clear HO703
  clear HO707
  clear HO712
  clear HO717
  clear BK698
  clear BK714
  clear HB
  have HO703 := n0_
  have HO707 := n1_
  have HO712 := n2_
  have HO717 := n3_
  have HO722 := n4_
  have BK698 := n5_
  have BK714 := n6_
  have HB := n7_
  clear n0_ n1_ n2_ n3_ n4_ n5_ n6_ n7_
  (try clear hb)
  (try clear hb2)
  (try clear hk)
  (try clear hi)
  (try clear ho0)
  obtain ⟨Ao89, co89, eo89⟩ := Kd.R_slice HO722.out
  (first | subst eo89 | (injection eo89 with f1_ f2_ f3_; have f4_ := f1_.symm; have f5_ := f3_.symm; clear f1_ f2_ f3_; subst f4_; subst f5_))
  refine hK.out _ _ ⟨(blk_cell BK714.out 0).trans rfl, (blk_cell BK714.out 1).trans rfl, (blk_cell BK714.out 2).trans rfl, (blk_cell BK698.out 0).trans rfl, (blk_cell BK698.out 1).trans rfl, (blk_cell BK698.out 2).trans rfl⟩ (fun hHeld => ?_)
  clear hK K
  refine norm_ (a' := ?_) ?_ ?_
  rotate_left
  · show Act.put _ (some 39) _ = _
    simp only [Act.put, yps, i64_w, i32_w]
    rfl
  refine one_ (i := 3) (N := some 40) #[true, true, true, true, false] rfl rfl (by kernel_rfl) (by decide) (fun K hK => ?_)
  refine goes_ Try.func36 (by kernel_rfl) rfl #[.agg #[.int .i64 t709, .slice Ao82 t710.length co82, .int .i64 t713], .agg #[.int .i64 t719, .slice Ao89 t720.length co89, .int .i64 t723]] (by rfl) rfl rfl (by (try simp only [List.map_toArray, List.map_cons, List.map_nil]); first | done | rfl | (simp only [List.length_drop, List.length_take]; rfl)) ?_
  with_reducible refine (laws_eqRule.calls k t709 _ _ t710 t713 t719 _ _ t720 t723 true _ ?side1 ?side2 ?side3 ?side4 A38.out).mono ?_
  (case side1 => repeat (first | exact (Kd.Yr HO712.out).2.2 | (with_reducible refine Kd.C_alloc ?_ _) | (with_reducible refine Kd.C_drewN ?_ _) | (with_reducible refine Kd.C_drew ?_)))
  (case side2 => exact (Kd.Yr HO712.out).2.1)
  (case side3 => repeat (first | exact (Kd.Yr HO722.out).2.2 | (with_reducible refine Kd.C_alloc ?_ _) | (with_reducible refine Kd.C_drewN ?_ _) | (with_reducible refine Kd.C_drew ?_)))
  (case side4 => exact (Kd.Yr HO722.out).2.1)
  rintro e w90 ⟨rfl, hb⟩
  refine ⟨_, rfl, ?_⟩
  have n0_ := yam (Kd.R_below (Kd.Yz HO703.out) hb)
  have n1_ := yam (Kd.R_below (Kd.Yz HO707.out) hb)
  have n2_ := yam (Kd.R_below (Kd.Yz HO712.out) hb)
  have n3_ := yam (Kd.R_below (Kd.Yz HO717.out) hb)
  have n4_ := yam (Kd.R_below (Kd.Yz HO722.out) hb)
  have n5_ := yam (blk_below (g := gb698) (o := .cells #[.int .i64 a0_0, .slice A0_1 l0_1.length c0_1, .int .i64 a0_2] 47 (0, 0)) (ybz BK698.out) hb)
  have n6_ := yam (blk_below (g := gb714) (o := .cells #[.int .i64 t709, .slice Ao82 t710.length co82, .int .i64 t713] 32 (0, 0)) (ybz BK714.out) hb)
  have n7_ := yam (below_step (by repeat (first | (with_reducible first | exact HB.out | apply yea | apply yen | apply yed | refine below_set ?_ GE698.out | refine below_set ?_ GE714.out) | exact HB.out)) hb)
  clear HO703
  clear HO707
  clear HO712
  clear HO717
  clear HO722
  clear BK698
  clear BK714
  clear HB
  have HO703 := n0_
  have HO707 := n1_
  have HO712 := n2_
  have HO717 := n3_
  have HO722 := n4_
  have BK698 := n5_
  have BK714 := n6_
  have HB := n7_
  clear n0_ n1_ n2_ n3_ n4_ n5_ n6_ n7_
  (try clear hb)
  (try clear hb2)
  (try clear hk)
  (try clear hi)
  refine hK.out _ _ ⟨(blk_cell BK714.out 0).trans rfl, (blk_cell BK714.out 1).trans rfl, (blk_cell BK714.out 2).trans rfl, (blk_cell BK698.out 0).trans rfl, (blk_cell BK698.out 1).trans rfl, (blk_cell BK698.out 2).trans rfl⟩ (fun hHeld => ?_)
  clear hK K
  refine norm_ (a' := ?_) ?_ ?_
  rotate_left
  · show Act.put _ (some 40) _ = _
    simp only [Act.put, yps, i64_w, i32_w]
    rfl
  refine pure_ (i := 4) (N := some 41) (v := ?_) (a' := ?_) #[true, true, true, true, true] rfl rfl (by kernel_rfl) (fun _ _ _ h => h) (Or.inl ⟨by rfl, ?_⟩) ?_ ?_
  rotate_left
  · intro w'
    go_simp
    with_reducible rfl
  rotate_left
  · simp only [Act.put, yps, i64_w, i32_w]
    rfl
  refine done_ (by kernel_rfl) ?_
  try go_wp2_with (first | ((with_reducible refine gate_callee (f := 33) rfl ?_); refine goesL_ (some 44) rfl rfl Try.func33 (by kernel_rfl) rfl #[.slice A1 l1.length c1] rfl (by (try simp only [List.map_toArray, List.map_cons, List.map_nil]); first | done | rfl | (simp only [List.length_drop, List.length_take]; rfl)) ?_; (with_reducible refine (laws_toIntS.calls k _ _ l1 t725 _ ?side1 ?side2 A40.out).mono ?_); (case side1 => exact Kd.Cz ((Kd.C_below HR1.out HB.out))); (case side2 => exact HC1.out); rintro e w91 ⟨v726, rfl, ho0, hb⟩; refine ⟨_, rfl, ?_⟩; have n0_ := yam (Kd.Ye (Kd.Yz HO703.out) (Kd.Yb ho0) hb); have n1_ := yam (Kd.Ye (Kd.Yz HO707.out) (Kd.Yb ho0) hb); have n2_ := yam (Kd.Ye (Kd.Yz HO712.out) (Kd.Yb ho0) hb); have n3_ := yam (Kd.Ye (Kd.Yz HO717.out) (Kd.Yb ho0) hb); have n4_ := yam (Kd.Ye (Kd.Yz HO722.out) (Kd.Yb ho0) hb); have n5_ := yam (Kd.R_lower (Kd.Yw (Kd.Yw (Kd.Yw (Kd.Yw (Kd.Yw ho0 (Kd.R_lt (Kd.Yz HO703.out))) (Kd.R_lt (Kd.Yz HO707.out))) (Kd.R_lt (Kd.Yz HO712.out))) (Kd.R_lt (Kd.Yz HO717.out))) (Kd.R_lt (Kd.Yz HO722.out))) (below_size (by repeat (first | (with_reducible first | exact HB.out | apply yea | apply yen | apply yed | refine below_set ?_ GE698.out | refine below_set ?_ GE714.out) | exact HB.out)))); have n6_ := yam (blk_below (g := gb698) (o := .cells #[.int .i64 a0_0, .slice A0_1 l0_1.length c0_1, .int .i64 a0_2] 47 (0, 0)) (ybz BK698.out) hb); have n7_ := yam (blk_below (g := gb714) (o := .cells #[.int .i64 t709, .slice Ao82 t710.length co82, .int .i64 t713] 32 (0, 0)) (ybz BK714.out) hb); have n8_ := yam (below_step (by repeat (first | (with_reducible first | exact HB.out | apply yea | apply yen | apply yed | refine below_set ?_ GE698.out | refine below_set ?_ GE714.out) | exact HB.out)) hb); clear HO703; clear HO707; clear HO712; clear HO717; clear HO722; clear BK698; clear BK714; clear HB; have HO703 := n0_; have HO707 := n1_; have HO712 := n2_; have HO717 := n3_; have HO722 := n4_; have HO727 := n5_; have BK698 := n6_; have BK714 := n7_; have HB := n8_; clear n0_ n1_ n2_ n3_ n4_ n5_ n6_ n7_ n8_; (try clear hb); (try clear hb2); (try clear hk); (try clear hi); (try clear ho0); obtain ⟨Ao92, co92, eo92⟩ := Kd.R_slice HO727.out; subst eo92) | ((with_reducible refine gate_callee (f := 35) rfl ?_); refine goesL_ (some 45) rfl rfl Try.func35 (by kernel_rfl) rfl #[.slice Ao85 t715.length co85, .slice Ao92 t725.length co92] rfl (by (try simp only [List.map_toArray, List.map_cons, List.map_nil]); first | done | rfl | (simp only [List.length_drop, List.length_take]; rfl)) ?_; (with_reducible refine (laws_eqIntS.calls k _ _ t715 _ _ t725 false _ ?side1 ?side2 ?side3 ?side4 A41.out).mono ?_); (case side1 => repeat (first | exact (Kd.Yr HO717.out).2.2 | (with_reducible refine Kd.C_alloc ?_ _) | (with_reducible refine Kd.C_drewN ?_ _) | (with_reducible refine Kd.C_drew ?_))); (case side2 => exact (Kd.Yr HO717.out).2.1); (case side3 => repeat (first | exact (Kd.Yr HO727.out).2.2 | (with_reducible refine Kd.C_alloc ?_ _) | (with_reducible refine Kd.C_drewN ?_ _) | (with_reducible refine Kd.C_drew ?_))); (case side4 => exact (Kd.Yr HO727.out).2.1); rintro e w' ⟨rfl, ⟨nd, rfl⟩⟩; refine ⟨_, rfl, ?_⟩))
  go_ret
  exact ⟨by first | rfl | (simp [errW_none, errW_some] <;> rfl) | (simp [*, errW_none, errW_some] <;> rfl), by repeat (first | (with_reducible first | exact HB.out | apply yea | apply yen | apply yed | refine below_set ?_ GE698.out | refine below_set ?_ GE714.out) | exact HB.out)⟩
end Go.Proofs.Ythfbjkniinfgcaa.P
