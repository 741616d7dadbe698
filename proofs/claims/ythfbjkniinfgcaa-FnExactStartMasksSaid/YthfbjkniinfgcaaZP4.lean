/- The machine's side: each Go function as a plain Lean function and the proof that the machine's call does what that function says; written by this session's own program over the kit's print. -/
import Derived.Test.YthfbjkniinfgcaaZP1
import Derived.Test.YthfbjkniinfgcaaZP2
import Derived.Test.YthfbjkniinfgcaaZP3
namespace Go.Proofs.Ythfbjkniinfgcaa.P
open Go.RowKit Go.Proofs.YthfbjkniinfgcaaW.PrintWords Go.Proofs.YthfbjkniinfgcaaW.PrintLast Go.Proofs.YthfbjkniinfgcaaW.PrintMore
attribute [local go_sem] max2_int min2_int max_two min_two max_three min_three max_four min_four   -- for this text's walks alone
set_option linter.unusedVariables false
set_option linter.unusedSimpArgs false

/-! ### impl_PuzzleValid: function 28 -/
mutual
def impl_PuzzleValid.j0 : Nat → Bool → Int → List Int → List (S32) → Option (Bool)
  | 0, _, _, _, _ => none
  | k + 1, x16, x412000, x412001, x412002 => if x16 = true then (some false) else (impl_PuzzleValid.l0 k x412002 (x412002.length : Int) 0 x412000 x412001 x412002)
def impl_PuzzleValid.l0 : Nat → List (S32) → Int → Int → Int → List Int → List (S32) → Option (Bool)
  | 0, _, _, _, _, _, _ => none
  | k + 1, x18, x19, x20, x412000, x412001, x412002 => if x20 < x19 then (if 0 ≤ x20 then (if x20 < (x18.length : Int) then ((impl_RuleValid.f k ((rd_T32 x18 x20).f0) ((rd_T32 x18 x20).f1) ((rd_T32 x18 x20).f2) x412000).bind fun t415 => (if t415 = true then (impl_PuzzleValid.l0 k x18 x19 (wrap64 (x20 + 1)) x412000 x412001 x412002) else (some false))) else (none)) else (none)) else (some true)
end
def impl_PuzzleValid.f (k : Nat) (a0_0 : Int) (l0_1 : List Int) (l0_2 : List (S32)) : Option (Bool) := (impl_GridValid.f k l0_1 a0_0).bind fun t412 => (if t412 = true then (impl_PuzzleValid.j0 k (decide ((l0_2.length : Int) > 20)) a0_0 l0_1 l0_2) else (impl_PuzzleValid.j0 k true a0_0 l0_1 l0_2))
theorem impl_PuzzleValid.mono_l : ∀ k, (∀ y0 y1 y2 y3, LeO (impl_PuzzleValid.j0 k y0 y1 y2 y3) (impl_PuzzleValid.j0 (k + 1) y0 y1 y2 y3)) ∧ (∀ y0 y1 y2 y3 y4 y5, LeO (impl_PuzzleValid.l0 k y0 y1 y2 y3 y4 y5) (impl_PuzzleValid.l0 (k + 1) y0 y1 y2 y3 y4 y5))
  | 0 => ⟨fun _ _ _ _ r h => by simp [impl_PuzzleValid.j0] at h, fun _ _ _ _ _ _ r h => by simp [impl_PuzzleValid.l0] at h⟩
  | k + 1 => by
    obtain ⟨ih0, ih1⟩ := impl_PuzzleValid.mono_l k
    refine ⟨?_, ?_⟩
    · intro y0 y1 y2 y3
      unfold impl_PuzzleValid.j0
      repeat' first
      | (with_reducible exact ih0 _ _ _ _)
      | (with_reducible exact ih1 _ _ _ _ _ _)
      | (with_reducible exact impl_GridValid.mono _ _ _)
      | (with_reducible exact impl_RuleValid.mono _ _ _ _ _)
      | (with_reducible exact LeO.refl _)
      | (with_reducible exact LeO.none _)
      | (with_reducible refine LeO.ite ?_ ?_)
      | (with_reducible refine LeO.bind ?_ (fun _ => ?_))
      | exact ih0 _ _ _ _
      | exact ih1 _ _ _ _ _ _
      | exact impl_GridValid.mono _ _ _
      | exact impl_RuleValid.mono _ _ _ _ _
      | exact LeO.none _
      | refine LeO.ite ?_ ?_
      | refine LeO.bind ?_ (fun _ => ?_)
    · intro y0 y1 y2 y3 y4 y5
      unfold impl_PuzzleValid.l0
      repeat' first
      | (with_reducible exact ih0 _ _ _ _)
      | (with_reducible exact ih1 _ _ _ _ _ _)
      | (with_reducible exact impl_GridValid.mono _ _ _)
      | (with_reducible exact impl_RuleValid.mono _ _ _ _ _)
      | (with_reducible exact LeO.refl _)
      | (with_reducible exact LeO.none _)
      | (with_reducible refine LeO.ite ?_ ?_)
      | (with_reducible refine LeO.bind ?_ (fun _ => ?_))
      | exact ih0 _ _ _ _
      | exact ih1 _ _ _ _ _ _
      | exact impl_GridValid.mono _ _ _
      | exact impl_RuleValid.mono _ _ _ _ _
      | exact LeO.none _
      | refine LeO.ite ?_ ?_
      | refine LeO.bind ?_ (fun _ => ?_)
theorem impl_PuzzleValid.mono : ∀ a0 a1 a2 k, LeO (impl_PuzzleValid.f k a0 a1 a2) (impl_PuzzleValid.f (k + 1) a0 a1 a2) := by
  intro a0 a1 a2 k
  obtain ⟨ih0, ih1⟩ := impl_PuzzleValid.mono_l k
  unfold impl_PuzzleValid.f
  repeat' first
      | (with_reducible exact ih0 _ _ _ _)
      | (with_reducible exact ih1 _ _ _ _ _ _)
      | (with_reducible exact impl_GridValid.mono _ _ _)
      | (with_reducible exact impl_RuleValid.mono _ _ _ _ _)
      | (with_reducible exact LeO.refl _)
      | (with_reducible exact LeO.none _)
      | (with_reducible refine LeO.ite ?_ ?_)
      | (with_reducible refine LeO.bind ?_ (fun _ => ?_))
      | exact ih0 _ _ _ _
      | exact ih1 _ _ _ _ _ _
      | exact impl_GridValid.mono _ _ _
      | exact impl_RuleValid.mono _ _ _ _ _
      | exact LeO.none _
      | refine LeO.ite ?_ ?_
      | refine LeO.bind ?_ (fun _ => ?_)
set_option maxHeartbeats 8000000 in
set_option maxRecDepth 100000 in
theorem impl_PuzzleValid.calls (k : Nat) (a0_0 : Int) (A0_1 : Option Addr) (c0_1 : Nat) (l0_1 : List Int) (A0_2 : Option Addr) (c0_2 : Nat) (l0_2 : List (S32)) (r : Bool) (w : World) (hr0_1 : Kd.C (Kd.int .i64) w A0_1 l0_1.length l0_1) (hc0_1 : l0_1.length ≤ c0_1) (hr0_2 : Kd.C k32 w A0_2 l0_2.length l0_2) (hc0_2 : l0_2.length ≤ c0_2) (h : impl_PuzzleValid.f k a0_0 l0_1 l0_2 = some r) :
    Calls Try.prog 28 #[.agg #[.int .i64 a0_0, .slice A0_1 l0_1.length c0_1, .slice A0_2 l0_2.length c0_2]] w fun e w' => e = .returned (.bool r) ∧ Below w.heap.size w w' := by
  have hu43 := Try.underlying43
  have hu32 := Try.underlying32
  have HR0_1 := yam hr0_1
  have HC0_1 := yam hc0_1
  clear hr0_1 hc0_1
  have HR0_2 := yam hr0_2
  have HC0_2 := yam hc0_2
  clear hr0_2 hc0_2
  have HB := yam (Below.refl w.heap.size w)
  have H : ((impl_GridValid.f k l0_1 a0_0).bind fun t412 => (if t412 = true then (impl_PuzzleValid.j0 k (decide ((l0_2.length : Int) > 20)) a0_0 l0_1 l0_2) else (impl_PuzzleValid.j0 k true a0_0 l0_1 l0_2))) = some r := h
  clear h
  have HC2 := yam H
  clear H
  go_enter Try.func28, Try.ntmps28
  go_upto_region 1 with (first | ((with_reducible refine gate_dst (N := 1) rfl ?_); (try (refine gate_guard (by rfl) ?_; dsimp only)); refine box_event ?hg (N := 1) ?hd (cs := #[.int .i64 a0_0, .slice A0_1 l0_1.length c0_1, .slice A0_2 l0_2.length c0_2]) (t := 43) ?hr ?_; (case hd => rfl); (case hg => rfl); (case hr => first | (go_simp; done) | (go_simp; rfl)); intro gb411 hg w3 hbox hb; have n0_ := yam (below_step (yez HB.out) hb); have n1_ := yam (hbox); have n2_ := yam ((by rw [hg]; exact (below_size (yez HB.out)) : w.heap.size ≤ gb411)); have n3_ := yam ((by rw [hg]; exact (below_size (yez HB.out)) : w.heap.size ≤ gb411)); clear HB; have HB := n0_; have BK411 := n1_; have GW411 := n2_; have GE411 := n3_; clear n0_ n1_ n2_ n3_; clear hb hbox hg))
  (try simp only [Act.put, yps])
  go_cut [16] (fun v16 wc => ∃ (kq : Nat) (x16_1 : Bool), v16 = .bool x16_1 ∧ Aside0 (impl_PuzzleValid.j0 kq x16_1 a0_0 l0_1 l0_2 = some r) ∧ Aside0 (kq ≤ k) ∧ Aside0 (wc.heap[gb411]? = some (.cells #[.int .i64 a0_0, (.slice A0_1 l0_1.length c0_1), (.slice A0_2 l0_2.length c0_2)] 43 (0, 0))) ∧ Aside0 (Below w.heap.size w wc))
  case first =>
    have H := HC2.out
    clear HC2
    replace H := Option.bind_eq_some_iff.mp H
    obtain ⟨t412, A40, H⟩ := H
    try dsimp only at H
    have A4 := yam A40
    clear A40
    by_cases c5 : t412 = true
    · subst c5
      have H1 : (impl_PuzzleValid.j0 k (decide ((l0_2.length : Int) > 20)) a0_0 l0_1 l0_2) = some r := by rw [if_pos rfl] at H; exact H
      clear H
      have H := H1
      clear H1
      have H' := yam H
      clear H
      have hcz6_0 : w3.cell? ⟨gb411, 0, none⟩ = some (.int .i64 a0_0) := (blk_cell BK411.out 0).trans rfl
      have hcz6_1 : w3.cell? ⟨gb411, 1, none⟩ = some (.slice A0_1 l0_1.length c0_1) := (blk_cell BK411.out 1).trans rfl
      have hcz6_2 : w3.cell? ⟨gb411, 2, none⟩ = some (.slice A0_2 l0_2.length c0_2) := (blk_cell BK411.out 2).trans rfl
      have hfz6_0 := blk_frozen BK411.out 0
      have hfz6_1 := blk_frozen BK411.out 1
      have hfz6_2 := blk_frozen BK411.out 2
      go_wp2_with (first | ((with_reducible refine gate_callee (f := 60) rfl ?_); refine goesL_ (some 9) rfl rfl Try.func60 (by kernel_rfl) rfl #[.slice A0_1 l0_1.length c0_1, .int .i64 a0_0] rfl (by (try simp only [List.map_toArray, List.map_cons, List.map_nil]); first | done | rfl | (simp only [List.length_drop, List.length_take]; rfl)) ?_; (with_reducible refine (impl_GridValid.calls k _ _ l0_1 a0_0 true _ ?side1 ?side2 A4.out).mono ?_); (case side1 => exact Kd.Cz ((Kd.C_below HR0_1.out HB.out))); (case side2 => exact HC0_1.out); rintro e w' ⟨rfl, ⟨nd, rfl⟩⟩; refine ⟨_, rfl, ?_⟩))
      go_meet
      case rel => exact ⟨_, (decide ((l0_2.length : Int) > 20)), (by first | rfl | (simp; done) | (simp [*]; done)), H', ⟨by first | omega | exact Nat.le_refl _⟩, ⟨by (with_reducible repeat (first | refine ybn ?_ _ | refine ybd ?_ | refine yba ?_ _)); exact BK411.out⟩, ⟨by repeat (first | (with_reducible first | exact HB.out | apply yea | apply yen | apply yed | refine below_set ?_ GE411.out) | exact HB.out)⟩⟩
    replace c5 := Bool.eq_false_iff.mpr c5
    subst c5
    have H1 : (impl_PuzzleValid.j0 k true a0_0 l0_1 l0_2) = some r := by rw [if_neg (show ¬ (false = true) by decide)] at H; exact H
    clear H
    have H := H1
    clear H1
    have H' := yam H
    clear H
    have hcz7_0 : w3.cell? ⟨gb411, 0, none⟩ = some (.int .i64 a0_0) := (blk_cell BK411.out 0).trans rfl
    have hcz7_1 : w3.cell? ⟨gb411, 1, none⟩ = some (.slice A0_1 l0_1.length c0_1) := (blk_cell BK411.out 1).trans rfl
    have hcz7_2 : w3.cell? ⟨gb411, 2, none⟩ = some (.slice A0_2 l0_2.length c0_2) := (blk_cell BK411.out 2).trans rfl
    have hfz7_0 := blk_frozen BK411.out 0
    have hfz7_1 := blk_frozen BK411.out 1
    have hfz7_2 := blk_frozen BK411.out 2
    go_wp2_with (first | ((with_reducible refine gate_callee (f := 60) rfl ?_); refine goesL_ (some 9) rfl rfl Try.func60 (by kernel_rfl) rfl #[.slice A0_1 l0_1.length c0_1, .int .i64 a0_0] rfl (by (try simp only [List.map_toArray, List.map_cons, List.map_nil]); first | done | rfl | (simp only [List.length_drop, List.length_take]; rfl)) ?_; (with_reducible refine (impl_GridValid.calls k _ _ l0_1 a0_0 false _ ?side1 ?side2 A4.out).mono ?_); (case side1 => exact Kd.Cz ((Kd.C_below HR0_1.out HB.out))); (case side2 => exact HC0_1.out); rintro e w' ⟨rfl, ⟨nd, rfl⟩⟩; refine ⟨_, rfl, ?_⟩))
    go_meet
    case rel => exact ⟨_, (true), (by first | rfl | (simp; done) | (simp [*]; done)), H', ⟨by first | omega | exact Nat.le_refl _⟩, ⟨by (with_reducible repeat (first | refine ybn ?_ _ | refine ybd ?_ | refine yba ?_ _)); exact BK411.out⟩, ⟨by repeat (first | (with_reducible first | exact HB.out | apply yea | apply yen | apply yed | refine below_set ?_ GE411.out) | exact HB.out)⟩⟩
  case rest =>
    clear HC2
    try clear c2
    try clear p2
    try clear c5
    try clear c6
    try clear hcz6_0
    try clear hcz6_1
    try clear hcz6_2
    try clear hcz7_0
    try clear hcz7_1
    try clear hcz7_2
    try clear hfz6_0
    try clear hfz6_1
    try clear hfz6_2
    try clear hfz7_0
    try clear hfz7_1
    try clear hfz7_2
    obtain ⟨kq, x16_1, rfl, HA, HJ1, BK411, HB⟩ := hcut
    cases kq with
    | zero => exact absurd HA.out (by simp [impl_PuzzleValid.j0])
    | succ kj1 =>
      have H := HA.out
      clear HA
      simp only [impl_PuzzleValid.j0] at H
      by_cases c8 : x16_1 = true
      · subst c8
        have H1 : (some false) = some r := by rw [if_pos rfl] at H; exact H
        clear H
        have H := H1
        clear H1
        obtain rfl := Option.some.inj H
        go_wp2
        go_ret
        exact ⟨by first | rfl | (simp [errW_none, errW_some] <;> rfl) | (simp [*, errW_none, errW_some] <;> rfl), by repeat (first | (with_reducible first | exact HB.out | apply yea | apply yen | apply yed | refine below_set ?_ GE411.out) | exact HB.out)⟩
      replace c8 := Bool.eq_false_iff.mpr c8
      subst c8
      have H1 : (impl_PuzzleValid.l0 kj1 l0_2 (l0_2.length : Int) 0 a0_0 l0_1 l0_2) = some r := by rw [if_neg (show ¬ (false = true) by decide)] at H; exact H
      clear H
      have H := H1
      clear H1
      have H' := yam H
      clear H
      have hcz9_0 : wc.cell? ⟨gb411, 0, none⟩ = some (.int .i64 a0_0) := (blk_cell BK411.out 0).trans rfl
      have hcz9_1 : wc.cell? ⟨gb411, 1, none⟩ = some (.slice A0_1 l0_1.length c0_1) := (blk_cell BK411.out 1).trans rfl
      have hcz9_2 : wc.cell? ⟨gb411, 2, none⟩ = some (.slice A0_2 l0_2.length c0_2) := (blk_cell BK411.out 2).trans rfl
      have hfz9_0 := blk_frozen BK411.out 0
      have hfz9_1 := blk_frozen BK411.out 1
      have hfz9_2 := blk_frozen BK411.out 2
      go_wp2
      go_loopg [20] kj1 (fun kq v20 w' => ∃ (x20_2 : Int), v20 = .int .i64 x20_2 ∧ Aside0 (impl_PuzzleValid.l0 kq l0_2 (l0_2.length : Int) x20_2 a0_0 l0_1 l0_2 = some r) ∧ Aside0 (kq ≤ kj1) ∧ Aside0 (w'.heap[gb411]? = some (.cells #[.int .i64 a0_0, (.slice A0_1 l0_1.length c0_1), (.slice A0_2 l0_2.length c0_2)] 43 (0, 0))) ∧ Aside0 (Below w.heap.size w w'))
      case atStart => exact ⟨(0), (by first | rfl | (simp; done) | (simp [*]; done)), H', ⟨Nat.le_refl _⟩, ⟨by (with_reducible repeat (first | refine ybn ?_ _ | refine ybd ?_ | refine yba ?_ _)); exact BK411.out⟩, ⟨by repeat (first | (with_reducible first | exact HB.out | apply yea | apply yen | apply yed | refine below_set ?_ GE411.out) | exact HB.out)⟩⟩
      case round =>
        clear H'
        try clear c2
        try clear p2
        try clear c5
        try clear c6
        try clear c8
        try clear hcz6_0
        try clear hcz6_1
        try clear hcz6_2
        try clear hcz7_0
        try clear hcz7_1
        try clear hcz7_2
        try clear hcz9_0
        try clear hcz9_1
        try clear hcz9_2
        try clear hfz6_0
        try clear hfz6_1
        try clear hfz6_2
        try clear hfz7_0
        try clear hfz7_1
        try clear hfz7_2
        try clear hfz9_0
        try clear hfz9_1
        try clear hfz9_2
        try clear p2
        obtain ⟨x20_2, rfl, HA, HK2, BK411, HB⟩ := hrel
        cases gk with
        | zero => exact absurd HA.out (by simp [impl_PuzzleValid.l0])
        | succ k2 =>
          have H := HA.out
          clear HA
          simp only [impl_PuzzleValid.l0] at H
          by_cases c10 : x20_2 < (l0_2.length : Int)
          rotate_left
          · rw [if_neg c10] at H
            have c10b0 : decide (x20_2 < (l0_2.length : Int)) = false := decide_eq_false c10
            clear c10
            obtain rfl := Option.some.inj H
            go_wp2
            go_ret
            exact ⟨by first | rfl | (simp [errW_none, errW_some] <;> rfl) | (simp [*, errW_none, errW_some] <;> rfl), by repeat (first | (with_reducible first | exact HB.out | apply yea | apply yen | apply yed | refine below_set ?_ GE411.out) | exact HB.out)⟩

          rw [if_pos c10] at H
          have c10b0 : decide (x20_2 < (l0_2.length : Int)) = true := decide_eq_true c10
          clear c10
          by_cases c11 : 0 ≤ x20_2
          rotate_left
          · rw [if_neg c11] at H
            exact absurd H (by simp)
          rw [if_pos c11] at H
          have c11b0 : decide (0 ≤ x20_2) = true := decide_eq_true c11
          clear c11
          by_cases c12 : x20_2 < (l0_2.length : Int)
          rotate_left
          · rw [if_neg c12] at H
            exact absurd H (by simp)
          rw [if_pos c12] at H
          have c12b0 : decide (x20_2 < (l0_2.length : Int)) = true := decide_eq_true c12
          clear c12
          replace H := Option.bind_eq_some_iff.mp H
          obtain ⟨t415, A130, H⟩ := H
          try dsimp only at H
          have A13 := yam A130
          clear A130
          by_cases c14 : t415 = true
          rotate_left
          · replace c14 := Bool.eq_false_iff.mpr c14
            subst c14
            have H1 : (some false) = some r := by rw [if_neg (show ¬ (false = true) by decide)] at H; exact H
            clear H
            have H := H1
            clear H1
            obtain rfl := Option.some.inj H
            have p413 : 0 ≤ (x20_2 : Int) := of_decide_eq_true (by first | (with_reducible assumption) | assumption)
            have q413 : x20_2 < (l0_2.length : Int) := of_decide_eq_true (by first | (with_reducible assumption) | assumption)
            obtain ⟨ad413, A413_1, c413_1, e413, hx413_0, hx413_1, hx413_2, hl413_1, hi413_1⟩ := at_T32 HR0_2.out x20_2 p413 q413
            cases e413
            replace hx413_0 := (HB.out.cell (World.block_lt_of_cell? w _ hx413_0)).trans hx413_0
            replace hx413_1 := (HB.out.cell (World.block_lt_of_cell? w _ hx413_1)).trans hx413_1
            replace hx413_2 := (HB.out.cell (World.block_lt_of_cell? w _ hx413_2)).trans hx413_2
            have HR413_1 := yam hi413_1
            have HC413_1 := yam hl413_1
            clear hi413_1 hl413_1
            replace p413 := eq_true p413
            replace q413 := eq_true q413
            go_wp2_with (first | ((with_reducible refine gate_dst (N := 4) rfl ?_); (try (refine gate_guard (by rfl) ?_; dsimp only)); refine box_event ?hg (N := 4) ?hd (cs := #[.int .i64 0, .slice none 0 0, .int .i64 0]) (t := 32) ?hr ?_; (case hd => rfl); (case hg => rfl); (case hr => first | (go_simp; done) | (go_simp; rfl)); intro gb414 hg w20 hbox hb; have n0_ := yam (blk_below (g := gb411) (o := .cells #[.int .i64 a0_0, .slice A0_1 l0_1.length c0_1, .slice (some ad413) l0_2.length c0_2] 43 (0, 0)) (ybz BK411.out) hb); have n1_ := yam (below_step (by repeat (first | (with_reducible first | exact HB.out | apply yea | apply yen | apply yed | refine below_set ?_ GE411.out) | exact HB.out)) hb); have n2_ := yam (hbox); have n3_ := yam ((by rw [hg]; exact (below_size (by repeat (first | (with_reducible first | exact HB.out | apply yea | apply yen | apply yed | refine below_set ?_ GE411.out) | exact HB.out))) : w.heap.size ≤ gb414)); have n4_ := yam ((by rw [hg]; exact (below_size (by repeat (first | (with_reducible first | exact HB.out | apply yea | apply yen | apply yed | refine below_set ?_ GE411.out) | exact HB.out))) : w.heap.size ≤ gb414)); have n5_ := yam ((by rw [hg]; exact Nat.ne_of_lt (blk_lt (g := gb411) (o := .cells #[.int .i64 a0_0, .slice A0_1 l0_1.length c0_1, .slice (some ad413) l0_2.length c0_2] 43 (0, 0)) (ybz BK411.out)) : gb411 ≠ gb414)); have n6_ := yam ((by rw [hg]; exact Nat.ne_of_gt (blk_lt (g := gb411) (o := .cells #[.int .i64 a0_0, .slice A0_1 l0_1.length c0_1, .slice (some ad413) l0_2.length c0_2] 43 (0, 0)) (ybz BK411.out)) : gb414 ≠ gb411)); clear BK411; clear HB; have BK411 := n0_; have HB := n1_; have BK414 := n2_; have GW414 := n3_; have GE414 := n4_; have NB411_414 := n5_; have NB414_411 := n6_; clear n0_ n1_ n2_ n3_ n4_ n5_ n6_; clear hb hbox hg; have hnb21 := NB414_411.out; have hnc21 := NB411_414.out; have hcz22_0 : w20.cell? ⟨gb414, 0, none⟩ = some (.int .i64 0) := (blk_cell BK414.out 0).trans rfl; have hcz22_1 : w20.cell? ⟨gb414, 1, none⟩ = some (.slice none 0 0) := (blk_cell BK414.out 1).trans rfl; have hcz22_2 : w20.cell? ⟨gb414, 2, none⟩ = some (.int .i64 0) := (blk_cell BK414.out 2).trans rfl; have hfz22_0 := blk_frozen BK414.out 0; have hfz22_1 := blk_frozen BK414.out 1; have hfz22_2 := blk_frozen BK414.out 2; have hcz23_0 : w20.cell? ⟨gb411, 0, none⟩ = some (.int .i64 a0_0) := (blk_cell BK411.out 0).trans rfl; have hcz23_1 : w20.cell? ⟨gb411, 1, none⟩ = some (.slice A0_1 l0_1.length c0_1) := (blk_cell BK411.out 1).trans rfl; have hcz23_2 : w20.cell? ⟨gb411, 2, none⟩ = some (.slice (some ad413) l0_2.length c0_2) := (blk_cell BK411.out 2).trans rfl; have hfz23_0 := blk_frozen BK411.out 0; have hfz23_1 := blk_frozen BK411.out 1; have hfz23_2 := blk_frozen BK411.out 2) | ((with_reducible refine gate_callee (f := 23) rfl ?_); refine goesL_ (some 27) rfl rfl Try.func23 (by kernel_rfl) rfl #[.agg #[.int .i64 ((rd_T32 l0_2 x20_2).f0), .slice A413_1 ((rd_T32 l0_2 x20_2).f1).length c413_1, .int .i64 ((rd_T32 l0_2 x20_2).f2)], .int .i64 a0_0] rfl (by (try simp only [List.map_toArray, List.map_cons, List.map_nil]); first | done | rfl | (simp only [List.length_drop, List.length_take]; rfl)) ?_; (with_reducible refine (impl_RuleValid.calls k2 ((rd_T32 l0_2 x20_2).f0) _ _ ((rd_T32 l0_2 x20_2).f1) ((rd_T32 l0_2 x20_2).f2) a0_0 false _ ?side1 ?side2 A13.out).mono ?_); (case side1 => exact Kd.C_below HR413_1.out (by repeat (first | (with_reducible first | exact HB.out | apply yea | apply yen | apply yed | refine below_set ?_ GE411.out | refine below_set ?_ GE414.out) | exact HB.out))); (case side2 => exact HC413_1.out); rintro e w24 ⟨rfl, hb⟩; refine ⟨_, rfl, ?_⟩; have n0_ := yam (blk_below (g := gb411) (o := .cells #[.int .i64 a0_0, .slice A0_1 l0_1.length c0_1, .slice (some ad413) l0_2.length c0_2] 43 (0, 0)) (by (with_reducible repeat (first | refine ybn ?_ _ | refine ybd ?_ | refine yba ?_ _)); refine blk_far ?_ NB411_414.out _; (with_reducible repeat (first | refine ybn ?_ _ | refine ybd ?_ | refine yba ?_ _)); refine blk_far ?_ NB411_414.out _; (with_reducible repeat (first | refine ybn ?_ _ | refine ybd ?_ | refine yba ?_ _)); refine blk_far ?_ NB411_414.out _; (with_reducible repeat (first | refine ybn ?_ _ | refine ybd ?_ | refine yba ?_ _)); exact BK411.out) hb); have n1_ := yam (blk_below (g := gb414) (o := .cells #[.int .i64 ((rd_T32 l0_2 x20_2).f0), .slice A413_1 ((rd_T32 l0_2 x20_2).f1).length c413_1, .int .i64 ((rd_T32 l0_2 x20_2).f2)] 32 (0, 0)) (by (with_reducible repeat (first | refine ybn ?_ _ | refine ybd ?_ | refine yba ?_ _)); refine blk_put (cs := #[.int .i64 ((rd_T32 l0_2 x20_2).f0), .slice A413_1 ((rd_T32 l0_2 x20_2).f1).length c413_1, .int .i64 0]) ?_ 2 _ rfl; (with_reducible repeat (first | refine ybn ?_ _ | refine ybd ?_ | refine yba ?_ _)); refine blk_put (cs := #[.int .i64 ((rd_T32 l0_2 x20_2).f0), .slice none 0 0, .int .i64 0]) ?_ 1 _ rfl; (with_reducible repeat (first | refine ybn ?_ _ | refine ybd ?_ | refine yba ?_ _)); refine blk_put (cs := #[.int .i64 0, .slice none 0 0, .int .i64 0]) ?_ 0 _ rfl; (with_reducible repeat (first | refine ybn ?_ _ | refine ybd ?_ | refine yba ?_ _)); exact BK414.out) hb); have n2_ := yam (below_step (by repeat (first | (with_reducible first | exact HB.out | apply yea | apply yen | apply yed | refine below_set ?_ GE411.out | refine below_set ?_ GE414.out) | exact HB.out)) hb); clear BK411; clear BK414; clear HB; have BK411 := n0_; have BK414 := n1_; have HB := n2_; clear n0_ n1_ n2_; (try clear hb); (try clear hb2); (try clear hk); (try clear hi)))
            go_ret
            exact ⟨by first | rfl | (simp [errW_none, errW_some] <;> rfl) | (simp [*, errW_none, errW_some] <;> rfl), by repeat (first | (with_reducible first | exact HB.out | apply yea | apply yen | apply yed | refine below_set ?_ GE411.out | refine below_set ?_ GE414.out) | exact HB.out)⟩
          subst c14
          have H1 : (impl_PuzzleValid.l0 k2 l0_2 (l0_2.length : Int) (wrap64 (x20_2 + 1)) a0_0 l0_1 l0_2) = some r := by rw [if_pos rfl] at H; exact H
          clear H
          have H := H1
          clear H1
          have H' := yam H
          clear H
          have p413 : 0 ≤ (x20_2 : Int) := of_decide_eq_true (by first | (with_reducible assumption) | assumption)
          have q413 : x20_2 < (l0_2.length : Int) := of_decide_eq_true (by first | (with_reducible assumption) | assumption)
          obtain ⟨ad413, A413_1, c413_1, e413, hx413_0, hx413_1, hx413_2, hl413_1, hi413_1⟩ := at_T32 HR0_2.out x20_2 p413 q413
          cases e413
          replace hx413_0 := (HB.out.cell (World.block_lt_of_cell? w _ hx413_0)).trans hx413_0
          replace hx413_1 := (HB.out.cell (World.block_lt_of_cell? w _ hx413_1)).trans hx413_1
          replace hx413_2 := (HB.out.cell (World.block_lt_of_cell? w _ hx413_2)).trans hx413_2
          have HR413_1 := yam hi413_1
          have HC413_1 := yam hl413_1
          clear hi413_1 hl413_1
          replace p413 := eq_true p413
          replace q413 := eq_true q413
          go_wp2_with (first | ((with_reducible refine gate_dst (N := 4) rfl ?_); (try (refine gate_guard (by rfl) ?_; dsimp only)); refine box_event ?hg (N := 4) ?hd (cs := #[.int .i64 0, .slice none 0 0, .int .i64 0]) (t := 32) ?hr ?_; (case hd => rfl); (case hg => rfl); (case hr => first | (go_simp; done) | (go_simp; rfl)); intro gb414 hg w15 hbox hb; have n0_ := yam (blk_below (g := gb411) (o := .cells #[.int .i64 a0_0, .slice A0_1 l0_1.length c0_1, .slice (some ad413) l0_2.length c0_2] 43 (0, 0)) (ybz BK411.out) hb); have n1_ := yam (below_step (by repeat (first | (with_reducible first | exact HB.out | apply yea | apply yen | apply yed | refine below_set ?_ GE411.out) | exact HB.out)) hb); have n2_ := yam (hbox); have n3_ := yam ((by rw [hg]; exact (below_size (by repeat (first | (with_reducible first | exact HB.out | apply yea | apply yen | apply yed | refine below_set ?_ GE411.out) | exact HB.out))) : w.heap.size ≤ gb414)); have n4_ := yam ((by rw [hg]; exact (below_size (by repeat (first | (with_reducible first | exact HB.out | apply yea | apply yen | apply yed | refine below_set ?_ GE411.out) | exact HB.out))) : w.heap.size ≤ gb414)); have n5_ := yam ((by rw [hg]; exact Nat.ne_of_lt (blk_lt (g := gb411) (o := .cells #[.int .i64 a0_0, .slice A0_1 l0_1.length c0_1, .slice (some ad413) l0_2.length c0_2] 43 (0, 0)) (ybz BK411.out)) : gb411 ≠ gb414)); have n6_ := yam ((by rw [hg]; exact Nat.ne_of_gt (blk_lt (g := gb411) (o := .cells #[.int .i64 a0_0, .slice A0_1 l0_1.length c0_1, .slice (some ad413) l0_2.length c0_2] 43 (0, 0)) (ybz BK411.out)) : gb414 ≠ gb411)); clear BK411; clear HB; have BK411 := n0_; have HB := n1_; have BK414 := n2_; have GW414 := n3_; have GE414 := n4_; have NB411_414 := n5_; have NB414_411 := n6_; clear n0_ n1_ n2_ n3_ n4_ n5_ n6_; clear hb hbox hg; have hnb16 := NB414_411.out; have hnc16 := NB411_414.out; have hcz17_0 : w15.cell? ⟨gb414, 0, none⟩ = some (.int .i64 0) := (blk_cell BK414.out 0).trans rfl; have hcz17_1 : w15.cell? ⟨gb414, 1, none⟩ = some (.slice none 0 0) := (blk_cell BK414.out 1).trans rfl; have hcz17_2 : w15.cell? ⟨gb414, 2, none⟩ = some (.int .i64 0) := (blk_cell BK414.out 2).trans rfl; have hfz17_0 := blk_frozen BK414.out 0; have hfz17_1 := blk_frozen BK414.out 1; have hfz17_2 := blk_frozen BK414.out 2; have hcz18_0 : w15.cell? ⟨gb411, 0, none⟩ = some (.int .i64 a0_0) := (blk_cell BK411.out 0).trans rfl; have hcz18_1 : w15.cell? ⟨gb411, 1, none⟩ = some (.slice A0_1 l0_1.length c0_1) := (blk_cell BK411.out 1).trans rfl; have hcz18_2 : w15.cell? ⟨gb411, 2, none⟩ = some (.slice (some ad413) l0_2.length c0_2) := (blk_cell BK411.out 2).trans rfl; have hfz18_0 := blk_frozen BK411.out 0; have hfz18_1 := blk_frozen BK411.out 1; have hfz18_2 := blk_frozen BK411.out 2) | ((with_reducible refine gate_callee (f := 23) rfl ?_); refine goesL_ (some 27) rfl rfl Try.func23 (by kernel_rfl) rfl #[.agg #[.int .i64 ((rd_T32 l0_2 x20_2).f0), .slice A413_1 ((rd_T32 l0_2 x20_2).f1).length c413_1, .int .i64 ((rd_T32 l0_2 x20_2).f2)], .int .i64 a0_0] rfl (by (try simp only [List.map_toArray, List.map_cons, List.map_nil]); first | done | rfl | (simp only [List.length_drop, List.length_take]; rfl)) ?_; (with_reducible refine (impl_RuleValid.calls k2 ((rd_T32 l0_2 x20_2).f0) _ _ ((rd_T32 l0_2 x20_2).f1) ((rd_T32 l0_2 x20_2).f2) a0_0 true _ ?side1 ?side2 A13.out).mono ?_); (case side1 => exact Kd.C_below HR413_1.out (by repeat (first | (with_reducible first | exact HB.out | apply yea | apply yen | apply yed | refine below_set ?_ GE411.out | refine below_set ?_ GE414.out) | exact HB.out))); (case side2 => exact HC413_1.out); rintro e w19 ⟨rfl, hb⟩; refine ⟨_, rfl, ?_⟩; have n0_ := yam (blk_below (g := gb411) (o := .cells #[.int .i64 a0_0, .slice A0_1 l0_1.length c0_1, .slice (some ad413) l0_2.length c0_2] 43 (0, 0)) (by (with_reducible repeat (first | refine ybn ?_ _ | refine ybd ?_ | refine yba ?_ _)); refine blk_far ?_ NB411_414.out _; (with_reducible repeat (first | refine ybn ?_ _ | refine ybd ?_ | refine yba ?_ _)); refine blk_far ?_ NB411_414.out _; (with_reducible repeat (first | refine ybn ?_ _ | refine ybd ?_ | refine yba ?_ _)); refine blk_far ?_ NB411_414.out _; (with_reducible repeat (first | refine ybn ?_ _ | refine ybd ?_ | refine yba ?_ _)); exact BK411.out) hb); have n1_ := yam (blk_below (g := gb414) (o := .cells #[.int .i64 ((rd_T32 l0_2 x20_2).f0), .slice A413_1 ((rd_T32 l0_2 x20_2).f1).length c413_1, .int .i64 ((rd_T32 l0_2 x20_2).f2)] 32 (0, 0)) (by (with_reducible repeat (first | refine ybn ?_ _ | refine ybd ?_ | refine yba ?_ _)); refine blk_put (cs := #[.int .i64 ((rd_T32 l0_2 x20_2).f0), .slice A413_1 ((rd_T32 l0_2 x20_2).f1).length c413_1, .int .i64 0]) ?_ 2 _ rfl; (with_reducible repeat (first | refine ybn ?_ _ | refine ybd ?_ | refine yba ?_ _)); refine blk_put (cs := #[.int .i64 ((rd_T32 l0_2 x20_2).f0), .slice none 0 0, .int .i64 0]) ?_ 1 _ rfl; (with_reducible repeat (first | refine ybn ?_ _ | refine ybd ?_ | refine yba ?_ _)); refine blk_put (cs := #[.int .i64 0, .slice none 0 0, .int .i64 0]) ?_ 0 _ rfl; (with_reducible repeat (first | refine ybn ?_ _ | refine ybd ?_ | refine yba ?_ _)); exact BK414.out) hb); have n2_ := yam (below_step (by repeat (first | (with_reducible first | exact HB.out | apply yea | apply yen | apply yed | refine below_set ?_ GE411.out | refine below_set ?_ GE414.out) | exact HB.out)) hb); clear BK411; clear BK414; clear HB; have BK411 := n0_; have BK414 := n1_; have HB := n2_; clear n0_ n1_ n2_; (try clear hb); (try clear hb2); (try clear hk); (try clear hi)))
          go_roundg k2
          case measure => have := HJ1.out; have := HK2.out; omega
          case rel => exact ⟨(wrap64 (x20_2 + 1)), (by first | rfl | (simp; done) | (simp [*]; done)), H', ⟨by have := HJ1.out; have := HK2.out; omega⟩, ⟨by (with_reducible repeat (first | refine ybn ?_ _ | refine ybd ?_ | refine yba ?_ _)); exact BK411.out⟩, ⟨by repeat (first | (with_reducible first | exact HB.out | apply yea | apply yen | apply yed | refine below_set ?_ GE411.out | refine below_set ?_ GE414.out) | exact HB.out)⟩⟩
end Go.Proofs.Ythfbjkniinfgcaa.P
namespace Go.Proofs.Ythfbjkniinfgcaa.P
open Go.RowKit Go.Proofs.YthfbjkniinfgcaaW.PrintWords Go.Proofs.YthfbjkniinfgcaaW.PrintLast Go.Proofs.YthfbjkniinfgcaaW.PrintMore
attribute [local go_sem] max2_int min2_int max_two min_two max_three min_three max_four min_four   -- for this text's walks alone
set_option linter.unusedVariables false
set_option linter.unusedSimpArgs false

/-! ### impl_StartMasks: function 41 -/
def impl_StartMasks.l0 : Nat → List Int → List Int → Int → Int → Int → List Int → List (S32) → Option (List Int)
  | 0, _, _, _, _, _, _, _ => none
  | k + 1, x3, x14, x15, x16, x615000, x615001, x615002 => if x16 < x15 then (if 0 ≤ x16 then (if x16 < (x14.length : Int) then ((impl_allValues.f x615000).bind fun t620 => (if x16 < (x3.length : Int) then ((some (x3.set (x16 : Int).toNat t620 : List Int)).bind fun y621 => (if (rd x14 x16) > 0 then (if 0 ≤ (rd x14 x16) then (impl_StartMasks.l0 k (y621.set (x16 : Int).toNat (shl .i64 1 (rd x14 x16))) x14 x15 (wrap64 (x16 + 1)) x615000 x615001 x615002) else (none)) else (impl_StartMasks.l0 k y621 x14 x15 (wrap64 (x16 + 1)) x615000 x615001 x615002))) else (none))) else (none)) else (none)) else (some x3)
def impl_StartMasks.f (k : Nat) (a0_0 : Int) (l0_1 : List Int) (l0_2 : List (S32)) : Option (List Int) := (impl_PuzzleValid.f k a0_0 l0_1 l0_2).bind fun t615 => (if t615 = true then (if 0 ≤ (l0_1.length : Int) then (if ((l0_1.length : Int) : Int).toNat ≤ 35184372088832 then (impl_StartMasks.l0 k (List.replicate ((l0_1.length : Int) : Int).toNat 0) l0_1 (l0_1.length : Int) 0 a0_0 l0_1 l0_2) else (none)) else (none)) else (some ([] : List Int)))
theorem impl_StartMasks.mono_l : ∀ k, (∀ y0 y1 y2 y3 y4 y5 y6, LeO (impl_StartMasks.l0 k y0 y1 y2 y3 y4 y5 y6) (impl_StartMasks.l0 (k + 1) y0 y1 y2 y3 y4 y5 y6))
  | 0 => fun _ _ _ _ _ _ _ r h => by simp [impl_StartMasks.l0] at h
  | k + 1 => by
    have ih0 := impl_StartMasks.mono_l k
    · intro y0 y1 y2 y3 y4 y5 y6
      unfold impl_StartMasks.l0
      repeat' first
      | (with_reducible exact ih0 _ _ _ _ _ _ _)
      | (with_reducible exact impl_PuzzleValid.mono _ _ _ _)
      | (with_reducible exact LeO.refl _)
      | (with_reducible exact LeO.none _)
      | (with_reducible refine LeO.ite ?_ ?_)
      | (with_reducible refine LeO.bind ?_ (fun _ => ?_))
      | exact ih0 _ _ _ _ _ _ _
      | exact impl_PuzzleValid.mono _ _ _ _
      | exact LeO.none _
      | refine LeO.ite ?_ ?_
      | refine LeO.bind ?_ (fun _ => ?_)
theorem impl_StartMasks.mono : ∀ a0 a1 a2 k, LeO (impl_StartMasks.f k a0 a1 a2) (impl_StartMasks.f (k + 1) a0 a1 a2) := by
  intro a0 a1 a2 k
  have ih0 := impl_StartMasks.mono_l k
  unfold impl_StartMasks.f
  repeat' first
      | (with_reducible exact ih0 _ _ _ _ _ _ _)
      | (with_reducible exact impl_PuzzleValid.mono _ _ _ _)
      | (with_reducible exact LeO.refl _)
      | (with_reducible exact LeO.none _)
      | (with_reducible refine LeO.ite ?_ ?_)
      | (with_reducible refine LeO.bind ?_ (fun _ => ?_))
      | exact ih0 _ _ _ _ _ _ _
      | exact impl_PuzzleValid.mono _ _ _ _
      | exact LeO.none _
      | refine LeO.ite ?_ ?_
      | refine LeO.bind ?_ (fun _ => ?_)
set_option maxHeartbeats 8000000 in
set_option maxRecDepth 100000 in
theorem impl_StartMasks.calls (k : Nat) (a0_0 : Int) (A0_1 : Option Addr) (c0_1 : Nat) (l0_1 : List Int) (A0_2 : Option Addr) (c0_2 : Nat) (l0_2 : List (S32)) (r : List Int) (w : World) (hr0_1 : Kd.C (Kd.int .i64) w A0_1 l0_1.length l0_1) (hc0_1 : l0_1.length ≤ c0_1) (hr0_2 : Kd.C k32 w A0_2 l0_2.length l0_2) (hc0_2 : l0_2.length ≤ c0_2) (h : impl_StartMasks.f k a0_0 l0_1 l0_2 = some r) :
    Calls Try.prog 41 #[.agg #[.int .i64 a0_0, .slice A0_1 l0_1.length c0_1, .slice A0_2 l0_2.length c0_2]] w fun e w' => ∃ v0_ : Value, e = .returned (v0_) ∧ Kd.R (Kd.int .i64) 3 w' w.heap.size (fun _ => True) v0_ r ∧ Below w.heap.size w w' := by
  have hu43 := Try.underlying43
  have HR0_1 := yam hr0_1
  have HC0_1 := yam hc0_1
  clear hr0_1 hc0_1
  have HR0_2 := yam hr0_2
  have HC0_2 := yam hc0_2
  clear hr0_2 hc0_2
  have HB := yam (Below.refl w.heap.size w)
  have H : ((impl_PuzzleValid.f k a0_0 l0_1 l0_2).bind fun t615 => (if t615 = true then (if 0 ≤ (l0_1.length : Int) then (if ((l0_1.length : Int) : Int).toNat ≤ 35184372088832 then (impl_StartMasks.l0 k (List.replicate ((l0_1.length : Int) : Int).toNat 0) l0_1 (l0_1.length : Int) 0 a0_0 l0_1 l0_2) else (none)) else (none)) else (some ([] : List Int)))) = some r := h
  clear h
  replace H := Option.bind_eq_some_iff.mp H
  obtain ⟨t615, A20, H⟩ := H
  try dsimp only at H
  have A2 := yam A20
  clear A20
  by_cases c3 : t615 = true
  rotate_left
  · replace c3 := Bool.eq_false_iff.mpr c3
    subst c3
    have H1 : (some ([] : List Int)) = some r := by rw [if_neg (show ¬ (false = true) by decide)] at H; exact H
    clear H
    have H := H1
    clear H1
    obtain rfl := Option.some.inj H
    go_enter Try.func41, Try.ntmps41
    go_wp2_with (first | ((with_reducible refine gate_dst (N := 1) rfl ?_); refine box_event ?hg (N := 1) ?hd (cs := #[.int .i64 a0_0, .slice A0_1 l0_1.length c0_1, .slice A0_2 l0_2.length c0_2]) (t := 43) ?hr ?_; (case hd => rfl); (case hg => rfl); (case hr => first | (go_simp; done) | (go_simp; rfl)); intro gb614 hg w31 hbox hb; have n0_ := yam (below_step (yez HB.out) hb); have n1_ := yam (hbox); have n2_ := yam ((by rw [hg]; exact (below_size (yez HB.out)) : w.heap.size ≤ gb614)); have n3_ := yam ((by rw [hg]; exact (below_size (yez HB.out)) : w.heap.size ≤ gb614)); clear HB; have HB := n0_; have BK614 := n1_; have GW614 := n2_; have GE614 := n3_; clear n0_ n1_ n2_ n3_; clear hb hbox hg; have hcz32_0 : w31.cell? ⟨gb614, 0, none⟩ = some (.int .i64 a0_0) := (blk_cell BK614.out 0).trans rfl; have hcz32_1 : w31.cell? ⟨gb614, 1, none⟩ = some (.slice A0_1 l0_1.length c0_1) := (blk_cell BK614.out 1).trans rfl; have hcz32_2 : w31.cell? ⟨gb614, 2, none⟩ = some (.slice A0_2 l0_2.length c0_2) := (blk_cell BK614.out 2).trans rfl; have hfz32_0 := blk_frozen BK614.out 0; have hfz32_1 := blk_frozen BK614.out 1; have hfz32_2 := blk_frozen BK614.out 2) | ((with_reducible refine gate_callee (f := 28) rfl ?_); refine goesL_ (some 7) rfl rfl Try.func28 (by kernel_rfl) rfl #[.agg #[.int .i64 a0_0, .slice A0_1 l0_1.length c0_1, .slice A0_2 l0_2.length c0_2]] rfl (by (try simp only [List.map_toArray, List.map_cons, List.map_nil]); first | done | rfl | (simp only [List.length_drop, List.length_take]; rfl)) ?_; (with_reducible refine (impl_PuzzleValid.calls k a0_0 _ _ l0_1 _ _ l0_2 false _ ?side1 ?side2 ?side3 ?side4 A2.out).mono ?_); (case side1 => exact Kd.Cz ((Kd.C_below HR0_1.out HB.out))); (case side2 => exact HC0_1.out); (case side3 => exact Kd.Cz ((Kd.C_below HR0_2.out HB.out))); (case side4 => exact HC0_2.out); rintro e w33 ⟨rfl, hb⟩; refine ⟨_, rfl, ?_⟩; have n0_ := yam (blk_below (g := gb614) (o := .cells #[.int .i64 a0_0, .slice A0_1 l0_1.length c0_1, .slice A0_2 l0_2.length c0_2] 43 (0, 0)) (ybz BK614.out) hb); have n1_ := yam (below_step (by repeat (first | (with_reducible first | exact HB.out | apply yea | apply yen | apply yed | refine below_set ?_ GE614.out) | exact HB.out)) hb); clear BK614; clear HB; have BK614 := n0_; have HB := n1_; clear n0_ n1_; (try clear hb); (try clear hb2); (try clear hk); (try clear hi)))
    go_ret
    exact ⟨_, by first | rfl | (simp [errW_none, errW_some] <;> rfl) | (simp [*, errW_none, errW_some] <;> rfl), by first | exact Kd.R_nil _ _ _ _ _ | exact Kd.N_nil _ _ _ _ _ | exact Kd.V_nil _ _ _ _ _ | exact Kd.Q_nil _ _ _ _ _ | exact Kd.S_nil _ _ _ _ _, by repeat (first | (with_reducible first | exact HB.out | apply yea | apply yen | apply yed | refine below_set ?_ GE614.out) | exact HB.out)⟩

  subst c3
  have H1 : (if 0 ≤ (l0_1.length : Int) then (if ((l0_1.length : Int) : Int).toNat ≤ 35184372088832 then (impl_StartMasks.l0 k (List.replicate ((l0_1.length : Int) : Int).toNat 0) l0_1 (l0_1.length : Int) 0 a0_0 l0_1 l0_2) else (none)) else (none)) = some r := by rw [if_pos rfl] at H; exact H
  clear H
  have H := H1
  clear H1
  by_cases c4 : 0 ≤ (l0_1.length : Int)
  rotate_left
  · rw [if_neg c4] at H
    exact absurd H (by simp)
  rw [if_pos c4] at H
  have c4b0 := eq_true c4
  have c4b1 : decide (0 ≤ (l0_1.length : Int)) = true := decide_eq_true c4
  clear c4
  by_cases c5 : ((l0_1.length : Int) : Int).toNat ≤ 35184372088832
  rotate_left
  · rw [if_neg c5] at H
    exact absurd H (by simp)
  rw [if_pos c5] at H
  have c5b0 := eq_true c5
  have c5b1 : decide (((l0_1.length : Int) : Int).toNat ≤ 35184372088832) = true := decide_eq_true c5
  clear c5
  obtain ⟨y616, hy616⟩ : ∃ y_ : List Int, y_ = (List.replicate ((l0_1.length : Int) : Int).toNat 0) := ⟨_, rfl⟩
  replace H : (impl_StartMasks.l0 k y616 l0_1 (l0_1.length : Int) 0 a0_0 l0_1 l0_2) = some r := by first | (rw [hy616]; with_reducible exact H) | (have H2_ := (Option.bind_some _ _).symm.trans H; rw [hy616]; with_reducible exact H2_) | (have H2_ := (Option.bind_some _ _).symm.trans H; with_reducible exact H2_) | with_reducible exact H | (rw [hy616]; exact H) | exact H
  have Ny616 := yam hy616
  clear hy616
  have H' := yam H
  clear H
  go_enter Try.func41, Try.ntmps41
  go_wp2_with (first | ((with_reducible refine gate_dst (N := 1) rfl ?_); refine box_event ?hg (N := 1) ?hd (cs := #[.int .i64 a0_0, .slice A0_1 l0_1.length c0_1, .slice A0_2 l0_2.length c0_2]) (t := 43) ?hr ?_; (case hd => rfl); (case hg => rfl); (case hr => first | (go_simp; done) | (go_simp; rfl)); intro gb614 hg w6 hbox hb; have n0_ := yam (below_step (yez HB.out) hb); have n1_ := yam (hbox); have n2_ := yam ((by rw [hg]; exact (below_size (yez HB.out)) : w.heap.size ≤ gb614)); have n3_ := yam ((by rw [hg]; exact (below_size (yez HB.out)) : w.heap.size ≤ gb614)); clear HB; have HB := n0_; have BK614 := n1_; have GW614 := n2_; have GE614 := n3_; clear n0_ n1_ n2_ n3_; clear hb hbox hg; have hcz7_0 : w6.cell? ⟨gb614, 0, none⟩ = some (.int .i64 a0_0) := (blk_cell BK614.out 0).trans rfl; have hcz7_1 : w6.cell? ⟨gb614, 1, none⟩ = some (.slice A0_1 l0_1.length c0_1) := (blk_cell BK614.out 1).trans rfl; have hcz7_2 : w6.cell? ⟨gb614, 2, none⟩ = some (.slice A0_2 l0_2.length c0_2) := (blk_cell BK614.out 2).trans rfl; have hfz7_0 := blk_frozen BK614.out 0; have hfz7_1 := blk_frozen BK614.out 1; have hfz7_2 := blk_frozen BK614.out 2) | ((with_reducible refine gate_callee (f := 28) rfl ?_); refine goesL_ (some 7) rfl rfl Try.func28 (by kernel_rfl) rfl #[.agg #[.int .i64 a0_0, .slice A0_1 l0_1.length c0_1, .slice A0_2 l0_2.length c0_2]] rfl (by (try simp only [List.map_toArray, List.map_cons, List.map_nil]); first | done | rfl | (simp only [List.length_drop, List.length_take]; rfl)) ?_; (with_reducible refine (impl_PuzzleValid.calls k a0_0 _ _ l0_1 _ _ l0_2 true _ ?side1 ?side2 ?side3 ?side4 A2.out).mono ?_); (case side1 => exact Kd.Cz ((Kd.C_below HR0_1.out HB.out))); (case side2 => exact HC0_1.out); (case side3 => exact Kd.Cz ((Kd.C_below HR0_2.out HB.out))); (case side4 => exact HC0_2.out); rintro e w8 ⟨rfl, hb⟩; refine ⟨_, rfl, ?_⟩; have n0_ := yam (blk_below (g := gb614) (o := .cells #[.int .i64 a0_0, .slice A0_1 l0_1.length c0_1, .slice A0_2 l0_2.length c0_2] 43 (0, 0)) (ybz BK614.out) hb); have n1_ := yam (below_step (by repeat (first | (with_reducible first | exact HB.out | apply yea | apply yen | apply yed | refine below_set ?_ GE614.out) | exact HB.out)) hb); clear BK614; clear HB; have BK614 := n0_; have HB := n1_; clear n0_ n1_; (try clear hb); (try clear hb2); (try clear hk); (try clear hi); have hcz9_0 : w8.cell? ⟨gb614, 0, none⟩ = some (.int .i64 a0_0) := (blk_cell BK614.out 0).trans rfl; have hcz9_1 : w8.cell? ⟨gb614, 1, none⟩ = some (.slice A0_1 l0_1.length c0_1) := (blk_cell BK614.out 1).trans rfl; have hcz9_2 : w8.cell? ⟨gb614, 2, none⟩ = some (.slice A0_2 l0_2.length c0_2) := (blk_cell BK614.out 2).trans rfl; have hfz9_0 := blk_frozen BK614.out 0; have hfz9_1 := blk_frozen BK614.out 1; have hfz9_2 := blk_frozen BK614.out 2) | ((with_reducible refine gate_dst (N := 12) rfl ?_); refine Kd.R_make (Kd.int .i64) _ 3 rfl (N := 12) rfl 23 _ _ rfl (l0_1.length : Int) rfl rfl Try.underlying23 (.int .i64 0) 8 info3 rfl (by decide) (by omega) 0 (ok := fun _ => True) (okp := fun _ => True) rfl (fun _ hk => hk) trivial (of_decide_eq_true (by first | (with_reducible assumption) | assumption)) (Nat.le_trans (Nat.mul_le_mul_right _ (of_decide_eq_true (by first | (with_reducible assumption) | assumption) : (l0_1.length : Int).toNat ≤ 35184372088832)) (by omega)) (Below.refl _ _) (Nat.le_refl _) ?_; intro v617 w10 ho11 hb hg_ hnew_; clear hg_ hnew_; (first | rw [← Ny616.out] at ho11 | (simp only [Int.reduceToNat] at ho11; rw [← Ny616.out] at ho11)); have n0_ := yam (Kd.R_lower ho11 (below_size (by repeat (first | (with_reducible first | exact HB.out | apply yea | apply yen | apply yed | refine below_set ?_ GE614.out) | exact HB.out)))); have n1_ := yam (blk_below (g := gb614) (o := .cells #[.int .i64 a0_0, .slice A0_1 l0_1.length c0_1, .slice A0_2 l0_2.length c0_2] 43 (0, 0)) (ybz BK614.out) hb); have n2_ := yam (below_step (by repeat (first | (with_reducible first | exact HB.out | apply yea | apply yen | apply yed | refine below_set ?_ GE614.out) | exact HB.out)) hb); clear BK614; clear HB; have HO618 := n0_; have BK614 := n1_; have HB := n2_; clear n0_ n1_ n2_; clear hb ho11; have hcz12_0 : w10.cell? ⟨gb614, 0, none⟩ = some (.int .i64 a0_0) := (blk_cell BK614.out 0).trans rfl; have hcz12_1 : w10.cell? ⟨gb614, 1, none⟩ = some (.slice A0_1 l0_1.length c0_1) := (blk_cell BK614.out 1).trans rfl; have hcz12_2 : w10.cell? ⟨gb614, 2, none⟩ = some (.slice A0_2 l0_2.length c0_2) := (blk_cell BK614.out 2).trans rfl; have hfz12_0 := blk_frozen BK614.out 0; have hfz12_1 := blk_frozen BK614.out 1; have hfz12_2 := blk_frozen BK614.out 2))
  go_loopg [16] k (fun kq v16 w' => ∃ (x3_1 : List Int) (x16_1 : Int), v16 = .int .i64 x16_1 ∧ Aside0 (impl_StartMasks.l0 kq x3_1 l0_1 (l0_1.length : Int) x16_1 a0_0 l0_1 l0_2 = some r) ∧ Aside0 (kq ≤ k) ∧ Aside0 (Kd.R (Kd.int .i64) 3 w' w.heap.size (fun _ => True) v617 x3_1) ∧ Aside0 (w'.heap[gb614]? = some (.cells #[.int .i64 a0_0, (.slice A0_1 l0_1.length c0_1), (.slice A0_2 l0_2.length c0_2)] 43 (0, 0))) ∧ Aside0 (Below w.heap.size w w'))
  case atStart => exact ⟨(y616), (0), (by first | rfl | (simp; done) | (simp [*]; done)), H', ⟨Nat.le_refl _⟩, ⟨by (with_reducible repeat (first | apply Kd.Ya | apply Kd.Yn | apply Kd.Yd)); exact HO618.out⟩, ⟨by (with_reducible repeat (first | refine ybn ?_ _ | refine ybd ?_ | refine yba ?_ _)); exact BK614.out⟩, ⟨by repeat (first | (with_reducible first | exact HB.out | apply yea | apply yen | apply yed | refine below_set ?_ GE614.out) | exact HB.out)⟩⟩
  case round =>
    clear H'
    try clear c2
    try clear p2
    try clear c3
    try clear c4
    try clear c4b0
    try clear c4b1
    try clear c5
    try clear c5b0
    try clear c5b1
    try clear hcz12_0
    try clear hcz12_1
    try clear hcz12_2
    try clear hcz7_0
    try clear hcz7_1
    try clear hcz7_2
    try clear hcz9_0
    try clear hcz9_1
    try clear hcz9_2
    try clear hfz12_0
    try clear hfz12_1
    try clear hfz12_2
    try clear hfz7_0
    try clear hfz7_1
    try clear hfz7_2
    try clear hfz9_0
    try clear hfz9_1
    try clear hfz9_2
    obtain ⟨x3_1, x16_1, rfl, HA, HK1, HO_3, BK614, HB⟩ := hrel
    cases gk with
    | zero => exact absurd HA.out (by simp [impl_StartMasks.l0])
    | succ k1 =>
      have H := HA.out
      clear HA
      simp only [impl_StartMasks.l0] at H
      by_cases c13 : x16_1 < (l0_1.length : Int)
      rotate_left
      · rw [if_neg c13] at H
        have c13b0 : decide (x16_1 < (l0_1.length : Int)) = false := decide_eq_false c13
        clear c13
        obtain rfl := Option.some.inj H
        go_wp2
        go_ret
        exact ⟨_, by first | rfl | (simp [errW_none, errW_some] <;> rfl) | (simp [*, errW_none, errW_some] <;> rfl), by (with_reducible repeat (first | apply Kd.Ya | apply Kd.Yn | apply Kd.Yd)); exact HO_3.out, by repeat (first | (with_reducible first | exact HB.out | apply yea | apply yen | apply yed | refine below_set ?_ GE614.out) | exact HB.out)⟩
      rw [if_pos c13] at H
      have c13b0 : decide (x16_1 < (l0_1.length : Int)) = true := decide_eq_true c13
      clear c13
      by_cases c14 : 0 ≤ x16_1
      rotate_left
      · rw [if_neg c14] at H
        exact absurd H (by simp)
      rw [if_pos c14] at H
      have c14b0 : decide (0 ≤ x16_1) = true := decide_eq_true c14
      clear c14
      by_cases c15 : x16_1 < (l0_1.length : Int)
      rotate_left
      · rw [if_neg c15] at H
        exact absurd H (by simp)
      rw [if_pos c15] at H
      have c15b0 : decide (x16_1 < (l0_1.length : Int)) = true := decide_eq_true c15
      clear c15
      replace H := Option.bind_eq_some_iff.mp H
      obtain ⟨t620, A160, H⟩ := H
      try dsimp only at H
      have A16 := yam A160
      clear A160
      by_cases c17 : x16_1 < (x3_1.length : Int)
      rotate_left
      · rw [if_neg c17] at H
        exact absurd H (by simp)
      rw [if_pos c17] at H
      have c17b0 : decide (x16_1 < (x3_1.length : Int)) = true := decide_eq_true c17
      clear c17
      obtain ⟨y621, hy621⟩ : ∃ y_ : List Int, y_ = (x3_1.set (x16_1 : Int).toNat t620) := ⟨_, rfl⟩
      replace H : (if (rd l0_1 x16_1) > 0 then (if 0 ≤ (rd l0_1 x16_1) then (impl_StartMasks.l0 k1 (y621.set (x16_1 : Int).toNat (shl .i64 1 (rd l0_1 x16_1))) l0_1 (l0_1.length : Int) (wrap64 (x16_1 + 1)) a0_0 l0_1 l0_2) else (none)) else (impl_StartMasks.l0 k1 y621 l0_1 (l0_1.length : Int) (wrap64 (x16_1 + 1)) a0_0 l0_1 l0_2)) = some r := by first | (rw [hy621]; with_reducible exact H) | (have H2_ := (Option.bind_some _ _).symm.trans H; rw [hy621]; with_reducible exact H2_) | (have H2_ := (Option.bind_some _ _).symm.trans H; with_reducible exact H2_) | with_reducible exact H | (rw [hy621]; exact H) | exact H
      have Ny621 := yam hy621
      clear hy621
      by_cases c19 : (rd l0_1 x16_1) > 0
      rotate_left
      · rw [if_neg c19] at H
        have c19b0 : decide (0 < (rd l0_1 x16_1)) = false := decide_eq_false c19
        clear c19
        have H' := yam H
        clear H
        have p619 : 0 ≤ (x16_1 : Int) := of_decide_eq_true (by first | (with_reducible assumption) | assumption)
        have q619 : x16_1 < (l0_1.length : Int) := of_decide_eq_true (by first | (with_reducible assumption) | assumption)
        obtain ⟨ad619, e619, hx619_0⟩ := Kd.at_int HR0_1.out x16_1 p619 q619
        cases e619
        replace hx619_0 := (HB.out.cell (World.block_lt_of_cell? w _ hx619_0)).trans hx619_0
        replace p619 := eq_true p619
        replace q619 := eq_true q619
        have hcz28_0 : wr.cell? ⟨gb614, 0, none⟩ = some (.int .i64 a0_0) := (blk_cell BK614.out 0).trans rfl
        have hcz28_1 : wr.cell? ⟨gb614, 1, none⟩ = some (.slice (some ad619) l0_1.length c0_1) := (blk_cell BK614.out 1).trans rfl
        have hcz28_2 : wr.cell? ⟨gb614, 2, none⟩ = some (.slice A0_2 l0_2.length c0_2) := (blk_cell BK614.out 2).trans rfl
        have hfz28_0 := blk_frozen BK614.out 0
        have hfz28_1 := blk_frozen BK614.out 1
        have hfz28_2 := blk_frozen BK614.out 2
        go_wp2_with (first | ((with_reducible refine gate_callee (f := 61) rfl ?_); refine goesL_ (some 25) rfl rfl Try.func61 (by kernel_rfl) rfl #[.int .i64 a0_0] rfl (by (try simp only [List.map_toArray, List.map_cons, List.map_nil]); first | done | rfl | (simp only [List.length_drop, List.length_take]; rfl)) ?_; (with_reducible refine (impl_allValues.calls a0_0 t620 _ A16.out).mono ?_); rintro e w' ⟨rfl, ⟨nd, rfl⟩⟩; refine ⟨_, rfl, ?_⟩; (try (rw [drewN_self wr]; generalize hq_ : World.drewN wr _ = wr; have n0_ : Aside0 (Kd.R (Kd.int .i64) 3 wr w.heap.size (fun _ => True) v617 x3_1) := ⟨by rw [← hq_]; exact (Kd.Yz HO_3.out)⟩; have n1_ : Aside0 (wr.heap[gb614]? = some (.cells #[.int .i64 a0_0, .slice (some ad619) l0_1.length c0_1, .slice A0_2 l0_2.length c0_2] 43 (0, 0))) := ⟨by rw [← hq_]; exact (ybz BK614.out)⟩; have n2_ : Aside0 (Below w.heap.size w wr) := ⟨by rw [← hq_]; exact (by repeat (first | (with_reducible first | exact HB.out | apply yea | apply yen | apply yed | refine below_set ?_ GE614.out) | exact HB.out))⟩; clear HO_3 BK614 HB hq_; have HO_3 := n0_; have BK614 := n1_; have HB := n2_; clear n0_ n1_ n2_)); have p18 : 0 ≤ (x16_1 : Int) := of_decide_eq_true (by first | (with_reducible assumption) | assumption); have q18 : (x16_1 : Int) < ((x3_1.length : Int) : Int) := of_decide_eq_true (by first | (with_reducible assumption) | assumption); obtain ⟨go18, co18, eo18, gb18, gl18, cl18, HG18⟩ := Kd.R_form HO_3.out (by omega); (first | cases eo18 | (injection eo18 with ea_ en_ ec_; (first | subst ea_ | (injection ea_ with ea_; subst ea_)); subst ec_; clear en_)); have GB18 := yam gb18; have GG18 := yam HG18; clear gb18 gl18 HG18; obtain ⟨hx18_0, hf18_0⟩ := Kd.R_celln 0 HO_3.out (x16_1 : Int) p18 q18; replace p18 := eq_true p18; replace q18 := eq_true q18; obtain ⟨hy29_, hz29_⟩ := Kd.R_celln 0 HO_3.out (x16_1 : Int) (of_decide_eq_true (by first | (with_reducible assumption) | assumption)) (of_decide_eq_true (by first | (with_reducible assumption) | assumption)); have HP29 := Kd.R_putg HO_3.out (x16_1 : Int) t620) | ((with_reducible refine gate_store (t := 3) (p := 26) rfl ?_); refine store_event (t := 3) (p := 26) (v := ?vo_w30) (w1 := (wr.setCell ⟨go18, (x16_1 : Int).toNat, none⟩ (.int .i64 t620))) ?hg ?ho ?hn ?hr ?_; (case ho => rfl); (case hg => rfl); (case hn => rfl); (case hr => first | (go_simp; done) | (go_simp; rfl)); intro w30 hw; have hg : wr.grownBy w30 (some go18) := (by rw [hw]; exact HP29.2); have hp_ : Kd.R (Kd.int .i64) 3 w30 w.heap.size (fun _ => True) (.slice (some ⟨go18, 0, none⟩) x3_1.length co18) y621 := (by rw [hw, Ny621.out]; exact HP29.1); clear HP29; have n0_ := yam (hp_); have n1_ := yam (blk_grown (g := gb614) (o := .cells #[.int .i64 a0_0, .slice (some ad619) l0_1.length c0_1, .slice A0_2 l0_2.length c0_2] 43 (0, 0)) (ybz BK614.out) hg (Kd.R_ne HO_3.out BK614.out (by decide))); have n2_ := yam ((by rw [hw]; exact below_set (HB.out) GB18.out : Below w.heap.size w w30)); clear HO_3; clear BK614; clear HB; have HO_3 := n0_; have BK614 := n1_; have HB := n2_; clear n0_ n1_ n2_; clear hg hw hp_))
        go_roundg k1
        case measure => have := HK1.out; omega
        case rel => exact ⟨(y621), (wrap64 (x16_1 + 1)), (by first | rfl | (simp; done) | (simp [*]; done)), H', ⟨by have := HK1.out; omega⟩, ⟨by (with_reducible repeat (first | apply Kd.Ya | apply Kd.Yn | apply Kd.Yd)); exact HO_3.out⟩, ⟨by (with_reducible repeat (first | refine ybn ?_ _ | refine ybd ?_ | refine yba ?_ _)); exact BK614.out⟩, ⟨by repeat (first | (with_reducible first | exact HB.out | apply yea | apply yen | apply yed | refine below_set ?_ GE614.out) | exact HB.out)⟩⟩
      rw [if_pos c19] at H
      have c19b0 : decide (0 < (rd l0_1 x16_1)) = true := decide_eq_true c19
      clear c19
      by_cases c20 : 0 ≤ (rd l0_1 x16_1)
      rotate_left
      · rw [if_neg c20] at H
        exact absurd H (by simp)
      rw [if_pos c20] at H
      have c20b0 := eq_true c20
      have c20b1 : decide (0 ≤ (rd l0_1 x16_1)) = true := decide_eq_true c20
      clear c20
      obtain ⟨ji21, hji21⟩ : ∃ j_ : Int, (shl .i64 1 (rd l0_1 x16_1)) = j_ := ⟨_, rfl⟩
      replace H : (impl_StartMasks.l0 k1 (y621.set (x16_1 : Int).toNat (ji21)) l0_1 (l0_1.length : Int) (wrap64 (x16_1 + 1)) a0_0 l0_1 l0_2) = some r := by first | (rw [hji21] at H; exact H) | (simp only [hji21] at H ⊢; exact H)
      (try rw [hji21] at A16)
      have hji21_ : (IntKind.i64.wrap (1 * 2 ^ min (rd l0_1 x16_1).toNat 64)) = ji21 := hji21
      have hji21z : (rd l0_1 x16_1) ≤ 64 → (IntKind.i64.wrap (1 * 2 ^ (rd l0_1 x16_1).toNat)) = ji21 := shl_small hji21
      have hji21u : (IntKind.i64.wrap (2 ^ min (rd l0_1 x16_1).toNat 64)) = ji21 := by have h_ := hji21_; rw [Int.one_mul] at h_; exact h_
      have hji21v : (rd l0_1 x16_1) ≤ 64 → (IntKind.i64.wrap (2 ^ (rd l0_1 x16_1).toNat)) = ji21 := fun hle_ => by have h_ := hji21z hle_; rw [Int.one_mul] at h_; exact h_
      have hji21y : (wrap64 (1 * 2 ^ min (rd l0_1 x16_1).toNat 64)) = ji21 := (i64_w _).symm.trans hji21_
      have hji21x : (rd l0_1 x16_1) ≤ 64 → (wrap64 (1 * 2 ^ (rd l0_1 x16_1).toNat)) = ji21 := fun h_ => (i64_w _).symm.trans (hji21z h_)
      obtain ⟨y622, hy622⟩ : ∃ y_ : List Int, y_ = (y621.set (x16_1 : Int).toNat (ji21)) := ⟨_, rfl⟩
      replace H : (impl_StartMasks.l0 k1 y622 l0_1 (l0_1.length : Int) (wrap64 (x16_1 + 1)) a0_0 l0_1 l0_2) = some r := by first | (rw [hy622]; with_reducible exact H) | (have H2_ := (Option.bind_some _ _).symm.trans H; rw [hy622]; with_reducible exact H2_) | (have H2_ := (Option.bind_some _ _).symm.trans H; with_reducible exact H2_) | with_reducible exact H | (rw [hy622]; exact H) | exact H
      have Ny622 := yam hy622
      clear hy622
      have H' := yam H
      clear H
      have p619 : 0 ≤ (x16_1 : Int) := of_decide_eq_true (by first | (with_reducible assumption) | assumption)
      have q619 : x16_1 < (l0_1.length : Int) := of_decide_eq_true (by first | (with_reducible assumption) | assumption)
      obtain ⟨ad619, e619, hx619_0⟩ := Kd.at_int HR0_1.out x16_1 p619 q619
      cases e619
      replace hx619_0 := (HB.out.cell (World.block_lt_of_cell? w _ hx619_0)).trans hx619_0
      replace p619 := eq_true p619
      replace q619 := eq_true q619
      have hcz23_0 : wr.cell? ⟨gb614, 0, none⟩ = some (.int .i64 a0_0) := (blk_cell BK614.out 0).trans rfl
      have hcz23_1 : wr.cell? ⟨gb614, 1, none⟩ = some (.slice (some ad619) l0_1.length c0_1) := (blk_cell BK614.out 1).trans rfl
      have hcz23_2 : wr.cell? ⟨gb614, 2, none⟩ = some (.slice A0_2 l0_2.length c0_2) := (blk_cell BK614.out 2).trans rfl
      have hfz23_0 := blk_frozen BK614.out 0
      have hfz23_1 := blk_frozen BK614.out 1
      have hfz23_2 := blk_frozen BK614.out 2
      go_wp2_with (first | ((with_reducible refine gate_callee (f := 61) rfl ?_); refine goesL_ (some 25) rfl rfl Try.func61 (by kernel_rfl) rfl #[.int .i64 a0_0] rfl (by (try simp only [List.map_toArray, List.map_cons, List.map_nil]); first | done | rfl | (simp only [List.length_drop, List.length_take]; rfl)) ?_; (with_reducible refine (impl_allValues.calls a0_0 t620 _ A16.out).mono ?_); rintro e w' ⟨rfl, ⟨nd, rfl⟩⟩; refine ⟨_, rfl, ?_⟩; (try (rw [drewN_self wr]; generalize hq_ : World.drewN wr _ = wr; have n0_ : Aside0 (Kd.R (Kd.int .i64) 3 wr w.heap.size (fun _ => True) v617 x3_1) := ⟨by rw [← hq_]; exact (Kd.Yz HO_3.out)⟩; have n1_ : Aside0 (wr.heap[gb614]? = some (.cells #[.int .i64 a0_0, .slice (some ad619) l0_1.length c0_1, .slice A0_2 l0_2.length c0_2] 43 (0, 0))) := ⟨by rw [← hq_]; exact (ybz BK614.out)⟩; have n2_ : Aside0 (Below w.heap.size w wr) := ⟨by rw [← hq_]; exact (by repeat (first | (with_reducible first | exact HB.out | apply yea | apply yen | apply yed | refine below_set ?_ GE614.out) | exact HB.out))⟩; clear HO_3 BK614 HB hq_; have HO_3 := n0_; have BK614 := n1_; have HB := n2_; clear n0_ n1_ n2_)); have p18 : 0 ≤ (x16_1 : Int) := of_decide_eq_true (by first | (with_reducible assumption) | assumption); have q18 : (x16_1 : Int) < ((x3_1.length : Int) : Int) := of_decide_eq_true (by first | (with_reducible assumption) | assumption); obtain ⟨go18, co18, eo18, gb18, gl18, cl18, HG18⟩ := Kd.R_form HO_3.out (by omega); (first | cases eo18 | (injection eo18 with ea_ en_ ec_; (first | subst ea_ | (injection ea_ with ea_; subst ea_)); subst ec_; clear en_)); have GB18 := yam gb18; have GG18 := yam HG18; clear gb18 gl18 HG18; obtain ⟨hx18_0, hf18_0⟩ := Kd.R_celln 0 HO_3.out (x16_1 : Int) p18 q18; replace p18 := eq_true p18; replace q18 := eq_true q18; obtain ⟨hy24_, hz24_⟩ := Kd.R_celln 0 HO_3.out (x16_1 : Int) (of_decide_eq_true (by first | (with_reducible assumption) | assumption)) (of_decide_eq_true (by first | (with_reducible assumption) | assumption)); have HP24 := Kd.R_putg HO_3.out (x16_1 : Int) t620) | ((with_reducible refine gate_store (t := 3) (p := 26) rfl ?_); refine store_event (t := 3) (p := 26) (v := ?vo_w25) (w1 := (wr.setCell ⟨go18, (x16_1 : Int).toNat, none⟩ (.int .i64 t620))) ?hg ?ho ?hn ?hr ?_; (case ho => rfl); (case hg => rfl); (case hn => rfl); (case hr => first | (go_simp; done) | (go_simp; rfl)); intro w25 hw; have hg : wr.grownBy w25 (some go18) := (by rw [hw]; exact HP24.2); have hp_ : Kd.R (Kd.int .i64) 3 w25 w.heap.size (fun _ => True) (.slice (some ⟨go18, 0, none⟩) x3_1.length co18) y621 := (by rw [hw, Ny621.out]; exact HP24.1); clear HP24; have n0_ := yam (hp_); have n1_ := yam (blk_grown (g := gb614) (o := .cells #[.int .i64 a0_0, .slice (some ad619) l0_1.length c0_1, .slice A0_2 l0_2.length c0_2] 43 (0, 0)) (ybz BK614.out) hg (Kd.R_ne HO_3.out BK614.out (by decide))); have n2_ := yam ((by rw [hw]; exact below_set (HB.out) GB18.out : Below w.heap.size w w25)); clear HO_3; clear BK614; clear HB; have HO_3 := n0_; have BK614 := n1_; have HB := n2_; clear n0_ n1_ n2_; clear hg hw hp_; have p22 : 0 ≤ (x16_1 : Int) := of_decide_eq_true (by first | (with_reducible assumption) | assumption); have q22 : (x16_1 : Int) < ((x3_1.length : Int) : Int) := of_decide_eq_true (by first | (with_reducible assumption) | assumption); obtain ⟨hx22_0, hf22_0⟩ := Kd.R_celln 0 HO_3.out (x16_1 : Int) p22 q22; replace p22 := eq_true p22; replace q22 := eq_true q22; obtain ⟨hy26_, hz26_⟩ := Kd.R_celln 0 HO_3.out (x16_1 : Int) (of_decide_eq_true (by first | (with_reducible assumption) | assumption)) (of_decide_eq_true (by first | (with_reducible assumption) | assumption)); have HP26 := Kd.R_putg HO_3.out (x16_1 : Int) ji21) | ((with_reducible refine gate_store (t := 3) (p := 33) rfl ?_); refine store_event (t := 3) (p := 33) (v := ?vo_w27) (w1 := (w25.setCell ⟨go18, (x16_1 : Int).toNat, none⟩ (.int .i64 ji21))) ?hg ?ho ?hn ?hr ?_; (case ho => rfl); (case hg => rfl); (case hn => rfl); (case hr => first | (go_simp; done) | (go_simp; rfl)); intro w27 hw; have hg : w25.grownBy w27 (some go18) := (by rw [hw]; exact HP26.2); have hp_ : Kd.R (Kd.int .i64) 3 w27 w.heap.size (fun _ => True) (.slice (some ⟨go18, 0, none⟩) x3_1.length co18) y622 := (by rw [hw, Ny622.out]; exact HP26.1); clear HP26; have n0_ := yam (hp_); have n1_ := yam (blk_grown (g := gb614) (o := .cells #[.int .i64 a0_0, .slice (some ad619) l0_1.length c0_1, .slice A0_2 l0_2.length c0_2] 43 (0, 0)) (ybz BK614.out) hg (Kd.R_ne HO_3.out BK614.out (by decide))); have n2_ := yam ((by rw [hw]; exact below_set (HB.out) GB18.out : Below w.heap.size w w27)); clear HO_3; clear BK614; clear HB; have HO_3 := n0_; have BK614 := n1_; have HB := n2_; clear n0_ n1_ n2_; clear hg hw hp_))
      go_roundg k1
      case measure => have := HK1.out; omega
      case rel => exact ⟨(y622), (wrap64 (x16_1 + 1)), (by first | rfl | (simp; done) | (simp [*]; done)), H', ⟨by have := HK1.out; omega⟩, ⟨by (with_reducible repeat (first | apply Kd.Ya | apply Kd.Yn | apply Kd.Yd)); exact HO_3.out⟩, ⟨by (with_reducible repeat (first | refine ybn ?_ _ | refine ybd ?_ | refine yba ?_ _)); exact BK614.out⟩, ⟨by repeat (first | (with_reducible first | exact HB.out | apply yea | apply yen | apply yed | refine below_set ?_ GE614.out) | exact HB.out)⟩⟩
end Go.Proofs.Ythfbjkniinfgcaa.P
namespace Go.Proofs.Ythfbjkniinfgcaa.P
open Go.RowKit Go.Proofs.YthfbjkniinfgcaaW.PrintWords Go.Proofs.YthfbjkniinfgcaaW.PrintLast Go.Proofs.YthfbjkniinfgcaaW.PrintMore
attribute [local go_sem] max2_int min2_int max_two min_two max_three min_three max_four min_four   -- for this text's walks alone
set_option linter.unusedVariables false
set_option linter.unusedSimpArgs false

/-! ### laws_markRuleS: function 78 -/
/-- A rule's three cells. -/
theorem rule_M {W : World} {base : Nat} {ok : Nat → Prop} {x : S32} {c : List Value} (h : k32.M W base ok x c) : ∃ v, c = [.int .i64 x.f0, v, .int .i64 x.f2] ∧ Kd.R (Kd.int .i64) 3 W base ok v x.f1 := by
  obtain ⟨c0, c1, rfl, h0, c2, c3, rfl, ⟨v, rfl, hR⟩, h3⟩ := h
  obtain rfl : c0 = [.int .i64 x.f0] := h0
  obtain rfl : c3 = [.int .i64 x.f2] := h3
  exact ⟨v, rfl, hR⟩
theorem rule_M_mk {W : World} {base : Nat} {ok : Nat → Prop} (x : S32) {v : Value} (h : Kd.R (Kd.int .i64) 3 W base ok v x.f1) : k32.M W base ok x [.int .i64 x.f0, v, .int .i64 x.f2] :=
  ⟨[.int .i64 x.f0], [v, .int .i64 x.f2], rfl, rfl, [v], [.int .i64 x.f2], rfl, ⟨v, rfl, h⟩, rfl⟩
/-- A rule of a row of rules that is the call's own: its cells, its own row of cells, and what becomes of the row where a field is written. -/
theorem rule_elem {W : World} {base g n cap : Nat} {ok : Nat → Prop} {xs : List S32} (h : Kd.S k32 32 W base ok (.slice (some ⟨g, 0, none⟩) n cap) xs) (i : Int) (h0 : 0 ≤ i) (h1 : i < n) :
    ∃ (oki : Nat → Prop) (A : Option Addr) (c : Nat), W.cell? ⟨g, i.toNat * 3, none⟩ = some (.int .i64 (rd_T32 xs i).f0) ∧ W.cell? ⟨g, i.toNat * 3 + 1, none⟩ = some (.slice A (rd_T32 xs i).f1.length c) ∧ W.cell? ⟨g, i.toNat * 3 + 2, none⟩ = some (.int .i64 (rd_T32 xs i).f2) ∧ (∀ j, W.frozen? ⟨g, i.toNat * 3 + j, none⟩ = false) ∧ Kd.R (Kd.int .i64) 3 W base oki (.slice A (rd_T32 xs i).f1.length c) (rd_T32 xs i).f1 ∧ (∀ k, oki k → ok k ∧ k ≠ g) ∧
      (∀ a : Int, Kd.S k32 32 (W.setCell ⟨g, i.toNat * 3, none⟩ (.int .i64 a)) base ok (.slice (some ⟨g, 0, none⟩) n cap) (xs.set i.toNat ⟨a, (rd_T32 xs i).f1, (rd_T32 xs i).f2⟩) ∧ W.grownBy (W.setCell ⟨g, i.toNat * 3, none⟩ (.int .i64 a)) (some g)) ∧
      (∀ a : Int, Kd.S k32 32 (W.setCell ⟨g, i.toNat * 3 + 2, none⟩ (.int .i64 a)) base ok (.slice (some ⟨g, 0, none⟩) n cap) (xs.set i.toNat ⟨(rd_T32 xs i).f0, (rd_T32 xs i).f1, a⟩) ∧ W.grownBy (W.setCell ⟨g, i.toNat * 3 + 2, none⟩ (.int .i64 a)) (some g)) ∧
      (∀ (w1 : World) (ok1 : Nat → Prop) (l : List Int), Kept W w1 oki → Kd.R (Kd.int .i64) 3 w1 base ok1 (.slice A (rd_T32 xs i).f1.length c) l → Kd.S k32 32 w1 base ok (.slice (some ⟨g, 0, none⟩) n cap) (xs.set i.toNat ⟨(rd_T32 xs i).f0, l, (rd_T32 xs i).f2⟩)) := by
  have hz : rd_T32 xs i = xs.getD i.toNat z32 := rfl
  obtain ⟨oki, c, hcl, hM, hcc, hfr, hoki, hH⟩ := Kd.S_elem h z32 i h0 h1
  rw [← hz] at hM
  obtain ⟨v, rfl, hR⟩ := rule_M hM
  obtain ⟨A, cv, rfl⟩ := Kd.R_slice hR
  have hH0 : Kd.H k32 32 W base (fun k => ok k ∧ ¬ False) (.slice (some ⟨g, 0, none⟩) n cap) xs i oki [.int .i64 (rd_T32 xs i).f0, .slice A (rd_T32 xs i).f1.length cv, .int .i64 (rd_T32 xs i).f2] := Kd.H_mono hH (fun k hk => ⟨hk, id⟩)
  refine ⟨oki, A, cv, hcc 0 _ rfl, hcc 1 _ rfl, hcc 2 _ rfl, hfr, hR, hoki, fun a => ?_, fun a => ?_, fun w1 ok1 l hk hR1 => ?_⟩
  · exact Kd.S_seg (okg := fun _ => False) (okp := oki) (j := 0) (seg := [.int .i64 a]) hH0 h0 h1 (by show _ ≤ 3; simp) (rule_M_mk ⟨a, (rd_T32 xs i).f1, (rd_T32 xs i).f2⟩ hR) (fun k hk => .inl hk) (fun k hk => hk.elim)
  · exact Kd.S_seg (okg := fun _ => False) (okp := oki) (j := 2) (seg := [.int .i64 a]) hH0 h0 h1 (by show _ ≤ 3; simp) (rule_M_mk ⟨(rd_T32 xs i).f0, (rd_T32 xs i).f1, a⟩ hR) (fun k hk => .inl hk) (fun k hk => hk.elim)
  · exact Kd.H_back (Kd.H_kept hH hk (fun k _ hn => hn)) (rule_M_mk ⟨(rd_T32 xs i).f0, l, (rd_T32 xs i).f2⟩ (Kd.R_mono (Kd.R_tight rfl hR1) (fun k hk => hR.1 k hk.symm))) (fun _ hk => hk)
def laws_markRuleS.l0 : Nat → List S32 → Int → Int → Option (Int × List S32)
  | 0, _, _, _ => none
  | k + 1, x0, x1, x5 => if x5 < (x0.length : Int) then (if 0 ≤ x5 then (laws_markIntS.f k (rd_T32 x0 x5).f1 (wrap64 (x1 + 1))).bind fun t => laws_markRuleS.l0 k (x0.set x5.toNat ⟨x1, t.2, t.1⟩) (wrap64 (t.1 + 1)) (wrap64 (x5 + 1)) else none) else some (x1, x0)
def laws_markRuleS.f (k : Nat) (l0 : List S32) (a1 : Int) : Option (Int × List S32) := laws_markRuleS.l0 k l0 a1 0
theorem rd_T_set {xs : List S32} {i : Int} (h0 : 0 ≤ i) (h1 : i < (xs.length : Int)) (y : S32) : rd_T32 (xs.set i.toNat y) i = y := by
  unfold rd_T32
  rw [List.getD_eq_getElem?_getD, List.getElem?_set_self (by omega)]
  rfl
set_option maxHeartbeats 8000000 in
set_option maxRecDepth 100000 in
theorem laws_markRuleS.calls (k : Nat) (P : Nat → Prop) (A : Option Addr) (c : Nat) (l0 : List S32) (a1 : Int) (r1 : Int) (r2 : List S32) (w0 w : World) (hB : Below w0.heap.size w0 w) (ho0 : Kd.S k32 32 w w0.heap.size P (.slice A l0.length c) l0) (h : laws_markRuleS.f k l0 a1 = some (r1, r2)) :
    Calls Try.prog 78 #[.slice A l0.length c, .int .i64 a1] w fun e w' => e = .returned (.int .i64 r1) ∧ Kd.S k32 32 w' w0.heap.size P (.slice A l0.length c) r2 ∧ Below w0.heap.size w0 w' ∧ Kept w w' P := by
  have HO := Aside0.mk ho0
  have HK := Aside0.mk (Kept.refl w P)
  have HB := Aside0.mk hB
  have HA := Aside0.mk (show laws_markRuleS.l0 k l0 a1 0 = some (r1, r2) from h)
  clear hB ho0 h
  go_enter Try.func78, Try.ntmps78
  go_wp2
  go_loopg [1, 5] k (fun kq v1 v5 w' => ∃ (xs : List S32) (x1 : Int) (x5 : Int), v1 = .int .i64 x1 ∧ v5 = .int .i64 x5 ∧ Aside0 (laws_markRuleS.l0 kq xs x1 x5 = some (r1, r2)) ∧ Aside0 (xs.length = l0.length) ∧ Aside0 (Kd.S k32 32 w' w0.heap.size P (.slice A l0.length c) xs) ∧ Aside0 (Kept w w' P) ∧ Aside0 (Below w0.heap.size w0 w'))
  case atStart => exact ⟨l0, a1, 0, rfl, rfl, HA, ⟨rfl⟩, HO, HK, HB⟩
  case round =>
    clear HA HO HK HB
    obtain ⟨xs, x1, x5, rfl, rfl, HA, HL, HO, HK, HB⟩ := hrel
    cases gk with
    | zero => exact absurd HA.out (by simp [laws_markRuleS.l0])
    | succ k1 =>
      have H := HA.out
      clear HA
      simp only [laws_markRuleS.l0] at H
      by_cases c3 : x5 < (xs.length : Int)
      rotate_left
      · rw [if_neg c3] at H
        have c3b0 : decide (x5 < (l0.length : Int)) = false := decide_eq_false (by rw [← HL.out]; exact c3)
        clear c3
        simp only [Option.some.injEq, Prod.mk.injEq] at H
        obtain ⟨rfl, rfl⟩ := H
        go_wp2
        go_ret
        exact ⟨rfl, HO.out, HB.out, HK.out⟩
      rw [if_pos c3] at H
      by_cases c4 : 0 ≤ x5
      rotate_left
      · rw [if_neg c4] at H
        exact absurd H (by simp)
      rw [if_pos c4] at H
      obtain ⟨⟨t1, t2⟩, hM, H2⟩ := Option.bind_eq_some_iff.1 H
      have HM := Aside0.mk hM
      have HA := Aside0.mk H2
      clear hM H H2
      have hlt : x5 < ((l0.length : Nat) : Int) := by rw [← HL.out]; exact c3
      have HC3 := Aside0.mk c3
      clear c3
      have c3b0 : decide (x5 < (l0.length : Int)) = true := decide_eq_true hlt
      have c4b0 : decide (0 ≤ x5) = true := decide_eq_true c4
      obtain ⟨g, cap, eA, gb, gl, gc_⟩ := Kd.R_form (Kd.S_R HO.out) (by have := HL.out; omega)
      injection eA with eA1 eA2 eA3
      subst eA1
      clear eA2 eA3
      have GB := Aside0.mk gb
      clear gb gl gc_
      obtain ⟨oki0, Ai0, ci0, hx0, hx1_, hx2_, hfr, hr_, hk_, hset0, hs1_, hs2_⟩ := rule_elem HO.out x5 c4 hlt
      clear hx1_ hx2_ hr_ hk_ hs1_ hs2_
      have hf0 := hfr 0
      clear hfr
      rw [Nat.add_zero] at hf0
      have HPG := Aside0.mk ((Kd.S_R HO.out).1 g rfl)
      have HSET := Aside0.mk (hset0 x1)
      clear hset0
      have p4 := eq_true c4
      have p3 := eq_true hlt
      have C4 := Aside0.mk c4
      have HLT := Aside0.mk hlt
      clear c4 hlt
      go_wp2_with (first
        | ((with_reducible refine gate_store (t := 3) (p := 16) rfl ?_); refine store_event (t := 3) (p := 16) (v := ?vo1) (w1 := wr.setCell ⟨g, x5.toNat * 3, none⟩ (.int .i64 x1)) ?hg ?ho ?hn ?hr ?_; (case ho => rfl); (case hg => rfl); (case hn => rfl); (case hr => first | (go_simp; done) | (go_simp; rfl)); intro w8 hw; have hs := HSET.out; rw [← hw] at hs; have hb8 : Below w0.heap.size w0 w8 := (by rw [hw]; exact below_set HB.out GB.out); have hk8 : Kept w w8 P := Kept.of_grown hs.2 HK.out (fun k_ e_ => .inl (by injection e_ with e_; rw [← e_]; exact HPG.out)); have hl8 : x5 < (((xs.set x5.toNat ⟨x1, (rd_T32 xs x5).f1, (rd_T32 xs x5).f2⟩ : List S32).length : Nat) : Int) := (by rw [List.length_set]; exact HC3.out); obtain ⟨oki, Ai, ci, hx0_, hx1, hx2_, hfr_, hRi, hoki, hs1_, hs2_, hback⟩ := rule_elem hs.1 x5 C4.out HLT.out; clear hx0_ hx2_ hfr_ hs1_ hs2_; rw [rd_T_set C4.out HC3.out] at hx1 hRi hback; simp only [List.set_set] at hback; have HR := Aside0.mk hRi; have HOK := Aside0.mk hoki; have HBK := Aside0.mk hback; have HB8 := Aside0.mk hb8; have HK8 := Aside0.mk hk8; clear hs hb8 hk8 hl8 hRi hoki hback hw hx0 hf0 HSET HB HK HO)
        | ((with_reducible refine gate_callee (f := 38) rfl ?_); refine goesL_ (some 25) rfl rfl Try.func38 (by kernel_rfl) rfl #[.slice Ai (rd_T32 xs x5).f1.length ci, .int .i64 (wrap64 (x1 + 1))] rfl (by (try simp only [List.map_toArray, List.map_cons, List.map_nil]); first | done | rfl) ?_; (with_reducible refine (laws_markIntS.calls k1 oki _ (rd_T32 xs x5).f1 (wrap64 (x1 + 1)) t1 t2 w0 w8 HB8.out HR.out HM.out).mono ?_); rintro e w9 ⟨rfl, hR9, hb9, hk9⟩; refine ⟨_, rfl, ?_⟩; have hs9 := HBK.out w9 _ t2 hk9 hR9; have HK9 := Aside0.mk (Kept.then_ HK8.out hk9 (fun k_ h_ => .inl (HOK.out k_ h_).1)); obtain ⟨oki9, Ai9, ci9, hx0_, hx1_, hx2, hfr2, hr_, hk_, hs1_, hset2, hs2_⟩ := rule_elem hs9 x5 C4.out HLT.out; clear hx0_ hx1_ hr_ hk_ hs1_ hs2_; have hf2 := hfr2 2; clear hfr2; have HSET := Aside0.mk (hset2 t1); clear hset2; rw [rd_T_set C4.out HC3.out] at HSET; simp only [List.set_set] at HSET; have HB9 := Aside0.mk hb9; clear hs9 hR9 hb9 hk9 HBK HR HOK HB8 HK8 hx1)
        | ((with_reducible refine gate_store (t := 3) (p := 30) rfl ?_); refine store_event (t := 3) (p := 30) (v := ?vo2) (w1 := w9.setCell ⟨g, x5.toNat * 3 + 2, none⟩ (.int .i64 t1)) ?hg ?ho ?hn ?hr ?_; (case ho => rfl); (case hg => rfl); (case hn => rfl); (case hr => first | (go_simp; done) | (go_simp; rfl)); intro w10 hw; have hs := HSET.out; rw [← hw] at hs; have HB10 : Aside0 (Below w0.heap.size w0 w10) := ⟨by rw [hw]; exact below_set HB9.out GB.out⟩; have HK10 := Aside0.mk (Kept.of_grown hs.2 HK9.out (fun k_ e_ => .inl (by injection e_ with e_; rw [← e_]; exact HPG.out))); have HO10 := Aside0.mk hs.1; clear hs hw hx2 hf2 HSET HB9 HK9))
      go_roundg k1
      case measure => omega
      case rel => exact ⟨_, wrap64 (t1 + 1), wrap64 (x5 + 1), rfl, rfl, HA, ⟨by rw [List.length_set]; exact HL.out⟩, HO10, HK10, HB10⟩

end Go.Proofs.Ythfbjkniinfgcaa.P
namespace Go.Proofs.Ythfbjkniinfgcaa.P
open Go.RowKit Go.Proofs.YthfbjkniinfgcaaW.PrintWords Go.Proofs.YthfbjkniinfgcaaW.PrintLast Go.Proofs.YthfbjkniinfgcaaW.PrintMore
attribute [local go_sem] max2_int min2_int max_two min_two max_three min_three max_four min_four   -- for this text's walks alone
set_option linter.unusedVariables false
set_option linter.unusedSimpArgs false

/-! ### laws_markPuzzle: function 42 -/
def laws_markPuzzle.f (k : Nat) (_a0_0 : Int) (l0_1 : List Int) (l0_2 : List S32) (a1 : Int) : Option (Int × List Int × List S32) := (laws_markIntS.f k l0_1 a1).bind fun t => (laws_markRuleS.f k l0_2 t.1).bind fun u => some (u.1, t.2, u.2)
set_option maxHeartbeats 8000000 in
set_option maxRecDepth 100000 in
theorem laws_markPuzzle.calls (k : Nat) (a0_0 : Int) (P Q : Nat → Prop) (A0_1 : Option Addr) (c0_1 : Nat) (l0_1 : List Int) (A0_2 : Option Addr) (c0_2 : Nat) (l0_2 : List S32) (a1 : Int) (r1 : Int) (r2 : List Int) (r3 : List S32) (w0 w : World) (hB : Below w0.heap.size w0 w) (hPQ : ∀ k_, P k_ → ¬ Q k_) (ho1 : Kd.R (Kd.int .i64) 3 w w0.heap.size P (.slice A0_1 l0_1.length c0_1) l0_1) (ho2 : Kd.S k32 32 w w0.heap.size Q (.slice A0_2 l0_2.length c0_2) l0_2) (h : laws_markPuzzle.f k a0_0 l0_1 l0_2 a1 = some (r1, r2, r3)) :
    Calls Try.prog 42 #[.agg #[.int .i64 a0_0, .slice A0_1 l0_1.length c0_1, .slice A0_2 l0_2.length c0_2], .int .i64 a1] w fun e w' => e = .returned (.int .i64 r1) ∧ Kd.R (Kd.int .i64) 3 w' w0.heap.size P (.slice A0_1 l0_1.length c0_1) r2 ∧ Kd.S k32 32 w' w0.heap.size Q (.slice A0_2 l0_2.length c0_2) r3 ∧ Below w0.heap.size w0 w' ∧ Kept w w' (fun k_ => P k_ ∨ Q k_) := by
  unfold laws_markPuzzle.f at h
  obtain ⟨⟨t1, t2⟩, hM, h2⟩ := Option.bind_eq_some_iff.1 h
  obtain ⟨⟨u1, u2⟩, hN, h3⟩ := Option.bind_eq_some_iff.1 h2
  simp only [Option.some.injEq, Prod.mk.injEq] at h3
  obtain ⟨rfl, rfl, rfl⟩ := h3
  have HM := Aside0.mk hM
  have HN := Aside0.mk hN
  have HPQ := Aside0.mk hPQ
  have HP := Aside0.mk ho1.1
  have HO1 := Aside0.mk ho1
  have HO2 := Aside0.mk ho2
  have HB := Aside0.mk hB
  clear h h2 hM hN hPQ ho1 ho2 hB
  go_enter Try.func42, Try.ntmps42
  go_wp2_with (first
    | ((with_reducible refine gate_dst (N := 2) rfl ?_); refine box_event ?hg (N := 2) ?hd (cs := #[.int .i64 a0_0, .slice A0_1 l0_1.length c0_1, .slice A0_2 l0_2.length c0_2]) (t := 43) ?hr ?_; (case hd => rfl); (case hg => rfl); (case hr => first | (go_simp; done) | (go_simp; rfl)); intro gb hg w3 hbox hb; have HBX := Aside0.mk hbox; have HGB := Aside0.mk hg; have hcz1 : w3.cell? ⟨gb, 1, none⟩ = some (.slice A0_1 l0_1.length c0_1) := (blk_cell hbox 1).trans rfl; have hcz2 : w3.cell? ⟨gb, 2, none⟩ = some (.slice A0_2 l0_2.length c0_2) := (blk_cell hbox 2).trans rfl; have HO1_ := Aside0.mk (Kd.R_below HO1.out hb); have HO2_ := Aside0.mk (Kd.S_below HO2.out hb); have HB_ := Aside0.mk (below_step HB.out hb); have HK := Aside0.mk (Kept.of_below hb (fun k_ => P k_ ∨ Q k_)); have HL1 := Aside0.mk (Kd.R_lt HO1.out); have HL2 := Aside0.mk (Kd.S_bound HO2.out); clear HO1 HO2 HB hg hbox hb)
    | ((with_reducible refine gate_callee (f := 38) rfl ?_); refine goesL_ (some 8) rfl rfl Try.func38 (by kernel_rfl) rfl #[.slice A0_1 l0_1.length c0_1, .int .i64 a1] rfl (by (try simp only [List.map_toArray, List.map_cons, List.map_nil]); first | done | rfl) ?_; (with_reducible refine (laws_markIntS.calls k (fun k_ => some k_ = (Value.slice A0_1 l0_1.length c0_1).ownBlock) _ l0_1 a1 t1 t2 w0 w3 HB_.out (Kd.R_tight rfl HO1_.out) HM.out).mono ?_); rintro e w4 ⟨rfl, hR4, hb4, hk4⟩; refine ⟨_, rfl, ?_⟩; have hne : gb ≠ gb ∨ ¬ some gb = (Value.slice A0_1 l0_1.length c0_1).ownBlock := .inr (fun e_ => by have := HL1.out gb e_.symm; have := HGB.out; omega); have hbx4 := blk_kept HBX.out hk4 (hne.resolve_left (fun h_ => h_ rfl)); have hcz2 : w4.cell? ⟨gb, 2, none⟩ = some (.slice A0_2 l0_2.length c0_2) := (blk_cell hbx4 2).trans rfl; have HR4 := Aside0.mk (Kd.R_tight rfl hR4); have HS4 := Aside0.mk (Kd.S_kept HO2_.out hk4 (fun k_ hq_ hp_ => HPQ.out k_ (HP.out k_ hp_.symm) hq_)); have HB4 := Aside0.mk hb4; have HK4 := Aside0.mk (Kept.then_ HK.out hk4 (fun k_ h_ => .inl (.inl (HP.out k_ h_.symm)))); clear hne hbx4 hR4 hb4 hk4 HK HB_ HO1_ HO2_ HBX HGB HL1 HL2 hcz1)
    | ((with_reducible refine gate_callee (f := 78) rfl ?_); refine goesL_ (some 12) rfl rfl Try.func78 (by kernel_rfl) rfl #[.slice A0_2 l0_2.length c0_2, .int .i64 t1] rfl (by (try simp only [List.map_toArray, List.map_cons, List.map_nil]); first | done | rfl) ?_; (with_reducible refine (laws_markRuleS.calls k Q A0_2 c0_2 l0_2 t1 u1 u2 w0 w4 HB4.out HS4.out HN.out).mono ?_); rintro e w5 ⟨rfl, hS5, hb5, hk5⟩; refine ⟨_, rfl, ?_⟩; have HR5 := Aside0.mk (Kd.R_kept HR4.out hk5 (fun k_ hp_ hq_ => HPQ.out k_ (HP.out k_ hp_.symm) hq_)); have HS5 := Aside0.mk hS5; have HB5 := Aside0.mk hb5; have HK5 := Aside0.mk (Kept.then_ HK4.out hk5 (fun k_ h_ => .inl (.inr h_))); clear hS5 hb5 hk5 HR4 HS4 HB4 HK4 hcz2))
  go_ret
  exact ⟨rfl, Kd.R_mono HR5.out (fun k_ h_ => HP.out k_ h_.symm), HS5.out, HB5.out, HK5.out⟩

end Go.Proofs.Ythfbjkniinfgcaa.P
namespace Go.Proofs.Ythfbjkniinfgcaa.P
open Go.RowKit Go.Proofs.YthfbjkniinfgcaaW.PrintWords Go.Proofs.YthfbjkniinfgcaaW.PrintLast Go.Proofs.YthfbjkniinfgcaaW.PrintMore
attribute [local go_sem] max2_int min2_int max_two min_two max_three min_three max_four min_four   -- for this text's walks alone
set_option linter.unusedVariables false
set_option linter.unusedSimpArgs false

/-! ### laws_FnExactStartMasks: function 7 -/
def laws_FnExactStartMasks.f (k : Nat) (a0_0 : Int) (l0_1 : List Int) (l0_2 : List S47) : Option Bool := (laws_szPuzzle.f k a0_0 l0_1 l0_2 1048576).bind fun u79 => if u79 < 0 then some true else (laws_toPuzzle.f k a0_0 l0_1 l0_2).bind fun u80 => (spec_StartMasks.f k u80.1 u80.2.1 u80.2.2).bind fun u81 => (laws_toPuzzle.f k a0_0 l0_1 l0_2).bind fun u82 => (impl_StartMasks.f k u82.1 u82.2.1 u82.2.2).bind fun u83 => (laws_eqIntS.f k u83 u81).bind fun u84 => if u84 = true then (laws_toPuzzle.f k a0_0 l0_1 l0_2).bind fun u85 => (laws_eqPuzzle.f k u82.1 u82.2.1 u82.2.2 u85.1 u85.2.1 u85.2.2).bind fun u86 => if u86 = true then (laws_markPuzzle.f k u82.1 u82.2.1 u82.2.2 1).bind fun u87 => if u87.1 < 0 then some false else (laws_eqIntS.f k u83 u81).bind fun u88 => if u88 = true then (laws_markIntS.f k u83 1).bind fun u89 => (laws_heldIntS.f k u89.2 1).bind fun u90 => if u90 < 0 then some false else if (u90 != u89.1) = true then some false else (laws_toPuzzle.f k a0_0 l0_1 l0_2).bind fun u91 => (impl_StartMasks.f k u91.1 u91.2.1 u91.2.2).bind fun u92 => (laws_eqIntS.f k u92 u81).bind fun u93 => if u93 = true then (laws_heldIntS.f k u89.2 1).bind fun u94 => if u94 < 0 then some false else if (u94 != u89.1) = true then some false else some true else some false else some false else some false else some false
set_option maxHeartbeats 8000000 in
set_option maxRecDepth 100000 in
theorem laws_FnExactStartMasks.calls (k : Nat) (a0_0 : Int) (A0_1 : Option Addr) (c0_1 : Nat) (l0_1 : List Int) (A0_2 : Option Addr) (c0_2 : Nat) (l0_2 : List S47) (_r : Bool) (w : World) (hr0_1 : Kd.C (Kd.int .i64) w A0_1 l0_1.length l0_1) (hc0_1 : l0_1.length ≤ c0_1) (hr0_2 : Kd.C k47 w A0_2 l0_2.length l0_2) (hc0_2 : l0_2.length ≤ c0_2) (h : laws_FnExactStartMasks.f k a0_0 l0_1 l0_2 = some true) :
    Calls Try.prog 7 #[.agg #[.int .i64 a0_0, .slice A0_1 l0_1.length c0_1, .slice A0_2 l0_2.length c0_2]] w fun e w' => e = .returned (.bool true) ∧ Below w.heap.size w w' := by
  have HR0_1 := Aside0.mk hr0_1
  have HC0_1 := Aside0.mk hc0_1
  clear hr0_1 hc0_1
  have HR0_2 := Aside0.mk hr0_2
  have HC0_2 := Aside0.mk hc0_2
  clear hr0_2 hc0_2
  have HB := Aside0.mk (Below.refl w.heap.size w)
  unfold laws_FnExactStartMasks.f at h
  replace h := Option.bind_eq_some_iff.1 h
  obtain ⟨t3, e_, h⟩ := h
  try dsimp only at h
  have E2 := Aside0.mk e_
  clear e_
  by_cases q1 : t3 < 0
  · clear h
    have b1 := decide_eq_true q1
    clear q1
    go_enter Try.func7, Try.ntmps7
    go_wp2_with (first
      | ((with_reducible refine gate_dst (N := 1) rfl ?_); refine box_event ?hg (N := 1) ?hd (cs := #[.int .i64 a0_0, .slice A0_1 l0_1.length c0_1, .slice A0_2 l0_2.length c0_2]) (t := 38) ?hr ?_; (case hd => rfl); (case hg => rfl); (case hr => first | (go_simp; done) | (go_simp; rfl)); intro g1 hg w1_ hbox hb; have Bg1 := Aside0.mk hbox; have Gg1 := Aside0.mk (show w.heap.size ≤ g1 ∧ g1 < w1_.heap.size from ⟨Nat.le_of_eq hg.symm, blk_lt hbox⟩); have Zw1_ := Aside0.mk hb.size; replace HB := Aside0.mk (below_step HB.out hb); have hzg1_0 : w1_.cell? ⟨g1, 0, none⟩ = some (.int .i64 a0_0) := (blk_cell Bg1.out 0).trans rfl; have hzg1_1 : w1_.cell? ⟨g1, 1, none⟩ = some (.slice A0_1 l0_1.length c0_1) := (blk_cell Bg1.out 1).trans rfl; have hzg1_2 : w1_.cell? ⟨g1, 2, none⟩ = some (.slice A0_2 l0_2.length c0_2) := (blk_cell Bg1.out 2).trans rfl; clear hb hbox hg)
      | ((with_reducible refine gate_callee (f := 25) rfl ?_); refine goesL_ (some 13) rfl rfl Try.func25 (by kernel_rfl) rfl #[.agg #[.int .i64 a0_0, .slice A0_1 l0_1.length c0_1, .slice A0_2 l0_2.length c0_2], .int .i64 1048576] rfl (by (try simp only [List.map_toArray, List.map_cons, List.map_nil]); first | done | rfl) ?_; (with_reducible refine (laws_szPuzzle.calls k a0_0 _ _ l0_1 _ _ l0_2 1048576 t3 _ (Kd.C_below HR0_1.out HB.out) HC0_1.out (Kd.C_below HR0_2.out HB.out) HC0_2.out E2.out).mono ?_); rintro e w2_ ⟨rfl, hb⟩; refine ⟨_, rfl, ?_⟩; clear Bg1; have Zw2_ := Aside0.mk hb.size; replace HB := Aside0.mk (below_step HB.out hb); clear hb; clear hzg1_0; clear hzg1_1; clear hzg1_2; skip))
    go_ret
    exact ⟨rfl, HB.out⟩
  rw [if_neg q1] at h
  have b1 := decide_eq_false q1
  clear q1
  replace h := Option.bind_eq_some_iff.1 h
  obtain ⟨⟨t5, t6, t10⟩, e_, h⟩ := h
  try dsimp only at h
  have E4 := Aside0.mk e_
  clear e_
  replace h := Option.bind_eq_some_iff.1 h
  obtain ⟨t15, e_, h⟩ := h
  try dsimp only at h
  have E14 := Aside0.mk e_
  clear e_
  replace h := Option.bind_eq_some_iff.1 h
  obtain ⟨⟨t20, t21, t25⟩, e_, h⟩ := h
  try dsimp only at h
  have E19 := Aside0.mk e_
  clear e_
  replace h := Option.bind_eq_some_iff.1 h
  obtain ⟨t31, e_, h⟩ := h
  try dsimp only at h
  have E30 := Aside0.mk e_
  clear e_
  replace h := Option.bind_eq_some_iff.1 h
  obtain ⟨t36, e_, h⟩ := h
  try dsimp only at h
  have E35 := Aside0.mk e_
  clear e_
  by_cases q2 : t36 = true
  rotate_left
  · rw [if_neg q2] at h
    exact absurd h (by decide)
  rw [if_pos q2] at h
  subst q2
  replace h := Option.bind_eq_some_iff.1 h
  obtain ⟨⟨t38, t39, t43⟩, e_, h⟩ := h
  try dsimp only at h
  have E37 := Aside0.mk e_
  clear e_
  replace h := Option.bind_eq_some_iff.1 h
  obtain ⟨t48, e_, h⟩ := h
  try dsimp only at h
  have E47 := Aside0.mk e_
  clear e_
  by_cases q3 : t48 = true
  rotate_left
  · rw [if_neg q3] at h
    exact absurd h (by decide)
  rw [if_pos q3] at h
  subst q3
  replace h := Option.bind_eq_some_iff.1 h
  obtain ⟨⟨t50, t51, t52⟩, e_, h⟩ := h
  try dsimp only at h
  have E49 := Aside0.mk e_
  clear e_
  by_cases q4 : t50 < 0
  · rw [if_pos q4] at h
    exact absurd h (by decide)
  rw [if_neg q4] at h
  have b4 := decide_eq_false q4
  clear q4
  replace h := Option.bind_eq_some_iff.1 h
  obtain ⟨t54, e_, h⟩ := h
  try dsimp only at h
  have E53 := Aside0.mk e_
  clear e_
  by_cases q5 : t54 = true
  rotate_left
  · rw [if_neg q5] at h
    exact absurd h (by decide)
  rw [if_pos q5] at h
  subst q5
  replace h := Option.bind_eq_some_iff.1 h
  obtain ⟨⟨t56, t57⟩, e_, h⟩ := h
  try dsimp only at h
  have E55 := Aside0.mk e_
  clear e_
  replace h := Option.bind_eq_some_iff.1 h
  obtain ⟨t59, e_, h⟩ := h
  try dsimp only at h
  have E58 := Aside0.mk e_
  clear e_
  by_cases q6 : t59 < 0
  · rw [if_pos q6] at h
    exact absurd h (by decide)
  rw [if_neg q6] at h
  have b6 := decide_eq_false q6
  clear q6
  by_cases q7 : (t59 != t56) = true
  · rw [if_pos q7] at h
    exact absurd h (by decide)
  rw [if_neg q7] at h
  have b7 : (t59 != t56) = false := by simpa using q7
  have bb7 : t59 = t56 := by simpa using q7
  clear q7
  have bc7 := Aside0.mk bb7
  clear bb7
  replace h := Option.bind_eq_some_iff.1 h
  obtain ⟨⟨t61, t62, t66⟩, e_, h⟩ := h
  try dsimp only at h
  have E60 := Aside0.mk e_
  clear e_
  replace h := Option.bind_eq_some_iff.1 h
  obtain ⟨t71, e_, h⟩ := h
  try dsimp only at h
  have E70 := Aside0.mk e_
  clear e_
  replace h := Option.bind_eq_some_iff.1 h
  obtain ⟨t76, e_, h⟩ := h
  try dsimp only at h
  have E75 := Aside0.mk e_
  clear e_
  by_cases q8 : t76 = true
  rotate_left
  · rw [if_neg q8] at h
    exact absurd h (by decide)
  rw [if_pos q8] at h
  subst q8
  replace h := Option.bind_eq_some_iff.1 h
  obtain ⟨t78, e_, h⟩ := h
  try dsimp only at h
  have E77 := Aside0.mk e_
  clear e_
  by_cases q9 : t78 < 0
  · rw [if_pos q9] at h
    exact absurd h (by decide)
  rw [if_neg q9] at h
  have b9 := decide_eq_false q9
  clear q9
  by_cases q10 : (t78 != t56) = true
  · rw [if_pos q10] at h
    exact absurd h (by decide)
  rw [if_neg q10] at h
  have b10 : (t78 != t56) = false := by simpa using q10
  have bb10 : t78 = t56 := by simpa using q10
  clear q10
  have bc10 := Aside0.mk bb10
  clear bb10
  clear h
  go_enter Try.func7, Try.ntmps7
  go_wp2_with (first
    | ((with_reducible refine gate_dst (N := 1) rfl ?_); refine box_event ?hg (N := 1) ?hd (cs := #[.int .i64 a0_0, .slice A0_1 l0_1.length c0_1, .slice A0_2 l0_2.length c0_2]) (t := 38) ?hr ?_; (case hd => rfl); (case hg => rfl); (case hr => first | (go_simp; done) | (go_simp; rfl)); intro g1 hg w1_ hbox hb; have Bg1 := Aside0.mk hbox; have Gg1 := Aside0.mk (show w.heap.size ≤ g1 ∧ g1 < w1_.heap.size from ⟨Nat.le_of_eq hg.symm, blk_lt hbox⟩); have Zw1_ := Aside0.mk hb.size; replace HB := Aside0.mk (below_step HB.out hb); have hzg1_0 : w1_.cell? ⟨g1, 0, none⟩ = some (.int .i64 a0_0) := (blk_cell Bg1.out 0).trans rfl; have hzg1_1 : w1_.cell? ⟨g1, 1, none⟩ = some (.slice A0_1 l0_1.length c0_1) := (blk_cell Bg1.out 1).trans rfl; have hzg1_2 : w1_.cell? ⟨g1, 2, none⟩ = some (.slice A0_2 l0_2.length c0_2) := (blk_cell Bg1.out 2).trans rfl; clear hb hbox hg)
    | ((with_reducible refine gate_callee (f := 25) rfl ?_); refine goesL_ (some 13) rfl rfl Try.func25 (by kernel_rfl) rfl #[.agg #[.int .i64 a0_0, .slice A0_1 l0_1.length c0_1, .slice A0_2 l0_2.length c0_2], .int .i64 1048576] rfl (by (try simp only [List.map_toArray, List.map_cons, List.map_nil]); first | done | rfl) ?_; (with_reducible refine (laws_szPuzzle.calls k a0_0 _ _ l0_1 _ _ l0_2 1048576 t3 _ (Kd.C_below HR0_1.out HB.out) HC0_1.out (Kd.C_below HR0_2.out HB.out) HC0_2.out E2.out).mono ?_); rintro e w2_ ⟨rfl, hb⟩; refine ⟨_, rfl, ?_⟩; replace Bg1 := Aside0.mk (blk_below Bg1.out hb); have Zw2_ := Aside0.mk hb.size; replace HB := Aside0.mk (below_step HB.out hb); clear hb; clear hzg1_0; clear hzg1_1; clear hzg1_2; have hzg1_0 : w2_.cell? ⟨g1, 0, none⟩ = some (.int .i64 a0_0) := (blk_cell Bg1.out 0).trans rfl; have hzg1_1 : w2_.cell? ⟨g1, 1, none⟩ = some (.slice A0_1 l0_1.length c0_1) := (blk_cell Bg1.out 1).trans rfl; have hzg1_2 : w2_.cell? ⟨g1, 2, none⟩ = some (.slice A0_2 l0_2.length c0_2) := (blk_cell Bg1.out 2).trans rfl; skip)
    | ((with_reducible refine gate_callee (f := 27) rfl ?_); refine goesL_ (some 17) rfl rfl Try.func27 (by kernel_rfl) rfl #[.agg #[.int .i64 a0_0, .slice A0_1 l0_1.length c0_1, .slice A0_2 l0_2.length c0_2]] rfl (by (try simp only [List.map_toArray, List.map_cons, List.map_nil]); first | done | rfl) ?_; (with_reducible refine (laws_toPuzzle.calls k a0_0 _ _ l0_1 _ _ l0_2 t5 t6 t10 _ (Kd.C_below HR0_1.out HB.out) HC0_1.out (Kd.C_below HR0_2.out HB.out) HC0_2.out E4.out).mono ?_); rintro e w3_ ⟨v0_, v1_, rfl, ho0_, ho1_, hb⟩; refine ⟨_, rfl, ?_⟩; replace Bg1 := Aside0.mk (blk_below Bg1.out hb); have O7 := Aside0.mk (Kd.R_born ho0_ (below_size HB.out)); obtain ⟨A8, c9, e_⟩ := Kd.R_slice O7.out; subst e_; have O11 := Aside0.mk (Kd.S_born ho1_ (below_size HB.out)); obtain ⟨A12, c13, e_⟩ := Kd.S_slice O11.out; subst e_; have Zw3_ := Aside0.mk hb.size; replace HB := Aside0.mk (below_step HB.out hb); clear hb ho0_ ho1_; clear hzg1_0; clear hzg1_1; clear hzg1_2; have hzg1_0 : w3_.cell? ⟨g1, 0, none⟩ = some (.int .i64 a0_0) := (blk_cell Bg1.out 0).trans rfl; have hzg1_1 : w3_.cell? ⟨g1, 1, none⟩ = some (.slice A0_1 l0_1.length c0_1) := (blk_cell Bg1.out 1).trans rfl; have hzg1_2 : w3_.cell? ⟨g1, 2, none⟩ = some (.slice A0_2 l0_2.length c0_2) := (blk_cell Bg1.out 2).trans rfl; skip)
    | ((with_reducible refine gate_callee (f := 40) rfl ?_); refine goesL_ (some 18) rfl rfl Try.func40 (by kernel_rfl) rfl #[.agg #[.int .i64 t5, .slice A8 t6.length c9, .slice A12 t10.length c13]] rfl (by (try simp only [List.map_toArray, List.map_cons, List.map_nil]); first | done | rfl) ?_; (with_reducible refine (spec_StartMasks.calls k t5 _ _ t6 _ _ t10 t15 _ (Kd.R_reads' O7.out).2.2 (Kd.R_reads' O7.out).2.1 (Kd.R_reads' (Kd.S_R O11.out)).2.2 (Kd.R_reads' (Kd.S_R O11.out)).2.1 E14.out).mono ?_); rintro e w4_ ⟨v0_, rfl, ho0_, hb⟩; refine ⟨_, rfl, ?_⟩; replace Bg1 := Aside0.mk (blk_below Bg1.out hb); clear O7; clear O11; have O16 := Aside0.mk (Kd.R_born ho0_ (below_size HB.out)); obtain ⟨A17, c18, e_⟩ := Kd.R_slice O16.out; subst e_; have Zw4_ := Aside0.mk hb.size; replace HB := Aside0.mk (below_step HB.out hb); clear hb ho0_; clear hzg1_0; clear hzg1_1; clear hzg1_2; have hzg1_0 : w4_.cell? ⟨g1, 0, none⟩ = some (.int .i64 a0_0) := (blk_cell Bg1.out 0).trans rfl; have hzg1_1 : w4_.cell? ⟨g1, 1, none⟩ = some (.slice A0_1 l0_1.length c0_1) := (blk_cell Bg1.out 1).trans rfl; have hzg1_2 : w4_.cell? ⟨g1, 2, none⟩ = some (.slice A0_2 l0_2.length c0_2) := (blk_cell Bg1.out 2).trans rfl; skip)
    | ((with_reducible refine gate_callee (f := 27) rfl ?_); refine goesL_ (some 20) rfl rfl Try.func27 (by kernel_rfl) rfl #[.agg #[.int .i64 a0_0, .slice A0_1 l0_1.length c0_1, .slice A0_2 l0_2.length c0_2]] rfl (by (try simp only [List.map_toArray, List.map_cons, List.map_nil]); first | done | rfl) ?_; (with_reducible refine (laws_toPuzzle.calls k a0_0 _ _ l0_1 _ _ l0_2 t20 t21 t25 _ (Kd.C_below HR0_1.out HB.out) HC0_1.out (Kd.C_below HR0_2.out HB.out) HC0_2.out E19.out).mono ?_); rintro e w5_ ⟨v0_, v1_, rfl, ho0_, ho1_, hb⟩; refine ⟨_, rfl, ?_⟩; replace O16 := Aside0.mk (Kd.R_below O16.out hb); replace Bg1 := Aside0.mk (blk_below Bg1.out hb); have O22 := Aside0.mk (Kd.R_born ho0_ (below_size HB.out)); obtain ⟨A23, c24, e_⟩ := Kd.R_slice O22.out; subst e_; have O26 := Aside0.mk (Kd.S_born ho1_ (below_size HB.out)); obtain ⟨A27, c28, e_⟩ := Kd.S_slice O26.out; subst e_; have Zw5_ := Aside0.mk hb.size; replace HB := Aside0.mk (below_step HB.out hb); clear hb ho0_ ho1_; clear hzg1_0; clear hzg1_1; clear hzg1_2; skip)
    | ((with_reducible refine gate_dst (N := 5) rfl ?_); refine box_event ?hg (N := 5) ?hd (cs := #[.int .i64 0, .slice none 0 0, .slice none 0 0]) (t := 43) ?hr ?_; (case hd => rfl); (case hg => rfl); (case hr => first | (go_simp; done) | (go_simp; rfl)); intro g29 hg w6_ hbox hb; replace O16 := Aside0.mk (Kd.R_below O16.out hb); replace O22 := Aside0.mk (Kd.R_below O22.out hb); replace O26 := Aside0.mk (Kd.S_below O26.out hb); replace Bg1 := Aside0.mk (blk_below Bg1.out hb); have Bg29 := Aside0.mk hbox; have Gg29 := Aside0.mk (show w5_.heap.size ≤ g29 ∧ g29 < w6_.heap.size from ⟨Nat.le_of_eq hg.symm, blk_lt hbox⟩); have Zw6_ := Aside0.mk hb.size; have Lg29 := Aside0.mk (show w.heap.size ≤ g29 from Nat.le_trans (below_size HB.out) (Nat.le_of_eq hg.symm)); replace HB := Aside0.mk (below_step HB.out hb); have hzg29_0 : w6_.cell? ⟨g29, 0, none⟩ = some (.int .i64 0) := (blk_cell Bg29.out 0).trans rfl; have hzg29_1 : w6_.cell? ⟨g29, 1, none⟩ = some (.slice none 0 0) := (blk_cell Bg29.out 1).trans rfl; have hzg29_2 : w6_.cell? ⟨g29, 2, none⟩ = some (.slice none 0 0) := (blk_cell Bg29.out 2).trans rfl; have hzfg29_0 := blk_frozen Bg29.out 0; have hzfg29_1 := blk_frozen Bg29.out 1; have hzfg29_2 := blk_frozen Bg29.out 2; clear hb hbox hg)
    | ((with_reducible refine gate_store (t := 43) (p := 5) rfl ?_); refine store_event (t := 43) (p := 5) (v := ?vog29) (w1 := ((w6_.setCell ⟨g29, 0, none⟩ (.int .i64 t20)).setCell ⟨g29, 1, none⟩ (.slice A23 t21.length c24)).setCell ⟨g29, 2, none⟩ (.slice A27 t25.length c28)) ?hg ?ho ?hn ?hr ?_; (case ho => rfl); (case hg => rfl); (case hn => rfl); (case hr => first | (go_simp; done) | (go_simp; rfl)); intro w7_ hw; have hk : Kept w6_ w7_ (fun k_ => k_ = g29) := (by rw [hw]; exact box3_kept _ _ _ _ _); have hx : w7_.heap[g29]? = some (.cells #[.int .i64 t20, .slice A23 t21.length c24, .slice A27 t25.length c28] 43 (0, 0)) := (by rw [hw]; exact box3_blk Bg29.out _ _ _); have hb : Below w.heap.size w w7_ := (by rw [hw]; exact box3_below HB.out Lg29.out _ _ _); clear hw; replace O16 := Aside0.mk (Kd.R_kept O16.out hk (fun k_ h_ s_ => by have hx_ := Gg29.out; have hy_ := h_.1; have hz_ := s_; have := Zw1_.out; have := Zw2_.out; have := Zw3_.out; have := Zw4_.out; have := Zw5_.out; have := Zw6_.out; omega)); replace O22 := Aside0.mk (Kd.R_kept O22.out hk (fun k_ h_ s_ => by have hx_ := Gg29.out; have hy_ := h_.1; have hz_ := s_; have := Zw1_.out; have := Zw2_.out; have := Zw3_.out; have := Zw4_.out; have := Zw5_.out; have := Zw6_.out; omega)); replace O26 := Aside0.mk (Kd.S_kept O26.out hk (fun k_ h_ s_ => by have hx_ := Gg29.out; have hy_ := h_.1; have hz_ := s_; have := Zw1_.out; have := Zw2_.out; have := Zw3_.out; have := Zw4_.out; have := Zw5_.out; have := Zw6_.out; omega)); replace Bg1 := Aside0.mk (blk_kept Bg1.out hk (fun s_ => by have hx_ := Gg29.out; have hy_ := Gg1.out; have hz_ := s_; have := Zw1_.out; have := Zw2_.out; have := Zw3_.out; have := Zw4_.out; have := Zw5_.out; have := Zw6_.out; omega)); replace Bg29 := Aside0.mk hx; have Zw7_ := Aside0.mk hk.1; replace HB := Aside0.mk hb; clear hzfg29_0; clear hzfg29_1; clear hzfg29_2; clear hzg29_0; clear hzg29_1; clear hzg29_2; have hzg29_0 : w7_.cell? ⟨g29, 0, none⟩ = some (.int .i64 t20) := (blk_cell Bg29.out 0).trans rfl; have hzg29_1 : w7_.cell? ⟨g29, 1, none⟩ = some (.slice A23 t21.length c24) := (blk_cell Bg29.out 1).trans rfl; have hzg29_2 : w7_.cell? ⟨g29, 2, none⟩ = some (.slice A27 t25.length c28) := (blk_cell Bg29.out 2).trans rfl; clear hk hx hb)
    | ((with_reducible refine gate_callee (f := 41) rfl ?_); refine goesL_ (some 22) rfl rfl Try.func41 (by kernel_rfl) rfl #[.agg #[.int .i64 t20, .slice A23 t21.length c24, .slice A27 t25.length c28]] rfl (by (try simp only [List.map_toArray, List.map_cons, List.map_nil]); first | done | rfl) ?_; (with_reducible refine (impl_StartMasks.calls k t20 _ _ t21 _ _ t25 t31 _ (Kd.R_reads' O22.out).2.2 (Kd.R_reads' O22.out).2.1 (Kd.R_reads' (Kd.S_R O26.out)).2.2 (Kd.R_reads' (Kd.S_R O26.out)).2.1 E30.out).mono ?_); rintro e w8_ ⟨v0_, rfl, ho0_, hb⟩; refine ⟨_, rfl, ?_⟩; replace O16 := Aside0.mk (Kd.R_below O16.out hb); replace O22 := Aside0.mk (Kd.R_below O22.out hb); replace O26 := Aside0.mk (Kd.S_below O26.out hb); replace Bg1 := Aside0.mk (blk_below Bg1.out hb); replace Bg29 := Aside0.mk (blk_below Bg29.out hb); have O32 := Aside0.mk (Kd.R_born ho0_ (below_size HB.out)); obtain ⟨A33, c34, e_⟩ := Kd.R_slice O32.out; subst e_; have Zw8_ := Aside0.mk hb.size; replace HB := Aside0.mk (below_step HB.out hb); clear hb ho0_; clear hzg29_0; clear hzg29_1; clear hzg29_2; skip)
    | ((with_reducible refine gate_callee (f := 35) rfl ?_); refine goesL_ (some 25) rfl rfl Try.func35 (by kernel_rfl) rfl #[.slice A33 t31.length c34, .slice A17 t15.length c18] rfl (by (try simp only [List.map_toArray, List.map_cons, List.map_nil]); first | done | rfl) ?_; (with_reducible refine (laws_eqIntS.calls k _ _ t31 _ _ t15 true _ (Kd.R_reads' O32.out).2.2 (Kd.R_reads' O32.out).2.1 (Kd.R_reads' O16.out).2.2 (Kd.R_reads' O16.out).2.1 E35.out).mono ?_); rintro e w9_ ⟨rfl, hd⟩; refine ⟨_, rfl, ?_⟩; have hb := hd.below; clear hd; replace O16 := Aside0.mk (Kd.R_below O16.out hb); replace O22 := Aside0.mk (Kd.R_below O22.out hb); replace O26 := Aside0.mk (Kd.S_below O26.out hb); replace O32 := Aside0.mk (Kd.R_below O32.out hb); replace Bg1 := Aside0.mk (blk_below Bg1.out hb); replace Bg29 := Aside0.mk (blk_below Bg29.out hb); have Zw9_ := Aside0.mk hb.size; replace HB := Aside0.mk (below_step HB.out hb); clear hb; skip))
  refine start_ (n := 5) (S := fun w' => w'.cell? ⟨g29, 0, none⟩ = some (.int .i64 t20) ∧ w'.cell? ⟨g29, 1, none⟩ = some (.slice A23 t21.length c24) ∧ w'.cell? ⟨g29, 2, none⟩ = some (.slice A27 t25.length c28) ∧ w'.cell? ⟨g1, 0, none⟩ = some (.int .i64 a0_0) ∧ w'.cell? ⟨g1, 1, none⟩ = some (.slice A0_1 l0_1.length c0_1) ∧ w'.cell? ⟨g1, 2, none⟩ = some (.slice A0_2 l0_2.length c0_2)) (ds := []) #[false, false, false, false, false] (by kernel_rfl) rfl rfl ⟨(blk_cell Bg29.out 0).trans rfl, (blk_cell Bg29.out 1).trans rfl, (blk_cell Bg29.out 2).trans rfl, (blk_cell Bg1.out 0).trans rfl, (blk_cell Bg1.out 1).trans rfl, (blk_cell Bg1.out 2).trans rfl⟩ (fun hHeld => ?_)
  replace O16 := Aside0.mk (Kd.R_drew O16.out)
  replace O22 := Aside0.mk (Kd.R_drew O22.out)
  replace O26 := Aside0.mk (Kd.S_drew O26.out)
  replace O32 := Aside0.mk (Kd.R_drew O32.out)
  have HB_ := Aside0.mk (show Below w.heap.size w w9_.drew from below_drew HB.out)
  have hdz_ := Aside0.mk (show w9_.heap.size ≤ w9_.drew.heap.size from Nat.le_refl _)
  clear HB
  have HB := HB_
  clear HB_
  have n_ := Aside0.mk (show w9_.drew.heap[g1]? = _ from Bg1.out)
  clear Bg1
  have Bg1 := n_
  clear n_
  have n_ := Aside0.mk (show w9_.drew.heap[g29]? = _ from Bg29.out)
  clear Bg29
  have Bg29 := n_
  clear n_
  generalize w9_.drew = w10_ at hHeld HB hdz_ O16 O22 O26 O32 Bg1 Bg29 ⊢
  have Zw10_ := hdz_
  clear hdz_
  refine take_ (i := 0) (N := some 27) (v := ?_) (a' := ?_) #[true, false, false, false, false] rfl rfl (by kernel_rfl) (fun _ _ _ h => h) (Or.inl ⟨by rfl, ?_⟩) hHeld ?_ ?_
  rotate_left
  · rintro w' ⟨s0, s1, s2, s3, s4, s5⟩
    go_simp
    with_reducible rfl
  rotate_left
  · simp only [Act.put, yps, i64_w, i32_w]
    rfl
  refine take_ (i := 1) (N := some 28) (v := ?_) (a' := ?_) #[true, true, false, false, false] rfl rfl (by kernel_rfl) (fun _ _ _ h => h) (Or.inl ⟨by rfl, ?_⟩) hHeld ?_ ?_
  rotate_left
  · rintro w' ⟨s0, s1, s2, s3, s4, s5⟩
    go_simp
    with_reducible rfl
  rotate_left
  · simp only [Act.put, yps, i64_w, i32_w]
    rfl
  refine one_ (i := 2) (N := some 29) #[true, true, true, false, false] rfl rfl (by kernel_rfl) (by decide) (fun K hK => ?_)
  refine goes_ Try.func27 (by kernel_rfl) rfl #[.agg #[.int .i64 a0_0, .slice A0_1 l0_1.length c0_1, .slice A0_2 l0_2.length c0_2]] (by rfl) rfl rfl (by (try simp only [List.map_toArray, List.map_cons, List.map_nil]); first | done | rfl) ?_
  with_reducible refine (laws_toPuzzle.calls k a0_0 _ _ l0_1 _ _ l0_2 t38 t39 t43 _ (Kd.C_below HR0_1.out HB.out) HC0_1.out (Kd.C_below HR0_2.out HB.out) HC0_2.out E37.out).mono ?_
  rintro e w11_ ⟨v0_, v1_, rfl, ho0_, ho1_, hb⟩
  refine ⟨_, rfl, ?_⟩
  replace O16 := Aside0.mk (Kd.R_below O16.out hb)
  replace O22 := Aside0.mk (Kd.R_below O22.out hb)
  replace O26 := Aside0.mk (Kd.S_below O26.out hb)
  replace O32 := Aside0.mk (Kd.R_below O32.out hb)
  replace Bg1 := Aside0.mk (blk_below Bg1.out hb)
  replace Bg29 := Aside0.mk (blk_below Bg29.out hb)
  have O40 := Aside0.mk (Kd.R_born ho0_ (below_size HB.out))
  obtain ⟨A41, c42, e_⟩ := Kd.R_slice O40.out
  subst e_
  have O44 := Aside0.mk (Kd.S_born ho1_ (below_size HB.out))
  obtain ⟨A45, c46, e_⟩ := Kd.S_slice O44.out
  subst e_
  have Zw11_ := Aside0.mk hb.size
  replace HB := Aside0.mk (below_step HB.out hb)
  clear hb ho0_ ho1_
  refine hK.out _ _ ⟨(blk_cell Bg29.out 0).trans rfl, (blk_cell Bg29.out 1).trans rfl, (blk_cell Bg29.out 2).trans rfl, (blk_cell Bg1.out 0).trans rfl, (blk_cell Bg1.out 1).trans rfl, (blk_cell Bg1.out 2).trans rfl⟩ (fun hHeld => ?_)
  clear hK K
  refine norm_ (a' := ?_) ?_ ?_
  rotate_left
  · show Act.put _ (some 29) _ = _
    simp only [Act.put, yps, i64_w, i32_w]
    rfl
  refine one_ (i := 3) (N := some 30) #[true, true, true, true, false] rfl rfl (by kernel_rfl) (by decide) (fun K hK => ?_)
  refine goes_ Try.func29 (by kernel_rfl) rfl #[.agg #[.int .i64 t20, .slice A23 t21.length c24, .slice A27 t25.length c28], .agg #[.int .i64 t38, .slice A41 t39.length c42, .slice A45 t43.length c46]] (by rfl) rfl rfl (by (try simp only [List.map_toArray, List.map_cons, List.map_nil]); first | done | rfl) ?_
  with_reducible refine (laws_eqPuzzle.calls k t20 _ _ t21 _ _ t25 t38 _ _ t39 _ _ t43 true _ (Kd.R_reads' O22.out).2.2 (Kd.R_reads' O22.out).2.1 (Kd.R_reads' (Kd.S_R O26.out)).2.2 (Kd.R_reads' (Kd.S_R O26.out)).2.1 (Kd.R_reads' O40.out).2.2 (Kd.R_reads' O40.out).2.1 (Kd.R_reads' (Kd.S_R O44.out)).2.2 (Kd.R_reads' (Kd.S_R O44.out)).2.1 E47.out).mono ?_
  rintro e w12_ ⟨rfl, hb⟩
  refine ⟨_, rfl, ?_⟩
  replace O16 := Aside0.mk (Kd.R_below O16.out hb)
  replace O22 := Aside0.mk (Kd.R_below O22.out hb)
  replace O26 := Aside0.mk (Kd.S_below O26.out hb)
  replace O32 := Aside0.mk (Kd.R_below O32.out hb)
  replace Bg1 := Aside0.mk (blk_below Bg1.out hb)
  replace Bg29 := Aside0.mk (blk_below Bg29.out hb)
  clear O40
  clear O44
  have Zw12_ := Aside0.mk hb.size
  replace HB := Aside0.mk (below_step HB.out hb)
  clear hb
  refine hK.out _ _ ⟨(blk_cell Bg29.out 0).trans rfl, (blk_cell Bg29.out 1).trans rfl, (blk_cell Bg29.out 2).trans rfl, (blk_cell Bg1.out 0).trans rfl, (blk_cell Bg1.out 1).trans rfl, (blk_cell Bg1.out 2).trans rfl⟩ (fun hHeld => ?_)
  clear hK K
  refine norm_ (a' := ?_) ?_ ?_
  rotate_left
  · show Act.put _ (some 30) _ = _
    simp only [Act.put, yps, i64_w, i32_w]
    rfl
  refine pure_ (i := 4) (N := some 31) (v := ?_) (a' := ?_) #[true, true, true, true, true] rfl rfl (by kernel_rfl) (fun _ _ _ h => h) (Or.inl ⟨by rfl, ?_⟩) ?_ ?_
  rotate_left
  · intro w'
    go_simp
    with_reducible rfl
  rotate_left
  · simp only [Act.put, yps, i64_w, i32_w]
    rfl
  refine done_ (by kernel_rfl) ?_
  have hzg1_0 : w12_.cell? ⟨g1, 0, none⟩ = some (.int .i64 a0_0) := (blk_cell Bg1.out 0).trans rfl
  have hzg1_1 : w12_.cell? ⟨g1, 1, none⟩ = some (.slice A0_1 l0_1.length c0_1) := (blk_cell Bg1.out 1).trans rfl
  have hzg1_2 : w12_.cell? ⟨g1, 2, none⟩ = some (.slice A0_2 l0_2.length c0_2) := (blk_cell Bg1.out 2).trans rfl
  have hzg29_0 : w12_.cell? ⟨g29, 0, none⟩ = some (.int .i64 t20) := (blk_cell Bg29.out 0).trans rfl
  have hzg29_1 : w12_.cell? ⟨g29, 1, none⟩ = some (.slice A23 t21.length c24) := (blk_cell Bg29.out 1).trans rfl
  have hzg29_2 : w12_.cell? ⟨g29, 2, none⟩ = some (.slice A27 t25.length c28) := (blk_cell Bg29.out 2).trans rfl
  go_wp2_with (first
    | ((with_reducible refine gate_callee (f := 42) rfl ?_); refine goesL_ (some 34) rfl rfl Try.func42 (by kernel_rfl) rfl #[.agg #[.int .i64 t20, .slice A23 t21.length c24, .slice A27 t25.length c28], .int .i64 1] rfl (by (try simp only [List.map_toArray, List.map_cons, List.map_nil]); first | done | rfl) ?_; (with_reducible refine (laws_markPuzzle.calls k t20 _ _ _ _ t21 _ _ t25 1 t50 t51 t52 w w12_ HB.out apart_own (Kd.R_tight rfl O22.out) O26.out E49.out).mono ?_); rintro e w13_ ⟨rfl, hm0_, hm1_, hb, hk⟩; refine ⟨_, rfl, ?_⟩; replace O16 := Aside0.mk (Kd.R_kept O16.out hk (fun k_ h_ s_ => s_.elim (fun p_ => by have hx_ := (O22.out.1 _ p_.symm).1; have hy_ := h_.1; have := Zw1_.out; have := Zw2_.out; have := Zw3_.out; have := Zw4_.out; have := Zw5_.out; have := Zw6_.out; have := Zw7_.out; have := Zw8_.out; have := Zw9_.out; have := Zw10_.out; have := Zw11_.out; have := Zw12_.out; omega) (fun q_ => by have hx_ := q_.1; have hy_ := h_.1; have := Zw1_.out; have := Zw2_.out; have := Zw3_.out; have := Zw4_.out; have := Zw5_.out; have := Zw6_.out; have := Zw7_.out; have := Zw8_.out; have := Zw9_.out; have := Zw10_.out; have := Zw11_.out; have := Zw12_.out; omega))); replace O32 := Aside0.mk (Kd.R_kept O32.out hk (fun k_ h_ s_ => s_.elim (fun p_ => by have hx_ := (O22.out.1 _ p_.symm).1; have hy_ := h_.1; have := Zw1_.out; have := Zw2_.out; have := Zw3_.out; have := Zw4_.out; have := Zw5_.out; have := Zw6_.out; have := Zw7_.out; have := Zw8_.out; have := Zw9_.out; have := Zw10_.out; have := Zw11_.out; have := Zw12_.out; omega) (fun q_ => by have hx_ := q_.1; have hy_ := h_.1; have := Zw1_.out; have := Zw2_.out; have := Zw3_.out; have := Zw4_.out; have := Zw5_.out; have := Zw6_.out; have := Zw7_.out; have := Zw8_.out; have := Zw9_.out; have := Zw10_.out; have := Zw11_.out; have := Zw12_.out; omega))); replace Bg1 := Aside0.mk (blk_kept Bg1.out hk (fun s_ => s_.elim (fun p_ => by have hx_ := (O22.out.1 _ p_.symm).1; have hy_ := Gg1.out; have := Zw1_.out; have := Zw2_.out; have := Zw3_.out; have := Zw4_.out; have := Zw5_.out; have := Zw6_.out; have := Zw7_.out; have := Zw8_.out; have := Zw9_.out; have := Zw10_.out; have := Zw11_.out; have := Zw12_.out; omega) (fun q_ => by have hx_ := q_.1; have hy_ := Gg1.out; have := Zw1_.out; have := Zw2_.out; have := Zw3_.out; have := Zw4_.out; have := Zw5_.out; have := Zw6_.out; have := Zw7_.out; have := Zw8_.out; have := Zw9_.out; have := Zw10_.out; have := Zw11_.out; have := Zw12_.out; omega))); clear O22; clear O26; clear Bg29; have Zw13_ := Aside0.mk hk.1; replace HB := Aside0.mk hb; clear hk hb hm0_ hm1_; clear hzg1_0; clear hzg1_1; clear hzg1_2; clear hzg29_0; clear hzg29_1; clear hzg29_2; have hzg1_0 : w13_.cell? ⟨g1, 0, none⟩ = some (.int .i64 a0_0) := (blk_cell Bg1.out 0).trans rfl; have hzg1_1 : w13_.cell? ⟨g1, 1, none⟩ = some (.slice A0_1 l0_1.length c0_1) := (blk_cell Bg1.out 1).trans rfl; have hzg1_2 : w13_.cell? ⟨g1, 2, none⟩ = some (.slice A0_2 l0_2.length c0_2) := (blk_cell Bg1.out 2).trans rfl; skip)
    | (go_at_call 35; (with_reducible refine (laws_eqIntS.calls k _ _ t31 _ _ t15 true _ (Kd.R_reads' O32.out).2.2 (Kd.R_reads' O32.out).2.1 (Kd.R_reads' O16.out).2.2 (Kd.R_reads' O16.out).2.1 E53.out).mono ?_); rintro e w14_ ⟨rfl, hd⟩; have hb := hd.below; clear hd; replace O16 := Aside0.mk (Kd.R_below O16.out hb); replace O32 := Aside0.mk (Kd.R_below O32.out hb); replace Bg1 := Aside0.mk (blk_below Bg1.out hb); have Zw14_ := Aside0.mk hb.size; replace HB := Aside0.mk (below_step HB.out hb); clear hb; clear hzg1_0; clear hzg1_1; clear hzg1_2; have hzg1_0 : w14_.cell? ⟨g1, 0, none⟩ = some (.int .i64 a0_0) := (blk_cell Bg1.out 0).trans rfl; have hzg1_1 : w14_.cell? ⟨g1, 1, none⟩ = some (.slice A0_1 l0_1.length c0_1) := (blk_cell Bg1.out 1).trans rfl; have hzg1_2 : w14_.cell? ⟨g1, 2, none⟩ = some (.slice A0_2 l0_2.length c0_2) := (blk_cell Bg1.out 2).trans rfl; skip)
    | ((with_reducible refine gate_callee (f := 38) rfl ?_); refine goesL_ (some 45) rfl rfl Try.func38 (by kernel_rfl) rfl #[.slice A33 t31.length c34, .int .i64 1] rfl (by (try simp only [List.map_toArray, List.map_cons, List.map_nil]); first | done | rfl) ?_; (with_reducible refine (laws_markIntS.calls k _ _ t31 1 t56 t57 w w14_ HB.out (Kd.R_tight rfl O32.out) E55.out).mono ?_); rintro e w15_ ⟨rfl, hm0_, hb, hk⟩; refine ⟨_, rfl, ?_⟩; replace O16 := Aside0.mk (Kd.R_kept O16.out hk (fun k_ h_ s_ => by have hx_ := (O32.out.1 _ s_.symm).1; have hy_ := h_.1; have := Zw1_.out; have := Zw2_.out; have := Zw3_.out; have := Zw4_.out; have := Zw5_.out; have := Zw6_.out; have := Zw7_.out; have := Zw8_.out; have := Zw9_.out; have := Zw10_.out; have := Zw11_.out; have := Zw12_.out; have := Zw13_.out; have := Zw14_.out; omega)); replace Bg1 := Aside0.mk (blk_kept Bg1.out hk (fun s_ => by have hx_ := (O32.out.1 _ s_.symm).1; have hy_ := Gg1.out; have := Zw1_.out; have := Zw2_.out; have := Zw3_.out; have := Zw4_.out; have := Zw5_.out; have := Zw6_.out; have := Zw7_.out; have := Zw8_.out; have := Zw9_.out; have := Zw10_.out; have := Zw11_.out; have := Zw12_.out; have := Zw13_.out; have := Zw14_.out; omega)); replace O32 := Aside0.mk hm0_; have Lt57 := Aside0.mk (Kd.R_reads' hm0_).1.symm; have Zw15_ := Aside0.mk hk.1; replace HB := Aside0.mk hb; clear hk hb hm0_; clear hzg1_0; clear hzg1_1; clear hzg1_2; have hzg1_0 : w15_.cell? ⟨g1, 0, none⟩ = some (.int .i64 a0_0) := (blk_cell Bg1.out 0).trans rfl; have hzg1_1 : w15_.cell? ⟨g1, 1, none⟩ = some (.slice A0_1 l0_1.length c0_1) := (blk_cell Bg1.out 1).trans rfl; have hzg1_2 : w15_.cell? ⟨g1, 2, none⟩ = some (.slice A0_2 l0_2.length c0_2) := (blk_cell Bg1.out 2).trans rfl; skip)
    | ((with_reducible refine gate_callee (f := 39) rfl ?_); refine goesL_ (some 48) rfl rfl Try.func39 (by kernel_rfl) rfl #[.slice A33 t57.length c34, .int .i64 1] rfl (by (try simp only [List.map_toArray, List.map_cons, List.map_nil]); first | done | rfl | (rw [Lt57.out]; rfl)) ?_; (with_reducible refine (laws_heldIntS.calls k _ _ t57 1 t59 _ (Kd.R_reads' O32.out).2.2 (by rw [Lt57.out]; exact (Kd.R_reads' O32.out).2.1) E58.out).mono ?_); rintro e w16_ ⟨rfl, hd⟩; refine ⟨_, rfl, ?_⟩; have hb := hd.below; clear hd; replace O16 := Aside0.mk (Kd.R_below O16.out hb); replace O32 := Aside0.mk (Kd.R_below O32.out hb); replace Bg1 := Aside0.mk (blk_below Bg1.out hb); have Zw16_ := Aside0.mk hb.size; replace HB := Aside0.mk (below_step HB.out hb); clear hb; clear hzg1_0; clear hzg1_1; clear hzg1_2; have hzg1_0 : w16_.cell? ⟨g1, 0, none⟩ = some (.int .i64 a0_0) := (blk_cell Bg1.out 0).trans rfl; have hzg1_1 : w16_.cell? ⟨g1, 1, none⟩ = some (.slice A0_1 l0_1.length c0_1) := (blk_cell Bg1.out 1).trans rfl; have hzg1_2 : w16_.cell? ⟨g1, 2, none⟩ = some (.slice A0_2 l0_2.length c0_2) := (blk_cell Bg1.out 2).trans rfl; skip)
    | ((with_reducible refine gate_callee (f := 27) rfl ?_); refine goesL_ (some 55) rfl rfl Try.func27 (by kernel_rfl) rfl #[.agg #[.int .i64 a0_0, .slice A0_1 l0_1.length c0_1, .slice A0_2 l0_2.length c0_2]] rfl (by (try simp only [List.map_toArray, List.map_cons, List.map_nil]); first | done | rfl) ?_; (with_reducible refine (laws_toPuzzle.calls k a0_0 _ _ l0_1 _ _ l0_2 t61 t62 t66 _ (Kd.C_below HR0_1.out HB.out) HC0_1.out (Kd.C_below HR0_2.out HB.out) HC0_2.out E60.out).mono ?_); rintro e w17_ ⟨v0_, v1_, rfl, ho0_, ho1_, hb⟩; refine ⟨_, rfl, ?_⟩; replace O16 := Aside0.mk (Kd.R_below O16.out hb); replace O32 := Aside0.mk (Kd.R_below O32.out hb); clear Bg1; have O63 := Aside0.mk (Kd.R_born ho0_ (below_size HB.out)); obtain ⟨A64, c65, e_⟩ := Kd.R_slice O63.out; subst e_; have O67 := Aside0.mk (Kd.S_born ho1_ (below_size HB.out)); obtain ⟨A68, c69, e_⟩ := Kd.S_slice O67.out; subst e_; have Zw17_ := Aside0.mk hb.size; replace HB := Aside0.mk (below_step HB.out hb); clear hb ho0_ ho1_; clear hzg1_0; clear hzg1_1; clear hzg1_2; skip)
    | ((with_reducible refine gate_callee (f := 41) rfl ?_); refine goesL_ (some 56) rfl rfl Try.func41 (by kernel_rfl) rfl #[.agg #[.int .i64 t61, .slice A64 t62.length c65, .slice A68 t66.length c69]] rfl (by (try simp only [List.map_toArray, List.map_cons, List.map_nil]); first | done | rfl) ?_; (with_reducible refine (impl_StartMasks.calls k t61 _ _ t62 _ _ t66 t71 _ (Kd.R_reads' O63.out).2.2 (Kd.R_reads' O63.out).2.1 (Kd.R_reads' (Kd.S_R O67.out)).2.2 (Kd.R_reads' (Kd.S_R O67.out)).2.1 E70.out).mono ?_); rintro e w18_ ⟨v0_, rfl, ho0_, hb⟩; refine ⟨_, rfl, ?_⟩; replace O16 := Aside0.mk (Kd.R_below O16.out hb); replace O32 := Aside0.mk (Kd.R_below O32.out hb); clear O63; clear O67; have O72 := Aside0.mk (Kd.R_born ho0_ (below_size HB.out)); obtain ⟨A73, c74, e_⟩ := Kd.R_slice O72.out; subst e_; have Zw18_ := Aside0.mk hb.size; replace HB := Aside0.mk (below_step HB.out hb); clear hb ho0_; skip)
    | ((with_reducible refine gate_callee (f := 35) rfl ?_); refine goesL_ (some 59) rfl rfl Try.func35 (by kernel_rfl) rfl #[.slice A73 t71.length c74, .slice A17 t15.length c18] rfl (by (try simp only [List.map_toArray, List.map_cons, List.map_nil]); first | done | rfl) ?_; (with_reducible refine (laws_eqIntS.calls k _ _ t71 _ _ t15 true _ (Kd.R_reads' O72.out).2.2 (Kd.R_reads' O72.out).2.1 (Kd.R_reads' O16.out).2.2 (Kd.R_reads' O16.out).2.1 E75.out).mono ?_); rintro e w19_ ⟨rfl, hd⟩; refine ⟨_, rfl, ?_⟩; have hb := hd.below; clear hd; replace O32 := Aside0.mk (Kd.R_below O32.out hb); clear O16; clear O72; have Zw19_ := Aside0.mk hb.size; replace HB := Aside0.mk (below_step HB.out hb); clear hb; skip)
    | ((with_reducible refine gate_callee (f := 39) rfl ?_); refine goesL_ (some 63) rfl rfl Try.func39 (by kernel_rfl) rfl #[.slice A33 t57.length c34, .int .i64 1] rfl (by (try simp only [List.map_toArray, List.map_cons, List.map_nil]); first | done | rfl | (rw [Lt57.out]; rfl)) ?_; (with_reducible refine (laws_heldIntS.calls k _ _ t57 1 t78 _ (Kd.R_reads' O32.out).2.2 (by rw [Lt57.out]; exact (Kd.R_reads' O32.out).2.1) E77.out).mono ?_); rintro e w20_ ⟨rfl, hd⟩; refine ⟨_, rfl, ?_⟩; have hb := hd.below; clear hd; clear O32; have Zw20_ := Aside0.mk hb.size; replace HB := Aside0.mk (below_step HB.out hb); clear hb; skip))
  go_ret
  exact ⟨rfl, HB.out⟩

end Go.Proofs.Ythfbjkniinfgcaa.P
