/- The machine's side: each Go function as a plain Lean function and the proof that the machine's call does what that function says; written by this session's own program over the kit's print. -/
import Derived.Test.YthfbjkniinfgcaaZP1
import Derived.Test.YthfbjkniinfgcaaZP5
namespace Go.Proofs.Ythfbjkniinfgcaa.P
open Go.RowKit Go.Proofs.YthfbjkniinfgcaaW.PrintWords Go.Proofs.YthfbjkniinfgcaaW.PrintLast Go.Proofs.YthfbjkniinfgcaaW.PrintMore
attribute [local go_sem] max2_int min2_int max_two min_two max_three min_three max_four min_four   -- for this text's walks alone
set_option linter.unusedVariables false
set_option linter.unusedSimpArgs false

/-! ### impl_PuzzleValid: function 28 -/
mutual
def impl_PuzzleValid.j0 : Nat → Bool → Int → List Int → List (S32) → Option (Bool)
  | 0, _, _, _, _ => none
  | k + 1, x16, x412000, x412001, x412002 => if x16 = true then (some false) else (impl_PuzzleValid.l0 k x412002 (x412002.length : Int) 0 x412000 x412001 x412002)
def impl_PuzzleValid.l0 : Nat → List (S32) → Int → Int → Int → List Int → List (S32) → Option (Bool)
  | 0, _, _, _, _, _, _ => none
  | k + 1, x18, x19, x20, x412000, x412001, x412002 => if x20 < x19 then (if 0 ≤ x20 then (if x20 < (x18.length : Int) then ((impl_RuleValid.f k ((rd_T32 x18 x20).f0) ((rd_T32 x18 x20).f1) ((rd_T32 x18 x20).f2) x412000).bind fun t415 => (if t415 = true then (impl_PuzzleValid.l0 k x18 x19 (wrap64 (x20 + 1)) x412000 x412001 x412002) else (some false))) else (none)) else (none)) else (some true)
end
def impl_PuzzleValid.f (k : Nat) (a0_0 : Int) (l0_1 : List Int) (l0_2 : List (S32)) : Option (Bool) := (impl_GridValid.f k l0_1 a0_0).bind fun t412 => (if t412 = true then (impl_PuzzleValid.j0 k (decide ((l0_2.length : Int) > 20)) a0_0 l0_1 l0_2) else (impl_PuzzleValid.j0 k true a0_0 l0_1 l0_2))
theorem impl_PuzzleValid.mono_l : ∀ k, (∀ y0 y1 y2 y3, LeO (impl_PuzzleValid.j0 k y0 y1 y2 y3) (impl_PuzzleValid.j0 (k + 1) y0 y1 y2 y3)) ∧ (∀ y0 y1 y2 y3 y4 y5, LeO (impl_PuzzleValid.l0 k y0 y1 y2 y3 y4 y5) (impl_PuzzleValid.l0 (k + 1) y0 y1 y2 y3 y4 y5))
  | 0 => ⟨fun _ _ _ _ r h => by simp [impl_PuzzleValid.j0] at h, fun _ _ _ _ _ _ r h => by simp [impl_PuzzleValid.l0] at h⟩
  | k + 1 => by
    obtain ⟨ih0, ih1⟩ := impl_PuzzleValid.mono_l k
    refine ⟨?_, ?_⟩
    · intro y0 y1 y2 y3
      unfold impl_PuzzleValid.j0
      repeat' first
      | (with_reducible exact ih0 _ _ _ _)
      | (with_reducible exact ih1 _ _ _ _ _ _)
      | (with_reducible exact impl_GridValid.mono _ _ _)
      | (with_reducible exact impl_RuleValid.mono _ _ _ _ _)
      | (with_reducible exact LeO.refl _)
      | (with_reducible exact LeO.none _)
      | (with_reducible refine LeO.ite ?_ ?_)
      | (with_reducible refine LeO.bind ?_ (fun _ => ?_))
      | exact ih0 _ _ _ _
      | exact ih1 _ _ _ _ _ _
      | exact impl_GridValid.mono _ _ _
      | exact impl_RuleValid.mono _ _ _ _ _
      | exact LeO.none _
      | refine LeO.ite ?_ ?_
      | refine LeO.bind ?_ (fun _ => ?_)
    · intro y0 y1 y2 y3 y4 y5
      unfold impl_PuzzleValid.l0
      repeat' first
      | (with_reducible exact ih0 _ _ _ _)
      | (with_reducible exact ih1 _ _ _ _ _ _)
      | (with_reducible exact impl_GridValid.mono _ _ _)
      | (with_reducible exact impl_RuleValid.mono _ _ _ _ _)
      | (with_reducible exact LeO.refl _)
      | (with_reducible exact LeO.none _)
      | (with_reducible refine LeO.ite ?_ ?_)
      | (with_reducible refine LeO.bind ?_ (fun _ => ?_))
      | exact ih0 _ _ _ _
      | exact ih1 _ _ _ _ _ _
      | exact impl_GridValid.mono _ _ _
      | exact impl_RuleValid.mono _ _ _ _ _
      | exact LeO.none _
      | refine LeO.ite ?_ ?_
      | refine LeO.bind ?_ (fun _ => ?_)
theorem impl_PuzzleValid.mono : ∀ a0 a1 a2 k, LeO (impl_PuzzleValid.f k a0 a1 a2) (impl_PuzzleValid.f (k + 1) a0 a1 a2) := by
  intro a0 a1 a2 k
  obtain ⟨ih0, ih1⟩ := impl_PuzzleValid.mono_l k
  unfold impl_PuzzleValid.f
  repeat' first
      | (with_reducible exact ih0 _ _ _ _)
      | (with_reducible exact ih1 _ _ _ _ _ _)
      | (with_reducible exact impl_GridValid.mono _ _ _)
      | (with_reducible exact impl_RuleValid.mono _ _ _ _ _)
      | (with_reducible exact LeO.refl _)
      | (with_reducible exact LeO.none _)
      | (with_reducible refine LeO.ite ?_ ?_)
      | (with_reducible refine LeO.bind ?_ (fun _ => ?_))
      | exact ih0 _ _ _ _
      | exact ih1 _ _ _ _ _ _
      | exact impl_GridValid.mono _ _ _
      | exact impl_RuleValid.mono _ _ _ _ _
      | exact LeO.none _
      | refine LeO.ite ?_ ?_
      | refine LeO.bind ?_ (fun _ => ?_)
set_option maxHeartbeats 8000000 in
set_option maxRecDepth 100000 in
theorem impl_PuzzleValid.calls (k : Nat) (a0_0 : Int) (A0_1 : Option Addr) (c0_1 : Nat) (l0_1 : List Int) (A0_2 : Option Addr) (c0_2 : Nat) (l0_2 : List (S32)) (r : Bool) (w : World) (hr0_1 : Kd.C (Kd.int .i64) w A0_1 l0_1.length l0_1) (hc0_1 : l0_1.length ≤ c0_1) (hr0_2 : Kd.C k32 w A0_2 l0_2.length l0_2) (hc0_2 : l0_2.length ≤ c0_2) (h : impl_PuzzleValid.f k a0_0 l0_1 l0_2 = some r) :
    Calls Try.prog 28 #[.agg #[.int .i64 a0_0, .slice A0_1 l0_1.length c0_1, .slice A0_2 l0_2.length c0_2]] w fun e w' => e = .returned (.bool r) ∧ Below w.heap.size w w' := by
  have hu43 := Try.underlying43
  have hu32 := Try.underlying32
  have HR0_1 := yam hr0_1
  have HC0_1 := yam hc0_1
  clear hr0_1 hc0_1
  have HR0_2 := yam hr0_2
  have HC0_2 := yam hc0_2
  clear hr0_2 hc0_2
  have HB := yam (Below.refl w.heap.size w)
  have H : ((impl_GridValid.f k l0_1 a0_0).bind fun t412 => (if t412 = true then (impl_PuzzleValid.j0 k (decide ((l0_2.length : Int) > 20)) a0_0 l0_1 l0_2) else (impl_PuzzleValid.j0 k true a0_0 l0_1 l0_2))) = some r := h
  clear h
  have HC2 := yam H
  clear H
  go_enter Try.func28, Try.ntmps28
  go_upto_region 1 with (first | ((with_reducible refine gate_dst (N := 1) rfl ?_); (try (refine gate_guard (by rfl) ?_; dsimp only)); refine box_event ?hg (N := 1) ?hd (cs := #[.int .i64 a0_0, .slice A0_1 l0_1.length c0_1, .slice A0_2 l0_2.length c0_2]) (t := 43) ?hr ?_; (case hd => rfl); (case hg => rfl); (case hr => first | (go_simp; done) | (go_simp; rfl)); intro gb411 hg w3 hbox hb; have n0_ := yam (below_step (yez HB.out) hb); have n1_ := yam (hbox); have n2_ := yam ((by rw [hg]; exact (below_size (yez HB.out)) : w.heap.size ≤ gb411)); have n3_ := yam ((by rw [hg]; exact (below_size (yez HB.out)) : w.heap.size ≤ gb411)); clear HB; have HB := n0_; have BK411 := n1_; have GW411 := n2_; have GE411 := n3_; clear n0_ n1_ n2_ n3_; clear hb hbox hg))
  (try simp only [Act.put, yps])
  go_cut [16] (fun v16 wc => ∃ (kq : Nat) (x16_1 : Bool), v16 = .bool x16_1 ∧ Aside0 (impl_PuzzleValid.j0 kq x16_1 a0_0 l0_1 l0_2 = some r) ∧ Aside0 (kq ≤ k) ∧ Aside0 (wc.heap[gb411]? = some (.cells #[.int .i64 a0_0, (.slice A0_1 l0_1.length c0_1), (.slice A0_2 l0_2.length c0_2)] 43 (0, 0))) ∧ Aside0 (Below w.heap.size w wc))
  case first =>
    have H := HC2.out
    clear HC2
    replace H := Option.bind_eq_some_iff.mp H
    obtain ⟨t412, A40, H⟩ := H
    try dsimp only at H
    have A4 := yam A40
    clear A40
    by_cases c5 : t412 = true
    · subst c5
      have H1 : (impl_PuzzleValid.j0 k (decide ((l0_2.length : Int) > 20)) a0_0 l0_1 l0_2) = some r := by rw [if_pos rfl] at H; exact H
      clear H
      have H := H1
      clear H1
      have H' := yam H
      clear H
      have hcz6_0 : w3.cell? ⟨gb411, 0, none⟩ = some (.int .i64 a0_0) := (blk_cell BK411.out 0).trans rfl
      have hcz6_1 : w3.cell? ⟨gb411, 1, none⟩ = some (.slice A0_1 l0_1.length c0_1) := (blk_cell BK411.out 1).trans rfl
      have hcz6_2 : w3.cell? ⟨gb411, 2, none⟩ = some (.slice A0_2 l0_2.length c0_2) := (blk_cell BK411.out 2).trans rfl
      have hfz6_0 := blk_frozen BK411.out 0
      have hfz6_1 := blk_frozen BK411.out 1
      have hfz6_2 := blk_frozen BK411.out 2
      go_wp2_with (first | ((with_reducible refine gate_callee (f := 60) rfl ?_); refine goesL_ (some 9) rfl rfl Try.func60 (by kernel_rfl) rfl #[.slice A0_1 l0_1.length c0_1, .int .i64 a0_0] rfl (by (try simp only [List.map_toArray, List.map_cons, List.map_nil]); first | done | rfl | (simp only [List.length_drop, List.length_take]; rfl)) ?_; (with_reducible refine (impl_GridValid.calls k _ _ l0_1 a0_0 true _ ?side1 ?side2 A4.out).mono ?_); (case side1 => exact Kd.Cz ((Kd.C_below HR0_1.out HB.out))); (case side2 => exact HC0_1.out); rintro e w' ⟨rfl, ⟨nd, rfl⟩⟩; refine ⟨_, rfl, ?_⟩))
      go_meet
      case rel => exact ⟨_, (decide ((l0_2.length : Int) > 20)), (by first | rfl | (simp; done) | (simp [*]; done)), H', ⟨by first | omega | exact Nat.le_refl _⟩, ⟨by (with_reducible repeat (first | refine ybn ?_ _ | refine ybd ?_ | refine yba ?_ _)); exact BK411.out⟩, ⟨by repeat (first | (with_reducible first | exact HB.out | apply yea | apply yen | apply yed | refine below_set ?_ GE411.out) | exact HB.out)⟩⟩
    replace c5 := Bool.eq_false_iff.mpr c5
    subst c5
    have H1 : (impl_PuzzleValid.j0 k true a0_0 l0_1 l0_2) = some r := by rw [if_neg (show ¬ (false = true) by decide)] at H; exact H
    clear H
    have H := H1
    clear H1
    have H' := yam H
    clear H
    have hcz7_0 : w3.cell? ⟨gb411, 0, none⟩ = some (.int .i64 a0_0) := (blk_cell BK411.out 0).trans rfl
    have hcz7_1 : w3.cell? ⟨gb411, 1, none⟩ = some (.slice A0_1 l0_1.length c0_1) := (blk_cell BK411.out 1).trans rfl
    have hcz7_2 : w3.cell? ⟨gb411, 2, none⟩ = some (.slice A0_2 l0_2.length c0_2) := (blk_cell BK411.out 2).trans rfl
    have hfz7_0 := blk_frozen BK411.out 0
    have hfz7_1 := blk_frozen BK411.out 1
    have hfz7_2 := blk_frozen BK411.out 2
    go_wp2_with (first | ((with_reducible refine gate_callee (f := 60) rfl ?_); refine goesL_ (some 9) rfl rfl Try.func60 (by kernel_rfl) rfl #[.slice A0_1 l0_1.length c0_1, .int .i64 a0_0] rfl (by (try simp only [List.map_toArray, List.map_cons, List.map_nil]); first | done | rfl | (simp only [List.length_drop, List.length_take]; rfl)) ?_; (with_reducible refine (impl_GridValid.calls k _ _ l0_1 a0_0 false _ ?side1 ?side2 A4.out).mono ?_); (case side1 => exact Kd.Cz ((Kd.C_below HR0_1.out HB.out))); (case side2 => exact HC0_1.out); rintro e w' ⟨rfl, ⟨nd, rfl⟩⟩; refine ⟨_, rfl, ?_⟩))
    go_meet
    case rel => exact ⟨_, (true), (by first | rfl | (simp; done) | (simp [*]; done)), H', ⟨by first | omega | exact Nat.le_refl _⟩, ⟨by (with_reducible repeat (first | refine ybn ?_ _ | refine ybd ?_ | refine yba ?_ _)); exact BK411.out⟩, ⟨by repeat (first | (with_reducible first | exact HB.out | apply yea | apply yen | apply yed | refine below_set ?_ GE411.out) | exact HB.out)⟩⟩
  case rest =>
    clear HC2
    try clear c2
    try clear p2
    try clear c5
    try clear c6
    try clear hcz6_0
    try clear hcz6_1
    try clear hcz6_2
    try clear hcz7_0
    try clear hcz7_1
    try clear hcz7_2
    try clear hfz6_0
    try clear hfz6_1
    try clear hfz6_2
    try clear hfz7_0
    try clear hfz7_1
    try clear hfz7_2
    obtain ⟨kq, x16_1, rfl, HA, HJ1, BK411, HB⟩ := hcut
    cases kq with
    | zero => exact absurd HA.out (by simp [impl_PuzzleValid.j0])
    | succ kj1 =>
      have H := HA.out
      clear HA
      simp only [impl_PuzzleValid.j0] at H
      by_cases c8 : x16_1 = true
      · subst c8
        have H1 : (some false) = some r := by rw [if_pos rfl] at H; exact H
        clear H
        have H := H1
        clear H1
        obtain rfl := Option.some.inj H
        go_wp2
        go_ret
        exact ⟨by first | rfl | (simp [errW_none, errW_some] <;> rfl) | (simp [*, errW_none, errW_some] <;> rfl), by repeat (first | (with_reducible first | exact HB.out | apply yea | apply yen | apply yed | refine below_set ?_ GE411.out) | exact HB.out)⟩
      replace c8 := Bool.eq_false_iff.mpr c8
      subst c8
      have H1 : (impl_PuzzleValid.l0 kj1 l0_2 (l0_2.length : Int) 0 a0_0 l0_1 l0_2) = some r := by rw [if_neg (show ¬ (false = true) by decide)] at H; exact H
      clear H
      have H := H1
      clear H1
      have H' := yam H
      clear H
      have hcz9_0 : wc.cell? ⟨gb411, 0, none⟩ = some (.int .i64 a0_0) := (blk_cell BK411.out 0).trans rfl
      have hcz9_1 : wc.cell? ⟨gb411, 1, none⟩ = some (.slice A0_1 l0_1.length c0_1) := (blk_cell BK411.out 1).trans rfl
      have hcz9_2 : wc.cell? ⟨gb411, 2, none⟩ = some (.slice A0_2 l0_2.length c0_2) := (blk_cell BK411.out 2).trans rfl
      have hfz9_0 := blk_frozen BK411.out 0
      have hfz9_1 := blk_frozen BK411.out 1
      have hfz9_2 := blk_frozen BK411.out 2
      go_wp2
      go_loopg [20] kj1 (fun kq v20 w' => ∃ (x20_2 : Int), v20 = .int .i64 x20_2 ∧ Aside0 (impl_PuzzleValid.l0 kq l0_2 (l0_2.length : Int) x20_2 a0_0 l0_1 l0_2 = some r) ∧ Aside0 (kq ≤ kj1) ∧ Aside0 (w'.heap[gb411]? = some (.cells #[.int .i64 a0_0, (.slice A0_1 l0_1.length c0_1), (.slice A0_2 l0_2.length c0_2)] 43 (0, 0))) ∧ Aside0 (Below w.heap.size w w'))
      case atStart => exact ⟨(0), (by first | rfl | (simp; done) | (simp [*]; done)), H', ⟨Nat.le_refl _⟩, ⟨by (with_reducible repeat (first | refine ybn ?_ _ | refine ybd ?_ | refine yba ?_ _)); exact BK411.out⟩, ⟨by repeat (first | (with_reducible first | exact HB.out | apply yea | apply yen | apply yed | refine below_set ?_ GE411.out) | exact HB.out)⟩⟩
      case round =>
        clear H'
        try clear c2
        try clear p2
        try clear c5
        try clear c6
        try clear c8
        try clear hcz6_0
        try clear hcz6_1
        try clear hcz6_2
        try clear hcz7_0
        try clear hcz7_1
        try clear hcz7_2
        try clear hcz9_0
        try clear hcz9_1
        try clear hcz9_2
        try clear hfz6_0
        try clear hfz6_1
        try clear hfz6_2
        try clear hfz7_0
        try clear hfz7_1
        try clear hfz7_2
        try clear hfz9_0
        try clear hfz9_1
        try clear hfz9_2
        try clear p2
        obtain ⟨x20_2, rfl, HA, HK2, BK411, HB⟩ := hrel
        cases gk with
        | zero => exact absurd HA.out (by simp [impl_PuzzleValid.l0])
        | succ k2 =>
          have H := HA.out
          clear HA
          simp only [impl_PuzzleValid.l0] at H
          by_cases c10 : x20_2 < (l0_2.length : Int)
          rotate_left
          · rw [if_neg c10] at H
            have c10b0 : decide (x20_2 < (l0_2.length : Int)) = false := decide_eq_false c10
            clear c10
            obtain rfl := Option.some.inj H
            go_wp2
            go_ret
            exact ⟨by first | rfl | (simp [errW_none, errW_some] <;> rfl) | (simp [*, errW_none, errW_some] <;> rfl), by repeat (first | (with_reducible first | exact HB.out | apply yea | apply yen | apply yed | refine below_set ?_ GE411.out) | exact HB.out)⟩

          rw [if_pos c10] at H
          have c10b0 : decide (x20_2 < (l0_2.length : Int)) = true := decide_eq_true c10
          clear c10
          by_cases c11 : 0 ≤ x20_2
          rotate_left
          · rw [if_neg c11] at H
            exact absurd H (by simp)
          rw [if_pos c11] at H
          have c11b0 : decide (0 ≤ x20_2) = true := decide_eq_true c11
          clear c11
          by_cases c12 : x20_2 < (l0_2.length : Int)
          rotate_left
          · rw [if_neg c12] at H
            exact absurd H (by simp)
          rw [if_pos c12] at H
          have c12b0 : decide (x20_2 < (l0_2.length : Int)) = true := decide_eq_true c12
          clear c12
          replace H := Option.bind_eq_some_iff.mp H
          obtain ⟨t415, A130, H⟩ := H
          try dsimp only at H
          have A13 := yam A130
          clear A130
          by_cases c14 : t415 = true
          rotate_left
          · replace c14 := Bool.eq_false_iff.mpr c14
            subst c14
            have H1 : (some false) = some r := by rw [if_neg (show ¬ (false = true) by decide)] at H; exact H
            clear H
            have H := H1
            clear H1
            obtain rfl := Option.some.inj H
            have p413 : 0 ≤ (x20_2 : Int) := of_decide_eq_true (by first | (with_reducible assumption) | assumption)
            have q413 : x20_2 < (l0_2.length : Int) := of_decide_eq_true (by first | (with_reducible assumption) | assumption)
            obtain ⟨ad413, A413_1, c413_1, e413, hx413_0, hx413_1, hx413_2, hl413_1, hi413_1⟩ := at_T32 HR0_2.out x20_2 p413 q413
            cases e413
            replace hx413_0 := (HB.out.cell (World.block_lt_of_cell? w _ hx413_0)).trans hx413_0
            replace hx413_1 := (HB.out.cell (World.block_lt_of_cell? w _ hx413_1)).trans hx413_1
            replace hx413_2 := (HB.out.cell (World.block_lt_of_cell? w _ hx413_2)).trans hx413_2
            have HR413_1 := yam hi413_1
            have HC413_1 := yam hl413_1
            clear hi413_1 hl413_1
            replace p413 := eq_true p413
            replace q413 := eq_true q413
            go_wp2_with (first | ((with_reducible refine gate_dst (N := 4) rfl ?_); (try (refine gate_guard (by rfl) ?_; dsimp only)); refine box_event ?hg (N := 4) ?hd (cs := #[.int .i64 0, .slice none 0 0, .int .i64 0]) (t := 32) ?hr ?_; (case hd => rfl); (case hg => rfl); (case hr => first | (go_simp; done) | (go_simp; rfl)); intro gb414 hg w20 hbox hb; have n0_ := yam (blk_below (g := gb411) (o := .cells #[.int .i64 a0_0, .slice A0_1 l0_1.length c0_1, .slice (some ad413) l0_2.length c0_2] 43 (0, 0)) (ybz BK411.out) hb); have n1_ := yam (below_step (by repeat (first | (with_reducible first | exact HB.out | apply yea | apply yen | apply yed | refine below_set ?_ GE411.out) | exact HB.out)) hb); have n2_ := yam (hbox); have n3_ := yam ((by rw [hg]; exact (below_size (by repeat (first | (with_reducible first | exact HB.out | apply yea | apply yen | apply yed | refine below_set ?_ GE411.out) | exact HB.out))) : w.heap.size ≤ gb414)); have n4_ := yam ((by rw [hg]; exact (below_size (by repeat (first | (with_reducible first | exact HB.out | apply yea | apply yen | apply yed | refine below_set ?_ GE411.out) | exact HB.out))) : w.heap.size ≤ gb414)); have n5_ := yam ((by rw [hg]; exact Nat.ne_of_lt (blk_lt (g := gb411) (o := .cells #[.int .i64 a0_0, .slice A0_1 l0_1.length c0_1, .slice (some ad413) l0_2.length c0_2] 43 (0, 0)) (ybz BK411.out)) : gb411 ≠ gb414)); have n6_ := yam ((by rw [hg]; exact Nat.ne_of_gt (blk_lt (g := gb411) (o := .cells #[.int .i64 a0_0, .slice A0_1 l0_1.length c0_1, .slice (some ad413) l0_2.length c0_2] 43 (0, 0)) (ybz BK411.out)) : gb414 ≠ gb411)); clear BK411; clear HB; have BK411 := n0_; have HB := n1_; have BK414 := n2_; have GW414 := n3_; have GE414 := n4_; have NB411_414 := n5_; have NB414_411 := n6_; clear n0_ n1_ n2_ n3_ n4_ n5_ n6_; clear hb hbox hg; have hnb21 := NB414_411.out; have hnc21 := NB411_414.out; have hcz22_0 : w20.cell? ⟨gb414, 0, none⟩ = some (.int .i64 0) := (blk_cell BK414.out 0).trans rfl; have hcz22_1 : w20.cell? ⟨gb414, 1, none⟩ = some (.slice none 0 0) := (blk_cell BK414.out 1).trans rfl; have hcz22_2 : w20.cell? ⟨gb414, 2, none⟩ = some (.int .i64 0) := (blk_cell BK414.out 2).trans rfl; have hfz22_0 := blk_frozen BK414.out 0; have hfz22_1 := blk_frozen BK414.out 1; have hfz22_2 := blk_frozen BK414.out 2; have hcz23_0 : w20.cell? ⟨gb411, 0, none⟩ = some (.int .i64 a0_0) := (blk_cell BK411.out 0).trans rfl; have hcz23_1 : w20.cell? ⟨gb411, 1, none⟩ = some (.slice A0_1 l0_1.length c0_1) := (blk_cell BK411.out 1).trans rfl; have hcz23_2 : w20.cell? ⟨gb411, 2, none⟩ = some (.slice (some ad413) l0_2.length c0_2) := (blk_cell BK411.out 2).trans rfl; have hfz23_0 := blk_frozen BK411.out 0; have hfz23_1 := blk_frozen BK411.out 1; have hfz23_2 := blk_frozen BK411.out 2) | ((with_reducible refine gate_callee (f := 23) rfl ?_); refine goesL_ (some 27) rfl rfl Try.func23 (by kernel_rfl) rfl #[.agg #[.int .i64 ((rd_T32 l0_2 x20_2).f0), .slice A413_1 ((rd_T32 l0_2 x20_2).f1).length c413_1, .int .i64 ((rd_T32 l0_2 x20_2).f2)], .int .i64 a0_0] rfl (by (try simp only [List.map_toArray, List.map_cons, List.map_nil]); first | done | rfl | (simp only [List.length_drop, List.length_take]; rfl)) ?_; (with_reducible refine (impl_RuleValid.calls k2 ((rd_T32 l0_2 x20_2).f0) _ _ ((rd_T32 l0_2 x20_2).f1) ((rd_T32 l0_2 x20_2).f2) a0_0 false _ ?side1 ?side2 A13.out).mono ?_); (case side1 => exact Kd.C_below HR413_1.out (by repeat (first | (with_reducible first | exact HB.out | apply yea | apply yen | apply yed | refine below_set ?_ GE411.out | refine below_set ?_ GE414.out) | exact HB.out))); (case side2 => exact HC413_1.out); rintro e w24 ⟨rfl, hb⟩; refine ⟨_, rfl, ?_⟩; have n0_ := yam (blk_below (g := gb411) (o := .cells #[.int .i64 a0_0, .slice A0_1 l0_1.length c0_1, .slice (some ad413) l0_2.length c0_2] 43 (0, 0)) (by (with_reducible repeat (first | refine ybn ?_ _ | refine ybd ?_ | refine yba ?_ _)); refine blk_far ?_ NB411_414.out _; (with_reducible repeat (first | refine ybn ?_ _ | refine ybd ?_ | refine yba ?_ _)); refine blk_far ?_ NB411_414.out _; (with_reducible repeat (first | refine ybn ?_ _ | refine ybd ?_ | refine yba ?_ _)); refine blk_far ?_ NB411_414.out _; (with_reducible repeat (first | refine ybn ?_ _ | refine ybd ?_ | refine yba ?_ _)); exact BK411.out) hb); have n1_ := yam (blk_below (g := gb414) (o := .cells #[.int .i64 ((rd_T32 l0_2 x20_2).f0), .slice A413_1 ((rd_T32 l0_2 x20_2).f1).length c413_1, .int .i64 ((rd_T32 l0_2 x20_2).f2)] 32 (0, 0)) (by (with_reducible repeat (first | refine ybn ?_ _ | refine ybd ?_ | refine yba ?_ _)); refine blk_put (cs := #[.int .i64 ((rd_T32 l0_2 x20_2).f0), .slice A413_1 ((rd_T32 l0_2 x20_2).f1).length c413_1, .int .i64 0]) ?_ 2 _ rfl; (with_reducible repeat (first | refine ybn ?_ _ | refine ybd ?_ | refine yba ?_ _)); refine blk_put (cs := #[.int .i64 ((rd_T32 l0_2 x20_2).f0), .slice none 0 0, .int .i64 0]) ?_ 1 _ rfl; (with_reducible repeat (first | refine ybn ?_ _ | refine ybd ?_ | refine yba ?_ _)); refine blk_put (cs := #[.int .i64 0, .slice none 0 0, .int .i64 0]) ?_ 0 _ rfl; (with_reducible repeat (first | refine ybn ?_ _ | refine ybd ?_ | refine yba ?_ _)); exact BK414.out) hb); have n2_ := yam (below_step (by repeat (first | (with_reducible first | exact HB.out | apply yea | apply yen | apply yed | refine below_set ?_ GE411.out | refine below_set ?_ GE414.out) | exact HB.out)) hb); clear BK411; clear BK414; clear HB; have BK411 := n0_; have BK414 := n1_; have HB := n2_; clear n0_ n1_ n2_; (try clear hb); (try clear hb2); (try clear hk); (try clear hi)))
            go_ret
            exact ⟨by first | rfl | (simp [errW_none, errW_some] <;> rfl) | (simp [*, errW_none, errW_some] <;> rfl), by repeat (first | (with_reducible first | exact HB.out | apply yea | apply yen | apply yed | refine below_set ?_ GE411.out | refine below_set ?_ GE414.out) | exact HB.out)⟩
          subst c14
          have H1 : (impl_PuzzleValid.l0 k2 l0_2 (l0_2.length : Int) (wrap64 (x20_2 + 1)) a0_0 l0_1 l0_2) = some r := by rw [if_pos rfl] at H; exact H
          clear H
          have H := H1
          clear H1
          have H' := yam H
          clear H
          have p413 : 0 ≤ (x20_2 : Int) := of_decide_eq_true (by first | (with_reducible assumption) | assumption)
          have q413 : x20_2 < (l0_2.length : Int) := of_decide_eq_true (by first | (with_reducible assumption) | assumption)
          obtain ⟨ad413, A413_1, c413_1, e413, hx413_0, hx413_1, hx413_2, hl413_1, hi413_1⟩ := at_T32 HR0_2.out x20_2 p413 q413
          cases e413
          replace hx413_0 := (HB.out.cell (World.block_lt_of_cell? w _ hx413_0)).trans hx413_0
          replace hx413_1 := (HB.out.cell (World.block_lt_of_cell? w _ hx413_1)).trans hx413_1
          replace hx413_2 := (HB.out.cell (World.block_lt_of_cell? w _ hx413_2)).trans hx413_2
          have HR413_1 := yam hi413_1
          have HC413_1 := yam hl413_1
          clear hi413_1 hl413_1
          replace p413 := eq_true p413
          replace q413 := eq_true q413
          go_wp2_with (first | ((with_reducible refine gate_dst (N := 4) rfl ?_); (try (refine gate_guard (by rfl) ?_; dsimp only)); refine box_event ?hg (N := 4) ?hd (cs := #[.int .i64 0, .slice none 0 0, .int .i64 0]) (t := 32) ?hr ?_; (case hd => rfl); (case hg => rfl); (case hr => first | (go_simp; done) | (go_simp; rfl)); intro gb414 hg w15 hbox hb; have n0_ := yam (blk_below (g := gb411) (o := .cells #[.int .i64 a0_0, .slice A0_1 l0_1.length c0_1, .slice (some ad413) l0_2.length c0_2] 43 (0, 0)) (ybz BK411.out) hb); have n1_ := yam (below_step (by repeat (first | (with_reducible first | exact HB.out | apply yea | apply yen | apply yed | refine below_set ?_ GE411.out) | exact HB.out)) hb); have n2_ := yam (hbox); have n3_ := yam ((by rw [hg]; exact (below_size (by repeat (first | (with_reducible first | exact HB.out | apply yea | apply yen | apply yed | refine below_set ?_ GE411.out) | exact HB.out))) : w.heap.size ≤ gb414)); have n4_ := yam ((by rw [hg]; exact (below_size (by repeat (first | (with_reducible first | exact HB.out | apply yea | apply yen | apply yed | refine below_set ?_ GE411.out) | exact HB.out))) : w.heap.size ≤ gb414)); have n5_ := yam ((by rw [hg]; exact Nat.ne_of_lt (blk_lt (g := gb411) (o := .cells #[.int .i64 a0_0, .slice A0_1 l0_1.length c0_1, .slice (some ad413) l0_2.length c0_2] 43 (0, 0)) (ybz BK411.out)) : gb411 ≠ gb414)); have n6_ := yam ((by rw [hg]; exact Nat.ne_of_gt (blk_lt (g := gb411) (o := .cells #[.int .i64 a0_0, .slice A0_1 l0_1.length c0_1, .slice (some ad413) l0_2.length c0_2] 43 (0, 0)) (ybz BK411.out)) : gb414 ≠ gb411)); clear BK411; clear HB; have BK411 := n0_; have HB := n1_; have BK414 := n2_; have GW414 := n3_; have GE414 := n4_; have NB411_414 := n5_; have NB414_411 := n6_; clear n0_ n1_ n2_ n3_ n4_ n5_ n6_; clear hb hbox hg; have hnb16 := NB414_411.out; have hnc16 := NB411_414.out; have hcz17_0 : w15.cell? ⟨gb414, 0, none⟩ = some (.int .i64 0) := (blk_cell BK414.out 0).trans rfl; have hcz17_1 : w15.cell? ⟨gb414, 1, none⟩ = some (.slice none 0 0) := (blk_cell BK414.out 1).trans rfl; have hcz17_2 : w15.cell? ⟨gb414, 2, none⟩ = some (.int .i64 0) := (blk_cell BK414.out 2).trans rfl; have hfz17_0 := blk_frozen BK414.out 0; have hfz17_1 := blk_frozen BK414.out 1; have hfz17_2 := blk_frozen BK414.out 2; have hcz18_0 : w15.cell? ⟨gb411, 0, none⟩ = some (.int .i64 a0_0) := (blk_cell BK411.out 0).trans rfl; have hcz18_1 : w15.cell? ⟨gb411, 1, none⟩ = some (.slice A0_1 l0_1.length c0_1) := (blk_cell BK411.out 1).trans rfl; have hcz18_2 : w15.cell? ⟨gb411, 2, none⟩ = some (.slice (some ad413) l0_2.length c0_2) := (blk_cell BK411.out 2).trans rfl; have hfz18_0 := blk_frozen BK411.out 0; have hfz18_1 := blk_frozen BK411.out 1; have hfz18_2 := blk_frozen BK411.out 2) | ((with_reducible refine gate_callee (f := 23) rfl ?_); refine goesL_ (some 27) rfl rfl Try.func23 (by kernel_rfl) rfl #[.agg #[.int .i64 ((rd_T32 l0_2 x20_2).f0), .slice A413_1 ((rd_T32 l0_2 x20_2).f1).length c413_1, .int .i64 ((rd_T32 l0_2 x20_2).f2)], .int .i64 a0_0] rfl (by (try simp only [List.map_toArray, List.map_cons, List.map_nil]); first | done | rfl | (simp only [List.length_drop, List.length_take]; rfl)) ?_; (with_reducible refine (impl_RuleValid.calls k2 ((rd_T32 l0_2 x20_2).f0) _ _ ((rd_T32 l0_2 x20_2).f1) ((rd_T32 l0_2 x20_2).f2) a0_0 true _ ?side1 ?side2 A13.out).mono ?_); (case side1 => exact Kd.C_below HR413_1.out (by repeat (first | (with_reducible first | exact HB.out | apply yea | apply yen | apply yed | refine below_set ?_ GE411.out | refine below_set ?_ GE414.out) | exact HB.out))); (case side2 => exact HC413_1.out); rintro e w19 ⟨rfl, hb⟩; refine ⟨_, rfl, ?_⟩; have n0_ := yam (blk_below (g := gb411) (o := .cells #[.int .i64 a0_0, .slice A0_1 l0_1.length c0_1, .slice (some ad413) l0_2.length c0_2] 43 (0, 0)) (by (with_reducible repeat (first | refine ybn ?_ _ | refine ybd ?_ | refine yba ?_ _)); refine blk_far ?_ NB411_414.out _; (with_reducible repeat (first | refine ybn ?_ _ | refine ybd ?_ | refine yba ?_ _)); refine blk_far ?_ NB411_414.out _; (with_reducible repeat (first | refine ybn ?_ _ | refine ybd ?_ | refine yba ?_ _)); refine blk_far ?_ NB411_414.out _; (with_reducible repeat (first | refine ybn ?_ _ | refine ybd ?_ | refine yba ?_ _)); exact BK411.out) hb); have n1_ := yam (blk_below (g := gb414) (o := .cells #[.int .i64 ((rd_T32 l0_2 x20_2).f0), .slice A413_1 ((rd_T32 l0_2 x20_2).f1).length c413_1, .int .i64 ((rd_T32 l0_2 x20_2).f2)] 32 (0, 0)) (by (with_reducible repeat (first | refine ybn ?_ _ | refine ybd ?_ | refine yba ?_ _)); refine blk_put (cs := #[.int .i64 ((rd_T32 l0_2 x20_2).f0), .slice A413_1 ((rd_T32 l0_2 x20_2).f1).length c413_1, .int .i64 0]) ?_ 2 _ rfl; (with_reducible repeat (first | refine ybn ?_ _ | refine ybd ?_ | refine yba ?_ _)); refine blk_put (cs := #[.int .i64 ((rd_T32 l0_2 x20_2).f0), .slice none 0 0, .int .i64 0]) ?_ 1 _ rfl; (with_reducible repeat (first | refine ybn ?_ _ | refine ybd ?_ | refine yba ?_ _)); refine blk_put (cs := #[.int .i64 0, .slice none 0 0, .int .i64 0]) ?_ 0 _ rfl; (with_reducible repeat (first | refine ybn ?_ _ | refine ybd ?_ | refine yba ?_ _)); exact BK414.out) hb); have n2_ := yam (below_step (by repeat (first | (with_reducible first | exact HB.out | apply yea | apply yen | apply yed | refine below_set ?_ GE411.out | refine below_set ?_ GE414.out) | exact HB.out)) hb); clear BK411; clear BK414; clear HB; have BK411 := n0_; have BK414 := n1_; have HB := n2_; clear n0_ n1_ n2_; (try clear hb); (try clear hb2); (try clear hk); (try clear hi)))
          go_roundg k2
          case measure => have := HJ1.out; have := HK2.out; omega
          case rel => exact ⟨(wrap64 (x20_2 + 1)), (by first | rfl | (simp; done) | (simp [*]; done)), H', ⟨by have := HJ1.out; have := HK2.out; omega⟩, ⟨by (with_reducible repeat (first | refine ybn ?_ _ | refine ybd ?_ | refine yba ?_ _)); exact BK411.out⟩, ⟨by repeat (first | (with_reducible first | exact HB.out | apply yea | apply yen | apply yed | refine below_set ?_ GE411.out | refine below_set ?_ GE414.out) | exact HB.out)⟩⟩
end Go.Proofs.Ythfbjkniinfgcaa.P
namespace Go.Proofs.Ythfbjkniinfgcaa.P
open Go.RowKit Go.Proofs.YthfbjkniinfgcaaW.PrintWords Go.Proofs.YthfbjkniinfgcaaW.PrintLast Go.Proofs.YthfbjkniinfgcaaW.PrintMore
attribute [local go_sem] max2_int min2_int max_two min_two max_three min_three max_four min_four   -- for this text's walks alone
set_option linter.unusedVariables false
set_option linter.unusedSimpArgs false

/-! ### impl_valuesHold: function 82 -/
def impl_valuesHold.l0 : Nat → List Int → Int → Int → List Int → Int → Int → Int → List Int → Int → Option (Bool)
  | 0, _, _, _, _, _, _, _, _, _ => none
  | k + 1, x1, x5, x6, x9, x10, x11, x516000, x516001, x516002 => if x11 < x10 then (if 0 ≤ x11 then (if x11 < (x9.length : Int) then (if x516000 = 1 then (if x11 ≤ (x1.length : Int) then ((slices_Contains_int_int.f k (x1.take (x11 : Int).toNat) (rd x9 x11)).bind fun t518 => (if t518 = true then (some false) else (impl_valuesHold.l0 k x1 (wrap64 (x5 + (rd x9 x11))) (wrap64 (x6 * (rd x9 x11))) x9 x10 (wrap64 (x11 + 1)) x516000 x516001 x516002))) else (none)) else (impl_valuesHold.l0 k x1 (wrap64 (x5 + (rd x9 x11))) (wrap64 (x6 * (rd x9 x11))) x9 x10 (wrap64 (x11 + 1)) x516000 x516001 x516002)) else (none)) else (none)) else (if x516000 = 2 then (some (x5 == x516002)) else (if x516000 = 3 then (some (x6 == x516002)) else (if x516000 = 4 then (if 0 < (x1.length : Int) then (if 1 < (x1.length : Int) then (some (decide ((rd x1 0) < (rd x1 1)))) else (none)) else (none)) else (if x516000 = 5 then (if 0 < (x1.length : Int) then (if 1 < (x1.length : Int) then (some ((mx (wrap64 ((rd x1 0) - (rd x1 1))) (wrap64 ((rd x1 1) - (rd x1 0)))) == x516002)) else (none)) else (none)) else (some true)))))
def impl_valuesHold.f (k : Nat) (a0_0 : Int) (l0_1 : List Int) (a0_2 : Int) (l1 : List Int) : Option (Bool) := impl_valuesHold.l0 k l1 0 1 l1 (l1.length : Int) 0 a0_0 l0_1 a0_2
theorem impl_valuesHold.mono_l : ∀ k, (∀ y0 y1 y2 y3 y4 y5 y6 y7 y8, LeO (impl_valuesHold.l0 k y0 y1 y2 y3 y4 y5 y6 y7 y8) (impl_valuesHold.l0 (k + 1) y0 y1 y2 y3 y4 y5 y6 y7 y8))
  | 0 => fun _ _ _ _ _ _ _ _ _ r h => by simp [impl_valuesHold.l0] at h
  | k + 1 => by
    have ih0 := impl_valuesHold.mono_l k
    · intro y0 y1 y2 y3 y4 y5 y6 y7 y8
      unfold impl_valuesHold.l0
      repeat' first
      | (with_reducible exact ih0 _ _ _ _ _ _ _ _ _)
      | (with_reducible exact slices_Contains_int_int.mono _ _ _)
      | (with_reducible exact LeO.refl _)
      | (with_reducible exact LeO.none _)
      | (with_reducible refine LeO.ite ?_ ?_)
      | (with_reducible refine LeO.bind ?_ (fun _ => ?_))
      | exact ih0 _ _ _ _ _ _ _ _ _
      | exact slices_Contains_int_int.mono _ _ _
      | exact LeO.none _
      | refine LeO.ite ?_ ?_
      | refine LeO.bind ?_ (fun _ => ?_)
theorem impl_valuesHold.mono : ∀ a0 a1 a2 a3 k, LeO (impl_valuesHold.f k a0 a1 a2 a3) (impl_valuesHold.f (k + 1) a0 a1 a2 a3) := by
  intro a0 a1 a2 a3 k
  have ih0 := impl_valuesHold.mono_l k
  unfold impl_valuesHold.f
  repeat' first
      | (with_reducible exact ih0 _ _ _ _ _ _ _ _ _)
      | (with_reducible exact slices_Contains_int_int.mono _ _ _)
      | (with_reducible exact LeO.refl _)
      | (with_reducible exact LeO.none _)
      | (with_reducible refine LeO.ite ?_ ?_)
      | (with_reducible refine LeO.bind ?_ (fun _ => ?_))
      | exact ih0 _ _ _ _ _ _ _ _ _
      | exact slices_Contains_int_int.mono _ _ _
      | exact LeO.none _
      | refine LeO.ite ?_ ?_
      | refine LeO.bind ?_ (fun _ => ?_)
set_option maxHeartbeats 8000000 in
set_option maxRecDepth 100000 in
theorem impl_valuesHold.calls (k : Nat) (a0_0 : Int) (A0_1 : Option Addr) (c0_1 : Nat) (l0_1 : List Int) (a0_2 : Int) (A1 : Option Addr) (c1 : Nat) (l1 : List Int) (r : Bool) (w : World) (hr0_1 : Kd.C (Kd.int .i64) w A0_1 l0_1.length l0_1) (hc0_1 : l0_1.length ≤ c0_1) (hr1 : Kd.C (Kd.int .i64) w A1 l1.length l1) (hc1 : l1.length ≤ c1) (h : impl_valuesHold.f k a0_0 l0_1 a0_2 l1 = some r) :
    Calls Try.prog 82 #[.agg #[.int .i64 a0_0, .slice A0_1 l0_1.length c0_1, .int .i64 a0_2], .slice A1 l1.length c1] w fun e w' => e = .returned (.bool r) ∧ Below w.heap.size w w' := by
  have hu32 := Try.underlying32
  have HR0_1 := yam hr0_1
  have HC0_1 := yam hc0_1
  clear hr0_1 hc0_1
  have HR1 := yam hr1
  have HC1 := yam hc1
  clear hr1 hc1
  have HB := yam (Below.refl w.heap.size w)
  have H : (impl_valuesHold.l0 k l1 0 1 l1 (l1.length : Int) 0 a0_0 l0_1 a0_2) = some r := h
  clear h
  have H' := yam H
  clear H
  go_enter Try.func82, Try.ntmps82
  go_wp2_with (first | ((with_reducible refine gate_dst (N := 2) rfl ?_); refine box_event ?hg (N := 2) ?hd (cs := #[.int .i64 a0_0, .slice A0_1 l0_1.length c0_1, .int .i64 a0_2]) (t := 32) ?hr ?_; (case hd => rfl); (case hg => rfl); (case hr => first | (go_simp; done) | (go_simp; rfl)); intro gb515 hg w3 hbox hb; have n0_ := yam (below_step (yez HB.out) hb); have n1_ := yam (hbox); have n2_ := yam ((by rw [hg]; exact (below_size (yez HB.out)) : w.heap.size ≤ gb515)); have n3_ := yam ((by rw [hg]; exact (below_size (yez HB.out)) : w.heap.size ≤ gb515)); clear HB; have HB := n0_; have BK515 := n1_; have GW515 := n2_; have GE515 := n3_; clear n0_ n1_ n2_ n3_; clear hb hbox hg))
  repeat (go_quiet (first | ((with_reducible refine gate_dst (N := 2) rfl ?_); refine box_event ?hg (N := 2) ?hd (cs := #[.int .i64 a0_0, .slice A0_1 l0_1.length c0_1, .int .i64 a0_2]) (t := 32) ?hr ?_; (case hd => rfl); (case hg => rfl); (case hr => first | (go_simp; done) | (go_simp; rfl)); intro gb515 hg w3 hbox hb; have n0_ := yam (below_step (yez HB.out) hb); have n1_ := yam (hbox); have n2_ := yam ((by rw [hg]; exact (below_size (yez HB.out)) : w.heap.size ≤ gb515)); have n3_ := yam ((by rw [hg]; exact (below_size (yez HB.out)) : w.heap.size ≤ gb515)); clear HB; have HB := n0_; have BK515 := n1_; have GW515 := n2_; have GE515 := n3_; clear n0_ n1_ n2_ n3_; clear hb hbox hg)); try go_wp2_with (first | ((with_reducible refine gate_dst (N := 2) rfl ?_); refine box_event ?hg (N := 2) ?hd (cs := #[.int .i64 a0_0, .slice A0_1 l0_1.length c0_1, .int .i64 a0_2]) (t := 32) ?hr ?_; (case hd => rfl); (case hg => rfl); (case hr => first | (go_simp; done) | (go_simp; rfl)); intro gb515 hg w3 hbox hb; have n0_ := yam (below_step (yez HB.out) hb); have n1_ := yam (hbox); have n2_ := yam ((by rw [hg]; exact (below_size (yez HB.out)) : w.heap.size ≤ gb515)); have n3_ := yam ((by rw [hg]; exact (below_size (yez HB.out)) : w.heap.size ≤ gb515)); clear HB; have HB := n0_; have BK515 := n1_; have GW515 := n2_; have GE515 := n3_; clear n0_ n1_ n2_ n3_; clear hb hbox hg)))
  go_loopg [5, 6, 11] k (fun kq v5 v6 v11 w' => ∃ (x5_1 : Int) (x6_1 : Int) (x11_1 : Int), v5 = .int .i64 x5_1 ∧ v6 = .int .i64 x6_1 ∧ v11 = .int .i64 x11_1 ∧ Aside0 (impl_valuesHold.l0 kq l1 x5_1 x6_1 l1 (l1.length : Int) x11_1 a0_0 l0_1 a0_2 = some r) ∧ Aside0 (kq ≤ k) ∧ Aside0 (w'.heap[gb515]? = some (.cells #[.int .i64 a0_0, (.slice A0_1 l0_1.length c0_1), .int .i64 a0_2] 32 (0, 0))) ∧ Aside0 (Below w.heap.size w w'))
  case atStart => exact ⟨(0), (1), (0), (by first | rfl | (simp; done) | (simp [*]; done)), (by first | rfl | (simp; done) | (simp [*]; done)), (by first | rfl | (simp; done) | (simp [*]; done)), H', ⟨Nat.le_refl _⟩, ⟨by (with_reducible repeat (first | refine ybn ?_ _ | refine ybd ?_ | refine yba ?_ _)); exact BK515.out⟩, ⟨by repeat (first | (with_reducible first | exact HB.out | apply yea | apply yen | apply yed | refine below_set ?_ GE515.out) | exact HB.out)⟩⟩
  case round =>
    clear H'
    try clear c1
    try clear p2
    obtain ⟨x5_1, x6_1, x11_1, rfl, rfl, rfl, HA, HK1, BK515, HB⟩ := hrel
    cases gk with
    | zero => exact absurd HA.out (by simp [impl_valuesHold.l0])
    | succ k1 =>
      have H := HA.out
      clear HA
      simp only [impl_valuesHold.l0] at H
      by_cases c4 : x11_1 < (l1.length : Int)
      rotate_left
      · rw [if_neg c4] at H
        have c4b0 : decide (x11_1 < (l1.length : Int)) = false := decide_eq_false c4
        clear c4
        by_cases c17 : a0_0 = 2
        · rw [if_pos c17] at H
          have c17b0 : (a0_0 == 2) = true := beq_iff_eq.mpr c17
          have c17b1 : (a0_0 != 2) = false := bne_eq_false_iff_eq.mpr c17
          clear c17
          obtain rfl := Option.some.inj H
          have hcz18_0 : wr.cell? ⟨gb515, 0, none⟩ = some (.int .i64 a0_0) := (blk_cell BK515.out 0).trans rfl
          have hcz18_1 : wr.cell? ⟨gb515, 1, none⟩ = some (.slice A0_1 l0_1.length c0_1) := (blk_cell BK515.out 1).trans rfl
          have hcz18_2 : wr.cell? ⟨gb515, 2, none⟩ = some (.int .i64 a0_2) := (blk_cell BK515.out 2).trans rfl
          have hfz18_0 := blk_frozen BK515.out 0
          have hfz18_1 := blk_frozen BK515.out 1
          have hfz18_2 := blk_frozen BK515.out 2
          go_wp2
          repeat (go_quiet (fail); try go_wp2)
          go_ret
          exact ⟨by first | rfl | (simp [errW_none, errW_some] <;> rfl) | (simp [*, errW_none, errW_some] <;> rfl), by repeat (first | (with_reducible first | exact HB.out | apply yea | apply yen | apply yed | refine below_set ?_ GE515.out) | exact HB.out)⟩
        rw [if_neg c17] at H
        have c17b0 : (a0_0 == 2) = false := beq_eq_false_iff_ne.mpr c17
        have c17b1 : (a0_0 != 2) = true := bne_iff_ne.mpr c17
        by_cases c19 : a0_0 = 3
        · rw [if_pos c19] at H
          have c19b0 : (a0_0 == 3) = true := beq_iff_eq.mpr c19
          have c19b1 : (a0_0 != 3) = false := bne_eq_false_iff_eq.mpr c19
          clear c19
          obtain rfl := Option.some.inj H
          have hcz20_0 : wr.cell? ⟨gb515, 0, none⟩ = some (.int .i64 a0_0) := (blk_cell BK515.out 0).trans rfl
          have hcz20_1 : wr.cell? ⟨gb515, 1, none⟩ = some (.slice A0_1 l0_1.length c0_1) := (blk_cell BK515.out 1).trans rfl
          have hcz20_2 : wr.cell? ⟨gb515, 2, none⟩ = some (.int .i64 a0_2) := (blk_cell BK515.out 2).trans rfl
          have hfz20_0 := blk_frozen BK515.out 0
          have hfz20_1 := blk_frozen BK515.out 1
          have hfz20_2 := blk_frozen BK515.out 2
          go_wp2
          repeat (go_quiet (fail); try go_wp2)
          go_ret
          exact ⟨by first | rfl | (simp [errW_none, errW_some] <;> rfl) | (simp [*, errW_none, errW_some] <;> rfl), by repeat (first | (with_reducible first | exact HB.out | apply yea | apply yen | apply yed | refine below_set ?_ GE515.out) | exact HB.out)⟩
        rw [if_neg c19] at H
        have c19b0 : (a0_0 == 3) = false := beq_eq_false_iff_ne.mpr c19
        have c19b1 : (a0_0 != 3) = true := bne_iff_ne.mpr c19
        by_cases c21 : a0_0 = 4
        · rw [if_pos c21] at H
          have c21b0 : (a0_0 == 4) = true := beq_iff_eq.mpr c21
          have c21b1 : (a0_0 != 4) = false := bne_eq_false_iff_eq.mpr c21
          clear c21
          by_cases c22 : 0 < (l1.length : Int)
          rotate_left
          · rw [if_neg c22] at H
            exact absurd H (by simp)
          rw [if_pos c22] at H
          have c22b0 : decide (0 < (l1.length : Int)) = true := decide_eq_true c22
          have c22b1 : decide (0 < l1.length) = true := decide_eq_true (by omega)
          clear c22
          by_cases c23 : 1 < (l1.length : Int)
          rotate_left
          · rw [if_neg c23] at H
            exact absurd H (by simp)
          rw [if_pos c23] at H
          have c23b0 : decide (1 < (l1.length : Int)) = true := decide_eq_true c23
          have c23b1 : decide (1 < l1.length) = true := decide_eq_true (by omega)
          clear c23
          obtain rfl := Option.some.inj H
          have hcz24_0 : wr.cell? ⟨gb515, 0, none⟩ = some (.int .i64 a0_0) := (blk_cell BK515.out 0).trans rfl
          have hcz24_1 : wr.cell? ⟨gb515, 1, none⟩ = some (.slice A0_1 l0_1.length c0_1) := (blk_cell BK515.out 1).trans rfl
          have hcz24_2 : wr.cell? ⟨gb515, 2, none⟩ = some (.int .i64 a0_2) := (blk_cell BK515.out 2).trans rfl
          have hfz24_0 := blk_frozen BK515.out 0
          have hfz24_1 := blk_frozen BK515.out 1
          have hfz24_2 := blk_frozen BK515.out 2
          have p519 : 0 ≤ (0 : Int) := (by omega)
          have q519 : 0 < (l1.length : Int) := of_decide_eq_true (by first | (with_reducible assumption) | assumption)
          obtain ⟨ad519, e519, hx519_0⟩ := Kd.at_int HR1.out 0 p519 q519
          cases e519
          have qi519 : (0 < l1.length) = True := eq_true (by omega)
          (try rw [show ((0 : Int)).toNat = 0 from rfl] at hx519_0)
          (try rw [Addr.add_zero'] at hx519_0)
          replace hx519_0 := (HB.out.cell (World.block_lt_of_cell? w _ hx519_0)).trans hx519_0
          replace p519 := eq_true p519
          replace q519 := eq_true q519
          have p520 : 0 ≤ (1 : Int) := (by omega)
          have q520 : 1 < (l1.length : Int) := of_decide_eq_true (by first | (with_reducible assumption) | assumption)
          obtain ⟨ad520, e520, hx520_0⟩ := Kd.at_int HR1.out 1 p520 q520
          obtain rfl : ad519 = ad520 := (by injection e520)
          (try simp only [show (1 : Int).toNat = 1 from rfl, Nat.reduceMul, Nat.reduceEqDiff, Go.Addr.add, ↓reduceIte] at hx520_0)
          have qi520 : (1 < l1.length) = True := eq_true (by omega)
          (try rw [show ((1 : Int)).toNat = 1 from rfl] at hx520_0)
          replace hx520_0 := (HB.out.cell (World.block_lt_of_cell? w _ hx520_0)).trans hx520_0
          replace p520 := eq_true p520
          replace q520 := eq_true q520
          go_wp2
          repeat (go_quiet (fail); try go_wp2)
          go_ret
          exact ⟨by first | rfl | (simp [errW_none, errW_some] <;> rfl) | (simp [*, errW_none, errW_some] <;> rfl), by repeat (first | (with_reducible first | exact HB.out | apply yea | apply yen | apply yed | refine below_set ?_ GE515.out) | exact HB.out)⟩
        rw [if_neg c21] at H
        have c21b0 : (a0_0 == 4) = false := beq_eq_false_iff_ne.mpr c21
        have c21b1 : (a0_0 != 4) = true := bne_iff_ne.mpr c21
        by_cases c25 : a0_0 = 5
        rotate_left
        · rw [if_neg c25] at H
          have c25b0 : (a0_0 == 5) = false := beq_eq_false_iff_ne.mpr c25
          have c25b1 : (a0_0 != 5) = true := bne_iff_ne.mpr c25
          obtain rfl := Option.some.inj H
          have hcz30_0 : wr.cell? ⟨gb515, 0, none⟩ = some (.int .i64 a0_0) := (blk_cell BK515.out 0).trans rfl
          have hcz30_1 : wr.cell? ⟨gb515, 1, none⟩ = some (.slice A0_1 l0_1.length c0_1) := (blk_cell BK515.out 1).trans rfl
          have hcz30_2 : wr.cell? ⟨gb515, 2, none⟩ = some (.int .i64 a0_2) := (blk_cell BK515.out 2).trans rfl
          have hfz30_0 := blk_frozen BK515.out 0
          have hfz30_1 := blk_frozen BK515.out 1
          have hfz30_2 := blk_frozen BK515.out 2
          go_wp2
          repeat (go_quiet (fail); try go_wp2)
          go_ret
          exact ⟨by first | rfl | (simp [errW_none, errW_some] <;> rfl) | (simp [*, errW_none, errW_some] <;> rfl), by repeat (first | (with_reducible first | exact HB.out | apply yea | apply yen | apply yed | refine below_set ?_ GE515.out) | exact HB.out)⟩

        rw [if_pos c25] at H
        have c25b0 : (a0_0 == 5) = true := beq_iff_eq.mpr c25
        have c25b1 : (a0_0 != 5) = false := bne_eq_false_iff_eq.mpr c25
        clear c25
        by_cases c26 : 0 < (l1.length : Int)
        rotate_left
        · rw [if_neg c26] at H
          exact absurd H (by simp)
        rw [if_pos c26] at H
        have c26b0 : decide (0 < (l1.length : Int)) = true := decide_eq_true c26
        have c26b1 : decide (0 < l1.length) = true := decide_eq_true (by omega)
        clear c26
        by_cases c27 : 1 < (l1.length : Int)
        rotate_left
        · rw [if_neg c27] at H
          exact absurd H (by simp)
        rw [if_pos c27] at H
        have c27b0 : decide (1 < (l1.length : Int)) = true := decide_eq_true c27
        have c27b1 : decide (1 < l1.length) = true := decide_eq_true (by omega)
        clear c27
        obtain ⟨ji28, hji28⟩ : ∃ j_ : Int, (mx (wrap64 ((rd l1 0) - (rd l1 1))) (wrap64 ((rd l1 1) - (rd l1 0)))) = j_ := ⟨_, rfl⟩
        replace H : (some ((ji28) == a0_2)) = some r := by first | (rw [hji28] at H; exact H) | (simp only [hji28] at H ⊢; exact H)
        have hji28_ : (if (wrap64 ((rd l1 0) - (rd l1 1))) < (wrap64 ((rd l1 1) - (rd l1 0))) then (wrap64 ((rd l1 1) - (rd l1 0))) else (wrap64 ((rd l1 0) - (rd l1 1)))) = ji28 := hji28
        obtain rfl := Option.some.inj H
        have hcz29_0 : wr.cell? ⟨gb515, 0, none⟩ = some (.int .i64 a0_0) := (blk_cell BK515.out 0).trans rfl
        have hcz29_1 : wr.cell? ⟨gb515, 1, none⟩ = some (.slice A0_1 l0_1.length c0_1) := (blk_cell BK515.out 1).trans rfl
        have hcz29_2 : wr.cell? ⟨gb515, 2, none⟩ = some (.int .i64 a0_2) := (blk_cell BK515.out 2).trans rfl
        have hfz29_0 := blk_frozen BK515.out 0
        have hfz29_1 := blk_frozen BK515.out 1
        have hfz29_2 := blk_frozen BK515.out 2
        have p521 : 0 ≤ (0 : Int) := (by omega)
        have q521 : 0 < (l1.length : Int) := of_decide_eq_true (by first | (with_reducible assumption) | assumption)
        obtain ⟨ad521, e521, hx521_0⟩ := Kd.at_int HR1.out 0 p521 q521
        cases e521
        have qi521 : (0 < l1.length) = True := eq_true (by omega)
        (try rw [show ((0 : Int)).toNat = 0 from rfl] at hx521_0)
        (try rw [Addr.add_zero'] at hx521_0)
        replace hx521_0 := (HB.out.cell (World.block_lt_of_cell? w _ hx521_0)).trans hx521_0
        replace p521 := eq_true p521
        replace q521 := eq_true q521
        have p522 : 0 ≤ (1 : Int) := (by omega)
        have q522 : 1 < (l1.length : Int) := of_decide_eq_true (by first | (with_reducible assumption) | assumption)
        obtain ⟨ad522, e522, hx522_0⟩ := Kd.at_int HR1.out 1 p522 q522
        obtain rfl : ad521 = ad522 := (by injection e522)
        (try simp only [show (1 : Int).toNat = 1 from rfl, Nat.reduceMul, Nat.reduceEqDiff, Go.Addr.add, ↓reduceIte] at hx522_0)
        have qi522 : (1 < l1.length) = True := eq_true (by omega)
        (try rw [show ((1 : Int)).toNat = 1 from rfl] at hx522_0)
        replace hx522_0 := (HB.out.cell (World.block_lt_of_cell? w _ hx522_0)).trans hx522_0
        replace p522 := eq_true p522
        replace q522 := eq_true q522
        have p523 : 0 ≤ (1 : Int) := (by omega)
        have q523 : 1 < (l1.length : Int) := of_decide_eq_true (by first | (with_reducible assumption) | assumption)
        obtain ⟨ad523, e523, hx523_0⟩ := Kd.at_int HR1.out 1 p523 q523
        obtain rfl : ad521 = ad523 := (by injection e523)
        (try simp only [show (1 : Int).toNat = 1 from rfl, Nat.reduceMul, Nat.reduceEqDiff, Go.Addr.add, ↓reduceIte] at hx523_0)
        have qi523 : (1 < l1.length) = True := eq_true (by omega)
        (try rw [show ((1 : Int)).toNat = 1 from rfl] at hx523_0)
        replace hx523_0 := (HB.out.cell (World.block_lt_of_cell? w _ hx523_0)).trans hx523_0
        replace p523 := eq_true p523
        replace q523 := eq_true q523
        have p524 : 0 ≤ (0 : Int) := (by omega)
        have q524 : 0 < (l1.length : Int) := of_decide_eq_true (by first | (with_reducible assumption) | assumption)
        obtain ⟨ad524, e524, hx524_0⟩ := Kd.at_int HR1.out 0 p524 q524
        obtain rfl : ad521 = ad524 := (by injection e524)
        have qi524 : (0 < l1.length) = True := eq_true (by omega)
        (try rw [show ((0 : Int)).toNat = 0 from rfl] at hx524_0)
        (try rw [Addr.add_zero'] at hx524_0)
        replace hx524_0 := (HB.out.cell (World.block_lt_of_cell? w _ hx524_0)).trans hx524_0
        replace p524 := eq_true p524
        replace q524 := eq_true q524
        go_wp2
        repeat (go_quiet (fail); try go_wp2)
        go_ret
        exact ⟨by first | rfl | (simp [errW_none, errW_some] <;> rfl) | (simp only [← hji28]; first | rfl | (simp [errW_none, errW_some] <;> rfl)) | (simp [*, errW_none, errW_some] <;> rfl), by repeat (first | (with_reducible first | exact HB.out | apply yea | apply yen | apply yed | refine below_set ?_ GE515.out) | exact HB.out)⟩
      rw [if_pos c4] at H
      have c4b0 : decide (x11_1 < (l1.length : Int)) = true := decide_eq_true c4
      clear c4
      by_cases c5 : 0 ≤ x11_1
      rotate_left
      · rw [if_neg c5] at H
        exact absurd H (by simp)
      rw [if_pos c5] at H
      have c5b0 : decide (0 ≤ x11_1) = true := decide_eq_true c5
      clear c5
      by_cases c6 : x11_1 < (l1.length : Int)
      rotate_left
      · rw [if_neg c6] at H
        exact absurd H (by simp)
      rw [if_pos c6] at H
      have c6b0 : decide (x11_1 < (l1.length : Int)) = true := decide_eq_true c6
      clear c6
      by_cases c7 : a0_0 = 1
      rotate_left
      · rw [if_neg c7] at H
        have c7b0 : (a0_0 == 1) = false := beq_eq_false_iff_ne.mpr c7
        have c7b1 : (a0_0 != 1) = true := bne_iff_ne.mpr c7
        have H' := yam H
        clear H
        have p516 : 0 ≤ (x11_1 : Int) := of_decide_eq_true (by first | (with_reducible assumption) | assumption)
        have q516 : x11_1 < (l1.length : Int) := of_decide_eq_true (by first | (with_reducible assumption) | assumption)
        obtain ⟨ad516, e516, hx516_0⟩ := Kd.at_int HR1.out x11_1 p516 q516
        cases e516
        replace hx516_0 := (HB.out.cell (World.block_lt_of_cell? w _ hx516_0)).trans hx516_0
        replace p516 := eq_true p516
        replace q516 := eq_true q516
        have hcz16_0 : wr.cell? ⟨gb515, 0, none⟩ = some (.int .i64 a0_0) := (blk_cell BK515.out 0).trans rfl
        have hcz16_1 : wr.cell? ⟨gb515, 1, none⟩ = some (.slice A0_1 l0_1.length c0_1) := (blk_cell BK515.out 1).trans rfl
        have hcz16_2 : wr.cell? ⟨gb515, 2, none⟩ = some (.int .i64 a0_2) := (blk_cell BK515.out 2).trans rfl
        have hfz16_0 := blk_frozen BK515.out 0
        have hfz16_1 := blk_frozen BK515.out 1
        have hfz16_2 := blk_frozen BK515.out 2
        go_wp2
        repeat (go_quiet (fail); try go_wp2)
        go_roundg k1
        case measure => have := HK1.out; omega
        case rel => exact ⟨(wrap64 (x5_1 + (rd l1 x11_1))), (wrap64 (x6_1 * (rd l1 x11_1))), (wrap64 (x11_1 + 1)), (by first | rfl | (simp; done) | (simp [*]; done)), (by first | rfl | (simp; done) | (simp [*]; done)), (by first | rfl | (simp; done) | (simp [*]; done)), H', ⟨by have := HK1.out; omega⟩, ⟨by (with_reducible repeat (first | refine ybn ?_ _ | refine ybd ?_ | refine yba ?_ _)); exact BK515.out⟩, ⟨by repeat (first | (with_reducible first | exact HB.out | apply yea | apply yen | apply yed | refine below_set ?_ GE515.out) | exact HB.out)⟩⟩
      rw [if_pos c7] at H
      have c7b0 : (a0_0 == 1) = true := beq_iff_eq.mpr c7
      have c7b1 : (a0_0 != 1) = false := bne_eq_false_iff_eq.mpr c7
      clear c7
      have c8b0 := eq_true (of_decide_eq_true (by first | (with_reducible assumption) | assumption) : 0 ≤ x11_1)
      by_cases c9 : x11_1 ≤ (l1.length : Int)
      rotate_left
      · rw [if_neg c9] at H
        exact absurd H (by simp)
      rw [if_pos c9] at H
      have c9b0 := eq_true c9
      have c9b1 : decide (x11_1 ≤ (l1.length : Int)) = true := decide_eq_true c9
      clear c9
      replace H := Option.bind_eq_some_iff.mp H
      obtain ⟨t518, A100, H⟩ := H
      try dsimp only at H
      have A10 := yam A100
      clear A100
      by_cases c11 : t518 = true
      · subst c11
        have H1 : (some false) = some r := by rw [if_pos rfl] at H; exact H
        clear H
        have H := H1
        clear H1
        obtain rfl := Option.some.inj H
        have p516 : 0 ≤ (x11_1 : Int) := of_decide_eq_true (by first | (with_reducible assumption) | assumption)
        have q516 : x11_1 < (l1.length : Int) := of_decide_eq_true (by first | (with_reducible assumption) | assumption)
        obtain ⟨ad516, e516, hx516_0⟩ := Kd.at_int HR1.out x11_1 p516 q516
        cases e516
        replace hx516_0 := (HB.out.cell (World.block_lt_of_cell? w _ hx516_0)).trans hx516_0
        replace p516 := eq_true p516
        replace q516 := eq_true q516
        have hcz12_0 : wr.cell? ⟨gb515, 0, none⟩ = some (.int .i64 a0_0) := (blk_cell BK515.out 0).trans rfl
        have hcz12_1 : wr.cell? ⟨gb515, 1, none⟩ = some (.slice A0_1 l0_1.length c0_1) := (blk_cell BK515.out 1).trans rfl
        have hcz12_2 : wr.cell? ⟨gb515, 2, none⟩ = some (.int .i64 a0_2) := (blk_cell BK515.out 2).trans rfl
        have hfz12_0 := blk_frozen BK515.out 0
        have hfz12_1 := blk_frozen BK515.out 1
        have hfz12_2 := blk_frozen BK515.out 2
        obtain ⟨i013, hi013, _, hsz13, _⟩ := info_parts info3
        obtain ⟨hcut13, hA13, hC13⟩ := print_take_of (P := Try.prog) (Value.int .i64) 0 23 3 .i64 Try.underlying23 hi013 hsz13 (some ad516) c1 l1 x11_1 (of_decide_eq_true (by first | (with_reducible assumption) | assumption)) (of_decide_eq_true (by first | (with_reducible assumption) | assumption)) HC1.out
        have hl13_ : (l1.take (x11_1 : Int).toNat).length = (x11_1 : Int).toNat := by
          have e0_ : 0 ≤ (x11_1 : Int) := of_decide_eq_true (by first | (with_reducible assumption) | assumption)
          have e1_ : (x11_1 : Int) ≤ (l1.length : Int) := of_decide_eq_true (by first | (with_reducible assumption) | assumption)
          rw [List.length_take]; omega
        have HR517 := yam (Kd.C_of_reads (h1 := fun _ => rfl) (hA13 _ (Kd.reads_of_C HR1.out)))
        have HC517 := yam hC13
        clear hA13 hC13 hi013 hsz13
        go_wp2_with (first | (go_at_call 69; (first | (with_reducible refine (slices_Contains_int_int.calls k1 _ _ (l1.take (x11_1 : Int).toNat) (rd l1 x11_1) true _ ?side1 ?side2 A10.out).mono ?_) | (rw [← hl13_]; (with_reducible refine (slices_Contains_int_int.calls k1 _ _ (l1.take (x11_1 : Int).toNat) (rd l1 x11_1) true _ ?side1 ?side2 A10.out).mono ?_))); (case side1 => exact Kd.Cz ((Kd.C_below HR517.out HB.out))); (case side2 => exact HC517.out); rintro e w' ⟨rfl, ⟨nd, rfl⟩⟩; (try first | exact ⟨rfl, _, World.drewN_drewN _ _ _⟩ | exact ⟨rfl, _, Eq.trans (World.drewN_drewN _ _ _) (congrArg (World.drewN _) (Nat.add_assoc _ _ _))⟩)))
        repeat (go_quiet (first | (go_at_call 69; (first | (with_reducible refine (slices_Contains_int_int.calls k1 _ _ (l1.take (x11_1 : Int).toNat) (rd l1 x11_1) true _ ?side1 ?side2 A10.out).mono ?_) | (rw [← hl13_]; (with_reducible refine (slices_Contains_int_int.calls k1 _ _ (l1.take (x11_1 : Int).toNat) (rd l1 x11_1) true _ ?side1 ?side2 A10.out).mono ?_))); (case side1 => exact Kd.Cz ((Kd.C_below HR517.out HB.out))); (case side2 => exact HC517.out); rintro e w' ⟨rfl, ⟨nd, rfl⟩⟩; (try first | exact ⟨rfl, _, World.drewN_drewN _ _ _⟩ | exact ⟨rfl, _, Eq.trans (World.drewN_drewN _ _ _) (congrArg (World.drewN _) (Nat.add_assoc _ _ _))⟩))); try go_wp2_with (first | (go_at_call 69; (first | (with_reducible refine (slices_Contains_int_int.calls k1 _ _ (l1.take (x11_1 : Int).toNat) (rd l1 x11_1) true _ ?side1 ?side2 A10.out).mono ?_) | (rw [← hl13_]; (with_reducible refine (slices_Contains_int_int.calls k1 _ _ (l1.take (x11_1 : Int).toNat) (rd l1 x11_1) true _ ?side1 ?side2 A10.out).mono ?_))); (case side1 => exact Kd.Cz ((Kd.C_below HR517.out HB.out))); (case side2 => exact HC517.out); rintro e w' ⟨rfl, ⟨nd, rfl⟩⟩; (try first | exact ⟨rfl, _, World.drewN_drewN _ _ _⟩ | exact ⟨rfl, _, Eq.trans (World.drewN_drewN _ _ _) (congrArg (World.drewN _) (Nat.add_assoc _ _ _))⟩))))
        go_ret
        exact ⟨by first | rfl | (simp [errW_none, errW_some] <;> rfl) | (simp [*, errW_none, errW_some] <;> rfl), by repeat (first | (with_reducible first | exact HB.out | apply yea | apply yen | apply yed | refine below_set ?_ GE515.out) | exact HB.out)⟩
      replace c11 := Bool.eq_false_iff.mpr c11
      subst c11
      have H1 : (impl_valuesHold.l0 k1 l1 (wrap64 (x5_1 + (rd l1 x11_1))) (wrap64 (x6_1 * (rd l1 x11_1))) l1 (l1.length : Int) (wrap64 (x11_1 + 1)) a0_0 l0_1 a0_2) = some r := by rw [if_neg (show ¬ (false = true) by decide)] at H; exact H
      clear H
      have H := H1
      clear H1
      have H' := yam H
      clear H
      have p516 : 0 ≤ (x11_1 : Int) := of_decide_eq_true (by first | (with_reducible assumption) | assumption)
      have q516 : x11_1 < (l1.length : Int) := of_decide_eq_true (by first | (with_reducible assumption) | assumption)
      obtain ⟨ad516, e516, hx516_0⟩ := Kd.at_int HR1.out x11_1 p516 q516
      cases e516
      replace hx516_0 := (HB.out.cell (World.block_lt_of_cell? w _ hx516_0)).trans hx516_0
      replace p516 := eq_true p516
      replace q516 := eq_true q516
      have hcz14_0 : wr.cell? ⟨gb515, 0, none⟩ = some (.int .i64 a0_0) := (blk_cell BK515.out 0).trans rfl
      have hcz14_1 : wr.cell? ⟨gb515, 1, none⟩ = some (.slice A0_1 l0_1.length c0_1) := (blk_cell BK515.out 1).trans rfl
      have hcz14_2 : wr.cell? ⟨gb515, 2, none⟩ = some (.int .i64 a0_2) := (blk_cell BK515.out 2).trans rfl
      have hfz14_0 := blk_frozen BK515.out 0
      have hfz14_1 := blk_frozen BK515.out 1
      have hfz14_2 := blk_frozen BK515.out 2
      obtain ⟨i015, hi015, _, hsz15, _⟩ := info_parts info3
      obtain ⟨hcut15, hA15, hC15⟩ := print_take_of (P := Try.prog) (Value.int .i64) 0 23 3 .i64 Try.underlying23 hi015 hsz15 (some ad516) c1 l1 x11_1 (of_decide_eq_true (by first | (with_reducible assumption) | assumption)) (of_decide_eq_true (by first | (with_reducible assumption) | assumption)) HC1.out
      have hl15_ : (l1.take (x11_1 : Int).toNat).length = (x11_1 : Int).toNat := by
        have e0_ : 0 ≤ (x11_1 : Int) := of_decide_eq_true (by first | (with_reducible assumption) | assumption)
        have e1_ : (x11_1 : Int) ≤ (l1.length : Int) := of_decide_eq_true (by first | (with_reducible assumption) | assumption)
        rw [List.length_take]; omega
      have HR517 := yam (Kd.C_of_reads (h1 := fun _ => rfl) (hA15 _ (Kd.reads_of_C HR1.out)))
      have HC517 := yam hC15
      clear hA15 hC15 hi015 hsz15
      go_wp2_with (first | (go_at_call 69; (first | (with_reducible refine (slices_Contains_int_int.calls k1 _ _ (l1.take (x11_1 : Int).toNat) (rd l1 x11_1) false _ ?side1 ?side2 A10.out).mono ?_) | (rw [← hl15_]; (with_reducible refine (slices_Contains_int_int.calls k1 _ _ (l1.take (x11_1 : Int).toNat) (rd l1 x11_1) false _ ?side1 ?side2 A10.out).mono ?_))); (case side1 => exact Kd.Cz ((Kd.C_below HR517.out HB.out))); (case side2 => exact HC517.out); rintro e w' ⟨rfl, ⟨nd, rfl⟩⟩; (try first | exact ⟨rfl, _, World.drewN_drewN _ _ _⟩ | exact ⟨rfl, _, Eq.trans (World.drewN_drewN _ _ _) (congrArg (World.drewN _) (Nat.add_assoc _ _ _))⟩)))
      repeat (go_quiet (first | (go_at_call 69; (first | (with_reducible refine (slices_Contains_int_int.calls k1 _ _ (l1.take (x11_1 : Int).toNat) (rd l1 x11_1) false _ ?side1 ?side2 A10.out).mono ?_) | (rw [← hl15_]; (with_reducible refine (slices_Contains_int_int.calls k1 _ _ (l1.take (x11_1 : Int).toNat) (rd l1 x11_1) false _ ?side1 ?side2 A10.out).mono ?_))); (case side1 => exact Kd.Cz ((Kd.C_below HR517.out HB.out))); (case side2 => exact HC517.out); rintro e w' ⟨rfl, ⟨nd, rfl⟩⟩; (try first | exact ⟨rfl, _, World.drewN_drewN _ _ _⟩ | exact ⟨rfl, _, Eq.trans (World.drewN_drewN _ _ _) (congrArg (World.drewN _) (Nat.add_assoc _ _ _))⟩))); try go_wp2_with (first | (go_at_call 69; (first | (with_reducible refine (slices_Contains_int_int.calls k1 _ _ (l1.take (x11_1 : Int).toNat) (rd l1 x11_1) false _ ?side1 ?side2 A10.out).mono ?_) | (rw [← hl15_]; (with_reducible refine (slices_Contains_int_int.calls k1 _ _ (l1.take (x11_1 : Int).toNat) (rd l1 x11_1) false _ ?side1 ?side2 A10.out).mono ?_))); (case side1 => exact Kd.Cz ((Kd.C_below HR517.out HB.out))); (case side2 => exact HC517.out); rintro e w' ⟨rfl, ⟨nd, rfl⟩⟩; (try first | exact ⟨rfl, _, World.drewN_drewN _ _ _⟩ | exact ⟨rfl, _, Eq.trans (World.drewN_drewN _ _ _) (congrArg (World.drewN _) (Nat.add_assoc _ _ _))⟩))))
      go_roundg k1
      case measure => have := HK1.out; omega
      case rel => exact ⟨(wrap64 (x5_1 + (rd l1 x11_1))), (wrap64 (x6_1 * (rd l1 x11_1))), (wrap64 (x11_1 + 1)), (by first | rfl | (simp; done) | (simp [*]; done)), (by first | rfl | (simp; done) | (simp [*]; done)), (by first | rfl | (simp; done) | (simp [*]; done)), H', ⟨by have := HK1.out; omega⟩, ⟨by (with_reducible repeat (first | refine ybn ?_ _ | refine ybd ?_ | refine yba ?_ _)); exact BK515.out⟩, ⟨by repeat (first | (with_reducible first | exact HB.out | apply yea | apply yen | apply yed | refine below_set ?_ GE515.out) | exact HB.out)⟩⟩
end Go.Proofs.Ythfbjkniinfgcaa.P
namespace Go.Proofs.Ythfbjkniinfgcaa.P
open Go.RowKit Go.Proofs.YthfbjkniinfgcaaW.PrintWords Go.Proofs.YthfbjkniinfgcaaW.PrintLast Go.Proofs.YthfbjkniinfgcaaW.PrintMore
attribute [local go_sem] max2_int min2_int max_two min_two max_three min_three max_four min_four   -- for this text's walks alone
set_option linter.unusedVariables false
set_option linter.unusedSimpArgs false

/-! ### impl_ruleMasks: function 77 -/
/-- The values of a way, marked in the masks: cells i, i + 1, .. -/
def impl_ruleMasks.orFrom (vals : List Int) : Nat → Int → List Int → List Int
  | 0, _, out => out
  | d + 1, i, out => impl_ruleMasks.orFrom vals d (i + 1) (out.set i.toNat (Go.bits .or .i64 (rd out i) (shl .i64 1 (rd vals i))))
/-- The values v, v + 1, .. (n of them) tried for a cell. -/
def impl_ruleMasks.tryV (f : List Int → List Int → Option (List Int × List Int)) (m : Int) (i : Nat) : Nat → Int → List Int → List Int → Option (List Int × List Int)
  | 0, _, vals, out => some (vals, out)
  | n + 1, v, vals, out => if Go.bits .and .i64 (shr .i64 m v) 1 = 1 then (f (vals.set i v) out).bind fun t => impl_ruleMasks.tryV f m i n (v + 1) t.1 t.2 else impl_ruleMasks.tryV f m i n (v + 1) vals out
def impl_ruleMasks.try_ (k : Nat) (a0_0 : Int) (l0_1 : List Int) (a0_2 : Int) (own : List Int) : Nat → List Int → List Int → Option (List Int × List Int)
  | 0, vals, out => (impl_valuesHold.f k a0_0 l0_1 a0_2 vals).bind fun b => if b = true then (if ∀ x ∈ vals, 0 ≤ x then some (vals, impl_ruleMasks.orFrom vals own.length 0 out) else none) else some (vals, out)
  | d + 1, vals, out => impl_ruleMasks.tryV (impl_ruleMasks.try_ k a0_0 l0_1 a0_2 own d) (rd own ((own.length : Int) - (d + 1 : Nat))) ((own.length : Int) - (d + 1 : Nat)).toNat 4 1 vals out
/-- The boxes of the variables that the literal shares. -/
def impl_ruleMasks.Boxes (W : World) (gown gr gval gout gtry gv go cv cu : Nat) (Ao : Option Addr) (co n : Nat) (a0_0 : Int) (Ac : Option Addr) (cc nc : Nat) (a0_2 : Int) : Prop :=
  W.heap[gown]? = some (.cells #[.slice Ao n co] 23 (0, 0)) ∧ W.heap[gr]? = some (.cells #[.int .i64 a0_0, .slice Ac nc cc, .int .i64 a0_2] 32 (0, 0)) ∧ W.heap[gval]? = some (.cells #[.slice (some ⟨gv, 0, none⟩) n cv] 23 (0, 0)) ∧ W.heap[gout]? = some (.cells #[.slice (some ⟨go, 0, none⟩) n cu] 23 (0, 0)) ∧ W.heap[gtry]? = some (.cells #[.func (.func 91) #[] #[.pointer (some ⟨gown, 0, none⟩), .pointer (some ⟨gr, 0, none⟩), .pointer (some ⟨gval, 0, none⟩), .pointer (some ⟨gout, 0, none⟩), .pointer (some ⟨gtry, 0, none⟩)]] 88 (0, 0))
theorem impl_ruleMasks.Boxes.below {W W1 : World} {gown gr gval gout gtry gv go cv cu : Nat} {Ao : Option Addr} {co n : Nat} {a0_0 : Int} {Ac : Option Addr} {cc nc : Nat} {a0_2 : Int} (h : impl_ruleMasks.Boxes W gown gr gval gout gtry gv go cv cu Ao co n a0_0 Ac cc nc a0_2) (hb : Below W.heap.size W W1) : impl_ruleMasks.Boxes W1 gown gr gval gout gtry gv go cv cu Ao co n a0_0 Ac cc nc a0_2 :=
  ⟨blk_below h.1 hb, blk_below h.2.1 hb, blk_below h.2.2.1 hb, blk_below h.2.2.2.1 hb, blk_below h.2.2.2.2 hb⟩
theorem impl_ruleMasks.Boxes.drewN {W : World} {gown gr gval gout gtry gv go cv cu : Nat} {Ao : Option Addr} {co n : Nat} {a0_0 : Int} {Ac : Option Addr} {cc nc : Nat} {a0_2 : Int} (h : impl_ruleMasks.Boxes W gown gr gval gout gtry gv go cv cu Ao co n a0_0 Ac cc nc a0_2) (m : Nat) : impl_ruleMasks.Boxes (W.drewN m) gown gr gval gout gtry gv go cv cu Ao co n a0_0 Ac cc nc a0_2 := h
theorem impl_ruleMasks.Boxes.grown {W W1 : World} {gown gr gval gout gtry gv go cv cu : Nat} {Ao : Option Addr} {co n : Nat} {a0_0 : Int} {Ac : Option Addr} {cc nc : Nat} {a0_2 : Int} (h : impl_ruleMasks.Boxes W gown gr gval gout gtry gv go cv cu Ao co n a0_0 Ac cc nc a0_2) {α : Type} {d : Kd α} {base : Nat} {ok : Nat → Prop} {v : Value} {xs : List α} (ho : d.R 3 W base ok v xs) (hg : W.grownBy W1 v.ownBlock) : impl_ruleMasks.Boxes W1 gown gr gval gout gtry gv go cv cu Ao co n a0_0 Ac cc nc a0_2 :=
  ⟨blk_grown h.1 hg (Kd.R_ne ho h.1 (by decide)), blk_grown h.2.1 hg (Kd.R_ne ho h.2.1 (by decide)), blk_grown h.2.2.1 hg (Kd.R_ne ho h.2.2.1 (by decide)), blk_grown h.2.2.2.1 hg (Kd.R_ne ho h.2.2.2.1 (by decide)), blk_grown h.2.2.2.2 hg (Kd.R_ne ho h.2.2.2.2 (by decide))⟩
theorem impl_ruleMasks.R_other {W W1 : World} {base : Nat} {g g2 : Nat} {n c n2 c2 : Nat} {xs : List Int} (h : Kd.R (Kd.int .i64) 3 W base (fun k => k = g) (.slice (some ⟨g, 0, none⟩) n c) xs) (hne : g ≠ g2) (hg : W.grownBy W1 (some g2)) : Kd.R (Kd.int .i64) 3 W1 base (fun k => k = g) (.slice (some ⟨g, 0, none⟩) n c) xs :=
  Kd.R_mono (Kd.R_after (v := .slice (some ⟨g2, 0, none⟩) n2 c2) (v1 := .slice (some ⟨g2, 0, none⟩) n2 c2) (ok := fun k => k = g) (Kd.R_mono h (fun k hk => ⟨hk, by subst hk; simpa [Value.ownBlock] using hne⟩)) hg (.inl rfl)) (fun k hk => hk.1)
set_option maxHeartbeats 8000000 in
set_option maxRecDepth 100000 in
theorem impl_ruleMasks.clo (k : Nat) (a0_0 : Int) (Ac : Option Addr) (cc : Nat) (l0_1 : List Int) (a0_2 : Int) (Ao : Option Addr) (co : Nat) (own : List Int) (gown gr gval gout gtry gv go cv cu : Nat) (w0 : World) (hne : gv ≠ go) (hbv : w0.heap.size ≤ gv) (hbo : w0.heap.size ≤ go) (hrC : Kd.C (Kd.int .i64) w0 Ac l0_1.length l0_1) (hcC : l0_1.length ≤ cc) (hrO : Kd.C (Kd.int .i64) w0 Ao own.length own) :
    ∀ (d : Nat) (a : Int) (vals out vals' out' : List Int) (w : World) (_ : (own.length : Int) - d = a) (_ : d ≤ own.length) (_ : own.length ≤ 100000) (_ : vals.length = own.length) (_ : out.length = own.length) (_ : Kd.R (Kd.int .i64) 3 w w0.heap.size (fun k => k = gv) (.slice (some ⟨gv, 0, none⟩) own.length cv) vals) (_ : Kd.R (Kd.int .i64) 3 w w0.heap.size (fun k => k = go) (.slice (some ⟨go, 0, none⟩) own.length cu) out) (_ : impl_ruleMasks.Boxes w gown gr gval gout gtry gv go cv cu Ao co own.length a0_0 Ac cc l0_1.length a0_2) (_ : Below w0.heap.size w0 w) (_ : impl_ruleMasks.try_ k a0_0 l0_1 a0_2 own d vals out = some (vals', out')),
    Calls Try.prog 91 #[.int .i64 a, .pointer (some ⟨gown, 0, none⟩), .pointer (some ⟨gr, 0, none⟩), .pointer (some ⟨gval, 0, none⟩), .pointer (some ⟨gout, 0, none⟩), .pointer (some ⟨gtry, 0, none⟩)] w fun e w' => e = .returned (.tuple #[]) ∧ vals'.length = own.length ∧ out'.length = own.length ∧ Kd.R (Kd.int .i64) 3 w' w0.heap.size (fun k => k = gv) (.slice (some ⟨gv, 0, none⟩) own.length cv) vals' ∧ Kd.R (Kd.int .i64) 3 w' w0.heap.size (fun k => k = go) (.slice (some ⟨go, 0, none⟩) own.length cu) out' ∧ impl_ruleMasks.Boxes w' gown gr gval gout gtry gv go cv cu Ao co own.length a0_0 Ac cc l0_1.length a0_2 ∧ Below w0.heap.size w0 w' := by
  intro d
  have HRC := Aside0.mk hrC
  have HCC := Aside0.mk hcC
  have HRO := Aside0.mk hrO
  clear hrC hcC hrO
  induction d with
  | zero =>
    intro a vals out vals' out' w ha hd hn hlv hlo hV hO hX hB h
    have ha0 : a = (own.length : Int) := by omega
    have hae : (a == (own.length : Int)) = true := beq_iff_eq.mpr ha0
    clear ha ha0 hd
    have HN := Aside0.mk hn
    have HLV := Aside0.mk hlv
    have HLO := Aside0.mk hlo
    have HV := Aside0.mk hV
    have HO := Aside0.mk hO
    have HX := Aside0.mk hX
    have HB := Aside0.mk hB
    clear hn hlv hlo hV hO hB
    unfold impl_ruleMasks.try_ at h
    obtain ⟨b, hb, h⟩ := Option.bind_eq_some_iff.1 h
    have HVH := Aside0.mk hb
    have H := Aside0.mk h
    clear hb h
    have hcO : w.cell? ⟨gown, 0, none⟩ = some (.slice Ao own.length co) := (blk_cell hX.1 0).trans rfl
    have hcR0 : w.cell? ⟨gr, 0, none⟩ = some (.int .i64 a0_0) := (blk_cell hX.2.1 0).trans rfl
    have hcR1 : w.cell? ⟨gr, 1, none⟩ = some (.slice Ac l0_1.length cc) := (blk_cell hX.2.1 1).trans rfl
    have hcR2 : w.cell? ⟨gr, 2, none⟩ = some (.int .i64 a0_2) := (blk_cell hX.2.1 2).trans rfl
    have hcV : w.cell? ⟨gval, 0, none⟩ = some (.slice (some ⟨gv, 0, none⟩) own.length cv) := (blk_cell hX.2.2.1 0).trans rfl
    clear hX
    cases b with
    | false =>
      have H2 := H.out
      simp only [Bool.false_eq_true, if_false, Option.some.injEq, Prod.mk.injEq] at H2
      obtain ⟨rfl, rfl⟩ := H2
      clear H
      go_enter Try.func91, Try.ntmps91
      go_wp2_with (first | ((with_reducible refine gate_callee (f := 82) rfl ?_); refine goesL_ (some 16) rfl rfl Try.func82 (by kernel_rfl) rfl #[.agg #[.int .i64 a0_0, .slice Ac l0_1.length cc, .int .i64 a0_2], .slice (some ⟨gv, 0, none⟩) vals.length cv] rfl (by (try simp only [List.map_toArray, List.map_cons, List.map_nil]); rw [HLV.out]; rfl) ?_; (with_reducible refine (impl_valuesHold.calls k a0_0 _ _ l0_1 a0_2 _ _ vals false _ (Kd.C_below HRC.out HB.out) HCC.out (Kd.R_reads' HV.out).2.2 (by rw [HLV.out]; exact (Kd.R_reads' HV.out).2.1) HVH.out).mono ?_); rintro e w' ⟨rfl, hb⟩; refine ⟨_, rfl, ?_⟩; have n0_ := Aside0.mk (Kd.R_below HV.out hb); have n1_ := Aside0.mk (Kd.R_below HO.out hb); have n2_ := Aside0.mk (impl_ruleMasks.Boxes.below HX.out hb); have n3_ := Aside0.mk (below_step HB.out hb); clear HV HO HX HB hb hcO hcR0 hcR1 hcR2 hcV; have HV := n0_; have HO := n1_; have HX := n2_; have HB := n3_; clear n0_ n1_ n2_ n3_))
      first | go_end0 | ((try simp only [Exit.inBlock, Exit.then]); refine bodyPost_ret (results_none rfl _ _ _) rfl ?_)
      exact ⟨rfl, HLV.out, HLO.out, HV.out, HO.out, HX.out, HB.out⟩
    | true =>
      have H2 := H.out
      simp only [if_true] at H2
      by_cases hpos : ∀ x ∈ vals, 0 ≤ x
      · rw [if_pos hpos] at H2
        simp only [Option.some.injEq, Prod.mk.injEq] at H2
        obtain ⟨rfl, rfl⟩ := H2
        clear H
        have HP := Aside0.mk hpos
        clear hpos
        go_enter Try.func91, Try.ntmps91
        go_wp2_with (first | ((with_reducible refine gate_callee (f := 82) rfl ?_); refine goesL_ (some 16) rfl rfl Try.func82 (by kernel_rfl) rfl #[.agg #[.int .i64 a0_0, .slice Ac l0_1.length cc, .int .i64 a0_2], .slice (some ⟨gv, 0, none⟩) vals.length cv] rfl (by (try simp only [List.map_toArray, List.map_cons, List.map_nil]); rw [HLV.out]; rfl) ?_; (with_reducible refine (impl_valuesHold.calls k a0_0 _ _ l0_1 a0_2 _ _ vals true _ (Kd.C_below HRC.out HB.out) HCC.out (Kd.R_reads' HV.out).2.2 (by rw [HLV.out]; exact (Kd.R_reads' HV.out).2.1) HVH.out).mono ?_); rintro e w' ⟨rfl, hb⟩; refine ⟨_, rfl, ?_⟩; have n0_ := Aside0.mk (Kd.R_below HV.out hb); have n1_ := Aside0.mk (Kd.R_below HO.out hb); have n2_ := Aside0.mk (impl_ruleMasks.Boxes.below HX.out hb); have n3_ := Aside0.mk (below_step HB.out hb); clear HV HO HX HB hb hcO hcR0 hcR1 hcR2 hcV; have HV := n0_; have HO := n1_; have HX := n2_; have HB := n3_; clear n0_ n1_ n2_ n3_; have hcV := (blk_cell HX.out.2.2.1 0).trans (rfl : _ = some (Value.slice (some ⟨gv, 0, none⟩) own.length cv))))
        go_loopg [19] own.length (fun kq v19 w' => ∃ (x : Int) (o : List Int), v19 = .int .i64 x ∧ Aside0 (0 ≤ x ∧ x + (kq : Int) = (own.length : Int)) ∧ Aside0 (impl_ruleMasks.orFrom vals own.length 0 out = impl_ruleMasks.orFrom vals kq x o) ∧ Aside0 (o.length = own.length) ∧ Aside0 (Kd.R (Kd.int .i64) 3 w' w0.heap.size (fun k => k = gv) (.slice (some ⟨gv, 0, none⟩) own.length cv) vals) ∧ Aside0 (Kd.R (Kd.int .i64) 3 w' w0.heap.size (fun k => k = go) (.slice (some ⟨go, 0, none⟩) own.length cu) o) ∧ Aside0 (impl_ruleMasks.Boxes w' gown gr gval gout gtry gv go cv cu Ao co own.length a0_0 Ac cc l0_1.length a0_2) ∧ Aside0 (Below w0.heap.size w0 w'))
        case atStart => exact ⟨0, out, rfl, ⟨by omega⟩, ⟨rfl⟩, HLO, HV, HO, HX, HB⟩
        case round =>
          clear hcV HV HO HX HB HLO
          obtain ⟨x, o, rfl, HK, HE, HLO, HV, HO, HX, HB⟩ := hrel
          cases gk with
          | zero =>
            have h1b : decide ((x : Int) < (own.length : Int)) = false := decide_eq_false (by have := HK.out; omega)
            go_wp2
            first | go_end0 | ((try simp only [Exit.inBlock, Exit.then]); refine bodyPost_ret (results_none rfl _ _ _) rfl ?_)
            have HE2 := HE.out
            unfold impl_ruleMasks.orFrom at HE2
            exact ⟨rfl, HLV.out, by rw [HE.out]; exact HLO.out, HV.out, by rw [HE.out]; exact HO.out, HX.out, HB.out⟩
          | succ k1 =>
            have h0 : 0 ≤ x := HK.out.1
            have h1 : x < (own.length : Int) := by have := HK.out.2; omega
            have h1b : decide ((x : Int) < (own.length : Int)) = true := decide_eq_true h1
            have hcU := (blk_cell HX.out.2.2.2.1 0).trans (rfl : _ = some (Value.slice (some ⟨go, 0, none⟩) own.length cu))
            obtain ⟨hxV0, hfV⟩ := Kd.R_celln 0 HV.out x h0 h1
            obtain ⟨hxO0, hfO⟩ := Kd.R_celln 0 HO.out x h0 h1
            have hxV := hxV0.trans (rfl : _ = some (Value.int .i64 (rd vals x)))
            have hxO := hxO0.trans (rfl : _ = some (Value.int .i64 (rd o x)))
            clear hxV0 hxO0
            have hpv : 0 ≤ rd vals x := HP.out _ (by
              have hl := HLV.out
              obtain ⟨n, rfl⟩ := Int.eq_ofNat_of_zero_le h0
              have hn : n < vals.length := by omega
              have e : rd vals (n : Int) = vals[n] := by simp [rd, hn]
              rw [e]; exact List.getElem_mem hn)
            have hpvb : decide (0 ≤ rd vals x) = true := decide_eq_true hpv
            have HES : impl_ruleMasks.orFrom vals (k1 + 1) x o = impl_ruleMasks.orFrom vals k1 (x + 1) (o.set x.toNat (Go.bits .or .i64 (rd o x) (shl .i64 1 (rd vals x)))) := rfl
            obtain ⟨ji, hji⟩ : ∃ j_ : Int, (shl .i64 1 (rd vals x)) = j_ := ⟨_, rfl⟩
            rw [hji] at HES
            have hji_ : (IntKind.i64.wrap (1 * 2 ^ min (rd vals x).toNat 64)) = ji := hji
            have hjiu : (IntKind.i64.wrap (2 ^ min (rd vals x).toNat 64)) = ji := by have h_ := hji_; rw [Int.one_mul] at h_; exact h_
            have hjiy : (wrap64 (1 * 2 ^ min (rd vals x).toNat 64)) = ji := (i64_w _).symm.trans hji_
            have hjiw : (wrap64 (2 ^ min (rd vals x).toNat 64)) = ji := (i64_w _).symm.trans hjiu
            have HES2 := Aside0.mk HES
            clear HES hji
            have HPO := Aside0.mk (Kd.R_putg HO.out x (Go.bits .or .i64 (rd o x) ji))
            have hnw : wrap64 (x + 1) = x + 1 := by have := HN.out; unfold wrap64; omega
            have hnw2 : IntKind.i64.wrap (x + 1) = x + 1 := by rw [i64_w]; exact hnw
            have p0 := eq_true h0
            have p1 := eq_true h1
            have p2 := eq_true hpv
            clear h0 h1 hpv
            go_wp2
            refine start_ (n := 9) (S := fun w' => w'.cell? ⟨gout, 0, none⟩ = some (.slice (some ⟨go, 0, none⟩) own.length cu) ∧ w'.cell? ⟨go, (x : Int).toNat, none⟩ = some (.int .i64 (rd o x))) (ds := [8]) #[false, false, false, false, false, false, false, false, false] (by kernel_rfl) rfl rfl ⟨hcU, hxO⟩ (fun hHeld => ?_)
            refine pure_ (i := 1) (N := some 25) (v := ?_) (a' := ?_) #[false, true, false, false, false, false, false, false, false] rfl rfl (by kernel_rfl) (fun _ _ _ h => h) (Or.inl ⟨by rfl, ?_⟩) ?_ ?_
            rotate_left
            · intro w'
              go_simp
              with_reducible rfl
            rotate_left
            · simp only [Act.put, List.setIfInBounds_toArray, List.set_cons_zero, List.set_cons_succ, i64_w, i32_w]
              rfl
            refine pure_ (i := 4) (N := some 28) (v := ?_) (a' := ?_) #[false, true, false, false, true, false, false, false, false] rfl rfl (by kernel_rfl) (fun _ _ _ h => h) (Or.inl ⟨by rfl, ?_⟩) ?_ ?_
            rotate_left
            · intro w'
              go_simp
              with_reducible rfl
            rotate_left
            · simp only [Act.put, List.setIfInBounds_toArray, List.set_cons_zero, List.set_cons_succ, i64_w, i32_w]
              rfl
            refine pure_ (i := 5) (N := some 29) (v := ?_) (a' := ?_) #[false, true, false, false, true, true, false, false, false] rfl rfl (by kernel_rfl) (fun _ _ _ h => h) (Or.inl ⟨by rfl, ?_⟩) ?_ ?_
            rotate_left
            · intro w'
              go_simp
              with_reducible rfl
            rotate_left
            · simp only [Act.put, List.setIfInBounds_toArray, List.set_cons_zero, List.set_cons_succ, i64_w, i32_w]
              rfl
            refine take_ (i := 0) (N := some 24) (v := ?_) (a' := ?_) #[true, true, false, false, true, true, false, false, false] rfl rfl (by kernel_rfl) (fun _ _ _ h => h) (Or.inl ⟨by rfl, ?_⟩) hHeld ?_ ?_
            rotate_left
            · rintro w' ⟨s0, s1⟩
              go_simp
              with_reducible rfl
            rotate_left
            · simp only [Act.put, List.setIfInBounds_toArray, List.set_cons_zero, List.set_cons_succ, i64_w, i32_w]
              rfl
            refine pure_ (i := 2) (N := some 26) (v := ?_) (a' := ?_) #[true, true, true, false, true, true, false, false, false] rfl rfl (by kernel_rfl) (fun _ _ _ h => h) (Or.inl ⟨by rfl, ?_⟩) ?_ ?_
            rotate_left
            · intro w'
              go_simp
              with_reducible rfl
            rotate_left
            · simp only [Act.put, List.setIfInBounds_toArray, List.set_cons_zero, List.set_cons_succ, i64_w, i32_w]
              rfl
            refine take_ (i := 3) (N := some 27) (v := ?_) (a' := ?_) #[true, true, true, true, true, true, false, false, false] rfl rfl (by kernel_rfl) (fun _ _ _ h => h) (Or.inl ⟨by rfl, ?_⟩) hHeld ?_ ?_
            rotate_left
            · rintro w' ⟨s0, s1⟩
              go_simp
              with_reducible rfl
            rotate_left
            · simp only [Act.put, List.setIfInBounds_toArray, List.set_cons_zero, List.set_cons_succ, i64_w, i32_w]
              rfl
            refine pure_ (i := 6) (N := some 30) (v := ?_) (a' := ?_) #[true, true, true, true, true, true, true, false, false] rfl rfl (by kernel_rfl) (fun _ _ _ h => h) (Or.inl ⟨by rfl, ?_⟩) ?_ ?_
            rotate_left
            · intro w'
              go_simp
              with_reducible rfl
            rotate_left
            · simp only [Act.put, List.setIfInBounds_toArray, List.set_cons_zero, List.set_cons_succ, i64_w, i32_w]
              rfl
            refine pure_ (i := 7) (N := some 31) (v := ?_) (a' := ?_) #[true, true, true, true, true, true, true, true, false] rfl rfl (by kernel_rfl) (fun _ _ _ h => h) (Or.inl ⟨by rfl, ?_⟩) ?_ ?_
            rotate_left
            · intro w'
              go_simp
              with_reducible rfl
            rotate_left
            · simp only [Act.put, List.setIfInBounds_toArray, List.set_cons_zero, List.set_cons_succ, i64_w, i32_w]
              rfl
            refine last_ (i := 8) (N := none) #[true, true, true, true, true, true, true, true, true] rfl rfl (by kernel_rfl) (by decide) (fun K hK => ?_)
            refine skip_ (w1 := ?_) (by rfl) rfl ?_ ?_
            rotate_left
            · go_simp
              rfl
            refine hK.out _ _ ?_
            clear hK K
            refine done_ (by kernel_rfl) ?_
            go_wp2
            go_roundg k1
            case measure => omega
            case rel => exact ⟨x + 1, o.set x.toNat (Go.bits .or .i64 (rd o x) ji), by first | rfl | (rw [hnw]) | (rw [hnw2]), ⟨by have := HK.out; omega⟩, ⟨by rw [HE.out]; exact HES2.out⟩, ⟨by rw [List.length_set]; exact HLO.out⟩, ⟨Kd.R_drew (impl_ruleMasks.R_other (n2 := own.length) (c2 := own.length) HV.out hne HPO.out.2)⟩, ⟨Kd.R_drew HPO.out.1⟩, ⟨(impl_ruleMasks.Boxes.grown HX.out HO.out HPO.out.2).drewN 1⟩, ⟨below_drew1 (below_set HB.out hbo)⟩⟩
      · rw [if_neg hpos] at H2
        exact absurd H2 (by simp)
  | succ d ih =>
    intro a vals out vals' out' w ha hd hn hlv hlo hV hO hX hB h
    have ha1 : ¬ a = (own.length : Int) := by omega
    have hae : (a == (own.length : Int)) = false := beq_eq_false_iff_ne.mpr ha1
    have HA := Aside0.mk (show (own.length : Int) - (d + 1 : Nat) = a ∧ 0 ≤ a ∧ a < (own.length : Int) from ⟨ha, by omega, by omega⟩)
    have HD := Aside0.mk (show d ≤ own.length by omega)
    have HN := Aside0.mk hn
    have HLV := Aside0.mk hlv
    have HLO := Aside0.mk hlo
    have HV := Aside0.mk hV
    have HO := Aside0.mk hO
    have HX := Aside0.mk hX
    have HB := Aside0.mk hB
    unfold impl_ruleMasks.try_ at h
    rw [ha] at h
    have H := Aside0.mk h
    have hcO : w.cell? ⟨gown, 0, none⟩ = some (.slice Ao own.length co) := (blk_cell hX.1 0).trans rfl
    clear ha ha1 hd hn hlv hlo hV hO hX hB h
    have IH := Aside0.mk ih
    clear ih
    go_enter Try.func91, Try.ntmps91
    go_wp2
    go_loopg [9] 4 (fun kq v9 w' => ∃ (x : Int) (vs o : List Int), v9 = .int .i64 x ∧ Aside0 (1 ≤ x ∧ x + (kq : Int) = 5) ∧ Aside0 (impl_ruleMasks.tryV (impl_ruleMasks.try_ k a0_0 l0_1 a0_2 own d) (rd own a) a.toNat kq x vs o = some (vals', out')) ∧ Aside0 (vs.length = own.length) ∧ Aside0 (o.length = own.length) ∧ Aside0 (Kd.R (Kd.int .i64) 3 w' w0.heap.size (fun k => k = gv) (.slice (some ⟨gv, 0, none⟩) own.length cv) vs) ∧ Aside0 (Kd.R (Kd.int .i64) 3 w' w0.heap.size (fun k => k = go) (.slice (some ⟨go, 0, none⟩) own.length cu) o) ∧ Aside0 (impl_ruleMasks.Boxes w' gown gr gval gout gtry gv go cv cu Ao co own.length a0_0 Ac cc l0_1.length a0_2) ∧ Aside0 (Below w0.heap.size w0 w'))
    case atStart => exact ⟨1, vals, out, rfl, ⟨by omega⟩, H, HLV, HLO, HV, HO, HX, HB⟩
    case round =>
      clear hcO HV HO HX HB HLO HLV H
      obtain ⟨x, vs, o, rfl, HK, HE, HLV, HLO, HV, HO, HX, HB⟩ := hrel
      cases gk with
      | zero =>
        have h1b : decide ((x : Int) ≤ 4) = false := decide_eq_false (by have := HK.out; omega)
        have HE2 := HE.out
        unfold impl_ruleMasks.tryV at HE2
        simp only [Option.some.injEq, Prod.mk.injEq] at HE2
        obtain ⟨rfl, rfl⟩ := HE2
        go_wp2
        first | go_end0 | ((try simp only [Exit.inBlock, Exit.then]); refine bodyPost_ret (results_none rfl _ _ _) rfl ?_)
        exact ⟨rfl, HLV.out, HLO.out, HV.out, HO.out, HX.out, HB.out⟩
      | succ k1 =>
        have h1b : decide ((x : Int) ≤ 4) = true := decide_eq_true (by have := HK.out; omega)
        have h0 : 0 ≤ a := HA.out.2.1
        have h1 : a < (own.length : Int) := HA.out.2.2
        have hx0 : 0 ≤ x := by have := HK.out; omega
        have hcO := (blk_cell HX.out.1 0).trans (rfl : _ = some (Value.slice Ao own.length co))
        obtain ⟨ad, eA, hxA⟩ := Kd.at_int (Kd.C_below HRO.out HB.out) a h0 h1
        have hnw : wrap64 (x + 1) = x + 1 := by have := HK.out; unfold wrap64; omega
        have hnw2 : IntKind.i64.wrap (x + 1) = x + 1 := by rw [i64_w]; exact hnw
        have p0 := eq_true h0
        have p1 := eq_true h1
        have p2 := eq_true hx0
        have p2b : decide (0 ≤ x) = true := decide_eq_true hx0
        have HE2 := HE.out
        rw [impl_ruleMasks.tryV] at HE2
        obtain ⟨ji, hji⟩ : ∃ j_ : Int, (shr .i64 (rd own a) x) = j_ := ⟨_, rfl⟩
        rw [hji] at HE2
        have hji_ : ((rd own a) / 2 ^ min x.toNat 64) = ji := hji
        clear hji
        by_cases hbit : Go.bits .and .i64 ji 1 = 1
        · rw [if_pos hbit] at HE2
          obtain ⟨⟨t1, t2⟩, hT, HE3⟩ := Option.bind_eq_some_iff.1 HE2
          have hbb : (Go.bits .and .i64 ji 1 == 1) = true := beq_iff_eq.mpr hbit
          have HT := Aside0.mk hT
          have HE4 := Aside0.mk HE3
          have hcV := (blk_cell HX.out.2.2.1 0).trans (rfl : _ = some (Value.slice (some ⟨gv, 0, none⟩) own.length cv))
          obtain ⟨hxV, hfV⟩ := Kd.R_celln 0 HV.out a h0 h1
          have HPV := Aside0.mk (Kd.R_putg HV.out a x)
          have HX2 := Aside0.mk (impl_ruleMasks.Boxes.grown HX.out HV.out HPV.out.2)
          have HO2 := Aside0.mk (impl_ruleMasks.R_other (n2 := own.length) (c2 := own.length) HO.out (fun e => hne e.symm) HPV.out.2)
          have HB2 := Aside0.mk (below_set (j := a.toNat) (v := .int .i64 x) HB.out hbv)
          have hcT := (blk_cell HX2.out.2.2.2.2 0).trans (rfl : _ = some (Value.func (.func 91) #[] #[.pointer (some ⟨gown, 0, none⟩), .pointer (some ⟨gr, 0, none⟩), .pointer (some ⟨gval, 0, none⟩), .pointer (some ⟨gout, 0, none⟩), .pointer (some ⟨gtry, 0, none⟩)]))
          have haw : wrap64 (a + 1) = a + 1 := by have := HN.out; unfold wrap64; omega
          have haw2 : IntKind.i64.wrap (a + 1) = a + 1 := by rw [i64_w]; exact haw
          clear h0 h1 hx0 HE2 HE3 hT hbit HE
          cases eA
          go_wp2_with (first | (go_at_call 91; (refine (IH.out (a + 1) (vs.set a.toNat x) o t1 t2 _ (by have := HA.out.1; omega) HD.out HN.out (by rw [List.length_set]; exact HLV.out) HLO.out HPV.out.1 HO2.out HX2.out HB2.out HT.out).mono ?_); rintro e w' ⟨rfl, HL1, HL2, hV, hO, hX, hB⟩; have HV3 := Aside0.mk hV; have HO3 := Aside0.mk hO; have HX3 := Aside0.mk hX; have HB3 := Aside0.mk hB; have HLV3 := Aside0.mk HL1; have HLO3 := Aside0.mk HL2; clear hV hO hX hB HL1 HL2))
          go_roundg k1
          case measure => omega
          case rel => exact ⟨x + 1, t1, t2, by first | rfl | (rw [hnw]) | (rw [hnw2]), ⟨by have := HK.out; omega⟩, HE4, HLV3, HLO3, HV3, HO3, HX3, HB3⟩
        · rw [if_neg hbit] at HE2
          have hbb : (Go.bits .and .i64 ji 1 == 1) = false := beq_eq_false_iff_ne.mpr hbit
          have HE4 := Aside0.mk HE2
          clear h0 h1 hx0 HE2 hbit HE
          cases eA
          go_wp2
          go_roundg k1
          case measure => omega
          case rel => exact ⟨x + 1, vs, o, by first | rfl | (rw [hnw]) | (rw [hnw2]), ⟨by have := HK.out; omega⟩, HE4, HLV, HLO, HV, HO, HX, HB⟩
/-- A new variable in memory, filled at once. -/
theorem impl_ruleMasks.newBox (W : World) (z v : Value) (t : TypeId) : Below W.heap.size W ((W.alloc (.cells #[z] t)).setCell ⟨W.heap.size, 0, none⟩ v) ∧ ((W.alloc (.cells #[z] t)).setCell ⟨W.heap.size, 0, none⟩ v).heap[W.heap.size]? = some (.cells #[v] t (0, 0)) ∧ (W.alloc (.cells #[z] t)).cell? ⟨W.heap.size, 0, none⟩ = some z ∧ (W.alloc (.cells #[z] t)).frozen? ⟨W.heap.size, 0, none⟩ = false :=
  ⟨below_set (below_alloc (Below.refl _ _) _) (Nat.le_refl _), by simpa using blk_set (heap_alloc_new W (.cells #[z] t)) 0 v, (blk_cell (heap_alloc_new W (.cells #[z] t)) 0).trans rfl, blk_frozen (heap_alloc_new W (.cells #[z] t)) 0⟩
def impl_ruleMasks.f (k : Nat) (a0_0 : Int) (l0_1 : List Int) (a0_2 : Int) (l1 : List Int) : Option (List Int) :=
  if 0 < l1.length ∧ l1.length ≤ 100000 then (impl_ruleMasks.try_ k a0_0 l0_1 a0_2 l1 l1.length (List.replicate l1.length 0) (List.replicate l1.length 0)).bind fun t => some t.2 else none
theorem impl_ruleMasks.tryV_mono {f g : List Int → List Int → Option (List Int × List Int)} (h : ∀ a b, LeO (f a b) (g a b)) (m : Int) (i : Nat) : ∀ (n : Nat) (v : Int) (vals out : List Int), LeO (impl_ruleMasks.tryV f m i n v vals out) (impl_ruleMasks.tryV g m i n v vals out)
  | 0, _, _, _ => LeO.refl _
  | n + 1, v, vals, out => by
    unfold impl_ruleMasks.tryV
    exact LeO.ite (LeO.bind (h _ _) (fun _ => impl_ruleMasks.tryV_mono h m i n _ _ _)) (impl_ruleMasks.tryV_mono h m i n _ _ _)
theorem impl_ruleMasks.try_mono (k : Nat) (a0_0 : Int) (l0_1 : List Int) (a0_2 : Int) (own : List Int) : ∀ (d : Nat) (vals out : List Int), LeO (impl_ruleMasks.try_ k a0_0 l0_1 a0_2 own d vals out) (impl_ruleMasks.try_ (k + 1) a0_0 l0_1 a0_2 own d vals out)
  | 0, vals, out => by
    unfold impl_ruleMasks.try_
    exact LeO.bind (impl_valuesHold.mono _ _ _ _ _) (fun _ => LeO.refl _)
  | d + 1, vals, out => by
    unfold impl_ruleMasks.try_
    exact impl_ruleMasks.tryV_mono (fun a b => impl_ruleMasks.try_mono k a0_0 l0_1 a0_2 own d a b) _ _ _ _ _ _
theorem impl_ruleMasks.mono : ∀ a0 a1 a2 a3 k, LeO (impl_ruleMasks.f k a0 a1 a2 a3) (impl_ruleMasks.f (k + 1) a0 a1 a2 a3) := by
  intro a0 a1 a2 a3 k
  unfold impl_ruleMasks.f
  exact LeO.ite (LeO.bind (impl_ruleMasks.try_mono _ _ _ _ _ _ _ _) (fun _ => LeO.refl _)) (LeO.refl _)
set_option maxHeartbeats 8000000 in
set_option maxRecDepth 100000 in
theorem impl_ruleMasks.calls (k : Nat) (a0_0 : Int) (A0_1 : Option Addr) (c0_1 : Nat) (l0_1 : List Int) (a0_2 : Int) (A1 : Option Addr) (c1 : Nat) (l1 : List Int) (r : List Int) (w : World) (hr0_1 : Kd.C (Kd.int .i64) w A0_1 l0_1.length l0_1) (hc0_1 : l0_1.length ≤ c0_1) (hr1 : Kd.C (Kd.int .i64) w A1 l1.length l1) (hc1 : l1.length ≤ c1) (h : impl_ruleMasks.f k a0_0 l0_1 a0_2 l1 = some r) :
    Calls Try.prog 77 #[.agg #[.int .i64 a0_0, .slice A0_1 l0_1.length c0_1, .int .i64 a0_2], .slice A1 l1.length c1] w fun e w' => ∃ v0_ : Value, e = .returned (v0_) ∧ Kd.R (Kd.int .i64) 3 w' w.heap.size (fun _ => True) v0_ r ∧ Below w.heap.size w w' := by
  unfold impl_ruleMasks.f at h
  by_cases hc : 0 < l1.length ∧ l1.length ≤ 100000
  · rw [if_pos hc] at h
    obtain ⟨⟨t1, t2⟩, hT, h⟩ := Option.bind_eq_some_iff.1 h
    obtain rfl := Option.some.inj h
    have HT := Aside0.mk hT
    have HN := Aside0.mk hc
    have HR0 := Aside0.mk hr0_1
    have HC0 := Aside0.mk hc0_1
    have HR1 := Aside0.mk hr1
    have hu32 := Try.underlying32
    clear h hT hc hr0_1 hc0_1 hr1 hc1
    have HB := Aside0.mk (Below.refl w.heap.size w)
    go_enter Try.func77, Try.ntmps77
    go_upto_region 1 with (first
      | ((with_reducible refine gate_dst (N := 2) rfl ?_); refine box_event ?hg (N := 2) ?hd (cs := #[.int .i64 a0_0, .slice A0_1 l0_1.length c0_1, .int .i64 a0_2]) (t := 32) ?hr ?_; (case hd => rfl); (case hg => rfl); (case hr => first | (go_simp; done) | (go_simp; rfl)); intro gr hg w5 hbox hb; have n0_ := Aside0.mk (below_step HB.out hb); have BR := Aside0.mk hbox; clear HB; have HB := n0_; clear n0_ hb hbox hg)
      | ((with_reducible refine gate_dst (N := 3) rfl ?_); refine box_event ?hg (N := 3) ?hd (cs := #[.slice A1 l1.length c1]) (t := 23) ?hr ?_; (case hd => rfl); (case hg => rfl); (case hr => first | (go_simp; done) | (go_simp; rfl)); intro gown hg w6 hbox hb; have n0_ := Aside0.mk (below_step HB.out hb); have BO := Aside0.mk hbox; have n1_ := Aside0.mk (blk_below BR.out hb); clear HB BR; have HB := n0_; have BR := n1_; clear n0_ n1_ hb hbox hg))
    (try simp only [Act.put, List.setIfInBounds_toArray, List.set_cons_zero, List.set_cons_succ])
    have hcO := (blk_cell BO.out 0).trans (rfl : _ = some (Value.slice A1 l1.length c1))
    go_upto_region 2 with (first
      | ((with_reducible refine gate_dst (N := 10) rfl ?_); refine Kd.R_make (Kd.int .i64) _ 3 rfl (N := 10) rfl 23 _ _ rfl (l1.length : Int) rfl rfl Try.underlying23 (.int .i64 0) 8 info3 rfl (by decide) (by omega) 0 (ok := fun _ => True) (okp := fun _ => False) rfl (fun _ hk => hk.elim) trivial (by omega) (by have := HN.out; omega) (Below.refl _ _) (Nat.le_refl _) ?_; intro v10 w10 ho10 hb hg_ hnew_; clear hg_ hnew_; obtain ⟨go, cu, e10, _, _, _⟩ := Kd.R_form ho10 (by have := HN.out; simp; omega); simp only [List.length_replicate, Int.toNat_natCast] at e10 ho10; subst e10; have n0_ := Aside0.mk (below_step HB.out hb); have n1_ := Aside0.mk (blk_below BR.out hb); have n2_ := Aside0.mk (blk_below BO.out hb); have n3_ := Aside0.mk (Kd.R_lower ho10 (below_size HB.out)); clear HB BR BO hcO ho10 hb; have HB := n0_; have BR := n1_; have BO := n2_; have HO := n3_; clear n0_ n1_ n2_ n3_; have hcz := (impl_ruleMasks.newBox w10 (.slice none 0 0) (.int .i64 0) 23).2.2.1; have hfz := (impl_ruleMasks.newBox w10 (.slice none 0 0) (.int .i64 0) 23).2.2.2))
    have n0_ := Aside0.mk (show Below w.heap.size w (w10.alloc (Obj.cells #[Value.slice (some ⟨go, 0, none⟩) l1.length cu] 23)) from below_alloc HB.out _)
    have n1_ := Aside0.mk (show (w10.alloc (Obj.cells #[Value.slice (some ⟨go, 0, none⟩) l1.length cu] 23)).heap[gr]? = _ from blk_alloc BR.out _)
    have n2_ := Aside0.mk (show (w10.alloc (Obj.cells #[Value.slice (some ⟨go, 0, none⟩) l1.length cu] 23)).heap[gown]? = _ from blk_alloc BO.out _)
    have n3_ := Aside0.mk (show Kd.R (Kd.int .i64) 3 (w10.alloc (Obj.cells #[Value.slice (some ⟨go, 0, none⟩) l1.length cu] 23)) w.heap.size _ _ _ from Kd.R_alloc HO.out _)
    have n4_ := Aside0.mk (show (w10.alloc (Obj.cells #[Value.slice (some ⟨go, 0, none⟩) l1.length cu] 23)).heap[w10.heap.size]? = _ from heap_alloc_new w10 _)
    clear HB BR BO HO hcz hfz
    have HB := n0_
    have BR := n1_
    have BO := n2_
    have HO := n3_
    have BU := n4_
    clear n0_ n1_ n2_ n3_ n4_
    generalize w10.alloc (Obj.cells #[Value.slice (some ⟨go, 0, none⟩) l1.length cu] 23) = W1 at HB BR BO HO BU ⊢
    generalize w10.heap.size = gout at BU ⊢
    have hcO := (blk_cell BO.out 0).trans (rfl : _ = some (Value.slice A1 l1.length c1))
    go_upto_region 3 with (first
      | ((with_reducible refine gate_dst (N := 13) rfl ?_); refine Kd.R_make (Kd.int .i64) _ 3 rfl (N := 13) rfl 23 _ _ rfl (l1.length : Int) rfl rfl Try.underlying23 (.int .i64 0) 8 info3 rfl (by decide) (by omega) 0 (ok := fun _ => True) (okp := fun _ => False) rfl (fun _ hk => hk.elim) trivial (by omega) (by have := HN.out; omega) (Below.refl _ _) (Nat.le_refl _) ?_; intro v13 w13 ho13 hb hg_ hnew_; clear hg_; obtain ⟨gv, cv, e13, _, _, _⟩ := Kd.R_form ho13 (by have := HN.out; simp; omega); simp only [List.length_replicate, Int.toNat_natCast] at e13 ho13; subst e13; have HNE := Aside0.mk (show go < W1.heap.size ∧ W1.heap.size ≤ gv from ⟨Kd.R_lt HO.out go rfl, by obtain ⟨b_, e_, l_⟩ := hnew_; simp [Value.ownBlock] at e_; omega⟩); have n0_ := Aside0.mk (below_step HB.out hb); have n1_ := Aside0.mk (blk_below BR.out hb); have n2_ := Aside0.mk (blk_below BO.out hb); have n3_ := Aside0.mk (Kd.R_lower ho13 (below_size HB.out)); have n4_ := Aside0.mk (Kd.R_below HO.out hb); have n5_ := Aside0.mk (blk_below BU.out hb); clear HB BR BO HO BU hcO ho13 hb hnew_; have HB := n0_; have BR := n1_; have BO := n2_; have HV := n3_; have HO := n4_; have BU := n5_; clear n0_ n1_ n2_ n3_ n4_ n5_; have hcz := (impl_ruleMasks.newBox w13 (.slice none 0 0) (.int .i64 0) 23).2.2.1; have hfz := (impl_ruleMasks.newBox w13 (.slice none 0 0) (.int .i64 0) 23).2.2.2))
    have n0_ := Aside0.mk (show Below w.heap.size w (w13.alloc (Obj.cells #[Value.slice (some ⟨gv, 0, none⟩) l1.length cv] 23)) from below_alloc HB.out _)
    have n1_ := Aside0.mk (show (w13.alloc (Obj.cells #[Value.slice (some ⟨gv, 0, none⟩) l1.length cv] 23)).heap[gr]? = _ from blk_alloc BR.out _)
    have n2_ := Aside0.mk (show (w13.alloc (Obj.cells #[Value.slice (some ⟨gv, 0, none⟩) l1.length cv] 23)).heap[gown]? = _ from blk_alloc BO.out _)
    have n3_ := Aside0.mk (show Kd.R (Kd.int .i64) 3 (w13.alloc (Obj.cells #[Value.slice (some ⟨gv, 0, none⟩) l1.length cv] 23)) w.heap.size _ _ _ from Kd.R_alloc HO.out _)
    have n4_ := Aside0.mk (show (w13.alloc (Obj.cells #[Value.slice (some ⟨gv, 0, none⟩) l1.length cv] 23)).heap[gout]? = _ from blk_alloc BU.out _)
    have n5_ := Aside0.mk (show (w13.alloc (Obj.cells #[Value.slice (some ⟨gv, 0, none⟩) l1.length cv] 23)).heap[w13.heap.size]? = _ from heap_alloc_new w13 _)
    have n6_ := Aside0.mk (show Kd.R (Kd.int .i64) 3 (w13.alloc (Obj.cells #[Value.slice (some ⟨gv, 0, none⟩) l1.length cv] 23)) w.heap.size _ _ _ from Kd.R_alloc HV.out _)
    clear HB BR BO HO BU HV hcz hfz
    have HB := n0_
    have BR := n1_
    have BO := n2_
    have HO := n3_
    have BU := n4_
    have BV := n5_
    have HV := n6_
    clear n0_ n1_ n2_ n3_ n4_ n5_ n6_
    generalize w13.alloc (Obj.cells #[Value.slice (some ⟨gv, 0, none⟩) l1.length cv] 23) = W2 at HB BR BO HO BU BV HV ⊢
    generalize w13.heap.size = gval at BV ⊢
    have hcz := (impl_ruleMasks.newBox W2 .nilFunc (.int .i64 0) 88).2.2.1
    have hfz := (impl_ruleMasks.newBox W2 .nilFunc (.int .i64 0) 88).2.2.2
    have hsf := fun (a : Addr) (c : Array Value) (w : World) => run_store Try.prog w a (.func (.func 91) #[] c) .plain rfl
    go_upto_region 5 with (fail)
    clear hsf
    clear hcz hfz
    have n0_ := Aside0.mk (show Below w.heap.size w (W2.alloc (Obj.cells #[(Value.func (.func 91) #[] #[.pointer (some ⟨gown, 0, none⟩), .pointer (some ⟨gr, 0, none⟩), .pointer (some ⟨gval, 0, none⟩), .pointer (some ⟨gout, 0, none⟩), .pointer (some ⟨W2.heap.size, 0, none⟩)])] 88)) from below_alloc HB.out _)
    have n3_ := Aside0.mk (show Kd.R (Kd.int .i64) 3 (W2.alloc (Obj.cells #[(Value.func (.func 91) #[] #[.pointer (some ⟨gown, 0, none⟩), .pointer (some ⟨gr, 0, none⟩), .pointer (some ⟨gval, 0, none⟩), .pointer (some ⟨gout, 0, none⟩), .pointer (some ⟨W2.heap.size, 0, none⟩)])] 88)) w.heap.size (fun k_ => k_ = go) _ _ from Kd.R_alloc (Kd.R_mono (Kd.R_tight rfl HO.out) (fun k_ hk_ => by simpa [Value.ownBlock] using hk_)) _)
    have n6_ := Aside0.mk (show Kd.R (Kd.int .i64) 3 (W2.alloc (Obj.cells #[(Value.func (.func 91) #[] #[.pointer (some ⟨gown, 0, none⟩), .pointer (some ⟨gr, 0, none⟩), .pointer (some ⟨gval, 0, none⟩), .pointer (some ⟨gout, 0, none⟩), .pointer (some ⟨W2.heap.size, 0, none⟩)])] 88)) w.heap.size (fun k_ => k_ = gv) _ _ from Kd.R_alloc (Kd.R_mono (Kd.R_tight rfl HV.out) (fun k_ hk_ => by simpa [Value.ownBlock] using hk_)) _)
    have n7_ := Aside0.mk (show impl_ruleMasks.Boxes (W2.alloc (Obj.cells #[(Value.func (.func 91) #[] #[.pointer (some ⟨gown, 0, none⟩), .pointer (some ⟨gr, 0, none⟩), .pointer (some ⟨gval, 0, none⟩), .pointer (some ⟨gout, 0, none⟩), .pointer (some ⟨W2.heap.size, 0, none⟩)])] 88)) gown gr gval gout W2.heap.size gv go cv cu A1 c1 l1.length a0_0 A0_1 c0_1 l0_1.length a0_2 from ⟨blk_alloc BO.out _, blk_alloc BR.out _, blk_alloc BV.out _, blk_alloc BU.out _, heap_alloc_new W2 _⟩)
    have gv0 := Kd.R_base HV.out gv rfl
    have go0 := Kd.R_base HO.out go rfl
    clear HB HO HV BR BO BU BV
    have HB := n0_
    have HO := n3_
    have HV := n6_
    have HX := n7_
    clear n0_ n3_ n6_ n7_
    generalize (W2.alloc (Obj.cells #[(Value.func (.func 91) #[] #[.pointer (some ⟨gown, 0, none⟩), .pointer (some ⟨gr, 0, none⟩), .pointer (some ⟨gval, 0, none⟩), .pointer (some ⟨gout, 0, none⟩), .pointer (some ⟨W2.heap.size, 0, none⟩)])] 88)) = W3 at HB HO HV HX ⊢
    generalize W2.heap.size = gtry at HX ⊢
    have hcT := (blk_cell HX.out.2.2.2.2 0).trans (rfl : _ = some (Value.func (.func 91) #[] #[.pointer (some ⟨gown, 0, none⟩), .pointer (some ⟨gr, 0, none⟩), .pointer (some ⟨gval, 0, none⟩), .pointer (some ⟨gout, 0, none⟩), .pointer (some ⟨gtry, 0, none⟩)]))
    go_wp2_with (first | (go_at_call 91; (refine (impl_ruleMasks.clo k a0_0 A0_1 c0_1 l0_1 a0_2 A1 c1 l1 gown gr gval gout gtry gv go cv cu w (by have := HNE.out; omega) gv0 go0 HR0.out HC0.out HR1.out l1.length 0 (List.replicate l1.length 0) (List.replicate l1.length 0) t1 t2 _ (by omega) (Nat.le_refl _) HN.out.2 (by simp) (by simp) HV.out HO.out HX.out HB.out HT.out).mono ?_); rintro e w' ⟨rfl, HL1, HL2, hV, hO, hX, hB⟩; clear HV HO HX HB hcT hV HL1; have HO := Aside0.mk hO; have HB := Aside0.mk hB; have HL := Aside0.mk HL2; have hcU := (blk_cell hX.2.2.2.1 0).trans (rfl : _ = some (Value.slice (some ⟨go, 0, none⟩) l1.length cu)); clear hO hB hX HL2))
    go_ret
    exact ⟨_, rfl, Kd.R_mono HO.out (fun _ _ => trivial), HB.out⟩
  · rw [if_neg hc] at h; cases h

end Go.Proofs.Ythfbjkniinfgcaa.P
namespace Go.Proofs.Ythfbjkniinfgcaa.P
open Go.RowKit Go.Proofs.YthfbjkniinfgcaaW.PrintWords Go.Proofs.YthfbjkniinfgcaaW.PrintLast Go.Proofs.YthfbjkniinfgcaaW.PrintMore
attribute [local go_sem] max2_int min2_int max_two min_two max_three min_three max_four min_four   -- for this text's walks alone
set_option linter.unusedVariables false
set_option linter.unusedSimpArgs false

/-! ### impl_RuleMasks: function 34 -/
mutual
def impl_RuleMasks.j0 : Nat → List Int → Bool → Int → List Int → Int → Option (List Int)
  | 0, _, _, _, _, _ => none
  | k + 1, x1, x19, x526000, x526001, x526002 => if x19 = true then (some ([] : List Int)) else (impl_RuleMasks.l0 k x1 (([] : List Int)) x526001 (x526001.length : Int) 0 x526000 x526001 x526002)
def impl_RuleMasks.l0 : Nat → List Int → List Int → List Int → Int → Int → Int → List Int → Int → Option (List Int)
  | 0, _, _, _, _, _, _, _, _ => none
  | k + 1, x1, x7, x22, x23, x24, x526000, x526001, x526002 => if x24 < x23 then (if 0 ≤ x24 then (if x24 < (x22.length : Int) then (if 0 ≤ (rd x22 x24) then (if (rd x22 x24) < (x1.length : Int) then (if x7.length < 17592186044416 then (impl_RuleMasks.l0 k x1 (x7 ++ [rd x1 (rd x22 x24)]) x22 x23 (wrap64 (x24 + 1)) x526000 x526001 x526002) else (none)) else (none)) else (none)) else (none)) else (none)) else ((impl_ruleMasks.f k x526000 x526001 x526002 x7).bind fun t536 => (some t536))
end
def impl_RuleMasks.f (k : Nat) (a0_0 : Int) (l0_1 : List Int) (a0_2 : Int) (l1 : List Int) (a2 : Int) : Option (List Int) := (impl_RuleValid.f k a0_0 l0_1 a0_2 a2).bind fun t526 => (if t526 = true then ((impl_MasksValid.f k l1 a2).bind fun t527 => (impl_RuleMasks.j0 k l1 (!t527) a0_0 l0_1 a0_2)) else (impl_RuleMasks.j0 k l1 true a0_0 l0_1 a0_2))
theorem impl_RuleMasks.mono_l : ∀ k, (∀ y0 y1 y2 y3 y4, LeO (impl_RuleMasks.j0 k y0 y1 y2 y3 y4) (impl_RuleMasks.j0 (k + 1) y0 y1 y2 y3 y4)) ∧ (∀ y0 y1 y2 y3 y4 y5 y6 y7, LeO (impl_RuleMasks.l0 k y0 y1 y2 y3 y4 y5 y6 y7) (impl_RuleMasks.l0 (k + 1) y0 y1 y2 y3 y4 y5 y6 y7))
  | 0 => ⟨fun _ _ _ _ _ r h => by simp [impl_RuleMasks.j0] at h, fun _ _ _ _ _ _ _ _ r h => by simp [impl_RuleMasks.l0] at h⟩
  | k + 1 => by
    obtain ⟨ih0, ih1⟩ := impl_RuleMasks.mono_l k
    refine ⟨?_, ?_⟩
    · intro y0 y1 y2 y3 y4
      unfold impl_RuleMasks.j0
      repeat' first
      | (with_reducible exact ih0 _ _ _ _ _)
      | (with_reducible exact ih1 _ _ _ _ _ _ _ _)
      | (with_reducible exact impl_MasksValid.mono _ _ _)
      | (with_reducible exact impl_RuleValid.mono _ _ _ _ _)
      | (with_reducible exact impl_ruleMasks.mono _ _ _ _ _)
      | (with_reducible exact LeO.refl _)
      | (with_reducible exact LeO.none _)
      | (with_reducible refine LeO.ite ?_ ?_)
      | (with_reducible refine LeO.bind ?_ (fun _ => ?_))
      | exact ih0 _ _ _ _ _
      | exact ih1 _ _ _ _ _ _ _ _
      | exact impl_MasksValid.mono _ _ _
      | exact impl_RuleValid.mono _ _ _ _ _
      | exact impl_ruleMasks.mono _ _ _ _ _
      | exact LeO.none _
      | refine LeO.ite ?_ ?_
      | refine LeO.bind ?_ (fun _ => ?_)
    · intro y0 y1 y2 y3 y4 y5 y6 y7
      unfold impl_RuleMasks.l0
      repeat' first
      | (with_reducible exact ih0 _ _ _ _ _)
      | (with_reducible exact ih1 _ _ _ _ _ _ _ _)
      | (with_reducible exact impl_MasksValid.mono _ _ _)
      | (with_reducible exact impl_RuleValid.mono _ _ _ _ _)
      | (with_reducible exact impl_ruleMasks.mono _ _ _ _ _)
      | (with_reducible exact LeO.refl _)
      | (with_reducible exact LeO.none _)
      | (with_reducible refine LeO.ite ?_ ?_)
      | (with_reducible refine LeO.bind ?_ (fun _ => ?_))
      | exact ih0 _ _ _ _ _
      | exact ih1 _ _ _ _ _ _ _ _
      | exact impl_MasksValid.mono _ _ _
      | exact impl_RuleValid.mono _ _ _ _ _
      | exact impl_ruleMasks.mono _ _ _ _ _
      | exact LeO.none _
      | refine LeO.ite ?_ ?_
      | refine LeO.bind ?_ (fun _ => ?_)
theorem impl_RuleMasks.mono : ∀ a0 a1 a2 a3 a4 k, LeO (impl_RuleMasks.f k a0 a1 a2 a3 a4) (impl_RuleMasks.f (k + 1) a0 a1 a2 a3 a4) := by
  intro a0 a1 a2 a3 a4 k
  obtain ⟨ih0, ih1⟩ := impl_RuleMasks.mono_l k
  unfold impl_RuleMasks.f
  repeat' first
      | (with_reducible exact ih0 _ _ _ _ _)
      | (with_reducible exact ih1 _ _ _ _ _ _ _ _)
      | (with_reducible exact impl_MasksValid.mono _ _ _)
      | (with_reducible exact impl_RuleValid.mono _ _ _ _ _)
      | (with_reducible exact impl_ruleMasks.mono _ _ _ _ _)
      | (with_reducible exact LeO.refl _)
      | (with_reducible exact LeO.none _)
      | (with_reducible refine LeO.ite ?_ ?_)
      | (with_reducible refine LeO.bind ?_ (fun _ => ?_))
      | exact ih0 _ _ _ _ _
      | exact ih1 _ _ _ _ _ _ _ _
      | exact impl_MasksValid.mono _ _ _
      | exact impl_RuleValid.mono _ _ _ _ _
      | exact impl_ruleMasks.mono _ _ _ _ _
      | exact LeO.none _
      | refine LeO.ite ?_ ?_
      | refine LeO.bind ?_ (fun _ => ?_)
set_option maxHeartbeats 8000000 in
set_option maxRecDepth 100000 in
theorem impl_RuleMasks.calls (k : Nat) (a0_0 : Int) (A0_1 : Option Addr) (c0_1 : Nat) (l0_1 : List Int) (a0_2 : Int) (A1 : Option Addr) (c1 : Nat) (l1 : List Int) (a2 : Int) (r : List Int) (w : World) (hr0_1 : Kd.C (Kd.int .i64) w A0_1 l0_1.length l0_1) (hc0_1 : l0_1.length ≤ c0_1) (hr1 : Kd.C (Kd.int .i64) w A1 l1.length l1) (hc1 : l1.length ≤ c1) (h : impl_RuleMasks.f k a0_0 l0_1 a0_2 l1 a2 = some r) :
    Calls Try.prog 34 #[.agg #[.int .i64 a0_0, .slice A0_1 l0_1.length c0_1, .int .i64 a0_2], .slice A1 l1.length c1, .int .i64 a2] w fun e w' => ∃ v0_ : Value, e = .returned (v0_) ∧ Kd.R (Kd.int .i64) 3 w' w.heap.size (fun _ => True) v0_ r ∧ Below w.heap.size w w' := by
  have hu32 := Try.underlying32
  have HR0_1 := yam hr0_1
  have HC0_1 := yam hc0_1
  clear hr0_1 hc0_1
  have HR1 := yam hr1
  have HC1 := yam hc1
  clear hr1 hc1
  have HB := yam (Below.refl w.heap.size w)
  have H : ((impl_RuleValid.f k a0_0 l0_1 a0_2 a2).bind fun t526 => (if t526 = true then ((impl_MasksValid.f k l1 a2).bind fun t527 => (impl_RuleMasks.j0 k l1 (!t527) a0_0 l0_1 a0_2)) else (impl_RuleMasks.j0 k l1 true a0_0 l0_1 a0_2))) = some r := h
  clear h
  have HC4 := yam H
  clear H
  go_enter Try.func34, Try.ntmps34
  go_upto_region 1 with (first | ((with_reducible refine gate_dst (N := 3) rfl ?_); refine box_event ?hg (N := 3) ?hd (cs := #[.int .i64 a0_0, .slice A0_1 l0_1.length c0_1, .int .i64 a0_2]) (t := 32) ?hr ?_; (case hd => rfl); (case hg => rfl); (case hr => first | (go_simp; done) | (go_simp; rfl)); intro gb525 hg w5 hbox hb; have n0_ := yam (below_step (yez HB.out) hb); have n1_ := yam (hbox); have n2_ := yam ((by rw [hg]; exact (below_size (yez HB.out)) : w.heap.size ≤ gb525)); have n3_ := yam ((by rw [hg]; exact (below_size (yez HB.out)) : w.heap.size ≤ gb525)); clear HB; have HB := n0_; have BK525 := n1_; have GW525 := n2_; have GE525 := n3_; clear n0_ n1_ n2_ n3_; clear hb hbox hg))
  (try simp only [Act.put, yps])
  go_cut [19] (fun v19 wc => ∃ (kq : Nat) (x19_3 : Bool), v19 = .bool x19_3 ∧ Aside0 (impl_RuleMasks.j0 kq l1 x19_3 a0_0 l0_1 a0_2 = some r) ∧ Aside0 (kq ≤ k) ∧ Aside0 (wc.heap[gb525]? = some (.cells #[.int .i64 a0_0, (.slice A0_1 l0_1.length c0_1), .int .i64 a0_2] 32 (0, 0))) ∧ Aside0 (Below w.heap.size w wc))
  case first =>
    have H := HC4.out
    clear HC4
    replace H := Option.bind_eq_some_iff.mp H
    obtain ⟨t526, A60, H⟩ := H
    try dsimp only at H
    have A6 := yam A60
    clear A60
    by_cases c7 : t526 = true
    rotate_left
    · replace c7 := Bool.eq_false_iff.mpr c7
      subst c7
      have H1 : (impl_RuleMasks.j0 k l1 true a0_0 l0_1 a0_2) = some r := by rw [if_neg (show ¬ (false = true) by decide)] at H; exact H
      clear H
      have H := H1
      clear H1
      have H' := yam H
      clear H
      have hcz11_0 : w5.cell? ⟨gb525, 0, none⟩ = some (.int .i64 a0_0) := (blk_cell BK525.out 0).trans rfl
      have hcz11_1 : w5.cell? ⟨gb525, 1, none⟩ = some (.slice A0_1 l0_1.length c0_1) := (blk_cell BK525.out 1).trans rfl
      have hcz11_2 : w5.cell? ⟨gb525, 2, none⟩ = some (.int .i64 a0_2) := (blk_cell BK525.out 2).trans rfl
      have hfz11_0 := blk_frozen BK525.out 0
      have hfz11_1 := blk_frozen BK525.out 1
      have hfz11_2 := blk_frozen BK525.out 2
      go_wp2_with (first | ((with_reducible refine gate_callee (f := 23) rfl ?_); refine goesL_ (some 12) rfl rfl Try.func23 (by kernel_rfl) rfl #[.agg #[.int .i64 a0_0, .slice A0_1 l0_1.length c0_1, .int .i64 a0_2], .int .i64 a2] rfl (by (try simp only [List.map_toArray, List.map_cons, List.map_nil]); first | done | rfl | (simp only [List.length_drop, List.length_take]; rfl)) ?_; (with_reducible refine (impl_RuleValid.calls k a0_0 _ _ l0_1 a0_2 a2 false _ ?side1 ?side2 A6.out).mono ?_); (case side1 => exact Kd.Cz ((Kd.C_below HR0_1.out HB.out))); (case side2 => exact HC0_1.out); rintro e w12 ⟨rfl, hb⟩; refine ⟨_, rfl, ?_⟩; have n0_ := yam (blk_below (g := gb525) (o := .cells #[.int .i64 a0_0, .slice A0_1 l0_1.length c0_1, .int .i64 a0_2] 32 (0, 0)) (ybz BK525.out) hb); have n1_ := yam (below_step (by repeat (first | (with_reducible first | exact HB.out | apply yea | apply yen | apply yed | refine below_set ?_ GE525.out) | exact HB.out)) hb); clear BK525; clear HB; have BK525 := n0_; have HB := n1_; clear n0_ n1_; (try clear hb); (try clear hb2); (try clear hk); (try clear hi)))
      go_meet
      case rel => exact ⟨_, (true), (by first | rfl | (simp; done) | (simp [*]; done)), H', ⟨by first | omega | exact Nat.le_refl _⟩, ⟨by (with_reducible repeat (first | refine ybn ?_ _ | refine ybd ?_ | refine yba ?_ _)); exact BK525.out⟩, ⟨by repeat (first | (with_reducible first | exact HB.out | apply yea | apply yen | apply yed | refine below_set ?_ GE525.out) | exact HB.out)⟩⟩
    subst c7
    have H1 : ((impl_MasksValid.f k l1 a2).bind fun t527 => (impl_RuleMasks.j0 k l1 (!t527) a0_0 l0_1 a0_2)) = some r := by rw [if_pos rfl] at H; exact H
    clear H
    have H := H1
    clear H1
    replace H := Option.bind_eq_some_iff.mp H
    obtain ⟨t527, A80, H⟩ := H
    try dsimp only at H
    have A8 := yam A80
    clear A80
    have H' := yam H
    clear H
    have hcz9_0 : w5.cell? ⟨gb525, 0, none⟩ = some (.int .i64 a0_0) := (blk_cell BK525.out 0).trans rfl
    have hcz9_1 : w5.cell? ⟨gb525, 1, none⟩ = some (.slice A0_1 l0_1.length c0_1) := (blk_cell BK525.out 1).trans rfl
    have hcz9_2 : w5.cell? ⟨gb525, 2, none⟩ = some (.int .i64 a0_2) := (blk_cell BK525.out 2).trans rfl
    have hfz9_0 := blk_frozen BK525.out 0
    have hfz9_1 := blk_frozen BK525.out 1
    have hfz9_2 := blk_frozen BK525.out 2
    go_wp2_with (first | ((with_reducible refine gate_callee (f := 23) rfl ?_); refine goesL_ (some 12) rfl rfl Try.func23 (by kernel_rfl) rfl #[.agg #[.int .i64 a0_0, .slice A0_1 l0_1.length c0_1, .int .i64 a0_2], .int .i64 a2] rfl (by (try simp only [List.map_toArray, List.map_cons, List.map_nil]); first | done | rfl | (simp only [List.length_drop, List.length_take]; rfl)) ?_; (with_reducible refine (impl_RuleValid.calls k a0_0 _ _ l0_1 a0_2 a2 true _ ?side1 ?side2 A6.out).mono ?_); (case side1 => exact Kd.Cz ((Kd.C_below HR0_1.out HB.out))); (case side2 => exact HC0_1.out); rintro e w10 ⟨rfl, hb⟩; refine ⟨_, rfl, ?_⟩; have n0_ := yam (blk_below (g := gb525) (o := .cells #[.int .i64 a0_0, .slice A0_1 l0_1.length c0_1, .int .i64 a0_2] 32 (0, 0)) (ybz BK525.out) hb); have n1_ := yam (below_step (by repeat (first | (with_reducible first | exact HB.out | apply yea | apply yen | apply yed | refine below_set ?_ GE525.out) | exact HB.out)) hb); clear BK525; clear HB; have BK525 := n0_; have HB := n1_; clear n0_ n1_; (try clear hb); (try clear hb2); (try clear hk); (try clear hi)) | (go_at_call 21; (with_reducible refine (impl_MasksValid.calls k _ _ l1 a2 t527 _ ?side1 ?side2 A8.out).mono ?_); (case side1 => exact Kd.Cz ((Kd.C_below HR1.out HB.out))); (case side2 => exact HC1.out); rintro e w' ⟨rfl, ⟨nd, rfl⟩⟩))
    go_meet
    case rel => exact ⟨_, (!t527), (by first | rfl | (simp; done) | (simp [*]; done)), H', ⟨by first | omega | exact Nat.le_refl _⟩, ⟨by (with_reducible repeat (first | refine ybn ?_ _ | refine ybd ?_ | refine yba ?_ _)); exact BK525.out⟩, ⟨by repeat (first | (with_reducible first | exact HB.out | apply yea | apply yen | apply yed | refine below_set ?_ GE525.out) | exact HB.out)⟩⟩
  case rest =>
    clear HC4
    try clear c1
    try clear c2
    try clear p2
    try clear c3
    try clear c7
    try clear hcz11_0
    try clear hcz11_1
    try clear hcz11_2
    try clear hcz9_0
    try clear hcz9_1
    try clear hcz9_2
    try clear hfz11_0
    try clear hfz11_1
    try clear hfz11_2
    try clear hfz9_0
    try clear hfz9_1
    try clear hfz9_2
    obtain ⟨kq, x19_3, rfl, HA, HJ3, BK525, HB⟩ := hcut
    cases kq with
    | zero => exact absurd HA.out (by simp [impl_RuleMasks.j0])
    | succ kj3 =>
      have H := HA.out
      clear HA
      simp only [impl_RuleMasks.j0] at H
      by_cases c13 : x19_3 = true
      · subst c13
        have H1 : (some ([] : List Int)) = some r := by rw [if_pos rfl] at H; exact H
        clear H
        have H := H1
        clear H1
        obtain rfl := Option.some.inj H
        go_wp2
        go_ret
        exact ⟨_, by first | rfl | (simp [errW_none, errW_some] <;> rfl) | (simp [*, errW_none, errW_some] <;> rfl), by first | exact Kd.R_nil _ _ _ _ _ | exact Kd.N_nil _ _ _ _ _ | exact Kd.V_nil _ _ _ _ _ | exact Kd.Q_nil _ _ _ _ _ | exact Kd.S_nil _ _ _ _ _, by repeat (first | (with_reducible first | exact HB.out | apply yea | apply yen | apply yed | refine below_set ?_ GE525.out) | exact HB.out)⟩
      replace c13 := Bool.eq_false_iff.mpr c13
      subst c13
      have H1 : (impl_RuleMasks.l0 kj3 l1 (([] : List Int)) l0_1 (l0_1.length : Int) 0 a0_0 l0_1 a0_2) = some r := by rw [if_neg (show ¬ (false = true) by decide)] at H; exact H
      clear H
      have H := H1
      clear H1
      obtain ⟨y528, hy528⟩ : ∃ y_ : List Int, y_ = (([] : List Int)) := ⟨_, rfl⟩
      replace H : (impl_RuleMasks.l0 kj3 l1 y528 l0_1 (l0_1.length : Int) 0 a0_0 l0_1 a0_2) = some r := by first | (rw [hy528]; with_reducible exact H) | (have H2_ := (Option.bind_some _ _).symm.trans H; rw [hy528]; with_reducible exact H2_) | (have H2_ := (Option.bind_some _ _).symm.trans H; with_reducible exact H2_) | with_reducible exact H | (rw [hy528]; exact H) | exact H
      have Ny528 := yam hy528
      clear hy528
      have H' := yam H
      clear H
      go_wp2_with (first | ((with_reducible refine gate_dst (N := 20) rfl ?_); refine Kd.R_lit (Kd.int .i64) _ 3 ?hg (N := 20) ?hd (xs := ([] : List Int)) (inner := []) (ok := fun _ => True) (okp := fun _ => True) ?hr ?hp (fun _ hk => hk) trivial (Below.refl _ _) (Nat.le_refl _) (by simp) ?_; (case hd => rfl); (case hg => rfl); (case hr => first | (go_simp; done) | (go_simp; rfl)); (case hp => exact (Reps.none _ _)); intro v529 w14 ho15 hb hg_ hnew_; clear hg_ hnew_; (first | rw [← Ny528.out] at ho15 | (simp only [Int.reduceToNat] at ho15; rw [← Ny528.out] at ho15)); have n0_ := yam (Kd.R_lower ho15 (below_size (by repeat (first | (with_reducible first | exact HB.out | apply yea | apply yen | apply yed | refine below_set ?_ GE525.out) | exact HB.out)))); have n1_ := yam (blk_below (g := gb525) (o := .cells #[.int .i64 a0_0, .slice A0_1 l0_1.length c0_1, .int .i64 a0_2] 32 (0, 0)) (ybz BK525.out) hb); have n2_ := yam (below_step (by repeat (first | (with_reducible first | exact HB.out | apply yea | apply yen | apply yed | refine below_set ?_ GE525.out) | exact HB.out)) hb); clear BK525; clear HB; have HO530 := n0_; have BK525 := n1_; have HB := n2_; clear n0_ n1_ n2_; clear hb ho15; have hcz16_0 : w14.cell? ⟨gb525, 0, none⟩ = some (.int .i64 a0_0) := (blk_cell BK525.out 0).trans rfl; have hcz16_1 : w14.cell? ⟨gb525, 1, none⟩ = some (.slice A0_1 l0_1.length c0_1) := (blk_cell BK525.out 1).trans rfl; have hcz16_2 : w14.cell? ⟨gb525, 2, none⟩ = some (.int .i64 a0_2) := (blk_cell BK525.out 2).trans rfl; have hfz16_0 := blk_frozen BK525.out 0; have hfz16_1 := blk_frozen BK525.out 1; have hfz16_2 := blk_frozen BK525.out 2))
      go_loopg [7, 24] kj3 (fun kq v7 v24 w' => ∃ (x7_2 : List Int) (x24_2 : Int), v24 = .int .i64 x24_2 ∧ Aside0 (impl_RuleMasks.l0 kq l1 x7_2 l0_1 (l0_1.length : Int) x24_2 a0_0 l0_1 a0_2 = some r) ∧ Aside0 (kq ≤ kj3) ∧ Aside0 (Kd.R (Kd.int .i64) 3 w' w.heap.size (fun _ => True) v7 x7_2) ∧ Aside0 (w'.heap[gb525]? = some (.cells #[.int .i64 a0_0, (.slice A0_1 l0_1.length c0_1), .int .i64 a0_2] 32 (0, 0))) ∧ Aside0 (Below w.heap.size w w'))
      case atStart => exact ⟨(y528), (0), (by first | rfl | (simp; done) | (simp [*]; done)), H', ⟨Nat.le_refl _⟩, ⟨by (with_reducible repeat (first | apply Kd.Ya | apply Kd.Yn | apply Kd.Yd)); exact HO530.out⟩, ⟨by (with_reducible repeat (first | refine ybn ?_ _ | refine ybd ?_ | refine yba ?_ _)); exact BK525.out⟩, ⟨by repeat (first | (with_reducible first | exact HB.out | apply yea | apply yen | apply yed | refine below_set ?_ GE525.out) | exact HB.out)⟩⟩
      case round =>
        clear H'
        try clear c1
        try clear c2
        try clear p2
        try clear c3
        try clear c7
        try clear c13
        try clear hcz11_0
        try clear hcz11_1
        try clear hcz11_2
        try clear hcz16_0
        try clear hcz16_1
        try clear hcz16_2
        try clear hcz9_0
        try clear hcz9_1
        try clear hcz9_2
        try clear hfz11_0
        try clear hfz11_1
        try clear hfz11_2
        try clear hfz16_0
        try clear hfz16_1
        try clear hfz16_2
        try clear hfz9_0
        try clear hfz9_1
        try clear hfz9_2
        try clear p2
        obtain ⟨x7_2, x24_2, rfl, HA, HK2, HO_7, BK525, HB⟩ := hrel
        cases gk with
        | zero => exact absurd HA.out (by simp [impl_RuleMasks.l0])
        | succ k2 =>
          have H := HA.out
          clear HA
          simp only [impl_RuleMasks.l0] at H
          by_cases c17 : x24_2 < (l0_1.length : Int)
          rotate_left
          · rw [if_neg c17] at H
            have c17b0 : decide (x24_2 < (l0_1.length : Int)) = false := decide_eq_false c17
            clear c17
            replace H := Option.bind_eq_some_iff.mp H
            obtain ⟨t536, A240, H⟩ := H
            try dsimp only at H
            have A24 := yam A240
            clear A240
            obtain rfl := Option.some.inj H
            have hcz25_0 : wr.cell? ⟨gb525, 0, none⟩ = some (.int .i64 a0_0) := (blk_cell BK525.out 0).trans rfl
            have hcz25_1 : wr.cell? ⟨gb525, 1, none⟩ = some (.slice A0_1 l0_1.length c0_1) := (blk_cell BK525.out 1).trans rfl
            have hcz25_2 : wr.cell? ⟨gb525, 2, none⟩ = some (.int .i64 a0_2) := (blk_cell BK525.out 2).trans rfl
            have hfz25_0 := blk_frozen BK525.out 0
            have hfz25_1 := blk_frozen BK525.out 1
            have hfz25_2 := blk_frozen BK525.out 2
            obtain ⟨Ao26, co26, eo26⟩ := Kd.R_slice HO_7.out
            subst eo26
            go_wp2_with (first | ((with_reducible refine gate_callee (f := 77) rfl ?_); refine goesL_ (some 38) rfl rfl Try.func77 (by kernel_rfl) rfl #[.agg #[.int .i64 a0_0, .slice A0_1 l0_1.length c0_1, .int .i64 a0_2], .slice Ao26 x7_2.length co26] rfl (by (try simp only [List.map_toArray, List.map_cons, List.map_nil]); first | done | rfl | (simp only [List.length_drop, List.length_take]; rfl)) ?_; (with_reducible refine (impl_ruleMasks.calls k2 a0_0 _ _ l0_1 a0_2 _ _ x7_2 t536 _ ?side1 ?side2 ?side3 ?side4 A24.out).mono ?_); (case side1 => exact Kd.Cz ((Kd.C_below HR0_1.out HB.out))); (case side2 => exact HC0_1.out); (case side3 => repeat (first | exact (Kd.Yr HO_7.out).2.2 | (with_reducible refine Kd.C_alloc ?_ _) | (with_reducible refine Kd.C_drewN ?_ _) | (with_reducible refine Kd.C_drew ?_))); (case side4 => exact (Kd.Yr HO_7.out).2.1); rintro e w27 ⟨v537, rfl, ho0, hb⟩; refine ⟨_, rfl, ?_⟩; have n0_ := yam (Kd.Ye (Kd.Yz HO_7.out) (Kd.Yb ho0) hb); have n1_ := yam (Kd.R_lower (Kd.Yw ho0 (Kd.R_lt (Kd.Yz HO_7.out))) (below_size (by repeat (first | (with_reducible first | exact HB.out | apply yea | apply yen | apply yed | refine below_set ?_ GE525.out) | exact HB.out)))); have n2_ := yam (blk_below (g := gb525) (o := .cells #[.int .i64 a0_0, .slice A0_1 l0_1.length c0_1, .int .i64 a0_2] 32 (0, 0)) (ybz BK525.out) hb); have n3_ := yam (below_step (by repeat (first | (with_reducible first | exact HB.out | apply yea | apply yen | apply yed | refine below_set ?_ GE525.out) | exact HB.out)) hb); clear HO_7; clear BK525; clear HB; have HO_7 := n0_; have HO538 := n1_; have BK525 := n2_; have HB := n3_; clear n0_ n1_ n2_ n3_; (try clear hb); (try clear hb2); (try clear hk); (try clear hi); (try clear ho0)))
            go_ret
            exact ⟨_, by first | rfl | (simp [errW_none, errW_some] <;> rfl) | (simp [*, errW_none, errW_some] <;> rfl), by (with_reducible repeat (first | apply Kd.Ya | apply Kd.Yn | apply Kd.Yd)); exact Kd.R_mono HO538.out (fun _ hk => trivial), by repeat (first | (with_reducible first | exact HB.out | apply yea | apply yen | apply yed | refine below_set ?_ GE525.out) | exact HB.out)⟩

          rw [if_pos c17] at H
          have c17b0 : decide (x24_2 < (l0_1.length : Int)) = true := decide_eq_true c17
          clear c17
          by_cases c18 : 0 ≤ x24_2
          rotate_left
          · rw [if_neg c18] at H
            exact absurd H (by simp)
          rw [if_pos c18] at H
          have c18b0 : decide (0 ≤ x24_2) = true := decide_eq_true c18
          clear c18
          by_cases c19 : x24_2 < (l0_1.length : Int)
          rotate_left
          · rw [if_neg c19] at H
            exact absurd H (by simp)
          rw [if_pos c19] at H
          have c19b0 : decide (x24_2 < (l0_1.length : Int)) = true := decide_eq_true c19
          clear c19
          by_cases c20 : 0 ≤ (rd l0_1 x24_2)
          rotate_left
          · rw [if_neg c20] at H
            exact absurd H (by simp)
          rw [if_pos c20] at H
          have c20b0 : decide (0 ≤ (rd l0_1 x24_2)) = true := decide_eq_true c20
          clear c20
          by_cases c21 : (rd l0_1 x24_2) < (l1.length : Int)
          rotate_left
          · rw [if_neg c21] at H
            exact absurd H (by simp)
          rw [if_pos c21] at H
          have c21b0 : decide ((rd l0_1 x24_2) < (l1.length : Int)) = true := decide_eq_true c21
          clear c21
          by_cases c22 : x7_2.length < 17592186044416
          rotate_left
          · rw [if_neg c22] at H
            exact absurd H (by simp)
          rw [if_pos c22] at H
          have LMc22 := yam c22
          clear c22
          obtain ⟨y533, hy533⟩ : ∃ y_ : List Int, y_ = (x7_2 ++ [rd l1 (rd l0_1 x24_2)]) := ⟨_, rfl⟩
          replace H : (impl_RuleMasks.l0 k2 l1 y533 l0_1 (l0_1.length : Int) (wrap64 (x24_2 + 1)) a0_0 l0_1 a0_2) = some r := by first | (rw [hy533]; with_reducible exact H) | (have H2_ := (Option.bind_some _ _).symm.trans H; rw [hy533]; with_reducible exact H2_) | (have H2_ := (Option.bind_some _ _).symm.trans H; with_reducible exact H2_) | with_reducible exact H | (rw [hy533]; exact H) | exact H
          have Ny533 := yam hy533
          clear hy533
          have H' := yam H
          clear H
          have p531 : 0 ≤ (x24_2 : Int) := of_decide_eq_true (by first | (with_reducible assumption) | assumption)
          have q531 : x24_2 < (l0_1.length : Int) := of_decide_eq_true (by first | (with_reducible assumption) | assumption)
          obtain ⟨ad531, e531, hx531_0⟩ := Kd.at_int HR0_1.out x24_2 p531 q531
          cases e531
          replace hx531_0 := (HB.out.cell (World.block_lt_of_cell? w _ hx531_0)).trans hx531_0
          replace p531 := eq_true p531
          replace q531 := eq_true q531
          have p532 : 0 ≤ ((rd l0_1 x24_2) : Int) := of_decide_eq_true (by first | (with_reducible assumption) | assumption)
          have q532 : (rd l0_1 x24_2) < (l1.length : Int) := of_decide_eq_true (by first | (with_reducible assumption) | assumption)
          obtain ⟨ad532, e532, hx532_0⟩ := Kd.at_int HR1.out (rd l0_1 x24_2) p532 q532
          cases e532
          replace hx532_0 := (HB.out.cell (World.block_lt_of_cell? w _ hx532_0)).trans hx532_0
          replace p532 := eq_true p532
          replace q532 := eq_true q532
          go_wp2_with (first | ((with_reducible refine gate_builtin (b := .append) (xs := #[.tmp 28, .tmp 33]) rfl ?_); at_builtin; refine Kd.R_append (Kd.int .i64) (w0 := w) w.heap.size rfl (.tmp 28) (.tmp 33) 23 3 (.int .i64 0) 8 rfl Try.underlying23 info3 rfl (by decide) (by omega) u7 x7_2 (rd l1 (rd l0_1 x24_2)) [.int .i64 (rd l1 (rd l0_1 x24_2))] (fun _ => True) (fun _ => False) rfl rfl ?aP (fun _ hk => hk.elim) ?aF ?aO ?aB ?aS ?aL ?_; (case aP => exact rfl); (case aB => exact (by repeat (first | (with_reducible first | exact HB.out | apply yea | apply yen | apply yed | refine below_set ?_ GE525.out) | exact HB.out))); (case aF => exact (fun _ _ => trivial)); (case aO => exact (Kd.Yz HO_7.out)); (case aS => exact (below_size (by repeat (first | (with_reducible first | exact HB.out | apply yea | apply yen | apply yed | refine below_set ?_ GE525.out) | exact HB.out)))); (case aL => have := LMc22.out; omega); intro v534 w23 ho hb hg hat; rw [← Ny533.out] at ho; have n0_ := yam (blk_grown (g := gb525) (o := .cells #[.int .i64 a0_0, .slice (some ad531) l0_1.length c0_1, .int .i64 a0_2] 32 (0, 0)) (ybz BK525.out) hg (Kd.R_ne HO_7.out BK525.out (by decide))); have n1_ := yam (hb); have n2_ := yam (ho); clear BK525; clear HB; clear HO_7; have BK525 := n0_; have HB := n1_; have HO535 := n2_; clear n0_ n1_ n2_; clear ho hb hg hat))
          go_roundg k2
          case measure => have := HJ3.out; have := HK2.out; omega
          case rel => exact ⟨(y533), (wrap64 (x24_2 + 1)), (by first | rfl | (simp; done) | (simp [*]; done)), H', ⟨by have := HJ3.out; have := HK2.out; omega⟩, ⟨by (with_reducible repeat (first | apply Kd.Ya | apply Kd.Yn | apply Kd.Yd)); exact HO535.out⟩, ⟨by (with_reducible repeat (first | refine ybn ?_ _ | refine ybd ?_ | refine yba ?_ _)); exact BK525.out⟩, ⟨by repeat (first | (with_reducible first | exact HB.out | apply yea | apply yen | apply yed | refine below_set ?_ GE525.out) | exact HB.out)⟩⟩
end Go.Proofs.Ythfbjkniinfgcaa.P
namespace Go.Proofs.Ythfbjkniinfgcaa.P
open Go.RowKit Go.Proofs.YthfbjkniinfgcaaW.PrintWords Go.Proofs.YthfbjkniinfgcaaW.PrintLast Go.Proofs.YthfbjkniinfgcaaW.PrintMore
attribute [local go_sem] max2_int min2_int max_two min_two max_three min_three max_four min_four   -- for this text's walks alone
set_option linter.unusedVariables false
set_option linter.unusedSimpArgs false

/-! ### slices_Clone_int_int: function 84 -/
def slices_Clone_int_int.f (l0 : List Int) : Option (List Int) := if l0.length < 17592186044416 then some l0 else none
set_option maxHeartbeats 8000000 in
set_option maxRecDepth 100000 in
theorem slices_Clone_int_int.calls (A0 : Option Addr) (c0 : Nat) (l0 : List Int) (r : List Int) (w : World) (hr0 : Kd.C (Kd.int .i64) w A0 l0.length l0) (hc0 : l0.length ≤ c0) (h : slices_Clone_int_int.f l0 = some r) :
    Calls Try.prog 84 #[.slice A0 l0.length c0] w fun e w' => ∃ v0_ : Value, e = .returned (v0_) ∧ Kd.R (Kd.int .i64) 3 w' w.heap.size (fun _ => True) v0_ r ∧ Below w.heap.size w w' := by
  have hcl : l0 = r ∧ l0.length < 17592186044416 := by
    unfold slices_Clone_int_int.f at h
    by_cases hc : l0.length < 17592186044416
    · rw [if_pos hc] at h; exact ⟨Option.some.inj h, hc⟩
    · rw [if_neg hc] at h; exact absurd h (by simp)
  clear h
  obtain ⟨rfl, hlim⟩ := hcl
  have HR0 := Aside0.mk hr0
  have HC0 := Aside0.mk hc0
  have HLM := Aside0.mk hlim
  clear hr0 hc0 hlim
  have HB := Aside0.mk (Below.refl w.heap.size w)
  have hnil := fun (W : World) (A : Option Addr) (n c : Nat) => Lib.run_eql_slice_nil (P := Try.prog) W 23 3 A n c 0 0 Try.underlying23
  cases A0 with
  | none =>
    have hl : l0 = [] := by
      cases l0 with
      | nil => rfl
      | cons x t =>
        obtain ⟨ad, e, _⟩ := Kd.at_int HR0.out 0 (by decide) (by simp only [List.length_cons]; omega)
        cases e
    subst hl
    go_enter Try.func84, Try.ntmps84
    go_wp2
    go_ret
    exact ⟨.slice none 0 0, rfl, Kd.R_nil _ _ _ _ _, Below.refl _ _⟩
  | some ad =>
    obtain ⟨y361, hy361⟩ : ∃ y_ : List Int, y_ = (([] : List Int)) := ⟨_, rfl⟩
    have Ny361 := Aside0.mk hy361
    clear hy361
    go_enter Try.func84, Try.ntmps84
    go_wp2_with (first | ((with_reducible refine gate_dst (N := 5) rfl ?_); refine Kd.R_lit (Kd.int .i64) _ 3 ?hg (N := 5) ?hd (xs := ([] : List Int)) (inner := []) (ok := fun _ => True) (okp := fun _ => True) ?hr ?hp (fun _ hk => hk) trivial (Below.refl _ _) (Nat.le_refl _) (by simp) ?_; (case hd => rfl); (case hg => rfl); (case hr => first | (go_simp; done) | (go_simp; rfl)); (case hp => exact (Reps.none _ _)); intro v362 w3 ho4 hb hg_ hnew_; clear hg_ hnew_; rw [← Ny361.out] at ho4; have n0_ := Aside0.mk (Kd.R_lower ho4 (below_size (by repeat (first | (with_reducible first | exact HB.out | apply below_alloc | apply pw_below_drewN | apply below_drew1) | exact HB.out)))); have n1_ := Aside0.mk (below_step (by repeat (first | (with_reducible first | exact HB.out | apply below_alloc | apply pw_below_drewN | apply below_drew1) | exact HB.out)) hb); clear HB; have HO363 := n0_; have HB := n1_; clear n0_ n1_; clear hb ho4) | ((with_reducible refine gate_builtin (b := .append) (xs := #[.tmp 5, .tmp 6]) rfl ?_); at_builtin; refine Kd.R_append_rows (Kd.int .i64) (w0 := w) w.heap.size rfl (.tmp 5) (.tmp 6) 23 3 (.int .i64 0) 8 rfl Try.underlying23 info3 rfl (by decide) (by omega) v362 y361 l0 _ _ _ (fun _ => True) (fun _ => False) rfl rfl ?aO ?aR (fun _ _ h => h) (fun _ h => h.elim) ?aF ?aB ?aS ?aL ?_; (case aR => repeat (first | exact (Kd.C_below HR0.out HB.out) | (with_reducible refine Kd.C_alloc ?_ _) | (with_reducible refine Kd.C_drewN ?_ _) | (with_reducible refine Kd.C_drew ?_))); (case aB => exact (by repeat (first | (with_reducible first | exact HB.out | apply below_alloc | apply pw_below_drewN | apply below_drew1) | exact HB.out))); (case aF => exact (fun _ _ => trivial)); (case aO => exact (by (with_reducible repeat (first | apply Kd.R_alloc | apply Kd.R_drewN | apply Kd.R_drew)); exact HO363.out)); (case aS => exact (below_size (by repeat (first | (with_reducible first | exact HB.out | apply below_alloc | apply pw_below_drewN | apply below_drew1) | exact HB.out)))); (case aL => have := HLM.out; rw [Ny361.out]; simp only [List.length_nil]; omega); intro v365 w5 ho hb hg hat; rw [Ny361.out, List.nil_append] at ho; have n0_ := Aside0.mk (hb); have n1_ := Aside0.mk (ho); clear HB; clear HO363; have HB := n0_; have HO366 := n1_; clear n0_ n1_; clear ho hb hg hat))
    go_ret
    exact ⟨_, rfl, by (with_reducible repeat (first | apply Kd.R_alloc | apply Kd.R_drewN | apply Kd.R_drew)); exact HO366.out, by repeat (first | (with_reducible first | exact HB.out | apply below_alloc | apply pw_below_drewN | apply below_drew1) | exact HB.out)⟩

end Go.Proofs.Ythfbjkniinfgcaa.P
