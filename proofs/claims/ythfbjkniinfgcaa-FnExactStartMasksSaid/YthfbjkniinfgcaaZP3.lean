/- The machine's side: each Go function as a plain Lean function and the proof that the machine's call does what that function says; written by this session's own program over the kit's print. -/
import Derived.Test.YthfbjkniinfgcaaZP1
import Derived.Test.YthfbjkniinfgcaaZP2
namespace Go.Proofs.Ythfbjkniinfgcaa.P
open Go.RowKit Go.Proofs.YthfbjkniinfgcaaW.PrintWords Go.Proofs.YthfbjkniinfgcaaW.PrintLast Go.Proofs.YthfbjkniinfgcaaW.PrintMore
attribute [local go_sem] max2_int min2_int max_two min_two max_three min_three max_four min_four   -- for this text's walks alone
set_option linter.unusedVariables false
set_option linter.unusedSimpArgs false

/-! ### spec_PuzzleValid: function 26 -/
def spec_PuzzleValid.l0 : Nat → Int → Int → List Int → List (S32) → Option (Bool)
  | 0, _, _, _, _ => none
  | k + 1, x3, x378000, x378001, x378002 => if x3 < (x378002.length : Int) then (if 0 ≤ x3 then ((spec_RuleValid.f k ((rd_T32 x378002 x3).f0) ((rd_T32 x378002 x3).f1) ((rd_T32 x378002 x3).f2) x378000).bind fun t379 => (if t379 = true then (spec_PuzzleValid.l0 k (wrap64 (x3 + 1)) x378000 x378001 x378002) else (some false))) else (none)) else ((spec_GridValid.f k x378001 x378000).bind fun t380 => (if t380 = true then (some (decide ((x378002.length : Int) ≤ 20))) else (some false)))
def spec_PuzzleValid.f (k : Nat) (a0_0 : Int) (l0_1 : List Int) (l0_2 : List (S32)) : Option (Bool) := spec_PuzzleValid.l0 k 0 a0_0 l0_1 l0_2
theorem spec_PuzzleValid.mono_l : ∀ k, (∀ y0 y1 y2 y3, LeO (spec_PuzzleValid.l0 k y0 y1 y2 y3) (spec_PuzzleValid.l0 (k + 1) y0 y1 y2 y3))
  | 0 => fun _ _ _ _ r h => by simp [spec_PuzzleValid.l0] at h
  | k + 1 => by
    have ih0 := spec_PuzzleValid.mono_l k
    · intro y0 y1 y2 y3
      unfold spec_PuzzleValid.l0
      repeat' first
      | (with_reducible exact ih0 _ _ _ _)
      | (with_reducible exact spec_GridValid.mono _ _ _)
      | (with_reducible exact spec_RuleValid.mono _ _ _ _ _)
      | (with_reducible exact LeO.refl _)
      | (with_reducible exact LeO.none _)
      | (with_reducible refine LeO.ite ?_ ?_)
      | (with_reducible refine LeO.bind ?_ (fun _ => ?_))
      | exact ih0 _ _ _ _
      | exact spec_GridValid.mono _ _ _
      | exact spec_RuleValid.mono _ _ _ _ _
      | exact LeO.none _
      | refine LeO.ite ?_ ?_
      | refine LeO.bind ?_ (fun _ => ?_)
theorem spec_PuzzleValid.mono : ∀ a0 a1 a2 k, LeO (spec_PuzzleValid.f k a0 a1 a2) (spec_PuzzleValid.f (k + 1) a0 a1 a2) := by
  intro a0 a1 a2 k
  have ih0 := spec_PuzzleValid.mono_l k
  unfold spec_PuzzleValid.f
  repeat' first
      | (with_reducible exact ih0 _ _ _ _)
      | (with_reducible exact spec_GridValid.mono _ _ _)
      | (with_reducible exact spec_RuleValid.mono _ _ _ _ _)
      | (with_reducible exact LeO.refl _)
      | (with_reducible exact LeO.none _)
      | (with_reducible refine LeO.ite ?_ ?_)
      | (with_reducible refine LeO.bind ?_ (fun _ => ?_))
      | exact ih0 _ _ _ _
      | exact spec_GridValid.mono _ _ _
      | exact spec_RuleValid.mono _ _ _ _ _
      | exact LeO.none _
      | refine LeO.ite ?_ ?_
      | refine LeO.bind ?_ (fun _ => ?_)
def spec_PuzzleValid.T4 : Bool × List (List Nat × List Nat) := (true, [([], []), ([0], [0]), ([], []), ([1, 2], [1, 2]), ([3], [3]), ([], []), ([5], [5]), ([4, 6], [4, 6]), ([7], [7])])
def spec_PuzzleValid.B4 : List Nat := [0, 1, 0, 7, 15, 0, 32, 127, 255]
theorem spec_PuzzleValid.tab4 : rtab .any (opsOf Try.f26 4) = spec_PuzzleValid.T4 := by kernel_rfl
theorem spec_PuzzleValid.bits4 : waitsOk spec_PuzzleValid.T4.2 spec_PuzzleValid.B4 = true := by kernel_rfl
set_option maxHeartbeats 8000000 in
set_option maxRecDepth 100000 in
theorem spec_PuzzleValid.calls (k : Nat) (a0_0 : Int) (A0_1 : Option Addr) (c0_1 : Nat) (l0_1 : List Int) (A0_2 : Option Addr) (c0_2 : Nat) (l0_2 : List (S32)) (r : Bool) (w : World) (hr0_1 : Kd.C (Kd.int .i64) w A0_1 l0_1.length l0_1) (hc0_1 : l0_1.length ≤ c0_1) (hr0_2 : Kd.C k32 w A0_2 l0_2.length l0_2) (hc0_2 : l0_2.length ≤ c0_2) (h : spec_PuzzleValid.f k a0_0 l0_1 l0_2 = some r) :
    Calls Try.prog 26 #[.agg #[.int .i64 a0_0, .slice A0_1 l0_1.length c0_1, .slice A0_2 l0_2.length c0_2]] w fun e w' => e = .returned (.bool r) ∧ Below w.heap.size w w' := by
  have hu43 := Try.underlying43
  have hu32 := Try.underlying32
  have HR0_1 := yam hr0_1
  have HC0_1 := yam hc0_1
  clear hr0_1 hc0_1
  have HR0_2 := yam hr0_2
  have HC0_2 := yam hc0_2
  clear hr0_2 hc0_2
  have HB := yam (Below.refl w.heap.size w)
  have H : (spec_PuzzleValid.l0 k 0 a0_0 l0_1 l0_2) = some r := h
  clear h
  have H' := yam H
  clear H
  go_enter Try.func26, Try.ntmps26
  go_wp2_with (first | ((with_reducible refine gate_dst (N := 1) rfl ?_); (try (refine gate_guard (by rfl) ?_; dsimp only)); refine box_event ?hg (N := 1) ?hd (cs := #[.int .i64 a0_0, .slice A0_1 l0_1.length c0_1, .slice A0_2 l0_2.length c0_2]) (t := 43) ?hr ?_; (case hd => rfl); (case hg => rfl); (case hr => first | (go_simp; done) | (go_simp; rfl)); intro gb377 hg w2 hbox hb; have n0_ := yam (below_step (yez HB.out) hb); have n1_ := yam (hbox); have n2_ := yam ((by rw [hg]; exact (below_size (yez HB.out)) : w.heap.size ≤ gb377)); have n3_ := yam ((by rw [hg]; exact (below_size (yez HB.out)) : w.heap.size ≤ gb377)); clear HB; have HB := n0_; have BK377 := n1_; have GW377 := n2_; have GE377 := n3_; clear n0_ n1_ n2_ n3_; clear hb hbox hg))
  go_loopg [3] k (fun kq v3 w' => ∃ (x3_1 : Int), v3 = .int .i64 x3_1 ∧ Aside0 (spec_PuzzleValid.l0 kq x3_1 a0_0 l0_1 l0_2 = some r) ∧ Aside0 (kq ≤ k) ∧ Aside0 (w'.heap[gb377]? = some (.cells #[.int .i64 a0_0, (.slice A0_1 l0_1.length c0_1), (.slice A0_2 l0_2.length c0_2)] 43 (0, 0))) ∧ Aside0 (Below w.heap.size w w'))
  case atStart => exact ⟨(0), (by first | rfl | (simp; done) | (simp [*]; done)), H', ⟨Nat.le_refl _⟩, ⟨by (with_reducible repeat (first | refine ybn ?_ _ | refine ybd ?_ | refine yba ?_ _)); exact BK377.out⟩, ⟨by repeat (first | (with_reducible first | exact HB.out | apply yea | apply yen | apply yed | refine below_set ?_ GE377.out) | exact HB.out)⟩⟩
  case round =>
    clear H'
    try clear c2
    try clear p2
    obtain ⟨x3_1, rfl, HA, HK1, BK377, HB⟩ := hrel
    cases gk with
    | zero => exact absurd HA.out (by simp [spec_PuzzleValid.l0])
    | succ k1 =>
      have H := HA.out
      clear HA
      simp only [spec_PuzzleValid.l0] at H
      by_cases c3 : x3_1 < (l0_2.length : Int)
      rotate_left
      · rw [if_neg c3] at H
        have c3b0 : decide (x3_1 < (l0_2.length : Int)) = false := decide_eq_false c3
        clear c3
        replace H := Option.bind_eq_some_iff.mp H
        obtain ⟨t380, A130, H⟩ := H
        try dsimp only at H
        have A13 := yam A130
        clear A130
        by_cases c14 : t380 = true
        · subst c14
          have H1 : (some (decide ((l0_2.length : Int) ≤ 20))) = some r := by rw [if_pos rfl] at H; exact H
          clear H
          have H := H1
          clear H1
          obtain rfl := Option.some.inj H
          have hcz15_0 : wr.cell? ⟨gb377, 0, none⟩ = some (.int .i64 a0_0) := (blk_cell BK377.out 0).trans rfl
          have hcz15_1 : wr.cell? ⟨gb377, 1, none⟩ = some (.slice A0_1 l0_1.length c0_1) := (blk_cell BK377.out 1).trans rfl
          have hcz15_2 : wr.cell? ⟨gb377, 2, none⟩ = some (.slice A0_2 l0_2.length c0_2) := (blk_cell BK377.out 2).trans rfl
          have hfz15_0 := blk_frozen BK377.out 0
          have hfz15_1 := blk_frozen BK377.out 1
          have hfz15_2 := blk_frozen BK377.out 2
          go_wp2_with (first | ((with_reducible refine gate_callee (f := 49) rfl ?_); refine goesL_ (some 24) rfl rfl Try.func49 (by kernel_rfl) rfl #[.slice A0_1 l0_1.length c0_1, .int .i64 a0_0] rfl (by (try simp only [List.map_toArray, List.map_cons, List.map_nil]); first | done | rfl | (simp only [List.length_drop, List.length_take]; rfl)) ?_; (with_reducible refine (spec_GridValid.calls k1 _ _ l0_1 a0_0 true _ ?side1 ?side2 A13.out).mono ?_); (case side1 => exact Kd.Cz ((Kd.C_below HR0_1.out HB.out))); (case side2 => exact HC0_1.out); rintro e w' ⟨rfl, ⟨nd, rfl⟩⟩; refine ⟨_, rfl, ?_⟩))
          go_ret
          exact ⟨by first | rfl | (simp [errW_none, errW_some] <;> rfl) | (simp [*, errW_none, errW_some] <;> rfl), by repeat (first | (with_reducible first | exact HB.out | apply yea | apply yen | apply yed | refine below_set ?_ GE377.out) | exact HB.out)⟩
        replace c14 := Bool.eq_false_iff.mpr c14
        subst c14
        have H1 : (some false) = some r := by rw [if_neg (show ¬ (false = true) by decide)] at H; exact H
        clear H
        have H := H1
        clear H1
        obtain rfl := Option.some.inj H
        have hcz16_0 : wr.cell? ⟨gb377, 0, none⟩ = some (.int .i64 a0_0) := (blk_cell BK377.out 0).trans rfl
        have hcz16_1 : wr.cell? ⟨gb377, 1, none⟩ = some (.slice A0_1 l0_1.length c0_1) := (blk_cell BK377.out 1).trans rfl
        have hcz16_2 : wr.cell? ⟨gb377, 2, none⟩ = some (.slice A0_2 l0_2.length c0_2) := (blk_cell BK377.out 2).trans rfl
        have hfz16_0 := blk_frozen BK377.out 0
        have hfz16_1 := blk_frozen BK377.out 1
        have hfz16_2 := blk_frozen BK377.out 2
        go_wp2_with (first | ((with_reducible refine gate_callee (f := 49) rfl ?_); refine goesL_ (some 24) rfl rfl Try.func49 (by kernel_rfl) rfl #[.slice A0_1 l0_1.length c0_1, .int .i64 a0_0] rfl (by (try simp only [List.map_toArray, List.map_cons, List.map_nil]); first | done | rfl | (simp only [List.length_drop, List.length_take]; rfl)) ?_; (with_reducible refine (spec_GridValid.calls k1 _ _ l0_1 a0_0 false _ ?side1 ?side2 A13.out).mono ?_); (case side1 => exact Kd.Cz ((Kd.C_below HR0_1.out HB.out))); (case side2 => exact HC0_1.out); rintro e w' ⟨rfl, ⟨nd, rfl⟩⟩; refine ⟨_, rfl, ?_⟩))
        go_ret
        exact ⟨by first | rfl | (simp [errW_none, errW_some] <;> rfl) | (simp [*, errW_none, errW_some] <;> rfl), by repeat (first | (with_reducible first | exact HB.out | apply yea | apply yen | apply yed | refine below_set ?_ GE377.out) | exact HB.out)⟩

      rw [if_pos c3] at H
      have c3b0 : decide (x3_1 < (l0_2.length : Int)) = true := decide_eq_true c3
      clear c3
      by_cases c4 : 0 ≤ x3_1
      rotate_left
      · rw [if_neg c4] at H
        exact absurd H (by simp)
      rw [if_pos c4] at H
      have c4b0 : decide (0 ≤ x3_1) = true := decide_eq_true c4
      clear c4
      replace H := Option.bind_eq_some_iff.mp H
      obtain ⟨t379, A50, H⟩ := H
      try dsimp only at H
      have A5 := yam A50
      clear A50
      by_cases c6 : t379 = true
      rotate_left
      · replace c6 := Bool.eq_false_iff.mpr c6
        subst c6
        have H1 : (some false) = some r := by rw [if_neg (show ¬ (false = true) by decide)] at H; exact H
        clear H
        have H := H1
        clear H1
        obtain rfl := Option.some.inj H
        have hcz10_0 : wr.cell? ⟨gb377, 0, none⟩ = some (.int .i64 a0_0) := (blk_cell BK377.out 0).trans rfl
        have hcz10_1 : wr.cell? ⟨gb377, 1, none⟩ = some (.slice A0_1 l0_1.length c0_1) := (blk_cell BK377.out 1).trans rfl
        have hcz10_2 : wr.cell? ⟨gb377, 2, none⟩ = some (.slice A0_2 l0_2.length c0_2) := (blk_cell BK377.out 2).trans rfl
        have hfz10_0 := blk_frozen BK377.out 0
        have hfz10_1 := blk_frozen BK377.out 1
        have hfz10_2 := blk_frozen BK377.out 2
        try go_wp2
        have n0_ := yam (ybd BK377.out)
        have n1_ := yam (yed HB.out)
        clear BK377
        clear HB
        have BK377 := n0_
        have HB := n1_
        clear n0_ n1_
        have p378 : 0 ≤ (x3_1 : Int) := of_decide_eq_true (by first | (with_reducible assumption) | assumption)
        have q378 : x3_1 < (l0_2.length : Int) := of_decide_eq_true (by first | (with_reducible assumption) | assumption)
        obtain ⟨ad378, A378_1, c378_1, e378, hx378_0, hx378_1, hx378_2, hl378_1, hi378_1⟩ := at_T32 HR0_2.out x3_1 p378 q378
        have hw378_2 := hx378_2
        have hw378_1 := hx378_1
        have hw378_0 := hx378_0
        cases e378
        replace hx378_0 := (HB.out.cell (World.block_lt_of_cell? w _ hx378_0)).trans hx378_0
        replace hx378_1 := (HB.out.cell (World.block_lt_of_cell? w _ hx378_1)).trans hx378_1
        replace hx378_2 := (HB.out.cell (World.block_lt_of_cell? w _ hx378_2)).trans hx378_2
        have HR378_1 := yam hi378_1
        have HC378_1 := yam hl378_1
        clear hi378_1 hl378_1
        replace p378 := eq_true p378
        replace q378 := eq_true q378
        refine start_ (n := 9) (S := fun w' => w'.cell? ⟨gb377, 0, none⟩ = some (.int .i64 a0_0) ∧ w'.cell? ⟨gb377, 1, none⟩ = some (.slice A0_1 l0_1.length c0_1) ∧ w'.cell? ⟨gb377, 2, none⟩ = some (.slice (some ad378) l0_2.length c0_2) ∧ w'.cell? (ad378.add ((x3_1).toNat * 3)) = some (.int .i64 ((rd_T32 l0_2 x3_1).f0)) ∧ w'.cell? ⟨(ad378.add ((x3_1).toNat * 3)).block, (ad378.add ((x3_1).toNat * 3)).off + 1, none⟩ = some (.slice A378_1 ((rd_T32 l0_2 x3_1).f1).length c378_1) ∧ w'.cell? ⟨(ad378.add ((x3_1).toNat * 3)).block, (ad378.add ((x3_1).toNat * 3)).off + 2, none⟩ = some (.int .i64 ((rd_T32 l0_2 x3_1).f2))) (ds := []) #[false, false, false, false, false, false, false, false, false] (by kernel_rfl) rfl rfl ⟨(blk_cell BK377.out 0).trans rfl, (blk_cell BK377.out 1).trans rfl, (blk_cell BK377.out 2).trans rfl, ((HB.out.cell (World.block_lt_of_cell? w _ hw378_0)).trans hw378_0), ((HB.out.cell (World.block_lt_of_cell? w _ hw378_1)).trans hw378_1), ((HB.out.cell (World.block_lt_of_cell? w _ hw378_2)).trans hw378_2)⟩ (fun hHeld => ?_); refine with_tabW spec_PuzzleValid.tab4 spec_PuzzleValid.bits4 (fun HT_ HW_ => ?_)
        generalize wr.drew = w11 at BK377 HB HR378_1 hx378_0 hx378_1 hx378_2 hHeld ⊢
        refine pure_ (i := 0) (N := some 11) (v := ?_) (a' := ?_) #[true, false, false, false, false, false, false, false, false] rfl rfl (any_of HT_.out (by kernel_rfl)) (fun _ _ _ h => h) (Or.inl ⟨by rfl, ?_⟩) ?_ ?_
        rotate_left
        · intro w'
          go_simp
          with_reducible rfl
        rotate_left
        · simp only [Act.put, yps, i64_w, i32_w]
          rfl
        refine pure_ (i := 2) (N := some 13) (v := ?_) (a' := ?_) #[true, false, true, false, false, false, false, false, false] rfl rfl (any_of HT_.out (by kernel_rfl)) (fun _ _ _ h => h) (Or.inl ⟨by rfl, ?_⟩) ?_ ?_
        rotate_left
        · intro w'
          go_simp
          with_reducible rfl
        rotate_left
        · simp only [Act.put, yps, i64_w, i32_w]
          rfl
        refine pure_ (i := 5) (N := some 16) (v := ?_) (a' := ?_) #[true, false, true, false, false, true, false, false, false] rfl rfl (any_of HT_.out (by kernel_rfl)) (fun _ _ _ h => h) (Or.inl ⟨by rfl, ?_⟩) ?_ ?_
        rotate_left
        · intro w'
          go_simp
          with_reducible rfl
        rotate_left
        · simp only [Act.put, yps, i64_w, i32_w]
          rfl
        refine take_ (i := 1) (N := some 12) (v := ?_) (a' := ?_) #[true, true, true, false, false, true, false, false, false] rfl rfl (take_ofW HT_.out HW_.out (by kernel_rfl)) (fun _ _ _ h => h) (Or.inl ⟨by rfl, ?_⟩) hHeld ?_ ?_
        rotate_left
        · rintro w' ⟨s0, s1, s2, s3, s4, s5⟩
          go_simp
          with_reducible rfl
        rotate_left
        · simp only [Act.put, yps, i64_w, i32_w]
          rfl
        refine pure_ (i := 3) (N := some 14) (v := ?_) (a' := ?_) #[true, true, true, true, false, true, false, false, false] rfl rfl (any_of HT_.out (by kernel_rfl)) (fun _ _ _ h => h) (Or.inl ⟨by rfl, ?_⟩) ?_ ?_
        rotate_left
        · intro w'
          go_simp
          with_reducible rfl
        rotate_left
        · simp only [Act.put, yps, i64_w, i32_w]
          rfl
        refine take_ (i := 4) (N := some 15) (v := ?_) (a' := ?_) #[true, true, true, true, true, true, false, false, false] rfl rfl (take_ofW HT_.out HW_.out (by kernel_rfl)) (fun _ _ _ h => h) (Or.inl ⟨by rfl, ?_⟩) hHeld ?_ ?_
        rotate_left
        · rintro w' ⟨s0, s1, s2, s3, s4, s5⟩
          go_simp
          with_reducible rfl
        rotate_left
        · simp only [Act.put, yps, i64_w, i32_w]
          rfl
        refine take_ (i := 6) (N := some 17) (v := ?_) (a' := ?_) #[true, true, true, true, true, true, true, false, false] rfl rfl (take_ofW HT_.out HW_.out (by kernel_rfl)) (fun _ _ _ h => h) (Or.inl ⟨by rfl, ?_⟩) hHeld ?_ ?_
        rotate_left
        · rintro w' ⟨s0, s1, s2, s3, s4, s5⟩
          go_simp
          with_reducible rfl
        rotate_left
        · simp only [Act.put, yps, i64_w, i32_w]
          rfl
        refine one_ (i := 7) (N := some 18) #[true, true, true, true, true, true, true, true, false] rfl rfl (one_of HT_.out (by kernel_rfl)) (by decide) (fun K hK => ?_)
        refine goes_ Try.func24 (by kernel_rfl) rfl #[.agg #[.int .i64 ((rd_T32 l0_2 x3_1).f0), .slice A378_1 ((rd_T32 l0_2 x3_1).f1).length c378_1, .int .i64 ((rd_T32 l0_2 x3_1).f2)], .int .i64 a0_0] (by rfl) rfl rfl (by (try simp only [List.map_toArray, List.map_cons, List.map_nil]); first | done | rfl | (simp only [List.length_drop, List.length_take]; rfl)) ?_
        with_reducible refine (spec_RuleValid.calls k1 ((rd_T32 l0_2 x3_1).f0) _ _ ((rd_T32 l0_2 x3_1).f1) ((rd_T32 l0_2 x3_1).f2) a0_0 false _ ?side1 ?side2 A5.out).mono ?_
        (case side1 => exact Kd.Cz ((Kd.C_below HR378_1.out HB.out)))
        (case side2 => exact HC378_1.out)
        rintro e w12 ⟨rfl, hb⟩
        refine ⟨_, rfl, ?_⟩
        have n0_ := yam (blk_below (g := gb377) (o := .cells #[.int .i64 a0_0, .slice A0_1 l0_1.length c0_1, .slice (some ad378) l0_2.length c0_2] 43 (0, 0)) (ybz BK377.out) hb)
        have n1_ := yam (below_step (by repeat (first | (with_reducible first | exact HB.out | apply yea | apply yen | apply yed | refine below_set ?_ GE377.out) | exact HB.out)) hb)
        clear BK377
        clear HB
        have BK377 := n0_
        have HB := n1_
        clear n0_ n1_
        (try clear hb)
        (try clear hb2)
        (try clear hk)
        (try clear hi)
        refine hK.out _ _ ⟨(blk_cell BK377.out 0).trans rfl, (blk_cell BK377.out 1).trans rfl, (blk_cell BK377.out 2).trans rfl, ((HB.out.cell (World.block_lt_of_cell? w _ hw378_0)).trans hw378_0), ((HB.out.cell (World.block_lt_of_cell? w _ hw378_1)).trans hw378_1), ((HB.out.cell (World.block_lt_of_cell? w _ hw378_2)).trans hw378_2)⟩ (fun hHeld => ?_)
        clear hK K
        refine norm_ (a' := ?_) ?_ ?_
        rotate_left
        · show Act.put _ (some 18) _ = _
          simp only [Act.put, yps, i64_w, i32_w]
          rfl
        refine pure_ (i := 8) (N := some 19) (v := ?_) (a' := ?_) #[true, true, true, true, true, true, true, true, true] rfl rfl (any_of HT_.out (by kernel_rfl)) (fun _ _ _ h => h) (Or.inl ⟨by rfl, ?_⟩) ?_ ?_
        rotate_left
        · intro w'
          go_simp
          with_reducible rfl
        rotate_left
        · simp only [Act.put, yps, i64_w, i32_w]
          rfl
        refine done_ (done_of HT_.out (by kernel_rfl)) ?_
        try go_wp2
        go_ret
        exact ⟨by first | rfl | (simp [errW_none, errW_some] <;> rfl) | (simp [*, errW_none, errW_some] <;> rfl), by repeat (first | (with_reducible first | exact HB.out | apply yea | apply yen | apply yed | refine below_set ?_ GE377.out) | exact HB.out)⟩
      subst c6
      have H1 : (spec_PuzzleValid.l0 k1 (wrap64 (x3_1 + 1)) a0_0 l0_1 l0_2) = some r := by rw [if_pos rfl] at H; exact H
      clear H
      have H := H1
      clear H1
      have H' := yam H
      clear H
      have hcz7_0 : wr.cell? ⟨gb377, 0, none⟩ = some (.int .i64 a0_0) := (blk_cell BK377.out 0).trans rfl
      have hcz7_1 : wr.cell? ⟨gb377, 1, none⟩ = some (.slice A0_1 l0_1.length c0_1) := (blk_cell BK377.out 1).trans rfl
      have hcz7_2 : wr.cell? ⟨gb377, 2, none⟩ = some (.slice A0_2 l0_2.length c0_2) := (blk_cell BK377.out 2).trans rfl
      have hfz7_0 := blk_frozen BK377.out 0
      have hfz7_1 := blk_frozen BK377.out 1
      have hfz7_2 := blk_frozen BK377.out 2
      try go_wp2
      have n0_ := yam (ybd BK377.out)
      have n1_ := yam (yed HB.out)
      clear BK377
      clear HB
      have BK377 := n0_
      have HB := n1_
      clear n0_ n1_
      have p378 : 0 ≤ (x3_1 : Int) := of_decide_eq_true (by first | (with_reducible assumption) | assumption)
      have q378 : x3_1 < (l0_2.length : Int) := of_decide_eq_true (by first | (with_reducible assumption) | assumption)
      obtain ⟨ad378, A378_1, c378_1, e378, hx378_0, hx378_1, hx378_2, hl378_1, hi378_1⟩ := at_T32 HR0_2.out x3_1 p378 q378
      have hw378_2 := hx378_2
      have hw378_1 := hx378_1
      have hw378_0 := hx378_0
      cases e378
      replace hx378_0 := (HB.out.cell (World.block_lt_of_cell? w _ hx378_0)).trans hx378_0
      replace hx378_1 := (HB.out.cell (World.block_lt_of_cell? w _ hx378_1)).trans hx378_1
      replace hx378_2 := (HB.out.cell (World.block_lt_of_cell? w _ hx378_2)).trans hx378_2
      have HR378_1 := yam hi378_1
      have HC378_1 := yam hl378_1
      clear hi378_1 hl378_1
      replace p378 := eq_true p378
      replace q378 := eq_true q378
      refine start_ (n := 9) (S := fun w' => w'.cell? ⟨gb377, 0, none⟩ = some (.int .i64 a0_0) ∧ w'.cell? ⟨gb377, 1, none⟩ = some (.slice A0_1 l0_1.length c0_1) ∧ w'.cell? ⟨gb377, 2, none⟩ = some (.slice (some ad378) l0_2.length c0_2) ∧ w'.cell? (ad378.add ((x3_1).toNat * 3)) = some (.int .i64 ((rd_T32 l0_2 x3_1).f0)) ∧ w'.cell? ⟨(ad378.add ((x3_1).toNat * 3)).block, (ad378.add ((x3_1).toNat * 3)).off + 1, none⟩ = some (.slice A378_1 ((rd_T32 l0_2 x3_1).f1).length c378_1) ∧ w'.cell? ⟨(ad378.add ((x3_1).toNat * 3)).block, (ad378.add ((x3_1).toNat * 3)).off + 2, none⟩ = some (.int .i64 ((rd_T32 l0_2 x3_1).f2))) (ds := []) #[false, false, false, false, false, false, false, false, false] (by kernel_rfl) rfl rfl ⟨(blk_cell BK377.out 0).trans rfl, (blk_cell BK377.out 1).trans rfl, (blk_cell BK377.out 2).trans rfl, ((HB.out.cell (World.block_lt_of_cell? w _ hw378_0)).trans hw378_0), ((HB.out.cell (World.block_lt_of_cell? w _ hw378_1)).trans hw378_1), ((HB.out.cell (World.block_lt_of_cell? w _ hw378_2)).trans hw378_2)⟩ (fun hHeld => ?_); refine with_tabW spec_PuzzleValid.tab4 spec_PuzzleValid.bits4 (fun HT_ HW_ => ?_)
      generalize wr.drew = w8 at BK377 HB HR378_1 hx378_0 hx378_1 hx378_2 hHeld ⊢
      refine pure_ (i := 0) (N := some 11) (v := ?_) (a' := ?_) #[true, false, false, false, false, false, false, false, false] rfl rfl (any_of HT_.out (by kernel_rfl)) (fun _ _ _ h => h) (Or.inl ⟨by rfl, ?_⟩) ?_ ?_
      rotate_left
      · intro w'
        go_simp
        with_reducible rfl
      rotate_left
      · simp only [Act.put, yps, i64_w, i32_w]
        rfl
      refine pure_ (i := 2) (N := some 13) (v := ?_) (a' := ?_) #[true, false, true, false, false, false, false, false, false] rfl rfl (any_of HT_.out (by kernel_rfl)) (fun _ _ _ h => h) (Or.inl ⟨by rfl, ?_⟩) ?_ ?_
      rotate_left
      · intro w'
        go_simp
        with_reducible rfl
      rotate_left
      · simp only [Act.put, yps, i64_w, i32_w]
        rfl
      refine pure_ (i := 5) (N := some 16) (v := ?_) (a' := ?_) #[true, false, true, false, false, true, false, false, false] rfl rfl (any_of HT_.out (by kernel_rfl)) (fun _ _ _ h => h) (Or.inl ⟨by rfl, ?_⟩) ?_ ?_
      rotate_left
      · intro w'
        go_simp
        with_reducible rfl
      rotate_left
      · simp only [Act.put, yps, i64_w, i32_w]
        rfl
      refine take_ (i := 1) (N := some 12) (v := ?_) (a' := ?_) #[true, true, true, false, false, true, false, false, false] rfl rfl (take_ofW HT_.out HW_.out (by kernel_rfl)) (fun _ _ _ h => h) (Or.inl ⟨by rfl, ?_⟩) hHeld ?_ ?_
      rotate_left
      · rintro w' ⟨s0, s1, s2, s3, s4, s5⟩
        go_simp
        with_reducible rfl
      rotate_left
      · simp only [Act.put, yps, i64_w, i32_w]
        rfl
      refine pure_ (i := 3) (N := some 14) (v := ?_) (a' := ?_) #[true, true, true, true, false, true, false, false, false] rfl rfl (any_of HT_.out (by kernel_rfl)) (fun _ _ _ h => h) (Or.inl ⟨by rfl, ?_⟩) ?_ ?_
      rotate_left
      · intro w'
        go_simp
        with_reducible rfl
      rotate_left
      · simp only [Act.put, yps, i64_w, i32_w]
        rfl
      refine take_ (i := 4) (N := some 15) (v := ?_) (a' := ?_) #[true, true, true, true, true, true, false, false, false] rfl rfl (take_ofW HT_.out HW_.out (by kernel_rfl)) (fun _ _ _ h => h) (Or.inl ⟨by rfl, ?_⟩) hHeld ?_ ?_
      rotate_left
      · rintro w' ⟨s0, s1, s2, s3, s4, s5⟩
        go_simp
        with_reducible rfl
      rotate_left
      · simp only [Act.put, yps, i64_w, i32_w]
        rfl
      refine take_ (i := 6) (N := some 17) (v := ?_) (a' := ?_) #[true, true, true, true, true, true, true, false, false] rfl rfl (take_ofW HT_.out HW_.out (by kernel_rfl)) (fun _ _ _ h => h) (Or.inl ⟨by rfl, ?_⟩) hHeld ?_ ?_
      rotate_left
      · rintro w' ⟨s0, s1, s2, s3, s4, s5⟩
        go_simp
        with_reducible rfl
      rotate_left
      · simp only [Act.put, yps, i64_w, i32_w]
        rfl
      refine one_ (i := 7) (N := some 18) #[true, true, true, true, true, true, true, true, false] rfl rfl (one_of HT_.out (by kernel_rfl)) (by decide) (fun K hK => ?_)
      refine goes_ Try.func24 (by kernel_rfl) rfl #[.agg #[.int .i64 ((rd_T32 l0_2 x3_1).f0), .slice A378_1 ((rd_T32 l0_2 x3_1).f1).length c378_1, .int .i64 ((rd_T32 l0_2 x3_1).f2)], .int .i64 a0_0] (by rfl) rfl rfl (by (try simp only [List.map_toArray, List.map_cons, List.map_nil]); first | done | rfl | (simp only [List.length_drop, List.length_take]; rfl)) ?_
      with_reducible refine (spec_RuleValid.calls k1 ((rd_T32 l0_2 x3_1).f0) _ _ ((rd_T32 l0_2 x3_1).f1) ((rd_T32 l0_2 x3_1).f2) a0_0 true _ ?side1 ?side2 A5.out).mono ?_
      (case side1 => exact Kd.Cz ((Kd.C_below HR378_1.out HB.out)))
      (case side2 => exact HC378_1.out)
      rintro e w9 ⟨rfl, hb⟩
      refine ⟨_, rfl, ?_⟩
      have n0_ := yam (blk_below (g := gb377) (o := .cells #[.int .i64 a0_0, .slice A0_1 l0_1.length c0_1, .slice (some ad378) l0_2.length c0_2] 43 (0, 0)) (ybz BK377.out) hb)
      have n1_ := yam (below_step (by repeat (first | (with_reducible first | exact HB.out | apply yea | apply yen | apply yed | refine below_set ?_ GE377.out) | exact HB.out)) hb)
      clear BK377
      clear HB
      have BK377 := n0_
      have HB := n1_
      clear n0_ n1_
      (try clear hb)
      (try clear hb2)
      (try clear hk)
      (try clear hi)
      refine hK.out _ _ ⟨(blk_cell BK377.out 0).trans rfl, (blk_cell BK377.out 1).trans rfl, (blk_cell BK377.out 2).trans rfl, ((HB.out.cell (World.block_lt_of_cell? w _ hw378_0)).trans hw378_0), ((HB.out.cell (World.block_lt_of_cell? w _ hw378_1)).trans hw378_1), ((HB.out.cell (World.block_lt_of_cell? w _ hw378_2)).trans hw378_2)⟩ (fun hHeld => ?_)
      clear hK K
      refine norm_ (a' := ?_) ?_ ?_
      rotate_left
      · show Act.put _ (some 18) _ = _
        simp only [Act.put, yps, i64_w, i32_w]
        rfl
      refine pure_ (i := 8) (N := some 19) (v := ?_) (a' := ?_) #[true, true, true, true, true, true, true, true, true] rfl rfl (any_of HT_.out (by kernel_rfl)) (fun _ _ _ h => h) (Or.inl ⟨by rfl, ?_⟩) ?_ ?_
      rotate_left
      · intro w'
        go_simp
        with_reducible rfl
      rotate_left
      · simp only [Act.put, yps, i64_w, i32_w]
        rfl
      refine done_ (done_of HT_.out (by kernel_rfl)) ?_
      try go_wp2
      go_roundg k1
      case measure => have := HK1.out; omega
      case rel => exact ⟨(wrap64 (x3_1 + 1)), (by first | rfl | (simp; done) | (simp [*]; done)), H', ⟨by have := HK1.out; omega⟩, ⟨by (with_reducible repeat (first | refine ybn ?_ _ | refine ybd ?_ | refine yba ?_ _)); exact BK377.out⟩, ⟨by repeat (first | (with_reducible first | exact HB.out | apply yea | apply yen | apply yed | refine below_set ?_ GE377.out) | exact HB.out)⟩⟩
end Go.Proofs.Ythfbjkniinfgcaa.P
namespace Go.Proofs.Ythfbjkniinfgcaa.P
open Go.RowKit Go.Proofs.YthfbjkniinfgcaaW.PrintWords Go.Proofs.YthfbjkniinfgcaaW.PrintLast Go.Proofs.YthfbjkniinfgcaaW.PrintMore
attribute [local go_sem] max2_int min2_int max_two min_two max_three min_three max_four min_four   -- for this text's walks alone
set_option linter.unusedVariables false
set_option linter.unusedSimpArgs false

/-! ### spec_StartMasks: function 40 -/
mutual
def spec_StartMasks.l0 : Nat → List Int → Int → Int → List Int → List (S32) → Option (List Int)
  | 0, _, _, _, _, _ => none
  | k + 1, x3, x4, x602000, x602001, x602002 => if x4 < (x602001.length : Int) then ((spec_PuzzleValid.f k x602000 x602001 x602002).bind fun t605 => (spec_StartMasks.j1 k x3 x4 t605 x602000 x602001 x602002)) else (spec_StartMasks.j1 k x3 x4 false x602000 x602001 x602002)
def spec_StartMasks.j1 : Nat → List Int → Int → Bool → Int → List Int → List (S32) → Option (List Int)
  | 0, _, _, _, _, _, _ => none
  | k + 1, x3, x4, x14, x602000, x602001, x602002 => if x14 = true then (if 0 ≤ x4 then (if x4 < (x602001.length : Int) then (if (rd x602001 x4) > 0 then (if 0 ≤ (rd x602001 x4) then (if x3.length < 17592186044416 then (spec_StartMasks.l0 k (x3 ++ [shl .i64 1 (rd x602001 x4)]) (wrap64 (x4 + 1)) x602000 x602001 x602002) else (none)) else (none)) else (if 0 ≤ (wrap64 (x602000 + 1)) then (if x3.length < 17592186044416 then (spec_StartMasks.l0 k (x3 ++ [wrap64 ((shl .i64 1 (wrap64 (x602000 + 1))) - 2)]) (wrap64 (x4 + 1)) x602000 x602001 x602002) else (none)) else (none))) else (none)) else (none)) else (some x3)
end
def spec_StartMasks.f (k : Nat) (a0_0 : Int) (l0_1 : List Int) (l0_2 : List (S32)) : Option (List Int) := spec_StartMasks.l0 k (([] : List Int)) 0 a0_0 l0_1 l0_2
theorem spec_StartMasks.mono_l : ∀ k, (∀ y0 y1 y2 y3 y4, LeO (spec_StartMasks.l0 k y0 y1 y2 y3 y4) (spec_StartMasks.l0 (k + 1) y0 y1 y2 y3 y4)) ∧ (∀ y0 y1 y2 y3 y4 y5, LeO (spec_StartMasks.j1 k y0 y1 y2 y3 y4 y5) (spec_StartMasks.j1 (k + 1) y0 y1 y2 y3 y4 y5))
  | 0 => ⟨fun _ _ _ _ _ r h => by simp [spec_StartMasks.l0] at h, fun _ _ _ _ _ _ r h => by simp [spec_StartMasks.j1] at h⟩
  | k + 1 => by
    obtain ⟨ih0, ih1⟩ := spec_StartMasks.mono_l k
    refine ⟨?_, ?_⟩
    · intro y0 y1 y2 y3 y4
      unfold spec_StartMasks.l0
      repeat' first
      | (with_reducible exact ih0 _ _ _ _ _)
      | (with_reducible exact ih1 _ _ _ _ _ _)
      | (with_reducible exact spec_PuzzleValid.mono _ _ _ _)
      | (with_reducible exact LeO.refl _)
      | (with_reducible exact LeO.none _)
      | (with_reducible refine LeO.ite ?_ ?_)
      | (with_reducible refine LeO.bind ?_ (fun _ => ?_))
      | exact ih0 _ _ _ _ _
      | exact ih1 _ _ _ _ _ _
      | exact spec_PuzzleValid.mono _ _ _ _
      | exact LeO.none _
      | refine LeO.ite ?_ ?_
      | refine LeO.bind ?_ (fun _ => ?_)
    · intro y0 y1 y2 y3 y4 y5
      unfold spec_StartMasks.j1
      repeat' first
      | (with_reducible exact ih0 _ _ _ _ _)
      | (with_reducible exact ih1 _ _ _ _ _ _)
      | (with_reducible exact spec_PuzzleValid.mono _ _ _ _)
      | (with_reducible exact LeO.refl _)
      | (with_reducible exact LeO.none _)
      | (with_reducible refine LeO.ite ?_ ?_)
      | (with_reducible refine LeO.bind ?_ (fun _ => ?_))
      | exact ih0 _ _ _ _ _
      | exact ih1 _ _ _ _ _ _
      | exact spec_PuzzleValid.mono _ _ _ _
      | exact LeO.none _
      | refine LeO.ite ?_ ?_
      | refine LeO.bind ?_ (fun _ => ?_)
theorem spec_StartMasks.mono : ∀ a0 a1 a2 k, LeO (spec_StartMasks.f k a0 a1 a2) (spec_StartMasks.f (k + 1) a0 a1 a2) := by
  intro a0 a1 a2 k
  obtain ⟨ih0, ih1⟩ := spec_StartMasks.mono_l k
  unfold spec_StartMasks.f
  repeat' first
      | (with_reducible exact ih0 _ _ _ _ _)
      | (with_reducible exact ih1 _ _ _ _ _ _)
      | (with_reducible exact spec_PuzzleValid.mono _ _ _ _)
      | (with_reducible exact LeO.refl _)
      | (with_reducible exact LeO.none _)
      | (with_reducible refine LeO.ite ?_ ?_)
      | (with_reducible refine LeO.bind ?_ (fun _ => ?_))
      | exact ih0 _ _ _ _ _
      | exact ih1 _ _ _ _ _ _
      | exact spec_PuzzleValid.mono _ _ _ _
      | exact LeO.none _
      | refine LeO.ite ?_ ?_
      | refine LeO.bind ?_ (fun _ => ?_)
set_option maxHeartbeats 8000000 in
set_option maxRecDepth 100000 in
theorem spec_StartMasks.calls (k : Nat) (a0_0 : Int) (A0_1 : Option Addr) (c0_1 : Nat) (l0_1 : List Int) (A0_2 : Option Addr) (c0_2 : Nat) (l0_2 : List (S32)) (r : List Int) (w : World) (hr0_1 : Kd.C (Kd.int .i64) w A0_1 l0_1.length l0_1) (hc0_1 : l0_1.length ≤ c0_1) (hr0_2 : Kd.C k32 w A0_2 l0_2.length l0_2) (hc0_2 : l0_2.length ≤ c0_2) (h : spec_StartMasks.f k a0_0 l0_1 l0_2 = some r) :
    Calls Try.prog 40 #[.agg #[.int .i64 a0_0, .slice A0_1 l0_1.length c0_1, .slice A0_2 l0_2.length c0_2]] w fun e w' => ∃ v0_ : Value, e = .returned (v0_) ∧ Kd.R (Kd.int .i64) 3 w' w.heap.size (fun _ => True) v0_ r ∧ Below w.heap.size w w' := by
  have hu43 := Try.underlying43
  have HR0_1 := yam hr0_1
  have HC0_1 := yam hc0_1
  clear hr0_1 hc0_1
  have HR0_2 := yam hr0_2
  have HC0_2 := yam hc0_2
  clear hr0_2 hc0_2
  have HB := yam (Below.refl w.heap.size w)
  have H : (spec_StartMasks.l0 k (([] : List Int)) 0 a0_0 l0_1 l0_2) = some r := h
  clear h
  obtain ⟨y602, hy602⟩ : ∃ y_ : List Int, y_ = (([] : List Int)) := ⟨_, rfl⟩
  replace H : (spec_StartMasks.l0 k y602 0 a0_0 l0_1 l0_2) = some r := by first | (rw [hy602]; with_reducible exact H) | (have H2_ := (Option.bind_some _ _).symm.trans H; rw [hy602]; with_reducible exact H2_) | (have H2_ := (Option.bind_some _ _).symm.trans H; with_reducible exact H2_) | with_reducible exact H | (rw [hy602]; exact H) | exact H
  have Ny602 := yam hy602
  clear hy602
  have H' := yam H
  clear H
  go_enter Try.func40, Try.ntmps40
  go_wp2_with (first | ((with_reducible refine gate_dst (N := 1) rfl ?_); refine box_event ?hg (N := 1) ?hd (cs := #[.int .i64 a0_0, .slice A0_1 l0_1.length c0_1, .slice A0_2 l0_2.length c0_2]) (t := 43) ?hr ?_; (case hd => rfl); (case hg => rfl); (case hr => first | (go_simp; done) | (go_simp; rfl)); intro gb601 hg w2 hbox hb; have n0_ := yam (below_step (yez HB.out) hb); have n1_ := yam (hbox); have n2_ := yam ((by rw [hg]; exact (below_size (yez HB.out)) : w.heap.size ≤ gb601)); have n3_ := yam ((by rw [hg]; exact (below_size (yez HB.out)) : w.heap.size ≤ gb601)); clear HB; have HB := n0_; have BK601 := n1_; have GW601 := n2_; have GE601 := n3_; clear n0_ n1_ n2_ n3_; clear hb hbox hg) | ((with_reducible refine gate_dst (N := 5) rfl ?_); refine Kd.R_lit (Kd.int .i64) _ 3 ?hg (N := 5) ?hd (xs := ([] : List Int)) (inner := []) (ok := fun _ => True) (okp := fun _ => True) ?hr ?hp (fun _ hk => hk) trivial (Below.refl _ _) (Nat.le_refl _) (by simp) ?_; (case hd => rfl); (case hg => rfl); (case hr => first | (go_simp; done) | (go_simp; rfl)); (case hp => exact (Reps.none _ _)); intro v603 w3 ho4 hb hg_ hnew_; clear hg_ hnew_; (first | rw [← Ny602.out] at ho4 | (simp only [Int.reduceToNat] at ho4; rw [← Ny602.out] at ho4)); have n0_ := yam (Kd.R_lower ho4 (below_size (by repeat (first | (with_reducible first | exact HB.out | apply yea | apply yen | apply yed | refine below_set ?_ GE601.out) | exact HB.out)))); have n1_ := yam (blk_below (g := gb601) (o := .cells #[.int .i64 a0_0, .slice A0_1 l0_1.length c0_1, .slice A0_2 l0_2.length c0_2] 43 (0, 0)) (ybz BK601.out) hb); have n2_ := yam (below_step (by repeat (first | (with_reducible first | exact HB.out | apply yea | apply yen | apply yed | refine below_set ?_ GE601.out) | exact HB.out)) hb); clear BK601; clear HB; have HO604 := n0_; have BK601 := n1_; have HB := n2_; clear n0_ n1_ n2_; clear hb ho4))
  go_loopg [3, 4] k (fun kq v3 v4 w' => ∃ (x3_1 : List Int) (x4_1 : Int), v4 = .int .i64 x4_1 ∧ Aside0 (spec_StartMasks.l0 kq x3_1 x4_1 a0_0 l0_1 l0_2 = some r) ∧ Aside0 (kq ≤ k) ∧ Aside0 (Kd.R (Kd.int .i64) 3 w' w.heap.size (fun _ => True) v3 x3_1) ∧ Aside0 (w'.heap[gb601]? = some (.cells #[.int .i64 a0_0, (.slice A0_1 l0_1.length c0_1), (.slice A0_2 l0_2.length c0_2)] 43 (0, 0))) ∧ Aside0 (Below w.heap.size w w'))
  case atStart => exact ⟨(y602), (0), (by first | rfl | (simp; done) | (simp [*]; done)), H', ⟨Nat.le_refl _⟩, ⟨by (with_reducible repeat (first | apply Kd.Ya | apply Kd.Yn | apply Kd.Yd)); exact HO604.out⟩, ⟨by (with_reducible repeat (first | refine ybn ?_ _ | refine ybd ?_ | refine yba ?_ _)); exact BK601.out⟩, ⟨by repeat (first | (with_reducible first | exact HB.out | apply yea | apply yen | apply yed | refine below_set ?_ GE601.out) | exact HB.out)⟩⟩
  case round =>
    clear H'
    try clear p2
    try clear c4
    obtain ⟨x3_1, x4_1, rfl, HA, HK1, HO_3, BK601, HB⟩ := hrel
    cases gk with
    | zero => exact absurd HA.out (by simp [spec_StartMasks.l0])
    | succ k1 =>
      have H := HA.out
      clear HA
      simp only [spec_StartMasks.l0] at H
      have HC5 := yam H
      clear H
      go_upto_region 3 with (fail)
      go_cut [14] (fun v14 wc => ∃ (kq : Nat) (x14_4 : Bool), v14 = .bool x14_4 ∧ Aside0 (spec_StartMasks.j1 kq x3_1 x4_1 x14_4 a0_0 l0_1 l0_2 = some r) ∧ Aside0 (kq ≤ k1) ∧ Aside0 (Kd.R (Kd.int .i64) 3 wc w.heap.size (fun _ => True) u3 x3_1) ∧ Aside0 (wc.heap[gb601]? = some (.cells #[.int .i64 a0_0, (.slice A0_1 l0_1.length c0_1), (.slice A0_2 l0_2.length c0_2)] 43 (0, 0))) ∧ Aside0 (Below w.heap.size w wc))
      case first =>
        have H := HC5.out
        clear HC5
        by_cases c6 : x4_1 < (l0_1.length : Int)
        rotate_left
        · rw [if_neg c6] at H
          have c6b0 : decide (x4_1 < (l0_1.length : Int)) = false := decide_eq_false c6
          clear c6
          (first | rw [c6b0] | (simp only [i64_w, i32_w]; rw [c6b0]) | skip)
          have H' := yam H
          clear H
          have hcz10_0 : wr.cell? ⟨gb601, 0, none⟩ = some (.int .i64 a0_0) := (blk_cell BK601.out 0).trans rfl
          have hcz10_1 : wr.cell? ⟨gb601, 1, none⟩ = some (.slice A0_1 l0_1.length c0_1) := (blk_cell BK601.out 1).trans rfl
          have hcz10_2 : wr.cell? ⟨gb601, 2, none⟩ = some (.slice A0_2 l0_2.length c0_2) := (blk_cell BK601.out 2).trans rfl
          have hfz10_0 := blk_frozen BK601.out 0
          have hfz10_1 := blk_frozen BK601.out 1
          have hfz10_2 := blk_frozen BK601.out 2
          go_wp2
          go_meet
          case rel => exact ⟨_, (false), (by first | rfl | (simp; done) | (simp [*]; done)), H', ⟨by have := HK1.out; first | omega | exact Nat.le_refl _⟩, ⟨by (with_reducible repeat (first | apply Kd.Ya | apply Kd.Yn | apply Kd.Yd)); exact HO_3.out⟩, ⟨by (with_reducible repeat (first | refine ybn ?_ _ | refine ybd ?_ | refine yba ?_ _)); exact BK601.out⟩, ⟨by repeat (first | (with_reducible first | exact HB.out | apply yea | apply yen | apply yed | refine below_set ?_ GE601.out) | exact HB.out)⟩⟩
        rw [if_pos c6] at H
        have c6b0 : decide (x4_1 < (l0_1.length : Int)) = true := decide_eq_true c6
        clear c6
        (first | rw [c6b0] | (simp only [i64_w, i32_w]; rw [c6b0]) | skip)
        replace H := Option.bind_eq_some_iff.mp H
        obtain ⟨t605, A70, H⟩ := H
        try dsimp only at H
        have A7 := yam A70
        clear A70
        have H' := yam H
        clear H
        have hcz8_0 : wr.cell? ⟨gb601, 0, none⟩ = some (.int .i64 a0_0) := (blk_cell BK601.out 0).trans rfl
        have hcz8_1 : wr.cell? ⟨gb601, 1, none⟩ = some (.slice A0_1 l0_1.length c0_1) := (blk_cell BK601.out 1).trans rfl
        have hcz8_2 : wr.cell? ⟨gb601, 2, none⟩ = some (.slice A0_2 l0_2.length c0_2) := (blk_cell BK601.out 2).trans rfl
        have hfz8_0 := blk_frozen BK601.out 0
        have hfz8_1 := blk_frozen BK601.out 1
        have hfz8_2 := blk_frozen BK601.out 2
        go_wp2_with (first | (go_at_call 26; (with_reducible refine (spec_PuzzleValid.calls k1 a0_0 _ _ l0_1 _ _ l0_2 t605 _ ?side1 ?side2 ?side3 ?side4 A7.out).mono ?_); (case side1 => exact Kd.Cz ((Kd.C_below HR0_1.out HB.out))); (case side2 => exact HC0_1.out); (case side3 => exact Kd.Cz ((Kd.C_below HR0_2.out HB.out))); (case side4 => exact HC0_2.out); rintro e w9 ⟨rfl, hb⟩; have n0_ := yam (Kd.R_below (Kd.Yz HO_3.out) hb); have n1_ := yam (blk_below (g := gb601) (o := .cells #[.int .i64 a0_0, .slice A0_1 l0_1.length c0_1, .slice A0_2 l0_2.length c0_2] 43 (0, 0)) (ybz BK601.out) hb); have n2_ := yam (below_step (by repeat (first | (with_reducible first | exact HB.out | apply yea | apply yen | apply yed | refine below_set ?_ GE601.out) | exact HB.out)) hb); clear HO_3; clear BK601; clear HB; have HO_3 := n0_; have BK601 := n1_; have HB := n2_; clear n0_ n1_ n2_; (try clear hb); (try clear hb2); (try clear hk); (try clear hi)))
        go_meet
        case rel => exact ⟨_, (t605), (by first | rfl | (simp; done) | (simp [*]; done)), H', ⟨by have := HK1.out; first | omega | exact Nat.le_refl _⟩, ⟨by (with_reducible repeat (first | apply Kd.Ya | apply Kd.Yn | apply Kd.Yd)); exact HO_3.out⟩, ⟨by (with_reducible repeat (first | refine ybn ?_ _ | refine ybd ?_ | refine yba ?_ _)); exact BK601.out⟩, ⟨by repeat (first | (with_reducible first | exact HB.out | apply yea | apply yen | apply yed | refine below_set ?_ GE601.out) | exact HB.out)⟩⟩
      case rest =>
        clear HC5
        try clear p2
        try clear c4
        try clear c6
        try clear c6b0
        try clear hcz10_0
        try clear hcz10_1
        try clear hcz10_2
        try clear hcz8_0
        try clear hcz8_1
        try clear hcz8_2
        try clear hfz10_0
        try clear hfz10_1
        try clear hfz10_2
        try clear hfz8_0
        try clear hfz8_1
        try clear hfz8_2
        try clear p2
        obtain ⟨kq, x14_4, rfl, HA, HJ4, HO_3, BK601, HB⟩ := hcut
        cases kq with
        | zero => exact absurd HA.out (by simp [spec_StartMasks.j1])
        | succ kj4 =>
          have H := HA.out
          clear HA
          simp only [spec_StartMasks.j1] at H
          by_cases c11 : x14_4 = true
          rotate_left
          · replace c11 := Bool.eq_false_iff.mpr c11
            subst c11
            have H1 : (some x3_1) = some r := by rw [if_neg (show ¬ (false = true) by decide)] at H; exact H
            clear H
            have H := H1
            clear H1
            obtain rfl := Option.some.inj H
            go_wp2
            go_ret
            exact ⟨_, by first | rfl | (simp [errW_none, errW_some] <;> rfl) | (simp [*, errW_none, errW_some] <;> rfl), by (with_reducible repeat (first | apply Kd.Ya | apply Kd.Yn | apply Kd.Yd)); exact HO_3.out, by repeat (first | (with_reducible first | exact HB.out | apply yea | apply yen | apply yed | refine below_set ?_ GE601.out) | exact HB.out)⟩

          subst c11
          have H1 : (if 0 ≤ x4_1 then (if x4_1 < (l0_1.length : Int) then (if (rd l0_1 x4_1) > 0 then (if 0 ≤ (rd l0_1 x4_1) then (if x3_1.length < 17592186044416 then (spec_StartMasks.l0 kj4 (x3_1 ++ [shl .i64 1 (rd l0_1 x4_1)]) (wrap64 (x4_1 + 1)) a0_0 l0_1 l0_2) else (none)) else (none)) else (if 0 ≤ (wrap64 (a0_0 + 1)) then (if x3_1.length < 17592186044416 then (spec_StartMasks.l0 kj4 (x3_1 ++ [wrap64 ((shl .i64 1 (wrap64 (a0_0 + 1))) - 2)]) (wrap64 (x4_1 + 1)) a0_0 l0_1 l0_2) else (none)) else (none))) else (none)) else (none)) = some r := by rw [if_pos rfl] at H; exact H
          clear H
          have H := H1
          clear H1
          by_cases c12 : 0 ≤ x4_1
          rotate_left
          · rw [if_neg c12] at H
            exact absurd H (by simp)
          rw [if_pos c12] at H
          have c12b0 : decide (0 ≤ x4_1) = true := decide_eq_true c12
          clear c12
          by_cases c13 : x4_1 < (l0_1.length : Int)
          rotate_left
          · rw [if_neg c13] at H
            exact absurd H (by simp)
          rw [if_pos c13] at H
          have c13b0 : decide (x4_1 < (l0_1.length : Int)) = true := decide_eq_true c13
          clear c13
          by_cases c14 : (rd l0_1 x4_1) > 0
          rotate_left
          · rw [if_neg c14] at H
            have c14b0 : decide (0 < (rd l0_1 x4_1)) = false := decide_eq_false c14
            clear c14
            obtain ⟨ji20, hji20⟩ : ∃ j_ : Int, (wrap64 (a0_0 + 1)) = j_ := ⟨_, rfl⟩
            replace H : (if 0 ≤ (ji20) then (if x3_1.length < 17592186044416 then (spec_StartMasks.l0 kj4 (x3_1 ++ [wrap64 ((shl .i64 1 (ji20)) - 2)]) (wrap64 (x4_1 + 1)) a0_0 l0_1 l0_2) else (none)) else (none)) = some r := by first | (rw [hji20] at H; exact H) | (simp only [hji20] at H ⊢; exact H)
            have hji20w : (IntKind.i64.wrap (a0_0 + 1)) = ji20 := (i64_w _).trans hji20
            by_cases c21 : 0 ≤ (ji20)
            rotate_left
            · rw [if_neg c21] at H
              exact absurd H (by simp)
            rw [if_pos c21] at H
            have c21b0 := eq_true c21
            have c21b1 : decide (0 ≤ (ji20)) = true := decide_eq_true c21
            clear c21
            obtain ⟨ji22, hji22⟩ : ∃ j_ : Int, (shl .i64 1 (ji20)) = j_ := ⟨_, rfl⟩
            replace H : (if x3_1.length < 17592186044416 then (spec_StartMasks.l0 kj4 (x3_1 ++ [wrap64 ((ji22) - 2)]) (wrap64 (x4_1 + 1)) a0_0 l0_1 l0_2) else (none)) = some r := by first | (rw [hji22] at H; exact H) | (simp only [hji22] at H ⊢; exact H)
            have hji22_ : (IntKind.i64.wrap (1 * 2 ^ min (ji20).toNat 64)) = ji22 := hji22
            have hji22z : (ji20) ≤ 64 → (IntKind.i64.wrap (1 * 2 ^ (ji20).toNat)) = ji22 := shl_small hji22
            have hji22u : (IntKind.i64.wrap (2 ^ min (ji20).toNat 64)) = ji22 := by have h_ := hji22_; rw [Int.one_mul] at h_; exact h_
            have hji22v : (ji20) ≤ 64 → (IntKind.i64.wrap (2 ^ (ji20).toNat)) = ji22 := fun hle_ => by have h_ := hji22z hle_; rw [Int.one_mul] at h_; exact h_
            have hji22y : (wrap64 (1 * 2 ^ min (ji20).toNat 64)) = ji22 := (i64_w _).symm.trans hji22_
            have hji22x : (ji20) ≤ 64 → (wrap64 (1 * 2 ^ (ji20).toNat)) = ji22 := fun h_ => (i64_w _).symm.trans (hji22z h_)
            by_cases c23 : x3_1.length < 17592186044416
            rotate_left
            · rw [if_neg c23] at H
              exact absurd H (by simp)
            rw [if_pos c23] at H
            have LMc23 := yam c23
            clear c23
            obtain ⟨y611, hy611⟩ : ∃ y_ : List Int, y_ = (x3_1 ++ [wrap64 ((ji22) - 2)]) := ⟨_, rfl⟩
            replace H : (spec_StartMasks.l0 kj4 y611 (wrap64 (x4_1 + 1)) a0_0 l0_1 l0_2) = some r := by first | (rw [hy611]; with_reducible exact H) | (have H2_ := (Option.bind_some _ _).symm.trans H; rw [hy611]; with_reducible exact H2_) | (have H2_ := (Option.bind_some _ _).symm.trans H; with_reducible exact H2_) | with_reducible exact H | (rw [hy611]; exact H) | exact H
            have Ny611 := yam hy611
            clear hy611
            have H' := yam H
            clear H
            have hcz24_0 : wc.cell? ⟨gb601, 0, none⟩ = some (.int .i64 a0_0) := (blk_cell BK601.out 0).trans rfl
            have hcz24_1 : wc.cell? ⟨gb601, 1, none⟩ = some (.slice A0_1 l0_1.length c0_1) := (blk_cell BK601.out 1).trans rfl
            have hcz24_2 : wc.cell? ⟨gb601, 2, none⟩ = some (.slice A0_2 l0_2.length c0_2) := (blk_cell BK601.out 2).trans rfl
            have hfz24_0 := blk_frozen BK601.out 0
            have hfz24_1 := blk_frozen BK601.out 1
            have hfz24_2 := blk_frozen BK601.out 2
            have p606 : 0 ≤ (x4_1 : Int) := of_decide_eq_true (by first | (with_reducible assumption) | assumption)
            have q606 : x4_1 < (l0_1.length : Int) := of_decide_eq_true (by first | (with_reducible assumption) | assumption)
            obtain ⟨ad606, e606, hx606_0⟩ := Kd.at_int HR0_1.out x4_1 p606 q606
            cases e606
            replace hx606_0 := (HB.out.cell (World.block_lt_of_cell? w _ hx606_0)).trans hx606_0
            replace p606 := eq_true p606
            replace q606 := eq_true q606
            go_wp2_with (first | ((with_reducible refine gate_builtin (b := .append) (xs := #[.tmp 32, .tmp 38]) rfl ?_); at_builtin; refine Kd.R_append (Kd.int .i64) (w0 := w) w.heap.size rfl (.tmp 32) (.tmp 38) 23 3 (.int .i64 0) 8 rfl Try.underlying23 info3 rfl (by decide) (by omega) u3 x3_1 (wrap64 ((ji22) - 2)) [.int .i64 (wrap64 ((ji22) - 2))] (fun _ => True) (fun _ => False) rfl rfl ?aP (fun _ hk => hk.elim) ?aF ?aO ?aB ?aS ?aL ?_; (case aP => exact rfl); (case aB => exact (by repeat (first | (with_reducible first | exact HB.out | apply yea | apply yen | apply yed | refine below_set ?_ GE601.out) | exact HB.out))); (case aF => exact (fun _ _ => trivial)); (case aO => exact (Kd.Yz HO_3.out)); (case aS => exact (below_size (by repeat (first | (with_reducible first | exact HB.out | apply yea | apply yen | apply yed | refine below_set ?_ GE601.out) | exact HB.out)))); (case aL => have := LMc23.out; omega); intro v612 w25 ho hb hg hat; rw [← Ny611.out] at ho; have n0_ := yam (blk_grown (g := gb601) (o := .cells #[.int .i64 a0_0, .slice (some ad606) l0_1.length c0_1, .slice A0_2 l0_2.length c0_2] 43 (0, 0)) (ybz BK601.out) hg (Kd.R_ne HO_3.out BK601.out (by decide))); have n1_ := yam (hb); have n2_ := yam (ho); clear BK601; clear HB; clear HO_3; have BK601 := n0_; have HB := n1_; have HO613 := n2_; clear n0_ n1_ n2_; clear ho hb hg hat))
            go_roundg kj4
            case measure => have := HK1.out; have := HJ4.out; omega
            case rel => exact ⟨(y611), (wrap64 (x4_1 + 1)), (by first | rfl | (simp; done) | (simp [*]; done)), H', ⟨by have := HK1.out; have := HJ4.out; omega⟩, ⟨by (with_reducible repeat (first | apply Kd.Ya | apply Kd.Yn | apply Kd.Yd)); exact HO613.out⟩, ⟨by (with_reducible repeat (first | refine ybn ?_ _ | refine ybd ?_ | refine yba ?_ _)); exact BK601.out⟩, ⟨by repeat (first | (with_reducible first | exact HB.out | apply yea | apply yen | apply yed | refine below_set ?_ GE601.out) | exact HB.out)⟩⟩
          rw [if_pos c14] at H
          have c14b0 : decide (0 < (rd l0_1 x4_1)) = true := decide_eq_true c14
          clear c14
          by_cases c15 : 0 ≤ (rd l0_1 x4_1)
          rotate_left
          · rw [if_neg c15] at H
            exact absurd H (by simp)
          rw [if_pos c15] at H
          have c15b0 := eq_true c15
          have c15b1 : decide (0 ≤ (rd l0_1 x4_1)) = true := decide_eq_true c15
          clear c15
          obtain ⟨ji16, hji16⟩ : ∃ j_ : Int, (shl .i64 1 (rd l0_1 x4_1)) = j_ := ⟨_, rfl⟩
          replace H : (if x3_1.length < 17592186044416 then (spec_StartMasks.l0 kj4 (x3_1 ++ [ji16]) (wrap64 (x4_1 + 1)) a0_0 l0_1 l0_2) else (none)) = some r := by first | (rw [hji16] at H; exact H) | (simp only [hji16] at H ⊢; exact H)
          have hji16_ : (IntKind.i64.wrap (1 * 2 ^ min (rd l0_1 x4_1).toNat 64)) = ji16 := hji16
          have hji16z : (rd l0_1 x4_1) ≤ 64 → (IntKind.i64.wrap (1 * 2 ^ (rd l0_1 x4_1).toNat)) = ji16 := shl_small hji16
          have hji16u : (IntKind.i64.wrap (2 ^ min (rd l0_1 x4_1).toNat 64)) = ji16 := by have h_ := hji16_; rw [Int.one_mul] at h_; exact h_
          have hji16v : (rd l0_1 x4_1) ≤ 64 → (IntKind.i64.wrap (2 ^ (rd l0_1 x4_1).toNat)) = ji16 := fun hle_ => by have h_ := hji16z hle_; rw [Int.one_mul] at h_; exact h_
          have hji16y : (wrap64 (1 * 2 ^ min (rd l0_1 x4_1).toNat 64)) = ji16 := (i64_w _).symm.trans hji16_
          have hji16x : (rd l0_1 x4_1) ≤ 64 → (wrap64 (1 * 2 ^ (rd l0_1 x4_1).toNat)) = ji16 := fun h_ => (i64_w _).symm.trans (hji16z h_)
          by_cases c17 : x3_1.length < 17592186044416
          rotate_left
          · rw [if_neg c17] at H
            exact absurd H (by simp)
          rw [if_pos c17] at H
          have LMc17 := yam c17
          clear c17
          obtain ⟨y608, hy608⟩ : ∃ y_ : List Int, y_ = (x3_1 ++ [ji16]) := ⟨_, rfl⟩
          replace H : (spec_StartMasks.l0 kj4 y608 (wrap64 (x4_1 + 1)) a0_0 l0_1 l0_2) = some r := by first | (rw [hy608]; with_reducible exact H) | (have H2_ := (Option.bind_some _ _).symm.trans H; rw [hy608]; with_reducible exact H2_) | (have H2_ := (Option.bind_some _ _).symm.trans H; with_reducible exact H2_) | with_reducible exact H | (rw [hy608]; exact H) | exact H
          have Ny608 := yam hy608
          clear hy608
          have H' := yam H
          clear H
          have hcz18_0 : wc.cell? ⟨gb601, 0, none⟩ = some (.int .i64 a0_0) := (blk_cell BK601.out 0).trans rfl
          have hcz18_1 : wc.cell? ⟨gb601, 1, none⟩ = some (.slice A0_1 l0_1.length c0_1) := (blk_cell BK601.out 1).trans rfl
          have hcz18_2 : wc.cell? ⟨gb601, 2, none⟩ = some (.slice A0_2 l0_2.length c0_2) := (blk_cell BK601.out 2).trans rfl
          have hfz18_0 := blk_frozen BK601.out 0
          have hfz18_1 := blk_frozen BK601.out 1
          have hfz18_2 := blk_frozen BK601.out 2
          have p606 : 0 ≤ (x4_1 : Int) := of_decide_eq_true (by first | (with_reducible assumption) | assumption)
          have q606 : x4_1 < (l0_1.length : Int) := of_decide_eq_true (by first | (with_reducible assumption) | assumption)
          obtain ⟨ad606, e606, hx606_0⟩ := Kd.at_int HR0_1.out x4_1 p606 q606
          cases e606
          replace hx606_0 := (HB.out.cell (World.block_lt_of_cell? w _ hx606_0)).trans hx606_0
          replace p606 := eq_true p606
          replace q606 := eq_true q606
          have p607 : 0 ≤ (x4_1 : Int) := of_decide_eq_true (by first | (with_reducible assumption) | assumption)
          have q607 : x4_1 < (l0_1.length : Int) := of_decide_eq_true (by first | (with_reducible assumption) | assumption)
          obtain ⟨ad607, e607, hx607_0⟩ := Kd.at_int HR0_1.out x4_1 p607 q607
          obtain rfl : ad606 = ad607 := (by injection e607)
          replace hx607_0 := (HB.out.cell (World.block_lt_of_cell? w _ hx607_0)).trans hx607_0
          replace p607 := eq_true p607
          replace q607 := eq_true q607
          go_wp2_with (first | ((with_reducible refine gate_builtin (b := .append) (xs := #[.tmp 23, .tmp 30]) rfl ?_); at_builtin; refine Kd.R_append (Kd.int .i64) (w0 := w) w.heap.size rfl (.tmp 23) (.tmp 30) 23 3 (.int .i64 0) 8 rfl Try.underlying23 info3 rfl (by decide) (by omega) u3 x3_1 ji16 [.int .i64 ji16] (fun _ => True) (fun _ => False) rfl rfl ?aP (fun _ hk => hk.elim) ?aF ?aO ?aB ?aS ?aL ?_; (case aP => exact rfl); (case aB => exact (by repeat (first | (with_reducible first | exact HB.out | apply yea | apply yen | apply yed | refine below_set ?_ GE601.out) | exact HB.out))); (case aF => exact (fun _ _ => trivial)); (case aO => exact (Kd.Yz HO_3.out)); (case aS => exact (below_size (by repeat (first | (with_reducible first | exact HB.out | apply yea | apply yen | apply yed | refine below_set ?_ GE601.out) | exact HB.out)))); (case aL => have := LMc17.out; omega); intro v609 w19 ho hb hg hat; rw [← Ny608.out] at ho; have n0_ := yam (blk_grown (g := gb601) (o := .cells #[.int .i64 a0_0, .slice (some ad606) l0_1.length c0_1, .slice A0_2 l0_2.length c0_2] 43 (0, 0)) (ybz BK601.out) hg (Kd.R_ne HO_3.out BK601.out (by decide))); have n1_ := yam (hb); have n2_ := yam (ho); clear BK601; clear HB; clear HO_3; have BK601 := n0_; have HB := n1_; have HO610 := n2_; clear n0_ n1_ n2_; clear ho hb hg hat))
          go_roundg kj4
          case measure => have := HK1.out; have := HJ4.out; omega
          case rel => exact ⟨(y608), (wrap64 (x4_1 + 1)), (by first | rfl | (simp; done) | (simp [*]; done)), H', ⟨by have := HK1.out; have := HJ4.out; omega⟩, ⟨by (with_reducible repeat (first | apply Kd.Ya | apply Kd.Yn | apply Kd.Yd)); exact HO610.out⟩, ⟨by (with_reducible repeat (first | refine ybn ?_ _ | refine ybd ?_ | refine yba ?_ _)); exact BK601.out⟩, ⟨by repeat (first | (with_reducible first | exact HB.out | apply yea | apply yen | apply yed | refine below_set ?_ GE601.out) | exact HB.out)⟩⟩
end Go.Proofs.Ythfbjkniinfgcaa.P
namespace Go.Proofs.Ythfbjkniinfgcaa.P
open Go.RowKit Go.Proofs.YthfbjkniinfgcaaW.PrintWords Go.Proofs.YthfbjkniinfgcaaW.PrintLast Go.Proofs.YthfbjkniinfgcaaW.PrintMore
attribute [local go_sem] max2_int min2_int max_two min_two max_three min_three max_four min_four   -- for this text's walks alone
set_option linter.unusedVariables false
set_option linter.unusedSimpArgs false

/-! ### impl_allValues: function 61 -/
def impl_allValues.f (a0 : Int) : Option (Int) := if 0 ≤ (wrap64 (a0 + 1)) then (some (wrap64 ((shl .i64 1 (wrap64 (a0 + 1))) - 2))) else (none)
set_option maxHeartbeats 8000000 in
set_option maxRecDepth 100000 in
theorem impl_allValues.calls (a0 : Int) (r : Int) (w : World) (h : impl_allValues.f a0 = some r) :
    Calls Try.prog 61 #[.int .i64 a0] w fun e w' => e = .returned (.int .i64 r) ∧ Drawn0 w w' := by
  have H : (if 0 ≤ (wrap64 (a0 + 1)) then (some (wrap64 ((shl .i64 1 (wrap64 (a0 + 1))) - 2))) else (none)) = some r := h
  clear h
  obtain ⟨ji2, hji2⟩ : ∃ j_ : Int, (wrap64 (a0 + 1)) = j_ := ⟨_, rfl⟩
  replace H : (if 0 ≤ (ji2) then (some (wrap64 ((shl .i64 1 (ji2)) - 2))) else (none)) = some r := by first | (rw [hji2] at H; exact H) | (simp only [hji2] at H ⊢; exact H)
  have hji2w : (IntKind.i64.wrap (a0 + 1)) = ji2 := (i64_w _).trans hji2
  by_cases c3 : 0 ≤ (ji2)
  rotate_left
  · rw [if_neg c3] at H
    exact absurd H (by simp)

  rw [if_pos c3] at H
  have c3b0 := eq_true c3
  have c3b1 : decide (0 ≤ (ji2)) = true := decide_eq_true c3
  clear c3
  obtain ⟨ji4, hji4⟩ : ∃ j_ : Int, (shl .i64 1 (ji2)) = j_ := ⟨_, rfl⟩
  replace H : (some (wrap64 ((ji4) - 2))) = some r := by first | (rw [hji4] at H; exact H) | (simp only [hji4] at H ⊢; exact H)
  have hji4_ : (IntKind.i64.wrap (1 * 2 ^ min (ji2).toNat 64)) = ji4 := hji4
  have hji4z : (ji2) ≤ 64 → (IntKind.i64.wrap (1 * 2 ^ (ji2).toNat)) = ji4 := shl_small hji4
  have hji4u : (IntKind.i64.wrap (2 ^ min (ji2).toNat 64)) = ji4 := by have h_ := hji4_; rw [Int.one_mul] at h_; exact h_
  have hji4v : (ji2) ≤ 64 → (IntKind.i64.wrap (2 ^ (ji2).toNat)) = ji4 := fun hle_ => by have h_ := hji4z hle_; rw [Int.one_mul] at h_; exact h_
  have hji4y : (wrap64 (1 * 2 ^ min (ji2).toNat 64)) = ji4 := (i64_w _).symm.trans hji4_
  have hji4x : (ji2) ≤ 64 → (wrap64 (1 * 2 ^ (ji2).toNat)) = ji4 := fun h_ => (i64_w _).symm.trans (hji4z h_)
  obtain rfl := Option.some.inj H
  go_enter Try.func61, Try.ntmps61
  go_wp2
  go_ret
  exact ⟨by first | rfl | (simp; done) | (simp only [← hji2, ← hji4] <;> (first | rfl | simp)) | (simp [*]; done), by repeat (first | exact Drawn0.refl _ | apply Drawn0.step)⟩
end Go.Proofs.Ythfbjkniinfgcaa.P
namespace Go.Proofs.Ythfbjkniinfgcaa.P
open Go.RowKit Go.Proofs.YthfbjkniinfgcaaW.PrintWords Go.Proofs.YthfbjkniinfgcaaW.PrintLast Go.Proofs.YthfbjkniinfgcaaW.PrintMore
attribute [local go_sem] max2_int min2_int max_two min_two max_three min_three max_four min_four   -- for this text's walks alone
set_option linter.unusedVariables false
set_option linter.unusedSimpArgs false

/-! ### impl_sizeOk: function 64 -/
def impl_sizeOk.f (a0 : Int) : Option (Bool) := if a0 ≥ 2 then (some (decide (a0 ≤ 4))) else (some false)
set_option maxHeartbeats 8000000 in
set_option maxRecDepth 100000 in
theorem impl_sizeOk.calls (a0 : Int) (r : Bool) (w : World) (h : impl_sizeOk.f a0 = some r) :
    Calls Try.prog 64 #[.int .i64 a0] w fun e w' => e = .returned (.bool r) ∧ Drawn0 w w' := by
  have H : (if a0 ≥ 2 then (some (decide (a0 ≤ 4))) else (some false)) = some r := h
  clear h
  by_cases c2 : a0 ≥ 2
  · rw [if_pos c2] at H
    have c2b0 : decide (2 ≤ a0) = true := decide_eq_true c2
    clear c2
    obtain rfl := Option.some.inj H
    go_enter Try.func64, Try.ntmps64
    go_wp2
    go_ret
    exact ⟨by first | rfl | (simp; done) | (simp [*]; done), by repeat (first | exact Drawn0.refl _ | apply Drawn0.step)⟩
  rw [if_neg c2] at H
  have c2b0 : decide (2 ≤ a0) = false := decide_eq_false c2
  clear c2
  obtain rfl := Option.some.inj H
  go_enter Try.func64, Try.ntmps64
  go_wp2
  go_ret
  exact ⟨by first | rfl | (simp; done) | (simp [*]; done), by repeat (first | exact Drawn0.refl _ | apply Drawn0.step)⟩

end Go.Proofs.Ythfbjkniinfgcaa.P
namespace Go.Proofs.Ythfbjkniinfgcaa.P
open Go.RowKit Go.Proofs.YthfbjkniinfgcaaW.PrintWords Go.Proofs.YthfbjkniinfgcaaW.PrintLast Go.Proofs.YthfbjkniinfgcaaW.PrintMore
attribute [local go_sem] max2_int min2_int max_two min_two max_three min_three max_four min_four   -- for this text's walks alone
set_option linter.unusedVariables false
set_option linter.unusedSimpArgs false

/-! ### impl_GridValid: function 60 -/
mutual
def impl_GridValid.j0 : Nat → List Int → Int → Bool → Option (Bool)
  | 0, _, _, _ => none
  | k + 1, x0, x1, x17 => if x17 = true then (some false) else (impl_GridValid.l0 k x1 x0 (x0.length : Int) 0)
def impl_GridValid.l0 : Nat → Int → List Int → Int → Int → Option (Bool)
  | 0, _, _, _, _ => none
  | k + 1, x1, x18, x19, x20 => if x20 < x19 then (if 0 ≤ x20 then (if x20 < (x18.length : Int) then (if (rd x18 x20) < 0 then (some false) else (if (rd x18 x20) > x1 then (some false) else (impl_GridValid.l0 k x1 x18 x19 (wrap64 (x20 + 1))))) else (none)) else (none)) else (some true)
end
def impl_GridValid.f (k : Nat) (l0 : List Int) (a1 : Int) : Option (Bool) := (impl_sizeOk.f a1).bind fun t206 => (if t206 = true then (impl_GridValid.j0 k l0 a1 ((l0.length : Int) != (wrap64 (a1 * a1)))) else (impl_GridValid.j0 k l0 a1 true))
theorem impl_GridValid.mono_l : ∀ k, (∀ y0 y1 y2, LeO (impl_GridValid.j0 k y0 y1 y2) (impl_GridValid.j0 (k + 1) y0 y1 y2)) ∧ (∀ y0 y1 y2 y3, LeO (impl_GridValid.l0 k y0 y1 y2 y3) (impl_GridValid.l0 (k + 1) y0 y1 y2 y3))
  | 0 => ⟨fun _ _ _ r h => by simp [impl_GridValid.j0] at h, fun _ _ _ _ r h => by simp [impl_GridValid.l0] at h⟩
  | k + 1 => by
    obtain ⟨ih0, ih1⟩ := impl_GridValid.mono_l k
    refine ⟨?_, ?_⟩
    · intro y0 y1 y2
      unfold impl_GridValid.j0
      repeat' first
      | (with_reducible exact ih0 _ _ _)
      | (with_reducible exact ih1 _ _ _ _)
      | (with_reducible exact LeO.refl _)
      | (with_reducible exact LeO.none _)
      | (with_reducible refine LeO.ite ?_ ?_)
      | (with_reducible refine LeO.bind ?_ (fun _ => ?_))
      | exact ih0 _ _ _
      | exact ih1 _ _ _ _
      | exact LeO.none _
      | refine LeO.ite ?_ ?_
      | refine LeO.bind ?_ (fun _ => ?_)
    · intro y0 y1 y2 y3
      unfold impl_GridValid.l0
      repeat' first
      | (with_reducible exact ih0 _ _ _)
      | (with_reducible exact ih1 _ _ _ _)
      | (with_reducible exact LeO.refl _)
      | (with_reducible exact LeO.none _)
      | (with_reducible refine LeO.ite ?_ ?_)
      | (with_reducible refine LeO.bind ?_ (fun _ => ?_))
      | exact ih0 _ _ _
      | exact ih1 _ _ _ _
      | exact LeO.none _
      | refine LeO.ite ?_ ?_
      | refine LeO.bind ?_ (fun _ => ?_)
theorem impl_GridValid.mono : ∀ a0 a1 k, LeO (impl_GridValid.f k a0 a1) (impl_GridValid.f (k + 1) a0 a1) := by
  intro a0 a1 k
  obtain ⟨ih0, ih1⟩ := impl_GridValid.mono_l k
  unfold impl_GridValid.f
  repeat' first
      | (with_reducible exact ih0 _ _ _)
      | (with_reducible exact ih1 _ _ _ _)
      | (with_reducible exact LeO.refl _)
      | (with_reducible exact LeO.none _)
      | (with_reducible refine LeO.ite ?_ ?_)
      | (with_reducible refine LeO.bind ?_ (fun _ => ?_))
      | exact ih0 _ _ _
      | exact ih1 _ _ _ _
      | exact LeO.none _
      | refine LeO.ite ?_ ?_
      | refine LeO.bind ?_ (fun _ => ?_)
set_option maxHeartbeats 8000000 in
set_option maxRecDepth 100000 in
theorem impl_GridValid.calls (k : Nat) (A0 : Option Addr) (c0 : Nat) (l0 : List Int) (a1 : Int) (r : Bool) (w : World) (hr0 : Kd.C (Kd.int .i64) w A0 l0.length l0) (hc0 : l0.length ≤ c0) (h : impl_GridValid.f k l0 a1 = some r) :
    Calls Try.prog 60 #[.slice A0 l0.length c0, .int .i64 a1] w fun e w' => e = .returned (.bool r) ∧ Drawn0 w w' := by
  have HR0 := yam hr0
  have HC0 := yam hc0
  clear hr0 hc0
  have H : ((impl_sizeOk.f a1).bind fun t206 => (if t206 = true then (impl_GridValid.j0 k l0 a1 ((l0.length : Int) != (wrap64 (a1 * a1)))) else (impl_GridValid.j0 k l0 a1 true))) = some r := h
  clear h
  have HC3 := yam H
  clear H
  go_enter Try.func60, Try.ntmps60
  go_upto_region 1 with (fail)
  go_cut [17] (fun v17 wc => ∃ (kq : Nat) (x17_2 : Bool), v17 = .bool x17_2 ∧ Aside0 (impl_GridValid.j0 kq l0 a1 x17_2 = some r) ∧ Aside0 (kq ≤ k) ∧ Drawn0 w wc)
  case first =>
    have H := HC3.out
    clear HC3
    replace H := Option.bind_eq_some_iff.mp H
    obtain ⟨t206, A40, H⟩ := H
    try dsimp only at H
    have A4 := yam A40
    clear A40
    by_cases c5 : t206 = true
    · subst c5
      have H1 : (impl_GridValid.j0 k l0 a1 ((l0.length : Int) != (wrap64 (a1 * a1)))) = some r := by rw [if_pos rfl] at H; exact H
      clear H
      have H := H1
      clear H1
      have H' := yam H
      clear H
      go_wp2_with (first | ((with_reducible refine gate_callee (f := 64) rfl ?_); refine goesL_ (some 8) rfl rfl Try.func64 (by kernel_rfl) rfl #[.int .i64 a1] rfl (by (try simp only [List.map_toArray, List.map_cons, List.map_nil]); first | done | rfl | (simp only [List.length_drop, List.length_take]; rfl)) ?_; (with_reducible refine (impl_sizeOk.calls a1 true _ A4.out).mono ?_); rintro e w' ⟨rfl, ⟨nd, rfl⟩⟩; refine ⟨_, rfl, ?_⟩))
      go_meet
      case rel => exact ⟨_, (((l0.length : Int) != (wrap64 (a1 * a1)))), (by first | rfl | (simp; done) | (simp [*]; done)), H', ⟨by first | omega | exact Nat.le_refl _⟩, by repeat (first | exact Drawn0.refl _ | apply Drawn0.step)⟩
    replace c5 := Bool.eq_false_iff.mpr c5
    subst c5
    have H1 : (impl_GridValid.j0 k l0 a1 true) = some r := by rw [if_neg (show ¬ (false = true) by decide)] at H; exact H
    clear H
    have H := H1
    clear H1
    have H' := yam H
    clear H
    go_wp2_with (first | ((with_reducible refine gate_callee (f := 64) rfl ?_); refine goesL_ (some 8) rfl rfl Try.func64 (by kernel_rfl) rfl #[.int .i64 a1] rfl (by (try simp only [List.map_toArray, List.map_cons, List.map_nil]); first | done | rfl | (simp only [List.length_drop, List.length_take]; rfl)) ?_; (with_reducible refine (impl_sizeOk.calls a1 false _ A4.out).mono ?_); rintro e w' ⟨rfl, ⟨nd, rfl⟩⟩; refine ⟨_, rfl, ?_⟩))
    go_meet
    case rel => exact ⟨_, (true), (by first | rfl | (simp; done) | (simp [*]; done)), H', ⟨by first | omega | exact Nat.le_refl _⟩, by repeat (first | exact Drawn0.refl _ | apply Drawn0.step)⟩
  case rest =>
    clear HC3
    try clear p2
    try clear c5
    obtain ⟨kq, x17_2, rfl, HA, HJ2, ⟨mc2, rfl⟩⟩ := hcut
    cases kq with
    | zero => exact absurd HA.out (by simp [impl_GridValid.j0])
    | succ kj2 =>
      have H := HA.out
      clear HA
      simp only [impl_GridValid.j0] at H
      by_cases c6 : x17_2 = true
      · subst c6
        have H1 : (some false) = some r := by rw [if_pos rfl] at H; exact H
        clear H
        have H := H1
        clear H1
        obtain rfl := Option.some.inj H
        go_wp2
        go_ret
        exact ⟨by first | rfl | (simp; done) | (simp [*]; done), by repeat (first | exact Drawn0.refl _ | apply Drawn0.step)⟩
      replace c6 := Bool.eq_false_iff.mpr c6
      subst c6
      have H1 : (impl_GridValid.l0 kj2 a1 l0 (l0.length : Int) 0) = some r := by rw [if_neg (show ¬ (false = true) by decide)] at H; exact H
      clear H
      have H := H1
      clear H1
      have H' := yam H
      clear H
      go_wp2
      go_loopg [20] kj2 (fun kq v20 w' => ∃ (x20_2 : Int), v20 = .int .i64 x20_2 ∧ Aside0 (impl_GridValid.l0 kq a1 l0 (l0.length : Int) x20_2 = some r) ∧ Aside0 (kq ≤ kj2) ∧ Drawn0 w w')
      case atStart => exact ⟨(0), (by first | rfl | (simp; done) | (simp [*]; done)), H', ⟨Nat.le_refl _⟩, by repeat (first | exact Drawn0.refl _ | apply Drawn0.step)⟩
      case round =>
        clear H'
        try clear c2
        try clear p2
        try clear c5
        try clear c6
        try clear p6
        try clear p2
        obtain ⟨x20_2, rfl, HA, HK2, ⟨m2, rfl⟩⟩ := hrel
        cases gk with
        | zero => exact absurd HA.out (by simp [impl_GridValid.l0])
        | succ k2 =>
          have H := HA.out
          clear HA
          simp only [impl_GridValid.l0] at H
          by_cases c7 : x20_2 < (l0.length : Int)
          rotate_left
          · rw [if_neg c7] at H
            have c7b0 : decide (x20_2 < (l0.length : Int)) = false := decide_eq_false c7
            clear c7
            obtain rfl := Option.some.inj H
            go_wp2
            go_ret
            exact ⟨by first | rfl | (simp; done) | (simp [*]; done), by repeat (first | exact Drawn0.refl _ | apply Drawn0.step)⟩

          rw [if_pos c7] at H
          have c7b0 : decide (x20_2 < (l0.length : Int)) = true := decide_eq_true c7
          clear c7
          by_cases c8 : 0 ≤ x20_2
          rotate_left
          · rw [if_neg c8] at H
            exact absurd H (by simp)
          rw [if_pos c8] at H
          have c8b0 : decide (0 ≤ x20_2) = true := decide_eq_true c8
          clear c8
          by_cases c9 : x20_2 < (l0.length : Int)
          rotate_left
          · rw [if_neg c9] at H
            exact absurd H (by simp)
          rw [if_pos c9] at H
          have c9b0 : decide (x20_2 < (l0.length : Int)) = true := decide_eq_true c9
          clear c9
          by_cases c10 : (rd l0 x20_2) < 0
          · rw [if_pos c10] at H
            have c10b0 : decide ((rd l0 x20_2) < 0) = true := decide_eq_true c10
            clear c10
            obtain rfl := Option.some.inj H
            have p207 : 0 ≤ (x20_2 : Int) := of_decide_eq_true (by first | (with_reducible assumption) | assumption)
            have q207 : x20_2 < (l0.length : Int) := of_decide_eq_true (by first | (with_reducible assumption) | assumption)
            obtain ⟨ad207, e207, hx207_0⟩ := Kd.at_int HR0.out x20_2 p207 q207
            cases e207
            replace p207 := eq_true p207
            replace q207 := eq_true q207
            go_wp2
            go_ret
            exact ⟨by first | rfl | (simp; done) | (simp [*]; done), by repeat (first | exact Drawn0.refl _ | apply Drawn0.step)⟩
          rw [if_neg c10] at H
          have c10b0 : decide ((rd l0 x20_2) < 0) = false := decide_eq_false c10
          clear c10
          by_cases c11 : (rd l0 x20_2) > a1
          · rw [if_pos c11] at H
            have c11b0 : decide (a1 < (rd l0 x20_2)) = true := decide_eq_true c11
            clear c11
            obtain rfl := Option.some.inj H
            have p207 : 0 ≤ (x20_2 : Int) := of_decide_eq_true (by first | (with_reducible assumption) | assumption)
            have q207 : x20_2 < (l0.length : Int) := of_decide_eq_true (by first | (with_reducible assumption) | assumption)
            obtain ⟨ad207, e207, hx207_0⟩ := Kd.at_int HR0.out x20_2 p207 q207
            cases e207
            replace p207 := eq_true p207
            replace q207 := eq_true q207
            go_wp2
            go_ret
            exact ⟨by first | rfl | (simp; done) | (simp [*]; done), by repeat (first | exact Drawn0.refl _ | apply Drawn0.step)⟩
          rw [if_neg c11] at H
          have c11b0 : decide (a1 < (rd l0 x20_2)) = false := decide_eq_false c11
          clear c11
          have H' := yam H
          clear H
          have p207 : 0 ≤ (x20_2 : Int) := of_decide_eq_true (by first | (with_reducible assumption) | assumption)
          have q207 : x20_2 < (l0.length : Int) := of_decide_eq_true (by first | (with_reducible assumption) | assumption)
          obtain ⟨ad207, e207, hx207_0⟩ := Kd.at_int HR0.out x20_2 p207 q207
          cases e207
          replace p207 := eq_true p207
          replace q207 := eq_true q207
          go_wp2
          go_roundg k2
          case measure => have := HJ2.out; have := HK2.out; omega
          case rel => exact ⟨(wrap64 (x20_2 + 1)), (by first | rfl | (simp; done) | (simp [*]; done)), H', ⟨by have := HJ2.out; have := HK2.out; omega⟩, by repeat (first | exact Drawn0.refl _ | apply Drawn0.step)⟩
end Go.Proofs.Ythfbjkniinfgcaa.P
namespace Go.Proofs.Ythfbjkniinfgcaa.P
open Go.RowKit Go.Proofs.YthfbjkniinfgcaaW.PrintWords Go.Proofs.YthfbjkniinfgcaaW.PrintLast Go.Proofs.YthfbjkniinfgcaaW.PrintMore
attribute [local go_sem] max2_int min2_int max_two min_two max_three min_three max_four min_four   -- for this text's walks alone
set_option linter.unusedVariables false
set_option linter.unusedSimpArgs false

/-! ### slices_Index_int_int: function 89 -/
def slices_Index_int_int.l0 : Nat → List Int → Int → Int → Int → Option (Int)
  | 0, _, _, _, _ => none
  | k + 1, x0, x1, x7, x8 => if x8 < x7 then (if 0 ≤ x8 then (if x8 < (x0.length : Int) then (if x1 = (rd x0 x8) then (some x8) else (slices_Index_int_int.l0 k x0 x1 x7 (wrap64 (x8 + 1)))) else (none)) else (none)) else (some (-1))
def slices_Index_int_int.f (k : Nat) (l0 : List Int) (a1 : Int) : Option (Int) := slices_Index_int_int.l0 k l0 a1 (l0.length : Int) 0
theorem slices_Index_int_int.mono_l : ∀ k, (∀ y0 y1 y2 y3, LeO (slices_Index_int_int.l0 k y0 y1 y2 y3) (slices_Index_int_int.l0 (k + 1) y0 y1 y2 y3))
  | 0 => fun _ _ _ _ r h => by simp [slices_Index_int_int.l0] at h
  | k + 1 => by
    have ih0 := slices_Index_int_int.mono_l k
    · intro y0 y1 y2 y3
      unfold slices_Index_int_int.l0
      repeat' first
      | (with_reducible exact ih0 _ _ _ _)
      | (with_reducible exact LeO.refl _)
      | (with_reducible exact LeO.none _)
      | (with_reducible refine LeO.ite ?_ ?_)
      | (with_reducible refine LeO.bind ?_ (fun _ => ?_))
      | exact ih0 _ _ _ _
      | exact LeO.none _
      | refine LeO.ite ?_ ?_
      | refine LeO.bind ?_ (fun _ => ?_)
theorem slices_Index_int_int.mono : ∀ a0 a1 k, LeO (slices_Index_int_int.f k a0 a1) (slices_Index_int_int.f (k + 1) a0 a1) := by
  intro a0 a1 k
  have ih0 := slices_Index_int_int.mono_l k
  unfold slices_Index_int_int.f
  repeat' first
      | (with_reducible exact ih0 _ _ _ _)
      | (with_reducible exact LeO.refl _)
      | (with_reducible exact LeO.none _)
      | (with_reducible refine LeO.ite ?_ ?_)
      | (with_reducible refine LeO.bind ?_ (fun _ => ?_))
      | exact ih0 _ _ _ _
      | exact LeO.none _
      | refine LeO.ite ?_ ?_
      | refine LeO.bind ?_ (fun _ => ?_)
set_option maxHeartbeats 8000000 in
set_option maxRecDepth 100000 in
theorem slices_Index_int_int.calls (k : Nat) (A0 : Option Addr) (c0 : Nat) (l0 : List Int) (a1 : Int) (r : Int) (w : World) (hr0 : Kd.C (Kd.int .i64) w A0 l0.length l0) (hc0 : l0.length ≤ c0) (h : slices_Index_int_int.f k l0 a1 = some r) :
    Calls Try.prog 89 #[.slice A0 l0.length c0, .int .i64 a1] w fun e w' => e = .returned (.int .i64 r) ∧ Drawn0 w w' := by
  have HR0 := yam hr0
  have HC0 := yam hc0
  clear hr0 hc0
  have H : (slices_Index_int_int.l0 k l0 a1 (l0.length : Int) 0) = some r := h
  clear h
  have H' := yam H
  clear H
  go_enter Try.func89, Try.ntmps89
  go_wp2
  go_loopg [8] k (fun kq v8 w' => ∃ (x8_1 : Int), v8 = .int .i64 x8_1 ∧ Aside0 (slices_Index_int_int.l0 kq l0 a1 (l0.length : Int) x8_1 = some r) ∧ Aside0 (kq ≤ k) ∧ Drawn0 w w')
  case atStart => exact ⟨(0), (by first | rfl | (simp; done) | (simp [*]; done)), H', ⟨Nat.le_refl _⟩, by repeat (first | exact Drawn0.refl _ | apply Drawn0.step)⟩
  case round =>
    clear H'
    try clear p2
    obtain ⟨x8_1, rfl, HA, HK1, ⟨m1, rfl⟩⟩ := hrel
    cases gk with
    | zero => exact absurd HA.out (by simp [slices_Index_int_int.l0])
    | succ k1 =>
      have H := HA.out
      clear HA
      simp only [slices_Index_int_int.l0] at H
      by_cases c3 : x8_1 < (l0.length : Int)
      rotate_left
      · rw [if_neg c3] at H
        have c3b0 : decide (x8_1 < (l0.length : Int)) = false := decide_eq_false c3
        clear c3
        obtain rfl := Option.some.inj H
        go_wp2
        go_ret
        exact ⟨by first | rfl | (simp; done) | (simp [*]; done), by repeat (first | exact Drawn0.refl _ | apply Drawn0.step)⟩

      rw [if_pos c3] at H
      have c3b0 : decide (x8_1 < (l0.length : Int)) = true := decide_eq_true c3
      clear c3
      by_cases c4 : 0 ≤ x8_1
      rotate_left
      · rw [if_neg c4] at H
        exact absurd H (by simp)
      rw [if_pos c4] at H
      have c4b0 : decide (0 ≤ x8_1) = true := decide_eq_true c4
      clear c4
      by_cases c5 : x8_1 < (l0.length : Int)
      rotate_left
      · rw [if_neg c5] at H
        exact absurd H (by simp)
      rw [if_pos c5] at H
      have c5b0 : decide (x8_1 < (l0.length : Int)) = true := decide_eq_true c5
      clear c5
      by_cases c6 : a1 = (rd l0 x8_1)
      · rw [if_pos c6] at H
        have c6b0 : (a1 == (rd l0 x8_1)) = true := beq_iff_eq.mpr c6
        have c6b1 : (a1 != (rd l0 x8_1)) = false := bne_eq_false_iff_eq.mpr c6
        clear c6
        obtain rfl := Option.some.inj H
        have p355 : 0 ≤ (x8_1 : Int) := of_decide_eq_true (by first | (with_reducible assumption) | assumption)
        have q355 : x8_1 < (l0.length : Int) := of_decide_eq_true (by first | (with_reducible assumption) | assumption)
        obtain ⟨ad355, e355, hx355_0⟩ := Kd.at_int HR0.out x8_1 p355 q355
        cases e355
        replace p355 := eq_true p355
        replace q355 := eq_true q355
        go_wp2
        go_ret
        exact ⟨by first | rfl | (simp; done) | (simp [*]; done), by repeat (first | exact Drawn0.refl _ | apply Drawn0.step)⟩
      rw [if_neg c6] at H
      have c6b0 : (a1 == (rd l0 x8_1)) = false := beq_eq_false_iff_ne.mpr c6
      have c6b1 : (a1 != (rd l0 x8_1)) = true := bne_iff_ne.mpr c6
      have H' := yam H
      clear H
      have p355 : 0 ≤ (x8_1 : Int) := of_decide_eq_true (by first | (with_reducible assumption) | assumption)
      have q355 : x8_1 < (l0.length : Int) := of_decide_eq_true (by first | (with_reducible assumption) | assumption)
      obtain ⟨ad355, e355, hx355_0⟩ := Kd.at_int HR0.out x8_1 p355 q355
      cases e355
      replace p355 := eq_true p355
      replace q355 := eq_true q355
      go_wp2
      go_roundg k1
      case measure => have := HK1.out; omega
      case rel => exact ⟨(wrap64 (x8_1 + 1)), (by first | rfl | (simp; done) | (simp [*]; done)), H', ⟨by have := HK1.out; omega⟩, by repeat (first | exact Drawn0.refl _ | apply Drawn0.step)⟩
end Go.Proofs.Ythfbjkniinfgcaa.P
namespace Go.Proofs.Ythfbjkniinfgcaa.P
open Go.RowKit Go.Proofs.YthfbjkniinfgcaaW.PrintWords Go.Proofs.YthfbjkniinfgcaaW.PrintLast Go.Proofs.YthfbjkniinfgcaaW.PrintMore
attribute [local go_sem] max2_int min2_int max_two min_two max_three min_three max_four min_four   -- for this text's walks alone
set_option linter.unusedVariables false
set_option linter.unusedSimpArgs false

/-! ### slices_Contains_int_int: function 69 -/
def slices_Contains_int_int.f (k : Nat) (l0 : List Int) (a1 : Int) : Option (Bool) := (slices_Index_int_int.f k l0 a1).bind fun t356 => (some (decide (t356 ≥ 0)))
theorem slices_Contains_int_int.mono : ∀ a0 a1 k, LeO (slices_Contains_int_int.f k a0 a1) (slices_Contains_int_int.f (k + 1) a0 a1) := by
  intro a0 a1 k
  unfold slices_Contains_int_int.f
  repeat' first
      | (with_reducible exact slices_Index_int_int.mono _ _ _)
      | (with_reducible exact LeO.refl _)
      | (with_reducible exact LeO.none _)
      | (with_reducible refine LeO.ite ?_ ?_)
      | (with_reducible refine LeO.bind ?_ (fun _ => ?_))
      | exact slices_Index_int_int.mono _ _ _
      | exact LeO.none _
      | refine LeO.ite ?_ ?_
      | refine LeO.bind ?_ (fun _ => ?_)
set_option maxHeartbeats 8000000 in
set_option maxRecDepth 100000 in
theorem slices_Contains_int_int.calls (k : Nat) (A0 : Option Addr) (c0 : Nat) (l0 : List Int) (a1 : Int) (r : Bool) (w : World) (hr0 : Kd.C (Kd.int .i64) w A0 l0.length l0) (hc0 : l0.length ≤ c0) (h : slices_Contains_int_int.f k l0 a1 = some r) :
    Calls Try.prog 69 #[.slice A0 l0.length c0, .int .i64 a1] w fun e w' => e = .returned (.bool r) ∧ Drawn0 w w' := by
  have HR0 := yam hr0
  have HC0 := yam hc0
  clear hr0 hc0
  have H : ((slices_Index_int_int.f k l0 a1).bind fun t356 => (some (decide (t356 ≥ 0)))) = some r := h
  clear h
  replace H := Option.bind_eq_some_iff.mp H
  obtain ⟨t356, A30, H⟩ := H
  try dsimp only at H
  have A3 := yam A30
  clear A30
  obtain rfl := Option.some.inj H
  go_enter Try.func69, Try.ntmps69
  go_wp2_with (first | ((with_reducible refine gate_callee (f := 89) rfl ?_); refine goesL_ (some 7) rfl rfl Try.func89 (by kernel_rfl) rfl #[.slice A0 l0.length c0, .int .i64 a1] rfl (by (try simp only [List.map_toArray, List.map_cons, List.map_nil]); first | done | rfl | (simp only [List.length_drop, List.length_take]; rfl)) ?_; (with_reducible refine (slices_Index_int_int.calls k _ _ l0 a1 t356 _ ?side1 ?side2 A3.out).mono ?_); (case side1 => exact Kd.Cz (HR0.out)); (case side2 => exact HC0.out); rintro e w' ⟨rfl, ⟨nd, rfl⟩⟩; refine ⟨_, rfl, ?_⟩))
  go_ret
  exact ⟨by first | rfl | (simp; done) | (simp [*]; done), by repeat (first | exact Drawn0.refl _ | apply Drawn0.step)⟩

end Go.Proofs.Ythfbjkniinfgcaa.P
namespace Go.Proofs.Ythfbjkniinfgcaa.P
open Go.RowKit Go.Proofs.YthfbjkniinfgcaaW.PrintWords Go.Proofs.YthfbjkniinfgcaaW.PrintLast Go.Proofs.YthfbjkniinfgcaaW.PrintMore
attribute [local go_sem] max2_int min2_int max_two min_two max_three min_three max_four min_four   -- for this text's walks alone
set_option linter.unusedVariables false
set_option linter.unusedSimpArgs false

/-! ### impl_RuleValid: function 23 -/
mutual
def impl_RuleValid.l0 : Nat → Int → List Int → Int → Int → Int → List Int → Int → Option (Bool)
  | 0, _, _, _, _, _, _, _ => none
  | k + 1, x1, x12, x13, x14, x358000, x358001, x358002 => if x14 < x13 then (if 0 ≤ x14 then (if x14 < (x12.length : Int) then (if (rd x12 x14) < 0 then (some false) else (if (rd x12 x14) ≥ (wrap64 (x1 * x1)) then (some false) else (if x14 ≤ (x358001.length : Int) then ((slices_Contains_int_int.f k (x358001.take (x14 : Int).toNat) (rd x12 x14)).bind fun t361 => (if t361 = true then (some false) else (impl_RuleValid.l0 k x1 x12 x13 (wrap64 (x14 + 1)) x358000 x358001 x358002))) else (none)))) else (none)) else (none)) else (if x358000 = 1 then (if (x358001.length : Int) ≥ 2 then (if (x358001.length : Int) ≤ 4 then (some (x358002 == 0)) else (some false)) else (some false)) else (if x358000 = 2 then (impl_RuleValid.j1 k x1 (x358001.length : Int) x358000 (x358000 == 2) x358000 x358001 x358002) else (impl_RuleValid.j1 k x1 (x358001.length : Int) x358000 (x358000 == 3) x358000 x358001 x358002)))
def impl_RuleValid.j1 : Nat → Int → Int → Int → Bool → Int → List Int → Int → Option (Bool)
  | 0, _, _, _, _, _, _, _ => none
  | k + 1, x1, x7, x41, x55, x358000, x358001, x358002 => if x55 = true then (if x7 ≥ 1 then (if x7 ≤ 4 then (if x358002 ≥ 1 then (some (decide (x358002 ≤ (wrap64 ((wrap64 ((wrap64 (x1 * x1)) * x1)) * x1))))) else (some false)) else (some false)) else (some false)) else (if x41 = 4 then (if x7 = 2 then (some (x358002 == 0)) else (some false)) else (if x41 = 5 then (if x7 = 2 then (if x358002 ≥ 0 then (some (decide (x358002 < x1))) else (some false)) else (some false)) else (some false)))
end
def impl_RuleValid.f (k : Nat) (a0_0 : Int) (l0_1 : List Int) (a0_2 : Int) (a1 : Int) : Option (Bool) := (impl_sizeOk.f a1).bind fun t358 => (if t358 = true then (impl_RuleValid.l0 k a1 l0_1 (l0_1.length : Int) 0 a0_0 l0_1 a0_2) else (some false))
theorem impl_RuleValid.mono_l : ∀ k, (∀ y0 y1 y2 y3 y4 y5 y6, LeO (impl_RuleValid.l0 k y0 y1 y2 y3 y4 y5 y6) (impl_RuleValid.l0 (k + 1) y0 y1 y2 y3 y4 y5 y6)) ∧ (∀ y0 y1 y2 y3 y4 y5 y6, LeO (impl_RuleValid.j1 k y0 y1 y2 y3 y4 y5 y6) (impl_RuleValid.j1 (k + 1) y0 y1 y2 y3 y4 y5 y6))
  | 0 => ⟨fun _ _ _ _ _ _ _ r h => by simp [impl_RuleValid.l0] at h, fun _ _ _ _ _ _ _ r h => by simp [impl_RuleValid.j1] at h⟩
  | k + 1 => by
    obtain ⟨ih0, ih1⟩ := impl_RuleValid.mono_l k
    refine ⟨?_, ?_⟩
    · intro y0 y1 y2 y3 y4 y5 y6
      unfold impl_RuleValid.l0
      repeat' first
      | (with_reducible exact ih0 _ _ _ _ _ _ _)
      | (with_reducible exact ih1 _ _ _ _ _ _ _)
      | (with_reducible exact slices_Contains_int_int.mono _ _ _)
      | (with_reducible exact LeO.refl _)
      | (with_reducible exact LeO.none _)
      | (with_reducible refine LeO.ite ?_ ?_)
      | (with_reducible refine LeO.bind ?_ (fun _ => ?_))
      | exact ih0 _ _ _ _ _ _ _
      | exact ih1 _ _ _ _ _ _ _
      | exact slices_Contains_int_int.mono _ _ _
      | exact LeO.none _
      | refine LeO.ite ?_ ?_
      | refine LeO.bind ?_ (fun _ => ?_)
    · intro y0 y1 y2 y3 y4 y5 y6
      unfold impl_RuleValid.j1
      repeat' first
      | (with_reducible exact ih0 _ _ _ _ _ _ _)
      | (with_reducible exact ih1 _ _ _ _ _ _ _)
      | (with_reducible exact slices_Contains_int_int.mono _ _ _)
      | (with_reducible exact LeO.refl _)
      | (with_reducible exact LeO.none _)
      | (with_reducible refine LeO.ite ?_ ?_)
      | (with_reducible refine LeO.bind ?_ (fun _ => ?_))
      | exact ih0 _ _ _ _ _ _ _
      | exact ih1 _ _ _ _ _ _ _
      | exact slices_Contains_int_int.mono _ _ _
      | exact LeO.none _
      | refine LeO.ite ?_ ?_
      | refine LeO.bind ?_ (fun _ => ?_)
theorem impl_RuleValid.mono : ∀ a0 a1 a2 a3 k, LeO (impl_RuleValid.f k a0 a1 a2 a3) (impl_RuleValid.f (k + 1) a0 a1 a2 a3) := by
  intro a0 a1 a2 a3 k
  obtain ⟨ih0, ih1⟩ := impl_RuleValid.mono_l k
  unfold impl_RuleValid.f
  repeat' first
      | (with_reducible exact ih0 _ _ _ _ _ _ _)
      | (with_reducible exact ih1 _ _ _ _ _ _ _)
      | (with_reducible exact slices_Contains_int_int.mono _ _ _)
      | (with_reducible exact LeO.refl _)
      | (with_reducible exact LeO.none _)
      | (with_reducible refine LeO.ite ?_ ?_)
      | (with_reducible refine LeO.bind ?_ (fun _ => ?_))
      | exact ih0 _ _ _ _ _ _ _
      | exact ih1 _ _ _ _ _ _ _
      | exact slices_Contains_int_int.mono _ _ _
      | exact LeO.none _
      | refine LeO.ite ?_ ?_
      | refine LeO.bind ?_ (fun _ => ?_)
set_option maxHeartbeats 8000000 in
set_option maxRecDepth 100000 in
theorem impl_RuleValid.calls (k : Nat) (a0_0 : Int) (A0_1 : Option Addr) (c0_1 : Nat) (l0_1 : List Int) (a0_2 : Int) (a1 : Int) (r : Bool) (w : World) (hr0_1 : Kd.C (Kd.int .i64) w A0_1 l0_1.length l0_1) (hc0_1 : l0_1.length ≤ c0_1) (h : impl_RuleValid.f k a0_0 l0_1 a0_2 a1 = some r) :
    Calls Try.prog 23 #[.agg #[.int .i64 a0_0, .slice A0_1 l0_1.length c0_1, .int .i64 a0_2], .int .i64 a1] w fun e w' => e = .returned (.bool r) ∧ Below w.heap.size w w' := by
  have hu32 := Try.underlying32
  have HR0_1 := yam hr0_1
  have HC0_1 := yam hc0_1
  clear hr0_1 hc0_1
  have HB := yam (Below.refl w.heap.size w)
  have H : ((impl_sizeOk.f a1).bind fun t358 => (if t358 = true then (impl_RuleValid.l0 k a1 l0_1 (l0_1.length : Int) 0 a0_0 l0_1 a0_2) else (some false))) = some r := h
  clear h
  replace H := Option.bind_eq_some_iff.mp H
  obtain ⟨t358, A30, H⟩ := H
  try dsimp only at H
  have A3 := yam A30
  clear A30
  by_cases c4 : t358 = true
  rotate_left
  · replace c4 := Bool.eq_false_iff.mpr c4
    subst c4
    have H1 : (some false) = some r := by rw [if_neg (show ¬ (false = true) by decide)] at H; exact H
    clear H
    have H := H1
    clear H1
    obtain rfl := Option.some.inj H
    go_enter Try.func23, Try.ntmps23
    go_wp2_with (first | ((with_reducible refine gate_dst (N := 2) rfl ?_); refine box_event ?hg (N := 2) ?hd (cs := #[.int .i64 a0_0, .slice A0_1 l0_1.length c0_1, .int .i64 a0_2]) (t := 32) ?hr ?_; (case hd => rfl); (case hg => rfl); (case hr => first | (go_simp; done) | (go_simp; rfl)); intro gb357 hg w43 hbox hb; have n0_ := yam (below_step (yez HB.out) hb); have n1_ := yam (hbox); have n2_ := yam ((by rw [hg]; exact (below_size (yez HB.out)) : w.heap.size ≤ gb357)); have n3_ := yam ((by rw [hg]; exact (below_size (yez HB.out)) : w.heap.size ≤ gb357)); clear HB; have HB := n0_; have BK357 := n1_; have GW357 := n2_; have GE357 := n3_; clear n0_ n1_ n2_ n3_; clear hb hbox hg) | ((with_reducible refine gate_callee (f := 64) rfl ?_); refine goesL_ (some 9) rfl rfl Try.func64 (by kernel_rfl) rfl #[.int .i64 a1] rfl (by (try simp only [List.map_toArray, List.map_cons, List.map_nil]); first | done | rfl | (simp only [List.length_drop, List.length_take]; rfl)) ?_; (with_reducible refine (impl_sizeOk.calls a1 false _ A3.out).mono ?_); rintro e w' ⟨rfl, ⟨nd, rfl⟩⟩; refine ⟨_, rfl, ?_⟩))
    go_ret
    exact ⟨by first | rfl | (simp [errW_none, errW_some] <;> rfl) | (simp [*, errW_none, errW_some] <;> rfl), by repeat (first | (with_reducible first | exact HB.out | apply yea | apply yen | apply yed | refine below_set ?_ GE357.out) | exact HB.out)⟩

  subst c4
  have H1 : (impl_RuleValid.l0 k a1 l0_1 (l0_1.length : Int) 0 a0_0 l0_1 a0_2) = some r := by rw [if_pos rfl] at H; exact H
  clear H
  have H := H1
  clear H1
  have H' := yam H
  clear H
  go_enter Try.func23, Try.ntmps23
  go_wp2_with (first | ((with_reducible refine gate_dst (N := 2) rfl ?_); refine box_event ?hg (N := 2) ?hd (cs := #[.int .i64 a0_0, .slice A0_1 l0_1.length c0_1, .int .i64 a0_2]) (t := 32) ?hr ?_; (case hd => rfl); (case hg => rfl); (case hr => first | (go_simp; done) | (go_simp; rfl)); intro gb357 hg w5 hbox hb; have n0_ := yam (below_step (yez HB.out) hb); have n1_ := yam (hbox); have n2_ := yam ((by rw [hg]; exact (below_size (yez HB.out)) : w.heap.size ≤ gb357)); have n3_ := yam ((by rw [hg]; exact (below_size (yez HB.out)) : w.heap.size ≤ gb357)); clear HB; have HB := n0_; have BK357 := n1_; have GW357 := n2_; have GE357 := n3_; clear n0_ n1_ n2_ n3_; clear hb hbox hg) | ((with_reducible refine gate_callee (f := 64) rfl ?_); refine goesL_ (some 9) rfl rfl Try.func64 (by kernel_rfl) rfl #[.int .i64 a1] rfl (by (try simp only [List.map_toArray, List.map_cons, List.map_nil]); first | done | rfl | (simp only [List.length_drop, List.length_take]; rfl)) ?_; (with_reducible refine (impl_sizeOk.calls a1 true _ A3.out).mono ?_); rintro e w' ⟨rfl, ⟨nd, rfl⟩⟩; refine ⟨_, rfl, ?_⟩; have hcz6_0 : w5.cell? ⟨gb357, 0, none⟩ = some (.int .i64 a0_0) := (blk_cell BK357.out 0).trans rfl; have hcz6_1 : w5.cell? ⟨gb357, 1, none⟩ = some (.slice A0_1 l0_1.length c0_1) := (blk_cell BK357.out 1).trans rfl; have hcz6_2 : w5.cell? ⟨gb357, 2, none⟩ = some (.int .i64 a0_2) := (blk_cell BK357.out 2).trans rfl; have hfz6_0 := blk_frozen BK357.out 0; have hfz6_1 := blk_frozen BK357.out 1; have hfz6_2 := blk_frozen BK357.out 2))
  go_loopg [14] k (fun kq v14 w' => ∃ (x14_1 : Int), v14 = .int .i64 x14_1 ∧ Aside0 (impl_RuleValid.l0 kq a1 l0_1 (l0_1.length : Int) x14_1 a0_0 l0_1 a0_2 = some r) ∧ Aside0 (kq ≤ k) ∧ Aside0 (w'.heap[gb357]? = some (.cells #[.int .i64 a0_0, (.slice A0_1 l0_1.length c0_1), .int .i64 a0_2] 32 (0, 0))) ∧ Aside0 (Below w.heap.size w w'))
  case atStart => exact ⟨(0), (by first | rfl | (simp; done) | (simp [*]; done)), H', ⟨Nat.le_refl _⟩, ⟨by (with_reducible repeat (first | refine ybn ?_ _ | refine ybd ?_ | refine yba ?_ _)); exact BK357.out⟩, ⟨by repeat (first | (with_reducible first | exact HB.out | apply yea | apply yen | apply yed | refine below_set ?_ GE357.out) | exact HB.out)⟩⟩
  case round =>
    clear H'
    try clear c2
    try clear p2
    try clear c4
    try clear c6
    try clear hcz6_0
    try clear hcz6_1
    try clear hcz6_2
    try clear hfz6_0
    try clear hfz6_1
    try clear hfz6_2
    obtain ⟨x14_1, rfl, HA, HK1, BK357, HB⟩ := hrel
    cases gk with
    | zero => exact absurd HA.out (by simp [impl_RuleValid.l0])
    | succ k1 =>
      have H := HA.out
      clear HA
      simp only [impl_RuleValid.l0] at H
      by_cases c7 : x14_1 < (l0_1.length : Int)
      · rw [if_pos c7] at H
        have c7b0 : decide (x14_1 < (l0_1.length : Int)) = true := decide_eq_true c7
        clear c7
        by_cases c8 : 0 ≤ x14_1
        rotate_left
        · rw [if_neg c8] at H
          exact absurd H (by simp)
        rw [if_pos c8] at H
        have c8b0 : decide (0 ≤ x14_1) = true := decide_eq_true c8
        clear c8
        by_cases c9 : x14_1 < (l0_1.length : Int)
        rotate_left
        · rw [if_neg c9] at H
          exact absurd H (by simp)
        rw [if_pos c9] at H
        have c9b0 : decide (x14_1 < (l0_1.length : Int)) = true := decide_eq_true c9
        clear c9
        by_cases c10 : (rd l0_1 x14_1) < 0
        · rw [if_pos c10] at H
          have c10b0 : decide ((rd l0_1 x14_1) < 0) = true := decide_eq_true c10
          clear c10
          obtain rfl := Option.some.inj H
          have p359 : 0 ≤ (x14_1 : Int) := of_decide_eq_true (by first | (with_reducible assumption) | assumption)
          have q359 : x14_1 < (l0_1.length : Int) := of_decide_eq_true (by first | (with_reducible assumption) | assumption)
          obtain ⟨ad359, e359, hx359_0⟩ := Kd.at_int HR0_1.out x14_1 p359 q359
          cases e359
          replace hx359_0 := (HB.out.cell (World.block_lt_of_cell? w _ hx359_0)).trans hx359_0
          replace p359 := eq_true p359
          replace q359 := eq_true q359
          go_wp2
          go_ret
          exact ⟨by first | rfl | (simp [errW_none, errW_some] <;> rfl) | (simp [*, errW_none, errW_some] <;> rfl), by repeat (first | (with_reducible first | exact HB.out | apply yea | apply yen | apply yed | refine below_set ?_ GE357.out) | exact HB.out)⟩
        rw [if_neg c10] at H
        have c10b0 : decide ((rd l0_1 x14_1) < 0) = false := decide_eq_false c10
        clear c10
        by_cases c11 : (rd l0_1 x14_1) ≥ (wrap64 (a1 * a1))
        · rw [if_pos c11] at H
          have c11b0 : decide ((wrap64 (a1 * a1)) ≤ (rd l0_1 x14_1)) = true := decide_eq_true c11
          clear c11
          obtain rfl := Option.some.inj H
          have p359 : 0 ≤ (x14_1 : Int) := of_decide_eq_true (by first | (with_reducible assumption) | assumption)
          have q359 : x14_1 < (l0_1.length : Int) := of_decide_eq_true (by first | (with_reducible assumption) | assumption)
          obtain ⟨ad359, e359, hx359_0⟩ := Kd.at_int HR0_1.out x14_1 p359 q359
          cases e359
          replace hx359_0 := (HB.out.cell (World.block_lt_of_cell? w _ hx359_0)).trans hx359_0
          replace p359 := eq_true p359
          replace q359 := eq_true q359
          go_wp2
          go_ret
          exact ⟨by first | rfl | (simp [errW_none, errW_some] <;> rfl) | (simp [*, errW_none, errW_some] <;> rfl), by repeat (first | (with_reducible first | exact HB.out | apply yea | apply yen | apply yed | refine below_set ?_ GE357.out) | exact HB.out)⟩
        rw [if_neg c11] at H
        have c11b0 : decide ((wrap64 (a1 * a1)) ≤ (rd l0_1 x14_1)) = false := decide_eq_false c11
        clear c11
        have c12b0 := eq_true (of_decide_eq_true (by first | (with_reducible assumption) | assumption) : 0 ≤ x14_1)
        by_cases c13 : x14_1 ≤ (l0_1.length : Int)
        rotate_left
        · rw [if_neg c13] at H
          exact absurd H (by simp)
        rw [if_pos c13] at H
        have c13b0 := eq_true c13
        have c13b1 : decide (x14_1 ≤ (l0_1.length : Int)) = true := decide_eq_true c13
        clear c13
        replace H := Option.bind_eq_some_iff.mp H
        obtain ⟨t361, A140, H⟩ := H
        try dsimp only at H
        have A14 := yam A140
        clear A140
        by_cases c15 : t361 = true
        · subst c15
          have H1 : (some false) = some r := by rw [if_pos rfl] at H; exact H
          clear H
          have H := H1
          clear H1
          obtain rfl := Option.some.inj H
          have p359 : 0 ≤ (x14_1 : Int) := of_decide_eq_true (by first | (with_reducible assumption) | assumption)
          have q359 : x14_1 < (l0_1.length : Int) := of_decide_eq_true (by first | (with_reducible assumption) | assumption)
          obtain ⟨ad359, e359, hx359_0⟩ := Kd.at_int HR0_1.out x14_1 p359 q359
          cases e359
          replace hx359_0 := (HB.out.cell (World.block_lt_of_cell? w _ hx359_0)).trans hx359_0
          replace p359 := eq_true p359
          replace q359 := eq_true q359
          have hcz16_0 : wr.cell? ⟨gb357, 0, none⟩ = some (.int .i64 a0_0) := (blk_cell BK357.out 0).trans rfl
          have hcz16_1 : wr.cell? ⟨gb357, 1, none⟩ = some (.slice (some ad359) l0_1.length c0_1) := (blk_cell BK357.out 1).trans rfl
          have hcz16_2 : wr.cell? ⟨gb357, 2, none⟩ = some (.int .i64 a0_2) := (blk_cell BK357.out 2).trans rfl
          have hfz16_0 := blk_frozen BK357.out 0
          have hfz16_1 := blk_frozen BK357.out 1
          have hfz16_2 := blk_frozen BK357.out 2
          obtain ⟨i017, hi017, _, hsz17, _⟩ := info_parts info3
          obtain ⟨hcut17, hA17, hC17⟩ := print_take_of (P := Try.prog) (Value.int .i64) 0 23 3 .i64 Try.underlying23 hi017 hsz17 (some ad359) c0_1 l0_1 x14_1 (of_decide_eq_true (by first | (with_reducible assumption) | assumption)) (of_decide_eq_true (by first | (with_reducible assumption) | assumption)) HC0_1.out
          have hl17_ : (l0_1.take (x14_1 : Int).toNat).length = (x14_1 : Int).toNat := by
            have e0_ : 0 ≤ (x14_1 : Int) := of_decide_eq_true (by first | (with_reducible assumption) | assumption)
            have e1_ : (x14_1 : Int) ≤ (l0_1.length : Int) := of_decide_eq_true (by first | (with_reducible assumption) | assumption)
            rw [List.length_take]; omega
          have HR360 := yam (Kd.C_of_reads (h1 := fun _ => rfl) (hA17 _ (Kd.reads_of_C HR0_1.out)))
          have HC360 := yam hC17
          clear hA17 hC17 hi017 hsz17
          go_wp2_with (first | (go_at_call 69; (first | (with_reducible refine (slices_Contains_int_int.calls k1 _ _ (l0_1.take (x14_1 : Int).toNat) (rd l0_1 x14_1) true _ ?side1 ?side2 A14.out).mono ?_) | (rw [← hl17_]; (with_reducible refine (slices_Contains_int_int.calls k1 _ _ (l0_1.take (x14_1 : Int).toNat) (rd l0_1 x14_1) true _ ?side1 ?side2 A14.out).mono ?_))); (case side1 => exact Kd.Cz ((Kd.C_below HR360.out HB.out))); (case side2 => exact HC360.out); rintro e w' ⟨rfl, ⟨nd, rfl⟩⟩))
          go_ret
          exact ⟨by first | rfl | (simp [errW_none, errW_some] <;> rfl) | (simp [*, errW_none, errW_some] <;> rfl), by repeat (first | (with_reducible first | exact HB.out | apply yea | apply yen | apply yed | refine below_set ?_ GE357.out) | exact HB.out)⟩
        replace c15 := Bool.eq_false_iff.mpr c15
        subst c15
        have H1 : (impl_RuleValid.l0 k1 a1 l0_1 (l0_1.length : Int) (wrap64 (x14_1 + 1)) a0_0 l0_1 a0_2) = some r := by rw [if_neg (show ¬ (false = true) by decide)] at H; exact H
        clear H
        have H := H1
        clear H1
        have H' := yam H
        clear H
        have p359 : 0 ≤ (x14_1 : Int) := of_decide_eq_true (by first | (with_reducible assumption) | assumption)
        have q359 : x14_1 < (l0_1.length : Int) := of_decide_eq_true (by first | (with_reducible assumption) | assumption)
        obtain ⟨ad359, e359, hx359_0⟩ := Kd.at_int HR0_1.out x14_1 p359 q359
        cases e359
        replace hx359_0 := (HB.out.cell (World.block_lt_of_cell? w _ hx359_0)).trans hx359_0
        replace p359 := eq_true p359
        replace q359 := eq_true q359
        have hcz18_0 : wr.cell? ⟨gb357, 0, none⟩ = some (.int .i64 a0_0) := (blk_cell BK357.out 0).trans rfl
        have hcz18_1 : wr.cell? ⟨gb357, 1, none⟩ = some (.slice (some ad359) l0_1.length c0_1) := (blk_cell BK357.out 1).trans rfl
        have hcz18_2 : wr.cell? ⟨gb357, 2, none⟩ = some (.int .i64 a0_2) := (blk_cell BK357.out 2).trans rfl
        have hfz18_0 := blk_frozen BK357.out 0
        have hfz18_1 := blk_frozen BK357.out 1
        have hfz18_2 := blk_frozen BK357.out 2
        obtain ⟨i019, hi019, _, hsz19, _⟩ := info_parts info3
        obtain ⟨hcut19, hA19, hC19⟩ := print_take_of (P := Try.prog) (Value.int .i64) 0 23 3 .i64 Try.underlying23 hi019 hsz19 (some ad359) c0_1 l0_1 x14_1 (of_decide_eq_true (by first | (with_reducible assumption) | assumption)) (of_decide_eq_true (by first | (with_reducible assumption) | assumption)) HC0_1.out
        have hl19_ : (l0_1.take (x14_1 : Int).toNat).length = (x14_1 : Int).toNat := by
          have e0_ : 0 ≤ (x14_1 : Int) := of_decide_eq_true (by first | (with_reducible assumption) | assumption)
          have e1_ : (x14_1 : Int) ≤ (l0_1.length : Int) := of_decide_eq_true (by first | (with_reducible assumption) | assumption)
          rw [List.length_take]; omega
        have HR360 := yam (Kd.C_of_reads (h1 := fun _ => rfl) (hA19 _ (Kd.reads_of_C HR0_1.out)))
        have HC360 := yam hC19
        clear hA19 hC19 hi019 hsz19
        go_wp2_with (first | (go_at_call 69; (first | (with_reducible refine (slices_Contains_int_int.calls k1 _ _ (l0_1.take (x14_1 : Int).toNat) (rd l0_1 x14_1) false _ ?side1 ?side2 A14.out).mono ?_) | (rw [← hl19_]; (with_reducible refine (slices_Contains_int_int.calls k1 _ _ (l0_1.take (x14_1 : Int).toNat) (rd l0_1 x14_1) false _ ?side1 ?side2 A14.out).mono ?_))); (case side1 => exact Kd.Cz ((Kd.C_below HR360.out HB.out))); (case side2 => exact HC360.out); rintro e w' ⟨rfl, ⟨nd, rfl⟩⟩))
        go_roundg k1
        case measure => have := HK1.out; omega
        case rel => exact ⟨(wrap64 (x14_1 + 1)), (by first | rfl | (simp; done) | (simp [*]; done)), H', ⟨by have := HK1.out; omega⟩, ⟨by (with_reducible repeat (first | refine ybn ?_ _ | refine ybd ?_ | refine yba ?_ _)); exact BK357.out⟩, ⟨by repeat (first | (with_reducible first | exact HB.out | apply yea | apply yen | apply yed | refine below_set ?_ GE357.out) | exact HB.out)⟩⟩
      rw [if_neg c7] at H
      have c7b0 : decide (x14_1 < (l0_1.length : Int)) = false := decide_eq_false c7
      clear c7
      by_cases c20 : a0_0 = 1
      · rw [if_pos c20] at H
        have c20b0 : (a0_0 == 1) = true := beq_iff_eq.mpr c20
        have c20b1 : (a0_0 != 1) = false := bne_eq_false_iff_eq.mpr c20
        clear c20
        by_cases c21 : (l0_1.length : Int) ≥ 2
        rotate_left
        · rw [if_neg c21] at H
          have c21b0 : decide (2 ≤ (l0_1.length : Int)) = false := decide_eq_false c21
          have c21b1 : decide (2 ≤ l0_1.length) = false := decide_eq_false (by omega)
          clear c21
          obtain rfl := Option.some.inj H
          have hcz25_0 : wr.cell? ⟨gb357, 0, none⟩ = some (.int .i64 a0_0) := (blk_cell BK357.out 0).trans rfl
          have hcz25_1 : wr.cell? ⟨gb357, 1, none⟩ = some (.slice A0_1 l0_1.length c0_1) := (blk_cell BK357.out 1).trans rfl
          have hcz25_2 : wr.cell? ⟨gb357, 2, none⟩ = some (.int .i64 a0_2) := (blk_cell BK357.out 2).trans rfl
          have hfz25_0 := blk_frozen BK357.out 0
          have hfz25_1 := blk_frozen BK357.out 1
          have hfz25_2 := blk_frozen BK357.out 2
          go_wp2
          go_ret
          exact ⟨by first | rfl | (simp [errW_none, errW_some] <;> rfl) | (simp [*, errW_none, errW_some] <;> rfl), by repeat (first | (with_reducible first | exact HB.out | apply yea | apply yen | apply yed | refine below_set ?_ GE357.out) | exact HB.out)⟩
        rw [if_pos c21] at H
        have c21b0 : decide (2 ≤ (l0_1.length : Int)) = true := decide_eq_true c21
        have c21b1 : decide (2 ≤ l0_1.length) = true := decide_eq_true (by omega)
        clear c21
        by_cases c22 : (l0_1.length : Int) ≤ 4
        · rw [if_pos c22] at H
          have c22b0 : decide ((l0_1.length : Int) ≤ 4) = true := decide_eq_true c22
          have c22b1 : decide (l0_1.length ≤ 4) = true := decide_eq_true (by omega)
          clear c22
          obtain rfl := Option.some.inj H
          have hcz23_0 : wr.cell? ⟨gb357, 0, none⟩ = some (.int .i64 a0_0) := (blk_cell BK357.out 0).trans rfl
          have hcz23_1 : wr.cell? ⟨gb357, 1, none⟩ = some (.slice A0_1 l0_1.length c0_1) := (blk_cell BK357.out 1).trans rfl
          have hcz23_2 : wr.cell? ⟨gb357, 2, none⟩ = some (.int .i64 a0_2) := (blk_cell BK357.out 2).trans rfl
          have hfz23_0 := blk_frozen BK357.out 0
          have hfz23_1 := blk_frozen BK357.out 1
          have hfz23_2 := blk_frozen BK357.out 2
          go_wp2
          go_ret
          exact ⟨by first | rfl | (simp [errW_none, errW_some] <;> rfl) | (simp [*, errW_none, errW_some] <;> rfl), by repeat (first | (with_reducible first | exact HB.out | apply yea | apply yen | apply yed | refine below_set ?_ GE357.out) | exact HB.out)⟩
        rw [if_neg c22] at H
        have c22b0 : decide ((l0_1.length : Int) ≤ 4) = false := decide_eq_false c22
        have c22b1 : decide (l0_1.length ≤ 4) = false := decide_eq_false (by omega)
        clear c22
        obtain rfl := Option.some.inj H
        have hcz24_0 : wr.cell? ⟨gb357, 0, none⟩ = some (.int .i64 a0_0) := (blk_cell BK357.out 0).trans rfl
        have hcz24_1 : wr.cell? ⟨gb357, 1, none⟩ = some (.slice A0_1 l0_1.length c0_1) := (blk_cell BK357.out 1).trans rfl
        have hcz24_2 : wr.cell? ⟨gb357, 2, none⟩ = some (.int .i64 a0_2) := (blk_cell BK357.out 2).trans rfl
        have hfz24_0 := blk_frozen BK357.out 0
        have hfz24_1 := blk_frozen BK357.out 1
        have hfz24_2 := blk_frozen BK357.out 2
        go_wp2
        go_ret
        exact ⟨by first | rfl | (simp [errW_none, errW_some] <;> rfl) | (simp [*, errW_none, errW_some] <;> rfl), by repeat (first | (with_reducible first | exact HB.out | apply yea | apply yen | apply yed | refine below_set ?_ GE357.out) | exact HB.out)⟩
      rw [if_neg c20] at H
      have c20b0 : (a0_0 == 1) = false := beq_eq_false_iff_ne.mpr c20
      have c20b1 : (a0_0 != 1) = true := bne_iff_ne.mpr c20
      have HC26 := yam H
      clear H
      have hcz27_0 : wr.cell? ⟨gb357, 0, none⟩ = some (.int .i64 a0_0) := (blk_cell BK357.out 0).trans rfl
      have hcz27_1 : wr.cell? ⟨gb357, 1, none⟩ = some (.slice A0_1 l0_1.length c0_1) := (blk_cell BK357.out 1).trans rfl
      have hcz27_2 : wr.cell? ⟨gb357, 2, none⟩ = some (.int .i64 a0_2) := (blk_cell BK357.out 2).trans rfl
      have hfz27_0 := blk_frozen BK357.out 0
      have hfz27_1 := blk_frozen BK357.out 1
      have hfz27_2 := blk_frozen BK357.out 2
      go_upto_if 55 with (fail)
      go_cut [55] (fun v55 wc => ∃ (kq : Nat) (x55_25 : Bool), v55 = .bool x55_25 ∧ Aside0 (impl_RuleValid.j1 kq a1 (l0_1.length : Int) a0_0 x55_25 a0_0 l0_1 a0_2 = some r) ∧ Aside0 (kq ≤ k1) ∧ Aside0 (wc.heap[gb357]? = some (.cells #[.int .i64 a0_0, (.slice A0_1 l0_1.length c0_1), .int .i64 a0_2] 32 (0, 0))) ∧ Aside0 (Below w.heap.size w wc))
      case first =>
        have H := HC26.out
        clear HC26
        by_cases c28 : a0_0 = 2
        rotate_left
        · rw [if_neg c28] at H
          have c28b0 : (a0_0 == 2) = false := beq_eq_false_iff_ne.mpr c28
          have c28b1 : (a0_0 != 2) = true := bne_iff_ne.mpr c28
          (first | rw [c28b0] | (simp only [i64_w, i32_w]; rw [c28b0]) | skip)
          have H' := yam H
          clear H
          go_wp2
          go_meet
          case rel => exact ⟨_, ((a0_0 == 3)), (by first | rfl | (simp; done) | (simp [*]; done)), H', ⟨by have := HK1.out; first | omega | exact Nat.le_refl _⟩, ⟨by (with_reducible repeat (first | refine ybn ?_ _ | refine ybd ?_ | refine yba ?_ _)); exact BK357.out⟩, ⟨by repeat (first | (with_reducible first | exact HB.out | apply yea | apply yen | apply yed | refine below_set ?_ GE357.out) | exact HB.out)⟩⟩
        rw [if_pos c28] at H
        have c28b0 : (a0_0 == 2) = true := beq_iff_eq.mpr c28
        have c28b1 : (a0_0 != 2) = false := bne_eq_false_iff_eq.mpr c28
        clear c28
        (first | rw [c28b0] | (simp only [i64_w, i32_w]; rw [c28b0]) | skip)
        have H' := yam H
        clear H
        go_wp2
        go_meet
        case rel => exact ⟨_, ((a0_0 == 2)), (by first | rfl | (simp; done) | (simp [*]; done)), H', ⟨by have := HK1.out; first | omega | exact Nat.le_refl _⟩, ⟨by (with_reducible repeat (first | refine ybn ?_ _ | refine ybd ?_ | refine yba ?_ _)); exact BK357.out⟩, ⟨by repeat (first | (with_reducible first | exact HB.out | apply yea | apply yen | apply yed | refine below_set ?_ GE357.out) | exact HB.out)⟩⟩
      case rest =>
        clear HC26
        try clear c1
        try clear c2
        try clear p2
        try clear p3
        try clear q3
        try clear hx3
        try clear c4
        try clear c6
        try clear p6
        try clear c7
        try clear c7b0
        try clear c8
        try clear c8b0
        try clear c9
        try clear c9b0
        try clear c10
        try clear c10b0
        try clear c11
        try clear c11b0
        try clear c12
        try clear c12b0
        try clear c13
        try clear c13b0
        try clear c13b1
        try clear c15
        try clear c20
        try clear c20b0
        try clear c20b1
        try clear c21
        try clear c21b0
        try clear c21b1
        try clear c22
        try clear c22b0
        try clear c22b1
        try clear c23
        try clear c28
        try clear c28b0
        try clear c28b1
        try clear hcz16_0
        try clear hcz16_1
        try clear hcz16_2
        try clear hcz18_0
        try clear hcz18_1
        try clear hcz18_2
        try clear hcz23_0
        try clear hcz23_1
        try clear hcz23_2
        try clear hcz24_0
        try clear hcz24_1
        try clear hcz24_2
        try clear hcz25_0
        try clear hcz25_1
        try clear hcz25_2
        try clear hcz27_0
        try clear hcz27_1
        try clear hcz27_2
        try clear hcz6_0
        try clear hcz6_1
        try clear hcz6_2
        try clear hfz16_0
        try clear hfz16_1
        try clear hfz16_2
        try clear hfz18_0
        try clear hfz18_1
        try clear hfz18_2
        try clear hfz23_0
        try clear hfz23_1
        try clear hfz23_2
        try clear hfz24_0
        try clear hfz24_1
        try clear hfz24_2
        try clear hfz25_0
        try clear hfz25_1
        try clear hfz25_2
        try clear hfz27_0
        try clear hfz27_1
        try clear hfz27_2
        try clear hfz6_0
        try clear hfz6_1
        try clear hfz6_2
        try clear hx359_0
        try clear p2
        try clear p359
        try clear q359
        obtain ⟨kq, x55_25, rfl, HA, HJ25, BK357, HB⟩ := hcut
        cases kq with
        | zero => exact absurd HA.out (by simp [impl_RuleValid.j1])
        | succ kj25 =>
          have H := HA.out
          clear HA
          simp only [impl_RuleValid.j1] at H
          by_cases c29 : x55_25 = true
          · subst c29
            have H1 : (if (l0_1.length : Int) ≥ 1 then (if (l0_1.length : Int) ≤ 4 then (if a0_2 ≥ 1 then (some (decide (a0_2 ≤ (wrap64 ((wrap64 ((wrap64 (a1 * a1)) * a1)) * a1))))) else (some false)) else (some false)) else (some false)) = some r := by rw [if_pos rfl] at H; exact H
            clear H
            have H := H1
            clear H1
            by_cases c30 : (l0_1.length : Int) ≥ 1
            rotate_left
            · rw [if_neg c30] at H
              have c30b0 : decide (1 ≤ (l0_1.length : Int)) = false := decide_eq_false c30
              have c30b1 : decide (1 ≤ l0_1.length) = false := decide_eq_false (by omega)
              clear c30
              obtain rfl := Option.some.inj H
              go_wp2
              go_ret
              exact ⟨by first | rfl | (simp [errW_none, errW_some] <;> rfl) | (simp [*, errW_none, errW_some] <;> rfl), by repeat (first | (with_reducible first | exact HB.out | apply yea | apply yen | apply yed | refine below_set ?_ GE357.out) | exact HB.out)⟩
            rw [if_pos c30] at H
            have c30b0 : decide (1 ≤ (l0_1.length : Int)) = true := decide_eq_true c30
            have c30b1 : decide (1 ≤ l0_1.length) = true := decide_eq_true (by omega)
            clear c30
            by_cases c31 : (l0_1.length : Int) ≤ 4
            rotate_left
            · rw [if_neg c31] at H
              have c31b0 : decide ((l0_1.length : Int) ≤ 4) = false := decide_eq_false c31
              have c31b1 : decide (l0_1.length ≤ 4) = false := decide_eq_false (by omega)
              clear c31
              obtain rfl := Option.some.inj H
              go_wp2
              go_ret
              exact ⟨by first | rfl | (simp [errW_none, errW_some] <;> rfl) | (simp [*, errW_none, errW_some] <;> rfl), by repeat (first | (with_reducible first | exact HB.out | apply yea | apply yen | apply yed | refine below_set ?_ GE357.out) | exact HB.out)⟩
            rw [if_pos c31] at H
            have c31b0 : decide ((l0_1.length : Int) ≤ 4) = true := decide_eq_true c31
            have c31b1 : decide (l0_1.length ≤ 4) = true := decide_eq_true (by omega)
            clear c31
            by_cases c32 : a0_2 ≥ 1
            · rw [if_pos c32] at H
              have c32b0 : decide (1 ≤ a0_2) = true := decide_eq_true c32
              clear c32
              obtain rfl := Option.some.inj H
              have hcz33_0 : wc.cell? ⟨gb357, 0, none⟩ = some (.int .i64 a0_0) := (blk_cell BK357.out 0).trans rfl
              have hcz33_1 : wc.cell? ⟨gb357, 1, none⟩ = some (.slice A0_1 l0_1.length c0_1) := (blk_cell BK357.out 1).trans rfl
              have hcz33_2 : wc.cell? ⟨gb357, 2, none⟩ = some (.int .i64 a0_2) := (blk_cell BK357.out 2).trans rfl
              have hfz33_0 := blk_frozen BK357.out 0
              have hfz33_1 := blk_frozen BK357.out 1
              have hfz33_2 := blk_frozen BK357.out 2
              go_wp2
              go_ret
              exact ⟨by first | rfl | (simp [errW_none, errW_some] <;> rfl) | (simp [*, errW_none, errW_some] <;> rfl), by repeat (first | (with_reducible first | exact HB.out | apply yea | apply yen | apply yed | refine below_set ?_ GE357.out) | exact HB.out)⟩
            rw [if_neg c32] at H
            have c32b0 : decide (1 ≤ a0_2) = false := decide_eq_false c32
            clear c32
            obtain rfl := Option.some.inj H
            have hcz34_0 : wc.cell? ⟨gb357, 0, none⟩ = some (.int .i64 a0_0) := (blk_cell BK357.out 0).trans rfl
            have hcz34_1 : wc.cell? ⟨gb357, 1, none⟩ = some (.slice A0_1 l0_1.length c0_1) := (blk_cell BK357.out 1).trans rfl
            have hcz34_2 : wc.cell? ⟨gb357, 2, none⟩ = some (.int .i64 a0_2) := (blk_cell BK357.out 2).trans rfl
            have hfz34_0 := blk_frozen BK357.out 0
            have hfz34_1 := blk_frozen BK357.out 1
            have hfz34_2 := blk_frozen BK357.out 2
            go_wp2
            go_ret
            exact ⟨by first | rfl | (simp [errW_none, errW_some] <;> rfl) | (simp [*, errW_none, errW_some] <;> rfl), by repeat (first | (with_reducible first | exact HB.out | apply yea | apply yen | apply yed | refine below_set ?_ GE357.out) | exact HB.out)⟩
          replace c29 := Bool.eq_false_iff.mpr c29
          subst c29
          have H1 : (if a0_0 = 4 then (if (l0_1.length : Int) = 2 then (some (a0_2 == 0)) else (some false)) else (if a0_0 = 5 then (if (l0_1.length : Int) = 2 then (if a0_2 ≥ 0 then (some (decide (a0_2 < a1))) else (some false)) else (some false)) else (some false))) = some r := by rw [if_neg (show ¬ (false = true) by decide)] at H; exact H
          clear H
          have H := H1
          clear H1
          by_cases c35 : a0_0 = 4
          · rw [if_pos c35] at H
            have c35b0 : (a0_0 == 4) = true := beq_iff_eq.mpr c35
            have c35b1 : (a0_0 != 4) = false := bne_eq_false_iff_eq.mpr c35
            clear c35
            by_cases c36 : (l0_1.length : Int) = 2
            rotate_left
            · rw [if_neg c36] at H
              have c36b0 : ((l0_1.length : Int) == 2) = false := beq_eq_false_iff_ne.mpr c36
              have c36b1 : ((l0_1.length : Int) != 2) = true := bne_iff_ne.mpr c36
              obtain rfl := Option.some.inj H
              go_wp2
              go_ret
              exact ⟨by first | rfl | (simp [errW_none, errW_some] <;> rfl) | (simp [*, errW_none, errW_some] <;> rfl), by repeat (first | (with_reducible first | exact HB.out | apply yea | apply yen | apply yed | refine below_set ?_ GE357.out) | exact HB.out)⟩
            rw [if_pos c36] at H
            have c36b0 : ((l0_1.length : Int) == 2) = true := beq_iff_eq.mpr c36
            have c36b1 : ((l0_1.length : Int) != 2) = false := bne_eq_false_iff_eq.mpr c36
            clear c36
            obtain rfl := Option.some.inj H
            have hcz37_0 : wc.cell? ⟨gb357, 0, none⟩ = some (.int .i64 a0_0) := (blk_cell BK357.out 0).trans rfl
            have hcz37_1 : wc.cell? ⟨gb357, 1, none⟩ = some (.slice A0_1 l0_1.length c0_1) := (blk_cell BK357.out 1).trans rfl
            have hcz37_2 : wc.cell? ⟨gb357, 2, none⟩ = some (.int .i64 a0_2) := (blk_cell BK357.out 2).trans rfl
            have hfz37_0 := blk_frozen BK357.out 0
            have hfz37_1 := blk_frozen BK357.out 1
            have hfz37_2 := blk_frozen BK357.out 2
            go_wp2
            go_ret
            exact ⟨by first | rfl | (simp [errW_none, errW_some] <;> rfl) | (simp [*, errW_none, errW_some] <;> rfl), by repeat (first | (with_reducible first | exact HB.out | apply yea | apply yen | apply yed | refine below_set ?_ GE357.out) | exact HB.out)⟩
          rw [if_neg c35] at H
          have c35b0 : (a0_0 == 4) = false := beq_eq_false_iff_ne.mpr c35
          have c35b1 : (a0_0 != 4) = true := bne_iff_ne.mpr c35
          by_cases c38 : a0_0 = 5
          rotate_left
          · rw [if_neg c38] at H
            have c38b0 : (a0_0 == 5) = false := beq_eq_false_iff_ne.mpr c38
            have c38b1 : (a0_0 != 5) = true := bne_iff_ne.mpr c38
            obtain rfl := Option.some.inj H
            go_wp2
            go_ret
            exact ⟨by first | rfl | (simp [errW_none, errW_some] <;> rfl) | (simp [*, errW_none, errW_some] <;> rfl), by repeat (first | (with_reducible first | exact HB.out | apply yea | apply yen | apply yed | refine below_set ?_ GE357.out) | exact HB.out)⟩
          rw [if_pos c38] at H
          have c38b0 : (a0_0 == 5) = true := beq_iff_eq.mpr c38
          have c38b1 : (a0_0 != 5) = false := bne_eq_false_iff_eq.mpr c38
          clear c38
          by_cases c39 : (l0_1.length : Int) = 2
          rotate_left
          · rw [if_neg c39] at H
            have c39b0 : ((l0_1.length : Int) == 2) = false := beq_eq_false_iff_ne.mpr c39
            have c39b1 : ((l0_1.length : Int) != 2) = true := bne_iff_ne.mpr c39
            obtain rfl := Option.some.inj H
            go_wp2
            go_ret
            exact ⟨by first | rfl | (simp [errW_none, errW_some] <;> rfl) | (simp [*, errW_none, errW_some] <;> rfl), by repeat (first | (with_reducible first | exact HB.out | apply yea | apply yen | apply yed | refine below_set ?_ GE357.out) | exact HB.out)⟩
          rw [if_pos c39] at H
          have c39b0 : ((l0_1.length : Int) == 2) = true := beq_iff_eq.mpr c39
          have c39b1 : ((l0_1.length : Int) != 2) = false := bne_eq_false_iff_eq.mpr c39
          clear c39
          by_cases c40 : a0_2 ≥ 0
          · rw [if_pos c40] at H
            have c40b0 : decide (0 ≤ a0_2) = true := decide_eq_true c40
            clear c40
            obtain rfl := Option.some.inj H
            have hcz41_0 : wc.cell? ⟨gb357, 0, none⟩ = some (.int .i64 a0_0) := (blk_cell BK357.out 0).trans rfl
            have hcz41_1 : wc.cell? ⟨gb357, 1, none⟩ = some (.slice A0_1 l0_1.length c0_1) := (blk_cell BK357.out 1).trans rfl
            have hcz41_2 : wc.cell? ⟨gb357, 2, none⟩ = some (.int .i64 a0_2) := (blk_cell BK357.out 2).trans rfl
            have hfz41_0 := blk_frozen BK357.out 0
            have hfz41_1 := blk_frozen BK357.out 1
            have hfz41_2 := blk_frozen BK357.out 2
            go_wp2
            go_ret
            exact ⟨by first | rfl | (simp [errW_none, errW_some] <;> rfl) | (simp [*, errW_none, errW_some] <;> rfl), by repeat (first | (with_reducible first | exact HB.out | apply yea | apply yen | apply yed | refine below_set ?_ GE357.out) | exact HB.out)⟩
          rw [if_neg c40] at H
          have c40b0 : decide (0 ≤ a0_2) = false := decide_eq_false c40
          clear c40
          obtain rfl := Option.some.inj H
          have hcz42_0 : wc.cell? ⟨gb357, 0, none⟩ = some (.int .i64 a0_0) := (blk_cell BK357.out 0).trans rfl
          have hcz42_1 : wc.cell? ⟨gb357, 1, none⟩ = some (.slice A0_1 l0_1.length c0_1) := (blk_cell BK357.out 1).trans rfl
          have hcz42_2 : wc.cell? ⟨gb357, 2, none⟩ = some (.int .i64 a0_2) := (blk_cell BK357.out 2).trans rfl
          have hfz42_0 := blk_frozen BK357.out 0
          have hfz42_1 := blk_frozen BK357.out 1
          have hfz42_2 := blk_frozen BK357.out 2
          go_wp2
          go_ret
          exact ⟨by first | rfl | (simp [errW_none, errW_some] <;> rfl) | (simp [*, errW_none, errW_some] <;> rfl), by repeat (first | (with_reducible first | exact HB.out | apply yea | apply yen | apply yed | refine below_set ?_ GE357.out) | exact HB.out)⟩
end Go.Proofs.Ythfbjkniinfgcaa.P
