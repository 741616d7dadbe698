/- The machine's side of laws of this seat: each Go function as a plain Lean function and the proof that the machine's call does what that function says; written by this session's own program over the kit's print. -/
import Derived.Test.YtnocdmclcdfppaaP0
import Derived.Test.YtnocdmclcdfppaaP1
import Derived.Test.YtnocdmclcdfppaaP2
import Derived.Test.YtnocdmclcdfppaaP8
import Derived.Test.YtnocdmclcdfppaaP21
namespace Go.Proofs.Ytnocdmclcdfppaa.P
open Go.RowKit Go.Proofs.YtnocdmclcdfppaaW.PrintWords Go.Proofs.YtnocdmclcdfppaaW.PrintLast Go.Proofs.YtnocdmclcdfppaaW.PrintMore
attribute [local go_sem] max2_int min2_int max_two min_two max_three min_three max_four min_four   -- for this text's walks alone
set_option linter.unusedVariables false
set_option linter.unusedSimpArgs false

/-! ### spec_SquareNumber: function 65 -/
def spec_SquareNumber.f (k : Nat) (a0 : Int) (a1 : Int) : Option (List Int) :=
  if 2 ≤ a0 ∧ a0 ≤ 4 ∧ 0 ≤ a1 then (spec_l2Search.f k (List.replicate (wrap64 (a0 * a0)).toNat 0) a0 0 a1).bind fun t => (if t.1.length < 17592186044416 then some t.1 else none) else some []
theorem spec_SquareNumber.mono : ∀ a0 a1 k, LeO (spec_SquareNumber.f k a0 a1) (spec_SquareNumber.f (k + 1) a0 a1) := by
  intro a0 a1 k
  unfold spec_SquareNumber.f
  exact LeO.ite (LeO.bind (spec_l2Search.mono _ _ _ _ _) (fun _ => LeO.refl _)) (LeO.refl _)
/-- The box of the number that is left, once it is made and filled. -/
abbrev spec_SquareNumber.box (w : World) (nd : Nat) (a1 : Int) : World := ((w.drewN nd).alloc (Obj.cells #[Value.int IntKind.i64 0] 3)).setCell ⟨w.heap.size, 0, none⟩ (.int .i64 a1)
theorem spec_SquareNumber.box_is (w : World) (nd : Nat) (a1 : Int) : IsS3 w (spec_SquareNumber.box w nd a1) w.heap.size a1 := IsS3.set_0 (IsS3.new w (w.drewN nd) 0 (pw_below_drewN (Below.refl _ _) nd)) a1
theorem spec_SquareNumber.box_below (w : World) (nd : Nat) (a1 : Int) : Below w.heap.size w (spec_SquareNumber.box w nd a1) := below_set (below_alloc (pw_below_drewN (Below.refl _ _) nd) _) (Nat.le_refl _)
set_option maxHeartbeats 8000000 in
set_option maxRecDepth 100000 in
theorem spec_SquareNumber.calls (k : Nat) (a0 : Int) (a1 : Int) (r : List Int) (w : World) (h : spec_SquareNumber.f k a0 a1 = some r) :
    Calls Try.prog 65 #[.int .i64 a0, .int .i64 a1] w fun e w' => ∃ v0_ : Value, e = .returned (v0_) ∧ Kd.R (Kd.int .i64) 3 w' w.heap.size (fun _ => True) v0_ r ∧ Below w.heap.size w w' := by
  unfold spec_SquareNumber.f at h
  by_cases hc : 2 ≤ a0 ∧ a0 ≤ 4 ∧ 0 ≤ a1
  · rw [if_pos hc] at h
    obtain ⟨⟨t1, t2⟩, hS, h⟩ := Option.bind_eq_some_iff.1 h
    by_cases hlen : t1.length < 17592186044416
    · simp only [hlen, if_true, Option.some.injEq] at h
      subst h
      have HS := Aside0.mk hS
      have HLN := Aside0.mk hlen
      have HL := Aside0.mk (show spec_l1In.f a0 2 4 = some true by unfold spec_l1In.f; rw [if_pos hc.1, decide_eq_true hc.2.1])
      have hn : decide (a1 < 0) = false := decide_eq_false (by omega)
      have HM := Aside0.mk (show 0 ≤ wrap64 (a0 * a0) ∧ wrap64 (a0 * a0) ≤ 16 by
        have : a0 = 2 ∨ a0 = 3 ∨ a0 = 4 := by omega
        rcases this with rfl | rfl | rfl <;> decide +kernel)
      clear hc hS hlen
      go_enter Try.func65, Try.ntmps65
      go_wp2_with (first
        | (go_at_call 54; (with_reducible refine (spec_l1In.calls a0 2 4 true _ HL.out).mono ?_); rintro e w' ⟨rfl, ⟨nd, rfl⟩⟩; have hcz : ((w.drewN nd).alloc (Obj.cells #[Value.int IntKind.i64 0] 3)).cell? ⟨w.heap.size, 0, none⟩ = some (.int .i64 0) := (blk_cell (heap_alloc_new (w.drewN nd) (Obj.cells #[Value.int IntKind.i64 0] 3)) 0).trans rfl; have hfz : ((w.drewN nd).alloc (Obj.cells #[Value.int IntKind.i64 0] 3)).frozen? ⟨w.heap.size, 0, none⟩ = false := blk_frozen (heap_alloc_new (w.drewN nd) (Obj.cells #[Value.int IntKind.i64 0] 3)) 0; have HI := Aside0.mk (spec_SquareNumber.box_is w nd a1); have HB := Aside0.mk (spec_SquareNumber.box_below w nd a1))
        | ((with_reducible refine gate_dst (N := 20) rfl ?_); refine Kd.R_make (Kd.int .i64) _ 3 rfl (N := 20) rfl 25 _ _ rfl (wrap64 (a0 * a0)) rfl rfl Try.underlying25 (.int .i64 0) 8 info3 rfl (by decide) (by omega) 0 (ok := fun k_ => w.heap.size < k_) (okp := fun _ => False) rfl (fun _ hk => hk.elim) (IsS3.lt HI.out) HM.out.1 (by have := HM.out.2; omega) (Below.refl _ _) (Nat.le_refl _) ?_; intro v20 w20 ho20 hb hg_ hnew_; clear hg_ hnew_; have n0_ := Aside0.mk (IsS3.below HI.out hb); have n1_ := Aside0.mk (Kd.R_lower ho20 (below_size HB.out)); have n2_ := Aside0.mk (below_step HB.out hb); clear HI HB ho20 hb; have HI := n0_; have HO20 := n1_; have HB := n2_; clear n0_ n1_ n2_)
        | ((with_reducible refine gate_callee (f := 66) rfl ?_); refine goesL_ (some 23) rfl rfl Try.func66 (by kernel_rfl) rfl #[v20, .int .i64 a0, .int .i64 0, .pointer (some ⟨w.heap.size, 0, none⟩)] rfl (by (try simp only [List.map_toArray, List.map_cons, List.map_nil]); first | done | rfl) ?_; (with_reducible refine (spec_l2Search.calls k (fun k_ => w.heap.size < k_) v20 (List.replicate (wrap64 (a0 * a0)).toNat 0) a0 0 w.heap.size a1 t1 t2 w _ HI.out HB.out (Nat.lt_irrefl _) HO20.out HS.out).mono ?_); rintro e w23 ⟨v23, rfl, ho0, hi, hb, hkp⟩; refine ⟨_, rfl, ?_⟩; have n1_ := Aside0.mk (Kd.R_mono (ok' := fun _ => True) ho0 (fun _ _ => trivial)); have n2_ := Aside0.mk hb; clear HI HB HO20 hi hb hkp ho0; have HO23 := n1_; have HB := n2_; clear n1_ n2_; obtain ⟨A23, c23, e23⟩ := Kd.R_slice HO23.out; subst e23)
        | ((with_reducible refine gate_dst (N := 24) rfl ?_); refine Kd.R_lit (Kd.int .i64) _ 3 ?hg (N := 24) ?hd (xs := ([] : List Int)) (inner := []) (ok := fun _ => True) (okp := fun _ => True) ?hr ?hp (fun _ hk => hk) trivial (Below.refl _ _) (Nat.le_refl _) (by simp) ?_; (case hd => rfl); (case hg => rfl); (case hr => first | (go_simp; done) | (go_simp; rfl)); (case hp => exact (Reps.none _ _)); intro v24 w24 ho24 hb hg_ hnew_; clear hg_ hnew_; have n0_ := Aside0.mk (Kd.R_elder' HO23.out (Kd.R_base ho24) hb); have n1_ := Aside0.mk (Kd.R_lower ho24 (below_size HB.out)); have n2_ := Aside0.mk (below_step HB.out hb); clear HB HO23 hb ho24; have HO23 := n0_; have HO24 := n1_; have HB := n2_; clear n0_ n1_ n2_)
        | ((with_reducible refine gate_builtin (b := .append) (xs := #[.tmp 24, .tmp 25]) rfl ?_); at_builtin; refine Kd.R_append_rows (Kd.int .i64) (w0 := w) w.heap.size rfl (.tmp 24) (.tmp 25) 25 3 (.int .i64 0) 8 rfl Try.underlying25 info3 rfl (by decide) (by omega) v24 [] t1 _ _ _ (fun _ => True) (fun _ => False) rfl rfl HO24.out (Kd.R_reads' HO23.out).2.2 (fun _ _ h => h) (fun _ h => h.elim) (fun _ _ => trivial) HB.out (below_size HB.out) (by have := HLN.out; simp only [List.length_nil]; omega) ?_; intro v26 w26 ho hb hg hat; have n0_ := Aside0.mk ho; have n1_ := Aside0.mk hb; clear HO23 HO24 HB ho hb hg hat; have HO26 := n0_; have HB := n1_; clear n0_ n1_))
      go_ret
      exact ⟨_, rfl, HO26.out, HB.out⟩
    · simp [hlen] at h
  · rw [if_neg hc] at h
    obtain rfl := Option.some.inj h
    by_cases hs : 2 ≤ a0 ∧ a0 ≤ 4
    · have HL := Aside0.mk (show spec_l1In.f a0 2 4 = some true by unfold spec_l1In.f; rw [if_pos hs.1, decide_eq_true hs.2])
      have hn : decide (a1 < 0) = true := decide_eq_true (by omega)
      clear hc hs
      go_enter Try.func65, Try.ntmps65
      go_wp2_with (first
        | (go_at_call 54; (with_reducible refine (spec_l1In.calls a0 2 4 true _ HL.out).mono ?_); rintro e w' ⟨rfl, ⟨nd, rfl⟩⟩)
        | ((with_reducible refine gate_dst (N := 15) rfl ?_); refine Kd.R_lit (Kd.int .i64) _ 3 ?hg (N := 15) ?hd (xs := ([] : List Int)) (inner := []) (ok := fun _ => True) (okp := fun _ => True) ?hr ?hp (fun _ hk => hk) trivial (Below.refl _ _) (Nat.le_refl _) (by simp) ?_; (case hd => rfl); (case hg => rfl); (case hr => first | (go_simp; done) | (go_simp; rfl)); (case hp => exact (Reps.none _ _)); intro v24 w24 ho24 hb hg_ hnew_; clear hg_ hnew_; have HO := Aside0.mk ho24; have HB := Aside0.mk (below_step (pw_below_drewN (Below.refl w.heap.size w) nd) hb); clear ho24 hb))
      go_ret
      exact ⟨_, rfl, HO.out, HB.out⟩
    · have HL := Aside0.mk (show spec_l1In.f a0 2 4 = some false by
        unfold spec_l1In.f
        by_cases h2 : a0 ≥ 2
        · rw [if_pos h2, decide_eq_false (by omega)]
        · rw [if_neg h2])
      clear hc hs
      go_enter Try.func65, Try.ntmps65
      go_wp2_with (first
        | (go_at_call 54; (with_reducible refine (spec_l1In.calls a0 2 4 false _ HL.out).mono ?_); rintro e w' ⟨rfl, ⟨nd, rfl⟩⟩)
        | ((with_reducible refine gate_dst (N := 15) rfl ?_); refine Kd.R_lit (Kd.int .i64) _ 3 ?hg (N := 15) ?hd (xs := ([] : List Int)) (inner := []) (ok := fun _ => True) (okp := fun _ => True) ?hr ?hp (fun _ hk => hk) trivial (Below.refl _ _) (Nat.le_refl _) (by simp) ?_; (case hd => rfl); (case hg => rfl); (case hr => first | (go_simp; done) | (go_simp; rfl)); (case hp => exact (Reps.none _ _)); intro v24 w24 ho24 hb hg_ hnew_; clear hg_ hnew_; have HO := Aside0.mk ho24; have HB := Aside0.mk (below_step (pw_below_drewN (Below.refl w.heap.size w) nd) hb); clear ho24 hb))
      go_ret
      exact ⟨_, rfl, HO.out, HB.out⟩

/-! ### spec_l20Solved: function 62 -/
def spec_l20Solved.f (k : Nat) (s0_0 : List Int) (s0_1 : Int) (a1 : Int) : Option (List Int × Int) := (some (([2, 12, 576] : List Int) : List Int)).bind fun y226 => (if 0 ≤ (wrap64 (a1 - 2)) then (if (wrap64 (a1 - 2)) < (y226.length : Int) then ((spec_l20Rd_pick.f k s0_0 s0_1 256).bind fun bt230 => ((spec_l20Rd_pick.f k s0_0 bt230.2 3).bind fun bt232 => (if (rd y226 (wrap64 (a1 - 2))) = 0 then (none) else ((spec_SquareNumber.f k a1 (Int.tmod (wrap64 ((wrap64 (bt230.1 * 3)) + bt232.1)) (rd y226 (wrap64 (a1 - 2))))).bind fun t234 => (some (t234, bt232.2)))))) else (none)) else (none))
theorem spec_l20Solved.mono : ∀ a0 a1 a2 k, LeO (spec_l20Solved.f k a0 a1 a2) (spec_l20Solved.f (k + 1) a0 a1 a2) := by
  intro a0 a1 a2 k
  unfold spec_l20Solved.f
  repeat' first
      | (with_reducible exact spec_SquareNumber.mono _ _ _)
      | (with_reducible exact spec_l20Rd_pick.mono _ _ _ _)
      | (with_reducible exact LeO.refl _)
      | (with_reducible exact LeO.none _)
      | (with_reducible refine LeO.ite ?_ ?_)
      | (with_reducible refine LeO.bind ?_ (fun _ => ?_))
      | exact spec_SquareNumber.mono _ _ _
      | exact spec_l20Rd_pick.mono _ _ _ _
      | exact LeO.none _
      | refine LeO.ite ?_ ?_
      | refine LeO.bind ?_ (fun _ => ?_)
set_option maxHeartbeats 8000000 in
set_option maxRecDepth 100000 in
theorem spec_l20Solved.calls (k : Nat) (g : Nat) (s0_0 : List Int) (s0_1 : Int) (a1 : Int) (r1 : List Int) (r2 : Int) (w0 w : World) (hI : IsS56 w0 w g s0_0 s0_1) (hB : Below w0.heap.size w0 w) (h : spec_l20Solved.f k s0_0 s0_1 a1 = some (r1, r2)) :
    Calls Try.prog 62 #[.pointer (some ⟨g, 0, none⟩), .int .i64 a1] w fun e w' => ∃ v0_ : Value, e = .returned (v0_) ∧ Kd.R (Kd.int .i64) 3 w' w.heap.size (fun _ => True) v0_ r1 ∧ IsS56 w0 w' g s0_0 r2 ∧ Below w0.heap.size w0 w' ∧ KeepBut w w' g none := by
  have HI0 := Aside0.mk hI
  have HK := Aside0.mk (KeepBut.refl w g none)
  have HL := Aside0.mk hB.size
  clear hI
  have HW0 := Aside0.mk hB.size
  have HB := Aside0.mk hB
  clear hB
  have H : ((some (([2, 12, 576] : List Int) : List Int)).bind fun y226 => (if 0 ≤ (wrap64 (a1 - 2)) then (if (wrap64 (a1 - 2)) < (y226.length : Int) then ((spec_l20Rd_pick.f k s0_0 s0_1 256).bind fun bt230 => ((spec_l20Rd_pick.f k s0_0 bt230.2 3).bind fun bt232 => (if (rd y226 (wrap64 (a1 - 2))) = 0 then (none) else ((spec_SquareNumber.f k a1 (Int.tmod (wrap64 ((wrap64 (bt230.1 * 3)) + bt232.1)) (rd y226 (wrap64 (a1 - 2))))).bind fun t234 => (some (t234, bt232.2)))))) else (none)) else (none))) = some (r1, r2) := h
  clear h
  obtain ⟨y226, hy226⟩ : ∃ y_ : List Int, y_ = (([2, 12, 576] : List Int)) := ⟨_, rfl⟩
  replace H : (if 0 ≤ (wrap64 (a1 - 2)) then (if (wrap64 (a1 - 2)) < (y226.length : Int) then ((spec_l20Rd_pick.f k s0_0 s0_1 256).bind fun bt230 => ((spec_l20Rd_pick.f k s0_0 bt230.2 3).bind fun bt232 => (if (rd y226 (wrap64 (a1 - 2))) = 0 then (none) else ((spec_SquareNumber.f k a1 (Int.tmod (wrap64 ((wrap64 (bt230.1 * 3)) + bt232.1)) (rd y226 (wrap64 (a1 - 2))))).bind fun t234 => (some (t234, bt232.2)))))) else (none)) else (none)) = some (r1, r2) := by first | (rw [hy226]; with_reducible exact H) | (have H2_ := (Option.bind_some _ _).symm.trans H; rw [hy226]; with_reducible exact H2_) | (have H2_ := (Option.bind_some _ _).symm.trans H; with_reducible exact H2_) | with_reducible exact H | (rw [hy226]; exact H) | exact H
  have Ny226 := Aside0.mk hy226
  clear hy226
  obtain ⟨ji3, hji3⟩ : ∃ j_ : Int, (wrap64 (a1 - 2)) = j_ := ⟨_, rfl⟩
  replace H : (if 0 ≤ (ji3) then (if (ji3) < (y226.length : Int) then ((spec_l20Rd_pick.f k s0_0 s0_1 256).bind fun bt230 => ((spec_l20Rd_pick.f k s0_0 bt230.2 3).bind fun bt232 => (if (rd y226 (ji3)) = 0 then (none) else ((spec_SquareNumber.f k a1 (Int.tmod (wrap64 ((wrap64 (bt230.1 * 3)) + bt232.1)) (rd y226 (ji3)))).bind fun t234 => (some (t234, bt232.2)))))) else (none)) else (none)) = some (r1, r2) := by first | (rw [hji3] at H; exact H) | (simp only [hji3] at H ⊢; exact H)
  have hji3w : (IntKind.i64.wrap (a1 - 2)) = ji3 := (i64_w _).trans hji3
  by_cases c4 : 0 ≤ (ji3)
  · rw [if_pos c4] at H
    have c4b0 : decide (0 ≤ (ji3)) = true := decide_eq_true c4
    clear c4
    by_cases c5 : (ji3) < (y226.length : Int)
    · rw [if_pos c5] at H
      have c5b0 : decide ((ji3) < (y226.length : Int)) = true := decide_eq_true c5
      clear c5
      replace H := Option.bind_eq_some_iff.mp H
      obtain ⟨⟨t230, t231⟩, A60, H⟩ := H
      replace H : ((spec_l20Rd_pick.f k s0_0 t231 3).bind fun bt232 => (if (rd y226 (ji3)) = 0 then (none) else ((spec_SquareNumber.f k a1 (Int.tmod (wrap64 ((wrap64 (t230 * 3)) + bt232.1)) (rd y226 (ji3)))).bind fun t234 => (some (t234, bt232.2))))) = some (r1, r2) := H
      have A6 := Aside0.mk A60
      clear A60
      replace H := Option.bind_eq_some_iff.mp H
      obtain ⟨⟨t232, t233⟩, A70, H⟩ := H
      replace H : (if (rd y226 (ji3)) = 0 then (none) else ((spec_SquareNumber.f k a1 (Int.tmod (wrap64 ((wrap64 (t230 * 3)) + t232)) (rd y226 (ji3)))).bind fun t234 => (some (t234, t233)))) = some (r1, r2) := H
      have A7 := Aside0.mk A70
      clear A70
      by_cases c8 : (rd y226 (ji3)) = 0
      · rw [if_pos c8] at H
        exact absurd H (by simp)
      · rw [if_neg c8] at H
        have c8b0 : ((rd y226 (ji3)) == 0) = false := beq_eq_false_iff_ne.mpr c8
        have c8b1 : ((rd y226 (ji3)) != 0) = true := bne_iff_ne.mpr c8
        replace H := Option.bind_eq_some_iff.mp H
        obtain ⟨t234, A90, H⟩ := H
        replace H : (some (t234, t233)) = some (r1, r2) := H
        have A9 := Aside0.mk A90
        clear A90
        simp only [Option.some.injEq, Prod.mk.injEq] at H
        obtain ⟨rfl, rfl⟩ := H
        go_enter Try.func62, Try.ntmps62
        go_wp2_with (first | ((with_reducible refine gate_dst (N := 6) rfl ?_); refine Kd.R_lit (Kd.int .i64) _ 3 ?hg (N := 6) ?hd (xs := ([2, 12, 576] : List Int)) (inner := [.int .i64 2, .int .i64 12, .int .i64 576]) (ok := fun _ => True) (okp := fun _ => True) ?hr ?hp (fun _ hk => hk) trivial (Below.refl _ _) (Nat.le_refl _) (by simp) ?_; (case hd => rfl); (case hg => rfl); (case hr => first | (go_simp; done) | (go_simp; rfl)); (case hp => exact (Reps.one (show Kd.M (Kd.int .i64) _ _ _ 2 [.int .i64 2] from rfl) (Reps.one (show Kd.M (Kd.int .i64) _ _ _ 12 [.int .i64 12] from rfl) (Reps.one (show Kd.M (Kd.int .i64) _ _ _ 576 [.int .i64 576] from rfl) (Reps.none _ _))))); intro v227 w10 ho11 hb hg_ hnew_; clear hg_ hnew_; (first | rw [← Ny226.out] at ho11 | (simp only [Int.reduceToNat] at ho11; rw [← Ny226.out] at ho11)); have n0_ := Aside0.mk (Kd.R_lower ho11 (keep_size (w := w) (g := g) (row := none) (by repeat (first | (with_reducible first | exact HK.out | apply KeepBut.set_ | apply keep_drewN | apply keep_drew | apply keep_alloc) | exact HK.out)))); have n1_ := Aside0.mk (IsS56.below (by repeat (first | (with_reducible first | exact HI0.out | apply IsS56.alloc | apply IsS56.drewN | apply IsS56.drew | apply IsS56.set_1) | exact HI0.out)) hb); have n2_ := Aside0.mk (KeepBut.trans (by repeat (first | (with_reducible first | exact HK.out | apply KeepBut.set_ | apply keep_drewN | apply keep_drew | apply keep_alloc) | exact HK.out)) (KeepBut.of_below hb g none) (.inl rfl)); have n3_ := Aside0.mk (below_step (by repeat (first | (with_reducible first | exact HB.out | apply below_alloc | apply pw_below_drewN | apply below_drew1 | refine below_set ?_ (IsS56.ge HI0.out)) | exact HB.out)) hb); clear HI0; clear HK; clear HB; have HO228 := n0_; have HI0 := n1_; have HK := n2_; have HB := n3_; clear n0_ n1_ n2_ n3_; clear hb ho11; obtain ⟨Ao12, co12, eo12⟩ := Kd.R_slice HO228.out; subst eo12; have p229 : 0 ≤ ((ji3) : Int) := of_decide_eq_true (by first | (with_reducible assumption) | assumption); have q229 : (ji3) < (y226.length : Int) := of_decide_eq_true (by first | (with_reducible assumption) | assumption); obtain ⟨ad229, e229, hx229_0⟩ := Kd.at_int (Kd.R_reads' HO228.out).2.2 (ji3) p229 q229; cases e229; replace p229 := eq_true p229; replace q229 := eq_true q229) | ((with_reducible refine gate_callee (f := 52) rfl ?_); refine goesL_ (some 13) rfl rfl Try.func52 (by kernel_rfl) rfl #[.pointer (some ⟨g, 0, none⟩), .int .i64 256] rfl (by (try simp only [List.map_toArray, List.map_cons, List.map_nil]); first | done | rfl | (simp only [List.length_drop, List.length_take]; rfl)) ?_; (with_reducible refine (spec_l20Rd_pick.calls k g s0_0 s0_1 256 t230 t231 w0 _ ?side1 ?side2 A6.out).mono ?_); (case side1 => repeat (first | (with_reducible first | exact HI0.out | apply IsS56.alloc | apply IsS56.drewN | apply IsS56.drew | apply IsS56.set_1) | exact HI0.out)); (case side2 => repeat (first | (with_reducible first | exact HB.out | apply below_alloc | apply pw_below_drewN | apply below_drew1 | refine below_set ?_ (IsS56.ge HI0.out)) | exact HB.out)); rintro e w13 ⟨rfl, hi, hb, hk⟩; refine ⟨_, rfl, ?_⟩; have n0_ := Aside0.mk (Kd.R_mono (Kd.R_keep (IsS56.apart (show IsS56 w0 _ g s0_0 s0_1 from by repeat (first | (with_reducible first | exact HI0.out | apply IsS56.alloc | apply IsS56.drewN | apply IsS56.drew | apply IsS56.set_1) | exact HI0.out)) (by (with_reducible repeat (first | apply Kd.R_alloc | apply Kd.R_drewN | apply Kd.R_drew)); exact HO228.out) (by decide)) hk (fun _ h => h.2)) (fun _ h => h.1)); have n1_ := Aside0.mk (KeepBut.trans (by repeat (first | (with_reducible first | exact HK.out | apply KeepBut.set_ | apply keep_drewN | apply keep_drew | apply keep_alloc) | exact HK.out)) hk (.inl rfl)); have n2_ := Aside0.mk (hb); have n3_ := Aside0.mk (hi); clear HO228; clear HK; clear HB; clear HI0; have HO228 := n0_; have HK := n1_; have HB := n2_; have HI0 := n3_; clear n0_ n1_ n2_ n3_; (try clear hb); (try clear hb2); (try clear hk); (try clear hi)) | ((with_reducible refine gate_callee (f := 52) rfl ?_); refine goesL_ (some 16) rfl rfl Try.func52 (by kernel_rfl) rfl #[.pointer (some ⟨g, 0, none⟩), .int .i64 3] rfl (by (try simp only [List.map_toArray, List.map_cons, List.map_nil]); first | done | rfl | (simp only [List.length_drop, List.length_take]; rfl)) ?_; (with_reducible refine (spec_l20Rd_pick.calls k g s0_0 t231 3 t232 t233 w0 _ ?side1 ?side2 A7.out).mono ?_); (case side1 => repeat (first | (with_reducible first | exact HI0.out | apply IsS56.alloc | apply IsS56.drewN | apply IsS56.drew | apply IsS56.set_1) | exact HI0.out)); (case side2 => repeat (first | (with_reducible first | exact HB.out | apply below_alloc | apply pw_below_drewN | apply below_drew1 | refine below_set ?_ (IsS56.ge HI0.out)) | exact HB.out)); rintro e w14 ⟨rfl, hi, hb, hk⟩; refine ⟨_, rfl, ?_⟩; have n0_ := Aside0.mk (Kd.R_mono (Kd.R_keep (IsS56.apart (show IsS56 w0 _ g s0_0 t231 from by repeat (first | (with_reducible first | exact HI0.out | apply IsS56.alloc | apply IsS56.drewN | apply IsS56.drew | apply IsS56.set_1) | exact HI0.out)) (by (with_reducible repeat (first | apply Kd.R_alloc | apply Kd.R_drewN | apply Kd.R_drew)); exact HO228.out) (by decide)) hk (fun _ h => h.2)) (fun _ h => h.1)); have n1_ := Aside0.mk (KeepBut.trans (by repeat (first | (with_reducible first | exact HK.out | apply KeepBut.set_ | apply keep_drewN | apply keep_drew | apply keep_alloc) | exact HK.out)) hk (.inl rfl)); have n2_ := Aside0.mk (hb); have n3_ := Aside0.mk (hi); clear HO228; clear HK; clear HB; clear HI0; have HO228 := n0_; have HK := n1_; have HB := n2_; have HI0 := n3_; clear n0_ n1_ n2_ n3_; (try clear hb); (try clear hb2); (try clear hk); (try clear hi)) | ((with_reducible refine gate_callee (f := 65) rfl ?_); refine goesL_ (some 20) rfl rfl Try.func65 (by kernel_rfl) rfl #[.int .i64 a1, .int .i64 (Int.tmod (wrap64 ((wrap64 (t230 * 3)) + t232)) (rd y226 (ji3)))] rfl (by (try simp only [List.map_toArray, List.map_cons, List.map_nil]); first | done | (simp only [hji3]; rfl) | rfl | (simp only [List.length_drop, List.length_take]; rfl)) ?_; (with_reducible refine (spec_SquareNumber.calls k a1 (Int.tmod (wrap64 ((wrap64 (t230 * 3)) + t232)) (rd y226 (ji3))) t234 _ A9.out).mono ?_); rintro e w15 ⟨v235, rfl, ho0, hb⟩; refine ⟨_, rfl, ?_⟩; have n0_ := Aside0.mk (Kd.R_elder' (by (with_reducible repeat (first | apply Kd.R_alloc | apply Kd.R_drewN | apply Kd.R_drew)); exact HO228.out) (Kd.R_base ho0) hb); have n1_ := Aside0.mk (Kd.R_lower (Kd.R_new' ho0 (Kd.R_lt (by (with_reducible repeat (first | apply Kd.R_alloc | apply Kd.R_drewN | apply Kd.R_drew)); exact HO228.out))) (keep_size (w := w) (g := g) (row := none) (by repeat (first | (with_reducible first | exact HK.out | apply KeepBut.set_ | apply keep_drewN | apply keep_drew | apply keep_alloc) | exact HK.out)))); have n2_ := Aside0.mk (IsS56.below (by repeat (first | (with_reducible first | exact HI0.out | apply IsS56.alloc | apply IsS56.drewN | apply IsS56.drew | apply IsS56.set_1) | exact HI0.out)) hb); have n3_ := Aside0.mk (KeepBut.trans (by repeat (first | (with_reducible first | exact HK.out | apply KeepBut.set_ | apply keep_drewN | apply keep_drew | apply keep_alloc) | exact HK.out)) (KeepBut.of_below hb g none) (.inl rfl)); have n4_ := Aside0.mk (below_step (by repeat (first | (with_reducible first | exact HB.out | apply below_alloc | apply pw_below_drewN | apply below_drew1 | refine below_set ?_ (IsS56.ge HI0.out)) | exact HB.out)) hb); clear HO228; clear HI0; clear HK; clear HB; have HO228 := n0_; have HO236 := n1_; have HI0 := n2_; have HK := n3_; have HB := n4_; clear n0_ n1_ n2_ n3_ n4_; (try clear hb); (try clear hb2); (try clear hk); (try clear hi); (try clear ho0)))
        go_ret
        exact ⟨_, by first | rfl | (simp [errW_none, errW_some] <;> rfl) | (simp only [← hji3]; first | rfl | (simp [errW_none, errW_some] <;> rfl)) | (simp [*, errW_none, errW_some] <;> rfl), by (with_reducible repeat (first | apply Kd.R_alloc | apply Kd.R_drewN | apply Kd.R_drew)); exact Kd.R_mono HO236.out (fun _ hk => trivial), by repeat (first | (with_reducible first | exact HI0.out | apply IsS56.alloc | apply IsS56.drewN | apply IsS56.drew | apply IsS56.set_1) | exact HI0.out), by repeat (first | (with_reducible first | exact HB.out | apply below_alloc | apply pw_below_drewN | apply below_drew1 | refine below_set ?_ (IsS56.ge HI0.out)) | exact HB.out), by repeat (first | (with_reducible first | exact HK.out | apply KeepBut.set_ | apply keep_drewN | apply keep_drew | apply keep_alloc) | exact HK.out)⟩
    · rw [if_neg c5] at H
      exact absurd H (by simp)
  · rw [if_neg c4] at H
    exact absurd H (by simp)

end Go.Proofs.Ytnocdmclcdfppaa.P
