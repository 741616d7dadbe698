/- The machine's side of laws of this seat: each Go function as a plain Lean function and the proof that the machine's call does what that function says; written by this session's own program over the kit's print. -/
import Derived.Test.YtnocdmclcdfppaaP0
import Derived.Test.YtnocdmclcdfppaaP6
import Derived.Test.YtnocdmclcdfppaaP10
namespace Go.Proofs.Ytnocdmclcdfppaa.P
open Go.RowKit Go.Proofs.YtnocdmclcdfppaaW.PrintWords Go.Proofs.YtnocdmclcdfppaaW.PrintLast Go.Proofs.YtnocdmclcdfppaaW.PrintMore
attribute [local go_sem] max2_int min2_int max_two min_two max_three min_three max_four min_four   -- for this text's walks alone
set_option linter.unusedVariables false
set_option linter.unusedSimpArgs false

/-! ### impl_SquareFits: function 37 -/
mutual
def impl_SquareFits.l0 : Nat → List Int → Int → Int → Option (Bool)
  | 0, _, _, _ => none
  | k + 1, x0, x1, x15 => if x15 < (wrap64 (2 * x1)) then ((impl_LineCells.f k x1 x15).bind fun t => (impl_SquareFits.l1 k x0 x1 x15 t [false, false, false, false, false] 0)) else (some true)
def impl_SquareFits.l1 : Nat → List Int → Int → Int → List Int → List Bool → Int → Option (Bool)
  | 0, _, _, _, _, _, _ => none
  | k + 1, x0, x1, x15, x21, x6, x23 => if x23 < (x21.length : Int) then (if 0 ≤ x23 then (if 0 ≤ (rd x21 x23) then (if (rd x21 x23) < (x0.length : Int) then (if 0 ≤ (rd x0 (rd x21 x23)) then (if (rd x0 (rd x21 x23)) < (x6.length : Int) then (if (rd x0 (rd x21 x23)) > 0 then (if (rdOf false x6 (rd x0 (rd x21 x23))) = true then (some false) else (impl_SquareFits.l1 k x0 x1 x15 x21 (x6.set (rd x0 (rd x21 x23)).toNat true) (wrap64 (x23 + 1)))) else (impl_SquareFits.l1 k x0 x1 x15 x21 (x6.set (rd x0 (rd x21 x23)).toNat true) (wrap64 (x23 + 1)))) else (none)) else (none)) else (none)) else (none)) else (none)) else (impl_SquareFits.l0 k x0 x1 (wrap64 (x15 + 1)))
end
def impl_SquareFits.f (k : Nat) (l0 : List Int) (a1 : Int) : Option (Bool) := (impl_GridValid.f k l0 a1).bind fun t => (if t = true then (impl_SquareFits.l0 k l0 a1 0) else (some false))
theorem impl_SquareFits.mono_l : ∀ k, (∀ y0 y1 y2, LeO (impl_SquareFits.l0 k y0 y1 y2) (impl_SquareFits.l0 (k + 1) y0 y1 y2)) ∧ (∀ y0 y1 y2 y3 y4 y5, LeO (impl_SquareFits.l1 k y0 y1 y2 y3 y4 y5) (impl_SquareFits.l1 (k + 1) y0 y1 y2 y3 y4 y5))
  | 0 => ⟨fun _ _ _ r h => by simp [impl_SquareFits.l0] at h, fun _ _ _ _ _ _ r h => by simp [impl_SquareFits.l1] at h⟩
  | k + 1 => by
    obtain ⟨ih0, ih1⟩ := impl_SquareFits.mono_l k
    refine ⟨?_, ?_⟩
    · intro y0 y1 y2
      unfold impl_SquareFits.l0
      repeat' first
      | (with_reducible exact ih0 _ _ _)
      | (with_reducible exact ih1 _ _ _ _ _ _)
      | (with_reducible exact impl_LineCells.mono _ _ _)
      | (with_reducible exact LeO.refl _)
      | (with_reducible exact LeO.none _)
      | (with_reducible refine LeO.ite ?_ ?_)
      | (with_reducible refine LeO.bind ?_ (fun _ => ?_))
      | exact ih0 _ _ _
      | exact ih1 _ _ _ _ _ _
    · intro y0 y1 y2 y3 y4 y5
      unfold impl_SquareFits.l1
      repeat' first
      | (with_reducible exact ih0 _ _ _)
      | (with_reducible exact ih1 _ _ _ _ _ _)
      | (with_reducible exact LeO.refl _)
      | (with_reducible exact LeO.none _)
      | (with_reducible refine LeO.ite ?_ ?_)
      | exact ih0 _ _ _
      | exact ih1 _ _ _ _ _ _
theorem impl_SquareFits.mono : ∀ a0 a1 k, LeO (impl_SquareFits.f k a0 a1) (impl_SquareFits.f (k + 1) a0 a1) := by
  intro a0 a1 k
  unfold impl_SquareFits.f
  repeat' first
      | (with_reducible exact (impl_SquareFits.mono_l k).1 _ _ _)
      | (with_reducible exact impl_GridValid.mono _ _ _)
      | (with_reducible exact LeO.refl _)
      | (with_reducible refine LeO.ite ?_ ?_)
      | (with_reducible refine LeO.bind ?_ (fun _ => ?_))
set_option maxHeartbeats 8000000 in
set_option maxRecDepth 100000 in
theorem impl_SquareFits.calls (k : Nat) (A0 : Option Addr) (c0 : Nat) (l0 : List Int) (a1 : Int) (r : Bool) (w : World) (hr0 : Kd.C (Kd.int .i64) w A0 l0.length l0) (hc0 : l0.length ≤ c0) (h : impl_SquareFits.f k l0 a1 = some r) :
    Calls Try.prog 37 #[.slice A0 l0.length c0, .int .i64 a1] w fun e w' => e = .returned (.bool r) ∧ Below w.heap.size w w' := by
  have HR0 := Aside0.mk hr0
  have HC0 := Aside0.mk hc0
  clear hr0 hc0
  have HB := Aside0.mk (Below.refl w.heap.size w)
  have H : ((impl_GridValid.f k l0 a1).bind fun t => (if t = true then (impl_SquareFits.l0 k l0 a1 0) else (some false))) = some r := h
  clear h
  replace H := Option.bind_eq_some_iff.mp H
  obtain ⟨t1, A10, H⟩ := H
  replace H : (if t1 = true then (impl_SquareFits.l0 k l0 a1 0) else (some false)) = some r := H
  have A1 := Aside0.mk A10
  clear A10
  by_cases c1 : t1 = true
  · subst c1
    rw [if_pos rfl] at H
    have H' := Aside0.mk H
    clear H
    go_enter Try.func37, Try.ntmps37
    go_wp2_with (first | (go_at_call 25; (with_reducible refine (impl_GridValid.calls k _ _ l0 a1 true _ HR0.out HC0.out A1.out).mono ?_); rintro e w' ⟨rfl, ⟨nd, rfl⟩⟩))
    go_loopg [5, 15] k (fun kq v5 v15 w' => ∃ (x15 : Int), v15 = .int .i64 x15 ∧ Aside0 (impl_SquareFits.l0 kq l0 a1 x15 = some r) ∧ Aside0 (kq ≤ k) ∧ Aside0 (Below w.heap.size w w'))
    case atStart => exact ⟨0, rfl, H', ⟨Nat.le_refl _⟩, ⟨by repeat (first | (with_reducible first | exact HB.out | apply below_alloc | apply pw_below_drewN | apply below_drew1) | exact HB.out)⟩⟩
    case round =>
      clear H' HB
      obtain ⟨x15, rfl, HA, HK1, HB⟩ := hrel
      cases gk with
      | zero => exact absurd HA.out (by simp [impl_SquareFits.l0])
      | succ k1 =>
        have H := HA.out
        clear HA
        simp only [impl_SquareFits.l0] at H
        by_cases c3 : x15 < (wrap64 (2 * a1))
        · rw [if_pos c3] at H
          have c3b0 : decide (x15 < (wrap64 (2 * a1))) = true := decide_eq_true c3
          clear c3
          replace H := Option.bind_eq_some_iff.mp H
          obtain ⟨t4, A40, H⟩ := H
          replace H : (impl_SquareFits.l1 k1 l0 a1 x15 t4 [false, false, false, false, false] 0) = some r := H
          have A4 := Aside0.mk A40
          clear A40
          have H' := Aside0.mk H
          clear H
          have hsz := HB.out.size
          have HG := Aside0.mk hsz
          clear hsz
          obtain ⟨wo, rfl⟩ : ∃ wo : World, wo = wr := ⟨_, rfl⟩
          have HO6 := Aside0.mk (arr5_new wo w.heap.size HG.out 50)
          have HB2 := Aside0.mk (below_alloc HB.out (.cells #[.bool false, .bool false, .bool false, .bool false, .bool false] 50))
          go_wp2_with (first | ((with_reducible refine gate_callee (f := 16) rfl ?_); refine goesL_ (some 21) rfl rfl Try.func16 (by kernel_rfl) rfl #[.int .i64 a1, .int .i64 x15] rfl (by (try simp only [List.map_toArray, List.map_cons, List.map_nil]); first | done | rfl) ?_; (with_reducible refine (impl_LineCells.calls k1 a1 x15 t4 _ A4.out).mono ?_); rintro e w5 ⟨v116, rfl, ho0, hb⟩; refine ⟨_, rfl, ?_⟩; obtain ⟨Ao14, co14, eo14⟩ := Kd.R_slice ho0; subst eo14; have HO21 := Aside0.mk (show Kd.R (Kd.int .i64) 3 w5 w.heap.size (fun k_ => k_ ≠ wo.heap.size) (.slice Ao14 t4.length co14) t4 from Kd.R_lower (Kd.R_mono (Kd.R_bound ho0) (fun k_ hk_ => Nat.ne_of_gt (Nat.lt_of_lt_of_le (below_alloc_size wo _) hk_.2.1))) (below_size HB2.out)); have n2_ := Aside0.mk (Kd.R_below HO6.out hb); clear HO6; have HO6 := n2_; have n1_ := Aside0.mk (below_step HB2.out hb); clear HB HB2 n2_; have HB := n1_; clear n1_ hb ho0))
          go_loopg [8, 23] k1 (fun kq v8 v23 w' => ∃ (x6 : List Bool) (x23 : Int), v23 = .int .i64 x23 ∧ Aside0 (impl_SquareFits.l1 kq l0 a1 x15 t4 x6 x23 = some r) ∧ Aside0 (kq ≤ k1) ∧ Aside0 (Kd.R Kd.bool 50 w' w.heap.size (fun _ => True) (.slice (some ⟨wo.heap.size, 0, none⟩) x6.length 5) x6) ∧ Aside0 (x6.length = 5) ∧ Aside0 (Kd.R (Kd.int .i64) 3 w' w.heap.size (fun k_ => k_ ≠ wo.heap.size) (.slice Ao14 t4.length co14) t4) ∧ Aside0 (Below w.heap.size w w'))
          case atStart => exact ⟨_, 0, rfl, H', ⟨Nat.le_refl _⟩, HO6, ⟨rfl⟩, HO21, HB⟩
          case round =>
            clear H' HO6 HO21 HB
            obtain ⟨x6, x23, rfl, HA, HK2, HO6, HL6, HO21, HB⟩ := hrel
            cases gk with
            | zero => exact absurd HA.out (by simp [impl_SquareFits.l1])
            | succ k2 =>
              have H := HA.out
              clear HA
              simp only [impl_SquareFits.l1] at H
              by_cases c6 : x23 < (t4.length : Int)
              · rw [if_pos c6] at H
                have c6b0 : decide (x23 < (t4.length : Int)) = true := decide_eq_true c6
                clear c6
                by_cases c7 : 0 ≤ x23
                · rw [if_pos c7] at H
                  have c7b0 : decide (0 ≤ x23) = true := decide_eq_true c7
                  clear c7
                  by_cases c8 : 0 ≤ (rd t4 x23)
                  · rw [if_pos c8] at H
                    have c8b0 : decide (0 ≤ (rd t4 x23)) = true := decide_eq_true c8
                    clear c8
                    by_cases c9 : (rd t4 x23) < (l0.length : Int)
                    · rw [if_pos c9] at H
                      have c9b0 : decide ((rd t4 x23) < (l0.length : Int)) = true := decide_eq_true c9
                      clear c9
                      by_cases c10 : 0 ≤ (rd l0 (rd t4 x23))
                      · rw [if_pos c10] at H
                        have c10b0 : decide (0 ≤ (rd l0 (rd t4 x23))) = true := decide_eq_true c10
                        clear c10
                        by_cases c11 : (rd l0 (rd t4 x23)) < (x6.length : Int)
                        · rw [if_pos c11] at H
                          have p118 : 0 ≤ (x23 : Int) := of_decide_eq_true (by first | (with_reducible assumption) | assumption)
                          have q118 : x23 < (t4.length : Int) := of_decide_eq_true (by first | (with_reducible assumption) | assumption)
                          obtain ⟨ad118, e118, hx118_0⟩ := Kd.at_int (Kd.R_reads' HO21.out).2.2 x23 p118 q118
                          cases e118
                          replace p118 := eq_true p118
                          replace q118 := eq_true q118
                          have p119 : 0 ≤ ((rd t4 x23) : Int) := of_decide_eq_true (by first | (with_reducible assumption) | assumption)
                          have q119 : (rd t4 x23) < (l0.length : Int) := of_decide_eq_true (by first | (with_reducible assumption) | assumption)
                          obtain ⟨ad119, e119, hx119_0⟩ := Kd.at_int HR0.out (rd t4 x23) p119 q119
                          cases e119
                          replace hx119_0 := (HB.out.cell (World.block_lt_of_cell? w _ hx119_0)).trans hx119_0
                          replace p119 := eq_true p119
                          replace q119 := eq_true q119
                          have p120 : 0 ≤ (rd l0 (rd t4 x23)) := of_decide_eq_true (by first | (with_reducible assumption) | assumption)
                          have q120 : (rd l0 (rd t4 x23)) < 5 := by have := HL6.out; omega
                          obtain ⟨hc120, hf120⟩ := Kd.R_cell false HO6.out (rd l0 (rd t4 x23)) p120 c11
                          clear c11
                          have p121 := eq_true p120
                          have q121 := eq_true q120
                          have q122 : decide ((rd l0 (rd t4 x23)) < 5) = true := decide_eq_true q120
                          by_cases c12 : (rd l0 (rd t4 x23)) > 0
                          · rw [if_pos c12] at H
                            have c12b0 : decide (0 < (rd l0 (rd t4 x23))) = true := decide_eq_true c12
                            clear c12
                            by_cases c13 : rdOf false x6 (rd l0 (rd t4 x23)) = true
                            · rw [if_pos c13] at H
                              obtain rfl := Option.some.inj H
                              go_wp2
                              go_ret
                              exact ⟨rfl, HB.out⟩
                            · rw [if_neg c13] at H
                              have c13b0 : rdOf false x6 (rd l0 (rd t4 x23)) = false := eq_false_of_ne_true c13
                              clear c13
                              have H' := Aside0.mk H
                              clear H
                              go_wp2
                              go_roundg k2
                              case measure => have := HK1.out; have := HK2.out; omega
                              case rel =>
                                have hput := Kd.R_put HO6.out (rd l0 (rd t4 x23)) true
                                refine ⟨_, _, rfl, H', ⟨by have := HK1.out; have := HK2.out; omega⟩, ⟨?_⟩, ⟨by rw [List.length_set]; exact HL6.out⟩, ⟨Kd.R_grown HO21.out hput.2 (fun k_ hk_ e_ => hk_ (Option.some.inj e_))⟩, ⟨below_set HB.out HG.out⟩⟩
                                rw [List.length_set]
                                exact hput.1
                          · rw [if_neg c12] at H
                            have c12b0 : decide (0 < (rd l0 (rd t4 x23))) = false := decide_eq_false c12
                            clear c12
                            have H' := Aside0.mk H
                            clear H
                            go_wp2
                            go_roundg k2
                            case measure => have := HK1.out; have := HK2.out; omega
                            case rel =>
                              have hput := Kd.R_put HO6.out (rd l0 (rd t4 x23)) true
                              refine ⟨_, _, rfl, H', ⟨by have := HK1.out; have := HK2.out; omega⟩, ⟨?_⟩, ⟨by rw [List.length_set]; exact HL6.out⟩, ⟨Kd.R_grown HO21.out hput.2 (fun k_ hk_ e_ => hk_ (Option.some.inj e_))⟩, ⟨below_set HB.out HG.out⟩⟩
                              rw [List.length_set]
                              exact hput.1
                        · rw [if_neg c11] at H
                          exact absurd H (by simp)
                      · rw [if_neg c10] at H
                        exact absurd H (by simp)
                    · rw [if_neg c9] at H
                      exact absurd H (by simp)
                  · rw [if_neg c8] at H
                    exact absurd H (by simp)
                · rw [if_neg c7] at H
                  exact absurd H (by simp)
              · rw [if_neg c6] at H
                have c6b0 : decide (x23 < (t4.length : Int)) = false := decide_eq_false c6
                clear c6
                have H' := Aside0.mk H
                clear H
                go_wp2
                go_roundg k2
                case measure => have := HK1.out; have := HK2.out; omega
                case rel => exact ⟨(wrap64 (x15 + 1)), rfl, H', ⟨by have := HK1.out; have := HK2.out; omega⟩, HB⟩
        · rw [if_neg c3] at H
          have c3b0 : decide (x15 < (wrap64 (2 * a1))) = false := decide_eq_false c3
          clear c3
          obtain rfl := Option.some.inj H
          go_wp2
          go_ret
          exact ⟨rfl, HB.out⟩
  · rw [if_neg c1] at H
    obtain rfl := Option.some.inj H
    obtain rfl : t1 = false := eq_false_of_ne_true c1
    clear c1
    go_enter Try.func37, Try.ntmps37
    go_wp2_with (first | (go_at_call 25; (with_reducible refine (impl_GridValid.calls k _ _ l0 a1 false _ HR0.out HC0.out A1.out).mono ?_); rintro e w' ⟨rfl, ⟨nd, rfl⟩⟩))
    go_ret
    exact ⟨rfl, by repeat (first | (with_reducible first | exact HB.out | apply below_alloc | apply pw_below_drewN | apply below_drew1) | exact HB.out)⟩

end Go.Proofs.Ytnocdmclcdfppaa.P
