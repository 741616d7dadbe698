/- What l3Mask and spec.CandidatesOf come to. Conditions: as stated in each. -/
import Derived.Test.YtaglakdahmepeaaWWords
import Derived.Test.YtaglakdahmepeaaWMore
import Derived.Test.YtaglakdahmepeaaP1
import Derived.Test.YtaglakdahmepeaaP12
import Derived.Test.YtaglakdahmepeaaP13
import Derived.Test.YtaglakdahmepeaaBase
import Derived.Test.YtaglakdahmepeaaCandA
import Derived.Test.YtaglakdahmepeaaGridV
import Derived.Test.YtaglakdahmepeaaLines
import Derived.Test.YtaglakdahmepeaaMHave
import Derived.Test.YtaglakdahmepeaaModel
namespace Go.Proofs.Ytaglakdahmepeaa.Pure
set_option linter.unusedSimpArgs false
set_option linter.unusedVariables false
open Go.RowKit Go.Proofs.YtaglakdahmepeaaW.PrintWords Go.Proofs.YtaglakdahmepeaaW.PrintMore Go.Proofs.Ytaglakdahmepeaa.P

set_option maxHeartbeats 1000000 in
theorem l3Mask_ev {g : List Int} {s : Int} (hg : gridB g s = true) {i : Nat} (hi : i < g.length) : Ev (fun k => spec_l3Mask.f k g s (i : Int)) (candCell g s.toNat i) := by
  unfold spec_l3Mask.f candCell
  obtain ⟨hn, hsn⟩ := size_or (gridB_size hg)
  have hlen := grid_len hg
  generalize hN : s.toNat = n at *
  have h0 : (0 : Int) ≤ (i : Int) := by omega
  have h1 : (i : Int) < (g.length : Int) := by omega
  have hv := val_le hg (rd_mem h0 h1)
  simp only [h0, h1, if_true]
  by_cases hp : 0 < rd g (i : Int)
  · have hp' : rd g (i : Int) > 0 := hp
    simp only [hp, hp', if_true, hv.1, shl1 hv]
    exact Ev.now _
  · have hp' : ¬ rd g (i : Int) > 0 := hp
    have hz : rd g (i : Int) = 0 := by omega
    simp only [hp, hp', if_false]
    have := Ev.range (L := fun k (x : Int) j => spec_l3Mask.l0 k g s (i : Int) x (j + 1)) (R := fun _ _ => maskUpto (fun v => freeB g n i v n) n) (N := n) (fun x m => x = maskUpto (fun v => freeB g n i v n) m) ?_ ?_ 0 0 (Nat.zero_le _) rfl
    · simpa using this
    · rintro x rfl
      refine Ev.step (fun k => spec_l3Mask.l0.eq_2 _ _ _ _ _ k) ?_
      have h2 : ¬ (n : Int) + 1 ≤ s := by omega
      simp only [h2, if_false]
      exact Ev.now _
    · rintro x m hm rfl ih
      refine Ev.step (fun k => spec_l3Mask.l0.eq_2 _ _ _ _ _ k) ?_
      have h2 : (m : Int) + 1 ≤ s := by omega
      simp only [h2, if_true]
      have hmn : m < 4 := by omega
      have hfin : Ev (fun k => if freeB g n i ((m : Int) + 1) n = true then (if 0 ≤ (m : Int) + 1 then (spec_l3Mask.l0 k g s (i : Int) (Go.bits .or .i64 (maskUpto (fun v => freeB g n i v n) m) (shl .i64 1 ((m : Int) + 1))) (wrap64 ((m : Int) + 1 + 1))) else (none)) else (spec_l3Mask.l0 k g s (i : Int) (maskUpto (fun v => freeB g n i v n) m) (wrap64 ((m : Int) + 1 + 1)))) (maskUpto (fun v => freeB g n i v n) n) := by
        have hw : wrap64 ((m : Int) + 1 + 1) = ((m + 1 : Nat) : Int) + 1 := by unfold wrap64; omega
        have h3 : (0 : Int) ≤ (m : Int) + 1 := Int.le_add_one (Int.natCast_nonneg m)
        by_cases hb : freeB g n i ((m : Int) + 1) n = true
        · simp only [hb, if_true, h3, hw]
          refine ih _ ?_
          exact maskUpto_or (p := fun v => freeB g n i v n) (hmn) hb
        · simp only [hb, if_false, hw, Bool.false_eq_true]
          refine ih _ ?_
          rw [maskUpto, if_neg hb, Int.add_zero]
      have := Ev.range (L := fun k (b : Bool) j => spec_l3Mask.l1 k g s (i : Int) (maskUpto (fun v => freeB g n i v n) m) ((m : Int) + 1) b j) (R := fun _ _ => maskUpto (fun v => freeB g n i v n) n) (N := n) (fun b j => b = freeB g n i ((m : Int) + 1) j) ?_ ?_ true 0 (Nat.zero_le _) rfl
      · simpa using this
      · rintro b rfl
        refine Ev.step (fun k => spec_l3Mask.l1.eq_2 _ _ _ _ _ _ _ k) ?_
        have h4 : ¬ (n : Int) < s := by omega
        simp only [h4, if_false]
        exact hfin
      · rintro b j hj rfl ihj
        refine Ev.step (fun k => spec_l3Mask.l1.eq_2 _ _ _ _ _ _ _ k) ?_
        have h4 : (j : Int) < s := by omega
        have h5 : ¬ s = 0 := by omega
        have hrow := row_idx hn (by omega : i < n * n) hj
        have hcol := col_idx hn (by omega : i < n * n) hj
        rw [← hsn] at hrow hcol
        obtain ⟨hr1, hc1⟩ := rowcol_lt hn (by omega : i < n * n) hj
        have hr2 : ((rowCell n i j : Nat) : Int) < (g.length : Int) := by omega
        have hc2 : ((colCell n i j : Nat) : Int) < (g.length : Int) := by omega
        have hr0 : (0 : Int) ≤ ((rowCell n i j : Nat) : Int) := Int.natCast_nonneg _
        have hc0 : (0 : Int) ≤ ((colCell n i j : Nat) : Int) := Int.natCast_nonneg _
        simp only [h4, h5, if_true, if_false, hrow, hcol, hr0, hc0, hr2, hc2, w64n (by omega : j < 9000000000000000000)]
        have hgo : ∀ b, b = freeB g n i ((m : Int) + 1) (j + 1) → Ev (fun k => spec_l3Mask.l1 k g s (i : Int) (maskUpto (fun v => freeB g n i v n) m) ((m : Int) + 1) b ((j + 1 : Nat) : Int)) (maskUpto (fun v => freeB g n i v n) n) := fun b hb => ihj b hb
        by_cases hb : freeB g n i ((m : Int) + 1) j = true
        · have hcell : ∀ c : Nat, (c : Int) = (i : Int) → decide (rd g (c : Int) ≠ (m : Int) + 1) = true := by
            intro c hc; rw [hc, hz]; exact decide_eq_true (by omega)
          have hcolv : ∀ b, b = decide (rd g ((colCell n i j : Nat) : Int) ≠ (m : Int) + 1) → decide (rd g ((rowCell n i j : Nat) : Int) ≠ (m : Int) + 1) = true → Ev (fun k => spec_l3Mask.l1 k g s (i : Int) (maskUpto (fun v => freeB g n i v n) m) ((m : Int) + 1) b ((j + 1 : Nat) : Int)) (maskUpto (fun v => freeB g n i v n) n) := by
            intro b hb2 hr
            exact hgo b (by rw [freeB, hb, hr, hb2]; rfl)
          have hne : (rd g ((colCell n i j : Nat) : Int) != (m : Int) + 1) = decide (rd g ((colCell n i j : Nat) : Int) ≠ (m : Int) + 1) := by
            by_cases hx : rd g ((colCell n i j : Nat) : Int) = (m : Int) + 1 <;> simp [hx]
          simp only [hb, if_true]
          by_cases hri : ((rowCell n i j : Nat) : Int) = (i : Int)
          · simp only [hri, if_true]
            by_cases hci : ((colCell n i j : Nat) : Int) = (i : Int)
            · simp only [hci, if_true]
              exact hcolv true (hcell _ hci).symm (hcell _ hri)
            · simp only [hci, if_false]
              exact hcolv _ hne (hcell _ hri)
          · simp only [hri, if_false]
            by_cases hrv : rd g ((rowCell n i j : Nat) : Int) = (m : Int) + 1
            · simp only [hrv, if_true]
              exact hgo false (by rw [freeB, hrv]; simp)
            · simp only [hrv, if_false]
              by_cases hci : ((colCell n i j : Nat) : Int) = (i : Int)
              · simp only [hci, if_true]
                exact hcolv true (hcell _ hci).symm (decide_eq_true hrv)
              · simp only [hci, if_false]
                exact hcolv _ hne (decide_eq_true hrv)
        · simp only [hb, if_false, Bool.false_eq_true]
          refine hgo false ?_
          rw [freeB, eq_false_of_ne_true hb]; rfl
theorem specCandidates_ev (g : List Int) (s : Int) (h : g.length ≤ 35184372088832) : Ev (fun k => spec_CandidatesOf.f k g s) (candidates g s) := by
  unfold spec_CandidatesOf.f candidates
  by_cases hg : gridB g s = true
  · simp only [hg, if_true]
    have := Ev.range (L := fun k (x : List Int) i => spec_CandidatesOf.l0 k g s x i) (R := fun _ _ => (List.range g.length).map (fun i => candCell g s.toNat i)) (N := g.length) (fun x n => x = (List.range n).map (fun i => candCell g s.toNat i)) ?_ ?_ [] 0 (Nat.zero_le _) rfl
    · simpa using this
    · rintro x rfl
      refine Ev.step (fun k => spec_CandidatesOf.l0.eq_2 _ _ _ _ k) ?_
      simp only [Int.lt_irrefl, if_false]
      exact Ev.now _
    · rintro x n hn rfl ih
      refine Ev.step (fun k => spec_CandidatesOf.l0.eq_2 _ _ _ _ k) ?_
      have h1 : (n : Int) < (g.length : Int) := by omega
      simp only [h1, if_true]
      refine Ev.bind (specGridValid_ev g s h) ?_
      simp only [hg, if_true]
      refine Ev.bind (l3Mask_ev hg hn) ?_
      have hlen : ((List.range n).map (fun i => candCell g s.toNat i)).length < 17592186044416 := by
        rw [List.length_map, List.length_range]; have := gridB_le hg; omega
      simp only [hlen, if_true, w64n (by omega : n < 9000000000000000000)]
      refine ih _ ?_
      rw [List.range_succ, List.map_append, List.map_singleton]
  · simp only [hg, if_false, Bool.false_eq_true]
    refine Ev.step (fun k => spec_CandidatesOf.l0.eq_2 _ _ _ _ k) ?_
    by_cases h1 : (0 : Int) < (g.length : Int)
    · simp only [h1, if_true]
      refine Ev.bind (specGridValid_ev g s h) ?_
      simp only [hg, if_false, Bool.false_eq_true]
      exact Ev.now _
    · simp only [h1, if_false]
      exact Ev.now _

end Go.Proofs.Ytaglakdahmepeaa.Pure
