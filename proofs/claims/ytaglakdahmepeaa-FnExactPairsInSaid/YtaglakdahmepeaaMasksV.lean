/- What MasksValid comes to. Conditions: as stated in each. -/
import Derived.Test.YtaglakdahmepeaaWWords
import Derived.Test.YtaglakdahmepeaaWMore
import Derived.Test.YtaglakdahmepeaaP1
import Derived.Test.YtaglakdahmepeaaP3
import Derived.Test.YtaglakdahmepeaaP7
import Derived.Test.YtaglakdahmepeaaP8
import Derived.Test.YtaglakdahmepeaaP9
import Derived.Test.YtaglakdahmepeaaBase
import Derived.Test.YtaglakdahmepeaaBits
import Derived.Test.YtaglakdahmepeaaModel
import Derived.Test.YtaglakdahmepeaaSize
namespace Go.Proofs.Ytaglakdahmepeaa.Pure
set_option linter.unusedSimpArgs false
set_option linter.unusedVariables false
open Go.RowKit Go.Proofs.YtaglakdahmepeaaW.PrintWords Go.Proofs.YtaglakdahmepeaaW.PrintMore Go.Proofs.Ytaglakdahmepeaa.P

theorem specMasksValid_ev (g : List Int) (s : Int) (h : g.length ≤ 35184372088832) : Ev (fun k => spec_MasksValid.f k g s) (masksB g s) := by
  unfold spec_MasksValid.f
  obtain ⟨B, hB⟩ : ∃ B, wrap64 ((shl .i64 1 (wrap64 ((Go.bits .and .i64 s 7) + 1))) - 2) = B := ⟨_, rfl⟩
  have hBs : sizeOkB s = true → B = allM s := by
    intro hs; rw [← hB]; rcases sizeOkB_iff.1 hs with rfl | rfl | rfl <;> decide +kernel
  have h7 : (0 : Int) ≤ wrap64 ((Go.bits .and .i64 s 7) + 1) := by
    have := and7_range s
    rw [w64 (by omega) (by omega)]; omega
  have := Ev.range0 (L := fun k i => spec_MasksValid.l0 k g s i) (R := fun n => (g.drop n).all (fun v => decide (0 ≤ v ∧ v ≤ B ∧ v % 2 = 0)) && (sizeOkB s && decide ((g.length : Int) = s * s))) (N := g.length) ?_ ?_ 0 (Nat.zero_le _)
  · have e : masksB g s = ((g.drop 0).all (fun v => decide (0 ≤ v ∧ v ≤ B ∧ v % 2 = 0)) && (sizeOkB s && decide ((g.length : Int) = s * s))) := by
      unfold masksB; rw [List.drop_zero]
      cases hs : sizeOkB s
      · simp
      · rw [hBs hs]; cases decide ((g.length : Int) = s * s) <;> simp
    rw [e]; simpa using this
  · refine Ev.step (fun k => spec_MasksValid.l0.eq_2 _ _ _ k) ?_
    simp only [Int.lt_irrefl, if_false, l1In_eq, Option.bind_some, List.drop_length, List.all_nil, Bool.true_and]
    by_cases hs : sizeOkB s = true
    · have hs' : decide (2 ≤ s ∧ s ≤ 4) = true := hs
      have hw : wrap64 (s * s) = s * s := by rcases sizeOkB_iff.1 hs with rfl | rfl | rfl <;> decide +kernel
      simp only [hs', if_true, hs, hw, Bool.true_and]
      have e : ((g.length : Int) == s * s) = decide ((g.length : Int) = s * s) := by
        by_cases h : (g.length : Int) = s * s <;> simp [h]
      rw [e]; exact Ev.now _
    · have hs' : ¬ decide (2 ≤ s ∧ s ≤ 4) = true := hs
      simp only [hs', if_false, Bool.false_and, eq_false_of_ne_true hs, Bool.false_eq_true]
      exact Ev.now _
  · intro n hn ih
    refine Ev.step (fun k => spec_MasksValid.l0.eq_2 _ _ _ k) ?_
    have h1 : (n : Int) < (g.length : Int) := by omega
    have h3 : (0 : Int) ≤ n := by omega
    rw [drop_cons hn]
    simp only [h1, h3, h7, if_true, rd_lt hn, l1In_eq, Option.bind_some, List.all_cons, hB]
    by_cases hv : 0 ≤ g[n] ∧ g[n] ≤ B
    · have ht : Int.tmod g[n] 2 = g[n] % 2 := Int.tmod_eq_emod_of_nonneg hv.1
      by_cases h2 : g[n] % 2 = 0
      · have e : decide (0 ≤ g[n] ∧ g[n] ≤ B ∧ g[n] % 2 = 0) = true := decide_eq_true ⟨hv.1, hv.2, h2⟩
        rw [e]
        simp only [decide_eq_true hv, ht, h2, if_true, w64n (by omega : n < 9000000000000000000), Bool.true_and]
        exact ih
      · have e : decide (0 ≤ g[n] ∧ g[n] ≤ B ∧ g[n] % 2 = 0) = false := decide_eq_false (fun h => h2 h.2.2)
        rw [e]
        simp only [decide_eq_true hv, ht, h2, if_true, if_false, Bool.false_and]
        exact Ev.now _
    · have e : decide (0 ≤ g[n] ∧ g[n] ≤ B ∧ g[n] % 2 = 0) = false := decide_eq_false (fun h => hv ⟨h.1, h.2.1⟩)
      simp only [decide_eq_false hv, e, if_false, Bool.false_and, Bool.false_eq_true]
      exact Ev.now _
theorem implMasksValid_ev (g : List Int) (s : Int) (h : g.length ≤ 35184372088832) (hw : ∀ x ∈ g, x ≤ 9223372036854775807) : Ev (fun k => impl_MasksValid.f k g s) (masksB g s) := by
  unfold impl_MasksValid.f
  simp only [sizeOk_eq, Option.bind_some]
  by_cases hs : sizeOkB s = true
  · have hw2 : wrap64 (s * s) = s * s := by rcases sizeOkB_iff.1 hs with rfl | rfl | rfl <;> decide +kernel
    simp only [hs, if_true, hw2]
    refine Ev.step (fun k => impl_MasksValid.j0.eq_2 _ _ _ k) ?_
    by_cases hl : (g.length : Int) = s * s
    · have e : ((g.length : Int) != s * s) = false := by simp [hl]
      simp only [e, Bool.false_eq_true, if_false]
      have := Ev.range0 (L := fun k i => impl_MasksValid.l0 k s g (g.length : Int) i) (R := fun n => (g.drop n).all (fun v => decide (0 ≤ v ∧ v ≤ allM s ∧ v % 2 = 0))) (N := g.length) ?_ ?_ 0 (Nat.zero_le _)
      · have e : masksB g s = (g.drop 0).all (fun v => decide (0 ≤ v ∧ v ≤ allM s ∧ v % 2 = 0)) := by
          unfold masksB; rw [List.drop_zero, hs, hl]; simp
        rw [e]; simpa using this
      · refine Ev.step (fun k => impl_MasksValid.l0.eq_2 _ _ _ _ k) ?_
        simp only [Int.lt_irrefl, if_false, List.drop_length, List.all_nil]
        exact Ev.now _
      · intro n hn ih
        refine Ev.step (fun k => impl_MasksValid.l0.eq_2 _ _ _ _ k) ?_
        have h1 : (n : Int) < (g.length : Int) := by omega
        have h3 : (0 : Int) ≤ n := by omega
        rw [drop_cons hn]
        simp only [h1, h3, if_true, rd_lt hn, List.all_cons]
        by_cases ha : g[n] < 0
        · have : decide (0 ≤ g[n] ∧ g[n] ≤ allM s ∧ g[n] % 2 = 0) = false := decide_eq_false (by omega)
          simp only [ha, if_true, this, Bool.false_and]
          exact Ev.now _
        · have hb := hw g[n] (List.getElem_mem hn)
          have hi := andNot_iff hs (v := g[n]) (by omega) (by omega)
          simp only [ha, if_false, allValues_eq hs, Option.bind_some]
          by_cases hz : Go.bits .andNot .i64 g[n] (allM s) = 0
          · have : decide (0 ≤ g[n] ∧ g[n] ≤ allM s ∧ g[n] % 2 = 0) = true := decide_eq_true ⟨by omega, hi.1 hz⟩
            simp only [hz, if_true, this, Bool.true_and, w64n (by omega : n < 9000000000000000000)]
            exact ih
          · have : decide (0 ≤ g[n] ∧ g[n] ≤ allM s ∧ g[n] % 2 = 0) = false := decide_eq_false (fun h => hz (hi.2 h.2))
            simp only [hz, if_false, this, Bool.false_and]
            exact Ev.now _
    · have e : ((g.length : Int) != s * s) = true := by simp [hl]
      have e2 : masksB g s = false := by unfold masksB; simp [hl]
      simp only [e, if_true, e2]
      exact Ev.now _
  · have e2 : masksB g s = false := by unfold masksB; simp [hs]
    simp only [hs, if_false, e2, Bool.false_eq_true]
    refine Ev.step (fun k => impl_MasksValid.j0.eq_2 _ _ _ k) ?_
    simp only [if_true]
    exact Ev.now _

end Go.Proofs.Ytaglakdahmepeaa.Pure
