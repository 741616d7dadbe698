/- What spec.RuleValid comes to. Conditions: as stated in each. -/
import Derived.Test.YthfbjkniinfgcaaWWords
import Derived.Test.YthfbjkniinfgcaaWMore
import Derived.Test.YthfbjkniinfgcaaP13
import Derived.Test.YthfbjkniinfgcaaP2
import Derived.Test.YthfbjkniinfgcaaBase
import Derived.Test.YthfbjkniinfgcaaModel
import Derived.Test.YthfbjkniinfgcaaRuleM
import Derived.Test.YthfbjkniinfgcaaSize
namespace Go.Proofs.Ythfbjkniinfgcaa.Pure
set_option linter.unusedSimpArgs false
set_option linter.unusedVariables false
open Go.RowKit Go.Proofs.YthfbjkniinfgcaaW.PrintWords Go.Proofs.YthfbjkniinfgcaaW.PrintMore Go.Proofs.Ythfbjkniinfgcaa.P

theorem specRuleTail_ev (s kind v : Int) (cs : List Int) (hs : sizeOkB s = true) : Ev (fun k => spec_RuleValid.j2 k s (cs.length : Int) (decide ((cs.length : Int) > 4)) kind cs v) (ruleTail kind cs.length v s) := by
  have hsz := sizeOkB_iff.1 hs
  have hw : wrap64 ((wrap64 ((wrap64 (s * s)) * s)) * s) = s * s * s * s := by rcases hsz with rfl | rfl | rfl <;> decide +kernel
  have hw1 : wrap64 (s - 1) = s - 1 := by rcases hsz with rfl | rfl | rfl <;> decide +kernel
  refine Ev.step (fun k => spec_RuleValid.j2.eq_2 _ _ _ _ _ _ k) ?_
  unfold ruleTail
  by_cases h4 : (cs.length : Int) > 4
  · have h4' : ¬ (cs.length : Int) ≤ 4 := by omega
    simp only [h4, h4', decide_true, decide_false, if_true, Bool.false_and]
    exact Ev.now _
  · have h4' : (cs.length : Int) ≤ 4 := by omega
    simp only [h4, h4', decide_true, decide_false, if_false, Bool.true_and, Bool.false_eq_true]
    by_cases k1 : kind = 1
    · simp only [k1, if_true]
      by_cases h2 : (cs.length : Int) ≥ 2
      · have h2' : 2 ≤ (cs.length : Int) := h2
        simp only [h2, h2', if_true, true_and]
        by_cases hv : v = 0
        · subst hv; exact Ev.now _
        · have e1 : (v == 0) = false := by rw [beq_eq_false_iff_ne]; exact hv
          simp only [hv, e1, decide_false]; exact Ev.now _
      · have h2' : ¬ 2 ≤ (cs.length : Int) := h2
        simp only [h2, h2', if_false, false_and, decide_false]
        exact Ev.now _
    · simp only [k1, if_false]
      have hj : ∀ b, b = (decide (kind = 2 ∨ kind = 3)) → Ev (fun k => spec_RuleValid.j3 k s (cs.length : Int) kind b kind cs v) (if kind = 2 ∨ kind = 3 then decide (1 ≤ (cs.length : Int) ∧ 1 ≤ v ∧ v ≤ s * s * s * s) else if kind = 4 then decide ((cs.length : Int) = 2 ∧ v = 0) else if kind = 5 then decide ((cs.length : Int) = 2 ∧ 0 ≤ v ∧ v < s) else false) := by
        rintro b rfl
        refine Ev.step (fun k => spec_RuleValid.j3.eq_2 _ _ _ _ _ _ _ k) ?_
        by_cases k2 : kind = 2 ∨ kind = 3
        · simp only [k2, decide_true, if_true]
          by_cases h1 : (cs.length : Int) ≥ 1
          · have h1' : 1 ≤ (cs.length : Int) := h1
            simp only [h1, h1', if_true, true_and, l1In_eq, Option.bind_some, hw]
            exact Ev.now _
          · have h1' : ¬ 1 ≤ (cs.length : Int) := h1
            simp only [h1, h1', if_false, false_and, decide_false]
            exact Ev.now _
        · simp only [k2, decide_false, if_false, Bool.false_eq_true]
          by_cases k4 : kind = 4
          · simp only [k4, if_true]
            by_cases h2 : (cs.length : Int) = 2
            · simp only [h2, if_true, true_and]
              by_cases hv : v = 0
              · subst hv; exact Ev.now _
              · have e1 : (v == 0) = false := by rw [beq_eq_false_iff_ne]; exact hv
                simp only [hv, e1, decide_false]; exact Ev.now _
            · simp only [h2, if_false, false_and, decide_false]
              exact Ev.now _
          · simp only [k4, if_false]
            by_cases k5 : kind = 5
            · simp only [k5, if_true]
              by_cases h2 : (cs.length : Int) = 2
              · have hlt : (v ≤ s - 1) = (v < s) := by apply propext; omega
                simp only [h2, if_true, true_and, l1In_eq, Option.bind_some, hw1, hlt]
                exact Ev.now _
              · simp only [h2, if_false, false_and, decide_false]
                exact Ev.now _
            · simp only [k5, if_false]
              exact Ev.now _
      by_cases k2 : kind = 2
      · have e : (kind == 2) = decide (kind = 2 ∨ kind = 3) := by simp [k2]
        have := hj _ e
        simpa only [k2, if_true] using this
      · have e : (kind == 3) = decide (kind = 2 ∨ kind = 3) := by
          by_cases k3 : kind = 3 <;> simp [k2, k3]
        have := hj _ e
        simp only [k2, if_false]
        simpa only [k2, false_or] using this
theorem specRuleValid_ev (kind : Int) (cs : List Int) (v s : Int) (hl : cs.length ≤ 35184372088832) : Ev (fun k => spec_RuleValid.f k kind cs v s) (ruleB kind cs v s) := by
  unfold spec_RuleValid.f ruleB
  have hRf : ∀ i, i < cs.length → (sizeOkB s = true → goodCells (s * s) cs (i + 1) = false) → (sizeOkB s && (goodCells (s * s) cs cs.length && ruleTail kind cs.length v s)) = false := by
    intro i hi h
    by_cases hs : sizeOkB s = true
    · rw [hs, goodCells_le (h hs) (by omega : i + 1 ≤ cs.length)]; rfl
    · rw [eq_false_of_ne_true hs]; rfl
  have := Ev.range (σ := Unit) (L := fun k _ i => spec_RuleValid.l0 k s i kind cs v) (R := fun _ _ => sizeOkB s && (goodCells (s * s) cs cs.length && ruleTail kind cs.length v s)) (N := cs.length) (fun _ i => sizeOkB s = true → goodCells (s * s) cs i = true) ?_ ?_ () 0 (Nat.zero_le _) (fun _ => rfl)
  · simpa using this
  · intro _ hg
    refine Ev.step (fun k => spec_RuleValid.l0.eq_2 _ _ _ _ _ k) ?_
    simp only [Int.lt_irrefl, if_false, l1In_eq, Option.bind_some]
    by_cases hs : sizeOkB s = true
    · have hs' := hs
      unfold sizeOkB at hs'
      rw [hg hs, hs]
      simp only [hs', if_true, Bool.true_and]
      exact specRuleTail_ev s kind v cs hs
    · have hs' := eq_false_of_ne_true hs
      rw [hs']
      unfold sizeOkB at hs'
      simp only [hs', Bool.false_eq_true, if_false, Bool.false_and]
      refine Ev.step (fun k => spec_RuleValid.j2.eq_2 _ _ _ _ _ _ k) ?_
      simp only [if_true]
      exact Ev.now _
  · intro _ i hi hg ih
    refine Ev.step (fun k => spec_RuleValid.l0.eq_2 _ _ _ _ _ k) ?_
    have h1 : (i : Int) < (cs.length : Int) := by omega
    have h0 : (0 : Int) ≤ (i : Int) := Int.natCast_nonneg i
    simp only [h1, h0, if_true, l1In_eq, Option.bind_some]
    by_cases hc : 0 ≤ rd cs (i : Int) ∧ rd cs (i : Int) ≤ wrap64 ((wrap64 (s * s)) - 1)
    · simp only [hc, and_self, decide_true, if_true]
      have := Ev.range (σ := Unit) (L := fun k _ j => spec_RuleValid.l1 k s (i : Int) j kind cs v) (R := fun _ _ => sizeOkB s && (goodCells (s * s) cs cs.length && ruleTail kind cs.length v s)) (N := i) (fun _ j => ∀ d, d < j → rd cs (d : Int) ≠ rd cs (i : Int)) ?_ ?_ () 0 (Nat.zero_le _) (fun d hd => absurd hd (Nat.not_lt_zero d))
      · simpa using this
      · intro _ hno
        refine Ev.step (fun k => spec_RuleValid.l1.eq_2 _ _ _ _ _ _ k) ?_
        simp only [Int.lt_irrefl, if_false, w64n (by omega : i < 9000000000000000000)]
        refine ih () (fun hs => ?_)
        have ht : wrap64 ((wrap64 (s * s)) - 1) = s * s - 1 := by rcases sizeOkB_iff.1 hs with rfl | rfl | rfl <;> decide +kernel
        rw [ht] at hc
        have hm : ¬ rd cs (i : Int) ∈ cs.take i := by
          intro hm
          obtain ⟨j, hj, _, he⟩ := mem_take_iff.1 hm
          exact hno j hj he
        rw [goodCells, hg hs, decide_eq_true (⟨hc.1, by omega⟩ : 0 ≤ rd cs (i : Int) ∧ rd cs (i : Int) < s * s), decide_eq_false hm]
        rfl
      · intro _ j hj hno ihj
        refine Ev.step (fun k => spec_RuleValid.l1.eq_2 _ _ _ _ _ _ k) ?_
        have h2 : (j : Int) < (i : Int) := by omega
        have h3 : (0 : Int) ≤ (j : Int) := Int.natCast_nonneg j
        have h4 : (j : Int) < (cs.length : Int) := by omega
        simp only [h2, h3, h4, h1, h0, if_true, w64n (by omega : j < 9000000000000000000)]
        by_cases he : rd cs (j : Int) = rd cs (i : Int)
        · simp only [he, if_true]
          rw [hRf i hi (fun hs => by
            have hm : rd cs (i : Int) ∈ cs.take i := mem_take_iff.2 ⟨j, hj, by omega, he⟩
            rw [goodCells, decide_eq_true hm]; simp)]
          exact Ev.now _
        · simp only [he, if_false]
          refine ihj () (fun d hd => ?_)
          by_cases hdj : d = j
          · rw [hdj]; exact he
          · exact hno d (by omega)
    · simp only [hc, decide_false, if_false, Bool.false_eq_true]
      rw [hRf i hi (fun hs => by
        have ht : wrap64 ((wrap64 (s * s)) - 1) = s * s - 1 := by rcases sizeOkB_iff.1 hs with rfl | rfl | rfl <;> decide +kernel
        rw [ht] at hc
        have hn : ¬ (0 ≤ rd cs (i : Int) ∧ rd cs (i : Int) < s * s) := fun h => hc ⟨h.1, by omega⟩
        rw [goodCells, decide_eq_false hn]; simp)]
      exact Ev.now _

end Go.Proofs.Ythfbjkniinfgcaa.Pure
