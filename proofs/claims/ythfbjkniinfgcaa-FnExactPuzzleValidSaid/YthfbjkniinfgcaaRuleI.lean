/- What impl.RuleValid comes to. Conditions: as stated in each. -/
import Derived.Test.YthfbjkniinfgcaaWWords
import Derived.Test.YthfbjkniinfgcaaWMore
import Derived.Test.YthfbjkniinfgcaaP11
import Derived.Test.YthfbjkniinfgcaaP12
import Derived.Test.YthfbjkniinfgcaaP3
import Derived.Test.YthfbjkniinfgcaaBase
import Derived.Test.YthfbjkniinfgcaaModel
import Derived.Test.YthfbjkniinfgcaaRuleM
import Derived.Test.YthfbjkniinfgcaaSize
namespace Go.Proofs.Ythfbjkniinfgcaa.Pure
set_option linter.unusedSimpArgs false
set_option linter.unusedVariables false
open Go.RowKit Go.Proofs.YthfbjkniinfgcaaW.PrintWords Go.Proofs.YthfbjkniinfgcaaW.PrintMore Go.Proofs.Ythfbjkniinfgcaa.P

theorem index_ev (l : List Int) (x : Int) (h : l.length ≤ 35184372088832) : ∀ d n, n + d = l.length → ∃ r : Int, (0 ≤ r ↔ x ∈ l.drop n) ∧ Ev (fun k => slices_Index_int_int.l0 k l x (l.length : Int) (n : Int)) r
  | 0, n, hn => by
    refine ⟨-1, ?_, ?_⟩
    · rw [List.drop_eq_nil_of_le (by omega)]; simp
    · refine Ev.step (fun k => slices_Index_int_int.l0.eq_2 _ _ _ _ k) ?_
      have h1 : ¬ (n : Int) < (l.length : Int) := by omega
      simp only [h1, if_false]
      exact Ev.now _
  | d + 1, n, hn => by
    have h1 : (n : Int) < (l.length : Int) := by omega
    have h0 : (0 : Int) ≤ (n : Int) := Int.natCast_nonneg n
    have hd : l.drop n = l[n] :: l.drop (n + 1) := drop_cons (by omega)
    by_cases hx : x = rd l (n : Int)
    · refine ⟨(n : Int), ⟨fun _ => ?_, fun _ => h0⟩, ?_⟩
      · rw [hd, hx, rd_lt (by omega : n < l.length)]; exact List.mem_cons_self
      · refine Ev.step (fun k => slices_Index_int_int.l0.eq_2 _ _ _ _ k) ?_
        simp only [h1, h0, ← hx, if_true]
        exact Ev.now _
    · obtain ⟨r, hr, he⟩ := index_ev l x h d (n + 1) (by omega)
      refine ⟨r, ?_, ?_⟩
      · rw [hr, hd, List.mem_cons]
        constructor
        · exact .inr
        · rintro (e | e)
          · exact absurd (by rw [rd_lt (by omega : n < l.length)]; exact e) hx
          · exact e
      · refine Ev.step (fun k => slices_Index_int_int.l0.eq_2 _ _ _ _ k) ?_
        simp only [h1, h0, hx, if_true, if_false, w64n (by omega : n < 9000000000000000000)]
        exact he
theorem contains_ev (l : List Int) (x : Int) (h : l.length ≤ 35184372088832) : Ev (fun k => slices_Contains_int_int.f k l x) (decide (x ∈ l)) := by
  obtain ⟨r, hr, he⟩ := index_ev l x h l.length 0 (by omega)
  unfold slices_Contains_int_int.f slices_Index_int_int.f
  refine Ev.bind he ?_
  rw [List.drop_zero] at hr
  have e : decide (r ≥ 0) = decide (x ∈ l) := by
    by_cases hx : x ∈ l
    · rw [decide_eq_true hx, decide_eq_true (hr.2 hx)]
    · rw [decide_eq_false hx, decide_eq_false (fun h => hx (hr.1 h))]
  simp only [e]
  exact Ev.now _
theorem implRuleTail_ev (s kind v : Int) (cs : List Int) (hs : sizeOkB s = true) : Ev (fun k => if kind = 1 then (if (cs.length : Int) ≥ 2 then (if (cs.length : Int) ≤ 4 then (some (v == 0)) else (some false)) else (some false)) else (if kind = 2 then (impl_RuleValid.j1 k s (cs.length : Int) kind (kind == 2) kind cs v) else (impl_RuleValid.j1 k s (cs.length : Int) kind (kind == 3) kind cs v))) (ruleTail kind cs.length v s) := by
  have hsz := sizeOkB_iff.1 hs
  have hw : wrap64 ((wrap64 ((wrap64 (s * s)) * s)) * s) = s * s * s * s := by rcases hsz with rfl | rfl | rfl <;> decide +kernel
  unfold ruleTail
  generalize (cs.length : Int) = n
  have hvz : ∀ w : Int, (w == 0) = decide (w = 0) := by
    intro w
    by_cases h : w = 0
    · subst h; rfl
    · rw [beq_eq_false_iff_ne.2 h, decide_eq_false h]
  by_cases k1 : kind = 1
  · simp only [k1, if_true]
    by_cases h2 : 2 ≤ n
    · by_cases h4 : n ≤ 4
      · have h2' : n ≥ 2 := h2
        simp only [h2, h2', h4, if_true, hvz, true_and, decide_true, Bool.true_and]
        exact Ev.now _
      · have h2' : n ≥ 2 := h2
        simp only [h2', h4, if_true, if_false, decide_false, Bool.false_and]
        exact Ev.now _
    · have h2' : ¬ n ≥ 2 := h2
      simp only [h2, h2', if_false, false_and, decide_false, Bool.and_false]
      exact Ev.now _
  · simp only [k1, if_false]
    have hj : ∀ b, b = decide (kind = 2 ∨ kind = 3) → Ev (fun k => impl_RuleValid.j1 k s n kind b kind cs v) (decide (n ≤ 4) && (if kind = 2 ∨ kind = 3 then decide (1 ≤ n ∧ 1 ≤ v ∧ v ≤ s * s * s * s) else if kind = 4 then decide (n = 2 ∧ v = 0) else if kind = 5 then decide (n = 2 ∧ 0 ≤ v ∧ v < s) else false)) := by
      rintro b rfl
      refine Ev.step (fun k => impl_RuleValid.j1.eq_2 _ _ _ _ _ _ _ k) ?_
      by_cases k2 : kind = 2 ∨ kind = 3
      · simp only [k2, decide_true, if_true, hw]
        by_cases h1 : 1 ≤ n
        · have h1' : n ≥ 1 := h1
          by_cases h4 : n ≤ 4
          · by_cases hv : 1 ≤ v
            · have hv' : v ≥ 1 := hv
              simp only [h1, h1', h4, hv, hv', if_true, true_and, decide_true, Bool.true_and]
              exact Ev.now _
            · have hv' : ¬ v ≥ 1 := hv
              simp only [h1, h1', h4, hv, hv', if_true, if_false, true_and, false_and, decide_true, decide_false, Bool.true_and]
              exact Ev.now _
          · simp only [h1', h4, if_true, if_false, decide_false, Bool.false_and]
            exact Ev.now _
        · have h1' : ¬ n ≥ 1 := h1
          simp only [h1, h1', if_false, false_and, decide_false, Bool.and_false]
          exact Ev.now _
      · simp only [k2, decide_false, if_false, Bool.false_eq_true]
        by_cases k4 : kind = 4
        · simp only [k4, if_true]
          by_cases h2 : n = 2
          · simp only [h2, if_true, true_and, hvz]
            exact Ev.now _
          · simp only [h2, if_false, false_and, decide_false, Bool.and_false]
            exact Ev.now _
        · simp only [k4, if_false]
          by_cases k5 : kind = 5
          · simp only [k5, if_true]
            by_cases h2 : n = 2
            · by_cases hv : 0 ≤ v
              · have hv' : v ≥ 0 := hv
                simp only [h2, hv, hv', if_true, true_and]
                exact Ev.now _
              · have hv' : ¬ v ≥ 0 := hv
                simp only [h2, hv, hv', if_true, if_false, true_and, false_and, decide_false, Bool.and_false]
                exact Ev.now _
            · simp only [h2, if_false, false_and, decide_false, Bool.and_false]
              exact Ev.now _
          · simp only [k5, if_false, Bool.and_false]
            exact Ev.now _
    by_cases k2 : kind = 2
    · have e : (kind == 2) = decide (kind = 2 ∨ kind = 3) := by simp [k2]
      have := hj _ e
      simpa only [k2, if_true] using this
    · have e : (kind == 3) = decide (kind = 2 ∨ kind = 3) := by
        by_cases k3 : kind = 3 <;> simp [k2, k3]
      have := hj _ e
      simp only [k2, if_false]
      simpa only [k2, false_or] using this
theorem implRuleValid_ev (kind : Int) (cs : List Int) (v s : Int) (hl : cs.length ≤ 35184372088832) : Ev (fun k => impl_RuleValid.f k kind cs v s) (ruleB kind cs v s) := by
  unfold impl_RuleValid.f ruleB
  simp only [sizeOk_eq, Option.bind_some]
  by_cases hs : sizeOkB s = true
  · have ht : wrap64 (s * s) = s * s := by rcases sizeOkB_iff.1 hs with rfl | rfl | rfl <;> decide +kernel
    simp only [hs, if_true, Bool.true_and]
    have := Ev.range (σ := Unit) (L := fun k _ i => impl_RuleValid.l0 k s cs (cs.length : Int) i kind cs v) (R := fun _ _ => goodCells (s * s) cs cs.length && ruleTail kind cs.length v s) (N := cs.length) (fun _ i => goodCells (s * s) cs i = true) ?_ ?_ () 0 (Nat.zero_le _) rfl
    · simpa using this
    · intro _ hg
      refine Ev.step (fun k => impl_RuleValid.l0.eq_2 _ _ _ _ _ _ _ k) ?_
      simp only [Int.lt_irrefl, if_false]
      rw [hg, Bool.true_and]
      exact implRuleTail_ev s kind v cs hs
    · intro _ i hi hg ih
      refine Ev.step (fun k => impl_RuleValid.l0.eq_2 _ _ _ _ _ _ _ k) ?_
      have h1 : (i : Int) < (cs.length : Int) := by omega
      have h0 : (0 : Int) ≤ (i : Int) := Int.natCast_nonneg i
      have h2 : (i : Int) ≤ (cs.length : Int) := by omega
      have hbad : goodCells (s * s) cs (i + 1) = false → Ev (fun _ : Nat => some false) (goodCells (s * s) cs cs.length && ruleTail kind cs.length v s) := by
        intro h
        rw [goodCells_le h (by omega : i + 1 ≤ cs.length)]
        exact Ev.now _
      simp only [h1, h0, h2, if_true, ht, Int.toNat_natCast]
      by_cases hc0 : rd cs (i : Int) < 0
      · simp only [hc0, if_true]
        refine hbad ?_
        have hn : ¬ (0 ≤ rd cs (i : Int) ∧ rd cs (i : Int) < s * s) := fun h => by omega
        rw [goodCells, decide_eq_false hn]; simp
      · simp only [hc0, if_false]
        by_cases hc1 : rd cs (i : Int) ≥ s * s
        · simp only [hc1, if_true]
          refine hbad ?_
          have hn : ¬ (0 ≤ rd cs (i : Int) ∧ rd cs (i : Int) < s * s) := fun h => by omega
          rw [goodCells, decide_eq_false hn]; simp
        · simp only [hc1, if_false]
          refine Ev.bind (contains_ev _ _ (by rw [List.length_take]; omega)) ?_
          by_cases hm : rd cs (i : Int) ∈ cs.take i
          · simp only [hm, decide_true, if_true]
            refine hbad ?_
            rw [goodCells, decide_eq_true hm]; simp
          · simp only [hm, decide_false, if_false, Bool.false_eq_true, w64n (by omega : i < 9000000000000000000)]
            refine ih () ?_
            rw [goodCells, hg, decide_eq_true (⟨by omega, by omega⟩ : 0 ≤ rd cs (i : Int) ∧ rd cs (i : Int) < s * s), decide_eq_false hm]
            rfl
  · simp only [hs, if_false, Bool.false_eq_true, Bool.false_and]
    exact Ev.now _

end Go.Proofs.Ythfbjkniinfgcaa.Pure
