/- What RuleHolds comes to. Conditions: as stated in each. -/
import Derived.Test.YtaglakdahmepeaaWWords
import Derived.Test.YtaglakdahmepeaaWMore
import Derived.Test.YtaglakdahmepeaaP1
import Derived.Test.YtaglakdahmepeaaP19
import Derived.Test.YtaglakdahmepeaaP21
import Derived.Test.YtaglakdahmepeaaP3
import Derived.Test.YtaglakdahmepeaaP44
import Derived.Test.YtaglakdahmepeaaP46
import Derived.Test.YtaglakdahmepeaaBase
import Derived.Test.YtaglakdahmepeaaGridV
import Derived.Test.YtaglakdahmepeaaHoldsM
import Derived.Test.YtaglakdahmepeaaLines
import Derived.Test.YtaglakdahmepeaaMHave
import Derived.Test.YtaglakdahmepeaaModel
import Derived.Test.YtaglakdahmepeaaRuleI
import Derived.Test.YtaglakdahmepeaaRuleM
import Derived.Test.YtaglakdahmepeaaRuleS
namespace Go.Proofs.Ytaglakdahmepeaa.Pure
set_option linter.unusedSimpArgs false
set_option linter.unusedVariables false
open Go.RowKit Go.Proofs.YtaglakdahmepeaaW.PrintWords Go.Proofs.YtaglakdahmepeaaW.PrintMore Go.Proofs.Ytaglakdahmepeaa.P

def ruleHolds (kind : Int) (cs : List Int) (v : Int) (g : List Int) (s : Int) : Bool := ruleB kind cs v s && (gridB g s && ((cs.map (fun c => rd g c)).all (fun x => decide (x ≠ 0)) && holdsB kind v (cs.map (fun c => rd g c))))
theorem ruleB_parts {kind : Int} {cs : List Int} {v s : Int} (h : ruleB kind cs v s = true) : sizeOkB s = true ∧ goodCells (s * s) cs cs.length = true ∧ cs.length ≤ 4 ∧ 1 ≤ kind ∧ kind ≤ 5 ∧ (4 ≤ kind → cs.length = 2) := by
  unfold ruleB ruleTail at h
  simp only [Bool.and_eq_true, decide_eq_true_eq] at h
  obtain ⟨h1, h2, h3, h4⟩ := h
  refine ⟨h1, h2, by omega, ?_⟩
  by_cases k1 : kind = 1
  · omega
  · rw [if_neg k1] at h4
    by_cases k2 : kind = 2 ∨ kind = 3
    · omega
    · rw [if_neg k2] at h4
      by_cases k4 : kind = 4
      · rw [if_pos k4] at h4
        simp only [decide_eq_true_eq] at h4
        omega
      · rw [if_neg k4] at h4
        by_cases k5 : kind = 5
        · rw [if_pos k5] at h4
          simp only [decide_eq_true_eq] at h4
          omega
        · rw [if_neg k5] at h4; cases h4
theorem cell_mem {t : Int} {cs : List Int} (h : goodCells t cs cs.length = true) : ∀ c ∈ cs, 0 ≤ c ∧ c < t := by
  intro c hc
  obtain ⟨i, hi, he⟩ := List.mem_iff_getElem.1 hc
  have := goodCells_at h i hi
  rw [rd_lt hi, he] at this
  exact this
theorem valsOK {kind : Int} {cs : List Int} {v s : Int} {g : List Int} (h : ruleB kind cs v s = true) (hg : gridB g s = true) : ValsOK kind (cs.map (fun c => rd g c)) := by
  obtain ⟨hs, hc, h4, hk1, hk5, hk2⟩ := ruleB_parts h
  refine ⟨by rw [List.length_map]; exact h4, fun x hx => ?_, hk1, hk5, fun h => by rw [List.length_map]; exact hk2 h⟩
  obtain ⟨c, hcm, rfl⟩ := List.mem_map.1 hx
  have hb := cell_mem hc c hcm
  have hl := gridB_len hg
  exact val_le hg (rd_mem hb.1 (by omega))
theorem vals_zero {cs g : List Int} {i : Nat} (hi : i < cs.length) (h : rd g (rd cs (i : Int)) = 0) : (cs.map (fun c => rd g c)).all (fun x => decide (x ≠ 0)) = false := by
  rw [List.all_eq_false]
  refine ⟨rd g (rd cs (i : Int)), List.mem_map.2 ⟨rd cs (i : Int), rd_mem (by omega) (by omega), rfl⟩, ?_⟩
  simp [h]
theorem specRuleHolds_ev (kind : Int) (cs : List Int) (v : Int) (g : List Int) (s : Int) (hl : cs.length ≤ 35184372088832) (hgl : g.length ≤ 35184372088832) : Ev (fun k => spec_RuleHolds.f k kind cs v g s) (ruleHolds kind cs v g s) := by
  unfold spec_RuleHolds.f ruleHolds
  refine Ev.bind (specRuleValid_ev kind cs v s hl) ?_
  have hj : Ev (fun k => spec_RuleHolds.j0 k g true kind cs v) false := by
    refine Ev.step (fun k => spec_RuleHolds.j0.eq_2 _ _ _ _ _ k) ?_
    simp only [if_true]; exact Ev.now _
  by_cases hr : ruleB kind cs v s = true
  · simp only [hr, if_true, Bool.true_and]
    refine Ev.bind (specGridValid_ev g s hgl) ?_
    by_cases hg : gridB g s = true
    · simp only [hg, Bool.not_true, Bool.true_and]
      refine Ev.step (fun k => spec_RuleHolds.j0.eq_2 _ _ _ _ _ k) ?_
      simp only [Bool.false_eq_true, if_false]
      have hcm := cell_mem (ruleB_parts hr).2.1
      have h4 := (ruleB_parts hr).2.2.1
      have hgl2 := gridB_len hg
      have := Ev.range (L := fun k (x : List Int) i => spec_RuleHolds.l0 k g x i kind cs v) (R := fun _ _ => (cs.map (fun c => rd g c)).all (fun x => decide (x ≠ 0)) && holdsB kind v (cs.map (fun c => rd g c))) (N := cs.length) (fun x i => x = (cs.take i).map (fun c => rd g c) ∧ x.all (fun x => decide (x ≠ 0)) = true) ?_ ?_ [] 0 (Nat.zero_le _) ⟨rfl, rfl⟩
      · simpa using this
      · rintro x ⟨rfl, hz⟩
        refine Ev.step (fun k => spec_RuleHolds.l0.eq_2 _ _ _ _ _ _ k) ?_
        rw [List.take_length] at hz ⊢
        simp only [Int.lt_irrefl, if_false]
        rw [hz, Bool.true_and]
        exact Ev.bind (l4Holds_ev (valsOK hr hg)) (Ev.now _)
      · rintro x i hi ⟨rfl, hz⟩ ih
        refine Ev.step (fun k => spec_RuleHolds.l0.eq_2 _ _ _ _ _ _ k) ?_
        have h1 : (i : Int) < (cs.length : Int) := by omega
        have h0 : (0 : Int) ≤ (i : Int) := Int.natCast_nonneg i
        have hc := hcm _ (rd_mem h0 h1)
        have hc1 : rd cs (i : Int) < (g.length : Int) := by omega
        have hlen : ((cs.take i).map (fun c => rd g c)).length < 17592186044416 := by rw [List.length_map, List.length_take]; omega
        simp only [h1, h0, hc.1, hc1, hlen, if_true, w64n (by omega : i < 9000000000000000000)]
        by_cases hz0 : rd g (rd cs (i : Int)) = 0
        · simp only [hz0, if_true]
          rw [vals_zero hi hz0]
          exact Ev.now _
        · simp only [hz0, if_false]
          refine ih _ ⟨?_, ?_⟩
          · rw [List.take_succ_eq_append_getElem hi, List.map_append, List.map_singleton, rd_lt hi]
          · rw [List.all_append, hz]; simp [hz0]
    · simp only [hg, Bool.not_false, Bool.false_and]
      exact hj
  · simp only [hr, if_false, Bool.false_eq_true, Bool.false_and]
    exact hj
theorem implRuleHolds_ev (kind : Int) (cs : List Int) (v : Int) (g : List Int) (s : Int) (hl : cs.length ≤ 35184372088832) (hgl : g.length ≤ 35184372088832) : Ev (fun k => impl_RuleHolds.f k kind cs v g s) (ruleHolds kind cs v g s) := by
  unfold impl_RuleHolds.f ruleHolds
  refine Ev.bind (implRuleValid_ev kind cs v s hl) ?_
  have hj : Ev (fun k => impl_RuleHolds.j0 k g true kind cs v) false := by
    refine Ev.step (fun k => impl_RuleHolds.j0.eq_2 _ _ _ _ _ k) ?_
    simp only [if_true]; exact Ev.now _
  by_cases hr : ruleB kind cs v s = true
  · simp only [hr, if_true, Bool.true_and]
    refine Ev.bind (implGridValid_ev g s hgl) ?_
    by_cases hg : gridB g s = true
    · simp only [hg, Bool.not_true, Bool.true_and]
      refine Ev.step (fun k => impl_RuleHolds.j0.eq_2 _ _ _ _ _ k) ?_
      simp only [Bool.false_eq_true, if_false]
      have hcm := cell_mem (ruleB_parts hr).2.1
      have h4 := (ruleB_parts hr).2.2.1
      have hgl2 := gridB_len hg
      have := Ev.range (L := fun k (x : List Int) i => impl_RuleHolds.l0 k g x cs (cs.length : Int) i kind cs v) (R := fun _ _ => (cs.map (fun c => rd g c)).all (fun x => decide (x ≠ 0)) && holdsB kind v (cs.map (fun c => rd g c))) (N := cs.length) (fun x i => x = (cs.take i).map (fun c => rd g c) ∧ x.all (fun x => decide (x ≠ 0)) = true) ?_ ?_ [] 0 (Nat.zero_le _) ⟨rfl, rfl⟩
      · simpa using this
      · rintro x ⟨rfl, hz⟩
        refine Ev.step (fun k => impl_RuleHolds.l0.eq_2 _ _ _ _ _ _ _ _ k) ?_
        rw [List.take_length] at hz ⊢
        simp only [Int.lt_irrefl, if_false]
        rw [hz, Bool.true_and]
        exact Ev.bind (valuesHold_ev (valsOK hr hg)) (Ev.now _)
      · rintro x i hi ⟨rfl, hz⟩ ih
        refine Ev.step (fun k => impl_RuleHolds.l0.eq_2 _ _ _ _ _ _ _ _ k) ?_
        have h1 : (i : Int) < (cs.length : Int) := by omega
        have h0 : (0 : Int) ≤ (i : Int) := Int.natCast_nonneg i
        have hc := hcm _ (rd_mem h0 h1)
        have hc1 : rd cs (i : Int) < (g.length : Int) := by omega
        have hlen : ((cs.take i).map (fun c => rd g c)).length < 17592186044416 := by rw [List.length_map, List.length_take]; omega
        simp only [h1, h0, hc.1, hc1, hlen, if_true, w64n (by omega : i < 9000000000000000000)]
        by_cases hz0 : rd g (rd cs (i : Int)) = 0
        · simp only [hz0, if_true]
          rw [vals_zero hi hz0]
          exact Ev.now _
        · simp only [hz0, if_false]
          refine ih _ ⟨?_, ?_⟩
          · rw [List.take_succ_eq_append_getElem hi, List.map_append, List.map_singleton, rd_lt hi]
          · rw [List.all_append, hz]; simp [hz0]
    · simp only [hg, Bool.not_false, Bool.false_and]
      exact hj
  · simp only [hr, if_false, Bool.false_eq_true, Bool.false_and]
    exact hj

end Go.Proofs.Ytaglakdahmepeaa.Pure
