/- What PuzzleValid comes to. Conditions: as stated in each. -/
import Derived.Test.YthfbjkniinfgcaaWWords
import Derived.Test.YthfbjkniinfgcaaWMore
import Derived.Test.YthfbjkniinfgcaaP15
import Derived.Test.YthfbjkniinfgcaaP17
import Derived.Test.YthfbjkniinfgcaaBase
import Derived.Test.YthfbjkniinfgcaaGridV
import Derived.Test.YthfbjkniinfgcaaModel
import Derived.Test.YthfbjkniinfgcaaPuzHelp
import Derived.Test.YthfbjkniinfgcaaRuleI
import Derived.Test.YthfbjkniinfgcaaRuleM
import Derived.Test.YthfbjkniinfgcaaRuleS
namespace Go.Proofs.Ythfbjkniinfgcaa.Pure
set_option linter.unusedSimpArgs false
set_option linter.unusedVariables false
open Go.RowKit Go.Proofs.YthfbjkniinfgcaaW.PrintWords Go.Proofs.YthfbjkniinfgcaaW.PrintMore Go.Proofs.Ythfbjkniinfgcaa.P

def rulesB (rs : List S32) (s : Int) : Bool := rs.all (fun x => ruleB x.f0 x.f1 x.f2 s)
def puzzleB (s : Int) (g : List Int) (rs : List S32) : Bool := gridB g s && (decide ((rs.length : Int) ≤ 20) && rulesB rs s)
theorem rulesB_false {rs : List S32} {s : Int} {i : Nat} (hi : i < rs.length) (h : ruleB rs[i].f0 rs[i].f1 rs[i].f2 s = false) : rulesB rs s = false := by
  unfold rulesB
  rw [List.all_eq_false]
  exact ⟨rs[i], List.getElem_mem hi, by simp [h]⟩
theorem take_all {rs : List S32} {s : Int} {i : Nat} (hi : i < rs.length) (h : rulesB (rs.take i) s = true) (hx : ruleB rs[i].f0 rs[i].f1 rs[i].f2 s = true) : rulesB (rs.take (i + 1)) s = true := by
  unfold rulesB at *
  rw [List.take_succ_eq_append_getElem hi, List.all_append, h]
  simp [hx]
theorem specPuzzleValid_ev (s : Int) (g : List Int) (rs : List S32) (hg : g.length ≤ 1048576) (hl : rs.length ≤ 1048576) (hr : ∀ x ∈ rs, x.f1.length ≤ 1048576) : Ev (fun k => spec_PuzzleValid.f k s g rs) (puzzleB s g rs) := by
  unfold spec_PuzzleValid.f
  have := Ev.range (σ := Unit) (L := fun k _ i => spec_PuzzleValid.l0 k i s g rs) (R := fun _ _ => puzzleB s g rs) (N := rs.length) (fun _ i => rulesB (rs.take i) s = true) ?_ ?_ () 0 (Nat.zero_le _) rfl
  · simpa using this
  · intro _ hall
    refine Ev.step (fun k => spec_PuzzleValid.l0.eq_2 _ _ _ _ k) ?_
    rw [List.take_length] at hall
    simp only [Int.lt_irrefl, if_false]
    refine Ev.bind (specGridValid_ev g s (by omega)) ?_
    unfold puzzleB
    by_cases hgb : gridB g s = true
    · simp only [hgb, hall, if_true, Bool.true_and, Bool.and_true]
      exact Ev.now _
    · simp only [hgb, if_false, Bool.false_eq_true, Bool.false_and]
      exact Ev.now _
  · intro _ i hi hall ih
    refine Ev.step (fun k => spec_PuzzleValid.l0.eq_2 _ _ _ _ k) ?_
    have h2 : (i : Int) < (rs.length : Int) := by omega
    have h3 : (0 : Int) ≤ (i : Int) := Int.natCast_nonneg i
    simp only [h2, h3, if_true, rdI rs hi]
    have hlen := hr rs[i] (List.getElem_mem hi)
    refine Ev.bind (specRuleValid_ev _ _ _ s (by omega)) ?_
    by_cases hx : ruleB rs[i].f0 rs[i].f1 rs[i].f2 s = true
    · simp only [hx, if_true, w64n (by omega : i < 9000000000000000000)]
      exact ih () (take_all hi hall hx)
    · simp only [hx, if_false, Bool.false_eq_true]
      have : puzzleB s g rs = false := by unfold puzzleB; rw [rulesB_false hi (eq_false_of_ne_true hx)]; simp
      rw [this]; exact Ev.now _
theorem implPuzzleValid_ev (s : Int) (g : List Int) (rs : List S32) (hg : g.length ≤ 1048576) (hl : rs.length ≤ 1048576) (hr : ∀ x ∈ rs, x.f1.length ≤ 1048576) : Ev (fun k => impl_PuzzleValid.f k s g rs) (puzzleB s g rs) := by
  unfold impl_PuzzleValid.f puzzleB
  refine Ev.bind (implGridValid_ev g s (by omega)) ?_
  have hno : Ev (fun k => impl_PuzzleValid.j0 k true s g rs) false := by
    refine Ev.step (fun k => impl_PuzzleValid.j0.eq_2 _ _ _ _ k) ?_
    simp only [if_true]; exact Ev.now _
  by_cases hgb : gridB g s = true
  · simp only [hgb, if_true, Bool.true_and]
    by_cases h20 : (rs.length : Int) > 20
    · have h20' : ¬ (rs.length : Int) ≤ 20 := by omega
      simp only [h20, h20', decide_true, decide_false, Bool.false_and]
      exact hno
    · have h20' : (rs.length : Int) ≤ 20 := by omega
      simp only [h20, h20', decide_true, decide_false, Bool.true_and]
      refine Ev.step (fun k => impl_PuzzleValid.j0.eq_2 _ _ _ _ k) ?_
      simp only [Bool.false_eq_true, if_false]
      have := Ev.range (σ := Unit) (L := fun k _ i => impl_PuzzleValid.l0 k rs (rs.length : Int) i s g rs) (R := fun _ _ => rulesB rs s) (N := rs.length) (fun _ i => rulesB (rs.take i) s = true) ?_ ?_ () 0 (Nat.zero_le _) rfl
      · simpa using this
      · intro _ hall
        refine Ev.step (fun k => impl_PuzzleValid.l0.eq_2 _ _ _ _ _ _ k) ?_
        rw [List.take_length] at hall
        simp only [Int.lt_irrefl, if_false, hall]
        exact Ev.now _
      · intro _ i hi hall ih
        refine Ev.step (fun k => impl_PuzzleValid.l0.eq_2 _ _ _ _ _ _ k) ?_
        have h2 : (i : Int) < (rs.length : Int) := by omega
        have h3 : (0 : Int) ≤ (i : Int) := Int.natCast_nonneg i
        simp only [h2, h3, if_true, rdI rs hi]
        have hlen := hr rs[i] (List.getElem_mem hi)
        refine Ev.bind (implRuleValid_ev _ _ _ s (by omega)) ?_
        by_cases hx : ruleB rs[i].f0 rs[i].f1 rs[i].f2 s = true
        · simp only [hx, if_true, w64n (by omega : i < 9000000000000000000)]
          exact ih () (take_all hi hall hx)
        · simp only [hx, if_false, Bool.false_eq_true]
          rw [rulesB_false hi (eq_false_of_ne_true hx)]; exact Ev.now _
  · simp only [hgb, if_false, Bool.false_eq_true, Bool.false_and]
    exact hno

end Go.Proofs.Ythfbjkniinfgcaa.Pure
