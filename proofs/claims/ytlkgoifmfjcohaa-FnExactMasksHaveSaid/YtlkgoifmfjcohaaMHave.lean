/- What MasksHave comes to. Conditions: as stated in each. -/
import Derived.Test.YtlkgoifmfjcohaaWWords
import Derived.Test.YtlkgoifmfjcohaaWMore
import Derived.Test.YtlkgoifmfjcohaaP15
import Derived.Test.YtlkgoifmfjcohaaP2
import Derived.Test.YtlkgoifmfjcohaaP29
import Derived.Test.YtlkgoifmfjcohaaP3
import Derived.Test.YtlkgoifmfjcohaaP30
import Derived.Test.YtlkgoifmfjcohaaP5
import Derived.Test.YtlkgoifmfjcohaaBase
import Derived.Test.YtlkgoifmfjcohaaFilled
import Derived.Test.YtlkgoifmfjcohaaGridV
import Derived.Test.YtlkgoifmfjcohaaHas
import Derived.Test.YtlkgoifmfjcohaaMasksV
import Derived.Test.YtlkgoifmfjcohaaModel
namespace Go.Proofs.Ytlkgoifmfjcohaa.Pure
set_option linter.unusedSimpArgs false
set_option linter.unusedVariables false
open Go.RowKit Go.Proofs.YtlkgoifmfjcohaaW.PrintWords Go.Proofs.YtlkgoifmfjcohaaW.PrintMore Go.Proofs.Ytlkgoifmfjcohaa.P

def haveL (m g : List Int) : Bool := (List.zip g m).all (fun p => has p.2 p.1)
def masksHave (m : List Int) (s : Int) (g : List Int) : Bool := masksB m s && (gridB g s && haveL m g)
theorem size_le4 {s : Int} (h : sizeOkB s = true) : 2 ≤ s ∧ s ≤ 4 := by rcases sizeOkB_iff.1 h with rfl | rfl | rfl <;> decide
theorem allM_le {s : Int} (h : sizeOkB s = true) : 0 ≤ allM s ∧ allM s ≤ 30 := by rcases sizeOkB_iff.1 h with rfl | rfl | rfl <;> decide
theorem mask_le {m : List Int} {s : Int} (h : masksB m s = true) {x : Int} (hx : x ∈ m) : 0 ≤ x ∧ x ≤ 30 := by
  have h1 := masksB_mem h x hx
  have h2 := allM_le (masksB_size h)
  omega
theorem val_le {g : List Int} {s : Int} (h : gridB g s = true) {x : Int} (hx : x ∈ g) : 0 ≤ x ∧ x ≤ 4 := by
  have h1 := gridB_mem h x hx
  have h2 := size_le4 (gridB_size h)
  omega
theorem zip_drop_cons {g m : List Int} {n : Nat} (hg : n < g.length) (hm : n < m.length) : List.zip (g.drop n) (m.drop n) = (g[n], m[n]) :: List.zip (g.drop (n + 1)) (m.drop (n + 1)) := by
  rw [drop_cons hg, drop_cons hm, List.zip_cons_cons]
theorem specMasksHave_ev (m : List Int) (s : Int) (g : List Int) (hm : m.length ≤ 35184372088832) (hg : g.length ≤ 35184372088832) : Ev (fun k => spec_MasksHave.f k m s g) (masksHave m s g) := by
  unfold spec_MasksHave.f masksHave
  refine Ev.bind (specMasksValid_ev m s hm) ?_
  have hj : Ev (fun k => spec_MasksHave.j0 k m g true) false := by
    refine Ev.step (fun k => spec_MasksHave.j0.eq_2 _ _ _ k) ?_
    simp only [if_true]; exact Ev.now _
  by_cases h1 : masksB m s = true
  · simp only [h1, if_true, Bool.true_and]
    refine Ev.bind (specGridValid_ev g s hg) ?_
    by_cases h2 : gridB g s = true
    · simp only [h2, Bool.not_true, Bool.true_and]
      refine Ev.step (fun k => spec_MasksHave.j0.eq_2 _ _ _ k) ?_
      simp only [Bool.false_eq_true, if_false]
      have hlen : g.length = m.length := by have a := gridB_len h2; have b := masksB_len h1; omega
      have := Ev.range0 (L := fun k i => spec_MasksHave.l0 k m g i) (R := fun n => (List.zip (g.drop n) (m.drop n)).all (fun p => has p.2 p.1)) (N := g.length) ?_ ?_ 0 (Nat.zero_le _)
      · simpa [haveL] using this
      · refine Ev.step (fun k => spec_MasksHave.l0.eq_2 _ _ _ k) ?_
        simp only [Int.lt_irrefl, if_false, List.drop_length, List.zip_nil_left, List.all_nil]
        exact Ev.now _
      · intro n hn ih
        refine Ev.step (fun k => spec_MasksHave.l0.eq_2 _ _ _ k) ?_
        have h3 : (n : Int) < (g.length : Int) := by omega
        have h4 : (n : Int) < (m.length : Int) := by omega
        have h5 : (0 : Int) ≤ n := by omega
        have hv := val_le h2 (List.getElem_mem hn)
        have hk := mask_le h1 (List.getElem_mem (by omega : n < m.length))
        rw [zip_drop_cons hn (by omega), List.all_cons]
        simp only [h3, h4, h5, if_true, rd_lt hn, rd_lt (by omega : n < m.length), hv.1, has_tmod hk hv]
        by_cases hh : has m[n] g[n] = true
        · have : ¬ ((1 : Int) = 0) := by decide
          simp only [hh, if_true, this, if_false, Bool.true_and, w64n (by omega : n < 9000000000000000000)]
          exact ih
        · simp only [hh, if_false, if_true, Bool.false_and, eq_false_of_ne_true hh, Bool.false_eq_true]
          exact Ev.now _
    · simp only [h2, eq_false_of_ne_true h2, Bool.not_false, Bool.false_and]
      exact hj
  · simp only [h1, if_false, eq_false_of_ne_true h1, Bool.false_and, Bool.false_eq_true]
    exact hj
theorem implMasksHave_ev (m : List Int) (s : Int) (g : List Int) (hm : m.length ≤ 35184372088832) (hw : ∀ x ∈ m, x ≤ 9223372036854775807) (hg : g.length ≤ 35184372088832) : Ev (fun k => impl_MasksHave.f k m s g) (masksHave m s g) := by
  unfold impl_MasksHave.f masksHave
  refine Ev.bind (implMasksValid_ev m s hm hw) ?_
  have hj : Ev (fun k => impl_MasksHave.j0 k m g true) false := by
    refine Ev.step (fun k => impl_MasksHave.j0.eq_2 _ _ _ k) ?_
    simp only [if_true]; exact Ev.now _
  by_cases h1 : masksB m s = true
  · simp only [h1, if_true, Bool.true_and]
    refine Ev.bind (implGridValid_ev g s hg) ?_
    by_cases h2 : gridB g s = true
    · simp only [h2, if_true, Bool.true_and]
      refine Ev.bind (implGridFilled_ev g s hg) ?_
      have hf : gridFilled g s = countF g := by unfold gridFilled; rw [if_pos h2]
      have hlen : g.length = m.length := by have a := gridB_len h2; have b := masksB_len h1; omega
      rw [hf]
      by_cases hc : countF g = (g.length : Int)
      · have e : (countF g != (g.length : Int)) = false := by simp [hc]
        simp only [e]
        refine Ev.step (fun k => impl_MasksHave.j0.eq_2 _ _ _ k) ?_
        simp only [Bool.false_eq_true, if_false]
        have := Ev.range0 (L := fun k i => impl_MasksHave.l0 k m g (g.length : Int) i) (R := fun n => (List.zip (g.drop n) (m.drop n)).all (fun p => has p.2 p.1)) (N := g.length) ?_ ?_ 0 (Nat.zero_le _)
        · simpa [haveL] using this
        · refine Ev.step (fun k => impl_MasksHave.l0.eq_2 _ _ _ _ k) ?_
          simp only [Int.lt_irrefl, if_false, List.drop_length, List.zip_nil_left, List.all_nil]
          exact Ev.now _
        · intro n hn ih
          refine Ev.step (fun k => impl_MasksHave.l0.eq_2 _ _ _ _ k) ?_
          have h3 : (n : Int) < (g.length : Int) := by omega
          have h4 : (n : Int) < (m.length : Int) := by omega
          have h5 : (0 : Int) ≤ n := by omega
          have hv := val_le h2 (List.getElem_mem hn)
          have hk := mask_le h1 (List.getElem_mem (by omega : n < m.length))
          rw [zip_drop_cons hn (by omega), List.all_cons]
          simp only [h3, h4, h5, if_true, rd_lt hn, rd_lt (by omega : n < m.length), hv.1, has_and hk hv]
          by_cases hh : has m[n] g[n] = true
          · have : ¬ ((1 : Int) = 0) := by decide
            simp only [hh, if_true, this, if_false, Bool.true_and, w64n (by omega : n < 9000000000000000000)]
            exact ih
          · simp only [hh, if_false, if_true, Bool.false_and, eq_false_of_ne_true hh, Bool.false_eq_true]
            exact Ev.now _
      · have e : (countF g != (g.length : Int)) = true := by simp [hc]
        have e2 : haveL m g = false := by
          apply eq_false_of_ne_true
          intro ha
          apply hc
          have hpos : ∀ v ∈ g, decide (0 < v) = true := by
            intro v hv
            obtain ⟨n, hn, rfl⟩ := List.getElem_of_mem hv
            have hp : (g[n], m[n]'(by omega)) ∈ List.zip g m := by
              rw [List.mem_iff_getElem]
              exact ⟨n, by simp; omega, by simp⟩
            unfold haveL at ha
            rw [List.all_eq_true] at ha
            have h3 := ha _ hp
            have h4 := gridB_mem h2 g[n] hv
            have h5 := masksB_mem h1 (m[n]'(by omega)) (List.getElem_mem _)
            rw [decide_eq_true_iff]
            by_cases h0 : g[n] = 0
            · simp only [h0] at h3
              rw [has_zero h5.2.2] at h3
              cases h3
            · omega
          unfold countF
          rw [List.filter_eq_self.2 hpos]
        simp only [e, e2]
        exact hj
    · simp only [h2, if_false, eq_false_of_ne_true h2, Bool.false_and, Bool.false_eq_true]
      exact hj
  · simp only [h1, if_false, eq_false_of_ne_true h1, Bool.false_and, Bool.false_eq_true]
    exact hj

end Go.Proofs.Ytlkgoifmfjcohaa.Pure
