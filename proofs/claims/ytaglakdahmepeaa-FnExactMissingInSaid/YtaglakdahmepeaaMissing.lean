/- What MissingIn comes to. Conditions: as stated in each. -/
import Derived.Test.YtaglakdahmepeaaWWords
import Derived.Test.YtaglakdahmepeaaWMore
import Derived.Test.YtaglakdahmepeaaP1
import Derived.Test.YtaglakdahmepeaaP24
import Derived.Test.YtaglakdahmepeaaP25
import Derived.Test.YtaglakdahmepeaaP3
import Derived.Test.YtaglakdahmepeaaP4
import Derived.Test.YtaglakdahmepeaaBase
import Derived.Test.YtaglakdahmepeaaGridV
import Derived.Test.YtaglakdahmepeaaLineC
import Derived.Test.YtaglakdahmepeaaLines
import Derived.Test.YtaglakdahmepeaaModel
namespace Go.Proofs.Ytaglakdahmepeaa.Pure
set_option linter.unusedSimpArgs false
set_option linter.unusedVariables false
open Go.RowKit Go.Proofs.YtaglakdahmepeaaW.PrintWords Go.Proofs.YtaglakdahmepeaaW.PrintMore Go.Proofs.Ytaglakdahmepeaa.P

/-- The values from v on, n of them, that stand in none of these cells. -/
def missL (g cells : List Int) (v : Int) : Nat → List Int
  | 0 => []
  | n + 1 => (if cells.any (fun c => rd g c == v) = true then [] else [v]) ++ missL g cells (v + 1) n
def missingIn (g : List Int) (s l : Int) : List Int := if gridB g s = true ∧ lineOkB s l = true then missL g (lineC s l) 1 s.toNat else []
theorem missL_len (g cells : List Int) (v : Int) (n : Nat) : (missL g cells v n).length ≤ n := by
  induction n generalizing v with
  | zero => simp [missL]
  | succ n ih => have := ih (v + 1); unfold missL; rw [List.length_append]; split <;> simp <;> omega
theorem missingIn_len (g : List Int) (s l : Int) : (missingIn g s l).length ≤ 16 := by
  unfold missingIn; split
  · rename_i h
    have h1 := missL_len g (lineC s l) 1 s.toNat
    have h2 := (size_nat (gridB_size h.1)).2.2
    omega
  · exact Nat.zero_le _
theorem lineC_pos {s l : Int} (h : lineOkB s l = true) : 0 < (lineC s l).length := by
  unfold lineC; rw [if_pos h, List.length_map, List.length_range]
  rcases lineOkB_cases h with ⟨rfl, _⟩ | ⟨rfl, _⟩ | ⟨rfl, _⟩ <;> decide
theorem lineC_nil {s l : Int} (h : ¬ lineOkB s l = true) : lineC s l = [] := by unfold lineC; rw [if_neg h]
theorem specMissingIn_ev (g : List Int) (s l : Int) (h : g.length ≤ 35184372088832) : Ev (fun k => spec_MissingIn.f k g s l) (missingIn g s l) := by
  unfold spec_MissingIn.f missingIn
  simp only [Option.bind_some]
  refine Ev.bind (specGridValid_ev g s h) ?_
  by_cases hg : gridB g s = true
  · simp only [hg, if_true, true_and]
    refine Ev.bind (specLineCells_ev s l) ?_
    obtain ⟨hsn, hs2, hs4⟩ := size_nat (gridB_size hg)
    have hlen := gridB_len hg
    have hcl := lineC_len s l
    by_cases hl : lineOkB s l = true
    · simp only [hl, if_true]
      have hpos := lineC_pos hl
      have hd : decide (((lineC s l).length : Int) > 0) = true := decide_eq_true (by omega)
      have := Ev.range (L := fun k (x : List Int) i => spec_MissingIn.l0 k g s x (lineC s l) (i + 1)) (R := fun _ _ => missL g (lineC s l) 1 s.toNat) (N := s.toNat) (fun x n => missL g (lineC s l) 1 s.toNat = x ++ missL g (lineC s l) ((n : Int) + 1) (s.toNat - n) ∧ x.length ≤ n) ?_ ?_ [] 0 (Nat.zero_le _) ⟨by simp, Nat.le_refl _⟩
      · simpa using this
      · rintro x ⟨hx, _⟩
        refine Ev.step (fun k => spec_MissingIn.l0.eq_2 _ _ _ _ _ k) ?_
        have h1 : ¬ ((s.toNat : Nat) : Int) + 1 ≤ s := by omega
        simp only [h1, if_false]
        refine Ev.step (fun k => spec_MissingIn.j1.eq_2 _ _ _ _ _ _ k) ?_
        simp only [Bool.false_eq_true, if_false]
        rw [hx, Nat.sub_self, missL, List.append_nil]
        exact Ev.now _
      · rintro x n hn ⟨hx, hxl⟩ ih
        refine Ev.step (fun k => spec_MissingIn.l0.eq_2 _ _ _ _ _ k) ?_
        have h1 : (n : Int) + 1 ≤ s := by omega
        simp only [h1, if_true, hd]
        refine Ev.step (fun k => spec_MissingIn.j1.eq_2 _ _ _ _ _ _ k) ?_
        simp only [if_true]
        have hw : wrap64 ((n : Int) + 1 + 1) = ((n + 1 : Nat) : Int) + 1 := by unfold wrap64; omega
        have e : s.toNat - n = (s.toNat - (n + 1)) + 1 := by omega
        have e2 : (n : Int) + 1 + 1 = ((n + 1 : Nat) : Int) + 1 := by omega
        rw [e, missL, e2] at hx
        have hxs : x.length < 17592186044416 := by omega
        have := Ev.range (L := fun k (b : Bool) i => spec_MissingIn.l1 k g s x (lineC s l) ((n : Int) + 1) b i) (R := fun _ _ => missL g (lineC s l) 1 s.toNat) (N := (lineC s l).length)
          (fun b j => (lineC s l).any (fun c => rd g c == (n : Int) + 1) = (b || ((lineC s l).drop j).any (fun c => rd g c == (n : Int) + 1))) ?_ ?_ false 0 (Nat.zero_le _) (by simp)
        · simpa using this
        · intro b hb
          refine Ev.step (fun k => spec_MissingIn.l1.eq_2 _ _ _ _ _ _ _ k) ?_
          rw [List.drop_length, List.any_nil, Bool.or_false] at hb
          simp only [Int.lt_irrefl, if_false, hw]
          by_cases hbt : b = true
          · simp only [hbt, if_true]
            refine ih x ⟨?_, by omega⟩
            rw [hx, hb, hbt]; simp
          · have hbf : b = false := eq_false_of_ne_true hbt
            simp only [hbf, Bool.false_eq_true, if_false, hxs, if_true]
            refine ih (x ++ [(n : Int) + 1]) ⟨?_, by rw [List.length_append]; simp; omega⟩
            rw [hx, hb, hbf]; simp
        · intro b j hj hb ihj
          refine Ev.step (fun k => spec_MissingIn.l1.eq_2 _ _ _ _ _ _ _ k) ?_
          have hc := lineC_mem (lineC s l)[j] (List.getElem_mem hj)
          have h2 : (j : Int) < ((lineC s l).length : Int) := by omega
          have h3 : (0 : Int) ≤ j := by omega
          have h5 : (lineC s l)[j] < (g.length : Int) := by rw [hlen]; exact hc.2
          rw [drop_cons hj, List.any_cons] at hb
          simp only [h2, h3, if_true, rd_lt hj, hc.1, h5, w64n (by omega : j < 9000000000000000000)]
          by_cases hbt : b = true
          · simp only [hbt, if_true]
            refine ihj true ?_
            rw [hb, hbt]; rfl
          · have hbf : b = false := eq_false_of_ne_true hbt
            simp only [hbf, Bool.false_eq_true, if_false]
            refine ihj _ ?_
            rw [hb, hbf, Bool.false_or]
    · simp only [hl, if_false, Bool.false_eq_true]
      rw [lineC_nil hl]
      have hj : Ev (fun k => spec_MissingIn.j1 k g s [] [] 1 false) ([] : List Int) := by
        refine Ev.step (fun k => spec_MissingIn.j1.eq_2 _ _ _ _ _ _ k) ?_
        simp only [Bool.false_eq_true, if_false]; exact Ev.now _
      refine Ev.step (fun k => spec_MissingIn.l0.eq_2 _ _ _ _ _ k) ?_
      have h1 : (1 : Int) ≤ s := by omega
      have hd : decide ((([] : List Int).length : Int) > 0) = false := by decide
      simp only [h1, if_true, hd]
      exact hj
  · simp only [hg, if_false, false_and, Bool.false_eq_true]
    exact Ev.now _
theorem implMiss_eq (g t : List Int) (v : Int) (n : Nat) : impl_MissingIn.miss g t v n = missL g t v n := by
  induction n generalizing v with
  | zero => rfl
  | succ n ih => unfold impl_MissingIn.miss missL; rw [ih]
theorem implMissingIn_ev (g : List Int) (s l : Int) (h : g.length ≤ 35184372088832) : Ev (fun k => impl_MissingIn.f k g s l) (missingIn g s l) := by
  unfold impl_MissingIn.f missingIn
  by_cases hl : lineOkB s l = true
  · have hl2 := hl
    unfold lineOkB sizeOkB at hl2
    simp only [Bool.and_eq_true, decide_eq_true_eq] at hl2
    have hc : 2 ≤ s ∧ s ≤ 4 ∧ 0 ≤ l ∧ l < 2 * s := ⟨hl2.1.1, hl2.1.2, hl2.2.1, hl2.2.2⟩
    simp only [hc, and_self, if_true]
    refine Ev.bind (implLineCells_ev s l) ?_
    refine Ev.bind (implGridValid_ev g s h) ?_
    by_cases hg : gridB g s = true
    · have hlen := gridB_len hg
      have hcond : (0 < (lineC s l).length ∧ (lineC s l).length ≤ 100) ∧ (∀ x ∈ lineC s l, 0 ≤ x ∧ x < (g.length : Int)) :=
        ⟨⟨lineC_pos hl, by have := lineC_len s l; omega⟩, fun x hx => by rw [hlen]; exact lineC_mem x hx⟩
      simp only [hg, if_true, hl, and_self]
      rw [if_pos hcond, implMiss_eq]
      exact Ev.now _
    · simp only [hg, if_false, false_and, Bool.false_eq_true]
      exact Ev.now _
  · have hc : ¬ (2 ≤ s ∧ s ≤ 4 ∧ 0 ≤ l ∧ l < 2 * s) := by
      intro hc; apply hl; unfold lineOkB sizeOkB; simp only [Bool.and_eq_true, decide_eq_true_eq]; exact ⟨⟨hc.1, hc.2.1⟩, hc.2.2⟩
    have hm : ¬ (gridB g s = true ∧ lineOkB s l = true) := fun h => hl h.2
    simp only [hc, if_false, hm]
    refine Ev.bind (implGridValid_ev g s h) ?_
    exact Ev.now _

end Go.Proofs.Ytaglakdahmepeaa.Pure
