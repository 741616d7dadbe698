/- What impl's test of the lines comes to. Conditions: as stated in each. -/
import Derived.Test.YtaglakdahmepeaaWWords
import Derived.Test.YtaglakdahmepeaaWMore
import Derived.Test.YtaglakdahmepeaaP3
import Derived.Test.YtaglakdahmepeaaP4
import Derived.Test.YtaglakdahmepeaaP5
import Derived.Test.YtaglakdahmepeaaBase
import Derived.Test.YtaglakdahmepeaaGridV
import Derived.Test.YtaglakdahmepeaaLineC
import Derived.Test.YtaglakdahmepeaaLines
import Derived.Test.YtaglakdahmepeaaMHave
import Derived.Test.YtaglakdahmepeaaModel
namespace Go.Proofs.Ytaglakdahmepeaa.Pure
set_option linter.unusedSimpArgs false
set_option linter.unusedVariables false
open Go.RowKit Go.Proofs.YtaglakdahmepeaaW.PrintWords Go.Proofs.YtaglakdahmepeaaW.PrintMore Go.Proofs.Ytaglakdahmepeaa.P

/-- An array that tells what has been seen. -/
def SeenA (x : List Bool) (seen : List Int) : Prop := x.length = 5 ∧ ∀ u : Int, 0 ≤ u → u ≤ 4 → (rdOf false x u = true ↔ u ∈ seen)
theorem SeenA.start : SeenA [false, false, false, false, false] [] := by
  refine ⟨rfl, fun u h0 h1 => ?_⟩
  have : u = 0 ∨ u = 1 ∨ u = 2 ∨ u = 3 ∨ u = 4 := by omega
  rcases this with rfl | rfl | rfl | rfl | rfl <;> decide
theorem SeenA.step {x : List Bool} {v : Int} {seen : List Int} (h : SeenA x seen) (hv : 0 ≤ v ∧ v ≤ 4) : SeenA (x.set v.toNat true) (v :: seen) := by
  obtain ⟨hl, h2⟩ := h
  refine ⟨by rw [List.length_set]; exact hl, fun u h0 h1 => ?_⟩
  have e : rdOf false (x.set v.toNat true) u = (decide (u = v) || rdOf false x u) := by
    unfold rdOf
    rw [List.getD_eq_getElem?_getD, List.getD_eq_getElem?_getD, List.getElem?_set]
    by_cases hu : v.toNat = u.toNat
    · have : u = v := by omega
      rw [if_pos hu, if_pos (by omega), decide_eq_true this]; rfl
    · have : ¬ u = v := by omega
      rw [if_neg hu, decide_eq_false this]; rfl
  rw [e, List.mem_cons, Bool.or_eq_true, h2 u h0 h1, decide_eq_true_iff]
theorem implSquareFits_ev (g : List Int) (s : Int) (h : g.length ≤ 35184372088832) : Ev (fun k => impl_SquareFits.f k g s) (squareFits g s) := by
  unfold impl_SquareFits.f squareFits
  refine Ev.bind (implGridValid_ev g s h) ?_
  by_cases hg : gridB g s = true
  · simp only [hg, if_true, Bool.true_and]
    obtain ⟨hsn, hs2, hs4⟩ := size_nat (gridB_size hg)
    have hw : wrap64 (2 * s) = ((2 * s.toNat : Nat) : Int) := by unfold wrap64; omega
    have hlen := gridB_len hg
    refine Ev.range0 (L := fun k i => impl_SquareFits.l0 k g s i) (R := fun n => !linesClash g s n (2 * s.toNat - n)) (N := 2 * s.toNat) ?_ ?_ 0 (Nat.zero_le _)
    · refine Ev.step (fun k => impl_SquareFits.l0.eq_2 _ _ _ k) ?_
      simp only [hw, Int.lt_irrefl, if_false, Nat.sub_self, linesClash]
      exact Ev.now _
    · intro n hn ih
      refine Ev.step (fun k => impl_SquareFits.l0.eq_2 _ _ _ k) ?_
      have h1 : (n : Int) < ((2 * s.toNat : Nat) : Int) := by omega
      simp only [hw, h1, if_true]
      refine Ev.bind (implLineCells_ev s n) ?_
      have e : 2 * s.toNat - n = (2 * s.toNat - (n + 1)) + 1 := by omega
      rw [e, linesClash]
      have hb := lineC_len s n
      have := Ev.range (L := fun k (x : List Bool) i => impl_SquareFits.l1 k g s n (lineC s n) x i) (R := fun _ _ => !(clashL g (lineC s n) [] || linesClash g s (n + 1) (2 * s.toNat - (n + 1)))) (N := (lineC s n).length)
        (fun x j => ∃ seen, SeenA x seen ∧ clashL g (lineC s n) [] = clashL g ((lineC s n).drop j) seen) ?_ ?_ [false, false, false, false, false] 0 (Nat.zero_le _) ⟨[], SeenA.start, by simp⟩
      · simpa using this
      · rintro x ⟨seen, hx, he⟩
        refine Ev.step (fun k => impl_SquareFits.l1.eq_2 _ _ _ _ _ _ k) ?_
        have e2 : clashL g (lineC s n) [] = false := by rw [he, List.drop_length]; rfl
        simp only [Int.lt_irrefl, if_false, e2, Bool.false_or, w64n (by omega : n < 9000000000000000000)]
        exact ih
      · rintro x j hj ⟨seen, hx, he⟩ ihj
        refine Ev.step (fun k => impl_SquareFits.l1.eq_2 _ _ _ _ _ _ k) ?_
        have hc := lineC_mem (lineC s n)[j] (List.getElem_mem hj)
        have h2 : (j : Int) < ((lineC s n).length : Int) := by omega
        have h3 : (0 : Int) ≤ j := by omega
        have h5 : (lineC s n)[j] < (g.length : Int) := by rw [hlen]; exact hc.2
        have hv := val_le hg (rd_mem hc.1 h5)
        have h6 : rd g (lineC s n)[j] < (x.length : Int) := by rw [hx.1]; omega
        rw [drop_cons hj, clashL] at he
        simp only [h2, h3, if_true, rd_lt hj, hc.1, h5, h6, hv.1, w64n (by omega : j < 9000000000000000000)]
        have hstep : ¬ (0 < rd g (lineC s n)[j] ∧ rd g (lineC s n)[j] ∈ seen) → Ev (fun k => impl_SquareFits.l1 k g s n (lineC s n) (x.set (rd g (lineC s n)[j]).toNat true) ((j + 1 : Nat) : Int)) (!(clashL g (lineC s n) [] || linesClash g s (n + 1) (2 * s.toNat - (n + 1)))) := by
          intro hn
          rw [if_neg hn] at he
          exact ihj _ ⟨_, hx.step hv, he⟩
        by_cases hp : 0 < rd g (lineC s n)[j]
        · have hp' : rd g (lineC s n)[j] > 0 := hp
          simp only [hp', if_true]
          by_cases ht : rdOf false x (rd g (lineC s n)[j]) = true
          · simp only [ht, if_true]
            rw [if_pos ⟨hp, (hx.2 _ hv.1 hv.2).1 ht⟩] at he
            rw [he]; exact Ev.now _
          · simp only [ht, if_false]
            exact hstep (fun h => ht ((hx.2 _ hv.1 hv.2).2 h.2))
        · have hp' : ¬ rd g (lineC s n)[j] > 0 := hp
          simp only [hp', if_false]
          exact hstep (fun h => hp h.1)
  · simp only [hg, if_false, eq_false_of_ne_true hg, Bool.false_and, Bool.false_eq_true]
    exact Ev.now _

end Go.Proofs.Ytaglakdahmepeaa.Pure
