/- What MasksGrid comes to. Conditions: as stated in each. -/
import Derived.Test.YtaglakdahmepeaaWWords
import Derived.Test.YtaglakdahmepeaaWMore
import Derived.Test.YtaglakdahmepeaaP10
import Derived.Test.YtaglakdahmepeaaP7
import Derived.Test.YtaglakdahmepeaaP8
import Derived.Test.YtaglakdahmepeaaP9
import Derived.Test.YtaglakdahmepeaaBase
import Derived.Test.YtaglakdahmepeaaFillLoop
import Derived.Test.YtaglakdahmepeaaMHave
import Derived.Test.YtaglakdahmepeaaMaskVals
import Derived.Test.YtaglakdahmepeaaMasksV
import Derived.Test.YtaglakdahmepeaaModel
namespace Go.Proofs.Ytaglakdahmepeaa.Pure
set_option linter.unusedSimpArgs false
set_option linter.unusedVariables false
open Go.RowKit Go.Proofs.YtaglakdahmepeaaW.PrintWords Go.Proofs.YtaglakdahmepeaaW.PrintMore Go.Proofs.Ytaglakdahmepeaa.P

def masksGrid (m : List Int) (s : Int) : List Int := if masksB m s = true then m.map onlyV else []
theorem masksGrid_len (m : List Int) (s : Int) : (masksGrid m s).length ≤ 16 := by
  unfold masksGrid; split
  · rename_i h; rw [List.length_map]; exact masksB_le h
  · exact Nat.zero_le _
theorem mask_even {m : List Int} {s : Int} (h : masksB m s = true) {x : Int} (hx : x ∈ m) : 0 ≤ x ∧ x ≤ 30 ∧ x % 2 = 0 := by
  have h1 := masksB_mem h x hx
  have h2 := allM_le (masksB_size h)
  exact ⟨h1.1, by omega, h1.2.2⟩
theorem only_of_vals {m : Int} (h : 0 ≤ m ∧ m ≤ 30 ∧ m % 2 = 0) : onlyV m = if ((mvals m).length : Int) = 1 then rd (mvals m) 0 else 0 := by
  rcases even_cases h with rfl | rfl | rfl | rfl | rfl | rfl | rfl | rfl | rfl | rfl | rfl | rfl | rfl | rfl | rfl | rfl <;> decide +kernel
theorem specMasksGrid_ev (m : List Int) (s : Int) (h : m.length ≤ 35184372088832) : Ev (fun k => spec_MasksGrid.f k m s) (masksGrid m s) := by
  unfold spec_MasksGrid.f masksGrid
  have hj : ∀ (x : List Int) (i : Int), Ev (fun k => spec_MasksGrid.j1 k m s x i false) x := by
    intro x i
    refine Ev.step (fun k => spec_MasksGrid.j1.eq_2 _ _ _ _ _ k) ?_
    simp only [Bool.false_eq_true, if_false]; exact Ev.now _
  by_cases hm : masksB m s = true
  · simp only [hm, if_true]
    have := Ev.range (L := fun k (x : List Int) i => spec_MasksGrid.l0 k m s x i) (R := fun _ _ => m.map onlyV) (N := m.length) (fun x n => x = (m.take n).map onlyV) ?_ ?_ [] 0 (Nat.zero_le _) rfl
    · simpa using this
    · rintro x rfl
      refine Ev.step (fun k => spec_MasksGrid.l0.eq_2 _ _ _ _ k) ?_
      simp only [Int.lt_irrefl, if_false, List.take_length]
      exact hj _ _
    · rintro x n hn rfl ih
      refine Ev.step (fun k => spec_MasksGrid.l0.eq_2 _ _ _ _ k) ?_
      have h1 : (n : Int) < (m.length : Int) := by omega
      have h0 : (0 : Int) ≤ n := by omega
      simp only [h1, if_true]
      refine Ev.bind (specMasksValid_ev m s h) ?_
      rw [hm]
      refine Ev.step (fun k => spec_MasksGrid.j1.eq_2 _ _ _ _ _ k) ?_
      simp only [if_true, h0, h1, rd_lt hn]
      refine Ev.bind (specMaskValues_ev _) ?_
      have hlen : ((m.take n).map onlyV).length < 17592186044416 := by
        rw [List.length_map, List.length_take]; have := masksB_le hm; omega
      have ho := only_of_vals (mask_even hm (List.getElem_mem hn))
      have hs : ∀ v, onlyV m[n] = v → Ev (fun k => spec_MasksGrid.l0 k m s ((m.take n).map onlyV ++ [v]) ((n + 1 : Nat) : Int)) (m.map onlyV) := by
        intro v hv
        refine ih _ ?_
        rw [List.take_succ_eq_append_getElem hn, List.map_append, List.map_singleton, hv]
      by_cases hl : ((mvals m[n]).length : Int) = 1
      · have hl1 : (0 : Int) < (1 : Int) := by decide
        simp only [hl, if_true, hl1, hlen, w64n (by omega : n < 9000000000000000000)]
        rw [if_pos hl] at ho
        exact hs _ ho
      · simp only [hl, if_false, hlen, if_true, w64n (by omega : n < 9000000000000000000)]
        rw [if_neg hl] at ho
        exact hs _ ho
  · simp only [hm, if_false, Bool.false_eq_true]
    refine Ev.step (fun k => spec_MasksGrid.l0.eq_2 _ _ _ _ k) ?_
    by_cases h1 : (0 : Int) < (m.length : Int)
    · simp only [h1, if_true]
      refine Ev.bind (specMasksValid_ev m s h) ?_
      rw [eq_false_of_ne_true hm]
      exact hj _ _
    · simp only [h1, if_false]
      exact hj _ _
theorem implMasksGrid_ev (m : List Int) (s : Int) (h : m.length ≤ 35184372088832) (hw : ∀ x ∈ m, x ≤ 9223372036854775807) : Ev (fun k => impl_MasksGrid.f k m s) (masksGrid m s) := by
  unfold impl_MasksGrid.f masksGrid
  refine Ev.bind (implMasksValid_ev m s h hw) ?_
  by_cases hm : masksB m s = true
  · have h0 : (0 : Int) ≤ (m.length : Int) := Int.natCast_nonneg _
    have h1 : ((m.length : Int) : Int).toNat ≤ 35184372088832 := by simpa using h
    simp only [hm, if_true, h0, h1]
    have := Ev.range (L := fun k (x : List Int) i => impl_MasksGrid.l0 k x m (m.length : Int) i) (R := fun _ _ => m.map onlyV) (N := m.length) (fun x n => Filled0 (m.map onlyV) x n) ?_ ?_ (List.replicate m.length 0) 0 (Nat.zero_le _) (by have := Filled0.start (m.map onlyV); rwa [List.length_map] at this)
    · simpa using this
    · intro x hx
      refine Ev.step (fun k => impl_MasksGrid.l0.eq_2 _ _ _ _ k) ?_
      simp only [Int.lt_irrefl, if_false]
      have e : x = m.map onlyV := by
        have h2 : (m.map onlyV).length = m.length := List.length_map ..
        rw [← h2] at hx; exact hx.fin
      rw [e]; exact Ev.now _
    · intro x n hn hx ih
      refine Ev.step (fun k => impl_MasksGrid.l0.eq_2 _ _ _ _ k) ?_
      have h3 : (n : Int) < (m.length : Int) := by omega
      have h4 : (0 : Int) ≤ n := by omega
      have h5 : (n : Int) < (x.length : Int) := by have := hx.1; rw [List.length_map] at this; omega
      simp only [h3, h4, h5, if_true, rd_lt hn, Int.toNat_natCast, w64n (by omega : n < 9000000000000000000)]
      refine Ev.bind (onlyValue_ev (mask_even hm (List.getElem_mem hn))) ?_
      exact ih _ (hx.set (by rw [List.length_map]; exact hn) (by simp))
  · simp only [hm, if_false, Bool.false_eq_true]
    exact Ev.now _

end Go.Proofs.Ytaglakdahmepeaa.Pure
