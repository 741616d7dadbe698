/- What PairsIn comes to. Conditions: as stated in each. -/
import Derived.Test.YtaglakdahmepeaaWWords
import Derived.Test.YtaglakdahmepeaaWMore
import Derived.Test.YtaglakdahmepeaaP1
import Derived.Test.YtaglakdahmepeaaP16
import Derived.Test.YtaglakdahmepeaaP37
import Derived.Test.YtaglakdahmepeaaP38
import Derived.Test.YtaglakdahmepeaaP4
import Derived.Test.YtaglakdahmepeaaP7
import Derived.Test.YtaglakdahmepeaaP9
import Derived.Test.YtaglakdahmepeaaBase
import Derived.Test.YtaglakdahmepeaaLineC
import Derived.Test.YtaglakdahmepeaaLines
import Derived.Test.YtaglakdahmepeaaMCount
import Derived.Test.YtaglakdahmepeaaMGrid
import Derived.Test.YtaglakdahmepeaaMaskVals
import Derived.Test.YtaglakdahmepeaaMasksV
import Derived.Test.YtaglakdahmepeaaModel
import Derived.Test.YtaglakdahmepeaaNarrow
namespace Go.Proofs.Ytaglakdahmepeaa.Pure
set_option linter.unusedSimpArgs false
set_option linter.unusedVariables false
open Go.RowKit Go.Proofs.YtaglakdahmepeaaW.PrintWords Go.Proofs.YtaglakdahmepeaaW.PrintMore Go.Proofs.Ytaglakdahmepeaa.P

def sumTo (f : Nat → Int) : Nat → Int
  | 0 => 0
  | n + 1 => sumTo f n + f n
def twoB (x : Int) : Bool := decide (((mvals x).length : Int) = 2)
/-- Are places i and j of these cells a pair? -/
def pairQ (m cs : List Int) (i j : Nat) : Int := if rd m (rd cs (i : Int)) = rd m (rd cs (j : Int)) then (if twoB (rd m (rd cs (i : Int))) = true then 1 else 0) else 0
theorem pairQ_symm (m cs : List Int) (i j : Nat) : pairQ m cs i j = pairQ m cs j i := by
  unfold pairQ
  by_cases h : rd m (rd cs (i : Int)) = rd m (rd cs (j : Int))
  · rw [if_pos h, if_pos h.symm, h]
  · rw [if_neg h, if_neg (fun e => h e.symm)]
theorem pairQ_01 (m cs : List Int) (i j : Nat) : 0 ≤ pairQ m cs i j ∧ pairQ m cs i j ≤ 1 := by
  unfold pairQ
  split
  · split <;> decide
  · decide
theorem sumTo_le {f : Nat → Int} {b : Nat} (h : ∀ i, 0 ≤ f i ∧ f i ≤ (b : Int)) : ∀ n, 0 ≤ sumTo f n ∧ sumTo f n ≤ (n : Int) * (b : Int)
  | 0 => by simp [sumTo]
  | n + 1 => by
    have := sumTo_le h n
    have := h n
    unfold sumTo
    have e : ((n + 1 : Nat) : Int) * (b : Int) = (n : Int) * (b : Int) + (b : Int) := by push_cast; rw [Int.add_mul, Int.one_mul]
    omega
def pairsIn (m : List Int) (s l : Int) : Int := if masksB m s = true ∧ lineOkB s l = true then sumTo (fun i => sumTo (fun j => pairQ m (lineC s l) i j) i) s.toNat else -1
theorem sums_eq (q : Nat → Nat → Int) (h : ∀ i j, q i j = q j i) {n : Nat} (hn : n = 2 ∨ n = 3 ∨ n = 4) : sumTo (fun i => sumTo (fun d => q i (i + 1 + d)) (n - (i + 1))) n = sumTo (fun i => sumTo (fun j => q i j) i) n := by
  have h10 := h 1 0
  have h20 := h 2 0
  have h21 := h 2 1
  have h30 := h 3 0
  have h31 := h 3 1
  have h32 := h 3 2
  rcases hn with rfl | rfl | rfl <;> simp only [sumTo, Nat.reduceSub, Nat.reduceAdd] <;> omega
theorem lineC_length {s l : Int} (h : lineOkB s l = true) : (lineC s l).length = s.toNat := by
  unfold lineC; rw [if_pos h, List.length_map, List.length_range]
theorem rd_drop (xs : List Int) (d t : Nat) : rd (xs.drop d) (t : Int) = rd xs ((d + t : Nat) : Int) := by
  rw [rd_nat, rd_nat]
  simp [List.getD_eq_getElem?_getD, List.getElem?_drop]
theorem specPairsN_ev {m : List Int} {n : Nat} {cs : List Int} (hm : masksB m (n : Int) = true) (hl : cs.length = n) (hc : ∀ c ∈ cs, 0 ≤ c ∧ c < (m.length : Int)) : Ev (fun k => spec_PairsIn.l0 k m (n : Int) cs 0 0) (sumTo (fun i => sumTo (fun j => pairQ m cs i j) i) n) := by
  have hn := size_nat_or (masksB_size hm)
  have := Ev.range (L := fun k (x : Int) i => spec_PairsIn.l0 k m (n : Int) cs x i) (R := fun _ _ => sumTo (fun i => sumTo (fun j => pairQ m cs i j) i) n) (N := n) (fun x i => x = sumTo (fun i => sumTo (fun j => pairQ m cs i j) i) i ∧ (0 ≤ x ∧ x ≤ 4 * (i : Int))) ?_ ?_ 0 0 (Nat.zero_le _) ⟨rfl, by decide⟩
  · simpa using this
  · rintro x ⟨rfl, _⟩
    refine Ev.step (fun k => spec_PairsIn.l0.eq_2 _ _ _ _ _ k) ?_
    simp only [Int.lt_irrefl, if_false]
    exact Ev.now _
  · rintro x i hi ⟨hx, hx0⟩ ih
    refine Ev.step (fun k => spec_PairsIn.l0.eq_2 _ _ _ _ _ k) ?_
    have h1 : (i : Int) < (n : Int) := by omega
    simp only [h1, if_true]
    have := Ev.range (L := fun k (y : Int) j => spec_PairsIn.l1 k m (n : Int) cs y (i : Int) j) (R := fun _ _ => sumTo (fun i => sumTo (fun j => pairQ m cs i j) i) n) (N := i) (fun y j => y = x + sumTo (fun j => pairQ m cs i j) j ∧ (x ≤ y ∧ y ≤ x + (j : Int))) ?_ ?_ x 0 (Nat.zero_le _) ⟨by simp [sumTo], by omega⟩
    · simpa using this
    · rintro y ⟨hy, hy0⟩
      refine Ev.step (fun k => spec_PairsIn.l1.eq_2 _ _ _ _ _ _ k) ?_
      simp only [Int.lt_irrefl, if_false, w64n (by omega : i < 9000000000000000000)]
      refine ih _ ⟨?_, by omega⟩
      rw [hy, hx]; rfl
    · rintro y j hj ⟨hy, hy0⟩ ihj
      refine Ev.step (fun k => spec_PairsIn.l1.eq_2 _ _ _ _ _ _ k) ?_
      have h2 : (j : Int) < (i : Int) := by omega
      have h3 : (i : Int) < (cs.length : Int) := by omega
      have h4 : (j : Int) < (cs.length : Int) := by omega
      have h5 : (0 : Int) ≤ (i : Int) := by omega
      have h6 : (0 : Int) ≤ (j : Int) := by omega
      have hci := hc _ (rd_mem h5 h3)
      have hcj := hc _ (rd_mem h6 h4)
      have hw : wrap64 (y + 1) = y + 1 := by unfold wrap64; omega
      simp only [h2, h3, h4, h5, h6, hci.1, hci.2, hcj.1, hcj.2, if_true, hw, w64n (by omega : j < 9000000000000000000)]
      have hq := pairQ_01 m cs i j
      have hgo : ∀ z, z = y + pairQ m cs i j → Ev (fun k => spec_PairsIn.l1 k m (n : Int) cs z (i : Int) ((j + 1 : Nat) : Int)) (sumTo (fun i => sumTo (fun j => pairQ m cs i j) i) n) := by
        intro z hz
        refine ihj z ⟨?_, by omega⟩
        rw [hz, hy, sumTo]; omega
      by_cases he : rd m (rd cs (i : Int)) = rd m (rd cs (j : Int))
      · simp only [he, if_true]
        refine Ev.bind (specMaskValues_ev _) ?_
        by_cases ht : ((mvals (rd m (rd cs (j : Int)))).length : Int) = 2
        · simp only [ht, if_true]
          refine hgo _ ?_
          rw [pairQ, if_pos he, he, if_pos (by unfold twoB; exact decide_eq_true ht)]
        · simp only [ht, if_false]
          refine hgo _ ?_
          rw [pairQ, if_pos he, he, if_neg (by unfold twoB; rw [decide_eq_false ht]; decide), Int.add_zero]
      · simp only [he, if_false]
        refine hgo _ ?_
        rw [pairQ, if_neg he, Int.add_zero]
theorem specPairsIn_ev (m : List Int) (s l : Int) (h : m.length ≤ 35184372088832) : Ev (fun k => spec_PairsIn.f k m s l) (pairsIn m s l) := by
  unfold spec_PairsIn.f pairsIn
  refine Ev.bind (specLineCells_ev s l) ?_
  refine Ev.bind (specMasksValid_ev m s h) ?_
  have hno : Ev (fun k => spec_PairsIn.j0 k m s (lineC s l) true) (-1) := by
    refine Ev.step (fun k => spec_PairsIn.j0.eq_2 _ _ _ _ k) ?_
    simp only [if_true]; exact Ev.now _
  by_cases hm : masksB m s = true
  · by_cases hl : lineOkB s l = true
    · obtain ⟨hsn, h2, h4⟩ := size_nat (masksB_size hm)
      have hll := lineC_length hl
      have hnz : (((lineC s l).length : Int) == 0) = false := by rw [hll]; simp; omega
      simp only [hm, hl, and_self, if_true, hnz]
      refine Ev.step (fun k => spec_PairsIn.j0.eq_2 _ _ _ _ k) ?_
      simp only [Bool.false_eq_true, if_false]
      have hml := masksB_len hm
      have hmm := hm
      rw [← hsn] at hmm
      have := specPairsN_ev hmm hll (fun c hc => by rw [hml]; exact lineC_mem c hc)
      rwa [hsn] at this
    · have hll : (lineC s l).length = 0 := by unfold lineC; rw [if_neg hl]; rfl
      have hnz : (((lineC s l).length : Int) == 0) = true := by rw [hll]; rfl
      simp only [hm, hl, and_false, if_false, if_true, hnz, Bool.false_eq_true]
      exact hno
  · simp only [hm, false_and, if_false, Bool.false_eq_true]
    exact hno
theorem implPairsN_ev {m : List Int} {n : Nat} {cs : List Int} (hm : masksB m (n : Int) = true) (hl : cs.length = n) (hc : ∀ c ∈ cs, 0 ≤ c ∧ c < (m.length : Int)) : Ev (fun k => impl_PairsInV.l0 k m cs 0 cs (cs.length : Int) 0) (sumTo (fun i => sumTo (fun j => pairQ m cs i j) i) n) := by
  have hn := size_nat_or (masksB_size hm)
  rw [← sums_eq _ (pairQ_symm m cs) hn]
  have := Ev.range (L := fun k (x : Int) i => impl_PairsInV.l0 k m cs x cs (cs.length : Int) i) (R := fun _ _ => sumTo (fun i => sumTo (fun d => pairQ m cs i (i + 1 + d)) (n - (i + 1))) n) (N := n) (fun x i => x = sumTo (fun i => sumTo (fun d => pairQ m cs i (i + 1 + d)) (n - (i + 1))) i ∧ (0 ≤ x ∧ x ≤ 4 * (i : Int))) ?_ ?_ 0 0 (Nat.zero_le _) ⟨rfl, by decide⟩
  · simpa using this
  · rintro x ⟨rfl, _⟩
    refine Ev.step (fun k => impl_PairsInV.l0.eq_2 _ _ _ _ _ _ k) ?_
    have h1 : ¬ (n : Int) < (cs.length : Int) := by omega
    simp only [h1, if_false]
    exact Ev.now _
  · rintro x i hi ⟨hx, hx0⟩ ih
    refine Ev.step (fun k => impl_PairsInV.l0.eq_2 _ _ _ _ _ _ k) ?_
    have h1 : (i : Int) < (cs.length : Int) := by omega
    have h2 : (0 : Int) ≤ (i : Int) := by omega
    have h3 : (0 : Int) ≤ ((i + 1 : Nat) : Int) := by omega
    have h4 : ((i + 1 : Nat) : Int) ≤ (cs.length : Int) := by omega
    simp only [h1, h2, h3, h4, if_true, w64n (by omega : i < 9000000000000000000), Option.bind_some, Int.toNat_natCast]
    have hdl : (cs.drop (i + 1)).length = n - (i + 1) := by rw [List.length_drop, hl]
    have hci := hc _ (rd_mem h2 h1)
    have := Ev.range (L := fun k (y : Int) j => impl_PairsInV.l1 k m cs y (rd cs (i : Int)) cs (cs.length : Int) (i : Int) (cs.drop (i + 1)) ((cs.drop (i + 1)).length : Int) j) (R := fun _ _ => sumTo (fun i => sumTo (fun d => pairQ m cs i (i + 1 + d)) (n - (i + 1))) n) (N := n - (i + 1)) (fun y j => y = x + sumTo (fun d => pairQ m cs i (i + 1 + d)) j ∧ (x ≤ y ∧ y ≤ x + (j : Int))) ?_ ?_ x 0 (Nat.zero_le _) ⟨by simp [sumTo], by omega⟩
    · simpa using this
    · rintro y ⟨hy, hy0⟩
      refine Ev.step (fun k => impl_PairsInV.l1.eq_2 _ _ _ _ _ _ _ _ _ _ k) ?_
      have h5 : ¬ ((n - (i + 1) : Nat) : Int) < ((cs.drop (i + 1)).length : Int) := by omega
      simp only [h5, if_false, w64n (by omega : i < 9000000000000000000)]
      refine ih _ ⟨?_, by omega⟩
      rw [hy, hx]; rfl
    · rintro y j hj ⟨hy, hy0⟩ ihj
      refine Ev.step (fun k => impl_PairsInV.l1.eq_2 _ _ _ _ _ _ _ _ _ _ k) ?_
      have h5 : (j : Int) < ((cs.drop (i + 1)).length : Int) := by omega
      have h6 : (0 : Int) ≤ (j : Int) := by omega
      have h7 : ((i + 1 + j : Nat) : Int) < (cs.length : Int) := by omega
      have hcj := hc _ (rd_mem (g := cs) (i := ((i + 1 + j : Nat) : Int)) (by omega) h7)
      have hmv := mask_even hm (rd_mem hcj.1 hcj.2)
      have hw : wrap64 (y + 1) = y + 1 := by unfold wrap64; omega
      simp only [h5, h6, rd_drop, hci.1, hci.2, hcj.1, hcj.2, if_true, hw, w64n (by omega : j < 9000000000000000000)]
      have hq := pairQ_01 m cs i (i + 1 + j)
      have hgo : ∀ z, z = y + pairQ m cs i (i + 1 + j) → Ev (fun k => impl_PairsInV.l1 k m cs z (rd cs (i : Int)) cs (cs.length : Int) (i : Int) (cs.drop (i + 1)) ((cs.drop (i + 1)).length : Int) ((j + 1 : Nat) : Int)) (sumTo (fun i => sumTo (fun d => pairQ m cs i (i + 1 + d)) (n - (i + 1))) n) := by
        intro z hz
        refine ihj z ⟨?_, by omega⟩
        rw [hz, hy, sumTo]; omega
      by_cases he : rd m (rd cs (i : Int)) = rd m (rd cs ((i + 1 + j : Nat) : Int))
      · simp only [he, if_true, onesCount_eq hmv, Option.bind_some]
        by_cases ht : ((mvals (rd m (rd cs ((i + 1 + j : Nat) : Int)))).length : Int) = 2
        · simp only [ht, if_true]
          refine hgo _ ?_
          rw [pairQ, if_pos he, he, if_pos (by unfold twoB; exact decide_eq_true ht)]
        · simp only [ht, if_false]
          refine hgo _ ?_
          rw [pairQ, if_pos he, he, if_neg (by unfold twoB; rw [decide_eq_false ht]; decide), Int.add_zero]
      · simp only [he, if_false]
        refine hgo _ ?_
        rw [pairQ, if_neg he, Int.add_zero]
theorem implPairsIn_ev (m : List Int) (s l : Int) (h : m.length ≤ 35184372088832) (hw : ∀ x ∈ m, x ≤ 9223372036854775807) : Ev (fun k => impl_PairsIn.f k m s l) (pairsIn m s l) := by
  unfold impl_PairsIn.f pairsIn
  by_cases hl : lineOkB s l = true
  · have hl' := hl
    unfold lineOkB sizeOkB at hl'
    simp only [Bool.and_eq_true, decide_eq_true_eq] at hl'
    simp only [hl'.1.1, hl'.1.2, hl'.2.1, hl'.2.2, and_self, if_true]
    unfold impl_PairsInV.f
    refine Ev.bind (implLineCells_ev s l) ?_
    refine Ev.bind (implMasksValid_ev m s h hw) ?_
    have hll := lineC_length hl
    by_cases hm : masksB m s = true
    · obtain ⟨hsn, h2, h4⟩ := size_nat (masksB_size hm)
      have hnz : ¬ ((lineC s l).length : Int) = 0 := by rw [hll]; omega
      simp only [hm, hl, and_self, if_true, hnz, if_false]
      refine Ev.step (fun k => impl_PairsInV.j0.eq_2 _ _ _ k) ?_
      simp only [Bool.false_eq_true, if_false]
      have hml := masksB_len hm
      have hmm := hm
      rw [← hsn] at hmm
      exact implPairsN_ev hmm hll (fun c hc => by rw [hml]; exact lineC_mem c hc)
    · simp only [hm, false_and, if_false, Bool.false_eq_true]
      refine Ev.step (fun k => impl_PairsInV.j0.eq_2 _ _ _ k) ?_
      simp only [if_true]
      exact Ev.now _
  · have hl' : ¬ (2 ≤ s ∧ s ≤ 4 ∧ 0 ≤ l ∧ l < 2 * s) := by
      intro hh; apply hl
      unfold lineOkB sizeOkB
      simp only [Bool.and_eq_true, decide_eq_true_eq]
      exact ⟨⟨hh.1, hh.2.1⟩, hh.2.2⟩
    simp only [hl', hl, and_false, if_false, Bool.false_eq_true]
    refine Ev.bind (implMasksValid_ev m s h hw) ?_
    exact Ev.now _

end Go.Proofs.Ytaglakdahmepeaa.Pure
