/- What spec.SquareNumber comes to. Conditions: as stated in each. -/
import Derived.Test.YtnocdmclcdfppaaWWords
import Derived.Test.YtnocdmclcdfppaaWMore
import Derived.Test.YtnocdmclcdfppaaP11
import Derived.Test.YtnocdmclcdfppaaP12
import Derived.Test.YtnocdmclcdfppaaBase
import Derived.Test.YtnocdmclcdfppaaCandA
import Derived.Test.YtnocdmclcdfppaaClashS
import Derived.Test.YtnocdmclcdfppaaCount
import Derived.Test.YtnocdmclcdfppaaFits
import Derived.Test.YtnocdmclcdfppaaFree
import Derived.Test.YtnocdmclcdfppaaLines
import Derived.Test.YtnocdmclcdfppaaModel
import Derived.Test.YtnocdmclcdfppaaSols
namespace Go.Proofs.Ytnocdmclcdfppaa.Pure
set_option linter.unusedSimpArgs false
set_option linter.unusedVariables false
open Go.RowKit Go.Proofs.YtnocdmclcdfppaaW.PrintWords Go.Proofs.YtnocdmclcdfppaaW.PrintMore Go.Proofs.Ytnocdmclcdfppaa.P

theorem clash_free {g : List Int} {s : Int} {i : Nat} {v : Int} (hg : gridB g s = true) (hi : i < s.toNat * s.toNat) (hz : rd g (i : Nat) = 0) (hv : 0 < v) (hvs : v ≤ s) (hf : Fits g s.toNat) : linesClash (g.set i v) s 0 (2 * s.toNat) = !freeB g s.toNat i v s.toNat := by
  have hg2 := grid_set hg i (by omega : 0 ≤ v) hvs
  obtain ⟨hn, hs⟩ := size_or (gridB_size hg)
  have h1 := squareFits_iff hg2
  have h2 := fits_set hn (grid_len hg) hi hz hv hf
  unfold squareFits at h1
  rw [hg2, Bool.true_and, h2] at h1
  clear h2
  generalize linesClash (g.set i v) s 0 (2 * s.toNat) = A at h1 ⊢
  generalize freeB g s.toNat i v s.toNat = B at h1 ⊢
  revert h1
  cases A <;> cases B <;> decide
theorem l2Search_ev {s : Int} (hs : sizeOkB s = true) : ∀ (d : Nat) (g : List Int) (left : Int), d ≤ s.toNat * s.toNat → gridB g s = true → Fits g s.toNat → (∀ i : Nat, s.toNat * s.toNat - d ≤ i → rd g (i : Int) = 0) → 0 ≤ left → left ≤ 9223372036854775807 → Ev (fun k => spec_l2Search.f k g s ((s.toNat * s.toNat - d : Nat) : Int) left) (srch s.toNat (s.toNat * s.toNat) d g left)
  | 0, g, left, _, hg, _, _, h0, h1 => by
    refine Ev.step (fun k => spec_l2Search.f.eq_2 _ _ _ _ k) ?_
    have hlen := grid_len hg
    have e : ((s.toNat * s.toNat - 0 : Nat) : Int) = (g.length : Int) := by omega
    simp only [e, if_true]
    unfold srch
    by_cases hz : left = 0
    · simp only [hz, if_true]; exact Ev.now _
    · simp only [hz, if_false]
      rw [w64 (x := left - 1) (by omega) (by omega)]
      exact Ev.now _
  | d + 1, g, left, hd, hg, hf, hz, h0, h1 => by
    refine Ev.step (fun k => spec_l2Search.f.eq_2 _ _ _ _ k) ?_
    have hlen := grid_len hg
    obtain ⟨hn, hsn⟩ := size_or hs
    have e : ¬ ((s.toNat * s.toNat - (d + 1) : Nat) : Int) = (g.length : Int) := by omega
    have hpos : 0 < g.length := by omega
    simp only [e, if_false]
    unfold srch
    obtain ⟨n, hnn⟩ : ∃ n, s.toNat = n := ⟨_, rfl⟩
    obtain ⟨i, hi⟩ : ∃ i, s.toNat * s.toNat - (d + 1) = i := ⟨_, rfl⟩
    have hi16 : i < 16 ∧ i < g.length ∧ i + (d + 1) = s.toNat * s.toNat := by
      have := gridB_le hg; omega
    rw [hi]
    have := Ev.range (L := fun k (x : Int) j => spec_l2Search.l0 k g s (i : Int) (j + 1) x) (R := fun x j => trV (srch s.toNat (s.toNat * s.toNat) d) g s.toNat i ((j : Int) + 1) (s.toNat - j) x) (N := s.toNat) (fun x j => 0 ≤ x ∧ x ≤ 9223372036854775807) ?_ ?_ left 0 (Nat.zero_le _) ⟨h0, h1⟩
    · simpa using this
    · rintro x ⟨hx0, hx1⟩
      refine Ev.step (fun k => spec_l2Search.l0.eq_2 _ _ _ _ _ k) ?_
      have h1 : ¬ ((s.toNat : Nat) : Int) + 1 ≤ s := by omega
      simp only [h1, if_false, Nat.sub_self, trV]
      exact Ev.now _
    · rintro x j hj ⟨hx0, hx1⟩ ih
      refine Ev.step (fun k => spec_l2Search.l0.eq_2 _ _ _ _ _ k) ?_
      have h1 : (j : Int) + 1 ≤ s := by omega
      have h2 : (0 : Int) ≤ (i : Int) := by omega
      have h3 : (i : Int) < (g.length : Int) := by omega
      have h16 := gridB_le hg
      have h4 : ([] : List Int).length + g.length < 17592186044416 := by simp; omega
      have hilt : i < s.toNat * s.toNat := by omega
      have hj1 : 0 < (j : Int) + 1 := by omega
      simp only [h1, if_true, Option.bind_some, h4, List.nil_append, h2, h3, Int.toNat_natCast]
      have hgs := grid_set hg i (by omega : 0 ≤ (j : Int) + 1) h1
      refine Ev.bind (l2Clash_ev hgs) ?_
      have hzi : rd g (i : Int) = 0 := hz i (by omega)
      rw [clash_free hg hilt hzi hj1 h1 hf]
      have hstep : s.toNat - j = (s.toNat - (j + 1)) + 1 := by omega
      rw [hstep, trV]
      have hw : wrap64 ((j : Int) + 1 + 1) = ((j + 1 : Nat) : Int) + 1 := by unfold wrap64; omega
      have hcast : (((j + 1 : Nat) : Int)) = (j : Int) + 1 := by omega
      cases hb : freeB g s.toNat i ((j : Int) + 1) s.toNat with
      | false =>
        simp only [Bool.not_false, if_true, Bool.false_eq_true, if_false, hw]
        exact ih x ⟨hx0, hx1⟩
      | true =>
        simp only [Bool.not_true, if_true, Bool.false_eq_true, if_false]
        have hfs : Fits (g.set i ((j : Int) + 1)) s.toNat := (fits_set hn hlen hilt hzi hj1 hf).2 hb
        have hrec := l2Search_ev hs d (g.set i ((j : Int) + 1)) x (Nat.le_of_succ_le hd) hgs hfs (fun i' hi' => by rw [rd_set_ne (by clear hw hcast ih; omega)]; exact hz i' (by clear hw hcast ih; omega)) hx0 hx1
        have hwi : wrap64 ((i : Int) + 1) = ((s.toNat * s.toNat - d : Nat) : Int) := by
          clear hw hcast ih
          rw [w64n (by omega)]; omega
        rw [hwi]
        refine Ev.bind hrec ?_
        have hl := srch_left (n := s.toNat) (N := s.toNat * s.toNat) (d := d) (g := g.set i ((j : Int) + 1)) (left := x) (by rw [List.length_set]; exact hpos) hx0
        by_cases hp : 0 < (srch s.toNat (s.toNat * s.toNat) d (g.set i ((j : Int) + 1)) x).1.length
        · have hp2 : ((srch s.toNat (s.toNat * s.toNat) d (g.set i ((j : Int) + 1)) x).1.length : Int) > 0 := by omega
          simp only [hp, hp2, if_true]
          exact Ev.now _
        · have hp2 : ¬ ((srch s.toNat (s.toNat * s.toNat) d (g.set i ((j : Int) + 1)) x).1.length : Int) > 0 := by omega
          simp only [hp, hp2, if_false, hw]
          exact ih _ ⟨hl.1, by omega⟩
theorem specSquareNumber_ev (s m : Int) (h : m ≤ 9223372036854775807) : Ev (fun k => spec_SquareNumber.f k s m) (squareNumber s m) := by
  unfold spec_SquareNumber.f squareNumber
  by_cases hc : 2 ≤ s ∧ s ≤ 4 ∧ 0 ≤ m
  · have hs : sizeOkB s = true := by unfold sizeOkB; rw [decide_eq_true_iff]; exact ⟨hc.1, hc.2.1⟩
    rw [if_pos ⟨hs, hc.2.2⟩]
    simp only [hc, and_self, if_true]
    obtain ⟨hn, hsn⟩ := size_or hs
    have e : List.replicate (wrap64 (s * s)).toNat (0 : Int) = zeros s := by
      unfold zeros
      have : (wrap64 (s * s)).toNat = s.toNat * s.toNat := by rcases sizeOkB_iff.1 hs with rfl | rfl | rfl <;> decide +kernel
      rw [this]
    rw [e]
    have hz0 : (0 : Int) = ((s.toNat * s.toNat - s.toNat * s.toNat : Nat) : Int) := by omega
    have := l2Search_ev hs (s.toNat * s.toNat) (zeros s) m (Nat.le_refl _) (zeros_grid hs) (zeros_fits s) (fun i _ => rd_zeros s i) hc.2.2 h
    rw [← hz0] at this
    refine Ev.bind this ?_
    rw [srch_eq _ _ _ _ _ (by unfold zeros; rw [List.length_replicate]; rcases hn with h | h | h <;> rw [h] <;> decide) hc.2.2]
    have hl := allSquares_len hs
    show Ev (fun _ => if (numbered (allSquares s) m).1.length < 17592186044416 then some (numbered (allSquares s) m).1 else none) ((allSquares s).getD m.toNat [])
    have e2 : (numbered (allSquares s) m).1 = (allSquares s).getD m.toNat [] := by
      unfold numbered
      split
      · rfl
      · rw [List.getD_eq_getElem?_getD, List.getElem?_eq_none (by omega)]; rfl
    rw [e2]
    have h16 := squareNumber_len s m
    unfold squareNumber at h16
    rw [if_pos ⟨hs, hc.2.2⟩] at h16
    rw [if_pos (by omega)]
    exact Ev.now _
  · have hs : ¬ (sizeOkB s = true ∧ 0 ≤ m) := by
      unfold sizeOkB; rw [decide_eq_true_iff]; omega
    rw [if_neg hs]
    simp only [hc, if_false]
    exact Ev.now _

end Go.Proofs.Ytnocdmclcdfppaa.Pure
