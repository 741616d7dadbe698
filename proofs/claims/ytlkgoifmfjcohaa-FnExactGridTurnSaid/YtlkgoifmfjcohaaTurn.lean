/- What GridTurn comes to. Conditions: as stated in each. -/
import Derived.Test.YtlkgoifmfjcohaaWWords
import Derived.Test.YtlkgoifmfjcohaaWMore
import Derived.KernelRfl
import Derived.Test.YtlkgoifmfjcohaaP2
import Derived.Test.YtlkgoifmfjcohaaP20
import Derived.Test.YtlkgoifmfjcohaaP21
import Derived.Test.YtlkgoifmfjcohaaP3
import Derived.Test.YtlkgoifmfjcohaaBase
import Derived.Test.YtlkgoifmfjcohaaGridV
import Derived.Test.YtlkgoifmfjcohaaModel
namespace Go.Proofs.Ytlkgoifmfjcohaa.Pure
set_option linter.unusedSimpArgs false
set_option linter.unusedVariables false
open Go.RowKit Go.Proofs.YtlkgoifmfjcohaaW.PrintWords Go.Proofs.YtlkgoifmfjcohaaW.PrintMore Go.Proofs.Ytlkgoifmfjcohaa.P

theorem specGridTurn_ev (g : List Int) (s : Int) (h : g.length ≤ 35184372088832) : Ev (fun k => spec_GridTurn.f k g s) (turnG g s) := by
  unfold spec_GridTurn.f
  by_cases hg : gridB g s = true
  · have e : turnG g s = turnL g s.toNat := by unfold turnG; rw [if_pos hg]
    have hl := gridB_len hg
    have := Ev.range (L := fun k (x : List Int) i => spec_GridTurn.l0 k g s x i) (R := fun _ _ => turnL g s.toNat) (N := g.length) (fun x n => x = (List.range n).map (fun k => g.getD ((s.toNat - 1 - k % s.toNat) * s.toNat + k / s.toNat) 0)) ?_ ?_ [] 0 (Nat.zero_le _) rfl
    · rw [e]; simpa using this
    · rintro x rfl
      refine Ev.step (fun k => spec_GridTurn.l0.eq_2 _ _ _ _ k) ?_
      simp only [Int.lt_irrefl, if_false]
      have hn : g.length = s.toNat * s.toNat := by
        rcases sizeOkB_iff.1 (gridB_size hg) with rfl | rfl | rfl <;> simp_all <;> omega
      rw [hn]
      exact Ev.now _
    · rintro x n hn rfl ih
      refine Ev.step (fun k => spec_GridTurn.l0.eq_2 _ _ _ _ k) ?_
      have h1 : (n : Int) < (g.length : Int) := by omega
      simp only [h1, if_true]
      refine Ev.bind (specGridValid_ev g s h) ?_
      have hs0 : ¬ s = 0 := by rcases sizeOkB_iff.1 (gridB_size hg) with rfl | rfl | rfl <;> decide
      have hidx : (wrap64 ((wrap64 ((wrap64 ((wrap64 (s - 1)) - (Int.tmod n s))) * s)) + (wrap64 (Int.tdiv n s)))) = (((s.toNat - 1 - n % s.toNat) * s.toNat + n / s.toNat : Nat) : Int) ∧ (s.toNat - 1 - n % s.toNat) * s.toNat + n / s.toNat < g.length := by
        rw [Int.tmod_eq_emod_of_nonneg (by omega), Int.tdiv_eq_ediv_of_nonneg (by omega)]
        unfold wrap64
        rcases sizeOkB_iff.1 (gridB_size hg) with rfl | rfl | rfl
        · have e1 : (2 : Int).toNat = 2 := rfl
          rw [e1]; omega
        · have e1 : (3 : Int).toNat = 3 := rfl
          rw [e1]; omega
        · have e1 : (4 : Int).toNat = 4 := rfl
          rw [e1]; omega
      obtain ⟨hi, hj⟩ := hidx
      have hj1 : (((s.toNat - 1 - n % s.toNat) * s.toNat + n / s.toNat : Nat) : Int) < (g.length : Int) := by omega
      have hj0 : (0 : Int) ≤ (((s.toNat - 1 - n % s.toNat) * s.toNat + n / s.toNat : Nat) : Int) := Int.natCast_nonneg _
      have hlen : ((List.range n).map (fun k => g.getD ((s.toNat - 1 - k % s.toNat) * s.toNat + k / s.toNat) 0)).length < 17592186044416 := by
        rw [List.length_map, List.length_range]; have := gridB_le hg; omega
      simp only [hg, if_true, hs0, if_false, hi, hj1, hj0, hlen, w64n (by omega : n < 9000000000000000000)]
      refine ih _ ?_
      rw [List.range_succ, List.map_append, List.map_singleton, rd_nat]
  · have e : turnG g s = [] := by unfold turnG; rw [if_neg hg]
    rw [e]
    refine Ev.step (fun k => spec_GridTurn.l0.eq_2 _ _ _ _ k) ?_
    by_cases h0 : (0 : Int) < (g.length : Int)
    · simp only [h0, if_true]
      refine Ev.bind (specGridValid_ev g s h) ?_
      simp only [hg, if_false, Bool.false_eq_true]
      exact Ev.now _
    · simp only [h0, if_false]
      exact Ev.now _
theorem implTurn2 (a b c d : Int) : impl_GridTurn.l0 40 [a, b, c, d] 2 [] 2 0 = some (turnL [a, b, c, d] 2) := by kernel_rfl
theorem implTurn3 (a0 a1 a2 a3 a4 a5 a6 a7 a8 : Int) : impl_GridTurn.l0 40 [a0, a1, a2, a3, a4, a5, a6, a7, a8] 3 [] 3 0 = some (turnL [a0, a1, a2, a3, a4, a5, a6, a7, a8] 3) := by kernel_rfl
theorem implTurn4 (a0 a1 a2 a3 a4 a5 a6 a7 a8 a9 a10 a11 a12 a13 a14 a15 : Int) : impl_GridTurn.l0 40 [a0, a1, a2, a3, a4, a5, a6, a7, a8, a9, a10, a11, a12, a13, a14, a15] 4 [] 4 0 = some (turnL [a0, a1, a2, a3, a4, a5, a6, a7, a8, a9, a10, a11, a12, a13, a14, a15] 4) := by kernel_rfl
theorem implTurn_mono_l : ∀ (g : List Int) (s : Int) (x : List Int) (n i : Int), ∀ k, LeO (impl_GridTurn.l0 k g s x n i) (impl_GridTurn.l0 (k + 1) g s x n i) := fun g s x n i k => (impl_GridTurn.mono_l k).1 g s x n i
theorem implGridTurn_ev (g : List Int) (s : Int) (h : g.length ≤ 35184372088832) : Ev (fun k => impl_GridTurn.f k g s) (turnG g s) := by
  unfold impl_GridTurn.f
  refine Ev.bind (implGridValid_ev g s h) ?_
  by_cases hg : gridB g s = true
  · have e : turnG g s = turnL g s.toNat := by unfold turnG; rw [if_pos hg]
    have h0 : (0 : Int) ≤ (g.length : Int) := Int.natCast_nonneg _
    have h1 : ((g.length : Int) : Int).toNat ≤ 35184372088832 := by simpa using h
    simp only [hg, if_true, h0, h1, e]
    have hl := gridB_len hg
    rcases sizeOkB_iff.1 (gridB_size hg) with rfl | rfl | rfl
    · obtain ⟨a, b, c, d, rfl⟩ := len4 (g := g) (by omega)
      exact Ev.of (implTurn_mono_l _ _ _ _ _) (implTurn2 a b c d)
    · obtain ⟨a0, a1, a2, a3, a4, a5, a6, a7, a8, rfl⟩ := len9 (g := g) (by omega)
      exact Ev.of (implTurn_mono_l _ _ _ _ _) (implTurn3 a0 a1 a2 a3 a4 a5 a6 a7 a8)
    · obtain ⟨a0, a1, a2, a3, a4, a5, a6, a7, a8, a9, a10, a11, a12, a13, a14, a15, rfl⟩ := len16 (g := g) (by omega)
      exact Ev.of (implTurn_mono_l _ _ _ _ _) (implTurn4 a0 a1 a2 a3 a4 a5 a6 a7 a8 a9 a10 a11 a12 a13 a14 a15)
  · have e : turnG g s = [] := by unfold turnG; rw [if_neg hg]
    simp only [hg, if_false, e, Bool.false_eq_true]
    exact Ev.now _

end Go.Proofs.Ytlkgoifmfjcohaa.Pure
