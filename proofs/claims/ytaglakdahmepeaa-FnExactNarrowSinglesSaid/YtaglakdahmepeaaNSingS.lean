/- What spec.NarrowSingles comes to. Conditions: as stated in each. -/
import Derived.Test.YtaglakdahmepeaaWWords
import Derived.Test.YtaglakdahmepeaaWMore
import Derived.Test.YtaglakdahmepeaaP27
import Derived.Test.YtaglakdahmepeaaP28
import Derived.Test.YtaglakdahmepeaaP7
import Derived.Test.YtaglakdahmepeaaBase
import Derived.Test.YtaglakdahmepeaaLines
import Derived.Test.YtaglakdahmepeaaMGrid
import Derived.Test.YtaglakdahmepeaaMaskVals
import Derived.Test.YtaglakdahmepeaaMasksV
import Derived.Test.YtaglakdahmepeaaModel
import Derived.Test.YtaglakdahmepeaaNarrow
namespace Go.Proofs.Ytaglakdahmepeaa.Pure
set_option linter.unusedSimpArgs false
set_option linter.unusedVariables false
open Go.RowKit Go.Proofs.YtaglakdahmepeaaW.PrintWords Go.Proofs.YtaglakdahmepeaaW.PrintMore Go.Proofs.Ytaglakdahmepeaa.P

set_option maxHeartbeats 800000 in
theorem specSinglesN_ev {m : List Int} {n : Nat} (hm : masksB m (n : Int) = true) : Ev (fun k => spec_NarrowSingles.l0 k m (n : Int) m 0) (singlesUpto m n m.length) := by
  have hn := size_nat_or (masksB_size hm)
  have hlen := masks_len hm
  have hle := masksB_le hm
  have hn0 : ¬ (n : Int) = 0 := by omega
  have := Ev.range (L := fun k (x : List Int) i => spec_NarrowSingles.l0 k m (n : Int) x i) (R := fun _ _ => singlesUpto m n m.length) (N := m.length) (fun x i => x = singlesUpto m n i) ?_ ?_ m 0 (Nat.zero_le _) rfl
  · simpa using this
  · rintro x rfl
    refine Ev.step (fun k => spec_NarrowSingles.l0.eq_2 _ _ _ _ k) ?_
    simp only [Int.lt_irrefl, if_false]
    exact Ev.now _
  · rintro x i hi rfl ih
    refine Ev.step (fun k => spec_NarrowSingles.l0.eq_2 _ _ _ _ k) ?_
    have h1 : (i : Int) < (m.length : Int) := by omega
    have h0 : (0 : Int) ≤ (i : Int) := by omega
    have hmv := mask_even hm (rd_mem h0 h1)
    simp only [h1, h0, if_true]
    refine Ev.bind (specMaskValues_ev _) ?_
    by_cases ho : onlyV (rd m (i : Int)) = 0
    · have hl : ¬ ((mvals (rd m (i : Int))).length : Int) = 1 := fun h => (one_value hmv).1 h ho
      simp only [hl, if_false, w64n (by omega : i < 9000000000000000000)]
      refine ih _ ?_
      rw [singlesUpto, if_pos ho]
    · have hl : ((mvals (rd m (i : Int))).length : Int) = 1 := (one_value hmv).2 ho
      simp only [hl, if_true]
      have := Ev.range (L := fun k (x : List Int) j => spec_NarrowSingles.l1 k m (n : Int) x (i : Int) j) (R := fun _ _ => singlesUpto m n m.length) (N := m.length)
        (fun x j => Upd (fun z => Go.bits .andNot .i64 z (rd m (i : Int))) (fun c => Sees n i c ∧ c < j) (singlesUpto m n i) x) ?_ ?_ (singlesUpto m n i) 0 (Nat.zero_le _) (Upd.start (fun c _ h => by omega))
      · simpa using this
      · intro x hx
        refine Ev.step (fun k => spec_NarrowSingles.l1.eq_2 _ _ _ _ _ k) ?_
        simp only [Int.lt_irrefl, if_false, w64n (by omega : i < 9000000000000000000)]
        refine ih _ ?_
        rw [singlesUpto, if_neg ho]
        refine hx.eq (takeSeen_upd n i _ _) (fun c hc => ?_)
        rw [singlesUpto_len] at hc
        exact ⟨fun h => h.1, fun h => ⟨h, hc⟩⟩
      · intro x j hj hx ihj
        refine Ev.step (fun k => spec_NarrowSingles.l1.eq_2 _ _ _ _ _ k) ?_
        have h3 : (j : Int) < (m.length : Int) := by omega
        have h4 : (0 : Int) ≤ (j : Int) := by omega
        have h5 : (j : Int) < (x.length : Int) := by have := hx.1; rw [singlesUpto_len] at this; omega
        have hjl : j < (singlesUpto m n i).length := by rw [singlesUpto_len]; exact hj
        simp only [h3, h4, h5, h1, h0, hn0, if_true, if_false, div_idx (by omega : j < 16), div_idx (by omega : i < 16), mod_idx, w64n (by omega : j < 9000000000000000000), Int.toNat_natCast]
        have hskip : ¬ Sees n i j → Ev (fun k => spec_NarrowSingles.l1 k m (n : Int) x (i : Int) ((j + 1 : Nat) : Int)) (singlesUpto m n m.length) := by
          intro hs
          refine ihj _ (hx.skip (fun c _ => ⟨fun h => ⟨h.1, ?_⟩, fun h => ⟨h.1, by omega⟩⟩))
          by_cases hcj : c = j
          · exact absurd (hcj ▸ h.1) hs
          · omega
        have hset : Sees n i j → Ev (fun k => spec_NarrowSingles.l1 k m (n : Int) (x.set j (Go.bits .andNot .i64 (rd x (j : Int)) (rd m (i : Int)))) (i : Int) ((j + 1 : Nat) : Int)) (singlesUpto m n m.length) := by
          intro hs
          refine ihj _ (hx.set hjl (fun h => by omega) (fun c _ => ⟨fun h => ?_, fun h => ?_⟩) rfl)
          · by_cases hcj : c = j
            · exact .inl hcj
            · exact .inr ⟨h.1, by omega⟩
          · rcases h with rfl | h
            · exact ⟨hs, by omega⟩
            · exact ⟨h.1, by omega⟩
        by_cases hji : (j : Int) = (i : Int)
        · simp only [hji, if_true]
          exact hskip (fun h => h.1 (by omega))
        · simp only [hji, if_false]
          by_cases hd : ((j / n : Nat) : Int) = ((i / n : Nat) : Int)
          · simp only [hd, if_true]
            exact hset ⟨by omega, .inl (Int.ofNat.inj hd)⟩
          · simp only [hd, if_false]
            by_cases hd2 : ((j % n : Nat) : Int) = ((i % n : Nat) : Int)
            · simp only [hd2, if_true]
              exact hset ⟨by omega, .inr (Int.ofNat.inj hd2)⟩
            · simp only [hd2, if_false]
              refine hskip (fun h => ?_)
              rcases h.2 with h | h
              · exact hd (congrArg Int.ofNat h)
              · exact hd2 (congrArg Int.ofNat h)
theorem specNarrowSingles_ev (m : List Int) (s : Int) (h : m.length ≤ 35184372088832) : Ev (fun k => spec_NarrowSingles.f k m s) (narrowSingles m s) := by
  unfold spec_NarrowSingles.f narrowSingles
  refine Ev.bind (specMasksValid_ev m s h) ?_
  by_cases hm : masksB m s = true
  · obtain ⟨hsn, _, _⟩ := size_nat (masksB_size hm)
    simp only [hm, if_true, l6Copy_eq (masksB_le hm), Option.bind_some]
    rw [← hsn] at hm
    have := specSinglesN_ev hm
    rwa [hsn] at this
  · simp only [hm, if_false, Bool.false_eq_true]
    exact Ev.now _

end Go.Proofs.Ytaglakdahmepeaa.Pure
