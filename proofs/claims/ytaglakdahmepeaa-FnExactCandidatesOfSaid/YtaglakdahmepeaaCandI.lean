/- What impl.CandidatesOf comes to. Conditions: as stated in each. -/
import Derived.Test.YtaglakdahmepeaaWWords
import Derived.Test.YtaglakdahmepeaaWMore
import Derived.Test.YtaglakdahmepeaaP14
import Derived.Test.YtaglakdahmepeaaP3
import Derived.Test.YtaglakdahmepeaaP8
import Derived.Test.YtaglakdahmepeaaBase
import Derived.Test.YtaglakdahmepeaaCandA
import Derived.Test.YtaglakdahmepeaaCandB
import Derived.Test.YtaglakdahmepeaaFillLoop
import Derived.Test.YtaglakdahmepeaaGridV
import Derived.Test.YtaglakdahmepeaaHas
import Derived.Test.YtaglakdahmepeaaLines
import Derived.Test.YtaglakdahmepeaaMHave
import Derived.Test.YtaglakdahmepeaaModel
import Derived.Test.YtaglakdahmepeaaSize
namespace Go.Proofs.Ytaglakdahmepeaa.Pure
set_option linter.unusedSimpArgs false
set_option linter.unusedVariables false
open Go.RowKit Go.Proofs.YtaglakdahmepeaaW.PrintWords Go.Proofs.YtaglakdahmepeaaW.PrintMore Go.Proofs.Ytaglakdahmepeaa.P

set_option maxHeartbeats 1000000 in
theorem implCandidates_ev (g : List Int) (s : Int) (h : g.length ≤ 35184372088832) : Ev (fun k => impl_CandidatesOf.f k g s) (candidates g s) := by
  unfold impl_CandidatesOf.f candidates
  refine Ev.bind (implGridValid_ev g s h) ?_
  by_cases hg : gridB g s = true
  · have h0 : (0 : Int) ≤ (g.length : Int) := Int.natCast_nonneg _
    have h1 : ((g.length : Int) : Int).toNat ≤ 35184372088832 := by simpa using h
    simp only [hg, if_true, h0, h1]
    have hso := gridB_size hg
    obtain ⟨hn, hsn⟩ := size_or hso
    have hlen := grid_len hg
    have hall := allM_has hso
    have hallv := allValues_eq hso
    generalize hN : s.toNat = n at *
    have hLr : ((List.range g.length).map (fun i => candCell g n i)).length = g.length := by rw [List.length_map, List.length_range]
    have := Ev.range (L := fun k (x : List Int) i => impl_CandidatesOf.l0 k g s x g (g.length : Int) i) (R := fun _ _ => (List.range g.length).map (fun i => candCell g n i)) (N := g.length) (fun x j => Filled0 ((List.range g.length).map (fun i => candCell g n i)) x j) ?_ ?_ (List.replicate g.length 0) 0 (Nat.zero_le _) (by have := Filled0.start ((List.range g.length).map (fun i => candCell g n i)); rwa [hLr] at this)
    · simpa using this
    · intro x hx
      refine Ev.step (fun k => impl_CandidatesOf.l0.eq_2 _ _ _ _ _ _ k) ?_
      simp only [Int.lt_irrefl, if_false]
      have hx' : Filled0 ((List.range g.length).map (fun i => candCell g n i)) x ((List.range g.length).map (fun i => candCell g n i)).length := by rw [hLr]; exact hx
      rw [hx'.fin]; exact Ev.now _
    · intro x i hi hx ih
      refine Ev.step (fun k => impl_CandidatesOf.l0.eq_2 _ _ _ _ _ _ k) ?_
      have h3 : (i : Int) < (g.length : Int) := by omega
      have h4 : (0 : Int) ≤ i := by omega
      have h5 : (i : Int) < (x.length : Int) := by have := hx.1; omega
      have hv := val_le hg (rd_mem h4 h3)
      simp only [h3, h4, h5, if_true, Int.toNat_natCast, w64n (by omega : i < 9000000000000000000)]
      by_cases hp : 0 < rd g (i : Int)
      · have hp' : rd g (i : Int) > 0 := hp
        simp only [hp', if_true, hv.1, shl1 hv]
        exact ih _ (hx.set (by omega) (by simp [candCell, hp]))
      · have hp' : ¬ rd g (i : Int) > 0 := hp
        simp only [hp', if_false, hallv, Option.bind_some]
        have := Ev.range (L := fun k (m : Int) j => impl_CandidatesOf.l1 k g s x (i : Int) m g (g.length : Int) (i : Int) s j) (R := fun _ _ => (List.range g.length).map (fun i => candCell g n i)) (N := n)
          (fun m j => (0 ≤ m ∧ m ≤ 30 ∧ m % 2 = 0) ∧ ∀ v : Int, 1 ≤ v → v ≤ 4 → has m v = (decide (v ≤ n) && freeB g n i v j)) ?_ ?_ (allM s) 0 (Nat.zero_le _) ⟨hall.1, fun v h1 h2 => ?_⟩
        · simpa using this
        · rintro m ⟨hm, hmv⟩
          refine Ev.step (fun k => impl_CandidatesOf.l1.eq_2 _ _ _ _ _ _ _ _ _ _ k) ?_
          have h6 : ¬ (n : Int) < s := by omega
          simp only [h6, if_false, h4, if_true, h5, Int.toNat_natCast, w64n (by omega : i < 9000000000000000000)]
          refine ih _ (hx.set (by omega) ?_)
          have hms := maskUpto_spec (fun v => freeB g n i v n) (n := n) (by omega)
          have hme : m = maskUpto (fun v => freeB g n i v n) n := mask_ext hm hms.1 (fun v h1 h2 => by rw [hmv v h1 h2, hms.2 v h1 h2])
          simp [candCell, hp, hme]
        · rintro m j hj ⟨hm, hmv⟩ ihj
          refine Ev.step (fun k => impl_CandidatesOf.l1.eq_2 _ _ _ _ _ _ _ _ _ _ k) ?_
          have h6 : (j : Int) < s := by omega
          have h7 : ¬ s = 0 := by omega
          have hrow := row_idx hn (by omega : i < n * n) hj
          have hcol := col_idx hn (by omega : i < n * n) hj
          rw [← hsn] at hrow hcol
          obtain ⟨hr1, hc1⟩ := rowcol_lt hn (by omega : i < n * n) hj
          have hr2 : ((rowCell n i j : Nat) : Int) < (g.length : Int) := by omega
          have hc2 : ((colCell n i j : Nat) : Int) < (g.length : Int) := by omega
          have hr0 : (0 : Int) ≤ ((rowCell n i j : Nat) : Int) := Int.natCast_nonneg _
          have hc0 : (0 : Int) ≤ ((colCell n i j : Nat) : Int) := Int.natCast_nonneg _
          have hrv := val_le hg (rd_mem hr0 hr2)
          have hcv := val_le hg (rd_mem hc0 hc2)
          simp only [h6, h7, if_true, if_false, hrow, hcol, hr0, hc0, hr2, hc2, hrv.1, hcv.1, w64n (by omega : j < 9000000000000000000)]
          have hcl := clear_spec hm hrv hcv
          refine ihj _ ⟨hcl.1, fun v h1 h2 => ?_⟩
          rw [hcl.2 v h1 h2, hmv v h1 h2, freeB, Bool.and_assoc]
        · rw [hall.2 v h1 h2, freeB, Bool.and_true, ← hsn]
  · simp only [hg, if_false, Bool.false_eq_true]
    exact Ev.now _

end Go.Proofs.Ytaglakdahmepeaa.Pure
