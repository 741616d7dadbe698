/- What spec's test of the lines comes to. Conditions: as stated in each. -/
import Derived.Test.YtnocdmclcdfppaaWWords
import Derived.Test.YtnocdmclcdfppaaWMore
import Derived.Test.YtnocdmclcdfppaaP11
import Derived.Test.YtnocdmclcdfppaaP14
import Derived.Test.YtnocdmclcdfppaaP24
import Derived.Test.YtnocdmclcdfppaaP4
import Derived.Test.YtnocdmclcdfppaaBase
import Derived.Test.YtnocdmclcdfppaaGridV
import Derived.Test.YtnocdmclcdfppaaHas
import Derived.Test.YtnocdmclcdfppaaLineC
import Derived.Test.YtnocdmclcdfppaaLines
import Derived.Test.YtnocdmclcdfppaaMHave
import Derived.Test.YtnocdmclcdfppaaModel
namespace Go.Proofs.Ytnocdmclcdfppaa.Pure
set_option linter.unusedSimpArgs false
set_option linter.unusedVariables false
open Go.RowKit Go.Proofs.YtnocdmclcdfppaaW.PrintWords Go.Proofs.YtnocdmclcdfppaaW.PrintMore Go.Proofs.Ytnocdmclcdfppaa.P

theorem orbit_fin : ∀ m : Fin 32, ∀ v : Fin 5, (0 ≤ Go.bits .or .i64 (m.val : Int) (shl .i64 1 (v.val : Int)) ∧ Go.bits .or .i64 (m.val : Int) (shl .i64 1 (v.val : Int)) ≤ 31) ∧ ∀ u : Fin 5, has (Go.bits .or .i64 (m.val : Int) (shl .i64 1 (v.val : Int))) (u.val : Int) = (decide (u = v) || has (m.val : Int) (u.val : Int)) := by decide +kernel
theorem tmod31_fin : ∀ m : Fin 32, ∀ v : Fin 5, Int.tmod (shr .i64 (m.val : Int) (v.val : Int)) 2 = (if has (m.val : Int) (v.val : Int) = true then 1 else 0) := by decide +kernel
/-- A mask that tells what has been seen. -/
def Seen (m : Int) (seen : List Int) : Prop := 0 ≤ m ∧ m ≤ 31 ∧ ∀ u : Int, 0 ≤ u → u ≤ 4 → (has m u = true ↔ u ∈ seen)
theorem Seen.start : Seen 0 [] := ⟨by decide, by decide, fun u h0 h1 => by
  have : has 0 u = false := by unfold has; simp
  simp [this]⟩
theorem Seen.step {m v : Int} {seen : List Int} (h : Seen m seen) (hv : 0 ≤ v ∧ v ≤ 4) : Seen (Go.bits .or .i64 m (shl .i64 1 v)) (v :: seen) := by
  obtain ⟨h0, h1, h2⟩ := h
  have hf := orbit_fin ⟨m.toNat, by omega⟩ ⟨v.toNat, by omega⟩
  simp only [show ((m.toNat : Nat) : Int) = m by omega, show ((v.toNat : Nat) : Int) = v by omega] at hf
  refine ⟨hf.1.1, hf.1.2, fun u hu0 hu1 => ?_⟩
  have hg := hf.2 ⟨u.toNat, by omega⟩
  simp only [show ((u.toNat : Nat) : Int) = u by omega, Fin.mk.injEq] at hg
  rw [hg, List.mem_cons, Bool.or_eq_true, h2 u hu0 hu1, decide_eq_true_iff]
  constructor
  · rintro (h | h)
    · exact .inl (by omega)
    · exact .inr h
  · rintro (h | h)
    · exact .inl (by omega)
    · exact .inr h
theorem Seen.tmod {m v : Int} {seen : List Int} (h : Seen m seen) (hv : 0 ≤ v ∧ v ≤ 4) : (Int.tmod (shr .i64 m v) 2 = 1) ↔ v ∈ seen := by
  obtain ⟨h0, h1, h2⟩ := h
  have hf := tmod31_fin ⟨m.toNat, by omega⟩ ⟨v.toNat, by omega⟩
  simp only [show ((m.toNat : Nat) : Int) = m by omega, show ((v.toNat : Nat) : Int) = v by omega] at hf
  rw [hf, ← h2 v hv.1 hv.2]
  by_cases hh : has m v = true <;> simp [hh]
theorem l2Clash_ev {g : List Int} {s : Int} (hg : gridB g s = true) : Ev (fun k => spec_l2Clash.f k g s) (linesClash g s 0 (2 * s.toNat)) := by
  unfold spec_l2Clash.f
  obtain ⟨hsn, hs2, hs4⟩ := size_nat (gridB_size hg)
  have hw : wrap64 (2 * s) = ((2 * s.toNat : Nat) : Int) := by unfold wrap64; omega
  have hlen := gridB_len hg
  refine Ev.range0 (L := fun k i => spec_l2Clash.l0 k g s i) (R := fun n => linesClash g s n (2 * s.toNat - n)) (N := 2 * s.toNat) ?_ ?_ 0 (Nat.zero_le _)
  · refine Ev.step (fun k => spec_l2Clash.l0.eq_2 _ _ _ k) ?_
    simp only [hw, Int.lt_irrefl, if_false, Nat.sub_self, linesClash]
    exact Ev.now _
  · intro n hn ih
    refine Ev.step (fun k => spec_l2Clash.l0.eq_2 _ _ _ k) ?_
    have h1 : (n : Int) < ((2 * s.toNat : Nat) : Int) := by omega
    simp only [hw, h1, if_true]
    refine Ev.bind (specLineCells_ev s n) ?_
    have e : 2 * s.toNat - n = (2 * s.toNat - (n + 1)) + 1 := by omega
    rw [e, linesClash]
    have hb := lineC_len s n
    have := Ev.range (L := fun k (x : Int) i => spec_l2Clash.l1 k g s n (lineC s n) x i) (R := fun _ _ => clashL g (lineC s n) [] || linesClash g s (n + 1) (2 * s.toNat - (n + 1))) (N := (lineC s n).length)
      (fun x j => ∃ seen, Seen x seen ∧ clashL g (lineC s n) [] = clashL g ((lineC s n).drop j) seen) ?_ ?_ 0 0 (Nat.zero_le _) ⟨[], Seen.start, by simp⟩
    · simpa using this
    · rintro x ⟨seen, hx, he⟩
      refine Ev.step (fun k => spec_l2Clash.l1.eq_2 _ _ _ _ _ _ k) ?_
      have e2 : clashL g (lineC s n) [] = false := by rw [he, List.drop_length]; rfl
      simp only [Int.lt_irrefl, if_false, e2, Bool.false_or, w64n (by omega : n < 9000000000000000000)]
      exact ih
    · rintro x j hj ⟨seen, hx, he⟩ ihj
      refine Ev.step (fun k => spec_l2Clash.l1.eq_2 _ _ _ _ _ _ k) ?_
      have hc := lineC_mem (lineC s n)[j] (List.getElem_mem hj)
      have h2 : (j : Int) < ((lineC s n).length : Int) := by omega
      have h3 : (0 : Int) ≤ j := by omega
      have h5 : (lineC s n)[j] < (g.length : Int) := by rw [hlen]; exact hc.2
      have hv := val_le hg (rd_mem hc.1 h5)
      rw [drop_cons hj, clashL] at he
      simp only [h2, h3, if_true, rd_lt hj, hc.1, h5, hv.1, w64n (by omega : j < 9000000000000000000)]
      have hstep : ¬ (0 < rd g (lineC s n)[j] ∧ rd g (lineC s n)[j] ∈ seen) → Ev (fun k => spec_l2Clash.l1 k g s n (lineC s n) (Go.bits .or .i64 x (shl .i64 1 (rd g (lineC s n)[j]))) ((j + 1 : Nat) : Int)) (clashL g (lineC s n) [] || linesClash g s (n + 1) (2 * s.toNat - (n + 1))) := by
        intro hn
        rw [if_neg hn] at he
        exact ihj _ ⟨_, hx.step hv, he⟩
      by_cases hp : 0 < rd g (lineC s n)[j]
      · have hp' : rd g (lineC s n)[j] > 0 := hp
        simp only [hp', if_true]
        by_cases ht : Int.tmod (shr .i64 x (rd g (lineC s n)[j])) 2 = 1
        · simp only [ht, if_true]
          rw [if_pos ⟨hp, (hx.tmod hv).1 ht⟩] at he
          rw [he]; exact Ev.now _
        · simp only [ht, if_false]
          exact hstep (fun h => ht ((hx.tmod hv).2 h.2))
      · have hp' : ¬ rd g (lineC s n)[j] > 0 := hp
        simp only [hp', if_false]
        exact hstep (fun h => hp h.1)
theorem specSquareFits_ev (g : List Int) (s : Int) (h : g.length ≤ 35184372088832) : Ev (fun k => spec_SquareFits.f k g s) (squareFits g s) := by
  unfold spec_SquareFits.f squareFits
  refine Ev.bind (specGridValid_ev g s h) ?_
  by_cases hg : gridB g s = true
  · simp only [hg, if_true, Bool.true_and]
    refine Ev.bind (l2Clash_ev hg) ?_
    exact Ev.now _
  · simp only [hg, if_false, eq_false_of_ne_true hg, Bool.false_and, Bool.false_eq_true]
    exact Ev.now _

end Go.Proofs.Ytnocdmclcdfppaa.Pure
