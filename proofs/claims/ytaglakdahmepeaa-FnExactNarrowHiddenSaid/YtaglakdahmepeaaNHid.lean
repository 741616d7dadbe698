/- What NarrowHidden comes to. Conditions: as stated in each. -/
import Derived.Test.YtaglakdahmepeaaWWords
import Derived.Test.YtaglakdahmepeaaWMore
import Derived.Test.YtaglakdahmepeaaP1
import Derived.Test.YtaglakdahmepeaaP27
import Derived.Test.YtaglakdahmepeaaP29
import Derived.Test.YtaglakdahmepeaaP34
import Derived.Test.YtaglakdahmepeaaP35
import Derived.Test.YtaglakdahmepeaaP4
import Derived.Test.YtaglakdahmepeaaP7
import Derived.Test.YtaglakdahmepeaaP9
import Derived.Test.YtaglakdahmepeaaBase
import Derived.Test.YtaglakdahmepeaaHas
import Derived.Test.YtaglakdahmepeaaLineC
import Derived.Test.YtaglakdahmepeaaLines
import Derived.Test.YtaglakdahmepeaaMGrid
import Derived.Test.YtaglakdahmepeaaMasksV
import Derived.Test.YtaglakdahmepeaaModel
import Derived.Test.YtaglakdahmepeaaNarrow
namespace Go.Proofs.Ytaglakdahmepeaa.Pure
set_option linter.unusedSimpArgs false
set_option linter.unusedVariables false
open Go.RowKit Go.Proofs.YtaglakdahmepeaaW.PrintWords Go.Proofs.YtaglakdahmepeaaW.PrintMore Go.Proofs.Ytaglakdahmepeaa.P

/-- How many of the first t cells have the value, and the last of these. -/
def cntLast (m : List Int) (v : Int) (cs : List Int) : Nat → Int × Int
  | 0 => (0, 0)
  | t + 1 => if has (rd m (rd cs (t : Int))) v = true then ((cntLast m v cs t).1 + 1, rd cs (t : Int)) else cntLast m v cs t
theorem cntLast_spec {m : List Int} {v : Int} {cs : List Int} {N : Nat} (h0 : 0 < N) (hc : ∀ c ∈ cs, 0 ≤ c ∧ c < (N : Int)) : ∀ t, t ≤ cs.length → 0 ≤ (cntLast m v cs t).1 ∧ (cntLast m v cs t).1 ≤ t ∧ 0 ≤ (cntLast m v cs t).2 ∧ (cntLast m v cs t).2 < (N : Int)
  | 0, _ => by unfold cntLast; simp only; omega
  | t + 1, ht => by
    have ih := cntLast_spec h0 hc (v := v) (m := m) t (by omega)
    have hm := hc _ (rd_mem (g := cs) (i := (t : Int)) (by omega) (by omega))
    unfold cntLast
    split
    · simp only; omega
    · omega
/-- The masks when the values 1 .. v have been seen to in these cells. -/
def hideV (m cs : List Int) (x : List Int) : Nat → List Int
  | 0 => x
  | v + 1 => if (cntLast m ((v : Int) + 1) cs cs.length).1 = 1 then (hideV m cs x v).set (cntLast m ((v : Int) + 1) cs cs.length).2.toNat (Go.bits .and .i64 (rd (hideV m cs x v) (cntLast m ((v : Int) + 1) cs cs.length).2) (shl .i64 1 ((v : Int) + 1))) else hideV m cs x v
theorem hideV_len (m cs x : List Int) : ∀ v, (hideV m cs x v).length = x.length
  | 0 => rfl
  | v + 1 => by
    unfold hideV
    split
    · rw [List.length_set]; exact hideV_len m cs x v
    · exact hideV_len m cs x v
def hideL (m : List Int) (s : Int) : Nat → List Int
  | 0 => m
  | l + 1 => hideV m (lineC s (l : Int)) (hideL m s l) s.toNat
theorem hideL_len (m : List Int) (s : Int) : ∀ l, (hideL m s l).length = m.length
  | 0 => rfl
  | l + 1 => by unfold hideL; rw [hideV_len]; exact hideL_len m s l
def narrowHidden (m : List Int) (s : Int) : List Int := if masksB m s = true then hideL m s (2 * s.toNat) else []
theorem narrowHidden_len (m : List Int) (s : Int) : (narrowHidden m s).length ≤ 16 := by
  unfold narrowHidden; split
  · rename_i h; rw [hideL_len]; exact masksB_le h
  · exact Nat.zero_le _
theorem v_size {n v : Nat} (hn : n = 2 ∨ n = 3 ∨ n = 4) (hv : v < n) : wrap64 (((v + 1 : Nat) : Int) + 1) = ((v + 1 + 1 : Nat) : Int) := by
  unfold wrap64; omega
set_option maxHeartbeats 800000 in
theorem specHiddenN_ev {m : List Int} {n : Nat} (hm : masksB m (n : Int) = true) : Ev (fun k => spec_NarrowHidden.l0 k m (n : Int) m 0) (hideL m (n : Int) (2 * n)) := by
  have hn := size_nat_or (masksB_size hm)
  have hlen := masks_len hm
  have hle := masksB_le hm
  have hpos : 0 < m.length := by rcases hn with rfl | rfl | rfl <;> omega
  have hw : wrap64 (2 * (n : Int)) = ((2 * n : Nat) : Int) := by unfold wrap64; omega
  have := Ev.range (L := fun k (x : List Int) l => spec_NarrowHidden.l0 k m (n : Int) x l) (R := fun _ _ => hideL m (n : Int) (2 * n)) (N := 2 * n) (fun x l => x = hideL m (n : Int) l) ?_ ?_ m 0 (Nat.zero_le _) rfl
  · simpa using this
  · rintro x rfl
    refine Ev.step (fun k => spec_NarrowHidden.l0.eq_2 _ _ _ _ k) ?_
    simp only [hw, Int.lt_irrefl, if_false]
    exact Ev.now _
  · rintro x l hl rfl ih
    refine Ev.step (fun k => spec_NarrowHidden.l0.eq_2 _ _ _ _ k) ?_
    have h1 : (l : Int) < ((2 * n : Nat) : Int) := by omega
    simp only [hw, h1, if_true]
    refine Ev.bind (specLineCells_ev _ _) ?_
    have hcs : ∀ c ∈ lineC (n : Int) (l : Int), 0 ≤ c ∧ c < (m.length : Int) := by
      intro c hc
      have := lineC_mem c hc
      rw [hlen]; push_cast; exact this
    have hcl := lineC_len (n : Int) (l : Int)
    have hyl := hideL_len m (n : Int) l
    have hstep : hideL m (n : Int) (l + 1) = hideV m (lineC (n : Int) (l : Int)) (hideL m (n : Int) l) n := by rw [hideL, Int.toNat_natCast]
    generalize hideL m (n : Int) l = y at hyl hstep ⊢
    generalize lineC (n : Int) (l : Int) = cs at *
    have := Ev.range (L := fun k (x : List Int) v => spec_NarrowHidden.l1 k m (n : Int) x (l : Int) cs (v + 1)) (R := fun _ _ => hideL m (n : Int) (2 * n)) (N := n) (fun x v => x = hideV m cs y v) ?_ ?_ y 0 (Nat.zero_le _) rfl
    · simpa using this
    · rintro x rfl
      refine Ev.step (fun k => spec_NarrowHidden.l1.eq_2 _ _ _ _ _ _ k) ?_
      have h2 : ¬ (n : Int) + 1 ≤ (n : Int) := by omega
      simp only [h2, if_false, w64n (by omega : l < 9000000000000000000)]
      exact ih _ hstep.symm
    · rintro x v hv rfl ihv
      refine Ev.step (fun k => spec_NarrowHidden.l1.eq_2 _ _ _ _ _ _ k) ?_
      have h2 : (v : Int) + 1 ≤ (n : Int) := by omega
      have hw2 : wrap64 ((v : Int) + 1 + 1) = ((v + 1 : Nat) : Int) + 1 := by unfold wrap64; omega
      simp only [h2, if_true]
      have := Ev.range (L := fun k (p : Int × Int) t => spec_NarrowHidden.l2 k m (n : Int) (hideV m cs y v) (l : Int) cs ((v : Int) + 1) p.1 p.2 t) (R := fun _ _ => hideL m (n : Int) (2 * n)) (N := cs.length) (fun p t => p = cntLast m ((v : Int) + 1) cs t) ?_ ?_ (0, 0) 0 (Nat.zero_le _) rfl
      · simpa using this
      · rintro p rfl
        refine Ev.step (fun k => spec_NarrowHidden.l2.eq_2 _ _ _ _ _ _ _ _ _ k) ?_
        have hsp := cntLast_spec (m := m) (v := (v : Int) + 1) hpos hcs cs.length (Nat.le_refl _)
        have hv0 : (0 : Int) ≤ (v : Int) + 1 := by omega
        have hin : (cntLast m ((v : Int) + 1) cs cs.length).2 < ((hideV m cs y v).length : Int) := by rw [hideV_len, hyl]; exact hsp.2.2.2
        simp only [Int.lt_irrefl, if_false, hsp.2.2.1, hin, hv0, if_true, hw2]
        by_cases hc1 : (cntLast m ((v : Int) + 1) cs cs.length).1 = 1
        · simp only [hc1, if_true]
          refine ihv _ ?_
          rw [hideV, if_pos hc1]
        · simp only [hc1, if_false]
          refine ihv _ ?_
          rw [hideV, if_neg hc1]
      · rintro p t ht rfl iht
        refine Ev.step (fun k => spec_NarrowHidden.l2.eq_2 _ _ _ _ _ _ _ _ _ k) ?_
        have h3 : (t : Int) < (cs.length : Int) := by omega
        have h4 : (0 : Int) ≤ (t : Int) := by omega
        have hc := hcs _ (rd_mem h4 h3)
        have hv0 : (0 : Int) ≤ (v : Int) + 1 := by omega
        have hmk := mask_even hm (rd_mem hc.1 hc.2)
        have hsp := cntLast_spec (m := m) (v := (v : Int) + 1) hpos hcs t (by omega)
        have hw3 : wrap64 ((cntLast m ((v : Int) + 1) cs t).1 + 1) = (cntLast m ((v : Int) + 1) cs t).1 + 1 := by unfold wrap64; omega
        simp only [h3, h4, hc.1, hc.2, hv0, if_true, has_tmod ⟨hmk.1, hmk.2.1⟩ (by omega : 0 ≤ (v : Int) + 1 ∧ (v : Int) + 1 ≤ 4), hw3, w64n (by omega : t < 9000000000000000000)]
        by_cases hh : has (rd m (rd cs (t : Int))) ((v : Int) + 1) = true
        · simp only [hh, if_true]
          refine iht ((cntLast m ((v : Int) + 1) cs t).1 + 1, rd cs (t : Int)) ?_
          rw [cntLast, if_pos hh]
        · have h01 : ¬ (0 : Int) = 1 := by decide
          simp only [hh, if_false, Bool.false_eq_true, h01]
          refine iht (cntLast m ((v : Int) + 1) cs t) ?_
          rw [cntLast, if_neg hh]
theorem specNarrowHidden_ev (m : List Int) (s : Int) (h : m.length ≤ 35184372088832) : Ev (fun k => spec_NarrowHidden.f k m s) (narrowHidden m s) := by
  unfold spec_NarrowHidden.f narrowHidden
  refine Ev.bind (specMasksValid_ev m s h) ?_
  by_cases hm : masksB m s = true
  · obtain ⟨hsn, _, _⟩ := size_nat (masksB_size hm)
    simp only [hm, if_true, l6Copy_eq (masksB_le hm), Option.bind_some]
    rw [← hsn] at hm
    have := specHiddenN_ev hm
    rwa [hsn] at this
  · simp only [hm, if_false, Bool.false_eq_true]
    exact Ev.now _
set_option maxHeartbeats 800000 in
theorem implHiddenN_ev {m : List Int} {n : Nat} (hm : masksB m (n : Int) = true) : Ev (fun k => impl_NarrowHidden.l0 k m (n : Int) m ((2 * n : Nat) : Int) 0) (hideL m (n : Int) (2 * n)) := by
  have hn := size_nat_or (masksB_size hm)
  have hlen := masks_len hm
  have hle := masksB_le hm
  have hpos : 0 < m.length := by rcases hn with rfl | rfl | rfl <;> omega
  have := Ev.range (L := fun k (x : List Int) l => impl_NarrowHidden.l0 k m (n : Int) x ((2 * n : Nat) : Int) l) (R := fun _ _ => hideL m (n : Int) (2 * n)) (N := 2 * n) (fun x l => x = hideL m (n : Int) l) ?_ ?_ m 0 (Nat.zero_le _) rfl
  · simpa using this
  · rintro x rfl
    refine Ev.step (fun k => impl_NarrowHidden.l0.eq_2 _ _ _ _ _ k) ?_
    simp only [Int.lt_irrefl, if_false]
    exact Ev.now _
  · rintro x l hl rfl ih
    refine Ev.step (fun k => impl_NarrowHidden.l0.eq_2 _ _ _ _ _ k) ?_
    have h1 : (l : Int) < ((2 * n : Nat) : Int) := by omega
    simp only [h1, if_true]
    have hcs : ∀ c ∈ lineC (n : Int) (l : Int), 0 ≤ c ∧ c < (m.length : Int) := by
      intro c hc
      have := lineC_mem c hc
      rw [hlen]; push_cast; exact this
    have hcl := lineC_len (n : Int) (l : Int)
    have hyl := hideL_len m (n : Int) l
    have hstep : hideL m (n : Int) (l + 1) = hideV m (lineC (n : Int) (l : Int)) (hideL m (n : Int) l) n := by rw [hideL, Int.toNat_natCast]
    have hLC := implLineCells_ev (n : Int) (l : Int)
    generalize hideL m (n : Int) l = y at hyl hstep ⊢
    generalize lineC (n : Int) (l : Int) = cs at *
    have := Ev.range (L := fun k (x : List Int) v => impl_NarrowHidden.l1 k m (n : Int) x (l : Int) (v + 1) ((2 * n : Nat) : Int) (l : Int)) (R := fun _ _ => hideL m (n : Int) (2 * n)) (N := n) (fun x v => x = hideV m cs y v) ?_ ?_ y 0 (Nat.zero_le _) rfl
    · simpa using this
    · rintro x rfl
      refine Ev.step (fun k => impl_NarrowHidden.l1.eq_2 _ _ _ _ _ _ _ k) ?_
      have h2 : ¬ (n : Int) + 1 ≤ (n : Int) := by omega
      simp only [h2, if_false, w64n (by omega : l < 9000000000000000000)]
      exact ih _ hstep.symm
    · rintro x v hv rfl ihv
      refine Ev.step (fun k => impl_NarrowHidden.l1.eq_2 _ _ _ _ _ _ _ k) ?_
      have h2 : (v : Int) + 1 ≤ (n : Int) := by omega
      have hw2 : wrap64 ((v : Int) + 1 + 1) = ((v + 1 : Nat) : Int) + 1 := by unfold wrap64; omega
      simp only [h2, if_true]
      refine Ev.bind hLC ?_
      have := Ev.range (L := fun k (p : Int × Int) t => impl_NarrowHidden.l2 k m (n : Int) (hideV m cs y v) (l : Int) ((v : Int) + 1) p.2 p.1 ((2 * n : Nat) : Int) (l : Int) cs (cs.length : Int) t) (R := fun _ _ => hideL m (n : Int) (2 * n)) (N := cs.length) (fun p t => p = cntLast m ((v : Int) + 1) cs t) ?_ ?_ (0, 0) 0 (Nat.zero_le _) rfl
      · simpa using this
      · rintro p rfl
        refine Ev.step (fun k => impl_NarrowHidden.l2.eq_2 _ _ _ _ _ _ _ _ _ _ _ _ k) ?_
        have hsp := cntLast_spec (m := m) (v := (v : Int) + 1) hpos hcs cs.length (Nat.le_refl _)
        have hv0 : (0 : Int) ≤ (v : Int) + 1 := by omega
        have hin : (cntLast m ((v : Int) + 1) cs cs.length).2 < ((hideV m cs y v).length : Int) := by rw [hideV_len, hyl]; exact hsp.2.2.2
        simp only [Int.lt_irrefl, if_false, hsp.2.2.1, hin, hv0, if_true, hw2]
        by_cases hc1 : (cntLast m ((v : Int) + 1) cs cs.length).1 = 1
        · simp only [hc1, if_true]
          refine ihv _ ?_
          rw [hideV, if_pos hc1]
        · simp only [hc1, if_false]
          refine ihv _ ?_
          rw [hideV, if_neg hc1]
      · rintro p t ht rfl iht
        refine Ev.step (fun k => impl_NarrowHidden.l2.eq_2 _ _ _ _ _ _ _ _ _ _ _ _ k) ?_
        have h3 : (t : Int) < (cs.length : Int) := by omega
        have h4 : (0 : Int) ≤ (t : Int) := by omega
        have hc := hcs _ (rd_mem h4 h3)
        have hv0 : (0 : Int) ≤ (v : Int) + 1 := by omega
        have hmk := mask_even hm (rd_mem hc.1 hc.2)
        have hsp := cntLast_spec (m := m) (v := (v : Int) + 1) hpos hcs t (by omega)
        have hw3 : wrap64 ((cntLast m ((v : Int) + 1) cs t).1 + 1) = (cntLast m ((v : Int) + 1) cs t).1 + 1 := by unfold wrap64; omega
        simp only [h3, h4, hc.1, hc.2, hv0, if_true, has_and ⟨hmk.1, hmk.2.1⟩ (by omega : 0 ≤ (v : Int) + 1 ∧ (v : Int) + 1 ≤ 4), hw3, w64n (by omega : t < 9000000000000000000)]
        by_cases hh : has (rd m (rd cs (t : Int))) ((v : Int) + 1) = true
        · simp only [hh, if_true]
          refine iht ((cntLast m ((v : Int) + 1) cs t).1 + 1, rd cs (t : Int)) ?_
          rw [cntLast, if_pos hh]
        · have h01 : ¬ (0 : Int) = 1 := by decide
          simp only [hh, if_false, Bool.false_eq_true, h01]
          refine iht (cntLast m ((v : Int) + 1) cs t) ?_
          rw [cntLast, if_neg hh]
theorem implNarrowHidden_ev (m : List Int) (s : Int) (h : m.length ≤ 35184372088832) (hw : ∀ x ∈ m, x ≤ 9223372036854775807) : Ev (fun k => impl_NarrowHidden.f k m s) (narrowHidden m s) := by
  unfold impl_NarrowHidden.f narrowHidden
  refine Ev.bind (implMasksValid_ev m s h hw) ?_
  by_cases hm : masksB m s = true
  · obtain ⟨hsn, h2, h4⟩ := size_nat (masksB_size hm)
    have hw2 : wrap64 (2 * s) = ((2 * s.toNat : Nat) : Int) := by unfold wrap64; omega
    simp only [hm, if_true, clone_eq (masksB_le hm), Option.bind_some, hw2]
    rw [← hsn] at hm
    have := implHiddenN_ev hm
    rwa [hsn] at this
  · simp only [hm, if_false, Bool.false_eq_true]
    exact Ev.now _

end Go.Proofs.Ytaglakdahmepeaa.Pure
