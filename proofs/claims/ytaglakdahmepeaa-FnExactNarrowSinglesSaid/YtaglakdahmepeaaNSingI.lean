/- What impl.NarrowSingles comes to. Conditions: as stated in each. -/
import Derived.Test.YtaglakdahmepeaaWWords
import Derived.Test.YtaglakdahmepeaaWMore
import Derived.Test.YtaglakdahmepeaaP29
import Derived.Test.YtaglakdahmepeaaP30
import Derived.Test.YtaglakdahmepeaaP9
import Derived.Test.YtaglakdahmepeaaBase
import Derived.Test.YtaglakdahmepeaaCandA
import Derived.Test.YtaglakdahmepeaaLines
import Derived.Test.YtaglakdahmepeaaMGrid
import Derived.Test.YtaglakdahmepeaaMaskVals
import Derived.Test.YtaglakdahmepeaaMasksV
import Derived.Test.YtaglakdahmepeaaModel
import Derived.Test.YtaglakdahmepeaaNarrow
namespace Go.Proofs.Ytaglakdahmepeaa.Pure
set_option linter.unusedSimpArgs false
set_option linter.unusedVariables false
open Go.RowKit Go.Proofs.YtaglakdahmepeaaW.PrintWords Go.Proofs.YtaglakdahmepeaaW.PrintMore Go.Proofs.Ytaglakdahmepeaa.P

/-- What has been taken out when the first k cells of the row and the column have been seen to. -/
def SeesUpto (n i k c : Nat) : Prop := c ≠ i ∧ ((c / n = i / n ∧ c % n < k) ∨ (c % n = i % n ∧ c / n < k))
theorem seesUpto_fin : ∀ n : Fin 5, 2 ≤ n.val → ∀ i : Fin 16, i.val < n.val * n.val → ∀ k : Fin 4, k.val < n.val → ∀ c : Fin 16, c.val < n.val * n.val →
    (SeesUpto n.val i.val (k.val + 1) c.val ↔ (c.val ≠ i.val ∧ (c.val = k.val * n.val + i.val % n.val)) ∨ (c.val ≠ i.val ∧ c.val = i.val / n.val * n.val + k.val) ∨ SeesUpto n.val i.val k.val c.val) := by
  unfold SeesUpto; decide +kernel
set_option maxHeartbeats 800000 in
theorem implSinglesN_ev {m : List Int} {n : Nat} (hm : masksB m (n : Int) = true) : Ev (fun k => impl_NarrowSingles.l0 k (n : Int) m m (m.length : Int) 0) (singlesUpto m n m.length) := by
  have hn := size_nat_or (masksB_size hm)
  have hlen := masks_len hm
  have hle := masksB_le hm
  have hn0 : ¬ (n : Int) = 0 := by omega
  have := Ev.range (L := fun k (x : List Int) i => impl_NarrowSingles.l0 k (n : Int) x m (m.length : Int) i) (R := fun _ _ => singlesUpto m n m.length) (N := m.length) (fun x i => x = singlesUpto m n i) ?_ ?_ m 0 (Nat.zero_le _) rfl
  · simpa using this
  · rintro x rfl
    refine Ev.step (fun k => impl_NarrowSingles.l0.eq_2 _ _ _ _ _ k) ?_
    simp only [Int.lt_irrefl, if_false]
    exact Ev.now _
  · rintro x i hi rfl ih
    refine Ev.step (fun k => impl_NarrowSingles.l0.eq_2 _ _ _ _ _ k) ?_
    have h1 : (i : Int) < (m.length : Int) := by omega
    have h0 : (0 : Int) ≤ (i : Int) := by omega
    have hmv := mask_even hm (rd_mem h0 h1)
    simp only [h1, h0, if_true]
    refine Ev.bind (onlyValue_ev hmv) ?_
    by_cases ho : onlyV (rd m (i : Int)) = 0
    · simp only [ho, if_true, w64n (by omega : i < 9000000000000000000)]
      refine ih _ ?_
      rw [singlesUpto, if_pos ho]
    · simp only [ho, if_false]
      have hyl := singlesUpto_len m n i
      generalize hy : singlesUpto m n i = y at hyl ⊢
      have := Ev.range (L := fun k (x : List Int) j => impl_NarrowSingles.l1 k (n : Int) x (i : Int) (rd m (i : Int)) m (m.length : Int) (i : Int) (n : Int) j) (R := fun _ _ => singlesUpto m n m.length) (N := n)
        (fun x j => Upd (fun z => Go.bits .andNot .i64 z (rd m (i : Int))) (fun c => SeesUpto n i j c) y x) ?_ ?_ y 0 (Nat.zero_le _) (Upd.start (fun c _ h => by
          rcases h with ⟨_, ⟨_, h⟩ | ⟨_, h⟩⟩ <;> exact absurd h (Nat.not_lt_zero _)))
      · simpa using this
      · intro x hx
        refine Ev.step (fun k => impl_NarrowSingles.l1.eq_2 _ _ _ _ _ _ _ _ _ k) ?_
        simp only [Int.lt_irrefl, if_false, w64n (by omega : i < 9000000000000000000)]
        refine ih _ ?_
        rw [singlesUpto, if_neg ho, hy]
        refine hx.eq (takeSeen_upd n i _ _) (fun c hc => ?_)
        rw [hyl, hlen] at hc
        unfold SeesUpto Sees
        rcases hn with rfl | rfl | rfl <;> omega
      · intro x j hj hx ihj
        refine Ev.step (fun k => impl_NarrowSingles.l1.eq_2 _ _ _ _ _ _ _ _ _ k) ?_
        have hin : i < n * n := by omega
        have hi16 : i < 16 := by omega
        have h3 : (j : Int) < (n : Int) := by omega
        have hrow := row_idx hn hin hj
        have hcol := col_idx hn hin hj
        obtain ⟨hr1, hc1⟩ := rowcol_lt hn hin hj
        unfold rowCell at hrow hr1
        unfold colCell at hcol hc1
        simp only [h3, hn0, if_true, if_false, hrow, hcol, Option.bind_some]
        have hfin : ∀ c, c < y.length → (SeesUpto n i (j + 1) c ↔ (c ≠ i ∧ (c = j * n + i % n)) ∨ (c ≠ i ∧ c = i / n * n + j) ∨ SeesUpto n i j c) := by
          intro c hc
          exact seesUpto_fin ⟨n, by omega⟩ (by simp only; omega) ⟨i, by omega⟩ hin ⟨j, by omega⟩ hj ⟨c, by omega⟩ (by simp only; omega)
        clear hrow hcol
        generalize hR : i / n * n + j = r at *
        generalize hC : j * n + i % n = c at *
        have hr2 : (r : Int) < (x.length : Int) := by have := hx.1; omega
        have hc2 : (c : Int) < (x.length : Int) := by have := hx.1; omega
        have hr0 : (0 : Int) ≤ (r : Int) := by omega
        have hc0 : (0 : Int) ≤ (c : Int) := by omega
        refine Ev.step (fun k => impl_NarrowSingles.l2.eq_2 _ _ _ _ _ _ _ _ _ _ _ _ k) ?_
        have e9 : (([(r : Int), (c : Int)] : List Int).length : Int) = 2 := rfl
        have e0 : (0 : Int) < 2 := by decide
        rw [e9]
        have e00 : (0 : Int) ≤ 0 := by decide
        have e1 : rd [(r : Int), (c : Int)] 0 = r := rfl
        have e2 : wrap64 (0 + 1) = 1 := by decide +kernel
        simp only [e0, e00, e1, e2, if_true, hr0, hr2, Int.toNat_natCast]
        have hmid : ∀ x', Upd (fun z => Go.bits .andNot .i64 z (rd m (i : Int))) (fun d => (d ≠ i ∧ d = r) ∨ SeesUpto n i j d) y x' → Ev (fun k => impl_NarrowSingles.l2 k (n : Int) x' (i : Int) (rd m (i : Int)) m (m.length : Int) (i : Int) (n : Int) (j : Int) [(r : Int), (c : Int)] 2 1) (singlesUpto m n m.length) := by
          intro x' hx'
          have hc3 : (c : Int) < (x'.length : Int) := by have := hx'.1; omega
          refine Ev.step (fun k => impl_NarrowSingles.l2.eq_2 _ _ _ _ _ _ _ _ _ _ _ _ k) ?_
          have e3 : (1 : Int) < 2 := by decide
          rw [e9]
          have e4 : (0 : Int) ≤ 1 := by decide
          have e5 : rd [(r : Int), (c : Int)] 1 = c := rfl
          have e6 : wrap64 (1 + 1) = 2 := by decide +kernel
          simp only [e3, e4, e5, e6, if_true, hc0, hc3, Int.toNat_natCast]
          have hlast : ∀ x'', Upd (fun z => Go.bits .andNot .i64 z (rd m (i : Int))) (fun d => SeesUpto n i (j + 1) d) y x'' → Ev (fun k => impl_NarrowSingles.l2 k (n : Int) x'' (i : Int) (rd m (i : Int)) m (m.length : Int) (i : Int) (n : Int) (j : Int) [(r : Int), (c : Int)] 2 2) (singlesUpto m n m.length) := by
            intro x'' hx''
            refine Ev.step (fun k => impl_NarrowSingles.l2.eq_2 _ _ _ _ _ _ _ _ _ _ _ _ k) ?_
            have e7 : ¬ (2 : Int) < 2 := by decide
            simp only [e7, if_false, w64n (by omega : j < 9000000000000000000)]
            exact ihj _ hx''
          by_cases hci : (c : Int) = (i : Int)
          · simp only [if_pos hci]
            refine hlast _ (hx'.skip (fun d hd => ?_))
            rw [hfin d hd]
            have hci' : c = i := by omega
            constructor
            · rintro (h | h)
              · exact absurd (h.2.trans hci') h.1
              · exact h
            · exact .inr
          · simp only [if_neg hci]
            have hci' : c ≠ i := fun h => hci (congrArg Int.ofNat h)
            refine hlast _ (hx'.set (by omega) ?_ (fun d hd => ?_) rfl)
            · unfold SeesUpto
              have : ¬ ((c ≠ i ∧ c = r) ∨ (c ≠ i ∧ (c / n = i / n ∧ c % n < j ∨ c % n = i % n ∧ c / n < j))) := by
                rcases hn with rfl | rfl | rfl <;> omega
              exact this
            · rw [hfin d hd]
              constructor
              · rintro (h | h)
                · exact .inl h.2
                · exact .inr h
              · rintro (h | h)
                · exact .inl ⟨by rw [h]; exact hci', h⟩
                · exact .inr h
        by_cases hri : (r : Int) = (i : Int)
        · simp only [if_pos hri]
          have hri' : r = i := by omega
          refine hmid _ (hx.skip (fun d hd => ?_))
          constructor
          · rintro (h | h)
            · exact absurd (h.2.trans hri') h.1
            · exact h
          · exact .inr
        · simp only [if_neg hri]
          have hri' : r ≠ i := fun h => hri (congrArg Int.ofNat h)
          refine hmid _ (hx.set (by omega) ?_ (fun d hd => ?_) rfl)
          · unfold SeesUpto
            rcases hn with rfl | rfl | rfl <;> omega
          · constructor
            · rintro (h | h)
              · exact .inl h.2
              · exact .inr h
            · rintro (h | h)
              · exact .inl ⟨by rw [h]; exact hri', h⟩
              · exact .inr h
theorem implNarrowSingles_ev (m : List Int) (s : Int) (h : m.length ≤ 35184372088832) (hw : ∀ x ∈ m, x ≤ 9223372036854775807) : Ev (fun k => impl_NarrowSingles.f k m s) (narrowSingles m s) := by
  unfold impl_NarrowSingles.f narrowSingles
  refine Ev.bind (implMasksValid_ev m s h hw) ?_
  by_cases hm : masksB m s = true
  · obtain ⟨hsn, _, _⟩ := size_nat (masksB_size hm)
    simp only [hm, if_true, clone_eq (masksB_le hm), Option.bind_some]
    rw [← hsn] at hm
    have := implSinglesN_ev hm
    rwa [hsn] at this
  · simp only [hm, if_false, Bool.false_eq_true]
    exact Ev.now _

end Go.Proofs.Ytaglakdahmepeaa.Pure
