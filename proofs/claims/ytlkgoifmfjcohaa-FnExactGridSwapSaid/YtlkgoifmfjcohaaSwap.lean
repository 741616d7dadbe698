/- What GridSwap comes to. Conditions: as stated in each. -/
import Derived.Test.YtlkgoifmfjcohaaWWords
import Derived.Test.YtlkgoifmfjcohaaWMore
import Derived.Test.YtlkgoifmfjcohaaP2
import Derived.Test.YtlkgoifmfjcohaaP26
import Derived.Test.YtlkgoifmfjcohaaP27
import Derived.Test.YtlkgoifmfjcohaaP3
import Derived.Test.YtlkgoifmfjcohaaBase
import Derived.Test.YtlkgoifmfjcohaaCopyLoop
import Derived.Test.YtlkgoifmfjcohaaGridV
import Derived.Test.YtlkgoifmfjcohaaModel
import Derived.Test.YtlkgoifmfjcohaaSize
namespace Go.Proofs.Ytlkgoifmfjcohaa.Pure
set_option linter.unusedSimpArgs false
set_option linter.unusedVariables false
open Go.RowKit Go.Proofs.YtlkgoifmfjcohaaW.PrintWords Go.Proofs.YtlkgoifmfjcohaaW.PrintMore Go.Proofs.Ytlkgoifmfjcohaa.P

def swapV (a b v : Int) : Int := if v = a then b else if v = b then a else v
def swapOkB (g : List Int) (s a b : Int) : Bool := gridB g s && (decide (1 ≤ a ∧ a ≤ s) && decide (1 ≤ b ∧ b ≤ s))
def swapG (g : List Int) (s a b : Int) : List Int := if swapOkB g s a b = true then g.map (swapV a b) else []
theorem swapG_len (g : List Int) (s a b : Int) : (swapG g s a b).length ≤ 16 := by
  unfold swapG; split
  · rename_i h
    unfold swapOkB at h; rw [Bool.and_eq_true] at h
    rw [List.length_map]; exact gridB_le h.1
  · exact Nat.zero_le _
theorem specGridSwap_ev (g : List Int) (s a b : Int) (h : g.length ≤ 35184372088832) : Ev (fun k => spec_GridSwap.f k g s a b) (swapG g s a b) := by
  unfold spec_GridSwap.f swapG
  have hj : ∀ (x : List Int) (i : Int), Ev (fun k => spec_GridSwap.j1 k g s a b x i false) x := by
    intro x i
    refine Ev.step (fun k => spec_GridSwap.j1.eq_2 _ _ _ _ _ _ _ k) ?_
    simp only [Bool.false_eq_true, if_false]; exact Ev.now _
  by_cases ho : swapOkB g s a b = true
  · have ho2 := ho
    unfold swapOkB at ho2
    simp only [Bool.and_eq_true] at ho2
    obtain ⟨hg, ha, hb⟩ := ho2
    simp only [ho, if_true]
    have := Ev.range (L := fun k (x : List Int) i => spec_GridSwap.l0 k g s a b x i) (R := fun _ _ => g.map (swapV a b)) (N := g.length) (fun x n => x = (g.take n).map (swapV a b)) ?_ ?_ [] 0 (Nat.zero_le _) rfl
    · simpa using this
    · rintro x rfl
      refine Ev.step (fun k => spec_GridSwap.l0.eq_2 _ _ _ _ _ _ k) ?_
      simp only [Int.lt_irrefl, if_false, List.take_length]
      exact hj _ _
    · rintro x n hn rfl ih
      refine Ev.step (fun k => spec_GridSwap.l0.eq_2 _ _ _ _ _ _ k) ?_
      have h1 : (n : Int) < (g.length : Int) := by omega
      have h0 : (0 : Int) ≤ n := by omega
      simp only [h1, if_true]
      refine Ev.bind (specGridValid_ev g s h) ?_
      simp only [hg, if_true, l1In_eq, Option.bind_some, ha, hb]
      refine Ev.step (fun k => spec_GridSwap.j1.eq_2 _ _ _ _ _ _ _ k) ?_
      have hlen : ((g.take n).map (swapV a b)).length < 17592186044416 := by
        rw [List.length_map, List.length_take]; have := gridB_le hg; omega
      have hs : ∀ v, swapV a b g[n] = v → Ev (fun k => spec_GridSwap.l0 k g s a b ((g.take n).map (swapV a b) ++ [v]) ((n + 1 : Nat) : Int)) (g.map (swapV a b)) := by
        intro v hv
        refine ih _ ?_
        rw [List.take_succ_eq_append_getElem hn, List.map_append, List.map_singleton, hv]
      simp only [h0, h1, if_true, rd_lt hn, hlen, w64n (by omega : n < 9000000000000000000)]
      by_cases e1 : g[n] = a
      · simp only [e1, if_true]
        exact hs b (by unfold swapV; rw [if_pos e1])
      · by_cases e2 : g[n] = b
        · simp only [e1, if_false, e2, if_true]
          have e3 : ¬ b = a := fun e => e1 (e2.trans e)
          simp only [e3, if_false]
          exact hs a (by unfold swapV; rw [if_neg e1, if_pos e2])
        · simp only [e1, if_false, e2]
          exact hs g[n] (by unfold swapV; rw [if_neg e1, if_neg e2])
  · simp only [ho, if_false, Bool.false_eq_true]
    refine Ev.step (fun k => spec_GridSwap.l0.eq_2 _ _ _ _ _ _ k) ?_
    by_cases h1 : (0 : Int) < (g.length : Int)
    · simp only [h1, if_true]
      refine Ev.bind (specGridValid_ev g s h) ?_
      by_cases hg : gridB g s = true
      · simp only [hg, if_true, l1In_eq, Option.bind_some]
        by_cases ha : decide (1 ≤ a ∧ a ≤ s) = true
        · simp only [ha, if_true]
          have hb : decide (1 ≤ b ∧ b ≤ s) = false := by
            apply eq_false_of_ne_true
            intro hb; apply ho; unfold swapOkB; rw [hg, ha, hb]; rfl
          simp only [hb]
          exact hj _ _
        · simp only [ha, if_false, Bool.false_eq_true]
          exact hj _ _
      · simp only [hg, if_false, Bool.false_eq_true]
        exact hj _ _
    · simp only [h1, if_false]
      exact hj _ _
theorem implGridSwap_ev (g : List Int) (s a b : Int) (h : g.length ≤ 35184372088832) : Ev (fun k => impl_GridSwap.f k g s a b) (swapG g s a b) := by
  unfold impl_GridSwap.f swapG
  refine Ev.bind (implGridValid_ev g s h) ?_
  have hj : Ev (fun k => impl_GridSwap.j0 k g a b true) ([] : List Int) := by
    refine Ev.step (fun k => impl_GridSwap.j0.eq_2 _ _ _ _ k) ?_
    simp only [if_true]; exact Ev.now _
  by_cases hg : gridB g s = true
  · by_cases ha : 1 ≤ a ∧ a ≤ s
    · by_cases hb : 1 ≤ b ∧ b ≤ s
      · have ho : swapOkB g s a b = true := by unfold swapOkB; rw [hg, decide_eq_true ha, decide_eq_true hb]; rfl
        have h1 : ¬ a < 1 := by omega
        have h2 : ¬ a > s := by omega
        have h3 : ¬ b < 1 := by omega
        have h4 : decide (b > s) = false := decide_eq_false (by omega)
        simp only [hg, if_true, h1, h2, h3, h4, if_false, ho]
        refine Ev.step (fun k => impl_GridSwap.j0.eq_2 _ _ _ _ k) ?_
        have hc : slices_Clone_int_int.f g = some g := by
          unfold slices_Clone_int_int.f; rw [if_pos]; have := gridB_le hg; omega
        simp only [Bool.false_eq_true, if_false, hc, Option.bind_some]
        have := Ev.range (L := fun k (x : List Int) i => impl_GridSwap.l0 k a b x g (g.length : Int) i) (R := fun _ _ => g.map (swapV a b)) (N := g.length) (fun x n => Turned (swapV a b) g x n) ?_ ?_ g 0 (Nat.zero_le _) (Turned.start _ _)
        · simpa using this
        · intro x hx
          refine Ev.step (fun k => impl_GridSwap.l0.eq_2 _ _ _ _ _ _ k) ?_
          simp only [Int.lt_irrefl, if_false, hx.fin]
          exact Ev.now _
        · intro x n hn hx ih
          refine Ev.step (fun k => impl_GridSwap.l0.eq_2 _ _ _ _ _ _ k) ?_
          have h5 : (n : Int) < (g.length : Int) := by omega
          have h6 : (0 : Int) ≤ n := by omega
          have h7 : (n : Int) < (x.length : Int) := by have := hx.1; omega
          simp only [h5, h6, h7, if_true, rd_lt hn, Int.toNat_natCast, w64n (by omega : n < 9000000000000000000)]
          by_cases e1 : g[n] = a
          · simp only [e1, if_true]
            exact ih _ (hx.set hn (by unfold swapV; rw [if_pos e1]))
          · by_cases e2 : g[n] = b
            · have e3 : ¬ b = a := fun e => e1 (e2.trans e)
              simp only [e1, if_false, e2, if_true, e3]
              exact ih _ (hx.set hn (by unfold swapV; rw [if_neg e1, if_pos e2]))
            · simp only [e1, if_false, e2]
              exact ih _ (hx.skip hn (by unfold swapV; rw [if_neg e1, if_neg e2]))
      · have ho : swapOkB g s a b = false := by unfold swapOkB; rw [decide_eq_false hb]; simp
        have h1 : ¬ a < 1 := by omega
        have h2 : ¬ a > s := by omega
        simp only [hg, if_true, h1, h2, if_false, ho, Bool.false_eq_true]
        by_cases h3 : b < 1
        · simp only [h3, if_true]; exact hj
        · have h4 : decide (b > s) = true := decide_eq_true (by omega)
          simp only [h3, if_false, h4]; exact hj
    · have ho : swapOkB g s a b = false := by unfold swapOkB; rw [decide_eq_false ha]; simp
      simp only [hg, if_true, ho, if_false, Bool.false_eq_true]
      by_cases h1 : a < 1
      · simp only [h1, if_true]; exact hj
      · have h2 : a > s := by omega
        simp only [h1, if_false, h2, if_true]; exact hj
  · have ho : swapOkB g s a b = false := by unfold swapOkB; rw [eq_false_of_ne_true hg]; simp
    simp only [hg, if_false, ho, Bool.false_eq_true]
    exact hj

end Go.Proofs.Ytlkgoifmfjcohaa.Pure
