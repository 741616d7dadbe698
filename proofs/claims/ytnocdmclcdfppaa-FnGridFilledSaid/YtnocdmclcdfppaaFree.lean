/- A value set into an empty cell of a grid that fits. Conditions: as stated in each. -/
import Derived.Test.YtnocdmclcdfppaaWWords
import Derived.Test.YtnocdmclcdfppaaWMore
import Derived.Test.YtnocdmclcdfppaaBase
import Derived.Test.YtnocdmclcdfppaaCandA
import Derived.Test.YtnocdmclcdfppaaFits
import Derived.Test.YtnocdmclcdfppaaModel
namespace Go.Proofs.Ytnocdmclcdfppaa.Pure
set_option linter.unusedSimpArgs false
set_option linter.unusedVariables false
open Go.RowKit Go.Proofs.YtnocdmclcdfppaaW.PrintWords Go.Proofs.YtnocdmclcdfppaaW.PrintMore

theorem freeB_iff (g : List Int) (n i : Nat) (v : Int) : ∀ m, freeB g n i v m = true ↔ ∀ k, k < m → rd g (rowCell n i k : Nat) ≠ v ∧ rd g (colCell n i k : Nat) ≠ v
  | 0 => by simp [freeB]
  | m + 1 => by
    rw [freeB, Bool.and_eq_true, freeB_iff g n i v m, Bool.and_eq_true, decide_eq_true_iff, decide_eq_true_iff]
    constructor
    · rintro ⟨h1, h2⟩ k hk
      by_cases e : k = m
      · subst e; exact h2
      · exact h1 k (by omega)
    · intro h
      exact ⟨fun k hk => h k (by omega), h m (by omega)⟩
theorem rd_set_eq {g : List Int} {i : Nat} (h : i < g.length) (v : Int) : rd (g.set i v) (i : Nat) = v := by
  rw [rd_lt (by simpa using h)]; simp
theorem rd_set_ne {g : List Int} {i j : Nat} (h : i ≠ j) (v : Int) : rd (g.set i v) (j : Nat) = rd g (j : Nat) := by
  rw [rd_nat, rd_nat, List.getD_eq_getElem?_getD, List.getD_eq_getElem?_getD, List.getElem?_set_ne h]
theorem lineCell_at {n l a i : Nat} (hn : n = 2 ∨ n = 3 ∨ n = 4) (hl : l < 2 * n) (ha : a < n) (h : lineCell n l a = i) : (l < n ∧ l = i / n ∧ a = i % n ∧ ∀ b, lineCell n l b = rowCell n i b) ∨ (¬ l < n ∧ l - n = i % n ∧ a = i / n ∧ ∀ b, lineCell n l b = colCell n i b) := by
  subst h
  by_cases hln : l < n
  · left
    refine ⟨hln, ?_, ?_, fun b => ?_⟩
    · unfold lineCell; rw [if_pos hln]; rcases hn with rfl | rfl | rfl <;> omega
    · unfold lineCell; rw [if_pos hln]; rcases hn with rfl | rfl | rfl <;> omega
    · unfold rowCell lineCell; rw [if_pos hln, if_pos hln]; rcases hn with rfl | rfl | rfl <;> omega
  · right
    refine ⟨hln, ?_, ?_, fun b => ?_⟩
    · unfold lineCell; rw [if_neg hln]; rcases hn with rfl | rfl | rfl <;> omega
    · unfold lineCell; rw [if_neg hln]; rcases hn with rfl | rfl | rfl <;> omega
    · unfold colCell lineCell; rw [if_neg hln, if_neg hln]; rcases hn with rfl | rfl | rfl <;> omega
theorem lineCell_row {n i : Nat} (hn : n = 2 ∨ n = 3 ∨ n = 4) (hi : i < n * n) (b : Nat) : i / n < n ∧ i % n < n ∧ lineCell n (i / n) b = rowCell n i b ∧ lineCell n (n + i % n) b = colCell n i b ∧ rowCell n i (i % n) = i ∧ colCell n i (i / n) = i := by
  have h1 : i / n < n := by rcases hn with rfl | rfl | rfl <;> omega
  refine ⟨h1, ?_, ?_, ?_, ?_, ?_⟩
  · rcases hn with rfl | rfl | rfl <;> omega
  · unfold lineCell rowCell; rw [if_pos h1]
  · unfold lineCell colCell; rw [if_neg (by omega)]; rcases hn with rfl | rfl | rfl <;> omega
  · unfold rowCell; rcases hn with rfl | rfl | rfl <;> omega
  · unfold colCell; rcases hn with rfl | rfl | rfl <;> omega
theorem fits_set {g : List Int} {n i : Nat} {v : Int} (hn : n = 2 ∨ n = 3 ∨ n = 4) (hlen : g.length = n * n) (hi : i < n * n) (hz : rd g (i : Nat) = 0) (hv : 0 < v) (hf : Fits g n) : Fits (g.set i v) n ↔ freeB g n i v n = true := by
  rw [freeB_iff]
  constructor
  · intro h k hk
    obtain ⟨h1, h2, h3, h4, h5, h6⟩ := lineCell_row hn hi k
    constructor
    · intro e
      have hne : i ≠ rowCell n i k := by intro e2; rw [← e2, hz] at e; omega
      have hki : i % n ≠ k := by intro e2; rw [← e2, h5] at hne; exact hne rfl
      refine h (i / n) (by omega) (i % n) k h2 hk hki ?_ ?_
      · rw [(lineCell_row hn hi (i % n)).2.2.1, h5, rd_set_eq (by omega)]; exact hv
      · rw [(lineCell_row hn hi (i % n)).2.2.1, h5, rd_set_eq (by omega), h3, rd_set_ne hne, e]
    · intro e
      have hne : i ≠ colCell n i k := by intro e2; rw [← e2, hz] at e; omega
      have hki : i / n ≠ k := by intro e2; rw [← e2, h6] at hne; exact hne rfl
      refine h (n + i % n) (by omega) (i / n) k h1 hk hki ?_ ?_
      · rw [(lineCell_row hn hi (i / n)).2.2.2.1, h6, rd_set_eq (by omega)]; exact hv
      · rw [(lineCell_row hn hi (i / n)).2.2.2.1, h6, rd_set_eq (by omega), h4, rd_set_ne hne, e]
  · intro h l hl a b ha hb hab hp he
    by_cases ea : lineCell n l a = i
    · have hv2 : ∀ c, c < n → rd g (lineCell n l c : Nat) ≠ v := by
        rcases lineCell_at hn hl ha ea with ⟨_, _, _, hc⟩ | ⟨_, _, _, hc⟩
        · intro c hcn; rw [hc]; exact (h c hcn).1
        · intro c hcn; rw [hc]; exact (h c hcn).2
      have hne : i ≠ lineCell n l b := by
        intro e2
        rcases lineCell_at hn hl ha ea with ⟨q1, _, q2, _⟩ | ⟨q1, _, q2, _⟩ <;> rcases lineCell_at hn hl hb e2.symm with ⟨q3, _, q4, _⟩ | ⟨q3, _, q4, _⟩ <;> omega
      rw [ea, rd_set_eq (by omega), rd_set_ne hne] at he
      exact hv2 b hb he.symm
    · by_cases eb : lineCell n l b = i
      · have hv2 : ∀ c, c < n → rd g (lineCell n l c : Nat) ≠ v := by
          rcases lineCell_at hn hl hb eb with ⟨_, _, _, hc⟩ | ⟨_, _, _, hc⟩
          · intro c hcn; rw [hc]; exact (h c hcn).1
          · intro c hcn; rw [hc]; exact (h c hcn).2
        rw [eb, rd_set_eq (by omega), rd_set_ne (fun e => ea e.symm)] at he
        exact hv2 a ha he
      · rw [rd_set_ne (fun e => ea e.symm)] at hp he
        rw [rd_set_ne (fun e => eb e.symm)] at he
        exact hf l hl a b ha hb hab hp he
theorem grid_set {g : List Int} {s : Int} (hg : gridB g s = true) (i : Nat) {v : Int} (h0 : 0 ≤ v) (h1 : v ≤ s) : gridB (g.set i v) s = true := by
  refine gridB_mk (gridB_size hg) (by rw [List.length_set]; exact gridB_len hg) (fun x hx => ?_)
  rcases List.mem_or_eq_of_mem_set hx with hx | rfl
  · exact gridB_mem hg x hx
  · exact ⟨h0, h1⟩

end Go.Proofs.Ytnocdmclcdfppaa.Pure
