/- What a valid rule is, in plain Lean. Conditions: as stated in each. -/
import Derived.Test.YthfbjkniinfgcaaWWords
import Derived.Test.YthfbjkniinfgcaaWMore
import Derived.Test.YthfbjkniinfgcaaBase
import Derived.Test.YthfbjkniinfgcaaModel
namespace Go.Proofs.Ythfbjkniinfgcaa.Pure
set_option linter.unusedSimpArgs false
set_option linter.unusedVariables false
open Go.RowKit Go.Proofs.YthfbjkniinfgcaaW.PrintWords Go.Proofs.YthfbjkniinfgcaaW.PrintMore

/-- Are the first n cells numbers of cells of the grid, each another one? -/
def goodCells (t : Int) (cs : List Int) : Nat → Bool
  | 0 => true
  | n + 1 => goodCells t cs n && (decide (0 ≤ rd cs (n : Int) ∧ rd cs (n : Int) < t) && !decide (rd cs (n : Int) ∈ cs.take n))
theorem goodCells_false {t : Int} {cs : List Int} {n : Nat} (h : goodCells t cs n = false) : ∀ d, goodCells t cs (n + d) = false
  | 0 => h
  | d + 1 => by rw [show n + (d + 1) = (n + d) + 1 from rfl, goodCells, goodCells_false h d]; rfl
theorem goodCells_le {t : Int} {cs : List Int} {n m : Nat} (h : goodCells t cs n = false) (hm : n ≤ m) : goodCells t cs m = false := by
  obtain ⟨d, rfl⟩ : ∃ d, m = n + d := ⟨m - n, by omega⟩
  exact goodCells_false h d
/-- What is asked of a rule's number of cells and of its value. -/
def ruleTail (kind len v s : Int) : Bool := decide (len ≤ 4) && (if kind = 1 then decide (2 ≤ len ∧ v = 0) else if kind = 2 ∨ kind = 3 then decide (1 ≤ len ∧ 1 ≤ v ∧ v ≤ s * s * s * s) else if kind = 4 then decide (len = 2 ∧ v = 0) else if kind = 5 then decide (len = 2 ∧ 0 ≤ v ∧ v < s) else false)
def ruleB (kind : Int) (cs : List Int) (v s : Int) : Bool := sizeOkB s && (goodCells (s * s) cs cs.length && ruleTail kind cs.length v s)
/-- Some earlier cell is the same, if it stands among the first n. -/
theorem mem_take_iff {cs : List Int} {n : Nat} {c : Int} : c ∈ cs.take n ↔ ∃ j, j < n ∧ j < cs.length ∧ rd cs (j : Int) = c := by
  constructor
  · intro h
    obtain ⟨j, hj, he⟩ := List.mem_iff_getElem.1 h
    rw [List.length_take] at hj
    refine ⟨j, by omega, by omega, ?_⟩
    rw [rd_lt (by omega : j < cs.length), ← he, List.getElem_take]
  · rintro ⟨j, h1, h2, he⟩
    rw [rd_lt h2] at he
    refine List.mem_iff_getElem.2 ⟨j, by rw [List.length_take]; omega, ?_⟩
    rw [List.getElem_take]; exact he

end Go.Proofs.Ythfbjkniinfgcaa.Pure
