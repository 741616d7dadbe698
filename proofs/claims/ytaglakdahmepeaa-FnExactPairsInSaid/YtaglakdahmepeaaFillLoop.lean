/- A loop that fills a new list, cell by cell. Conditions: as stated. -/
import Derived.Test.YtaglakdahmepeaaWWords
import Derived.Test.YtaglakdahmepeaaWMore
import Derived.Test.YtaglakdahmepeaaBase
namespace Go.Proofs.Ytaglakdahmepeaa.Pure
set_option linter.unusedSimpArgs false
set_option linter.unusedVariables false
open Go.RowKit Go.Proofs.YtaglakdahmepeaaW.PrintWords Go.Proofs.YtaglakdahmepeaaW.PrintMore

def Filled0 (r : List Int) (x : List Int) (n : Nat) : Prop := x.length = r.length ∧ x.take n = r.take n
theorem Filled0.start (r : List Int) : Filled0 r (List.replicate r.length 0) 0 := ⟨by simp, by simp⟩
theorem Filled0.fin {r x : List Int} (h : Filled0 r x r.length) : x = r := by
  obtain ⟨h1, h2⟩ := h
  rw [List.take_length, ← h1, List.take_length] at h2
  exact h2
theorem Filled0.set {r x : List Int} {n : Nat} (h : Filled0 r x n) (hn : n < r.length) {v : Int} (hv : v = r[n]) : Filled0 r (x.set n v) (n + 1) := by
  refine ⟨by rw [List.length_set]; exact h.1, ?_⟩
  rw [take_set_succ (by have := h.1; omega), h.2, List.take_succ_eq_append_getElem hn, hv]

end Go.Proofs.Ytaglakdahmepeaa.Pure
