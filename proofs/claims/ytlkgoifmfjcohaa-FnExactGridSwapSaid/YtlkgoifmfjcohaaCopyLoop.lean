/- A loop that stores into a copy, cell by cell. Conditions: as stated. -/
import Derived.Test.YtlkgoifmfjcohaaWWords
import Derived.Test.YtlkgoifmfjcohaaWMore
namespace Go.Proofs.Ytlkgoifmfjcohaa.Pure
set_option linter.unusedSimpArgs false
set_option linter.unusedVariables false
open Go.RowKit Go.Proofs.YtlkgoifmfjcohaaW.PrintWords Go.Proofs.YtlkgoifmfjcohaaW.PrintMore

/-- What a copy holds after n cells were turned by f. -/
def Turned (f : Int → Int) (g : List Int) (x : List Int) (n : Nat) : Prop := x.length = g.length ∧ ∀ i, x[i]? = if i < n then (g.map f)[i]? else g[i]?
theorem Turned.start (f : Int → Int) (g : List Int) : Turned f g g 0 := ⟨rfl, fun i => by simp⟩
theorem Turned.fin {f : Int → Int} {g x : List Int} (h : Turned f g x g.length) : x = g.map f := by
  apply List.ext_getElem?
  intro i
  rw [h.2 i]
  by_cases hi : i < g.length
  · rw [if_pos hi]
  · rw [if_neg hi, List.getElem?_eq_none (by omega), List.getElem?_eq_none (by rw [List.length_map]; omega)]
theorem Turned.set {f : Int → Int} {g x : List Int} {n : Nat} (h : Turned f g x n) (hn : n < g.length) {v : Int} (hv : v = f g[n]) : Turned f g (x.set n v) (n + 1) := by
  refine ⟨by rw [List.length_set]; exact h.1, fun i => ?_⟩
  rw [List.getElem?_set]
  by_cases hi : n = i
  · subst hi
    have hx := h.1
    simp only [if_true, if_pos (by omega : n < x.length), if_pos (by omega : n < n + 1)]
    rw [List.getElem?_eq_getElem (by rw [List.length_map]; exact hn), List.getElem_map, hv]
  · rw [if_neg hi, h.2 i]
    by_cases hi2 : i < n
    · rw [if_pos hi2, if_pos (by omega)]
    · rw [if_neg hi2, if_neg (by omega)]
theorem Turned.skip {f : Int → Int} {g x : List Int} {n : Nat} (h : Turned f g x n) (hn : n < g.length) (hv : f g[n] = g[n]) : Turned f g x (n + 1) := by
  refine ⟨h.1, fun i => ?_⟩
  rw [h.2 i]
  by_cases hi : i = n
  · subst hi
    rw [if_neg (by omega), if_pos (by omega), List.getElem?_eq_getElem hn, List.getElem?_eq_getElem (by rw [List.length_map]; exact hn), List.getElem_map, hv]
  · by_cases hi2 : i < n
    · rw [if_pos hi2, if_pos (by omega)]
    · rw [if_neg hi2, if_neg (by omega)]

end Go.Proofs.Ytlkgoifmfjcohaa.Pure
