/- What MasksHave comes to. Conditions: as stated in each. -/
import Derived.Test.YtnocdmclcdfppaaWWords
import Derived.Test.YtnocdmclcdfppaaWMore
import Derived.Test.YtnocdmclcdfppaaBase
import Derived.Test.YtnocdmclcdfppaaHas
import Derived.Test.YtnocdmclcdfppaaModel
namespace Go.Proofs.Ytnocdmclcdfppaa.Pure
set_option linter.unusedSimpArgs false
set_option linter.unusedVariables false
open Go.RowKit Go.Proofs.YtnocdmclcdfppaaW.PrintWords Go.Proofs.YtnocdmclcdfppaaW.PrintMore

def haveL (m g : List Int) : Bool := (List.zip g m).all (fun p => has p.2 p.1)
def masksHave (m : List Int) (s : Int) (g : List Int) : Bool := masksB m s && (gridB g s && haveL m g)
theorem size_le4 {s : Int} (h : sizeOkB s = true) : 2 ≤ s ∧ s ≤ 4 := by rcases sizeOkB_iff.1 h with rfl | rfl | rfl <;> decide
theorem allM_le {s : Int} (h : sizeOkB s = true) : 0 ≤ allM s ∧ allM s ≤ 30 := by rcases sizeOkB_iff.1 h with rfl | rfl | rfl <;> decide
theorem mask_le {m : List Int} {s : Int} (h : masksB m s = true) {x : Int} (hx : x ∈ m) : 0 ≤ x ∧ x ≤ 30 := by
  have h1 := masksB_mem h x hx
  have h2 := allM_le (masksB_size h)
  omega
theorem val_le {g : List Int} {s : Int} (h : gridB g s = true) {x : Int} (hx : x ∈ g) : 0 ≤ x ∧ x ≤ 4 := by
  have h1 := gridB_mem h x hx
  have h2 := size_le4 (gridB_size h)
  omega
theorem zip_drop_cons {g m : List Int} {n : Nat} (hg : n < g.length) (hm : n < m.length) : List.zip (g.drop n) (m.drop n) = (g[n], m[n]) :: List.zip (g.drop (n + 1)) (m.drop (n + 1)) := by
  rw [drop_cons hg, drop_cons hm, List.zip_cons_cons]

end Go.Proofs.Ytnocdmclcdfppaa.Pure
