/- Masks after a value is taken out. Conditions: as stated in each. -/
import Derived.Test.YtaglakdahmepeaaWWords
import Derived.Test.YtaglakdahmepeaaWMore
import Derived.Test.YtaglakdahmepeaaCandA
import Derived.Test.YtaglakdahmepeaaHas
import Derived.Test.YtaglakdahmepeaaModel
namespace Go.Proofs.Ytaglakdahmepeaa.Pure
set_option linter.unusedSimpArgs false
set_option linter.unusedVariables false
open Go.RowKit Go.Proofs.YtaglakdahmepeaaW.PrintWords Go.Proofs.YtaglakdahmepeaaW.PrintMore

theorem clear_fin : ∀ m : Fin 32, ∀ a : Fin 5, ∀ b : Fin 5, m.val % 2 = 0 → let r := Go.bits .andNot .i64 (m.val : Int) (Go.bits .or .i64 (shl .i64 1 (a.val : Int)) (shl .i64 1 (b.val : Int)))
    (0 ≤ r ∧ r ≤ 30 ∧ r % 2 = 0) ∧ ∀ v : Fin 5, 1 ≤ v.val → has r (v.val : Int) = (has (m.val : Int) (v.val : Int) && (decide (a ≠ v) && decide (b ≠ v))) := by decide +kernel
theorem clear_spec {m a b : Int} (hm : 0 ≤ m ∧ m ≤ 30 ∧ m % 2 = 0) (ha : 0 ≤ a ∧ a ≤ 4) (hb : 0 ≤ b ∧ b ≤ 4) : let r := Go.bits .andNot .i64 m (Go.bits .or .i64 (shl .i64 1 a) (shl .i64 1 b))
    (0 ≤ r ∧ r ≤ 30 ∧ r % 2 = 0) ∧ ∀ v : Int, 1 ≤ v → v ≤ 4 → has r v = (has m v && (decide (a ≠ v) && decide (b ≠ v))) := by
  have := clear_fin ⟨m.toNat, by omega⟩ ⟨a.toNat, by omega⟩ ⟨b.toNat, by omega⟩ (by simp only; omega)
  simp only [show ((m.toNat : Nat) : Int) = m by omega, show ((a.toNat : Nat) : Int) = a by omega, show ((b.toNat : Nat) : Int) = b by omega] at this
  refine ⟨this.1, fun v h1 h2 => ?_⟩
  have h3 := this.2 ⟨v.toNat, by omega⟩ (by simp only; omega)
  simp only [show ((v.toNat : Nat) : Int) = v by omega, ne_eq, Fin.mk.injEq] at h3
  rw [h3]
  have e1 : decide (¬ a.toNat = v.toNat) = decide (a ≠ v) := by
    by_cases hx : a = v
    · rw [decide_eq_false (by omega), decide_eq_false (by simp [hx])]
    · rw [decide_eq_true (by omega), decide_eq_true hx]
  have e2 : decide (¬ b.toNat = v.toNat) = decide (b ≠ v) := by
    by_cases hx : b = v
    · rw [decide_eq_false (by omega), decide_eq_false (by simp [hx])]
    · rw [decide_eq_true (by omega), decide_eq_true hx]
  rw [e1, e2]
theorem allM_has_fin : ∀ s : Fin 5, sizeOkB (s.val : Int) = true → (0 ≤ allM (s.val : Int) ∧ allM (s.val : Int) ≤ 30 ∧ allM (s.val : Int) % 2 = 0) ∧ ∀ v : Fin 5, 1 ≤ v.val → has (allM (s.val : Int)) (v.val : Int) = decide (v.val ≤ s.val) := by decide +kernel
theorem allM_has {s : Int} (hso : sizeOkB s = true) : (0 ≤ allM s ∧ allM s ≤ 30 ∧ allM s % 2 = 0) ∧ ∀ v : Int, 1 ≤ v → v ≤ 4 → has (allM s) v = decide (v ≤ s) := by
  obtain ⟨hn, hsn⟩ := size_or hso
  have hall := allM_has_fin ⟨s.toNat, by omega⟩ (by simp only [← hsn]; exact hso)
  simp only [← hsn] at hall
  refine ⟨hall.1, fun v h1 h2 => ?_⟩
  have := hall.2 ⟨v.toNat, by omega⟩ (by simp only; omega)
  simp only [show ((v.toNat : Nat) : Int) = v by omega] at this
  rw [this]
  by_cases hle : v ≤ s
  · rw [decide_eq_true hle, decide_eq_true (by omega)]
  · rw [decide_eq_false hle, decide_eq_false (by omega)]

end Go.Proofs.Ytaglakdahmepeaa.Pure
