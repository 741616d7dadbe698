/- Bits of masks. Conditions: as stated in each. -/
import Derived.Test.YtaglakdahmepeaaWWords
import Derived.Test.YtaglakdahmepeaaWMore
import Derived.Test.YtaglakdahmepeaaModel
namespace Go.Proofs.Ytaglakdahmepeaa.Pure
set_option linter.unusedSimpArgs false
set_option linter.unusedVariables false
open Go.RowKit Go.Proofs.YtaglakdahmepeaaW.PrintWords Go.Proofs.YtaglakdahmepeaaW.PrintMore

theorem le_of_andNot {v : Int} {M : Nat} (hM : M < 2 ^ 64) (h0 : 0 ≤ v) (h1 : v < 2 ^ 63) (h : Go.bits .andNot .i64 v (M : Int) = 0) : v ≤ M := by
  unfold Go.bits at h
  simp only [IntKind.wrap_i64] at h
  have hlt := (BitVec.ofInt IntKind.i64.bits v &&& ~~~ BitVec.ofInt IntKind.i64.bits (M : Int)).isLt
  have hbits : IntKind.i64.bits = 64 := rfl
  rw [hbits] at h hlt
  have ht : (BitVec.ofInt 64 v &&& ~~~ BitVec.ofInt 64 (M : Int)).toNat = 0 := by omega
  have e : BitVec.ofInt 64 v &&& ~~~ BitVec.ofInt 64 (M : Int) = 0#64 := BitVec.eq_of_toNat_eq (by simpa using ht)
  have e2 : BitVec.ofInt 64 v = BitVec.ofInt 64 v &&& BitVec.ofInt 64 (M : Int) := by
    apply BitVec.eq_of_getLsbD_eq
    intro i hi
    have h := congrArg (fun x => BitVec.getLsbD x i) e
    simp only [BitVec.getLsbD_and, BitVec.getLsbD_not, BitVec.getLsbD_zero, hi, decide_true, Bool.true_and] at h ⊢
    cases hx : (BitVec.ofInt 64 v).getLsbD i <;> cases hy : (BitVec.ofInt 64 (M : Int)).getLsbD i <;> simp_all
  have e3 := congrArg BitVec.toNat e2
  rw [BitVec.toNat_and] at e3
  have e4 : (BitVec.ofInt 64 (M : Int)).toNat = M := by
    rw [BitVec.toNat_ofInt]; omega
  have e5 : (BitVec.ofInt 64 v).toNat = v.toNat := by
    rw [BitVec.toNat_ofInt]; omega
  rw [e4, e5] at e3
  have := @Nat.and_le_right v.toNat M
  omega
theorem and7_range (s : Int) : 0 ≤ Go.bits .and .i64 s 7 ∧ Go.bits .and .i64 s 7 ≤ 7 := by
  unfold Go.bits
  simp only [IntKind.wrap_i64]
  rw [BitVec.toNat_and]
  have := @Nat.and_le_right (BitVec.ofInt IntKind.i64.bits s).toNat (BitVec.ofInt IntKind.i64.bits 7).toNat
  have e : (BitVec.ofInt IntKind.i64.bits 7).toNat = 7 := by decide
  rw [e] at this ⊢
  omega
theorem andNot_fin : ∀ s : Fin 5, sizeOkB s = true → ∀ v : Fin 31, (Go.bits .andNot .i64 (v.val : Int) (allM s) = 0 ↔ (v.val : Int) ≤ allM s ∧ (v.val : Int) % 2 = 0) := by decide +kernel
theorem andNot_iff {s v : Int} (hs : sizeOkB s = true) (h0 : 0 ≤ v) (h1 : v < 2 ^ 63) : Go.bits .andNot .i64 v (allM s) = 0 ↔ v ≤ allM s ∧ v % 2 = 0 := by
  have hr : allM s ≤ 30 := by rcases sizeOkB_iff.1 hs with rfl | rfl | rfl <;> decide
  have hc : ((allM s).toNat : Int) = allM s := by rcases sizeOkB_iff.1 hs with rfl | rfl | rfl <;> decide
  by_cases hv : v ≤ 30
  · have hs' : ∃ j : Fin 5, (j.val : Int) = s := by
      rcases sizeOkB_iff.1 hs with rfl | rfl | rfl
      · exact ⟨2, rfl⟩
      · exact ⟨3, rfl⟩
      · exact ⟨4, rfl⟩
    obtain ⟨j, rfl⟩ := hs'
    have := andNot_fin j hs ⟨v.toNat, by omega⟩
    rwa [show ((v.toNat : Nat) : Int) = v by omega] at this
  · constructor
    · intro h
      rw [← hc] at h
      have := le_of_andNot (by omega) h0 h1 h
      omega
    · intro h; omega

end Go.Proofs.Ytaglakdahmepeaa.Pure
