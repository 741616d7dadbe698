/- The reader of draws: every pick of at least one is answered by a number below it. Conditions: as stated. -/
import Derived.Test.YtnocdmclcdfppaaWWords
import Derived.Test.YtnocdmclcdfppaaWMore
import Derived.Test.YtnocdmclcdfppaaP1
import Derived.Test.YtnocdmclcdfppaaBase
namespace Go.Proofs.Ytnocdmclcdfppaa.Pure
set_option linter.unusedSimpArgs false
set_option linter.unusedVariables false
open Go.RowKit Go.Proofs.YtnocdmclcdfppaaW.PrintWords Go.Proofs.YtnocdmclcdfppaaW.PrintMore Go.Proofs.Ytnocdmclcdfppaa.P

theorem xor_range {x y : Int} (hx : 0 ≤ x) (hx1 : x < 4611686018427387904) (hy : 0 ≤ y) (hy1 : y < 4611686018427387904) : 0 ≤ Go.bits .xor .i64 x y ∧ Go.bits .xor .i64 x y < 4611686018427387904 := by
  unfold Go.bits
  simp only [IntKind.wrap_i64]
  rw [BitVec.toNat_xor]
  have hb : IntKind.i64.bits = 64 := rfl
  rw [hb]
  have e1 : (BitVec.ofInt 64 x).toNat = x.toNat := by rw [BitVec.toNat_ofInt]; omega
  have e2 : (BitVec.ofInt 64 y).toNat = y.toNat := by rw [BitVec.toNat_ofInt]; omega
  rw [e1, e2]
  have := @Nat.xor_lt_two_pow x.toNat y.toNat 62 (by omega) (by omega)
  omega
/-- Bytes. -/
def Bytes (b : List Int) : Prop := b.length ≤ 2000 ∧ ∀ x ∈ b, 0 ≤ x ∧ x ≤ 255
theorem Bytes.rd {b : List Int} (h : Bytes b) (i : Int) : 0 ≤ rd b i ∧ rd b i ≤ 255 := by
  unfold Go.Proofs.YtnocdmclcdfppaaW.PrintWords.rd
  by_cases hi : i.toNat < b.length
  · have e : b.getD i.toNat 0 = b[i.toNat] := by simp [hi]
    rw [e]; exact h.2 _ (List.getElem_mem hi)
  · have e : b.getD i.toNat 0 = 0 := by simp [List.getElem?_eq_none (by omega : b.length ≤ i.toNat)]
    rw [e]; decide
theorem pick_ev {b : List Int} (hb : Bytes b) {p n : Int} (hp : 0 ≤ p) (hp1 : p ≤ 1000000) (hn : 1 ≤ n) : ∃ r, 0 ≤ r ∧ r < n ∧ Ev (fun k => spec_l20Rd_pick.f k b p n) (r, p + 1) := by
  unfold spec_l20Rd_pick.f
  have hw : wrap64 (p + 1) = p + 1 := w64 (by omega) (by omega)
  have hw1 : wrap64 (p + 1 - 1) = p := by rw [w64 (by omega) (by omega)]; omega
  have h1 : ¬ n < 1 := by omega
  have hn0 : ¬ n = 0 := by omega
  simp only [h1, if_false, hw]
  by_cases hl : b.length = 0
  · refine ⟨0, by omega, by omega, ?_⟩
    have e : ((b.length : Int) == 0) = true := by simp [hl]
    simp only [e]
    refine Ev.step (fun k => spec_l20Rd_pick.j0.eq_2 _ _ _ _ k) ?_
    simp only [if_true]
    exact Ev.now _
  · have e : ((b.length : Int) == 0) = false := by rw [beq_eq_false_iff_ne]; omega
    simp only [e]
    by_cases hk : p < (b.length : Int)
    · refine ⟨Int.tmod (rd b p) n, ?_, ?_, ?_⟩
      · exact Int.tmod_nonneg _ (hb.rd p).1
      · exact Int.tmod_lt_of_pos _ (by omega)
      · refine Ev.step (fun k => spec_l20Rd_pick.j0.eq_2 _ _ _ _ k) ?_
        have hr := hb.rd p
        simp only [Bool.false_eq_true, if_false, hw1, hk, if_true, hp, hn0, w64 (x := rd b p) (by omega) (by omega)]
        exact Ev.now _
    · have hL : ¬ (b.length : Int) = 0 := by omega
      have hLp : (0 : Int) < (b.length : Int) := by omega
      have hLm : (b.length : Int) ≤ 2000 := by have := hb.1; omega
      obtain ⟨L, hLe⟩ : ∃ L, L = (b.length : Int) := ⟨_, rfl⟩
      have hi0 : 0 ≤ Int.tmod p L := Int.tmod_nonneg _ hp
      have hi1 : Int.tmod p L < L := Int.tmod_lt_of_pos _ (by omega)
      have hw7 : wrap64 ((wrap64 (p * 7)) + 3) = p * 7 + 3 := by rw [w64 (x := p * 7) (by omega) (by omega), w64 (by omega) (by omega)]
      have hj0 : 0 ≤ Int.tmod (p * 7 + 3) L := Int.tmod_nonneg _ (by omega)
      have hj1 : Int.tmod (p * 7 + 3) L < L := Int.tmod_lt_of_pos _ (by omega)
      have hq0 : 0 ≤ Int.tdiv p L := Int.tdiv_nonneg hp (by omega)
      have hq1 : Int.tdiv p L ≤ p := by
        rw [Int.tdiv_eq_ediv_of_nonneg hp]; exact Int.ediv_le_self _ hp
      have ha := hb.rd (Int.tmod p L)
      have hc := hb.rd (Int.tmod (p * 7 + 3) L)
      obtain ⟨A, hA⟩ : ∃ A, A = rd b (Int.tmod p L) := ⟨_, rfl⟩
      obtain ⟨C, hC⟩ : ∃ C, C = rd b (Int.tmod (p * 7 + 3) L) := ⟨_, rfl⟩
      obtain ⟨Q, hQ⟩ : ∃ Q, Q = Int.tdiv p L := ⟨_, rfl⟩
      rw [← hA] at ha
      rw [← hC] at hc
      rw [← hQ] at hq0 hq1
      have hX : wrap64 ((wrap64 ((wrap64 ((wrap64 ((wrap64 A) * 131)) + (wrap64 ((wrap64 C) * 1117)))) + (wrap64 (p * 29)))) + (wrap64 ((wrap64 Q) * 53))) = A * 131 + C * 1117 + p * 29 + Q * 53 := by
        rw [w64 (x := A) (by omega) (by omega), w64 (x := C) (by omega) (by omega), w64 (x := Q) (by omega) (by omega), w64 (x := A * 131) (by omega) (by omega), w64 (x := C * 1117) (by omega) (by omega), w64 (x := p * 29) (by omega) (by omega), w64 (x := Q * 53) (by omega) (by omega)]
        rw [w64 (x := A * 131 + C * 1117) (by omega) (by omega), w64 (x := A * 131 + C * 1117 + p * 29) (by omega) (by omega), w64 (by omega) (by omega)]
      obtain ⟨X, hXe⟩ : ∃ X, X = A * 131 + C * 1117 + p * 29 + Q * 53 := ⟨_, rfl⟩
      have hX0 : 0 ≤ X := by omega
      have hX1 : X < 1000000000000 := by omega
      have hD0 : 0 ≤ Int.tdiv X 64 := Int.tdiv_nonneg hX0 (by omega)
      have hD1 : Int.tdiv X 64 ≤ X := by rw [Int.tdiv_eq_ediv_of_nonneg hX0]; exact Int.ediv_le_self _ hX0
      have hxr := xor_range hX0 (by omega) hD0 (by omega)
      rw [← hLe] at hk hL
      refine ⟨Int.tmod (Go.bits .xor .i64 X (Int.tdiv X 64)) n, Int.tmod_nonneg _ hxr.1, Int.tmod_lt_of_pos _ (by omega), ?_⟩
      refine Ev.step (fun k => spec_l20Rd_pick.j0.eq_2 _ _ _ _ k) ?_
      simp only [Bool.false_eq_true, if_false, hw1, hk, hL, ← hLe, hi0, hi1, if_true, hw7, hj0, hj1, hn0, ← hA, ← hC, ← hQ, hX, ← hXe, w64 (x := Int.tdiv X 64) (by omega) (by omega)]
      exact Ev.now _
theorem open_eq (l : List Int) (hl : ∀ x ∈ l, (Lit.int .u8 x).wf = true) : ∃ b, Bytes b ∧ spec_l20Open.f l = some (b, 0) := by
  have hw : ∀ x ∈ l, 0 ≤ x ∧ x ≤ 255 := fun x hx => bounds_u8 (hl x hx)
  unfold spec_l20Open.f
  by_cases h : (l.length : Int) > 2000
  · have h2 : 2000 ≤ (l.length : Int) := by omega
    refine ⟨l.take 2000, ⟨by rw [List.length_take]; omega, fun x hx => hw x (List.mem_of_mem_take hx)⟩, ?_⟩
    simp only [h, h2, if_true]
  · refine ⟨l, ⟨by omega, hw⟩, ?_⟩
    simp only [h, if_false]

end Go.Proofs.Ytnocdmclcdfppaa.Pure
