/- All solved grids in ascending order, and the search for the one with a number. Conditions: as stated in each. -/
import Derived.Test.YtnocdmclcdfppaaWWords
import Derived.Test.YtnocdmclcdfppaaWMore
import Derived.Test.YtnocdmclcdfppaaCandA
import Derived.Test.YtnocdmclcdfppaaFits
import Derived.Test.YtnocdmclcdfppaaFree
import Derived.Test.YtnocdmclcdfppaaModel
namespace Go.Proofs.Ytnocdmclcdfppaa.Pure
set_option linter.unusedSimpArgs false
set_option linter.unusedVariables false
open Go.RowKit Go.Proofs.YtnocdmclcdfppaaW.PrintWords Go.Proofs.YtnocdmclcdfppaaW.PrintMore

def solV (f : List Int → List (List Int)) (g : List Int) (n i : Nat) (v : Int) : Nat → List (List Int)
  | 0 => []
  | m + 1 => (if freeB g n i v n = true then f (g.set i v) else []) ++ solV f g n i (v + 1) m
/-- The full grids that continue g, whose last d cells are empty. -/
def sols (n N : Nat) : Nat → List Int → List (List Int)
  | 0, g => [g]
  | d + 1, g => solV (sols n N d) g n (N - (d + 1)) 1 n
def trV (f : List Int → Int → List Int × Int) (g : List Int) (n i : Nat) (v : Int) : Nat → Int → List Int × Int
  | 0, left => ([], left)
  | m + 1, left => if freeB g n i v n = true then (if 0 < (f (g.set i v) left).1.length then f (g.set i v) left else trV f g n i (v + 1) m (f (g.set i v) left).2) else trV f g n i (v + 1) m left
def srch (n N : Nat) : Nat → List Int → Int → List Int × Int
  | 0, g, left => if left = 0 then (g, left) else ([], left - 1)
  | d + 1, g, left => trV (srch n N d) g n (N - (d + 1)) 1 n left
/-- The list with this number, or how many are left. -/
def numbered (L : List (List Int)) (left : Int) : List Int × Int := if left < (L.length : Int) then (L.getD left.toNat [], 0) else ([], left - L.length)
theorem numbered_append {L1 L2 : List (List Int)} {left : Int} (h : ∀ x ∈ L1, 0 < x.length) (h0 : 0 ≤ left) : numbered (L1 ++ L2) left = if 0 < (numbered L1 left).1.length then numbered L1 left else numbered L2 (numbered L1 left).2 := by
  obtain ⟨m, rfl⟩ := Int.eq_ofNat_of_zero_le h0
  by_cases hm : m < L1.length
  · have e1 : numbered L1 (m : Int) = (L1[m], 0) := by unfold numbered; rw [if_pos (by omega), Int.toNat_natCast, List.getD_eq_getElem?_getD, List.getElem?_eq_getElem hm, Option.getD_some]
    rw [e1, if_pos (h _ (List.getElem_mem hm))]
    unfold numbered
    rw [if_pos (by rw [List.length_append]; omega), Int.toNat_natCast, List.getD_eq_getElem?_getD, List.getElem?_append_left hm, List.getElem?_eq_getElem hm, Option.getD_some]
  · have e1 : numbered L1 (m : Int) = ([], (m : Int) - L1.length) := by unfold numbered; rw [if_neg (by omega)]
    rw [e1, if_neg (by simp)]
    unfold numbered
    by_cases h2 : (m : Int) < ((L1 ++ L2).length : Int)
    · have h3 := h2
      rw [List.length_append] at h3
      rw [if_pos h2, if_pos (by dsimp only; omega), Int.toNat_natCast, List.getD_eq_getElem?_getD, List.getD_eq_getElem?_getD, List.getElem?_append_right (by omega), show ((m : Int) - L1.length).toNat = m - L1.length by omega]
    · have h3 := h2
      rw [List.length_append] at h3
      rw [if_neg h2, if_neg (by dsimp only; omega), List.length_append, Prod.mk.injEq]
      exact ⟨rfl, by dsimp only; omega⟩
theorem solV_mem {f : List Int → List (List Int)} {g : List Int} {n i : Nat} {x : List Int} : ∀ (m : Nat) (v : Int), x ∈ solV f g n i v m → ∃ u, v ≤ u ∧ u < v + m ∧ freeB g n i u n = true ∧ x ∈ f (g.set i u)
  | 0, v, h => by simp [solV] at h
  | m + 1, v, h => by
    rw [solV, List.mem_append] at h
    rcases h with h | h
    · by_cases hf : freeB g n i v n = true
      · rw [if_pos hf] at h; exact ⟨v, by omega, by omega, hf, h⟩
      · rw [if_neg hf] at h; cases h
    · obtain ⟨u, h1, h2, h3, h4⟩ := solV_mem m (v + 1) h
      exact ⟨u, by omega, by omega, h3, h4⟩
theorem sols_len {n N : Nat} {x : List Int} : ∀ (d : Nat) (g : List Int), x ∈ sols n N d g → x.length = g.length
  | 0, g, h => by simp [sols] at h; rw [h]
  | d + 1, g, h => by
    obtain ⟨u, _, _, _, h⟩ := solV_mem _ _ h
    have := sols_len d _ h
    rwa [List.length_set] at this
theorem trV_eq {f : List Int → Int → List Int × Int} {F : List Int → List (List Int)} {g : List Int} {n i : Nat} (hF : ∀ y, ∀ x ∈ F y, x.length = y.length) (hg : 0 < g.length) (hf : ∀ v left, 0 ≤ left → f (g.set i v) left = numbered (F (g.set i v)) left) : ∀ (m : Nat) (v left : Int), 0 ≤ left → trV f g n i v m left = numbered (solV F g n i v m) left
  | 0, v, left, h => by unfold trV solV numbered; rw [if_neg (by simp; omega)]; simp
  | m + 1, v, left, h => by
    unfold trV solV
    have hnn : ∀ L : List (List Int), 0 ≤ (numbered L left).2 := by intro L; unfold numbered; split <;> dsimp only <;> omega
    by_cases hb : freeB g n i v n = true
    · rw [if_pos hb, if_pos hb, hf v left h, numbered_append (fun x hx => by rw [hF _ x hx, List.length_set]; exact hg) h, trV_eq hF hg hf m (v + 1) _ (hnn _)]
    · rw [if_neg hb, if_neg hb, List.nil_append]
      exact trV_eq hF hg hf m (v + 1) left h
theorem srch_eq (n N : Nat) : ∀ (d : Nat) (g : List Int) (left : Int), 0 < g.length → 0 ≤ left → srch n N d g left = numbered (sols n N d g) left
  | 0, g, left, hg, h => by
    unfold srch sols numbered
    by_cases h0 : left = 0
    · subst h0; simp
    · rw [if_neg h0, if_neg (by simp; omega)]; simp
  | d + 1, g, left, hg, h => by
    unfold srch sols
    exact trV_eq (fun y x hx => sols_len d y hx) hg (fun v l hl => srch_eq n N d _ l (by rw [List.length_set]; exact hg) hl) _ _ _ h
theorem srch_left {n N d : Nat} {g : List Int} {left : Int} (hg : 0 < g.length) (h : 0 ≤ left) : 0 ≤ (srch n N d g left).2 ∧ (srch n N d g left).2 ≤ left := by
  rw [srch_eq n N d g left hg h]; unfold numbered; split <;> dsimp only <;> omega
theorem sols_ok {s : Int} (hs : sizeOkB s = true) {x : List Int} : ∀ (d : Nat) (g : List Int), d ≤ s.toNat * s.toNat → gridB g s = true → Fits g s.toNat → (∀ i : Nat, s.toNat * s.toNat - d ≤ i → rd g (i : Int) = 0) → (∀ i : Nat, i < s.toNat * s.toNat - d → 0 < rd g (i : Int)) → x ∈ sols s.toNat (s.toNat * s.toNat) d g → gridB x s = true ∧ Fits x s.toNat ∧ ∀ i : Nat, i < s.toNat * s.toNat → 0 < rd x (i : Int)
  | 0, g, _, hg, hf, _, hp, h => by
    simp only [sols, List.mem_singleton] at h
    subst h
    exact ⟨hg, hf, fun i hi => hp i (by omega)⟩
  | d + 1, g, hd, hg, hf, hz, hp, h => by
    obtain ⟨u, h1, h2, h3, h4⟩ := solV_mem _ _ h
    obtain ⟨hn, hsn⟩ := size_or hs
    have hlen := grid_len hg
    refine sols_ok hs d _ (by omega) (grid_set hg _ (by omega) (by omega)) ((fits_set hn hlen (by omega) (hz _ (Nat.le_refl _)) (by omega) hf).2 h3) (fun i hi => ?_) (fun i hi => ?_) h4
    · rw [rd_set_ne (by omega)]; exact hz i (by omega)
    · by_cases e : i = s.toNat * s.toNat - (d + 1)
      · rw [← e, rd_set_eq (by omega)]; omega
      · rw [rd_set_ne (fun e2 => e e2.symm)]; exact hp i (by omega)
def cntV (f : List Int → Nat) (g : List Int) (n i : Nat) (v : Int) : Nat → Nat
  | 0 => 0
  | m + 1 => (if freeB g n i v n = true then f (g.set i v) else 0) + cntV f g n i (v + 1) m
def cnt (n N : Nat) : Nat → List Int → Nat
  | 0, _ => 1
  | d + 1, g => cntV (cnt n N d) g n (N - (d + 1)) 1 n
theorem cntV_eq {f : List Int → Nat} {F : List Int → List (List Int)} (h : ∀ y, (F y).length = f y) (g : List Int) (n i : Nat) : ∀ (m : Nat) (v : Int), (solV F g n i v m).length = cntV f g n i v m
  | 0, v => rfl
  | m + 1, v => by
    unfold solV cntV
    rw [List.length_append, cntV_eq h g n i m (v + 1)]
    split
    · rw [h]
    · rfl
theorem cnt_eq (n N : Nat) : ∀ (d : Nat) (g : List Int), (sols n N d g).length = cnt n N d g
  | 0, g => rfl
  | d + 1, g => by unfold sols cnt; exact cntV_eq (cnt_eq n N d) g n _ _ _

end Go.Proofs.Ytnocdmclcdfppaa.Pure
