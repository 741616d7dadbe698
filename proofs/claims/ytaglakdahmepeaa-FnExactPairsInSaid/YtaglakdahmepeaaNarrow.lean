/- Masks narrowed, in plain Lean. Conditions: as stated in each. -/
import Derived.Test.YtaglakdahmepeaaWWords
import Derived.Test.YtaglakdahmepeaaWMore
import Derived.Test.YtaglakdahmepeaaP27
import Derived.Test.YtaglakdahmepeaaP28
import Derived.Test.YtaglakdahmepeaaP29
import Derived.Test.YtaglakdahmepeaaP7
import Derived.Test.YtaglakdahmepeaaBase
import Derived.Test.YtaglakdahmepeaaMaskVals
import Derived.Test.YtaglakdahmepeaaModel
namespace Go.Proofs.Ytaglakdahmepeaa.Pure
set_option linter.unusedSimpArgs false
set_option linter.unusedVariables false
open Go.RowKit Go.Proofs.YtaglakdahmepeaaW.PrintWords Go.Proofs.YtaglakdahmepeaaW.PrintMore Go.Proofs.Ytaglakdahmepeaa.P

theorem ext_rd {x y : List Int} (hl : x.length = y.length) (h : ∀ c : Nat, c < x.length → rd x (c : Int) = rd y (c : Int)) : x = y := by
  refine List.ext_getElem hl (fun n h1 h2 => ?_)
  have := h n h1
  rwa [rd_lt h1, rd_lt h2] at this
theorem rd_set {x : List Int} {c d : Nat} (h : c < x.length) (v : Int) : rd (x.set c v) (d : Int) = if d = c then v else rd x (d : Int) := by
  by_cases hd : d = c
  · subst hd
    rw [rd_lt (by rw [List.length_set]; exact h), if_pos rfl, List.getElem_set_self]
  · rw [if_neg hd]
    by_cases hx : d < x.length
    · rw [rd_lt (by rw [List.length_set]; exact hx), rd_lt hx, List.getElem_set_ne (fun e => hd e.symm)]
    · rw [rd_ge (by rw [List.length_set, Int.toNat_natCast]; omega), rd_ge (by rw [Int.toNat_natCast]; omega)]
/-- x is y, but f is applied to the elements at the places of p. -/
def Upd (f : Int → Int) (p : Nat → Prop) (y x : List Int) : Prop := x.length = y.length ∧ ∀ c : Nat, c < y.length → (p c → rd x (c : Int) = f (rd y (c : Int))) ∧ (¬ p c → rd x (c : Int) = rd y (c : Int))
theorem Upd.start {f : Int → Int} {p : Nat → Prop} {y : List Int} (h : ∀ c, c < y.length → ¬ p c) : Upd f p y y := ⟨rfl, fun c hc => ⟨fun hp => absurd hp (h c hc), fun _ => rfl⟩⟩
theorem Upd.skip {f : Int → Int} {p q : Nat → Prop} {y x : List Int} (h : Upd f p y x) (e : ∀ c, c < y.length → (q c ↔ p c)) : Upd f q y x :=
  ⟨h.1, fun c hc => ⟨fun hq => (h.2 c hc).1 ((e c hc).1 hq), fun hq => (h.2 c hc).2 (fun hp => hq ((e c hc).2 hp))⟩⟩
theorem Upd.set {f : Int → Int} {p q : Nat → Prop} {y x : List Int} {d : Nat} (h : Upd f p y x) (hd : d < y.length) (hp : ¬ p d) (e : ∀ c, c < y.length → (q c ↔ (c = d ∨ p c))) {v : Int} (hv : v = f (rd x (d : Int))) : Upd f q y (x.set d v) := by
  have hdx : d < x.length := by have := h.1; omega
  refine ⟨by rw [List.length_set]; exact h.1, fun c hc => ⟨fun hq => ?_, fun hq => ?_⟩⟩
  · rw [rd_set hdx]
    by_cases hcd : c = d
    · rw [if_pos hcd, hv, hcd, (h.2 d hd).2 hp]
    · rw [if_neg hcd]
      exact (h.2 c hc).1 (((e c hc).1 hq).resolve_left hcd)
  · rw [rd_set hdx]
    have hcd : ¬ c = d := fun hcd => hq ((e c hc).2 (.inl hcd))
    rw [if_neg hcd]
    exact (h.2 c hc).2 (fun hp => hq ((e c hc).2 (.inr hp)))
theorem Upd.eq {f : Int → Int} {p q : Nat → Prop} {y x z : List Int} (h : Upd f p y x) (k : Upd f q y z) (e : ∀ c, c < y.length → (p c ↔ q c)) : x = z := by
  refine ext_rd (by rw [h.1, k.1]) (fun c hc => ?_)
  have hc' : c < y.length := by have := h.1; omega
  by_cases hp : p c
  · rw [(h.2 c hc').1 hp, (k.2 c hc').1 ((e c hc').1 hp)]
  · rw [(h.2 c hc').2 hp, (k.2 c hc').2 (fun hq => hp ((e c hc').2 hq))]
/-- Another cell in the row or the column of cell i. -/
def Sees (n i c : Nat) : Prop := c ≠ i ∧ (c / n = i / n ∨ c % n = i % n)
def takeSeen (n i : Nat) (v : Int) (x : List Int) : List Int := (List.range x.length).map (fun c => if c ≠ i ∧ (c / n = i / n ∨ c % n = i % n) then Go.bits .andNot .i64 (rd x (c : Int)) v else rd x (c : Int))
theorem takeSeen_len (n i : Nat) (v : Int) (x : List Int) : (takeSeen n i v x).length = x.length := by unfold takeSeen; rw [List.length_map, List.length_range]
theorem takeSeen_upd (n i : Nat) (v : Int) (x : List Int) : Upd (fun z => Go.bits .andNot .i64 z v) (fun c => Sees n i c) x (takeSeen n i v x) := by
  refine ⟨takeSeen_len n i v x, fun c hc => ?_⟩
  have e : rd (takeSeen n i v x) (c : Int) = if c ≠ i ∧ (c / n = i / n ∨ c % n = i % n) then Go.bits .andNot .i64 (rd x (c : Int)) v else rd x (c : Int) := by
    rw [rd_lt (by rw [takeSeen_len]; exact hc)]
    simp [takeSeen]
  exact ⟨fun h => by unfold Sees at h; rw [e, if_pos h], fun h => by unfold Sees at h; rw [e, if_neg h]⟩
def singlesUpto (m : List Int) (n : Nat) : Nat → List Int
  | 0 => m
  | i + 1 => if onlyV (rd m (i : Int)) = 0 then singlesUpto m n i else takeSeen n i (rd m (i : Int)) (singlesUpto m n i)
theorem singlesUpto_len (m : List Int) (n : Nat) : ∀ i, (singlesUpto m n i).length = m.length
  | 0 => rfl
  | i + 1 => by
    unfold singlesUpto
    split
    · exact singlesUpto_len m n i
    · rw [takeSeen_len]; exact singlesUpto_len m n i
def narrowSingles (m : List Int) (s : Int) : List Int := if masksB m s = true then singlesUpto m s.toNat m.length else []
theorem narrowSingles_len (m : List Int) (s : Int) : (narrowSingles m s).length ≤ 16 := by
  unfold narrowSingles; split
  · rename_i h; rw [singlesUpto_len]; exact masksB_le h
  · exact Nat.zero_le _
theorem one_value {m : Int} (h : 0 ≤ m ∧ m ≤ 30 ∧ m % 2 = 0) : ((mvals m).length : Int) = 1 ↔ ¬ onlyV m = 0 := by
  rcases even_cases h with rfl | rfl | rfl | rfl | rfl | rfl | rfl | rfl | rfl | rfl | rfl | rfl | rfl | rfl | rfl | rfl <;> decide +kernel
theorem masks_len {g : List Int} {n : Nat} (h : masksB g (n : Int) = true) : g.length = n * n := by
  have h1 := masksB_len h
  exact_mod_cast h1
theorem size_nat_or {n : Nat} (h : sizeOkB (n : Int) = true) : n = 2 ∨ n = 3 ∨ n = 4 := by
  rcases sizeOkB_iff.1 h with h | h | h <;> omega
theorem div_idx {n i : Nat} (hi : i < 16) : wrap64 (Int.tdiv (i : Int) (n : Int)) = ((i / n : Nat) : Int) := by
  rw [Int.tdiv_eq_ediv_of_nonneg (by omega)]
  have : i / n ≤ i := Nat.div_le_self i n
  have e : (i : Int) / (n : Int) = ((i / n : Nat) : Int) := by norm_cast
  rw [e]
  clear e
  generalize i / n = q at *
  unfold wrap64; omega
theorem mod_idx {n i : Nat} : Int.tmod (i : Int) (n : Int) = ((i % n : Nat) : Int) := by
  rw [Int.tmod_eq_emod_of_nonneg (by omega)]
  norm_cast
theorem l6Copy_eq {m : List Int} (h : m.length ≤ 16) : spec_l6Copy.f m = some m := by
  unfold spec_l6Copy.f
  have : ([] : List Int).length + m.length < 17592186044416 := by simp only [List.length_nil]; omega
  simp only [Option.bind_some, this, if_true, List.nil_append]
theorem clone_eq {m : List Int} (h : m.length ≤ 16) : slices_Clone_int_int.f m = some m := by
  unfold slices_Clone_int_int.f
  rw [if_pos (by omega)]

end Go.Proofs.Ytaglakdahmepeaa.Pure
