/- Plain lemmas about answers from some number of rounds on (Ev), numbers that do not wrap, reads of lists, and loops that count. Conditions: as stated in each. -/
import Derived.Test.YtnocdmclcdfppaaWWords
import Derived.Test.YtnocdmclcdfppaaWMore
import Derived.Laws.BitsLemmas
import Derived.OpenShut
namespace Go.Proofs.Ytnocdmclcdfppaa.Pure
set_option linter.unusedSimpArgs false
set_option linter.unusedVariables false
open Go.RowKit Go.Proofs.YtnocdmclcdfppaaW.PrintWords Go.Proofs.YtnocdmclcdfppaaW.PrintMore

theorem w64 {x : Int} (h0 : -9223372036854775808 ≤ x) (h1 : x ≤ 9223372036854775807) : wrap64 x = x := by
  unfold wrap64; omega
theorem w64n {n : Nat} (h : n < 9000000000000000000) : wrap64 ((n : Int) + 1) = ((n + 1 : Nat) : Int) := by
  unfold wrap64; omega

theorem rd_nat (xs : List Int) (n : Nat) : rd xs (n : Int) = xs.getD n 0 := by simp [rd]
theorem rd_lt {xs : List Int} {n : Nat} (h : n < xs.length) : rd xs (n : Int) = xs[n] := by simp [rd, h]

theorem Ev.some {α : Type} {g : Nat → Option α} {r : α} (h : ∀ k, g k = Option.some r) : Ev g r := ⟨0, fun k _ => h k⟩
theorem Ev.uniq {α : Type} {g : Nat → Option α} {r s : α} (h : Ev g r) (k : Ev g s) : r = s := by
  obtain ⟨K, h⟩ := h
  obtain ⟨K', k⟩ := k
  have a := h (max K K') (by omega)
  have b := k (max K K') (by omega)
  rw [a] at b
  exact Option.some.inj b

/-- A loop that counts from n up to N, with a state. -/
theorem Ev.range {σ α : Type} {L : Nat → σ → Int → Option α} {R : σ → Nat → α} {N : Nat} (P : σ → Nat → Prop)
    (hend : ∀ s, P s N → Ev (fun k => L k s (N : Int)) (R s N))
    (hstep : ∀ s n, n < N → P s n → (∀ s', P s' (n + 1) → Ev (fun k => L k s' ((n + 1 : Nat) : Int)) (R s' (n + 1))) → Ev (fun k => L k s (n : Int)) (R s n)) :
    ∀ s n, n ≤ N → P s n → Ev (fun k => L k s (n : Int)) (R s n) := by
  intro s n hn
  obtain ⟨d, hd⟩ : ∃ d, N = n + d := ⟨N - n, by omega⟩
  induction d generalizing s n with
  | zero => obtain rfl : N = n := by omega
            exact hend s
  | succ d ih => exact fun hp => hstep s n (by omega) hp (fun s' hp' => ih s' (n + 1) (by omega) (by omega) hp')

/-- The same without a state. -/
theorem Ev.range0 {α : Type} {L : Nat → Int → Option α} {R : Nat → α} {N : Nat}
    (hend : Ev (fun k => L k (N : Int)) (R N))
    (hstep : ∀ n, n < N → Ev (fun k => L k ((n + 1 : Nat) : Int)) (R (n + 1)) → Ev (fun k => L k (n : Int)) (R n)) :
    ∀ n, n ≤ N → Ev (fun k => L k (n : Int)) (R n) := by
  intro n hn
  exact Ev.range (σ := Unit) (L := fun k _ i => L k i) (R := fun _ n => R n) (fun _ _ => True) (fun _ _ => hend) (fun _ n h _ ih => hstep n h (ih () trivial)) () n hn trivial

theorem rd_ge {xs : List Int} {i : Int} (h : xs.length ≤ i.toNat) : rd xs i = 0 := by simp [rd, List.getElem?_eq_none h]
theorem take_set_succ {x : List Int} {n : Nat} (h : n < x.length) (v : Int) : (x.set n v).take (n + 1) = x.take n ++ [v] := by
  rw [List.take_succ_eq_append_getElem (by simpa using h)]
  simp [List.take_set_of_le (Nat.le_refl n)]
theorem drop_cons {xs : List Int} {n : Nat} (h : n < xs.length) : xs.drop n = xs[n] :: xs.drop (n + 1) := List.drop_eq_getElem_cons h

end Go.Proofs.Ytnocdmclcdfppaa.Pure
