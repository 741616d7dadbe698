/- Grids whose lines repeat nothing, told cell by cell; grids that are alike in their lines. Conditions: as stated in each. -/
import Derived.Test.YtnocdmclcdfppaaWWords
import Derived.Test.YtnocdmclcdfppaaWMore
import Derived.Test.YtnocdmclcdfppaaBase
import Derived.Test.YtnocdmclcdfppaaCandA
import Derived.Test.YtnocdmclcdfppaaLines
import Derived.Test.YtnocdmclcdfppaaModel
namespace Go.Proofs.Ytnocdmclcdfppaa.Pure
set_option linter.unusedSimpArgs false
set_option linter.unusedVariables false
open Go.RowKit Go.Proofs.YtnocdmclcdfppaaW.PrintWords Go.Proofs.YtnocdmclcdfppaaW.PrintMore

theorem clashL_iff (g : List Int) : ∀ (cs seen : List Int), clashL g cs seen = false ↔ (∀ c ∈ cs, 0 < rd g c → rd g c ∉ seen) ∧ cs.Pairwise (fun c d => 0 < rd g d → rd g d ≠ rd g c)
  | [], seen => by simp [clashL]
  | c :: cs, seen => by
    unfold clashL
    by_cases h : 0 < rd g c ∧ rd g c ∈ seen
    · rw [if_pos h]
      constructor
      · intro h0; cases h0
      · intro h0; exact absurd h.2 (h0.1 c (List.mem_cons_self ..) h.1)
    · rw [if_neg h, clashL_iff g cs (rd g c :: seen), List.pairwise_cons]
      constructor
      · rintro ⟨h1, h2⟩
        refine ⟨fun d hd hp hm => ?_, fun d hd hp he => (h1 d hd hp) (by rw [he]; exact List.mem_cons_self ..), h2⟩
        rcases List.mem_cons.1 hd with rfl | hd
        · exact h ⟨hp, hm⟩
        · exact h1 d hd hp (List.mem_cons_of_mem _ hm)
      · rintro ⟨h1, h2, h3⟩
        refine ⟨fun d hd hp hm => ?_, h3⟩
        rcases List.mem_cons.1 hm with he | hm
        · exact h2 d hd hp he
        · exact h1 d (List.mem_cons_of_mem _ hd) hp hm
theorem linesClash_iff (g : List Int) (s : Int) : ∀ (d n : Nat), linesClash g s n d = false ↔ ∀ j, j < d → clashL g (lineC s ((n + j : Nat) : Int)) [] = false
  | 0, n => by simp [linesClash]
  | d + 1, n => by
    rw [linesClash, Bool.or_eq_false_iff, linesClash_iff g s d (n + 1)]
    constructor
    · rintro ⟨h1, h2⟩ j hj
      cases j with
      | zero => exact h1
      | succ j => have := h2 j (by omega); rwa [show n + 1 + j = n + (j + 1) by omega] at this
    · intro h
      exact ⟨h 0 (by omega), fun j hj => by have := h (j + 1) (by omega); rwa [show n + (j + 1) = n + 1 + j by omega] at this⟩
/-- Cell i of line l. -/
def lineCell (n l i : Nat) : Nat := if l < n then l * n + i else i * n + (l - n)
theorem lineC_map {n l : Nat} (hn : n = 2 ∨ n = 3 ∨ n = 4) (hl : l < 2 * n) : lineC (n : Int) (l : Int) = (List.range n).map (fun i => ((lineCell n l i : Nat) : Int)) := by
  unfold lineC
  have h : lineOkB (n : Int) (l : Int) = true := by
    unfold lineOkB sizeOkB
    rw [Bool.and_eq_true, decide_eq_true_iff, decide_eq_true_iff]
    omega
  rw [if_pos h, Int.toNat_natCast]
  refine List.map_congr_left (fun i hi => ?_)
  unfold lineCell
  by_cases hln : l < n
  · rw [if_pos (by omega : (l : Int) < (n : Int)), if_pos hln]
    simp
  · rw [if_neg (by omega : ¬ (l : Int) < (n : Int)), if_neg hln]
    have : ((i * n + (l - n) : Nat) : Int) = (i : Int) * (n : Int) + ((l - n : Nat) : Int) := by simp
    rw [this]; omega
theorem lineCell_lt {n l i : Nat} (hn : n = 2 ∨ n = 3 ∨ n = 4) (hl : l < 2 * n) (hi : i < n) : lineCell n l i < n * n := by
  unfold lineCell
  rcases hn with rfl | rfl | rfl <;> split <;> omega
/-- In no line does a value, apart from 0, stand twice. -/
def Fits (g : List Int) (n : Nat) : Prop := ∀ l, l < 2 * n → ∀ i j, i < n → j < n → i ≠ j → 0 < rd g (lineCell n l i : Nat) → rd g (lineCell n l i : Nat) ≠ rd g (lineCell n l j : Nat)
theorem clashLine_iff (g : List Int) {n l : Nat} (hn : n = 2 ∨ n = 3 ∨ n = 4) (hl : l < 2 * n) : clashL g (lineC (n : Int) (l : Int)) [] = false ↔ ∀ i j, i < n → j < n → i ≠ j → 0 < rd g (lineCell n l i : Nat) → rd g (lineCell n l i : Nat) ≠ rd g (lineCell n l j : Nat) := by
  rw [clashL_iff, lineC_map hn hl, List.pairwise_map, List.pairwise_iff_getElem]
  constructor
  · rintro ⟨_, h⟩ i j hi hj hij hp he
    rcases Nat.lt_or_gt_of_ne hij with hlt | hlt
    · have := h i j (by simpa using hi) (by simpa using hj) hlt
      simp only [List.getElem_range] at this
      exact this (by rw [← he]; exact hp) he.symm
    · have := h j i (by simpa using hj) (by simpa using hi) hlt
      simp only [List.getElem_range] at this
      exact this hp he
  · intro h
    refine ⟨fun c _ _ hm => (List.not_mem_nil hm), fun i j hi hj hij => ?_⟩
    simp only [List.getElem_range]
    simp only [List.length_range] at hi hj
    exact fun hp he => h j i hj hi (by omega) hp he
theorem squareFits_iff {g : List Int} {s : Int} (hg : gridB g s = true) : squareFits g s = true ↔ Fits g s.toNat := by
  obtain ⟨hn, hs⟩ := size_or (gridB_size hg)
  unfold squareFits Fits
  rw [hg, Bool.true_and, Bool.not_eq_true', linesClash_iff]
  constructor
  · intro h l hl
    have := h l hl
    rw [Nat.zero_add, hs] at this
    exact (clashLine_iff g hn hl).1 this
  · intro h l hl
    rw [Nat.zero_add, hs]
    exact (clashLine_iff g hn hl).2 (h l hl)
/-- The lines of the one are lines of the other, in some order, with values renamed. -/
def Alike (g g' : List Int) (n : Nat) (f : Int → Int) : Prop := ∀ l, l < 2 * n → ∃ (l' : Nat) (σ : Nat → Nat), l' < 2 * n ∧ (∀ i, i < n → σ i < n) ∧ (∀ i j, i < n → j < n → σ i = σ j → i = j) ∧ ∀ i, i < n → rd g' (lineCell n l i : Nat) = f (rd g (lineCell n l' (σ i) : Nat))
theorem Alike.fits {g g' : List Int} {n : Nat} {f : Int → Int} (h : Alike g g' n f) (hf : ∀ v, 0 < f v → 0 < v) (hi : ∀ u v, f u = f v → u = v) (hg : Fits g n) : Fits g' n := by
  intro l hl i j h1 h2 hij hp he
  obtain ⟨l', σ, hl', hs, hinj, hv⟩ := h l hl
  rw [hv i h1] at hp
  rw [hv i h1, hv j h2] at he
  exact hg l' hl' (σ i) (σ j) (hs i h1) (hs j h2) (fun e => hij (hinj i j h1 h2 e)) (hf _ hp) (hi _ _ he)
theorem rd_turnL {g : List Int} {n k : Nat} (h : k < n * n) : rd (turnL g n) (k : Nat) = rd g (((n - 1 - k % n) * n + k / n : Nat) : Int) := by
  rw [rd_nat, rd_nat]; unfold turnL
  rw [List.getD_eq_getElem?_getD, List.getElem?_eq_getElem (by simpa using h), Option.getD_some]
  simp
theorem rd_mirrorL {g : List Int} {n k : Nat} (h : k < n * n) : rd (mirrorL g n) (k : Nat) = rd g ((k / n * n + n - 1 - k % n : Nat) : Int) := by
  rw [rd_nat, rd_nat]; unfold mirrorL
  rw [List.getD_eq_getElem?_getD, List.getElem?_eq_getElem (by simpa using h), Option.getD_some]
  simp
theorem turn_alike (g : List Int) {n : Nat} (hn : n = 2 ∨ n = 3 ∨ n = 4) : Alike g (turnL g n) n id := by
  intro l hl
  by_cases h : l < n
  · refine ⟨n + l, fun i => n - 1 - i, by omega, fun i hi => by dsimp only; omega, fun i j hi hj e => by dsimp only at e; omega, fun i hi => ?_⟩
    rw [rd_turnL (lineCell_lt hn hl hi)]
    unfold lineCell
    rw [if_pos h, if_neg (by omega)]
    refine congrArg (fun k : Nat => rd g (k : Int)) ?_
    try dsimp only
    rcases hn with rfl | rfl | rfl <;> omega
  · refine ⟨2 * n - 1 - l, fun i => i, by omega, fun i hi => hi, fun i j _ _ e => e, fun i hi => ?_⟩
    rw [rd_turnL (lineCell_lt hn hl hi)]
    unfold lineCell
    rw [if_neg h, if_pos (by omega)]
    refine congrArg (fun k : Nat => rd g (k : Int)) ?_
    try dsimp only
    rcases hn with rfl | rfl | rfl <;> omega
theorem turn_alike' (g : List Int) {n : Nat} (hn : n = 2 ∨ n = 3 ∨ n = 4) : Alike (turnL g n) g n id := by
  intro l hl
  by_cases h : l < n
  · refine ⟨2 * n - 1 - l, fun i => i, by omega, fun i hi => hi, fun i j _ _ e => e, fun i hi => ?_⟩
    show _ = rd (turnL g n) _
    rw [rd_turnL (lineCell_lt hn (by omega) hi)]
    unfold lineCell
    rw [if_pos h, if_neg (by omega)]
    refine congrArg (fun k : Nat => rd g (k : Int)) ?_
    try dsimp only
    rcases hn with rfl | rfl | rfl <;> omega
  · refine ⟨l - n, fun i => n - 1 - i, by omega, fun i hi => by dsimp only; omega, fun i j hi hj e => by dsimp only at e; omega, fun i hi => ?_⟩
    show _ = rd (turnL g n) _
    rw [rd_turnL (lineCell_lt hn (by omega) (by dsimp only; omega))]
    unfold lineCell
    rw [if_neg h, if_pos (by omega)]
    refine congrArg (fun k : Nat => rd g (k : Int)) ?_
    try dsimp only
    rcases hn with rfl | rfl | rfl <;> omega
theorem mirror_alike (g : List Int) {n : Nat} (hn : n = 2 ∨ n = 3 ∨ n = 4) : Alike g (mirrorL g n) n id := by
  intro l hl
  by_cases h : l < n
  · refine ⟨l, fun i => n - 1 - i, by omega, fun i hi => by dsimp only; omega, fun i j hi hj e => by dsimp only at e; omega, fun i hi => ?_⟩
    rw [rd_mirrorL (lineCell_lt hn hl hi)]
    unfold lineCell
    rw [if_pos h, if_pos h]
    refine congrArg (fun k : Nat => rd g (k : Int)) ?_
    try dsimp only
    rcases hn with rfl | rfl | rfl <;> omega
  · refine ⟨3 * n - 1 - l, fun i => i, by omega, fun i hi => hi, fun i j _ _ e => e, fun i hi => ?_⟩
    rw [rd_mirrorL (lineCell_lt hn hl hi)]
    unfold lineCell
    rw [if_neg h, if_neg (by omega)]
    refine congrArg (fun k : Nat => rd g (k : Int)) ?_
    try dsimp only
    rcases hn with rfl | rfl | rfl <;> omega
theorem mirror_alike' (g : List Int) {n : Nat} (hn : n = 2 ∨ n = 3 ∨ n = 4) : Alike (mirrorL g n) g n id := by
  intro l hl
  by_cases h : l < n
  · refine ⟨l, fun i => n - 1 - i, by omega, fun i hi => by dsimp only; omega, fun i j hi hj e => by dsimp only at e; omega, fun i hi => ?_⟩
    show _ = rd (mirrorL g n) _
    rw [rd_mirrorL (lineCell_lt hn (by omega) (by dsimp only; omega))]
    unfold lineCell
    rw [if_pos h, if_pos h]
    refine congrArg (fun k : Nat => rd g (k : Int)) ?_
    try dsimp only
    rcases hn with rfl | rfl | rfl <;> omega
  · refine ⟨3 * n - 1 - l, fun i => i, by omega, fun i hi => hi, fun i j _ _ e => e, fun i hi => ?_⟩
    show _ = rd (mirrorL g n) _
    rw [rd_mirrorL (lineCell_lt hn (by omega) hi)]
    unfold lineCell
    rw [if_neg h, if_neg (by omega)]
    refine congrArg (fun k : Nat => rd g (k : Int)) ?_
    try dsimp only
    rcases hn with rfl | rfl | rfl <;> omega
theorem turnL_grid {g : List Int} {s : Int} (hg : gridB g s = true) : gridB (turnL g s.toNat) s = true := by
  obtain ⟨hn, hs⟩ := size_or (gridB_size hg)
  refine gridB_mk (gridB_size hg) ?_ ?_
  · unfold turnL; rw [List.length_map, List.length_range]; rw [hs]; simp
  · intro v hv
    unfold turnL at hv
    obtain ⟨k, hk, rfl⟩ := List.mem_map.1 hv
    have hk2 := List.mem_range.1 hk
    have hlen := grid_len hg
    have hb : (s.toNat - 1 - k % s.toNat) * s.toNat + k / s.toNat < g.length := by
      rw [hlen]; generalize s.toNat = n at *
      rcases hn with rfl | rfl | rfl <;> omega
    rw [List.getD_eq_getElem?_getD, List.getElem?_eq_getElem hb, Option.getD_some]
    exact gridB_mem hg _ (List.getElem_mem hb)
theorem mirrorL_grid {g : List Int} {s : Int} (hg : gridB g s = true) : gridB (mirrorL g s.toNat) s = true := by
  obtain ⟨hn, hs⟩ := size_or (gridB_size hg)
  refine gridB_mk (gridB_size hg) ?_ ?_
  · unfold mirrorL; rw [List.length_map, List.length_range]; rw [hs]; simp
  · intro v hv
    unfold mirrorL at hv
    obtain ⟨k, hk, rfl⟩ := List.mem_map.1 hv
    have hk2 := List.mem_range.1 hk
    have hlen := grid_len hg
    have hb : k / s.toNat * s.toNat + s.toNat - 1 - k % s.toNat < g.length := by
      rw [hlen]; generalize s.toNat = n at *
      rcases hn with rfl | rfl | rfl <;> omega
    rw [List.getD_eq_getElem?_getD, List.getElem?_eq_getElem hb, Option.getD_some]
    exact gridB_mem hg _ (List.getElem_mem hb)
theorem eq_of_iffB {a b : Bool} (h : a = true ↔ b = true) : a = b := by cases a <;> cases b <;> simp_all
theorem squareFits_turn {g : List Int} {s : Int} (hg : gridB g s = true) : squareFits (turnL g s.toNat) s = squareFits g s := by
  obtain ⟨hn, hs⟩ := size_or (gridB_size hg)
  refine eq_of_iffB ?_
  rw [squareFits_iff hg, squareFits_iff (turnL_grid hg)]
  exact ⟨(turn_alike' g hn).fits (fun _ h => h) (fun _ _ h => h), (turn_alike g hn).fits (fun _ h => h) (fun _ _ h => h)⟩
theorem squareFits_mirror {g : List Int} {s : Int} (hg : gridB g s = true) : squareFits (mirrorL g s.toNat) s = squareFits g s := by
  obtain ⟨hn, hs⟩ := size_or (gridB_size hg)
  refine eq_of_iffB ?_
  rw [squareFits_iff hg, squareFits_iff (mirrorL_grid hg)]
  exact ⟨(mirror_alike' g hn).fits (fun _ h => h) (fun _ _ h => h), (mirror_alike g hn).fits (fun _ h => h) (fun _ _ h => h)⟩
theorem turn4 (g : List Int) {n : Nat} (hn : n = 2 ∨ n = 3 ∨ n = 4) (hl : g.length = n * n) : turnL (turnL (turnL (turnL g n) n) n) n = g := by
  rcases hn with rfl | rfl | rfl
  · obtain ⟨a, b, c, d, rfl⟩ := len4 hl; rfl
  · obtain ⟨a0, a1, a2, a3, a4, a5, a6, a7, a8, rfl⟩ := len9 hl; rfl
  · obtain ⟨a0, a1, a2, a3, a4, a5, a6, a7, a8, a9, a10, a11, a12, a13, a14, a15, rfl⟩ := len16 hl; rfl
theorem mirror2 (g : List Int) {n : Nat} (hn : n = 2 ∨ n = 3 ∨ n = 4) (hl : g.length = n * n) : mirrorL (mirrorL g n) n = g := by
  rcases hn with rfl | rfl | rfl
  · obtain ⟨a, b, c, d, rfl⟩ := len4 hl; rfl
  · obtain ⟨a0, a1, a2, a3, a4, a5, a6, a7, a8, rfl⟩ := len9 hl; rfl
  · obtain ⟨a0, a1, a2, a3, a4, a5, a6, a7, a8, a9, a10, a11, a12, a13, a14, a15, rfl⟩ := len16 hl; rfl
theorem mirror_turn (g : List Int) {n : Nat} (hn : n = 2 ∨ n = 3 ∨ n = 4) (hl : g.length = n * n) : turnL (mirrorL g n) n = mirrorL (turnL (turnL (turnL g n) n) n) n := by
  rcases hn with rfl | rfl | rfl
  · obtain ⟨a, b, c, d, rfl⟩ := len4 hl; rfl
  · obtain ⟨a0, a1, a2, a3, a4, a5, a6, a7, a8, rfl⟩ := len9 hl; rfl
  · obtain ⟨a0, a1, a2, a3, a4, a5, a6, a7, a8, a9, a10, a11, a12, a13, a14, a15, rfl⟩ := len16 hl; rfl
theorem countF_turn (g : List Int) {n : Nat} (hn : n = 2 ∨ n = 3 ∨ n = 4) (hl : g.length = n * n) : countF (turnL g n) = countF g := by
  rcases hn with rfl | rfl | rfl
  · obtain ⟨a, b, c, d, rfl⟩ := len4 hl
    show countF [c, a, d, b] = _
    simp only [countF_cons]; omega
  · obtain ⟨a0, a1, a2, a3, a4, a5, a6, a7, a8, rfl⟩ := len9 hl
    show countF [a6, a3, a0, a7, a4, a1, a8, a5, a2] = _
    simp only [countF_cons]
    generalize (if 0 < a0 then (1 : Int) else 0) = b0; generalize (if 0 < a1 then (1 : Int) else 0) = b1; generalize (if 0 < a2 then (1 : Int) else 0) = b2
    generalize (if 0 < a3 then (1 : Int) else 0) = b3; generalize (if 0 < a4 then (1 : Int) else 0) = b4; generalize (if 0 < a5 then (1 : Int) else 0) = b5
    generalize (if 0 < a6 then (1 : Int) else 0) = b6; generalize (if 0 < a7 then (1 : Int) else 0) = b7; generalize (if 0 < a8 then (1 : Int) else 0) = b8
    omega
  · obtain ⟨a0, a1, a2, a3, a4, a5, a6, a7, a8, a9, a10, a11, a12, a13, a14, a15, rfl⟩ := len16 hl
    show countF [a12, a8, a4, a0, a13, a9, a5, a1, a14, a10, a6, a2, a15, a11, a7, a3] = _
    simp only [countF_cons]
    generalize (if 0 < a0 then (1 : Int) else 0) = b0; generalize (if 0 < a1 then (1 : Int) else 0) = b1; generalize (if 0 < a2 then (1 : Int) else 0) = b2
    generalize (if 0 < a3 then (1 : Int) else 0) = b3; generalize (if 0 < a4 then (1 : Int) else 0) = b4; generalize (if 0 < a5 then (1 : Int) else 0) = b5
    generalize (if 0 < a6 then (1 : Int) else 0) = b6; generalize (if 0 < a7 then (1 : Int) else 0) = b7; generalize (if 0 < a8 then (1 : Int) else 0) = b8
    generalize (if 0 < a9 then (1 : Int) else 0) = b9; generalize (if 0 < a10 then (1 : Int) else 0) = b10; generalize (if 0 < a11 then (1 : Int) else 0) = b11
    generalize (if 0 < a12 then (1 : Int) else 0) = b12; generalize (if 0 < a13 then (1 : Int) else 0) = b13; generalize (if 0 < a14 then (1 : Int) else 0) = b14
    generalize (if 0 < a15 then (1 : Int) else 0) = b15
    omega

end Go.Proofs.Ytnocdmclcdfppaa.Pure
