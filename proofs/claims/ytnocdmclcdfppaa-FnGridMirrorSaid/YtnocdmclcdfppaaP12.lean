/- The machine's side of laws of this seat: each Go function as a plain Lean function and the proof that the machine's call does what that function says; written by this session's own program over the kit's print. -/
import Derived.Test.YtnocdmclcdfppaaP0
import Derived.Test.YtnocdmclcdfppaaP1
import Derived.Test.YtnocdmclcdfppaaP4
import Derived.Test.YtnocdmclcdfppaaP11
namespace Go.Proofs.Ytnocdmclcdfppaa.P
open Go.RowKit Go.Proofs.YtnocdmclcdfppaaW.PrintWords Go.Proofs.YtnocdmclcdfppaaW.PrintLast Go.Proofs.YtnocdmclcdfppaaW.PrintMore
attribute [local go_sem] max2_int min2_int max_two min_two max_three min_three max_four min_four   -- for this text's walks alone
set_option linter.unusedVariables false
set_option linter.unusedSimpArgs false

/-- A state of type 3 at block g of W; what its slices lead to came in by w0. -/
def IsS3 (w0 W : World) (g : Nat) (f0 : Int) : Prop := W.heap[g]? = some (.cells #[.int .i64 f0] 3 (0, 0)) ∧ w0.heap.size ≤ g
theorem IsS3.grown {w0 W : World} {g : Nat} {f0 : Int} {W1 : World} {row : Option Nat} (h : IsS3 w0 W g f0) (hw : W.grownBy W1 row) (hne : some g ≠ row) : IsS3 w0 W1 g f0 := by
  obtain ⟨hb, hg⟩ := h
  exact ⟨blk_grown hb hw hne, hg⟩
theorem IsS3.own_neN {w0 W : World} {g : Nat} {f0 : Int} {α : Type} {d : Kd α} {e : Nat} {base : Nat} {ok : Nat → Prop} {v : Value} {xs : List α} (h : IsS3 w0 W g f0) (ho : Kd.N d e W base ok v xs) (ht : e ≠ 3) : some g ≠ v.ownBlock := by
  obtain ⟨hb, hg⟩ := h
  exact Kd.N_ne ho hb ht
theorem IsS3.fresh {w0 W : World} {g : Nat} {f0 : Int} (h : IsS3 w0 W g f0) : ∀ k, W.heap.size ≤ k → k ≠ g := by
  obtain ⟨hb, hg⟩ := h
  exact Kd.freshB hb
theorem IsS3.kept {w0 W : World} {g : Nat} {f0 : Int} {W1 : World} {S : Nat → Prop} (h : IsS3 w0 W g f0) (hk : Kept W W1 S) (hne : ¬ S g) : IsS3 w0 W1 g f0 := by
  obtain ⟨hb, hg⟩ := h
  exact ⟨blk_kept hb hk hne, hg⟩
theorem IsS3.below {w0 W : World} {g : Nat} {f0 : Int} {W1 : World} (h : IsS3 w0 W g f0) (hw : Below W.heap.size W W1) : IsS3 w0 W1 g f0 := h.grown (grown_of_below hw none) (by simp)
theorem IsS3.alloc {w0 W : World} {g : Nat} {f0 : Int} (h : IsS3 w0 W g f0) (o : Obj) : IsS3 w0 (W.alloc o) g f0 := h.below (below_alloc (Below.refl _ _) o)
theorem IsS3.drewN {w0 W : World} {g : Nat} {f0 : Int} (h : IsS3 w0 W g f0) (m : Nat) : IsS3 w0 (W.drewN m) g f0 := h
theorem IsS3.drew {w0 W : World} {g : Nat} {f0 : Int} (h : IsS3 w0 W g f0) : IsS3 w0 W.drew g f0 := h
theorem IsS3.at_ {w0 W : World} {g : Nat} {f0 : Int} {w' : World} {m : Nat} (hq : W.drewN m = w') (h : IsS3 w0 W g f0) : IsS3 w0 w' g f0 := by subst hq; exact IsS3.drewN h m
theorem IsS3.apart {w0 W : World} {g : Nat} {f0 : Int} {α : Type} {d : Kd α} {e : Nat} {base : Nat} {ok : Nat → Prop} {v : Value} {xs : List α} (h : IsS3 w0 W g f0) (ho : d.R e W base ok v xs) (ht : ∀ q, q ∈ e :: d.E → q ≠ 3) : d.R e W base (fun k => ok k ∧ k ≠ g) v xs := by
  obtain ⟨hb, hg⟩ := h
  exact Kd.R_types ho hb ht
theorem IsS3.own_ne {w0 W : World} {g : Nat} {f0 : Int} {α : Type} {d : Kd α} {e : Nat} {base : Nat} {ok : Nat → Prop} {v : Value} {xs : List α} (h : IsS3 w0 W g f0) (ho : d.R e W base ok v xs) (ht : e ≠ 3) : some g ≠ v.ownBlock := by
  obtain ⟨hb, hg⟩ := h
  exact Kd.R_ne ho hb ht
theorem IsS3.apartQ {w0 W : World} {g : Nat} {f0 : Int} {α : Type} {d : Kd α} {e : Nat} {base : Nat} {ok : Nat → Prop} {v : Value} {xs : List α} (h : IsS3 w0 W g f0) (ho : d.Q e W base ok v xs) (ht : ∀ q, q ∈ e :: d.E → q ≠ 3) : d.Q e W base (fun k => ok k ∧ k ≠ g) v xs := by
  obtain ⟨hb, hg⟩ := h
  exact Kd.Q_types ho hb ht
theorem IsS3.own_neQ {w0 W : World} {g : Nat} {f0 : Int} {α : Type} {d : Kd α} {e : Nat} {base : Nat} {ok : Nat → Prop} {v : Value} {xs : List α} (h : IsS3 w0 W g f0) (ho : d.Q e W base ok v xs) (ht : e ≠ 3) : some g ≠ v.ownBlock := by
  obtain ⟨hb, hg⟩ := h
  exact Kd.Q_ne ho hb ht
theorem IsS3.apartS {w0 W : World} {g : Nat} {f0 : Int} {α : Type} {d : Kd α} {e : Nat} {base : Nat} {ok : Nat → Prop} {v : Value} {xs : List α} (h : IsS3 w0 W g f0) (ho : d.S e W base ok v xs) (ht : ∀ q, q ∈ e :: d.E → q ≠ 3) : d.S e W base (fun k => ok k ∧ k ≠ g) v xs := by
  obtain ⟨hb, hg⟩ := h
  exact Kd.S_types ho hb ht
theorem IsS3.own_neS {w0 W : World} {g : Nat} {f0 : Int} {α : Type} {d : Kd α} {e : Nat} {base : Nat} {ok : Nat → Prop} {v : Value} {xs : List α} (h : IsS3 w0 W g f0) (ho : d.S e W base ok v xs) (ht : e ≠ 3) : some g ≠ v.ownBlock := by
  obtain ⟨hb, hg⟩ := h
  exact Kd.S_ne ho hb ht
theorem IsS3.lt {w0 W : World} {g : Nat} {f0 : Int} (h : IsS3 w0 W g f0) : g < W.heap.size := by
  obtain ⟨hb, hg⟩ := h
  exact blk_lt hb
theorem IsS3.ge {w0 W : World} {g : Nat} {f0 : Int} (h : IsS3 w0 W g f0) : w0.heap.size ≤ g := by
  obtain ⟨hb, hg⟩ := h
  exact hg
theorem IsS3.ne_blk {w0 W : World} {g : Nat} {f0 : Int} {a : Nat} {cs : Array Value} {t : TypeId} {fr : Nat × Nat} (h : IsS3 w0 W g f0) (hb2 : W.heap[a]? = some (.cells cs t fr)) (ht : t ≠ 3) : g ≠ a := by
  obtain ⟨hb, hg⟩ := h
  rintro rfl
  rw [hb] at hb2
  injection hb2 with hb2
  injection hb2 with _ ht2
  exact ht ht2.symm
theorem IsS3.far {w0 W : World} {g : Nat} {f0 : Int} {p : Addr} (h : IsS3 w0 W g f0) (hne : g ≠ p.block) (u : Value) : IsS3 w0 (W.setCell p u) g f0 := by
  obtain ⟨hb, hg⟩ := h
  exact ⟨blk_far hb hne u, hg⟩
theorem cellS3_0 {W : World} {g : Nat} {f0 : Int} (h : W.heap[g]? = some (.cells #[.int .i64 f0] 3 (0, 0))) : W.cell? ⟨g, 0, none⟩ = some (.int .i64 f0) := (blk_cell h 0).trans rfl
theorem IsS3.set_0 {w0 W : World} {g : Nat} {f0 : Int} (h : IsS3 w0 W g f0) (x : Int) : IsS3 w0 (W.setCell ⟨g, 0, none⟩ (.int .i64 x)) g x := by
  obtain ⟨hb, hg⟩ := h
  exact ⟨by simpa using blk_set hb 0 (.int .i64 x), hg⟩
theorem IsS3.new (w0 W : World) (f0 : Int) (hB : Below w0.heap.size w0 W) : IsS3 w0 (W.alloc (.cells #[.int .i64 f0] 3)) W.heap.size f0 := ⟨by simpa using heap_alloc_new W _, hB.size⟩

theorem apart_ok {α : Type} {d : Kd α} {e base g : Nat} {W : World} {ok : Nat → Prop} {v : Value} {xs : List α} (ho : d.R e W base ok v xs) (h : ∀ k, ok k → k ≠ g) : d.R e W base (fun k => ok k ∧ k ≠ g) v xs := Kd.R_mono ho (fun k hk => ⟨hk, h k hk⟩)
/-! ### spec_l2Search: function 66 -/
mutual
def spec_l2Search.l0 : Nat → List Int → Int → Int → Int → Int → Option (List Int × Int)
  | 0, _, _, _, _, _ => none
  | k + 1, x0, x1, x2, x9, x4000 => if x9 ≤ x1 then ((some (([] : List Int) : List Int)).bind fun y214 => (if y214.length + x0.length < 17592186044416 then ((some (y214 ++ x0 : List Int)).bind fun y217 => (if 0 ≤ x2 then (if x2 < (y217.length : Int) then ((some (y217.set (x2 : Int).toNat x9 : List Int)).bind fun y220 => ((spec_l2Clash.f k y220 x1).bind fun t221 => (if t221 = true then (spec_l2Search.l0 k x0 x1 x2 (wrap64 (x9 + 1)) x4000) else ((spec_l2Search.f k y220 x1 (wrap64 (x2 + 1)) x4000).bind fun bt222 => (if (bt222.1.length : Int) > 0 then (some (bt222.1, bt222.2)) else (spec_l2Search.l0 k x0 x1 x2 (wrap64 (x9 + 1)) bt222.2)))))) else (none)) else (none))) else (none))) else (some (([] : List Int), x4000))
def spec_l2Search.f : Nat → List Int → Int → Int → Int → Option (List Int × Int)
  | 0, _, _, _, _ => none
  | k + 1, l0, a1, a2, s3_0 => if a2 = (l0.length : Int) then (if s3_0 = 0 then (some (l0, s3_0)) else (some (([] : List Int), wrap64 (s3_0 - 1)))) else (spec_l2Search.l0 k l0 a1 a2 1 s3_0)
end
theorem spec_l2Search.mono_l : ∀ k, (∀ y0 y1 y2 y3, LeO (spec_l2Search.f k y0 y1 y2 y3) (spec_l2Search.f (k + 1) y0 y1 y2 y3)) ∧ (∀ y0 y1 y2 y3 y4, LeO (spec_l2Search.l0 k y0 y1 y2 y3 y4) (spec_l2Search.l0 (k + 1) y0 y1 y2 y3 y4))
  | 0 => ⟨fun _ _ _ _ r h => by simp [spec_l2Search.f] at h, fun _ _ _ _ _ r h => by simp [spec_l2Search.l0] at h⟩
  | k + 1 => by
    obtain ⟨ih0, ih1⟩ := spec_l2Search.mono_l k
    refine ⟨?_, ?_⟩
    · intro y0 y1 y2 y3
      unfold spec_l2Search.f
      repeat' first
      | (with_reducible exact ih0 _ _ _ _)
      | (with_reducible exact ih1 _ _ _ _ _)
      | (with_reducible exact spec_l2Clash.mono _ _ _)
      | (with_reducible exact LeO.refl _)
      | (with_reducible exact LeO.none _)
      | (with_reducible refine LeO.ite ?_ ?_)
      | (with_reducible refine LeO.bind ?_ (fun _ => ?_))
      | exact ih0 _ _ _ _
      | exact ih1 _ _ _ _ _
      | exact spec_l2Clash.mono _ _ _
      | exact LeO.none _
      | refine LeO.ite ?_ ?_
      | refine LeO.bind ?_ (fun _ => ?_)
    · intro y0 y1 y2 y3 y4
      unfold spec_l2Search.l0
      repeat' first
      | (with_reducible exact ih0 _ _ _ _)
      | (with_reducible exact ih1 _ _ _ _ _)
      | (with_reducible exact spec_l2Clash.mono _ _ _)
      | (with_reducible exact LeO.refl _)
      | (with_reducible exact LeO.none _)
      | (with_reducible refine LeO.ite ?_ ?_)
      | (with_reducible refine LeO.bind ?_ (fun _ => ?_))
      | exact ih0 _ _ _ _
      | exact ih1 _ _ _ _ _
      | exact spec_l2Clash.mono _ _ _
      | exact LeO.none _
      | refine LeO.ite ?_ ?_
      | refine LeO.bind ?_ (fun _ => ?_)
theorem spec_l2Search.mono : ∀ a0 a1 a2 a3 k, LeO (spec_l2Search.f k a0 a1 a2 a3) (spec_l2Search.f (k + 1) a0 a1 a2 a3) := by
  intro a0 a1 a2 a3 k
  obtain ⟨ih0, ih1⟩ := spec_l2Search.mono_l k
  exact ih0 a0 a1 a2 a3
set_option maxHeartbeats 8000000 in
set_option maxRecDepth 100000 in
theorem spec_l2Search.calls (k : Nat) : ∀ (P0_ : Nat → Prop) (u9000_ : Value) (l0 : List Int) (a1 : Int) (a2 : Int) (g : Nat) (s3_0 : Int) (r1 : List Int) (r2 : Int) (w0 w : World) (hI : IsS3 w0 w g s3_0) (hB : Below w0.heap.size w0 w) (hPg : ¬ P0_ g) (ho0 : Kd.R (Kd.int .i64) 3 w w0.heap.size P0_ u9000_ l0) (h : spec_l2Search.f k l0 a1 a2 s3_0 = some (r1, r2)),
    Calls Try.prog 66 #[u9000_, .int .i64 a1, .int .i64 a2, .pointer (some ⟨g, 0, none⟩)] w fun e w' => ∃ v0_ : Value, e = .returned (v0_) ∧ Kd.R (Kd.int .i64) 3 w' w0.heap.size (fun k_ => (P0_ k_ ∨ w.heap.size ≤ k_)) v0_ r1 ∧ IsS3 w0 w' g r2 ∧ Below w0.heap.size w0 w' ∧ Kept w w' (fun k_ => (P0_ k_) ∨ k_ = g) := by
  induction k using Nat.strongRecOn with
  | _ k ih =>
  intro P0_ u9000_ l0 a1 a2 g s3_0 r1 r2 w0 w hI hB hPg ho0 h
  cases k with
  | zero => exact absurd h (by simp [spec_l2Search.f])
  | succ k =>
  simp only [spec_l2Search.f] at h
  have HO0 := Aside0.mk (show Kd.R (Kd.int .i64) 3 w w0.heap.size (fun k_ => (P0_ k_ ∨ w.heap.size ≤ k_)) u9000_ l0 from Kd.R_mono ho0 (fun k_ hk => (.inl hk)))
  have HI3 := Aside0.mk hI
  have HPG := Aside0.mk (show ¬ (P0_ g ∨ w.heap.size ≤ g) from fun h_ => h_.elim hPg (fun q_ => absurd (IsS3.lt hI) (Nat.not_lt.mpr q_)))
  have HL := Aside0.mk hB.size
  clear hI
  have HK := Aside0.mk (Kept.refl w (fun k_ => (P0_ k_) ∨ k_ = g))
  have HW0 := Aside0.mk hB.size
  have HB := Aside0.mk hB
  clear hB
  have H : (if a2 = (l0.length : Int) then (if s3_0 = 0 then (some (l0, s3_0)) else (some (([] : List Int), wrap64 (s3_0 - 1)))) else (spec_l2Search.l0 k l0 a1 a2 1 s3_0)) = some (r1, r2) := h
  clear h
  by_cases c5 : a2 = (l0.length : Int)
  · rw [if_pos c5] at H
    have c5b0 : (a2 == (l0.length : Int)) = true := beq_iff_eq.mpr c5
    have c5b1 : (a2 != (l0.length : Int)) = false := bne_eq_false_iff_eq.mpr c5
    clear c5
    by_cases c6 : s3_0 = 0
    · rw [if_pos c6] at H
      have c6b0 : (s3_0 == 0) = true := beq_iff_eq.mpr c6
      have c6b1 : (s3_0 != 0) = false := bne_eq_false_iff_eq.mpr c6
      clear c6
      simp only [Option.some.injEq, Prod.mk.injEq] at H
      obtain ⟨rfl, rfl⟩ := H
      obtain ⟨Ao7, co7, eo7⟩ := Kd.R_slice HO0.out
      subst eo7
      obtain ⟨HGz8, hgz8⟩ := HI3.out
      have hcz8_0 := cellS3_0 HGz8
      have hfz8_0 := blk_frozen HGz8 0
      clear HGz8 hgz8
      go_enter Try.func66, Try.ntmps66
      go_wp2
      go_ret
      exact ⟨_, by first | rfl | (simp [errW_none, errW_some] <;> rfl) | (simp [*, errW_none, errW_some] <;> rfl), by (with_reducible repeat (first | apply Kd.R_alloc | apply Kd.R_drewN | apply Kd.R_drew)); exact HO0.out, by repeat (first | (with_reducible first | exact HI3.out | apply IsS3.alloc | apply IsS3.drewN | apply IsS3.drew | apply IsS3.set_0) | exact HI3.out), by repeat (first | (with_reducible first | exact HB.out | apply below_alloc | apply pw_below_drewN | apply below_drew1 | refine below_set ?_ (IsS3.ge HI3.out)) | exact HB.out), by repeat (first | (with_reducible first | exact HK.out | apply Kept.alloc | apply Kept.drewN | apply Kept.drew | refine Kept.setCell ?_ (.inl (.inr rfl)) _) | exact HK.out)⟩
    · rw [if_neg c6] at H
      have c6b0 : (s3_0 == 0) = false := beq_eq_false_iff_ne.mpr c6
      have c6b1 : (s3_0 != 0) = true := bne_iff_ne.mpr c6
      simp only [Option.some.injEq, Prod.mk.injEq] at H
      obtain ⟨rfl, rfl⟩ := H
      obtain ⟨Ao9, co9, eo9⟩ := Kd.R_slice HO0.out
      subst eo9
      obtain ⟨HGz10, hgz10⟩ := HI3.out
      have hcz10_0 := cellS3_0 HGz10
      have hfz10_0 := blk_frozen HGz10 0
      clear HGz10 hgz10
      go_enter Try.func66, Try.ntmps66
      go_wp2
      go_ret
      exact ⟨_, by first | rfl | (simp [errW_none, errW_some] <;> rfl) | (simp [*, errW_none, errW_some] <;> rfl), by first | exact Kd.R_nil _ _ _ _ _ | exact Kd.N_nil _ _ _ _ _ | exact Kd.V_nil _ _ _ _ _ | exact Kd.Q_nil _ _ _ _ _ | exact Kd.S_nil _ _ _ _ _, by repeat (first | (with_reducible first | exact HI3.out | apply IsS3.alloc | apply IsS3.drewN | apply IsS3.drew | apply IsS3.set_0) | exact HI3.out), by repeat (first | (with_reducible first | exact HB.out | apply below_alloc | apply pw_below_drewN | apply below_drew1 | refine below_set ?_ (IsS3.ge HI3.out)) | exact HB.out), by repeat (first | (with_reducible first | exact HK.out | apply Kept.alloc | apply Kept.drewN | apply Kept.drew | refine Kept.setCell ?_ (.inl (.inr rfl)) _) | exact HK.out)⟩
  · rw [if_neg c5] at H
    have c5b0 : (a2 == (l0.length : Int)) = false := beq_eq_false_iff_ne.mpr c5
    have c5b1 : (a2 != (l0.length : Int)) = true := bne_iff_ne.mpr c5
    have H' := Aside0.mk H
    clear H
    obtain ⟨Ao11, co11, eo11⟩ := Kd.R_slice HO0.out
    subst eo11
    go_enter Try.func66, Try.ntmps66
    go_wp2
    go_loopg [9] k (fun kq v9 w' => ∃ (x0_1 : List Int) (x9_1 : Int) (x4000_1 : Int), v9 = .int .i64 x9_1 ∧ Aside0 (spec_l2Search.l0 kq x0_1 a1 a2 x9_1 x4000_1 = some (r1, r2)) ∧ Aside0 (kq ≤ k) ∧ Aside0 (Kd.R (Kd.int .i64) 3 w' w0.heap.size (fun k_ => (P0_ k_ ∨ w.heap.size ≤ k_)) (.slice Ao11 l0.length co11) x0_1) ∧ Aside0 (IsS3 w0 w' g x4000_1) ∧ Aside0 (Kept w w' (fun k_ => (P0_ k_) ∨ k_ = g)) ∧ Aside0 (Below w0.heap.size w0 w'))
    case atStart => exact ⟨(l0), (1), (s3_0), (by first | rfl | (simp; done) | (simp [*]; done)), H', ⟨Nat.le_refl _⟩, ⟨by (with_reducible repeat (first | apply Kd.R_alloc | apply Kd.R_drewN | apply Kd.R_drew)); exact HO0.out⟩, ⟨by repeat (first | (with_reducible first | exact HI3.out | apply IsS3.alloc | apply IsS3.drewN | apply IsS3.drew | apply IsS3.set_0) | exact HI3.out)⟩, ⟨by repeat (first | (with_reducible first | exact HK.out | apply Kept.alloc | apply Kept.drewN | apply Kept.drew | refine Kept.setCell ?_ (.inl (.inr rfl)) _) | exact HK.out)⟩, ⟨by repeat (first | (with_reducible first | exact HB.out | apply below_alloc | apply pw_below_drewN | apply below_drew1 | refine below_set ?_ (IsS3.ge HI3.out)) | exact HB.out)⟩⟩
    case round =>
      clear H'
      try clear p2
      try clear c5
      try clear c5b0
      try clear c5b1
      try clear c6
      try clear c6b0
      try clear c6b1
      try clear p6
      try clear hcz10_0
      try clear hcz8_0
      try clear hfz10_0
      try clear hfz8_0
      obtain ⟨x0_1, x9_1, x4000_1, rfl, HA, HK1, HO_0, HI3, HK, HB⟩ := hrel
      have hl0_1 := (Kd.R_reads' HO_0.out).1
      rw [hl0_1] at HO_0
      (try simp only [hl0_1])
      cases gk with
      | zero => exact absurd HA.out (by simp [spec_l2Search.l0])
      | succ k1 =>
        have H := HA.out
        clear HA
        simp only [spec_l2Search.l0] at H
        by_cases c12 : x9_1 ≤ a1
        · rw [if_pos c12] at H
          have c12b0 : decide (x9_1 ≤ a1) = true := decide_eq_true c12
          clear c12
          obtain ⟨y214, hy214⟩ : ∃ y_ : List Int, y_ = (([] : List Int)) := ⟨_, rfl⟩
          replace H : (if y214.length + x0_1.length < 17592186044416 then ((some (y214 ++ x0_1 : List Int)).bind fun y217 => (if 0 ≤ a2 then (if a2 < (y217.length : Int) then ((some (y217.set (a2 : Int).toNat x9_1 : List Int)).bind fun y220 => ((spec_l2Clash.f k1 y220 a1).bind fun t221 => (if t221 = true then (spec_l2Search.l0 k1 x0_1 a1 a2 (wrap64 (x9_1 + 1)) x4000_1) else ((spec_l2Search.f k1 y220 a1 (wrap64 (a2 + 1)) x4000_1).bind fun bt222 => (if (bt222.1.length : Int) > 0 then (some (bt222.1, bt222.2)) else (spec_l2Search.l0 k1 x0_1 a1 a2 (wrap64 (x9_1 + 1)) bt222.2)))))) else (none)) else (none))) else (none)) = some (r1, r2) := by first | (rw [hy214]; with_reducible exact H) | (have H2_ := (Option.bind_some _ _).symm.trans H; rw [hy214]; with_reducible exact H2_) | (have H2_ := (Option.bind_some _ _).symm.trans H; with_reducible exact H2_) | with_reducible exact H | (rw [hy214]; exact H) | exact H
          have Ny214 := Aside0.mk hy214
          clear hy214
          by_cases c13 : y214.length + x0_1.length < 17592186044416
          · rw [if_pos c13] at H
            have LMc13 := Aside0.mk c13
            clear c13
            obtain ⟨y217, hy217⟩ : ∃ y_ : List Int, y_ = (y214 ++ x0_1) := ⟨_, rfl⟩
            replace H : (if 0 ≤ a2 then (if a2 < (y217.length : Int) then ((some (y217.set (a2 : Int).toNat x9_1 : List Int)).bind fun y220 => ((spec_l2Clash.f k1 y220 a1).bind fun t221 => (if t221 = true then (spec_l2Search.l0 k1 x0_1 a1 a2 (wrap64 (x9_1 + 1)) x4000_1) else ((spec_l2Search.f k1 y220 a1 (wrap64 (a2 + 1)) x4000_1).bind fun bt222 => (if (bt222.1.length : Int) > 0 then (some (bt222.1, bt222.2)) else (spec_l2Search.l0 k1 x0_1 a1 a2 (wrap64 (x9_1 + 1)) bt222.2)))))) else (none)) else (none)) = some (r1, r2) := by first | (rw [hy217]; with_reducible exact H) | (have H2_ := (Option.bind_some _ _).symm.trans H; rw [hy217]; with_reducible exact H2_) | (have H2_ := (Option.bind_some _ _).symm.trans H; with_reducible exact H2_) | with_reducible exact H | (rw [hy217]; exact H) | exact H
            have Ny217 := Aside0.mk hy217
            clear hy217
            by_cases c14 : 0 ≤ a2
            · rw [if_pos c14] at H
              have c14b0 : decide (0 ≤ a2) = true := decide_eq_true c14
              clear c14
              by_cases c15 : a2 < (y217.length : Int)
              · rw [if_pos c15] at H
                have c15b0 : decide (a2 < (y217.length : Int)) = true := decide_eq_true c15
                clear c15
                obtain ⟨y220, hy220⟩ : ∃ y_ : List Int, y_ = (y217.set (a2 : Int).toNat x9_1) := ⟨_, rfl⟩
                replace H : ((spec_l2Clash.f k1 y220 a1).bind fun t221 => (if t221 = true then (spec_l2Search.l0 k1 x0_1 a1 a2 (wrap64 (x9_1 + 1)) x4000_1) else ((spec_l2Search.f k1 y220 a1 (wrap64 (a2 + 1)) x4000_1).bind fun bt222 => (if (bt222.1.length : Int) > 0 then (some (bt222.1, bt222.2)) else (spec_l2Search.l0 k1 x0_1 a1 a2 (wrap64 (x9_1 + 1)) bt222.2))))) = some (r1, r2) := by first | (rw [hy220]; with_reducible exact H) | (have H2_ := (Option.bind_some _ _).symm.trans H; rw [hy220]; with_reducible exact H2_) | (have H2_ := (Option.bind_some _ _).symm.trans H; with_reducible exact H2_) | with_reducible exact H | (rw [hy220]; exact H) | exact H
                have Ny220 := Aside0.mk hy220
                clear hy220
                replace H := Option.bind_eq_some_iff.mp H
                obtain ⟨t221, A170, H⟩ := H
                replace H : (if t221 = true then (spec_l2Search.l0 k1 x0_1 a1 a2 (wrap64 (x9_1 + 1)) x4000_1) else ((spec_l2Search.f k1 y220 a1 (wrap64 (a2 + 1)) x4000_1).bind fun bt222 => (if (bt222.1.length : Int) > 0 then (some (bt222.1, bt222.2)) else (spec_l2Search.l0 k1 x0_1 a1 a2 (wrap64 (x9_1 + 1)) bt222.2)))) = some (r1, r2) := H
                have A17 := Aside0.mk A170
                clear A170
                by_cases c18 : t221 = true
                · subst c18
                  have H1 : (spec_l2Search.l0 k1 x0_1 a1 a2 (wrap64 (x9_1 + 1)) x4000_1) = some (r1, r2) := by rw [if_pos rfl] at H; exact H
                  clear H
                  have H := H1
                  clear H1
                  have H' := Aside0.mk H
                  clear H
                  go_wp2_with (first | ((with_reducible refine gate_dst (N := 32) rfl ?_); refine Kd.R_lit (Kd.int .i64) _ 3 ?hg (N := 32) ?hd (xs := ([] : List Int)) (inner := []) (ok := fun _ => True) (okp := fun _ => True) ?hr ?hp (fun _ hk => hk) trivial (Below.refl _ _) (Nat.le_refl _) (by simp) ?_; (case hd => rfl); (case hg => rfl); (case hr => first | (go_simp; done) | (go_simp; rfl)); (case hp => exact (Reps.none _ _)); intro v215 w19 ho20 hb hg_ hnew_; clear hg_ hnew_; (first | rw [← Ny214.out] at ho20 | (simp only [Int.reduceToNat] at ho20; rw [← Ny214.out] at ho20)); have n0_ := Aside0.mk (Kd.R_elder' (by (with_reducible repeat (first | apply Kd.R_alloc | apply Kd.R_drewN | apply Kd.R_drew)); exact HO_0.out) (Kd.R_base ho20) hb); have n1_ := Aside0.mk (Kd.R_lower (Kd.R_new' (Kd.R_newM (M := fun k_ => (P0_ k_ ∨ w.heap.size ≤ k_)) ho20 (by first | exact HK.out.1 | exact (show Kept w _ (fun k_ => (P0_ k_) ∨ k_ = g) from by repeat (first | (with_reducible first | exact HK.out | apply Kept.alloc | apply Kept.drewN | apply Kept.drew | refine Kept.setCell ?_ (.inl (.inr rfl)) _) | exact HK.out)).1) (fun k_ h_ => .inr h_)) (Kd.R_lt (by (with_reducible repeat (first | apply Kd.R_alloc | apply Kd.R_drewN | apply Kd.R_drew)); exact HO_0.out))) (below_size (by repeat (first | (with_reducible first | exact HB.out | apply below_alloc | apply pw_below_drewN | apply below_drew1 | refine below_set ?_ (IsS3.ge HI3.out)) | exact HB.out)))); have n2_ := Aside0.mk (IsS3.below (by repeat (first | (with_reducible first | exact HI3.out | apply IsS3.alloc | apply IsS3.drewN | apply IsS3.drew | apply IsS3.set_0) | exact HI3.out)) hb); have n3_ := Aside0.mk (Kept.below (S := (fun k_ => (P0_ k_) ∨ k_ = g)) (by repeat (first | (with_reducible first | exact HK.out | apply Kept.alloc | apply Kept.drewN | apply Kept.drew | refine Kept.setCell ?_ (.inl (.inr rfl)) _) | exact HK.out)) hb); have n4_ := Aside0.mk (below_step (by repeat (first | (with_reducible first | exact HB.out | apply below_alloc | apply pw_below_drewN | apply below_drew1 | refine below_set ?_ (IsS3.ge HI3.out)) | exact HB.out)) hb); clear HO_0; clear HI3; clear HK; clear HB; have HO_0 := n0_; have HO216 := n1_; have HI3 := n2_; have HK := n3_; have HB := n4_; clear n0_ n1_ n2_ n3_ n4_; clear hb ho20) | ((with_reducible refine gate_builtin (b := .append) (xs := #[.tmp 32, .tmp 33]) rfl ?_); at_builtin; refine Kd.R_append_rows (Kd.int .i64) (w0 := w0) w0.heap.size rfl (.tmp 32) (.tmp 33) 25 3 (.int .i64 0) 8 rfl Try.underlying25 info3 rfl (by decide) (by omega) v215 y214 x0_1 _ _ _ (fun k_ => (P0_ k_ ∨ w.heap.size ≤ k_) ∧ some k_ ≠ (.slice Ao11 x0_1.length co11 : Value).ownBlock) (fun _ => False) rfl rfl ?aO ?aR (fun _ _ h => h) (fun _ h => h.elim) ?aF ?aB ?aS ?aL ?_; (case aR => repeat (first | exact (Kd.R_reads' HO_0.out).2.2 | (with_reducible refine Kd.C_alloc ?_ _) | (with_reducible refine Kd.C_drewN ?_ _) | (with_reducible refine Kd.C_drew ?_))); (case aB => exact (by repeat (first | (with_reducible first | exact HB.out | apply below_alloc | apply pw_below_drewN | apply below_drew1 | refine below_set ?_ (IsS3.ge HI3.out)) | exact HB.out))); (case aF => exact (fun k_ hk => ⟨(.inr (Nat.le_trans (by first | exact HK.out.1 | exact (show Kept w _ (fun k_ => (P0_ k_) ∨ k_ = g) from by repeat (first | (with_reducible first | exact HK.out | apply Kept.alloc | apply Kept.drewN | apply Kept.drew | refine Kept.setCell ?_ (.inl (.inr rfl)) _) | exact HK.out)).1) hk)), Kd.fresh' (Kd.R_lt (by (with_reducible repeat (first | apply Kd.R_alloc | apply Kd.R_drewN | apply Kd.R_drew)); exact HO_0.out)) k_ hk⟩)); (case aO => exact (by (with_reducible repeat (first | apply Kd.R_alloc | apply Kd.R_drewN | apply Kd.R_drew)); exact Kd.R_mono HO216.out (fun _ hk => ⟨hk.1.1, hk.2⟩))); (case aS => exact (below_size (by repeat (first | (with_reducible first | exact HB.out | apply below_alloc | apply pw_below_drewN | apply below_drew1 | refine below_set ?_ (IsS3.ge HI3.out)) | exact HB.out)))); (case aL => have := LMc13.out; omega); intro v218 w21 ho hb hg hat; rw [← Ny217.out] at ho; have n0_ := Aside0.mk (Kd.R_after (ok := (fun k_ => (P0_ k_ ∨ w.heap.size ≤ k_))) (by (with_reducible repeat (first | apply Kd.R_alloc | apply Kd.R_drewN | apply Kd.R_drew)); exact HO_0.out) hg hat); have n1_ := Aside0.mk (IsS3.grown (by repeat (first | (with_reducible first | exact HI3.out | apply IsS3.alloc | apply IsS3.drewN | apply IsS3.drew | apply IsS3.set_0) | exact HI3.out)) hg (fun e_ => HPG.out (by first | exact (HO216.out.1 g e_.symm) | exact (HO216.out.1 g e_.symm).1 | exact (HO216.out.1 g e_.symm).1.1 | exact (HO216.out.1 g e_.symm).1.1.1 | exact (HO216.out.1 g e_.symm).1.1.1.1))); have n2_ := Aside0.mk (hb); have n3_ := Aside0.mk (Kept.of_grown (S := (fun k_ => (P0_ k_) ∨ k_ = g)) hg (by repeat (first | (with_reducible first | exact HK.out | apply Kept.alloc | apply Kept.drewN | apply Kept.drew | refine Kept.setCell ?_ (.inl (.inr rfl)) _) | exact HK.out)) (fun k_ e_ => Or.imp_left Or.inl ((HO216.out.1 k_ e_).1.1))); have n4_ := Aside0.mk (ho); clear HO_0; clear HI3; clear HB; clear HK; clear HO216; have HO_0 := n0_; have HI3 := n1_; have HB := n2_; have HK := n3_; have HO219 := n4_; clear n0_ n1_ n2_ n3_ n4_; clear ho hb hg hat; have p16 : 0 ≤ (a2 : Int) := of_decide_eq_true (by first | (with_reducible assumption) | assumption); have q16 : (a2 : Int) < ((y217.length : Int) : Int) := of_decide_eq_true (by first | (with_reducible assumption) | assumption); obtain ⟨go16, co16, eo16, gb16, gl16, cl16, HG16⟩ := Kd.R_form HO219.out (by omega); (first | cases eo16 | (injection eo16 with ea_ en_ ec_; (first | subst ea_ | (injection ea_ with ea_; subst ea_)); subst ec_; clear en_)); have GB16 := Aside0.mk gb16; have GG16 := Aside0.mk HG16; clear gb16 gl16 HG16; have HMgo16 := Aside0.mk (show (P0_ go16 ∨ w.heap.size ≤ go16) from (HO219.out.1 _ rfl).1); obtain ⟨hx16_0, hf16_0⟩ := Kd.R_celln 0 HO219.out (a2 : Int) p16 q16; replace p16 := eq_true p16; replace q16 := eq_true q16; obtain ⟨hy22_, hz22_⟩ := Kd.R_celln 0 HO219.out (a2 : Int) (of_decide_eq_true (by first | (with_reducible assumption) | assumption)) (of_decide_eq_true (by first | (with_reducible assumption) | assumption)); have HP22 := Kd.R_putg HO219.out (a2 : Int) x9_1) | ((with_reducible refine gate_store (t := 3) (p := 38) rfl ?_); refine store_event (t := 3) (p := 38) (v := ?vo_w23) (w1 := (w21.setCell ⟨go16, (a2 : Int).toNat, none⟩ (.int .i64 x9_1))) ?hg ?ho ?hn ?hr ?_; (case ho => rfl); (case hg => rfl); (case hn => rfl); (case hr => first | (go_simp; done) | (go_simp; rfl)); intro w23 hw; have hg : w21.grownBy w23 (some go16) := (by rw [hw]; exact HP22.2); have hp_ : Kd.R (Kd.int .i64) 3 w23 w0.heap.size (fun k_ => (P0_ k_ ∨ w.heap.size ≤ k_) ∧ some k_ ≠ (.slice Ao11 x0_1.length co11 : Value).ownBlock) (.slice (some ⟨go16, 0, none⟩) y217.length co16) y220 := (by rw [hw, Ny220.out]; exact HP22.1); clear HP22; have n0_ := Aside0.mk (Kd.R_after (v := (.slice (some ⟨go16, 0, none⟩) y217.length co16)) (v1 := (.slice (some ⟨go16, 0, none⟩) y217.length co16)) (ok := (fun k_ => (P0_ k_ ∨ w.heap.size ≤ k_))) (by (with_reducible repeat (first | apply Kd.R_alloc | apply Kd.R_drewN | apply Kd.R_drew)); exact HO_0.out) hg (.inl rfl)); have n1_ := Aside0.mk (IsS3.grown (by repeat (first | (with_reducible first | exact HI3.out | apply IsS3.alloc | apply IsS3.drewN | apply IsS3.drew | apply IsS3.set_0) | exact HI3.out)) hg (fun e_ => HPG.out (by first | exact (HO219.out.1 g e_.symm) | exact (HO219.out.1 g e_.symm).1 | exact (HO219.out.1 g e_.symm).1.1 | exact (HO219.out.1 g e_.symm).1.1.1 | exact (HO219.out.1 g e_.symm).1.1.1.1))); have n2_ := Aside0.mk (hp_); have n3_ := Aside0.mk ((by rw [hw]; exact below_set (HB.out) GB16.out : Below w0.heap.size w0 w23)); have n4_ := Aside0.mk (Kept.of_grown (S := (fun k_ => (P0_ k_) ∨ k_ = g)) hg (by repeat (first | (with_reducible first | exact HK.out | apply Kept.alloc | apply Kept.drewN | apply Kept.drew | refine Kept.setCell ?_ (.inl (.inr rfl)) _) | exact HK.out)) (fun k_ e_ => Or.imp_left Or.inl ((HO219.out.1 k_ e_).1))); clear HO_0; clear HI3; clear HO219; clear HB; clear HK; have HO_0 := n0_; have HI3 := n1_; have HO219 := n2_; have HB := n3_; have HK := n4_; clear n0_ n1_ n2_ n3_ n4_; clear hg hw hp_) | ((with_reducible refine gate_callee (f := 56) rfl ?_); refine goesL_ (some 41) rfl rfl Try.func56 (by kernel_rfl) rfl #[.slice (some ⟨go16, 0, none⟩) y220.length co16, .int .i64 a1] rfl (by (try simp only [List.map_toArray, List.map_cons, List.map_nil]); first | done | (rw [show y220.length = y217.length from (Kd.R_reads' HO219.out).1.symm] <;> rfl) | rfl | (simp only [List.length_drop, List.length_take]; rfl)) ?_; (with_reducible refine (spec_l2Clash.calls k1 _ _ y220 a1 true _ ?side1 ?side2 A17.out).mono ?_); (case side1 => repeat (first | exact (Kd.R_reads' HO219.out).2.2 | (with_reducible refine Kd.C_alloc ?_ _) | (with_reducible refine Kd.C_drewN ?_ _) | (with_reducible refine Kd.C_drew ?_))); (case side2 => rw [show y220.length = y217.length from (Kd.R_reads' HO219.out).1.symm]; exact (Kd.R_reads' HO219.out).2.1); rintro e w24 ⟨rfl, hb⟩; refine ⟨_, rfl, ?_⟩; have n0_ := Aside0.mk (Kd.R_below (by (with_reducible repeat (first | apply Kd.R_alloc | apply Kd.R_drewN | apply Kd.R_drew)); exact HO_0.out) hb); have n1_ := Aside0.mk (Kd.R_below (by (with_reducible repeat (first | apply Kd.R_alloc | apply Kd.R_drewN | apply Kd.R_drew)); exact HO219.out) hb); have n2_ := Aside0.mk (IsS3.below (by repeat (first | (with_reducible first | exact HI3.out | apply IsS3.alloc | apply IsS3.drewN | apply IsS3.drew | apply IsS3.set_0) | exact HI3.out)) hb); have n3_ := Aside0.mk (Kept.below (S := (fun k_ => (P0_ k_) ∨ k_ = g)) (by repeat (first | (with_reducible first | exact HK.out | apply Kept.alloc | apply Kept.drewN | apply Kept.drew | refine Kept.setCell ?_ (.inl (.inr rfl)) _) | exact HK.out)) hb); have n4_ := Aside0.mk (below_step (by repeat (first | (with_reducible first | exact HB.out | apply below_alloc | apply pw_below_drewN | apply below_drew1 | refine below_set ?_ (IsS3.ge HI3.out)) | exact HB.out)) hb); clear HO_0; clear HO219; clear HI3; clear HK; clear HB; have HO_0 := n0_; have HO219 := n1_; have HI3 := n2_; have HK := n3_; have HB := n4_; clear n0_ n1_ n2_ n3_ n4_; (try clear hb); (try clear hb2); (try clear hk); (try clear hi)))
                  (try simp only [← hl0_1])
                  go_roundg k1
                  case measure => have := HK1.out; omega
                  case rel => exact ⟨(x0_1), (wrap64 (x9_1 + 1)), (x4000_1), (by first | rfl | (simp; done) | (simp [*]; done)), H', ⟨by have := HK1.out; omega⟩, ⟨by (try simp only [hl0_1]); (with_reducible repeat (first | apply Kd.R_alloc | apply Kd.R_drewN | apply Kd.R_drew)); exact Kd.R_mono HO_0.out (fun _ hk => hk.1)⟩, ⟨by repeat (first | (with_reducible first | exact HI3.out | apply IsS3.alloc | apply IsS3.drewN | apply IsS3.drew | apply IsS3.set_0) | exact HI3.out)⟩, ⟨by repeat (first | (with_reducible first | exact HK.out | apply Kept.alloc | apply Kept.drewN | apply Kept.drew | refine Kept.setCell ?_ (.inl (.inr rfl)) _) | exact HK.out)⟩, ⟨by repeat (first | (with_reducible first | exact HB.out | apply below_alloc | apply pw_below_drewN | apply below_drew1 | refine below_set ?_ (IsS3.ge HI3.out)) | exact HB.out)⟩⟩
                · replace c18 := Bool.eq_false_iff.mpr c18
                  subst c18
                  have H1 : ((spec_l2Search.f k1 y220 a1 (wrap64 (a2 + 1)) x4000_1).bind fun bt222 => (if (bt222.1.length : Int) > 0 then (some (bt222.1, bt222.2)) else (spec_l2Search.l0 k1 x0_1 a1 a2 (wrap64 (x9_1 + 1)) bt222.2))) = some (r1, r2) := by rw [if_neg (show ¬ (false = true) by decide)] at H; exact H
                  clear H
                  have H := H1
                  clear H1
                  replace H := Option.bind_eq_some_iff.mp H
                  obtain ⟨⟨t222, t225⟩, A250, H⟩ := H
                  replace H : (if (t222.length : Int) > 0 then (some (t222, t225)) else (spec_l2Search.l0 k1 x0_1 a1 a2 (wrap64 (x9_1 + 1)) t225)) = some (r1, r2) := H
                  have A25 := Aside0.mk A250
                  clear A250
                  by_cases c26 : (t222.length : Int) > 0
                  · rw [if_pos c26] at H
                    have c26b0 : decide (0 < (t222.length : Int)) = true := decide_eq_true c26
                    have c26b1 : decide (0 < t222.length) = true := decide_eq_true (by omega)
                    clear c26
                    simp only [Option.some.injEq, Prod.mk.injEq] at H
                    obtain ⟨rfl, rfl⟩ := H
                    go_wp2_with (first | ((with_reducible refine gate_dst (N := 32) rfl ?_); refine Kd.R_lit (Kd.int .i64) _ 3 ?hg (N := 32) ?hd (xs := ([] : List Int)) (inner := []) (ok := fun _ => True) (okp := fun _ => True) ?hr ?hp (fun _ hk => hk) trivial (Below.refl _ _) (Nat.le_refl _) (by simp) ?_; (case hd => rfl); (case hg => rfl); (case hr => first | (go_simp; done) | (go_simp; rfl)); (case hp => exact (Reps.none _ _)); intro v215 w27 ho28 hb hg_ hnew_; clear hg_ hnew_; (first | rw [← Ny214.out] at ho28 | (simp only [Int.reduceToNat] at ho28; rw [← Ny214.out] at ho28)); have n0_ := Aside0.mk (Kd.R_elder' (by (with_reducible repeat (first | apply Kd.R_alloc | apply Kd.R_drewN | apply Kd.R_drew)); exact HO_0.out) (Kd.R_base ho28) hb); have n1_ := Aside0.mk (Kd.R_lower (Kd.R_new' (Kd.R_newM (M := fun k_ => (P0_ k_ ∨ w.heap.size ≤ k_)) ho28 (by first | exact HK.out.1 | exact (show Kept w _ (fun k_ => (P0_ k_) ∨ k_ = g) from by repeat (first | (with_reducible first | exact HK.out | apply Kept.alloc | apply Kept.drewN | apply Kept.drew | refine Kept.setCell ?_ (.inl (.inr rfl)) _) | exact HK.out)).1) (fun k_ h_ => .inr h_)) (Kd.R_lt (by (with_reducible repeat (first | apply Kd.R_alloc | apply Kd.R_drewN | apply Kd.R_drew)); exact HO_0.out))) (below_size (by repeat (first | (with_reducible first | exact HB.out | apply below_alloc | apply pw_below_drewN | apply below_drew1 | refine below_set ?_ (IsS3.ge HI3.out)) | exact HB.out)))); have n2_ := Aside0.mk (IsS3.below (by repeat (first | (with_reducible first | exact HI3.out | apply IsS3.alloc | apply IsS3.drewN | apply IsS3.drew | apply IsS3.set_0) | exact HI3.out)) hb); have n3_ := Aside0.mk (Kept.below (S := (fun k_ => (P0_ k_) ∨ k_ = g)) (by repeat (first | (with_reducible first | exact HK.out | apply Kept.alloc | apply Kept.drewN | apply Kept.drew | refine Kept.setCell ?_ (.inl (.inr rfl)) _) | exact HK.out)) hb); have n4_ := Aside0.mk (below_step (by repeat (first | (with_reducible first | exact HB.out | apply below_alloc | apply pw_below_drewN | apply below_drew1 | refine below_set ?_ (IsS3.ge HI3.out)) | exact HB.out)) hb); clear HO_0; clear HI3; clear HK; clear HB; have HO_0 := n0_; have HO216 := n1_; have HI3 := n2_; have HK := n3_; have HB := n4_; clear n0_ n1_ n2_ n3_ n4_; clear hb ho28) | ((with_reducible refine gate_builtin (b := .append) (xs := #[.tmp 32, .tmp 33]) rfl ?_); at_builtin; refine Kd.R_append_rows (Kd.int .i64) (w0 := w0) w0.heap.size rfl (.tmp 32) (.tmp 33) 25 3 (.int .i64 0) 8 rfl Try.underlying25 info3 rfl (by decide) (by omega) v215 y214 x0_1 _ _ _ (fun k_ => (P0_ k_ ∨ w.heap.size ≤ k_) ∧ some k_ ≠ (.slice Ao11 x0_1.length co11 : Value).ownBlock) (fun _ => False) rfl rfl ?aO ?aR (fun _ _ h => h) (fun _ h => h.elim) ?aF ?aB ?aS ?aL ?_; (case aR => repeat (first | exact (Kd.R_reads' HO_0.out).2.2 | (with_reducible refine Kd.C_alloc ?_ _) | (with_reducible refine Kd.C_drewN ?_ _) | (with_reducible refine Kd.C_drew ?_))); (case aB => exact (by repeat (first | (with_reducible first | exact HB.out | apply below_alloc | apply pw_below_drewN | apply below_drew1 | refine below_set ?_ (IsS3.ge HI3.out)) | exact HB.out))); (case aF => exact (fun k_ hk => ⟨(.inr (Nat.le_trans (by first | exact HK.out.1 | exact (show Kept w _ (fun k_ => (P0_ k_) ∨ k_ = g) from by repeat (first | (with_reducible first | exact HK.out | apply Kept.alloc | apply Kept.drewN | apply Kept.drew | refine Kept.setCell ?_ (.inl (.inr rfl)) _) | exact HK.out)).1) hk)), Kd.fresh' (Kd.R_lt (by (with_reducible repeat (first | apply Kd.R_alloc | apply Kd.R_drewN | apply Kd.R_drew)); exact HO_0.out)) k_ hk⟩)); (case aO => exact (by (with_reducible repeat (first | apply Kd.R_alloc | apply Kd.R_drewN | apply Kd.R_drew)); exact Kd.R_mono HO216.out (fun _ hk => ⟨hk.1.1, hk.2⟩))); (case aS => exact (below_size (by repeat (first | (with_reducible first | exact HB.out | apply below_alloc | apply pw_below_drewN | apply below_drew1 | refine below_set ?_ (IsS3.ge HI3.out)) | exact HB.out)))); (case aL => have := LMc13.out; omega); intro v218 w29 ho hb hg hat; rw [← Ny217.out] at ho; have n0_ := Aside0.mk (Kd.R_after (ok := (fun k_ => (P0_ k_ ∨ w.heap.size ≤ k_))) (by (with_reducible repeat (first | apply Kd.R_alloc | apply Kd.R_drewN | apply Kd.R_drew)); exact HO_0.out) hg hat); have n1_ := Aside0.mk (IsS3.grown (by repeat (first | (with_reducible first | exact HI3.out | apply IsS3.alloc | apply IsS3.drewN | apply IsS3.drew | apply IsS3.set_0) | exact HI3.out)) hg (fun e_ => HPG.out (by first | exact (HO216.out.1 g e_.symm) | exact (HO216.out.1 g e_.symm).1 | exact (HO216.out.1 g e_.symm).1.1 | exact (HO216.out.1 g e_.symm).1.1.1 | exact (HO216.out.1 g e_.symm).1.1.1.1))); have n2_ := Aside0.mk (hb); have n3_ := Aside0.mk (Kept.of_grown (S := (fun k_ => (P0_ k_) ∨ k_ = g)) hg (by repeat (first | (with_reducible first | exact HK.out | apply Kept.alloc | apply Kept.drewN | apply Kept.drew | refine Kept.setCell ?_ (.inl (.inr rfl)) _) | exact HK.out)) (fun k_ e_ => Or.imp_left Or.inl ((HO216.out.1 k_ e_).1.1))); have n4_ := Aside0.mk (ho); clear HO_0; clear HI3; clear HB; clear HK; clear HO216; have HO_0 := n0_; have HI3 := n1_; have HB := n2_; have HK := n3_; have HO219 := n4_; clear n0_ n1_ n2_ n3_ n4_; clear ho hb hg hat; have p16 : 0 ≤ (a2 : Int) := of_decide_eq_true (by first | (with_reducible assumption) | assumption); have q16 : (a2 : Int) < ((y217.length : Int) : Int) := of_decide_eq_true (by first | (with_reducible assumption) | assumption); obtain ⟨go16, co16, eo16, gb16, gl16, cl16, HG16⟩ := Kd.R_form HO219.out (by omega); (first | cases eo16 | (injection eo16 with ea_ en_ ec_; (first | subst ea_ | (injection ea_ with ea_; subst ea_)); subst ec_; clear en_)); have GB16 := Aside0.mk gb16; have GG16 := Aside0.mk HG16; clear gb16 gl16 HG16; have HMgo16 := Aside0.mk (show (P0_ go16 ∨ w.heap.size ≤ go16) from (HO219.out.1 _ rfl).1); obtain ⟨hx16_0, hf16_0⟩ := Kd.R_celln 0 HO219.out (a2 : Int) p16 q16; replace p16 := eq_true p16; replace q16 := eq_true q16; obtain ⟨hy30_, hz30_⟩ := Kd.R_celln 0 HO219.out (a2 : Int) (of_decide_eq_true (by first | (with_reducible assumption) | assumption)) (of_decide_eq_true (by first | (with_reducible assumption) | assumption)); have HP30 := Kd.R_putg HO219.out (a2 : Int) x9_1) | ((with_reducible refine gate_store (t := 3) (p := 38) rfl ?_); refine store_event (t := 3) (p := 38) (v := ?vo_w31) (w1 := (w29.setCell ⟨go16, (a2 : Int).toNat, none⟩ (.int .i64 x9_1))) ?hg ?ho ?hn ?hr ?_; (case ho => rfl); (case hg => rfl); (case hn => rfl); (case hr => first | (go_simp; done) | (go_simp; rfl)); intro w31 hw; have hg : w29.grownBy w31 (some go16) := (by rw [hw]; exact HP30.2); have hp_ : Kd.R (Kd.int .i64) 3 w31 w0.heap.size (fun k_ => (P0_ k_ ∨ w.heap.size ≤ k_) ∧ some k_ ≠ (.slice Ao11 x0_1.length co11 : Value).ownBlock) (.slice (some ⟨go16, 0, none⟩) y217.length co16) y220 := (by rw [hw, Ny220.out]; exact HP30.1); clear HP30; have n0_ := Aside0.mk (Kd.R_after (v := (.slice (some ⟨go16, 0, none⟩) y217.length co16)) (v1 := (.slice (some ⟨go16, 0, none⟩) y217.length co16)) (ok := (fun k_ => (P0_ k_ ∨ w.heap.size ≤ k_))) (by (with_reducible repeat (first | apply Kd.R_alloc | apply Kd.R_drewN | apply Kd.R_drew)); exact HO_0.out) hg (.inl rfl)); have n1_ := Aside0.mk (IsS3.grown (by repeat (first | (with_reducible first | exact HI3.out | apply IsS3.alloc | apply IsS3.drewN | apply IsS3.drew | apply IsS3.set_0) | exact HI3.out)) hg (fun e_ => HPG.out (by first | exact (HO219.out.1 g e_.symm) | exact (HO219.out.1 g e_.symm).1 | exact (HO219.out.1 g e_.symm).1.1 | exact (HO219.out.1 g e_.symm).1.1.1 | exact (HO219.out.1 g e_.symm).1.1.1.1))); have n2_ := Aside0.mk (hp_); have n3_ := Aside0.mk ((by rw [hw]; exact below_set (HB.out) GB16.out : Below w0.heap.size w0 w31)); have n4_ := Aside0.mk (Kept.of_grown (S := (fun k_ => (P0_ k_) ∨ k_ = g)) hg (by repeat (first | (with_reducible first | exact HK.out | apply Kept.alloc | apply Kept.drewN | apply Kept.drew | refine Kept.setCell ?_ (.inl (.inr rfl)) _) | exact HK.out)) (fun k_ e_ => Or.imp_left Or.inl ((HO219.out.1 k_ e_).1))); clear HO_0; clear HI3; clear HO219; clear HB; clear HK; have HO_0 := n0_; have HI3 := n1_; have HO219 := n2_; have HB := n3_; have HK := n4_; clear n0_ n1_ n2_ n3_ n4_; clear hg hw hp_) | ((with_reducible refine gate_callee (f := 56) rfl ?_); refine goesL_ (some 41) rfl rfl Try.func56 (by kernel_rfl) rfl #[.slice (some ⟨go16, 0, none⟩) y220.length co16, .int .i64 a1] rfl (by (try simp only [List.map_toArray, List.map_cons, List.map_nil]); first | done | (rw [show y220.length = y217.length from (Kd.R_reads' HO219.out).1.symm] <;> rfl) | rfl | (simp only [List.length_drop, List.length_take]; rfl)) ?_; (with_reducible refine (spec_l2Clash.calls k1 _ _ y220 a1 false _ ?side1 ?side2 A17.out).mono ?_); (case side1 => repeat (first | exact (Kd.R_reads' HO219.out).2.2 | (with_reducible refine Kd.C_alloc ?_ _) | (with_reducible refine Kd.C_drewN ?_ _) | (with_reducible refine Kd.C_drew ?_))); (case side2 => rw [show y220.length = y217.length from (Kd.R_reads' HO219.out).1.symm]; exact (Kd.R_reads' HO219.out).2.1); rintro e w32 ⟨rfl, hb⟩; refine ⟨_, rfl, ?_⟩; have n0_ := Aside0.mk (Kd.R_below (by (with_reducible repeat (first | apply Kd.R_alloc | apply Kd.R_drewN | apply Kd.R_drew)); exact HO_0.out) hb); have n1_ := Aside0.mk (Kd.R_below (by (with_reducible repeat (first | apply Kd.R_alloc | apply Kd.R_drewN | apply Kd.R_drew)); exact HO219.out) hb); have n2_ := Aside0.mk (IsS3.below (by repeat (first | (with_reducible first | exact HI3.out | apply IsS3.alloc | apply IsS3.drewN | apply IsS3.drew | apply IsS3.set_0) | exact HI3.out)) hb); have n3_ := Aside0.mk (Kept.below (S := (fun k_ => (P0_ k_) ∨ k_ = g)) (by repeat (first | (with_reducible first | exact HK.out | apply Kept.alloc | apply Kept.drewN | apply Kept.drew | refine Kept.setCell ?_ (.inl (.inr rfl)) _) | exact HK.out)) hb); have n4_ := Aside0.mk (below_step (by repeat (first | (with_reducible first | exact HB.out | apply below_alloc | apply pw_below_drewN | apply below_drew1 | refine below_set ?_ (IsS3.ge HI3.out)) | exact HB.out)) hb); clear HO_0; clear HO219; clear HI3; clear HK; clear HB; have HO_0 := n0_; have HO219 := n1_; have HI3 := n2_; have HK := n3_; have HB := n4_; clear n0_ n1_ n2_ n3_ n4_; (try clear hb); (try clear hb2); (try clear hk); (try clear hi)) | ((with_reducible refine gate_callee (f := 66) rfl ?_); refine goesL_ (some 47) rfl rfl Try.func66 (by kernel_rfl) rfl #[.slice (some ⟨go16, 0, none⟩) y217.length co16, .int .i64 a1, .int .i64 (wrap64 (a2 + 1)), .pointer (some ⟨g, 0, none⟩)] rfl (by (try simp only [List.map_toArray, List.map_cons, List.map_nil]); first | done | rfl | (simp only [List.length_drop, List.length_take]; rfl)) ?_; (with_reducible refine (ih k1 (by have := HK1.out; omega) (fun k_ => some k_ = (.slice (some ⟨go16, 0, none⟩) y217.length co16 : Value).ownBlock) (.slice (some ⟨go16, 0, none⟩) y217.length co16) y220 a1 (wrap64 (a2 + 1)) g x4000_1 t222 t225 w0 _ ?side1 ?side2 ?sideP ?side3 A25.out).mono ?_); (case side1 => repeat (first | (with_reducible first | exact HI3.out | apply IsS3.alloc | apply IsS3.drewN | apply IsS3.drew | apply IsS3.set_0) | exact HI3.out)); (case side2 => repeat (first | (with_reducible first | exact HB.out | apply below_alloc | apply pw_below_drewN | apply below_drew1 | refine below_set ?_ (IsS3.ge HI3.out)) | exact HB.out)); (case sideP => exact (fun e_ => HPG.out (by first | exact (HO219.out.1 g e_.symm) | exact (HO219.out.1 g e_.symm).1 | exact (HO219.out.1 g e_.symm).1.1 | exact (HO219.out.1 g e_.symm).1.1.1 | exact (HO219.out.1 g e_.symm).1.1.1.1))); (case side3 => exact Kd.R_tight rfl HO219.out); rintro e w33 ⟨v223, rfl, ho0, hi, hb, hkp⟩; refine ⟨_, rfl, ?_⟩; have n0_ := Aside0.mk (Kd.R_mono (ok' := fun k_ => (P0_ k_ ∨ w.heap.size ≤ k_) ∧ some k_ ≠ (v223 : Value).ownBlock) (Kd.R_keptB ((apart_ok HO_0.out (fun k_ hk_ e_ => HPG.out (by subst e_; first | exact hk_ | exact hk_.1 | exact hk_.1.1 | exact hk_.1.1.1)))) hkp (fun k_ hk_ hs_ => Or.elim hs_ (fun hs_ => (hk_.1.2) hs_) (fun e_ => (hk_.2) e_))) (fun k_ hk_ => ⟨hk_.1.1.1, fun e_ => Or.elim (ho0.1 k_ e_.symm) (fun hs_ => hk_.2.1 (.inl hs_)) (fun hn_ => Nat.not_le.2 hk_.2.2 hn_)⟩)); have n1_ := Aside0.mk (hi); have n2_ := Aside0.mk (Kd.R_mono (ok' := fun k_ => (P0_ k_ ∨ w.heap.size ≤ k_) ∧ some k_ ≠ (.slice Ao11 x0_1.length co11 : Value).ownBlock) ho0 (fun k_ hk_ => ⟨Or.elim hk_ (fun hs_ => (HO219.out.1 k_ (hs_).symm).1) (fun hn_ => (.inr (Nat.le_trans (by first | exact HK.out.1 | exact (show Kept w _ (fun k_ => (P0_ k_) ∨ k_ = g) from by repeat (first | (with_reducible first | exact HK.out | apply Kept.alloc | apply Kept.drewN | apply Kept.drew | refine Kept.setCell ?_ (.inl (.inr rfl)) _) | exact HK.out)).1) hn_))), Or.elim hk_ (fun hs_ => fun e_ => ((((apart_ok HO_0.out (fun k_ hk_ e_ => HPG.out (by subst e_; first | exact hk_ | exact hk_.1 | exact hk_.1.1 | exact hk_.1.1.1)))).1 k_ e_.symm).1.2) hs_) (fun hn_ => (Kd.fresh' (Kd.R_lt (by (with_reducible repeat (first | apply Kd.R_alloc | apply Kd.R_drewN | apply Kd.R_drew)); exact HO_0.out)) k_ hn_))⟩)); have n3_ := Aside0.mk (Kept.then_ (S := (fun k_ => (P0_ k_) ∨ k_ = g)) (by repeat (first | (with_reducible first | exact HK.out | apply Kept.alloc | apply Kept.drewN | apply Kept.drew | refine Kept.setCell ?_ (.inl (.inr rfl)) _) | exact HK.out)) hkp (fun k_ hs_ => Or.elim hs_ (fun hs_ => (fun e_ => Or.imp_left Or.inl ((HO219.out.1 k_ e_.symm).1)) hs_) (fun e_ => .inl (.inr e_)))); have n4_ := Aside0.mk (hb); clear HO_0; clear HI3; clear HK; clear HB; clear HO219; have HO_0 := n0_; have HI3 := n1_; have HO224 := n2_; have HK := n3_; have HB := n4_; clear n0_ n1_ n2_ n3_ n4_; (try clear hb); (try clear hkp); (try clear ho0); obtain ⟨Ao34, co34, eo34⟩ := Kd.R_slice HO224.out; subst eo34))
                    go_ret
                    exact ⟨_, by first | rfl | (simp [errW_none, errW_some] <;> rfl) | (simp [*, errW_none, errW_some] <;> rfl), by (with_reducible repeat (first | apply Kd.R_alloc | apply Kd.R_drewN | apply Kd.R_drew)); exact Kd.R_mono HO224.out (fun _ hk => hk.1), by repeat (first | (with_reducible first | exact HI3.out | apply IsS3.alloc | apply IsS3.drewN | apply IsS3.drew | apply IsS3.set_0) | exact HI3.out), by repeat (first | (with_reducible first | exact HB.out | apply below_alloc | apply pw_below_drewN | apply below_drew1 | refine below_set ?_ (IsS3.ge HI3.out)) | exact HB.out), by repeat (first | (with_reducible first | exact HK.out | apply Kept.alloc | apply Kept.drewN | apply Kept.drew | refine Kept.setCell ?_ (.inl (.inr rfl)) _) | exact HK.out)⟩
                  · rw [if_neg c26] at H
                    have c26b0 : decide (0 < (t222.length : Int)) = false := decide_eq_false c26
                    have c26b1 : decide (0 < t222.length) = false := decide_eq_false (by omega)
                    clear c26
                    have H' := Aside0.mk H
                    clear H
                    go_wp2_with (first | ((with_reducible refine gate_dst (N := 32) rfl ?_); refine Kd.R_lit (Kd.int .i64) _ 3 ?hg (N := 32) ?hd (xs := ([] : List Int)) (inner := []) (ok := fun _ => True) (okp := fun _ => True) ?hr ?hp (fun _ hk => hk) trivial (Below.refl _ _) (Nat.le_refl _) (by simp) ?_; (case hd => rfl); (case hg => rfl); (case hr => first | (go_simp; done) | (go_simp; rfl)); (case hp => exact (Reps.none _ _)); intro v215 w35 ho36 hb hg_ hnew_; clear hg_ hnew_; (first | rw [← Ny214.out] at ho36 | (simp only [Int.reduceToNat] at ho36; rw [← Ny214.out] at ho36)); have n0_ := Aside0.mk (Kd.R_elder' (by (with_reducible repeat (first | apply Kd.R_alloc | apply Kd.R_drewN | apply Kd.R_drew)); exact HO_0.out) (Kd.R_base ho36) hb); have n1_ := Aside0.mk (Kd.R_lower (Kd.R_new' (Kd.R_newM (M := fun k_ => (P0_ k_ ∨ w.heap.size ≤ k_)) ho36 (by first | exact HK.out.1 | exact (show Kept w _ (fun k_ => (P0_ k_) ∨ k_ = g) from by repeat (first | (with_reducible first | exact HK.out | apply Kept.alloc | apply Kept.drewN | apply Kept.drew | refine Kept.setCell ?_ (.inl (.inr rfl)) _) | exact HK.out)).1) (fun k_ h_ => .inr h_)) (Kd.R_lt (by (with_reducible repeat (first | apply Kd.R_alloc | apply Kd.R_drewN | apply Kd.R_drew)); exact HO_0.out))) (below_size (by repeat (first | (with_reducible first | exact HB.out | apply below_alloc | apply pw_below_drewN | apply below_drew1 | refine below_set ?_ (IsS3.ge HI3.out)) | exact HB.out)))); have n2_ := Aside0.mk (IsS3.below (by repeat (first | (with_reducible first | exact HI3.out | apply IsS3.alloc | apply IsS3.drewN | apply IsS3.drew | apply IsS3.set_0) | exact HI3.out)) hb); have n3_ := Aside0.mk (Kept.below (S := (fun k_ => (P0_ k_) ∨ k_ = g)) (by repeat (first | (with_reducible first | exact HK.out | apply Kept.alloc | apply Kept.drewN | apply Kept.drew | refine Kept.setCell ?_ (.inl (.inr rfl)) _) | exact HK.out)) hb); have n4_ := Aside0.mk (below_step (by repeat (first | (with_reducible first | exact HB.out | apply below_alloc | apply pw_below_drewN | apply below_drew1 | refine below_set ?_ (IsS3.ge HI3.out)) | exact HB.out)) hb); clear HO_0; clear HI3; clear HK; clear HB; have HO_0 := n0_; have HO216 := n1_; have HI3 := n2_; have HK := n3_; have HB := n4_; clear n0_ n1_ n2_ n3_ n4_; clear hb ho36) | ((with_reducible refine gate_builtin (b := .append) (xs := #[.tmp 32, .tmp 33]) rfl ?_); at_builtin; refine Kd.R_append_rows (Kd.int .i64) (w0 := w0) w0.heap.size rfl (.tmp 32) (.tmp 33) 25 3 (.int .i64 0) 8 rfl Try.underlying25 info3 rfl (by decide) (by omega) v215 y214 x0_1 _ _ _ (fun k_ => (P0_ k_ ∨ w.heap.size ≤ k_) ∧ some k_ ≠ (.slice Ao11 x0_1.length co11 : Value).ownBlock) (fun _ => False) rfl rfl ?aO ?aR (fun _ _ h => h) (fun _ h => h.elim) ?aF ?aB ?aS ?aL ?_; (case aR => repeat (first | exact (Kd.R_reads' HO_0.out).2.2 | (with_reducible refine Kd.C_alloc ?_ _) | (with_reducible refine Kd.C_drewN ?_ _) | (with_reducible refine Kd.C_drew ?_))); (case aB => exact (by repeat (first | (with_reducible first | exact HB.out | apply below_alloc | apply pw_below_drewN | apply below_drew1 | refine below_set ?_ (IsS3.ge HI3.out)) | exact HB.out))); (case aF => exact (fun k_ hk => ⟨(.inr (Nat.le_trans (by first | exact HK.out.1 | exact (show Kept w _ (fun k_ => (P0_ k_) ∨ k_ = g) from by repeat (first | (with_reducible first | exact HK.out | apply Kept.alloc | apply Kept.drewN | apply Kept.drew | refine Kept.setCell ?_ (.inl (.inr rfl)) _) | exact HK.out)).1) hk)), Kd.fresh' (Kd.R_lt (by (with_reducible repeat (first | apply Kd.R_alloc | apply Kd.R_drewN | apply Kd.R_drew)); exact HO_0.out)) k_ hk⟩)); (case aO => exact (by (with_reducible repeat (first | apply Kd.R_alloc | apply Kd.R_drewN | apply Kd.R_drew)); exact Kd.R_mono HO216.out (fun _ hk => ⟨hk.1.1, hk.2⟩))); (case aS => exact (below_size (by repeat (first | (with_reducible first | exact HB.out | apply below_alloc | apply pw_below_drewN | apply below_drew1 | refine below_set ?_ (IsS3.ge HI3.out)) | exact HB.out)))); (case aL => have := LMc13.out; omega); intro v218 w37 ho hb hg hat; rw [← Ny217.out] at ho; have n0_ := Aside0.mk (Kd.R_after (ok := (fun k_ => (P0_ k_ ∨ w.heap.size ≤ k_))) (by (with_reducible repeat (first | apply Kd.R_alloc | apply Kd.R_drewN | apply Kd.R_drew)); exact HO_0.out) hg hat); have n1_ := Aside0.mk (IsS3.grown (by repeat (first | (with_reducible first | exact HI3.out | apply IsS3.alloc | apply IsS3.drewN | apply IsS3.drew | apply IsS3.set_0) | exact HI3.out)) hg (fun e_ => HPG.out (by first | exact (HO216.out.1 g e_.symm) | exact (HO216.out.1 g e_.symm).1 | exact (HO216.out.1 g e_.symm).1.1 | exact (HO216.out.1 g e_.symm).1.1.1 | exact (HO216.out.1 g e_.symm).1.1.1.1))); have n2_ := Aside0.mk (hb); have n3_ := Aside0.mk (Kept.of_grown (S := (fun k_ => (P0_ k_) ∨ k_ = g)) hg (by repeat (first | (with_reducible first | exact HK.out | apply Kept.alloc | apply Kept.drewN | apply Kept.drew | refine Kept.setCell ?_ (.inl (.inr rfl)) _) | exact HK.out)) (fun k_ e_ => Or.imp_left Or.inl ((HO216.out.1 k_ e_).1.1))); have n4_ := Aside0.mk (ho); clear HO_0; clear HI3; clear HB; clear HK; clear HO216; have HO_0 := n0_; have HI3 := n1_; have HB := n2_; have HK := n3_; have HO219 := n4_; clear n0_ n1_ n2_ n3_ n4_; clear ho hb hg hat; have p16 : 0 ≤ (a2 : Int) := of_decide_eq_true (by first | (with_reducible assumption) | assumption); have q16 : (a2 : Int) < ((y217.length : Int) : Int) := of_decide_eq_true (by first | (with_reducible assumption) | assumption); obtain ⟨go16, co16, eo16, gb16, gl16, cl16, HG16⟩ := Kd.R_form HO219.out (by omega); (first | cases eo16 | (injection eo16 with ea_ en_ ec_; (first | subst ea_ | (injection ea_ with ea_; subst ea_)); subst ec_; clear en_)); have GB16 := Aside0.mk gb16; have GG16 := Aside0.mk HG16; clear gb16 gl16 HG16; have HMgo16 := Aside0.mk (show (P0_ go16 ∨ w.heap.size ≤ go16) from (HO219.out.1 _ rfl).1); obtain ⟨hx16_0, hf16_0⟩ := Kd.R_celln 0 HO219.out (a2 : Int) p16 q16; replace p16 := eq_true p16; replace q16 := eq_true q16; obtain ⟨hy38_, hz38_⟩ := Kd.R_celln 0 HO219.out (a2 : Int) (of_decide_eq_true (by first | (with_reducible assumption) | assumption)) (of_decide_eq_true (by first | (with_reducible assumption) | assumption)); have HP38 := Kd.R_putg HO219.out (a2 : Int) x9_1) | ((with_reducible refine gate_store (t := 3) (p := 38) rfl ?_); refine store_event (t := 3) (p := 38) (v := ?vo_w39) (w1 := (w37.setCell ⟨go16, (a2 : Int).toNat, none⟩ (.int .i64 x9_1))) ?hg ?ho ?hn ?hr ?_; (case ho => rfl); (case hg => rfl); (case hn => rfl); (case hr => first | (go_simp; done) | (go_simp; rfl)); intro w39 hw; have hg : w37.grownBy w39 (some go16) := (by rw [hw]; exact HP38.2); have hp_ : Kd.R (Kd.int .i64) 3 w39 w0.heap.size (fun k_ => (P0_ k_ ∨ w.heap.size ≤ k_) ∧ some k_ ≠ (.slice Ao11 x0_1.length co11 : Value).ownBlock) (.slice (some ⟨go16, 0, none⟩) y217.length co16) y220 := (by rw [hw, Ny220.out]; exact HP38.1); clear HP38; have n0_ := Aside0.mk (Kd.R_after (v := (.slice (some ⟨go16, 0, none⟩) y217.length co16)) (v1 := (.slice (some ⟨go16, 0, none⟩) y217.length co16)) (ok := (fun k_ => (P0_ k_ ∨ w.heap.size ≤ k_))) (by (with_reducible repeat (first | apply Kd.R_alloc | apply Kd.R_drewN | apply Kd.R_drew)); exact HO_0.out) hg (.inl rfl)); have n1_ := Aside0.mk (IsS3.grown (by repeat (first | (with_reducible first | exact HI3.out | apply IsS3.alloc | apply IsS3.drewN | apply IsS3.drew | apply IsS3.set_0) | exact HI3.out)) hg (fun e_ => HPG.out (by first | exact (HO219.out.1 g e_.symm) | exact (HO219.out.1 g e_.symm).1 | exact (HO219.out.1 g e_.symm).1.1 | exact (HO219.out.1 g e_.symm).1.1.1 | exact (HO219.out.1 g e_.symm).1.1.1.1))); have n2_ := Aside0.mk (hp_); have n3_ := Aside0.mk ((by rw [hw]; exact below_set (HB.out) GB16.out : Below w0.heap.size w0 w39)); have n4_ := Aside0.mk (Kept.of_grown (S := (fun k_ => (P0_ k_) ∨ k_ = g)) hg (by repeat (first | (with_reducible first | exact HK.out | apply Kept.alloc | apply Kept.drewN | apply Kept.drew | refine Kept.setCell ?_ (.inl (.inr rfl)) _) | exact HK.out)) (fun k_ e_ => Or.imp_left Or.inl ((HO219.out.1 k_ e_).1))); clear HO_0; clear HI3; clear HO219; clear HB; clear HK; have HO_0 := n0_; have HI3 := n1_; have HO219 := n2_; have HB := n3_; have HK := n4_; clear n0_ n1_ n2_ n3_ n4_; clear hg hw hp_) | ((with_reducible refine gate_callee (f := 56) rfl ?_); refine goesL_ (some 41) rfl rfl Try.func56 (by kernel_rfl) rfl #[.slice (some ⟨go16, 0, none⟩) y220.length co16, .int .i64 a1] rfl (by (try simp only [List.map_toArray, List.map_cons, List.map_nil]); first | done | (rw [show y220.length = y217.length from (Kd.R_reads' HO219.out).1.symm] <;> rfl) | rfl | (simp only [List.length_drop, List.length_take]; rfl)) ?_; (with_reducible refine (spec_l2Clash.calls k1 _ _ y220 a1 false _ ?side1 ?side2 A17.out).mono ?_); (case side1 => repeat (first | exact (Kd.R_reads' HO219.out).2.2 | (with_reducible refine Kd.C_alloc ?_ _) | (with_reducible refine Kd.C_drewN ?_ _) | (with_reducible refine Kd.C_drew ?_))); (case side2 => rw [show y220.length = y217.length from (Kd.R_reads' HO219.out).1.symm]; exact (Kd.R_reads' HO219.out).2.1); rintro e w40 ⟨rfl, hb⟩; refine ⟨_, rfl, ?_⟩; have n0_ := Aside0.mk (Kd.R_below (by (with_reducible repeat (first | apply Kd.R_alloc | apply Kd.R_drewN | apply Kd.R_drew)); exact HO_0.out) hb); have n1_ := Aside0.mk (Kd.R_below (by (with_reducible repeat (first | apply Kd.R_alloc | apply Kd.R_drewN | apply Kd.R_drew)); exact HO219.out) hb); have n2_ := Aside0.mk (IsS3.below (by repeat (first | (with_reducible first | exact HI3.out | apply IsS3.alloc | apply IsS3.drewN | apply IsS3.drew | apply IsS3.set_0) | exact HI3.out)) hb); have n3_ := Aside0.mk (Kept.below (S := (fun k_ => (P0_ k_) ∨ k_ = g)) (by repeat (first | (with_reducible first | exact HK.out | apply Kept.alloc | apply Kept.drewN | apply Kept.drew | refine Kept.setCell ?_ (.inl (.inr rfl)) _) | exact HK.out)) hb); have n4_ := Aside0.mk (below_step (by repeat (first | (with_reducible first | exact HB.out | apply below_alloc | apply pw_below_drewN | apply below_drew1 | refine below_set ?_ (IsS3.ge HI3.out)) | exact HB.out)) hb); clear HO_0; clear HO219; clear HI3; clear HK; clear HB; have HO_0 := n0_; have HO219 := n1_; have HI3 := n2_; have HK := n3_; have HB := n4_; clear n0_ n1_ n2_ n3_ n4_; (try clear hb); (try clear hb2); (try clear hk); (try clear hi)) | ((with_reducible refine gate_callee (f := 66) rfl ?_); refine goesL_ (some 47) rfl rfl Try.func66 (by kernel_rfl) rfl #[.slice (some ⟨go16, 0, none⟩) y217.length co16, .int .i64 a1, .int .i64 (wrap64 (a2 + 1)), .pointer (some ⟨g, 0, none⟩)] rfl (by (try simp only [List.map_toArray, List.map_cons, List.map_nil]); first | done | rfl | (simp only [List.length_drop, List.length_take]; rfl)) ?_; (with_reducible refine (ih k1 (by have := HK1.out; omega) (fun k_ => some k_ = (.slice (some ⟨go16, 0, none⟩) y217.length co16 : Value).ownBlock) (.slice (some ⟨go16, 0, none⟩) y217.length co16) y220 a1 (wrap64 (a2 + 1)) g x4000_1 t222 t225 w0 _ ?side1 ?side2 ?sideP ?side3 A25.out).mono ?_); (case side1 => repeat (first | (with_reducible first | exact HI3.out | apply IsS3.alloc | apply IsS3.drewN | apply IsS3.drew | apply IsS3.set_0) | exact HI3.out)); (case side2 => repeat (first | (with_reducible first | exact HB.out | apply below_alloc | apply pw_below_drewN | apply below_drew1 | refine below_set ?_ (IsS3.ge HI3.out)) | exact HB.out)); (case sideP => exact (fun e_ => HPG.out (by first | exact (HO219.out.1 g e_.symm) | exact (HO219.out.1 g e_.symm).1 | exact (HO219.out.1 g e_.symm).1.1 | exact (HO219.out.1 g e_.symm).1.1.1 | exact (HO219.out.1 g e_.symm).1.1.1.1))); (case side3 => exact Kd.R_tight rfl HO219.out); rintro e w41 ⟨v223, rfl, ho0, hi, hb, hkp⟩; refine ⟨_, rfl, ?_⟩; have n0_ := Aside0.mk (Kd.R_mono (ok' := fun k_ => (P0_ k_ ∨ w.heap.size ≤ k_) ∧ some k_ ≠ (v223 : Value).ownBlock) (Kd.R_keptB ((apart_ok HO_0.out (fun k_ hk_ e_ => HPG.out (by subst e_; first | exact hk_ | exact hk_.1 | exact hk_.1.1 | exact hk_.1.1.1)))) hkp (fun k_ hk_ hs_ => Or.elim hs_ (fun hs_ => (hk_.1.2) hs_) (fun e_ => (hk_.2) e_))) (fun k_ hk_ => ⟨hk_.1.1.1, fun e_ => Or.elim (ho0.1 k_ e_.symm) (fun hs_ => hk_.2.1 (.inl hs_)) (fun hn_ => Nat.not_le.2 hk_.2.2 hn_)⟩)); have n1_ := Aside0.mk (hi); have n2_ := Aside0.mk (Kd.R_mono (ok' := fun k_ => (P0_ k_ ∨ w.heap.size ≤ k_) ∧ some k_ ≠ (.slice Ao11 x0_1.length co11 : Value).ownBlock) ho0 (fun k_ hk_ => ⟨Or.elim hk_ (fun hs_ => (HO219.out.1 k_ (hs_).symm).1) (fun hn_ => (.inr (Nat.le_trans (by first | exact HK.out.1 | exact (show Kept w _ (fun k_ => (P0_ k_) ∨ k_ = g) from by repeat (first | (with_reducible first | exact HK.out | apply Kept.alloc | apply Kept.drewN | apply Kept.drew | refine Kept.setCell ?_ (.inl (.inr rfl)) _) | exact HK.out)).1) hn_))), Or.elim hk_ (fun hs_ => fun e_ => ((((apart_ok HO_0.out (fun k_ hk_ e_ => HPG.out (by subst e_; first | exact hk_ | exact hk_.1 | exact hk_.1.1 | exact hk_.1.1.1)))).1 k_ e_.symm).1.2) hs_) (fun hn_ => (Kd.fresh' (Kd.R_lt (by (with_reducible repeat (first | apply Kd.R_alloc | apply Kd.R_drewN | apply Kd.R_drew)); exact HO_0.out)) k_ hn_))⟩)); have n3_ := Aside0.mk (Kept.then_ (S := (fun k_ => (P0_ k_) ∨ k_ = g)) (by repeat (first | (with_reducible first | exact HK.out | apply Kept.alloc | apply Kept.drewN | apply Kept.drew | refine Kept.setCell ?_ (.inl (.inr rfl)) _) | exact HK.out)) hkp (fun k_ hs_ => Or.elim hs_ (fun hs_ => (fun e_ => Or.imp_left Or.inl ((HO219.out.1 k_ e_.symm).1)) hs_) (fun e_ => .inl (.inr e_)))); have n4_ := Aside0.mk (hb); clear HO_0; clear HI3; clear HK; clear HB; clear HO219; have HO_0 := n0_; have HI3 := n1_; have HO224 := n2_; have HK := n3_; have HB := n4_; clear n0_ n1_ n2_ n3_ n4_; (try clear hb); (try clear hkp); (try clear ho0); obtain ⟨Ao42, co42, eo42⟩ := Kd.R_slice HO224.out; subst eo42))
                    (try simp only [← hl0_1])
                    go_roundg k1
                    case measure => have := HK1.out; omega
                    case rel => exact ⟨(x0_1), (wrap64 (x9_1 + 1)), (t225), (by first | rfl | (simp; done) | (simp [*]; done)), H', ⟨by have := HK1.out; omega⟩, ⟨by (try simp only [hl0_1]); (with_reducible repeat (first | apply Kd.R_alloc | apply Kd.R_drewN | apply Kd.R_drew)); exact Kd.R_mono HO_0.out (fun _ hk => hk.1)⟩, ⟨by repeat (first | (with_reducible first | exact HI3.out | apply IsS3.alloc | apply IsS3.drewN | apply IsS3.drew | apply IsS3.set_0) | exact HI3.out)⟩, ⟨by repeat (first | (with_reducible first | exact HK.out | apply Kept.alloc | apply Kept.drewN | apply Kept.drew | refine Kept.setCell ?_ (.inl (.inr rfl)) _) | exact HK.out)⟩, ⟨by repeat (first | (with_reducible first | exact HB.out | apply below_alloc | apply pw_below_drewN | apply below_drew1 | refine below_set ?_ (IsS3.ge HI3.out)) | exact HB.out)⟩⟩
              · rw [if_neg c15] at H
                exact absurd H (by simp)
            · rw [if_neg c14] at H
              exact absurd H (by simp)
          · rw [if_neg c13] at H
            exact absurd H (by simp)
        · rw [if_neg c12] at H
          have c12b0 : decide (x9_1 ≤ a1) = false := decide_eq_false c12
          clear c12
          simp only [Option.some.injEq, Prod.mk.injEq] at H
          obtain ⟨rfl, rfl⟩ := H
          go_wp2
          go_ret
          exact ⟨_, by first | rfl | (simp [errW_none, errW_some] <;> rfl) | (simp [*, errW_none, errW_some] <;> rfl), by first | exact Kd.R_nil _ _ _ _ _ | exact Kd.N_nil _ _ _ _ _ | exact Kd.V_nil _ _ _ _ _ | exact Kd.Q_nil _ _ _ _ _ | exact Kd.S_nil _ _ _ _ _, by repeat (first | (with_reducible first | exact HI3.out | apply IsS3.alloc | apply IsS3.drewN | apply IsS3.drew | apply IsS3.set_0) | exact HI3.out), by repeat (first | (with_reducible first | exact HB.out | apply below_alloc | apply pw_below_drewN | apply below_drew1 | refine below_set ?_ (IsS3.ge HI3.out)) | exact HB.out), by repeat (first | (with_reducible first | exact HK.out | apply Kept.alloc | apply Kept.drewN | apply Kept.drew | refine Kept.setCell ?_ (.inl (.inr rfl)) _) | exact HK.out)⟩

/-! ### spec_SquareNumber: function 65 -/
def spec_SquareNumber.f (k : Nat) (a0 : Int) (a1 : Int) : Option (List Int) :=
  if 2 ≤ a0 ∧ a0 ≤ 4 ∧ 0 ≤ a1 then (spec_l2Search.f k (List.replicate (wrap64 (a0 * a0)).toNat 0) a0 0 a1).bind fun t => (if t.1.length < 17592186044416 then some t.1 else none) else some []
theorem spec_SquareNumber.mono : ∀ a0 a1 k, LeO (spec_SquareNumber.f k a0 a1) (spec_SquareNumber.f (k + 1) a0 a1) := by
  intro a0 a1 k
  unfold spec_SquareNumber.f
  exact LeO.ite (LeO.bind (spec_l2Search.mono _ _ _ _ _) (fun _ => LeO.refl _)) (LeO.refl _)
/-- The box of the number that is left, once it is made and filled. -/
abbrev spec_SquareNumber.box (w : World) (nd : Nat) (a1 : Int) : World := ((w.drewN nd).alloc (Obj.cells #[Value.int IntKind.i64 0] 3)).setCell ⟨w.heap.size, 0, none⟩ (.int .i64 a1)
theorem spec_SquareNumber.box_is (w : World) (nd : Nat) (a1 : Int) : IsS3 w (spec_SquareNumber.box w nd a1) w.heap.size a1 := IsS3.set_0 (IsS3.new w (w.drewN nd) 0 (pw_below_drewN (Below.refl _ _) nd)) a1
theorem spec_SquareNumber.box_below (w : World) (nd : Nat) (a1 : Int) : Below w.heap.size w (spec_SquareNumber.box w nd a1) := below_set (below_alloc (pw_below_drewN (Below.refl _ _) nd) _) (Nat.le_refl _)
set_option maxHeartbeats 8000000 in
set_option maxRecDepth 100000 in
theorem spec_SquareNumber.calls (k : Nat) (a0 : Int) (a1 : Int) (r : List Int) (w : World) (h : spec_SquareNumber.f k a0 a1 = some r) :
    Calls Try.prog 65 #[.int .i64 a0, .int .i64 a1] w fun e w' => ∃ v0_ : Value, e = .returned (v0_) ∧ Kd.R (Kd.int .i64) 3 w' w.heap.size (fun _ => True) v0_ r ∧ Below w.heap.size w w' := by
  unfold spec_SquareNumber.f at h
  by_cases hc : 2 ≤ a0 ∧ a0 ≤ 4 ∧ 0 ≤ a1
  · rw [if_pos hc] at h
    obtain ⟨⟨t1, t2⟩, hS, h⟩ := Option.bind_eq_some_iff.1 h
    by_cases hlen : t1.length < 17592186044416
    · simp only [hlen, if_true, Option.some.injEq] at h
      subst h
      have HS := Aside0.mk hS
      have HLN := Aside0.mk hlen
      have HL := Aside0.mk (show spec_l1In.f a0 2 4 = some true by unfold spec_l1In.f; rw [if_pos hc.1, decide_eq_true hc.2.1])
      have hn : decide (a1 < 0) = false := decide_eq_false (by omega)
      have HM := Aside0.mk (show 0 ≤ wrap64 (a0 * a0) ∧ wrap64 (a0 * a0) ≤ 16 by
        have : a0 = 2 ∨ a0 = 3 ∨ a0 = 4 := by omega
        rcases this with rfl | rfl | rfl <;> decide +kernel)
      clear hc hS hlen
      go_enter Try.func65, Try.ntmps65
      go_wp2_with (first
        | (go_at_call 54; (with_reducible refine (spec_l1In.calls a0 2 4 true _ HL.out).mono ?_); rintro e w' ⟨rfl, ⟨nd, rfl⟩⟩; have hcz : ((w.drewN nd).alloc (Obj.cells #[Value.int IntKind.i64 0] 3)).cell? ⟨w.heap.size, 0, none⟩ = some (.int .i64 0) := (blk_cell (heap_alloc_new (w.drewN nd) (Obj.cells #[Value.int IntKind.i64 0] 3)) 0).trans rfl; have hfz : ((w.drewN nd).alloc (Obj.cells #[Value.int IntKind.i64 0] 3)).frozen? ⟨w.heap.size, 0, none⟩ = false := blk_frozen (heap_alloc_new (w.drewN nd) (Obj.cells #[Value.int IntKind.i64 0] 3)) 0; have HI := Aside0.mk (spec_SquareNumber.box_is w nd a1); have HB := Aside0.mk (spec_SquareNumber.box_below w nd a1))
        | ((with_reducible refine gate_dst (N := 20) rfl ?_); refine Kd.R_make (Kd.int .i64) _ 3 rfl (N := 20) rfl 25 _ _ rfl (wrap64 (a0 * a0)) rfl rfl Try.underlying25 (.int .i64 0) 8 info3 rfl (by decide) (by omega) 0 (ok := fun k_ => w.heap.size < k_) (okp := fun _ => False) rfl (fun _ hk => hk.elim) (IsS3.lt HI.out) HM.out.1 (by have := HM.out.2; omega) (Below.refl _ _) (Nat.le_refl _) ?_; intro v20 w20 ho20 hb hg_ hnew_; clear hg_ hnew_; have n0_ := Aside0.mk (IsS3.below HI.out hb); have n1_ := Aside0.mk (Kd.R_lower ho20 (below_size HB.out)); have n2_ := Aside0.mk (below_step HB.out hb); clear HI HB ho20 hb; have HI := n0_; have HO20 := n1_; have HB := n2_; clear n0_ n1_ n2_)
        | ((with_reducible refine gate_callee (f := 66) rfl ?_); refine goesL_ (some 23) rfl rfl Try.func66 (by kernel_rfl) rfl #[v20, .int .i64 a0, .int .i64 0, .pointer (some ⟨w.heap.size, 0, none⟩)] rfl (by (try simp only [List.map_toArray, List.map_cons, List.map_nil]); first | done | rfl) ?_; (with_reducible refine (spec_l2Search.calls k (fun k_ => w.heap.size < k_) v20 (List.replicate (wrap64 (a0 * a0)).toNat 0) a0 0 w.heap.size a1 t1 t2 w _ HI.out HB.out (Nat.lt_irrefl _) HO20.out HS.out).mono ?_); rintro e w23 ⟨v23, rfl, ho0, hi, hb, hkp⟩; refine ⟨_, rfl, ?_⟩; have n1_ := Aside0.mk (Kd.R_mono (ok' := fun _ => True) ho0 (fun _ _ => trivial)); have n2_ := Aside0.mk hb; clear HI HB HO20 hi hb hkp ho0; have HO23 := n1_; have HB := n2_; clear n1_ n2_; obtain ⟨A23, c23, e23⟩ := Kd.R_slice HO23.out; subst e23)
        | ((with_reducible refine gate_dst (N := 24) rfl ?_); refine Kd.R_lit (Kd.int .i64) _ 3 ?hg (N := 24) ?hd (xs := ([] : List Int)) (inner := []) (ok := fun _ => True) (okp := fun _ => True) ?hr ?hp (fun _ hk => hk) trivial (Below.refl _ _) (Nat.le_refl _) (by simp) ?_; (case hd => rfl); (case hg => rfl); (case hr => first | (go_simp; done) | (go_simp; rfl)); (case hp => exact (Reps.none _ _)); intro v24 w24 ho24 hb hg_ hnew_; clear hg_ hnew_; have n0_ := Aside0.mk (Kd.R_elder' HO23.out (Kd.R_base ho24) hb); have n1_ := Aside0.mk (Kd.R_lower ho24 (below_size HB.out)); have n2_ := Aside0.mk (below_step HB.out hb); clear HB HO23 hb ho24; have HO23 := n0_; have HO24 := n1_; have HB := n2_; clear n0_ n1_ n2_)
        | ((with_reducible refine gate_builtin (b := .append) (xs := #[.tmp 24, .tmp 25]) rfl ?_); at_builtin; refine Kd.R_append_rows (Kd.int .i64) (w0 := w) w.heap.size rfl (.tmp 24) (.tmp 25) 25 3 (.int .i64 0) 8 rfl Try.underlying25 info3 rfl (by decide) (by omega) v24 [] t1 _ _ _ (fun _ => True) (fun _ => False) rfl rfl HO24.out (Kd.R_reads' HO23.out).2.2 (fun _ _ h => h) (fun _ h => h.elim) (fun _ _ => trivial) HB.out (below_size HB.out) (by have := HLN.out; simp only [List.length_nil]; omega) ?_; intro v26 w26 ho hb hg hat; have n0_ := Aside0.mk ho; have n1_ := Aside0.mk hb; clear HO23 HO24 HB ho hb hg hat; have HO26 := n0_; have HB := n1_; clear n0_ n1_))
      go_ret
      exact ⟨_, rfl, HO26.out, HB.out⟩
    · simp [hlen] at h
  · rw [if_neg hc] at h
    obtain rfl := Option.some.inj h
    by_cases hs : 2 ≤ a0 ∧ a0 ≤ 4
    · have HL := Aside0.mk (show spec_l1In.f a0 2 4 = some true by unfold spec_l1In.f; rw [if_pos hs.1, decide_eq_true hs.2])
      have hn : decide (a1 < 0) = true := decide_eq_true (by omega)
      clear hc hs
      go_enter Try.func65, Try.ntmps65
      go_wp2_with (first
        | (go_at_call 54; (with_reducible refine (spec_l1In.calls a0 2 4 true _ HL.out).mono ?_); rintro e w' ⟨rfl, ⟨nd, rfl⟩⟩)
        | ((with_reducible refine gate_dst (N := 15) rfl ?_); refine Kd.R_lit (Kd.int .i64) _ 3 ?hg (N := 15) ?hd (xs := ([] : List Int)) (inner := []) (ok := fun _ => True) (okp := fun _ => True) ?hr ?hp (fun _ hk => hk) trivial (Below.refl _ _) (Nat.le_refl _) (by simp) ?_; (case hd => rfl); (case hg => rfl); (case hr => first | (go_simp; done) | (go_simp; rfl)); (case hp => exact (Reps.none _ _)); intro v24 w24 ho24 hb hg_ hnew_; clear hg_ hnew_; have HO := Aside0.mk ho24; have HB := Aside0.mk (below_step (pw_below_drewN (Below.refl w.heap.size w) nd) hb); clear ho24 hb))
      go_ret
      exact ⟨_, rfl, HO.out, HB.out⟩
    · have HL := Aside0.mk (show spec_l1In.f a0 2 4 = some false by
        unfold spec_l1In.f
        by_cases h2 : a0 ≥ 2
        · rw [if_pos h2, decide_eq_false (by omega)]
        · rw [if_neg h2])
      clear hc hs
      go_enter Try.func65, Try.ntmps65
      go_wp2_with (first
        | (go_at_call 54; (with_reducible refine (spec_l1In.calls a0 2 4 false _ HL.out).mono ?_); rintro e w' ⟨rfl, ⟨nd, rfl⟩⟩)
        | ((with_reducible refine gate_dst (N := 15) rfl ?_); refine Kd.R_lit (Kd.int .i64) _ 3 ?hg (N := 15) ?hd (xs := ([] : List Int)) (inner := []) (ok := fun _ => True) (okp := fun _ => True) ?hr ?hp (fun _ hk => hk) trivial (Below.refl _ _) (Nat.le_refl _) (by simp) ?_; (case hd => rfl); (case hg => rfl); (case hr => first | (go_simp; done) | (go_simp; rfl)); (case hp => exact (Reps.none _ _)); intro v24 w24 ho24 hb hg_ hnew_; clear hg_ hnew_; have HO := Aside0.mk ho24; have HB := Aside0.mk (below_step (pw_below_drewN (Below.refl w.heap.size w) nd) hb); clear ho24 hb))
      go_ret
      exact ⟨_, rfl, HO.out, HB.out⟩

/-! ### spec_l20Solved: function 62 -/
def spec_l20Solved.f (k : Nat) (s0_0 : List Int) (s0_1 : Int) (a1 : Int) : Option (List Int × Int) := (some (([2, 12, 576] : List Int) : List Int)).bind fun y226 => (if 0 ≤ (wrap64 (a1 - 2)) then (if (wrap64 (a1 - 2)) < (y226.length : Int) then ((spec_l20Rd_pick.f k s0_0 s0_1 256).bind fun bt230 => ((spec_l20Rd_pick.f k s0_0 bt230.2 3).bind fun bt232 => (if (rd y226 (wrap64 (a1 - 2))) = 0 then (none) else ((spec_SquareNumber.f k a1 (Int.tmod (wrap64 ((wrap64 (bt230.1 * 3)) + bt232.1)) (rd y226 (wrap64 (a1 - 2))))).bind fun t234 => (some (t234, bt232.2)))))) else (none)) else (none))
theorem spec_l20Solved.mono : ∀ a0 a1 a2 k, LeO (spec_l20Solved.f k a0 a1 a2) (spec_l20Solved.f (k + 1) a0 a1 a2) := by
  intro a0 a1 a2 k
  unfold spec_l20Solved.f
  repeat' first
      | (with_reducible exact spec_SquareNumber.mono _ _ _)
      | (with_reducible exact spec_l20Rd_pick.mono _ _ _ _)
      | (with_reducible exact LeO.refl _)
      | (with_reducible exact LeO.none _)
      | (with_reducible refine LeO.ite ?_ ?_)
      | (with_reducible refine LeO.bind ?_ (fun _ => ?_))
      | exact spec_SquareNumber.mono _ _ _
      | exact spec_l20Rd_pick.mono _ _ _ _
      | exact LeO.none _
      | refine LeO.ite ?_ ?_
      | refine LeO.bind ?_ (fun _ => ?_)
set_option maxHeartbeats 8000000 in
set_option maxRecDepth 100000 in
theorem spec_l20Solved.calls (k : Nat) (g : Nat) (s0_0 : List Int) (s0_1 : Int) (a1 : Int) (r1 : List Int) (r2 : Int) (w0 w : World) (hI : IsS56 w0 w g s0_0 s0_1) (hB : Below w0.heap.size w0 w) (h : spec_l20Solved.f k s0_0 s0_1 a1 = some (r1, r2)) :
    Calls Try.prog 62 #[.pointer (some ⟨g, 0, none⟩), .int .i64 a1] w fun e w' => ∃ v0_ : Value, e = .returned (v0_) ∧ Kd.R (Kd.int .i64) 3 w' w.heap.size (fun _ => True) v0_ r1 ∧ IsS56 w0 w' g s0_0 r2 ∧ Below w0.heap.size w0 w' ∧ KeepBut w w' g none := by
  have HI0 := Aside0.mk hI
  have HK := Aside0.mk (KeepBut.refl w g none)
  have HL := Aside0.mk hB.size
  clear hI
  have HW0 := Aside0.mk hB.size
  have HB := Aside0.mk hB
  clear hB
  have H : ((some (([2, 12, 576] : List Int) : List Int)).bind fun y226 => (if 0 ≤ (wrap64 (a1 - 2)) then (if (wrap64 (a1 - 2)) < (y226.length : Int) then ((spec_l20Rd_pick.f k s0_0 s0_1 256).bind fun bt230 => ((spec_l20Rd_pick.f k s0_0 bt230.2 3).bind fun bt232 => (if (rd y226 (wrap64 (a1 - 2))) = 0 then (none) else ((spec_SquareNumber.f k a1 (Int.tmod (wrap64 ((wrap64 (bt230.1 * 3)) + bt232.1)) (rd y226 (wrap64 (a1 - 2))))).bind fun t234 => (some (t234, bt232.2)))))) else (none)) else (none))) = some (r1, r2) := h
  clear h
  obtain ⟨y226, hy226⟩ : ∃ y_ : List Int, y_ = (([2, 12, 576] : List Int)) := ⟨_, rfl⟩
  replace H : (if 0 ≤ (wrap64 (a1 - 2)) then (if (wrap64 (a1 - 2)) < (y226.length : Int) then ((spec_l20Rd_pick.f k s0_0 s0_1 256).bind fun bt230 => ((spec_l20Rd_pick.f k s0_0 bt230.2 3).bind fun bt232 => (if (rd y226 (wrap64 (a1 - 2))) = 0 then (none) else ((spec_SquareNumber.f k a1 (Int.tmod (wrap64 ((wrap64 (bt230.1 * 3)) + bt232.1)) (rd y226 (wrap64 (a1 - 2))))).bind fun t234 => (some (t234, bt232.2)))))) else (none)) else (none)) = some (r1, r2) := by first | (rw [hy226]; with_reducible exact H) | (have H2_ := (Option.bind_some _ _).symm.trans H; rw [hy226]; with_reducible exact H2_) | (have H2_ := (Option.bind_some _ _).symm.trans H; with_reducible exact H2_) | with_reducible exact H | (rw [hy226]; exact H) | exact H
  have Ny226 := Aside0.mk hy226
  clear hy226
  obtain ⟨ji3, hji3⟩ : ∃ j_ : Int, (wrap64 (a1 - 2)) = j_ := ⟨_, rfl⟩
  replace H : (if 0 ≤ (ji3) then (if (ji3) < (y226.length : Int) then ((spec_l20Rd_pick.f k s0_0 s0_1 256).bind fun bt230 => ((spec_l20Rd_pick.f k s0_0 bt230.2 3).bind fun bt232 => (if (rd y226 (ji3)) = 0 then (none) else ((spec_SquareNumber.f k a1 (Int.tmod (wrap64 ((wrap64 (bt230.1 * 3)) + bt232.1)) (rd y226 (ji3)))).bind fun t234 => (some (t234, bt232.2)))))) else (none)) else (none)) = some (r1, r2) := by first | (rw [hji3] at H; exact H) | (simp only [hji3] at H ⊢; exact H)
  have hji3w : (IntKind.i64.wrap (a1 - 2)) = ji3 := (i64_w _).trans hji3
  by_cases c4 : 0 ≤ (ji3)
  · rw [if_pos c4] at H
    have c4b0 : decide (0 ≤ (ji3)) = true := decide_eq_true c4
    clear c4
    by_cases c5 : (ji3) < (y226.length : Int)
    · rw [if_pos c5] at H
      have c5b0 : decide ((ji3) < (y226.length : Int)) = true := decide_eq_true c5
      clear c5
      replace H := Option.bind_eq_some_iff.mp H
      obtain ⟨⟨t230, t231⟩, A60, H⟩ := H
      replace H : ((spec_l20Rd_pick.f k s0_0 t231 3).bind fun bt232 => (if (rd y226 (ji3)) = 0 then (none) else ((spec_SquareNumber.f k a1 (Int.tmod (wrap64 ((wrap64 (t230 * 3)) + bt232.1)) (rd y226 (ji3)))).bind fun t234 => (some (t234, bt232.2))))) = some (r1, r2) := H
      have A6 := Aside0.mk A60
      clear A60
      replace H := Option.bind_eq_some_iff.mp H
      obtain ⟨⟨t232, t233⟩, A70, H⟩ := H
      replace H : (if (rd y226 (ji3)) = 0 then (none) else ((spec_SquareNumber.f k a1 (Int.tmod (wrap64 ((wrap64 (t230 * 3)) + t232)) (rd y226 (ji3)))).bind fun t234 => (some (t234, t233)))) = some (r1, r2) := H
      have A7 := Aside0.mk A70
      clear A70
      by_cases c8 : (rd y226 (ji3)) = 0
      · rw [if_pos c8] at H
        exact absurd H (by simp)
      · rw [if_neg c8] at H
        have c8b0 : ((rd y226 (ji3)) == 0) = false := beq_eq_false_iff_ne.mpr c8
        have c8b1 : ((rd y226 (ji3)) != 0) = true := bne_iff_ne.mpr c8
        replace H := Option.bind_eq_some_iff.mp H
        obtain ⟨t234, A90, H⟩ := H
        replace H : (some (t234, t233)) = some (r1, r2) := H
        have A9 := Aside0.mk A90
        clear A90
        simp only [Option.some.injEq, Prod.mk.injEq] at H
        obtain ⟨rfl, rfl⟩ := H
        go_enter Try.func62, Try.ntmps62
        go_wp2_with (first | ((with_reducible refine gate_dst (N := 6) rfl ?_); refine Kd.R_lit (Kd.int .i64) _ 3 ?hg (N := 6) ?hd (xs := ([2, 12, 576] : List Int)) (inner := [.int .i64 2, .int .i64 12, .int .i64 576]) (ok := fun _ => True) (okp := fun _ => True) ?hr ?hp (fun _ hk => hk) trivial (Below.refl _ _) (Nat.le_refl _) (by simp) ?_; (case hd => rfl); (case hg => rfl); (case hr => first | (go_simp; done) | (go_simp; rfl)); (case hp => exact (Reps.one (show Kd.M (Kd.int .i64) _ _ _ 2 [.int .i64 2] from rfl) (Reps.one (show Kd.M (Kd.int .i64) _ _ _ 12 [.int .i64 12] from rfl) (Reps.one (show Kd.M (Kd.int .i64) _ _ _ 576 [.int .i64 576] from rfl) (Reps.none _ _))))); intro v227 w10 ho11 hb hg_ hnew_; clear hg_ hnew_; (first | rw [← Ny226.out] at ho11 | (simp only [Int.reduceToNat] at ho11; rw [← Ny226.out] at ho11)); have n0_ := Aside0.mk (Kd.R_lower ho11 (keep_size (w := w) (g := g) (row := none) (by repeat (first | (with_reducible first | exact HK.out | apply KeepBut.set_ | apply keep_drewN | apply keep_drew | apply keep_alloc) | exact HK.out)))); have n1_ := Aside0.mk (IsS56.below (by repeat (first | (with_reducible first | exact HI0.out | apply IsS56.alloc | apply IsS56.drewN | apply IsS56.drew | apply IsS56.set_1) | exact HI0.out)) hb); have n2_ := Aside0.mk (KeepBut.trans (by repeat (first | (with_reducible first | exact HK.out | apply KeepBut.set_ | apply keep_drewN | apply keep_drew | apply keep_alloc) | exact HK.out)) (KeepBut.of_below hb g none) (.inl rfl)); have n3_ := Aside0.mk (below_step (by repeat (first | (with_reducible first | exact HB.out | apply below_alloc | apply pw_below_drewN | apply below_drew1 | refine below_set ?_ (IsS56.ge HI0.out)) | exact HB.out)) hb); clear HI0; clear HK; clear HB; have HO228 := n0_; have HI0 := n1_; have HK := n2_; have HB := n3_; clear n0_ n1_ n2_ n3_; clear hb ho11; obtain ⟨Ao12, co12, eo12⟩ := Kd.R_slice HO228.out; subst eo12; have p229 : 0 ≤ ((ji3) : Int) := of_decide_eq_true (by first | (with_reducible assumption) | assumption); have q229 : (ji3) < (y226.length : Int) := of_decide_eq_true (by first | (with_reducible assumption) | assumption); obtain ⟨ad229, e229, hx229_0⟩ := Kd.at_int (Kd.R_reads' HO228.out).2.2 (ji3) p229 q229; cases e229; replace p229 := eq_true p229; replace q229 := eq_true q229) | ((with_reducible refine gate_callee (f := 52) rfl ?_); refine goesL_ (some 13) rfl rfl Try.func52 (by kernel_rfl) rfl #[.pointer (some ⟨g, 0, none⟩), .int .i64 256] rfl (by (try simp only [List.map_toArray, List.map_cons, List.map_nil]); first | done | rfl | (simp only [List.length_drop, List.length_take]; rfl)) ?_; (with_reducible refine (spec_l20Rd_pick.calls k g s0_0 s0_1 256 t230 t231 w0 _ ?side1 ?side2 A6.out).mono ?_); (case side1 => repeat (first | (with_reducible first | exact HI0.out | apply IsS56.alloc | apply IsS56.drewN | apply IsS56.drew | apply IsS56.set_1) | exact HI0.out)); (case side2 => repeat (first | (with_reducible first | exact HB.out | apply below_alloc | apply pw_below_drewN | apply below_drew1 | refine below_set ?_ (IsS56.ge HI0.out)) | exact HB.out)); rintro e w13 ⟨rfl, hi, hb, hk⟩; refine ⟨_, rfl, ?_⟩; have n0_ := Aside0.mk (Kd.R_mono (Kd.R_keep (IsS56.apart (show IsS56 w0 _ g s0_0 s0_1 from by repeat (first | (with_reducible first | exact HI0.out | apply IsS56.alloc | apply IsS56.drewN | apply IsS56.drew | apply IsS56.set_1) | exact HI0.out)) (by (with_reducible repeat (first | apply Kd.R_alloc | apply Kd.R_drewN | apply Kd.R_drew)); exact HO228.out) (by decide)) hk (fun _ h => h.2)) (fun _ h => h.1)); have n1_ := Aside0.mk (KeepBut.trans (by repeat (first | (with_reducible first | exact HK.out | apply KeepBut.set_ | apply keep_drewN | apply keep_drew | apply keep_alloc) | exact HK.out)) hk (.inl rfl)); have n2_ := Aside0.mk (hb); have n3_ := Aside0.mk (hi); clear HO228; clear HK; clear HB; clear HI0; have HO228 := n0_; have HK := n1_; have HB := n2_; have HI0 := n3_; clear n0_ n1_ n2_ n3_; (try clear hb); (try clear hb2); (try clear hk); (try clear hi)) | ((with_reducible refine gate_callee (f := 52) rfl ?_); refine goesL_ (some 16) rfl rfl Try.func52 (by kernel_rfl) rfl #[.pointer (some ⟨g, 0, none⟩), .int .i64 3] rfl (by (try simp only [List.map_toArray, List.map_cons, List.map_nil]); first | done | rfl | (simp only [List.length_drop, List.length_take]; rfl)) ?_; (with_reducible refine (spec_l20Rd_pick.calls k g s0_0 t231 3 t232 t233 w0 _ ?side1 ?side2 A7.out).mono ?_); (case side1 => repeat (first | (with_reducible first | exact HI0.out | apply IsS56.alloc | apply IsS56.drewN | apply IsS56.drew | apply IsS56.set_1) | exact HI0.out)); (case side2 => repeat (first | (with_reducible first | exact HB.out | apply below_alloc | apply pw_below_drewN | apply below_drew1 | refine below_set ?_ (IsS56.ge HI0.out)) | exact HB.out)); rintro e w14 ⟨rfl, hi, hb, hk⟩; refine ⟨_, rfl, ?_⟩; have n0_ := Aside0.mk (Kd.R_mono (Kd.R_keep (IsS56.apart (show IsS56 w0 _ g s0_0 t231 from by repeat (first | (with_reducible first | exact HI0.out | apply IsS56.alloc | apply IsS56.drewN | apply IsS56.drew | apply IsS56.set_1) | exact HI0.out)) (by (with_reducible repeat (first | apply Kd.R_alloc | apply Kd.R_drewN | apply Kd.R_drew)); exact HO228.out) (by decide)) hk (fun _ h => h.2)) (fun _ h => h.1)); have n1_ := Aside0.mk (KeepBut.trans (by repeat (first | (with_reducible first | exact HK.out | apply KeepBut.set_ | apply keep_drewN | apply keep_drew | apply keep_alloc) | exact HK.out)) hk (.inl rfl)); have n2_ := Aside0.mk (hb); have n3_ := Aside0.mk (hi); clear HO228; clear HK; clear HB; clear HI0; have HO228 := n0_; have HK := n1_; have HB := n2_; have HI0 := n3_; clear n0_ n1_ n2_ n3_; (try clear hb); (try clear hb2); (try clear hk); (try clear hi)) | ((with_reducible refine gate_callee (f := 65) rfl ?_); refine goesL_ (some 20) rfl rfl Try.func65 (by kernel_rfl) rfl #[.int .i64 a1, .int .i64 (Int.tmod (wrap64 ((wrap64 (t230 * 3)) + t232)) (rd y226 (ji3)))] rfl (by (try simp only [List.map_toArray, List.map_cons, List.map_nil]); first | done | (simp only [hji3]; rfl) | rfl | (simp only [List.length_drop, List.length_take]; rfl)) ?_; (with_reducible refine (spec_SquareNumber.calls k a1 (Int.tmod (wrap64 ((wrap64 (t230 * 3)) + t232)) (rd y226 (ji3))) t234 _ A9.out).mono ?_); rintro e w15 ⟨v235, rfl, ho0, hb⟩; refine ⟨_, rfl, ?_⟩; have n0_ := Aside0.mk (Kd.R_elder' (by (with_reducible repeat (first | apply Kd.R_alloc | apply Kd.R_drewN | apply Kd.R_drew)); exact HO228.out) (Kd.R_base ho0) hb); have n1_ := Aside0.mk (Kd.R_lower (Kd.R_new' ho0 (Kd.R_lt (by (with_reducible repeat (first | apply Kd.R_alloc | apply Kd.R_drewN | apply Kd.R_drew)); exact HO228.out))) (keep_size (w := w) (g := g) (row := none) (by repeat (first | (with_reducible first | exact HK.out | apply KeepBut.set_ | apply keep_drewN | apply keep_drew | apply keep_alloc) | exact HK.out)))); have n2_ := Aside0.mk (IsS56.below (by repeat (first | (with_reducible first | exact HI0.out | apply IsS56.alloc | apply IsS56.drewN | apply IsS56.drew | apply IsS56.set_1) | exact HI0.out)) hb); have n3_ := Aside0.mk (KeepBut.trans (by repeat (first | (with_reducible first | exact HK.out | apply KeepBut.set_ | apply keep_drewN | apply keep_drew | apply keep_alloc) | exact HK.out)) (KeepBut.of_below hb g none) (.inl rfl)); have n4_ := Aside0.mk (below_step (by repeat (first | (with_reducible first | exact HB.out | apply below_alloc | apply pw_below_drewN | apply below_drew1 | refine below_set ?_ (IsS56.ge HI0.out)) | exact HB.out)) hb); clear HO228; clear HI0; clear HK; clear HB; have HO228 := n0_; have HO236 := n1_; have HI0 := n2_; have HK := n3_; have HB := n4_; clear n0_ n1_ n2_ n3_ n4_; (try clear hb); (try clear hb2); (try clear hk); (try clear hi); (try clear ho0)))
        go_ret
        exact ⟨_, by first | rfl | (simp [errW_none, errW_some] <;> rfl) | (simp only [← hji3]; first | rfl | (simp [errW_none, errW_some] <;> rfl)) | (simp [*, errW_none, errW_some] <;> rfl), by (with_reducible repeat (first | apply Kd.R_alloc | apply Kd.R_drewN | apply Kd.R_drew)); exact Kd.R_mono HO236.out (fun _ hk => trivial), by repeat (first | (with_reducible first | exact HI0.out | apply IsS56.alloc | apply IsS56.drewN | apply IsS56.drew | apply IsS56.set_1) | exact HI0.out), by repeat (first | (with_reducible first | exact HB.out | apply below_alloc | apply pw_below_drewN | apply below_drew1 | refine below_set ?_ (IsS56.ge HI0.out)) | exact HB.out), by repeat (first | (with_reducible first | exact HK.out | apply KeepBut.set_ | apply keep_drewN | apply keep_drew | apply keep_alloc) | exact HK.out)⟩
    · rw [if_neg c5] at H
      exact absurd H (by simp)
  · rw [if_neg c4] at H
    exact absurd H (by simp)

end Go.Proofs.Ytnocdmclcdfppaa.P
