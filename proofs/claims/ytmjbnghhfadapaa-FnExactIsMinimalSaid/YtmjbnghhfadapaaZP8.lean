/- The machine's side: each Go function as a plain Lean function and the proof that the machine's call does what that function says; written by this session's own program over the kit's print. -/
import Derived.Test.YtmjbnghhfadapaaZP1
import Derived.Test.YtmjbnghhfadapaaZP5
import Derived.Test.YtmjbnghhfadapaaZP7
namespace Go.Proofs.Ytmjbnghhfadapaa.P
open Go.RowKit Go.Proofs.YtmjbnghhfadapaaW.PrintWords Go.Proofs.YtmjbnghhfadapaaW.PrintLast Go.Proofs.YtmjbnghhfadapaaW.PrintMore
attribute [local go_sem] max2_int min2_int max_two min_two max_three min_three max_four min_four   -- for this text's walks alone
set_option linter.unusedVariables false
set_option linter.unusedSimpArgs false
/-! ### impl_without: function 69 -/
def impl_without.l0 : Nat → List Int → Int → Int → Int → List Int → List (S73) → Option (Int × List Int × (List (S73)))
 | 0, _, _, _, _, _, _ => none
 | k + 1, x10, x11, x12, x676000, x676001, x676002 => if x12 < x11 then (if 0 ≤ x12 then (if x12 < (x10.length : Int) then (if 0 ≤ (rd x10 x12) then (if (rd x10 x12) < (x676001.length : Int) then (impl_without.l0 k x10 x11 (wrap64 (x12 + 1)) x676000 (x676001.set ((rd x10 x12) : Int).toNat 0) x676002) else (none)) else (none)) else (none)) else (none)) else (some (x676000, x676001, x676002))
def impl_without.f (k : Nat) (a0_0 : Int) (l0_1 : List Int) (l0_2 : List (S73)) (l1 : List Int) : Option (Int × List Int × (List (S73))) := (impl_copyPuzzle.f k a0_0 l0_1 l0_2).bind fun bt668 => (impl_without.l0 k l1 (l1.length : Int) 0 bt668.1 bt668.2.1 bt668.2.2)
set_option maxHeartbeats 8000000 in
set_option maxRecDepth 100000 in
theorem impl_without.calls (k : Nat) (a0_0 : Int) (A0_1 : Option Addr) (c0_1 : Nat) (l0_1 : List Int) (A0_2 : Option Addr) (c0_2 : Nat) (l0_2 : List (S73)) (A1 : Option Addr) (c1 : Nat) (l1 : List Int) (r1 : Int) (r2 : List Int) (r3 : List (S73)) (w : World) (hr0_1 : Kd.C (Kd.int .i64) w A0_1 l0_1.length l0_1) (hc0_1 : l0_1.length ≤ c0_1) (hr0_2 : Kd.C k73 w A0_2 l0_2.length l0_2) (hc0_2 : l0_2.length ≤ c0_2) (hr1 : Kd.C (Kd.int .i64) w A1 l1.length l1) (hc1 : l1.length ≤ c1) (h : impl_without.f k a0_0 l0_1 l0_2 l1 = some (r1, r2, r3)) :
  Calls Try.prog 69 #[.agg #[.int .i64 a0_0, .slice A0_1 l0_1.length c0_1, .slice A0_2 l0_2.length c0_2], .slice A1 l1.length c1] w fun e w' => ∃ v1_ v2_ : Value, e = .returned (.agg #[.int .i64 r1, v1_, v2_]) ∧ Kd.R (Kd.int .i64) 3 w' w.heap.size (fun _ => True) v1_ r2 ∧ Kd.S k73 73 w' w.heap.size (fun k_ => some k_ ≠ (v1_ : Value).ownBlock) v2_ r3 ∧ Below w.heap.size w w' := by
 have hu37 := Try.underlying37
 have HR0_1 := yam hr0_1
 have HC0_1 := yam hc0_1
 clear hr0_1 hc0_1
 have HR0_2 := yam hr0_2
 have HC0_2 := yam hc0_2
 clear hr0_2 hc0_2
 have HR1 := yam hr1
 have HC1 := yam hc1
 clear hr1 hc1
 have HB := yam (Below.refl w.heap.size w)
 have H : ((impl_copyPuzzle.f k a0_0 l0_1 l0_2).bind fun bt668 => (impl_without.l0 k l1 (l1.length : Int) 0 bt668.1 bt668.2.1 bt668.2.2)) = some (r1, r2, r3) := h
 clear h
 replace H := Option.bind_eq_some_iff.mp H
 obtain ⟨⟨t668, t669, t672⟩, A30, H⟩ := H
 replace H : (impl_without.l0 k l1 (l1.length : Int) 0 t668 t669 t672) = some (r1, r2, r3) := H
 have A3 := yam A30
 clear A30
 have H' := yam H
 clear H
 go_enter Try.func69, Try.ntmps69
 go_wp2_with (first | ((with_reducible refine gate_dst (N := 2) rfl ?_); refine box_event ?hg (N := 2) ?hd (cs := #[.int .i64 a0_0, .slice A0_1 l0_1.length c0_1, .slice A0_2 l0_2.length c0_2]) (t := 37) ?hr ?_; (case hd => rfl); (case hg => rfl); (case hr => first | (go_simp; done) | (go_simp; rfl)); intro gb666 hg w4 hbox hb; have n0_ := yam (below_step (yez HB.out) hb); have n1_ := yam (hbox); have n2_ := yam ((by rw [hg]; exact (below_size (yez HB.out)) : w.heap.size ≤ gb666)); have n3_ := n2_; clear HB; have HB := n0_; have BK666 := n1_; have GW666 := n2_; have GE666 := n3_; clear n0_ n1_ n2_ n3_; clear hb hbox hg) | ((with_reducible refine gate_dst (N := 4) rfl ?_); refine box_event ?hg (N := 4) ?hd (cs := #[.int .i64 0, .slice none 0 0, .slice none 0 0]) (t := 37) ?hr ?_; (case hd => rfl); (case hg => rfl); (case hr => first | (go_simp; done) | (go_simp; rfl)); intro gb667 hg w5 hbox hb; have n0_ := yam (blk_below (g := gb666) (o := .cells #[.int .i64 a0_0, .slice A0_1 l0_1.length c0_1, .slice A0_2 l0_2.length c0_2] 37 (0, 0)) (ybz BK666.out) hb); have n1_ := yam (below_step yhb hb); have n2_ := yam (hbox); have n3_ := yam ((by rw [hg]; exact (below_size yhb) : w.heap.size ≤ gb667)); have n4_ := n3_; have n5_ := yam ((by rw [hg]; exact Nat.ne_of_lt (blk_lt (g := gb666) (o := .cells #[.int .i64 a0_0, .slice A0_1 l0_1.length c0_1, .slice A0_2 l0_2.length c0_2] 37 (0, 0)) (ybz BK666.out)) : gb666 ≠ gb667)); have n6_ := yam ((by rw [hg]; exact Nat.ne_of_gt (blk_lt (g := gb666) (o := .cells #[.int .i64 a0_0, .slice A0_1 l0_1.length c0_1, .slice A0_2 l0_2.length c0_2] 37 (0, 0)) (ybz BK666.out)) : gb667 ≠ gb666)); clear BK666; clear HB; have BK666 := n0_; have HB := n1_; have BK667 := n2_; have GW667 := n3_; have GE667 := n4_; have NB666_667 := n5_; have NB667_666 := n6_; clear n0_ n1_ n2_ n3_ n4_ n5_ n6_; clear hb hbox hg; have hnb6 := NB666_667.out; have hnc6 := NB667_666.out; obtain ⟨hcz7_0, hcz7_1, hcz7_2, hfz7_0, hfz7_1, hfz7_2⟩ := ybc BK666.out) | ((with_reducible refine gate_callee (f := 58) rfl ?_); refine goesL_ (some 9) rfl rfl Try.func58 (by kernel_rfl) rfl #[.agg #[.int .i64 a0_0, .slice A0_1 l0_1.length c0_1, .slice A0_2 l0_2.length c0_2]] rfl (by (try simp only [List.map_toArray, List.map_cons, List.map_nil]); first | done | rfl | (simp only [List.length_drop, List.length_take]; rfl)) ?_; (with_reducible refine (impl_copyPuzzle.calls k a0_0 _ _ l0_1 _ _ l0_2 t668 t669 t672 _ ?side1 ?side2 ?side3 ?side4 A3.out).mono ?_); (case side1 => exact Kd.Cz ((Kd.C_below HR0_1.out HB.out))); (case side2 => exact HC0_1.out); (case side3 => exact Kd.Cz ((Kd.C_below HR0_2.out HB.out))); (case side4 => exact HC0_2.out); rintro e w8 ⟨v670, v673, rfl, ho0, ho1, hb⟩; refine ⟨_, rfl, ?_⟩; have n0_ := yam (Kd.R_lower ho0 (below_size yhb)); have n1_ := yam (Kd.S_lower ho1 (below_size yhb)); have n2_ := yam (blk_below (g := gb666) (o := .cells #[.int .i64 a0_0, .slice A0_1 l0_1.length c0_1, .slice A0_2 l0_2.length c0_2] 37 (0, 0)) (ybz BK666.out) hb); have n3_ := yam (blk_below (g := gb667) (o := .cells #[.int .i64 0, .slice none 0 0, .slice none 0 0] 37 (0, 0)) (ybz BK667.out) hb); have n4_ := yam (below_step yhb hb); clear BK666; clear BK667; clear HB; have HO671 := n0_; have HO674 := n1_; have BK666 := n2_; have BK667 := n3_; have HB := n4_; clear n0_ n1_ n2_ n3_ n4_; (try clear hb); (try clear hb2); (try clear hk); (try clear hi); (try clear ho0); (try clear ho1)) | ((with_reducible refine gate_dst (N := 5) rfl ?_); refine box_event ?hg (N := 5) ?hd (cs := #[.int .i64 0, .slice none 0 0, .slice none 0 0]) (t := 37) ?hr ?_; (case hd => rfl); (case hg => rfl); (case hr => first | (go_simp; done) | (go_simp; rfl)); intro gb675 hg w9 hbox hb; have n0_ := yam (Kd.R_below (Kd.Yz HO671.out) hb); have n1_ := yam (Kd.S_below (by (with_reducible repeat (first | apply Kd.S_alloc | apply Kd.S_drewN | apply Kd.S_drew)); exact HO674.out) hb); have n2_ := yam (blk_below (g := gb666) (o := .cells #[.int .i64 a0_0, .slice A0_1 l0_1.length c0_1, .slice A0_2 l0_2.length c0_2] 37 (0, 0)) (ybz BK666.out) hb); have n3_ := yam (blk_below (g := gb667) (o := .cells #[.int .i64 0, .slice none 0 0, .slice none 0 0] 37 (0, 0)) (ybz BK667.out) hb); have n4_ := yam (below_step yhb hb); have n5_ := yam (hbox); have n6_ := yam ((by rw [hg]; exact (below_size yhb) : w.heap.size ≤ gb675)); have n7_ := n6_; have n8_ := yam ((by rw [hg]; exact Nat.ne_of_lt (blk_lt (g := gb666) (o := .cells #[.int .i64 a0_0, .slice A0_1 l0_1.length c0_1, .slice A0_2 l0_2.length c0_2] 37 (0, 0)) (ybz BK666.out)) : gb666 ≠ gb675)); have n9_ := yam ((by rw [hg]; exact Nat.ne_of_gt (blk_lt (g := gb666) (o := .cells #[.int .i64 a0_0, .slice A0_1 l0_1.length c0_1, .slice A0_2 l0_2.length c0_2] 37 (0, 0)) (ybz BK666.out)) : gb675 ≠ gb666)); have n10_ := yam ((by rw [hg]; exact Nat.ne_of_lt (blk_lt (g := gb667) (o := .cells #[.int .i64 0, .slice none 0 0, .slice none 0 0] 37 (0, 0)) (ybz BK667.out)) : gb667 ≠ gb675)); have n11_ := yam ((by rw [hg]; exact Nat.ne_of_gt (blk_lt (g := gb667) (o := .cells #[.int .i64 0, .slice none 0 0, .slice none 0 0] 37 (0, 0)) (ybz BK667.out)) : gb675 ≠ gb667)); clear HO671; clear HO674; clear BK666; clear BK667; clear HB; have HO671 := n0_; have HO674 := n1_; have BK666 := n2_; have BK667 := n3_; have HB := n4_; have BK675 := n5_; have GW675 := n6_; have GE675 := n7_; have NB666_675 := n8_; have NB675_666 := n9_; have NB667_675 := n10_; have NB675_667 := n11_; clear n0_ n1_ n2_ n3_ n4_ n5_ n6_ n7_ n8_ n9_ n10_ n11_; clear hb hbox hg; have hnb10 := NB675_666.out; have hnc10 := NB666_675.out; have hnb11 := NB675_667.out; have hnc11 := NB667_675.out; obtain ⟨hcz12_0, hcz12_1, hcz12_2, hfz12_0, hfz12_1, hfz12_2⟩ := ybc BK675.out; obtain ⟨Ao13, co13, eo13⟩ := Kd.R_slice HO671.out; subst eo13; obtain ⟨Ao14, co14, eo14⟩ := Kd.S_slice HO674.out; subst eo14))
 go_loopg [12] k (fun kq v12 w' => ∃ (x12_1 : Int) (x676001_1 : List Int) (u676001 : Value), v12 = .int .i64 x12_1 ∧ Aside0 (impl_without.l0 kq l1 (l1.length : Int) x12_1 t668 x676001_1 t672 = some (r1, r2, r3)) ∧ Aside0 (kq ≤ k) ∧ Aside0 (Kd.R (Kd.int .i64) 3 w' w.heap.size (fun _ => True) u676001 x676001_1) ∧ Aside0 (Kd.S k73 73 w' w.heap.size (fun k_ => some k_ ≠ (u676001 : Value).ownBlock) (.slice Ao14 t672.length co14) t672) ∧ Aside0 (w'.heap[gb666]? = some (.cells #[.int .i64 a0_0, (.slice A0_1 l0_1.length c0_1), (.slice A0_2 l0_2.length c0_2)] 37 (0, 0))) ∧ Aside0 (w'.heap[gb667]? = some (.cells #[.int .i64 0, (.slice none 0 0), (.slice none 0 0)] 37 (0, 0))) ∧ Aside0 (w'.heap[gb675]? = some (.cells #[.int .i64 t668, u676001, (.slice Ao14 t672.length co14)] 37 (0, 0))) ∧ Aside0 (Below w.heap.size w w'))
 case atStart => exact ⟨(0), (t669), (.slice Ao13 t669.length co13), yeq, H', ⟨Nat.le_refl _⟩, ⟨by (with_reducible repeat (first | apply Kd.Ya | apply Kd.Yn | apply Kd.Yd)); exact Kd.R_mono (Kd.R_far (p := ⟨gb675, 2, none⟩) (Kd.R_far (p := ⟨gb675, 1, none⟩) (Kd.R_far (p := ⟨gb675, 0, none⟩) (Kd.R_types HO671.out BK675.out (by decide)) (fun _ hk => hk.2) (.int .i64 t668)) (fun _ hk => hk.2) (.slice Ao13 t669.length co13)) (fun _ hk => hk.2) (.slice Ao14 t672.length co14)) (fun _ hk => trivial)⟩, ⟨by (with_reducible repeat (first | apply Kd.S_alloc | apply Kd.S_drewN | apply Kd.S_drew)); exact Kd.S_mono (Kd.S_far (p := ⟨gb675, 2, none⟩) (Kd.S_far (p := ⟨gb675, 1, none⟩) (Kd.S_far (p := ⟨gb675, 0, none⟩) (Kd.S_types HO674.out BK675.out (by decide)) (fun _ hk => hk.2) (.int .i64 t668)) (fun _ hk => hk.2) (.slice Ao13 t669.length co13)) (fun _ hk => hk.2) (.slice Ao14 t672.length co14)) (fun _ hk => hk.1)⟩, ⟨by (with_reducible repeat (first | refine ybn ?_ _ | refine ybd ?_ | refine yba ?_ _)); refine blk_far ?_ NB666_675.out _; (with_reducible repeat (first | refine ybn ?_ _ | refine ybd ?_ | refine yba ?_ _)); refine blk_far ?_ NB666_675.out _; (with_reducible repeat (first | refine ybn ?_ _ | refine ybd ?_ | refine yba ?_ _)); refine blk_far ?_ NB666_675.out _; (with_reducible repeat (first | refine ybn ?_ _ | refine ybd ?_ | refine yba ?_ _)); exact BK666.out⟩, ⟨by (with_reducible repeat (first | refine ybn ?_ _ | refine ybd ?_ | refine yba ?_ _)); refine blk_far ?_ NB667_675.out _; (with_reducible repeat (first | refine ybn ?_ _ | refine ybd ?_ | refine yba ?_ _)); refine blk_far ?_ NB667_675.out _; (with_reducible repeat (first | refine ybn ?_ _ | refine ybd ?_ | refine yba ?_ _)); refine blk_far ?_ NB667_675.out _; (with_reducible repeat (first | refine ybn ?_ _ | refine ybd ?_ | refine yba ?_ _)); exact BK667.out⟩, ⟨by (with_reducible repeat (first | refine ybn ?_ _ | refine ybd ?_ | refine yba ?_ _)); refine blk_put (cs := #[.int .i64 t668, .slice Ao13 t669.length co13, .slice none 0 0]) ?_ 2 _ rfl; (with_reducible repeat (first | refine ybn ?_ _ | refine ybd ?_ | refine yba ?_ _)); refine blk_put (cs := #[.int .i64 t668, .slice none 0 0, .slice none 0 0]) ?_ 1 _ rfl; (with_reducible repeat (first | refine ybn ?_ _ | refine ybd ?_ | refine yba ?_ _)); refine blk_put (cs := #[.int .i64 0, .slice none 0 0, .slice none 0 0]) ?_ 0 _ rfl; (with_reducible repeat (first | refine ybn ?_ _ | refine ybd ?_ | refine yba ?_ _)); exact BK675.out⟩, ⟨yhb⟩⟩
 case round =>
  clear H'
  try clear c1
  try clear p2
  try clear c5
  try clear c6
  try clear c10
  try clear c11
  try clear hcz12_0
  try clear hcz12_1
  try clear hcz12_2
  try clear hcz7_0
  try clear hcz7_1
  try clear hcz7_2
  try clear hfz12_0
  try clear hfz12_1
  try clear hfz12_2
  try clear hfz7_0
  try clear hfz7_1
  try clear hfz7_2
  obtain ⟨x12_1, x676001_1, u676001, rfl, HA, HK1, HO_676001, HO_676002, BK666, BK667, BK675, HB⟩ := hrel
  cases gk with
  | zero => exact absurd HA.out (by simp [impl_without.l0])
  | succ k1 =>
   have H := HA.out
   clear HA
   simp only [impl_without.l0] at H
   by_cases c15 : x12_1 < (l1.length : Int)
   rotate_left
   ·rw [if_neg c15] at H
    have c15b0 : decide (x12_1 < (l1.length : Int)) = false := decide_eq_false c15
    clear c15
    simp only [Option.some.injEq, Prod.mk.injEq] at H
    obtain ⟨rfl, rfl, rfl⟩ := H
    have hnb26 := NB675_666.out
    have hnc26 := NB666_675.out
    have hnb27 := NB675_667.out
    have hnc27 := NB667_675.out
    obtain ⟨hcz28_0, hcz28_1, hcz28_2, hfz28_0, hfz28_1, hfz28_2⟩ := ybc BK675.out
    have hnb29 := NB667_666.out
    have hnc29 := NB666_667.out
    obtain ⟨hcz30_0, hcz30_1, hcz30_2, hfz30_0, hfz30_1, hfz30_2⟩ := ybc BK667.out
    obtain ⟨Ao31, co31, eo31⟩ := Kd.R_slice HO_676001.out
    subst eo31
    go_wp2
    refine bodyPost_ret (results_cell_row rfl _ _ gb667 37 #[.int .i64 t668, .slice Ao31 x676001_1.length co31, .slice Ao14 t672.length co14] (0, 0) _ rfl (by (with_reducible repeat (first | refine ybn ?_ _ | refine ybd ?_ | refine yba ?_ _)); refine blk_put (cs := #[.int .i64 t668, .slice Ao31 x676001_1.length co31, .slice none 0 0]) ?_ 2 _ rfl; (with_reducible repeat (first | refine ybn ?_ _ | refine ybd ?_ | refine yba ?_ _)); refine blk_put (cs := #[.int .i64 t668, .slice none 0 0, .slice none 0 0]) ?_ 1 _ rfl; (with_reducible repeat (first | refine ybn ?_ _ | refine ybd ?_ | refine yba ?_ _)); refine blk_put (cs := #[.int .i64 0, .slice none 0 0, .slice none 0 0]) ?_ 0 _ rfl; (with_reducible repeat (first | refine ybn ?_ _ | refine ybd ?_ | refine yba ?_ _)); exact BK667.out) Try.underlying37 rfl (by kernel_rfl)) rfl ?_
    exact ⟨_, _, yer, by (with_reducible repeat (first | apply Kd.Ya | apply Kd.Yn | apply Kd.Yd)); exact Kd.R_mono (Kd.R_far (p := ⟨gb667, 2, none⟩) (Kd.R_far (p := ⟨gb667, 1, none⟩) (Kd.R_far (p := ⟨gb667, 0, none⟩) (Kd.R_types HO_676001.out BK667.out (by decide)) (fun _ hk => hk.2) (.int .i64 t668)) (fun _ hk => hk.2) (.slice Ao31 x676001_1.length co31)) (fun _ hk => hk.2) (.slice Ao14 t672.length co14)) (fun _ hk => trivial), by (with_reducible repeat (first | apply Kd.S_alloc | apply Kd.S_drewN | apply Kd.S_drew)); exact Kd.S_mono (Kd.S_far (p := ⟨gb667, 2, none⟩) (Kd.S_far (p := ⟨gb667, 1, none⟩) (Kd.S_far (p := ⟨gb667, 0, none⟩) (Kd.S_types HO_676002.out BK667.out (by decide)) (fun _ hk => hk.2) (.int .i64 t668)) (fun _ hk => hk.2) (.slice Ao31 x676001_1.length co31)) (fun _ hk => hk.2) (.slice Ao14 t672.length co14)) (fun _ hk => hk.1), yhb⟩

   rw [if_pos c15] at H
   have c15b0 : decide (x12_1 < (l1.length : Int)) = true := decide_eq_true c15
   clear c15
   by_cases c16 : 0 ≤ x12_1
   rotate_left
   ·rw [if_neg c16] at H
    exact absurd H (by simp)
   rw [if_pos c16] at H
   have c16b0 : decide (0 ≤ x12_1) = true := decide_eq_true c16
   clear c16
   by_cases c17 : x12_1 < (l1.length : Int)
   rotate_left
   ·rw [if_neg c17] at H
    exact absurd H (by simp)
   rw [if_pos c17] at H
   have c17b0 : decide (x12_1 < (l1.length : Int)) = true := decide_eq_true c17
   clear c17
   by_cases c18 : 0 ≤ (rd l1 x12_1)
   rotate_left
   ·rw [if_neg c18] at H
    exact absurd H (by simp)
   rw [if_pos c18] at H
   have c18b0 : decide (0 ≤ (rd l1 x12_1)) = true := decide_eq_true c18
   clear c18
   by_cases c19 : (rd l1 x12_1) < (x676001_1.length : Int)
   rotate_left
   ·rw [if_neg c19] at H
    exact absurd H (by simp)
   rw [if_pos c19] at H
   have c19b0 : decide ((rd l1 x12_1) < (x676001_1.length : Int)) = true := decide_eq_true c19
   clear c19
   obtain ⟨y677, hy677⟩ : ∃ y_ : List Int, y_ = (x676001_1.set ((rd l1 x12_1) : Int).toNat 0) := ⟨_, rfl⟩
   replace H : (impl_without.l0 k1 l1 (l1.length : Int) (wrap64 (x12_1 + 1)) t668 y677 t672) = some (r1, r2, r3) := by first | (rw [hy677]; with_reducible exact H) | (have H2_ := (Option.bind_some _ _).symm.trans H; rw [hy677]; with_reducible exact H2_) | (have H2_ := (Option.bind_some _ _).symm.trans H; with_reducible exact H2_) | with_reducible exact H | (rw [hy677]; exact H) | exact H
   have Ny677 := yam hy677
   clear hy677
   have H' := yam H
   clear H
   have p676 : 0 ≤ (x12_1 : Int) := of_decide_eq_true (by first | (with_reducible assumption) | assumption)
   have q676 : x12_1 < (l1.length : Int) := of_decide_eq_true (by first | (with_reducible assumption) | assumption)
   obtain ⟨ad676, e676, hx676_0⟩ := Kd.at_int HR1.out x12_1 p676 q676
   cases e676
   replace hx676_0 := ybx HB.out hx676_0
   replace p676 := eq_true p676
   replace q676 := eq_true q676
   have hnb21 := NB675_666.out
   have hnc21 := NB666_675.out
   have hnb22 := NB675_667.out
   have hnc22 := NB667_675.out
   obtain ⟨hcz23_0, hcz23_1, hcz23_2, hfz23_0, hfz23_1, hfz23_2⟩ := ybc BK675.out
   have p20 : 0 ≤ ((rd l1 x12_1) : Int) := of_decide_eq_true (by first | (with_reducible assumption) | assumption)
   have q20 : ((rd l1 x12_1) : Int) < ((x676001_1.length : Int) : Int) := of_decide_eq_true (by first | (with_reducible assumption) | assumption)
   obtain ⟨go20, co20, eo20, gb20, gl20, cl20, HG20⟩ := Kd.R_form HO_676001.out (by omega)
   (first | cases eo20 | (injection eo20 with ea_ en_ ec_; (first | subst ea_ | (injection ea_ with ea_; subst ea_)); subst ec_; clear en_))
   have GB20 := yam gb20
   have GG20 := yam HG20
   clear gb20 gl20 HG20
   obtain ⟨hx20_0, hf20_0⟩ := Kd.R_celln 0 HO_676001.out ((rd l1 x12_1) : Int) p20 q20
   replace p20 := eq_true p20
   replace q20 := eq_true q20
   have HP24 := Kd.R_putg HO_676001.out ((rd l1 x12_1) : Int) 0
   go_wp2_with (first | ((with_reducible refine gate_store (t := 3) (p := 19) rfl ?_); refine store_event (t := 3) (p := 19) (v := ?vo_w25) (w1 := (wr.setCell ⟨go20, ((rd l1 x12_1) : Int).toNat, none⟩ (.int .i64 0))) ?hg ?ho ?hn ?hr ?_; (case ho => rfl); (case hg => rfl); (case hn => rfl); (case hr => first | (go_simp; done) | (go_simp; rfl)); intro w25 hw; have hg : wr.grownBy w25 (some go20) := (by rw [hw]; exact HP24.2); have hp_ : Kd.R (Kd.int .i64) 3 w25 w.heap.size (fun _ => True) (.slice (some ⟨go20, 0, none⟩) x676001_1.length co20) y677 := (by rw [hw, Ny677.out]; exact HP24.1); clear HP24; have n0_ := yam (hp_); have n1_ := yam (Kd.S_after (v := (.slice (some ⟨go20, 0, none⟩) x676001_1.length co20)) (v1 := (.slice (some ⟨go20, 0, none⟩) x676001_1.length co20)) (ok := (fun _ => True)) (by (with_reducible repeat (first | apply Kd.S_alloc | apply Kd.S_drewN | apply Kd.S_drew)); exact Kd.S_mono HO_676002.out (fun _ hk => ⟨trivial, hk⟩)) hg (.inl rfl)); have n2_ := yam (blk_grown (g := gb666) (o := .cells #[.int .i64 a0_0, .slice A0_1 l0_1.length c0_1, .slice A0_2 l0_2.length c0_2] 37 (0, 0)) (ybz BK666.out) hg (Kd.R_ne HO_676001.out BK666.out (by decide))); have n3_ := yam (blk_grown (g := gb667) (o := .cells #[.int .i64 0, .slice none 0 0, .slice none 0 0] 37 (0, 0)) (ybz BK667.out) hg (Kd.R_ne HO_676001.out BK667.out (by decide))); have n4_ := yam (blk_grown (g := gb675) (o := .cells #[.int .i64 t668, .slice (some ⟨go20, 0, none⟩) x676001_1.length co20, .slice Ao14 t672.length co14] 37 (0, 0)) (ybz BK675.out) hg (Kd.R_ne HO_676001.out BK675.out (by decide))); have n5_ := yam ((by rw [hw]; exact below_set (HB.out) GB20.out : Below w.heap.size w w25)); clear HO_676001; clear HO_676002; clear BK666; clear BK667; clear BK675; clear HB; have HO_676001 := n0_; have HO_676002 := n1_; have BK666 := n2_; have BK667 := n3_; have BK675 := n4_; have HB := n5_; clear n0_ n1_ n2_ n3_ n4_ n5_; clear hg hw hp_))
   go_roundg k1
   case measure => have := HK1.out; omega
   case rel => exact ⟨(wrap64 (x12_1 + 1)), (y677), (.slice (some ⟨go20, 0, none⟩) x676001_1.length co20), yeq, H', ⟨by have := HK1.out; omega⟩, ⟨by (with_reducible repeat (first | apply Kd.Ya | apply Kd.Yn | apply Kd.Yd)); exact HO_676001.out⟩, ⟨by (with_reducible repeat (first | apply Kd.S_alloc | apply Kd.S_drewN | apply Kd.S_drew)); exact Kd.S_mono HO_676002.out (fun _ hk => hk.2)⟩, ⟨by (with_reducible repeat (first | refine ybn ?_ _ | refine ybd ?_ | refine yba ?_ _)); exact BK666.out⟩, ⟨by (with_reducible repeat (first | refine ybn ?_ _ | refine ybd ?_ | refine yba ?_ _)); exact BK667.out⟩, ⟨by (with_reducible repeat (first | refine ybn ?_ _ | refine ybd ?_ | refine yba ?_ _)); exact BK675.out⟩, ⟨yhb⟩⟩
/-! ### impl_IsRedundant: function 35 -/
def impl_IsRedundant.j0 : Nat → Int → Bool → Int → List Int → List (S73) → Option (Bool)
 | 0, _, _, _, _, _ => none
 | k + 1, x1, x26, x679000, x679001, x679002 => if x26 = true then (some false) else ((impl_without.f k x679000 x679001 x679002 (([x1] : List Int))).bind fun bt684 => ((impl_onlyOne.f k bt684.1 bt684.2.1 bt684.2.2).bind fun t691 => (some t691)))
def impl_IsRedundant.f (k : Nat) (a0_0 : Int) (l0_1 : List Int) (l0_2 : List (S73)) (a1 : Int) : Option (Bool) := (impl_onlyOne.f k a0_0 l0_1 l0_2).bind fun t679 => (if t679 = true then (if a1 < 0 then (impl_IsRedundant.j0 k a1 true a0_0 l0_1 l0_2) else (if a1 ≥ (l0_1.length : Int) then (impl_IsRedundant.j0 k a1 true a0_0 l0_1 l0_2) else (if 0 ≤ a1 then (if a1 < (l0_1.length : Int) then (impl_IsRedundant.j0 k a1 ((rd l0_1 a1) == 0) a0_0 l0_1 l0_2) else (none)) else (none)))) else (impl_IsRedundant.j0 k a1 true a0_0 l0_1 l0_2))
set_option maxHeartbeats 8000000 in
set_option maxRecDepth 100000 in
theorem impl_IsRedundant.calls (k : Nat) (a0_0 : Int) (A0_1 : Option Addr) (c0_1 : Nat) (l0_1 : List Int) (A0_2 : Option Addr) (c0_2 : Nat) (l0_2 : List (S73)) (a1 : Int) (r : Bool) (w : World) (hr0_1 : Kd.C (Kd.int .i64) w A0_1 l0_1.length l0_1) (hc0_1 : l0_1.length ≤ c0_1) (hr0_2 : Kd.C k73 w A0_2 l0_2.length l0_2) (hc0_2 : l0_2.length ≤ c0_2) (h : impl_IsRedundant.f k a0_0 l0_1 l0_2 a1 = some r) :
  Calls Try.prog 35 #[.agg #[.int .i64 a0_0, .slice A0_1 l0_1.length c0_1, .slice A0_2 l0_2.length c0_2], .int .i64 a1] w fun e w' => e = .returned (.bool r) ∧ Below w.heap.size w w' := by
 have hu37 := Try.underlying37
 have HR0_1 := yam hr0_1
 have HC0_1 := yam hc0_1
 clear hr0_1 hc0_1
 have HR0_2 := yam hr0_2
 have HC0_2 := yam hc0_2
 clear hr0_2 hc0_2
 have HB := yam (Below.refl w.heap.size w)
 have H : ((impl_onlyOne.f k a0_0 l0_1 l0_2).bind fun t679 => (if t679 = true then (if a1 < 0 then (impl_IsRedundant.j0 k a1 true a0_0 l0_1 l0_2) else (if a1 ≥ (l0_1.length : Int) then (impl_IsRedundant.j0 k a1 true a0_0 l0_1 l0_2) else (if 0 ≤ a1 then (if a1 < (l0_1.length : Int) then (impl_IsRedundant.j0 k a1 ((rd l0_1 a1) == 0) a0_0 l0_1 l0_2) else (none)) else (none)))) else (impl_IsRedundant.j0 k a1 true a0_0 l0_1 l0_2))) = some r := h
 clear h
 have HC3 := yam H
 clear H
 go_enter Try.func35, Try.ntmps35
 go_upto_region 1 with (first | ((with_reducible refine gate_dst (N := 2) rfl ?_); (try (refine gate_guard (by rfl) ?_; dsimp only)); refine box_event ?hg (N := 2) ?hd (cs := #[.int .i64 a0_0, .slice A0_1 l0_1.length c0_1, .slice A0_2 l0_2.length c0_2]) (t := 37) ?hr ?_; (case hd => rfl); (case hg => rfl); (case hr => first | (go_simp; done) | (go_simp; rfl)); intro gb678 hg w4 hbox hb; have n0_ := yam (below_step (yez HB.out) hb); have n1_ := yam (hbox); have n2_ := yam ((by rw [hg]; exact (below_size (yez HB.out)) : w.heap.size ≤ gb678)); have n3_ := n2_; clear HB; have HB := n0_; have BK678 := n1_; have GW678 := n2_; have GE678 := n3_; clear n0_ n1_ n2_ n3_; clear hb hbox hg))
 (try simp only [Act.put, yps])
 go_cut [26] (fun v26 wc => ∃ (kq : Nat) (x26_2 : Bool), v26 = .bool x26_2 ∧ Aside0 (impl_IsRedundant.j0 kq a1 x26_2 a0_0 l0_1 l0_2 = some r) ∧ Aside0 (kq ≤ k) ∧ Aside0 (wc.heap[gb678]? = some (.cells #[.int .i64 a0_0, (.slice A0_1 l0_1.length c0_1), (.slice A0_2 l0_2.length c0_2)] 37 (0, 0))) ∧ Aside0 (Below w.heap.size w wc))
 case first =>
  have H := HC3.out
  clear HC3
  replace H := Option.bind_eq_some_iff.mp H
  obtain ⟨t679, A50, H⟩ := H
  try dsimp only at H
  have A5 := yam A50
  clear A50
  by_cases c6 : t679 = true
  rotate_left
  ·replace c6 := Bool.eq_false_iff.mpr c6
   subst c6
   have H1 : (impl_IsRedundant.j0 k a1 true a0_0 l0_1 l0_2) = some r := by rw [if_neg (show ¬ (false = true) by decide)] at H; exact H
   clear H
   have H := H1
   clear H1
   have H' := yam H
   clear H
   obtain ⟨hcz19_0, hcz19_1, hcz19_2, hfz19_0, hfz19_1, hfz19_2⟩ := ybc BK678.out
   go_wp2_with (first | ((with_reducible refine gate_callee (f := 68) rfl ?_); refine goesL_ (some 6) rfl rfl Try.func68 (by kernel_rfl) rfl #[.agg #[.int .i64 a0_0, .slice A0_1 l0_1.length c0_1, .slice A0_2 l0_2.length c0_2]] rfl (by (try simp only [List.map_toArray, List.map_cons, List.map_nil]); first | done | rfl | (simp only [List.length_drop, List.length_take]; rfl)) ?_; (with_reducible refine (impl_onlyOne.calls k a0_0 _ _ l0_1 _ _ l0_2 false _ ?side1 ?side2 ?side3 ?side4 A5.out).mono ?_); (case side1 => exact Kd.Cz ((Kd.C_below HR0_1.out HB.out))); (case side2 => exact HC0_1.out); (case side3 => exact Kd.Cz ((Kd.C_below HR0_2.out HB.out))); (case side4 => exact HC0_2.out); rintro e w20 ⟨rfl, hb⟩; refine ⟨_, rfl, ?_⟩; have n0_ := yam (blk_below (g := gb678) (o := .cells #[.int .i64 a0_0, .slice A0_1 l0_1.length c0_1, .slice A0_2 l0_2.length c0_2] 37 (0, 0)) (ybz BK678.out) hb); have n1_ := yam (below_step yhb hb); clear BK678; clear HB; have BK678 := n0_; have HB := n1_; clear n0_ n1_; (try clear hb); (try clear hb2); (try clear hk); (try clear hi)))
   go_meet
   case rel => exact ⟨_, (true), yeq, H', ⟨by first | omega | exact Nat.le_refl _⟩, ⟨by (with_reducible repeat (first | refine ybn ?_ _ | refine ybd ?_ | refine yba ?_ _)); exact BK678.out⟩, ⟨yhb⟩⟩
  subst c6
  have H1 : (if a1 < 0 then (impl_IsRedundant.j0 k a1 true a0_0 l0_1 l0_2) else (if a1 ≥ (l0_1.length : Int) then (impl_IsRedundant.j0 k a1 true a0_0 l0_1 l0_2) else (if 0 ≤ a1 then (if a1 < (l0_1.length : Int) then (impl_IsRedundant.j0 k a1 ((rd l0_1 a1) == 0) a0_0 l0_1 l0_2) else (none)) else (none)))) = some r := by rw [if_pos rfl] at H; exact H
  clear H
  have H := H1
  clear H1
  by_cases c7 : a1 < 0
  ·rw [if_pos c7] at H
   have c7b0 : decide (a1 < 0) = true := decide_eq_true c7
   clear c7
   (first | rw [c7b0] | (simp only [i64_w, i32_w]; rw [c7b0]) | skip)
   have H' := yam H
   clear H
   obtain ⟨hcz8_0, hcz8_1, hcz8_2, hfz8_0, hfz8_1, hfz8_2⟩ := ybc BK678.out
   go_wp2_with (first | ((with_reducible refine gate_callee (f := 68) rfl ?_); refine goesL_ (some 6) rfl rfl Try.func68 (by kernel_rfl) rfl #[.agg #[.int .i64 a0_0, .slice A0_1 l0_1.length c0_1, .slice A0_2 l0_2.length c0_2]] rfl (by (try simp only [List.map_toArray, List.map_cons, List.map_nil]); first | done | rfl | (simp only [List.length_drop, List.length_take]; rfl)) ?_; (with_reducible refine (impl_onlyOne.calls k a0_0 _ _ l0_1 _ _ l0_2 true _ ?side1 ?side2 ?side3 ?side4 A5.out).mono ?_); (case side1 => exact Kd.Cz ((Kd.C_below HR0_1.out HB.out))); (case side2 => exact HC0_1.out); (case side3 => exact Kd.Cz ((Kd.C_below HR0_2.out HB.out))); (case side4 => exact HC0_2.out); rintro e w9 ⟨rfl, hb⟩; refine ⟨_, rfl, ?_⟩; have n0_ := yam (blk_below (g := gb678) (o := .cells #[.int .i64 a0_0, .slice A0_1 l0_1.length c0_1, .slice A0_2 l0_2.length c0_2] 37 (0, 0)) (ybz BK678.out) hb); have n1_ := yam (below_step yhb hb); clear BK678; clear HB; have BK678 := n0_; have HB := n1_; clear n0_ n1_; (try clear hb); (try clear hb2); (try clear hk); (try clear hi)))
   go_meet
   case rel => exact ⟨_, (true), yeq, H', ⟨by first | omega | exact Nat.le_refl _⟩, ⟨by (with_reducible repeat (first | refine ybn ?_ _ | refine ybd ?_ | refine yba ?_ _)); exact BK678.out⟩, ⟨yhb⟩⟩
  rw [if_neg c7] at H
  have c7b0 : decide (a1 < 0) = false := decide_eq_false c7
  clear c7
  (first | rw [c7b0] | (simp only [i64_w, i32_w]; rw [c7b0]) | skip)
  by_cases c10 : a1 ≥ (l0_1.length : Int)
  ·rw [if_pos c10] at H
   have c10b0 : decide ((l0_1.length : Int) ≤ a1) = true := decide_eq_true c10
   clear c10
   have H' := yam H
   clear H
   obtain ⟨hcz11_0, hcz11_1, hcz11_2, hfz11_0, hfz11_1, hfz11_2⟩ := ybc BK678.out
   go_wp2_with (first | ((with_reducible refine gate_callee (f := 68) rfl ?_); refine goesL_ (some 6) rfl rfl Try.func68 (by kernel_rfl) rfl #[.agg #[.int .i64 a0_0, .slice A0_1 l0_1.length c0_1, .slice A0_2 l0_2.length c0_2]] rfl (by (try simp only [List.map_toArray, List.map_cons, List.map_nil]); first | done | rfl | (simp only [List.length_drop, List.length_take]; rfl)) ?_; (with_reducible refine (impl_onlyOne.calls k a0_0 _ _ l0_1 _ _ l0_2 true _ ?side1 ?side2 ?side3 ?side4 A5.out).mono ?_); (case side1 => exact Kd.Cz ((Kd.C_below HR0_1.out HB.out))); (case side2 => exact HC0_1.out); (case side3 => exact Kd.Cz ((Kd.C_below HR0_2.out HB.out))); (case side4 => exact HC0_2.out); rintro e w12 ⟨rfl, hb⟩; refine ⟨_, rfl, ?_⟩; have n0_ := yam (blk_below (g := gb678) (o := .cells #[.int .i64 a0_0, .slice A0_1 l0_1.length c0_1, .slice A0_2 l0_2.length c0_2] 37 (0, 0)) (ybz BK678.out) hb); have n1_ := yam (below_step yhb hb); clear BK678; clear HB; have BK678 := n0_; have HB := n1_; clear n0_ n1_; (try clear hb); (try clear hb2); (try clear hk); (try clear hi); obtain ⟨hcz13_0, hcz13_1, hcz13_2, hfz13_0, hfz13_1, hfz13_2⟩ := ybc BK678.out))
   go_meet
   case rel => exact ⟨_, (true), yeq, H', ⟨by first | omega | exact Nat.le_refl _⟩, ⟨by (with_reducible repeat (first | refine ybn ?_ _ | refine ybd ?_ | refine yba ?_ _)); exact BK678.out⟩, ⟨yhb⟩⟩
  rw [if_neg c10] at H
  have c10b0 : decide ((l0_1.length : Int) ≤ a1) = false := decide_eq_false c10
  clear c10
  by_cases c14 : 0 ≤ a1
  rotate_left
  ·rw [if_neg c14] at H
   exact absurd H (by simp)
  rw [if_pos c14] at H
  have c14b0 : decide (0 ≤ a1) = true := decide_eq_true c14
  clear c14
  by_cases c15 : a1 < (l0_1.length : Int)
  rotate_left
  ·rw [if_neg c15] at H
   exact absurd H (by simp)
  rw [if_pos c15] at H
  have c15b0 : decide (a1 < (l0_1.length : Int)) = true := decide_eq_true c15
  clear c15
  have H' := yam H
  clear H
  obtain ⟨hcz16_0, hcz16_1, hcz16_2, hfz16_0, hfz16_1, hfz16_2⟩ := ybc BK678.out
  go_wp2_with (first | ((with_reducible refine gate_callee (f := 68) rfl ?_); refine goesL_ (some 6) rfl rfl Try.func68 (by kernel_rfl) rfl #[.agg #[.int .i64 a0_0, .slice A0_1 l0_1.length c0_1, .slice A0_2 l0_2.length c0_2]] rfl (by (try simp only [List.map_toArray, List.map_cons, List.map_nil]); first | done | rfl | (simp only [List.length_drop, List.length_take]; rfl)) ?_; (with_reducible refine (impl_onlyOne.calls k a0_0 _ _ l0_1 _ _ l0_2 true _ ?side1 ?side2 ?side3 ?side4 A5.out).mono ?_); (case side1 => exact Kd.Cz ((Kd.C_below HR0_1.out HB.out))); (case side2 => exact HC0_1.out); (case side3 => exact Kd.Cz ((Kd.C_below HR0_2.out HB.out))); (case side4 => exact HC0_2.out); rintro e w17 ⟨rfl, hb⟩; refine ⟨_, rfl, ?_⟩; have n0_ := yam (blk_below (g := gb678) (o := .cells #[.int .i64 a0_0, .slice A0_1 l0_1.length c0_1, .slice A0_2 l0_2.length c0_2] 37 (0, 0)) (ybz BK678.out) hb); have n1_ := yam (below_step yhb hb); clear BK678; clear HB; have BK678 := n0_; have HB := n1_; clear n0_ n1_; (try clear hb); (try clear hb2); (try clear hk); (try clear hi); obtain ⟨hcz18_0, hcz18_1, hcz18_2, hfz18_0, hfz18_1, hfz18_2⟩ := ybc BK678.out; have p680 : 0 ≤ (a1 : Int) := of_decide_eq_true (by first | (with_reducible assumption) | assumption); have q680 : a1 < (l0_1.length : Int) := of_decide_eq_true (by first | (with_reducible assumption) | assumption); obtain ⟨ad680, e680, hx680_0⟩ := Kd.at_int HR0_1.out a1 p680 q680; cases e680; replace hx680_0 := ybx HB.out hx680_0; replace p680 := eq_true p680; replace q680 := eq_true q680))
  go_meet
  case rel => exact ⟨_, (((rd l0_1 a1) == 0)), yeq, H', ⟨by first | omega | exact Nat.le_refl _⟩, ⟨by (with_reducible repeat (first | refine ybn ?_ _ | refine ybd ?_ | refine yba ?_ _)); exact BK678.out⟩, ⟨yhb⟩⟩
 case rest =>
  clear HC3
  try clear c1
  try clear p2
  try clear c3
  try clear c6
  try clear p6
  try clear q6
  try clear hx6
  try clear c7
  try clear c7b0
  try clear c10
  try clear c10b0
  try clear c14
  try clear c14b0
  try clear c15
  try clear c15b0
  try clear hcz11_0
  try clear hcz11_1
  try clear hcz11_2
  try clear hcz13_0
  try clear hcz13_1
  try clear hcz13_2
  try clear hcz16_0
  try clear hcz16_1
  try clear hcz16_2
  try clear hcz18_0
  try clear hcz18_1
  try clear hcz18_2
  try clear hcz19_0
  try clear hcz19_1
  try clear hcz19_2
  try clear hcz8_0
  try clear hcz8_1
  try clear hcz8_2
  try clear hfz11_0
  try clear hfz11_1
  try clear hfz11_2
  try clear hfz13_0
  try clear hfz13_1
  try clear hfz13_2
  try clear hfz16_0
  try clear hfz16_1
  try clear hfz16_2
  try clear hfz18_0
  try clear hfz18_1
  try clear hfz18_2
  try clear hfz19_0
  try clear hfz19_1
  try clear hfz19_2
  try clear hfz8_0
  try clear hfz8_1
  try clear hfz8_2
  try clear hx680_0
  try clear p680
  try clear q680
  obtain ⟨kq, x26_2, rfl, HA, HJ2, BK678, HB⟩ := hcut
  cases kq with
  | zero => exact absurd HA.out (by simp [impl_IsRedundant.j0])
  | succ kj2 =>
   have H := HA.out
   clear HA
   simp only [impl_IsRedundant.j0] at H
   by_cases c21 : x26_2 = true
   ·subst c21
    have H1 : (some false) = some r := by rw [if_pos rfl] at H; exact H
    clear H
    have H := H1
    clear H1
    obtain rfl := Option.some.inj H
    go_wp2
    go_ret
    exact ⟨yer, yhb⟩
   replace c21 := Bool.eq_false_iff.mpr c21
   subst c21
   have H1 : ((impl_without.f kj2 a0_0 l0_1 l0_2 (([a1] : List Int))).bind fun bt684 => ((impl_onlyOne.f kj2 bt684.1 bt684.2.1 bt684.2.2).bind fun t691 => (some t691))) = some r := by rw [if_neg (show ¬ (false = true) by decide)] at H; exact H
   clear H
   have H := H1
   clear H1
   obtain ⟨y681, hy681⟩ : ∃ y_ : List Int, y_ = (([a1] : List Int)) := ⟨_, rfl⟩
   replace H : ((impl_without.f kj2 a0_0 l0_1 l0_2 y681).bind fun bt684 => ((impl_onlyOne.f kj2 bt684.1 bt684.2.1 bt684.2.2).bind fun t691 => (some t691))) = some r := by first | (rw [hy681]; with_reducible exact H) | (have H2_ := (Option.bind_some _ _).symm.trans H; rw [hy681]; with_reducible exact H2_) | (have H2_ := (Option.bind_some _ _).symm.trans H; with_reducible exact H2_) | with_reducible exact H | (rw [hy681]; exact H) | exact H
   have Ny681 := yam hy681
   clear hy681
   replace H := Option.bind_eq_some_iff.mp H
   obtain ⟨⟨t684, t685, t688⟩, A220, H⟩ := H
   try dsimp only at H
   have A22 := yam A220
   clear A220
   replace H := Option.bind_eq_some_iff.mp H
   obtain ⟨t691, A230, H⟩ := H
   try dsimp only at H
   have A23 := yam A230
   clear A230
   obtain rfl := Option.some.inj H
   obtain ⟨hcz24_0, hcz24_1, hcz24_2, hfz24_0, hfz24_1, hfz24_2⟩ := ybc BK678.out
   go_wp2_with (first | ((with_reducible refine gate_dst (N := 29) rfl ?_); (try (refine gate_guard (by rfl) ?_; dsimp only)); refine Kd.R_lit (Kd.int .i64) _ 3 ?hg (N := 29) ?hd (xs := ([a1] : List Int)) (inner := [.int .i64 a1]) (ok := fun _ => True) (okp := fun _ => True) ?hr ?hp (fun _ hk => hk) trivial (Below.refl _ _) (Nat.le_refl _) (by simp) ?_; (case hd => rfl); (case hg => rfl); (case hr => first | (go_simp; done) | (go_simp; rfl)); (case hp => exact (Reps.one (show Kd.M (Kd.int .i64) _ _ _ a1 [.int .i64 a1] from rfl) (Reps.none _ _))); intro v682 w25 ho26 hb hg_ hnew_; clear hg_ hnew_; (first | rw [← Ny681.out] at ho26 | (simp only [Int.reduceToNat] at ho26; rw [← Ny681.out] at ho26)); have n0_ := yam (Kd.R_lower ho26 (below_size yhb)); have n1_ := yam (blk_below (g := gb678) (o := .cells #[.int .i64 a0_0, .slice A0_1 l0_1.length c0_1, .slice A0_2 l0_2.length c0_2] 37 (0, 0)) (ybz BK678.out) hb); have n2_ := yam (below_step yhb hb); clear BK678; clear HB; have HO683 := n0_; have BK678 := n1_; have HB := n2_; clear n0_ n1_ n2_; clear hb ho26; obtain ⟨Ao27, co27, eo27⟩ := Kd.R_slice HO683.out; subst eo27) | ((with_reducible refine gate_callee (f := 69) rfl ?_); refine goesL_ (some 30) rfl rfl Try.func69 (by kernel_rfl) rfl #[.agg #[.int .i64 a0_0, .slice A0_1 l0_1.length c0_1, .slice A0_2 l0_2.length c0_2], .slice Ao27 y681.length co27] rfl (by (try simp only [List.map_toArray, List.map_cons, List.map_nil]); first | done | rfl | (simp only [List.length_drop, List.length_take]; rfl)) ?_; (with_reducible refine (impl_without.calls kj2 a0_0 _ _ l0_1 _ _ l0_2 _ _ y681 t684 t685 t688 _ ?side1 ?side2 ?side3 ?side4 ?side5 ?side6 A22.out).mono ?_); (case side1 => exact Kd.Cz ((Kd.C_below HR0_1.out HB.out))); (case side2 => exact HC0_1.out); (case side3 => exact Kd.Cz ((Kd.C_below HR0_2.out HB.out))); (case side4 => exact HC0_2.out); (case side5 => repeat (first | exact (Kd.Yr HO683.out).2.2 | (with_reducible refine Kd.C_alloc ?_ _) | (with_reducible refine Kd.C_drewN ?_ _) | (with_reducible refine Kd.C_drew ?_))); (case side6 => exact (Kd.Yr HO683.out).2.1); rintro e w28 ⟨v686, v689, rfl, ho0, ho1, hb⟩; refine ⟨_, rfl, ?_⟩; have n0_ := yam (Kd.Ye (Kd.Yz HO683.out) (Kd.Yb ho0) hb); have n1_ := yam (Kd.R_lower (Kd.Yw ho0 (Kd.R_lt (Kd.Yz HO683.out))) (below_size yhb)); have n2_ := yam (Kd.S_lower (Kd.S_new' ho1 (Kd.R_lt (Kd.Yz HO683.out))) (below_size yhb)); have n3_ := yam (blk_below (g := gb678) (o := .cells #[.int .i64 a0_0, .slice A0_1 l0_1.length c0_1, .slice A0_2 l0_2.length c0_2] 37 (0, 0)) (ybz BK678.out) hb); have n4_ := yam (below_step yhb hb); clear HO683; clear BK678; clear HB; have HO683 := n0_; have HO687 := n1_; have HO690 := n2_; have BK678 := n3_; have HB := n4_; clear n0_ n1_ n2_ n3_ n4_; (try clear hb); (try clear hb2); (try clear hk); (try clear hi); (try clear ho0); (try clear ho1); obtain ⟨Ao29, co29, eo29⟩ := Kd.R_slice HO687.out; subst eo29; obtain ⟨Ao30, co30, eo30⟩ := Kd.S_slice HO690.out; subst eo30) | ((with_reducible refine gate_callee (f := 68) rfl ?_); refine goesL_ (some 31) rfl rfl Try.func68 (by kernel_rfl) rfl #[.agg #[.int .i64 t684, .slice Ao29 t685.length co29, .slice Ao30 t688.length co30]] rfl (by (try simp only [List.map_toArray, List.map_cons, List.map_nil]); first | done | rfl | (simp only [List.length_drop, List.length_take]; rfl)) ?_; (with_reducible refine (impl_onlyOne.calls kj2 t684 _ _ t685 _ _ t688 t691 _ ?side1 ?side2 ?side3 ?side4 A23.out).mono ?_); (case side1 => repeat (first | exact (Kd.Yr HO687.out).2.2 | (with_reducible refine Kd.C_alloc ?_ _) | (with_reducible refine Kd.C_drewN ?_ _) | (with_reducible refine Kd.C_drew ?_))); (case side2 => exact (Kd.Yr HO687.out).2.1); (case side3 => repeat (first | exact (Kd.S_reads' HO690.out).2.2 | (with_reducible refine Kd.C_alloc ?_ _) | (with_reducible refine Kd.C_drewN ?_ _) | (with_reducible refine Kd.C_drew ?_))); (case side4 => exact (Kd.S_reads' HO690.out).2.1); rintro e w31 ⟨rfl, hb⟩; refine ⟨_, rfl, ?_⟩; have n0_ := yam (Kd.R_below (Kd.Yz HO683.out) hb); have n1_ := yam (Kd.R_below (Kd.Yz HO687.out) hb); have n2_ := yam (Kd.S_below (by (with_reducible repeat (first | apply Kd.S_alloc | apply Kd.S_drewN | apply Kd.S_drew)); exact HO690.out) hb); have n3_ := yam (blk_below (g := gb678) (o := .cells #[.int .i64 a0_0, .slice A0_1 l0_1.length c0_1, .slice A0_2 l0_2.length c0_2] 37 (0, 0)) (ybz BK678.out) hb); have n4_ := yam (below_step yhb hb); clear HO683; clear HO687; clear HO690; clear BK678; clear HB; have HO683 := n0_; have HO687 := n1_; have HO690 := n2_; have BK678 := n3_; have HB := n4_; clear n0_ n1_ n2_ n3_ n4_; (try clear hb); (try clear hb2); (try clear hk); (try clear hi)))
   go_ret
   exact ⟨yer, yhb⟩
/-! ### impl_IsMinimal: function 39 -/
def impl_IsMinimal.l0 : Nat → Int → Int → Int → List Int → List (S73) → Option (Bool)
 | 0, _, _, _, _, _ => none
 | k + 1, x9, x10, x738000, x738001, x738002 => if x10 < x9 then ((impl_IsRedundant.f k x738000 x738001 x738002 x10).bind fun t739 => (if t739 = true then (some false) else (impl_IsMinimal.l0 k x9 (wrap64 (x10 + 1)) x738000 x738001 x738002))) else (some true)
def impl_IsMinimal.f (k : Nat) (a0_0 : Int) (l0_1 : List Int) (l0_2 : List (S73)) : Option (Bool) := (impl_onlyOne.f k a0_0 l0_1 l0_2).bind fun t738 => (if t738 = true then (impl_IsMinimal.l0 k (l0_1.length : Int) 0 a0_0 l0_1 l0_2) else (some false))
set_option maxHeartbeats 8000000 in
set_option maxRecDepth 100000 in
theorem impl_IsMinimal.calls (k : Nat) (a0_0 : Int) (A0_1 : Option Addr) (c0_1 : Nat) (l0_1 : List Int) (A0_2 : Option Addr) (c0_2 : Nat) (l0_2 : List (S73)) (r : Bool) (w : World) (hr0_1 : Kd.C (Kd.int .i64) w A0_1 l0_1.length l0_1) (hc0_1 : l0_1.length ≤ c0_1) (hr0_2 : Kd.C k73 w A0_2 l0_2.length l0_2) (hc0_2 : l0_2.length ≤ c0_2) (h : impl_IsMinimal.f k a0_0 l0_1 l0_2 = some r) :
  Calls Try.prog 39 #[.agg #[.int .i64 a0_0, .slice A0_1 l0_1.length c0_1, .slice A0_2 l0_2.length c0_2]] w fun e w' => e = .returned (.bool r) ∧ Below w.heap.size w w' := by
 have hu37 := Try.underlying37
 have HR0_1 := yam hr0_1
 have HC0_1 := yam hc0_1
 clear hr0_1 hc0_1
 have HR0_2 := yam hr0_2
 have HC0_2 := yam hc0_2
 clear hr0_2 hc0_2
 have HB := yam (Below.refl w.heap.size w)
 have H : ((impl_onlyOne.f k a0_0 l0_1 l0_2).bind fun t738 => (if t738 = true then (impl_IsMinimal.l0 k (l0_1.length : Int) 0 a0_0 l0_1 l0_2) else (some false))) = some r := h
 clear h
 replace H := Option.bind_eq_some_iff.mp H
 obtain ⟨t738, A20, H⟩ := H
 try dsimp only at H
 have A2 := yam A20
 clear A20
 by_cases c3 : t738 = true
 rotate_left
 ·replace c3 := Bool.eq_false_iff.mpr c3
  subst c3
  have H1 : (some false) = some r := by rw [if_neg (show ¬ (false = true) by decide)] at H; exact H
  clear H
  have H := H1
  clear H1
  obtain rfl := Option.some.inj H
  go_enter Try.func39, Try.ntmps39
  go_wp2_with (first | ((with_reducible refine gate_dst (N := 1) rfl ?_); refine box_event ?hg (N := 1) ?hd (cs := #[.int .i64 a0_0, .slice A0_1 l0_1.length c0_1, .slice A0_2 l0_2.length c0_2]) (t := 37) ?hr ?_; (case hd => rfl); (case hg => rfl); (case hr => first | (go_simp; done) | (go_simp; rfl)); intro gb737 hg w15 hbox hb; have n0_ := yam (below_step (yez HB.out) hb); have n1_ := yam (hbox); have n2_ := yam ((by rw [hg]; exact (below_size (yez HB.out)) : w.heap.size ≤ gb737)); have n3_ := n2_; clear HB; have HB := n0_; have BK737 := n1_; have GW737 := n2_; have GE737 := n3_; clear n0_ n1_ n2_ n3_; clear hb hbox hg; obtain ⟨hcz16_0, hcz16_1, hcz16_2, hfz16_0, hfz16_1, hfz16_2⟩ := ybc BK737.out) | ((with_reducible refine gate_callee (f := 68) rfl ?_); refine goesL_ (some 5) rfl rfl Try.func68 (by kernel_rfl) rfl #[.agg #[.int .i64 a0_0, .slice A0_1 l0_1.length c0_1, .slice A0_2 l0_2.length c0_2]] rfl (by (try simp only [List.map_toArray, List.map_cons, List.map_nil]); first | done | rfl | (simp only [List.length_drop, List.length_take]; rfl)) ?_; (with_reducible refine (impl_onlyOne.calls k a0_0 _ _ l0_1 _ _ l0_2 false _ ?side1 ?side2 ?side3 ?side4 A2.out).mono ?_); (case side1 => exact Kd.Cz ((Kd.C_below HR0_1.out HB.out))); (case side2 => exact HC0_1.out); (case side3 => exact Kd.Cz ((Kd.C_below HR0_2.out HB.out))); (case side4 => exact HC0_2.out); rintro e w17 ⟨rfl, hb⟩; refine ⟨_, rfl, ?_⟩; have n0_ := yam (blk_below (g := gb737) (o := .cells #[.int .i64 a0_0, .slice A0_1 l0_1.length c0_1, .slice A0_2 l0_2.length c0_2] 37 (0, 0)) (ybz BK737.out) hb); have n1_ := yam (below_step yhb hb); clear BK737; clear HB; have BK737 := n0_; have HB := n1_; clear n0_ n1_; (try clear hb); (try clear hb2); (try clear hk); (try clear hi)))
  go_ret
  exact ⟨yer, yhb⟩

 subst c3
 have H1 : (impl_IsMinimal.l0 k (l0_1.length : Int) 0 a0_0 l0_1 l0_2) = some r := by rw [if_pos rfl] at H; exact H
 clear H
 have H := H1
 clear H1
 have H' := yam H
 clear H
 go_enter Try.func39, Try.ntmps39
 go_wp2_with (first | ((with_reducible refine gate_dst (N := 1) rfl ?_); refine box_event ?hg (N := 1) ?hd (cs := #[.int .i64 a0_0, .slice A0_1 l0_1.length c0_1, .slice A0_2 l0_2.length c0_2]) (t := 37) ?hr ?_; (case hd => rfl); (case hg => rfl); (case hr => first | (go_simp; done) | (go_simp; rfl)); intro gb737 hg w4 hbox hb; have n0_ := yam (below_step (yez HB.out) hb); have n1_ := yam (hbox); have n2_ := yam ((by rw [hg]; exact (below_size (yez HB.out)) : w.heap.size ≤ gb737)); have n3_ := n2_; clear HB; have HB := n0_; have BK737 := n1_; have GW737 := n2_; have GE737 := n3_; clear n0_ n1_ n2_ n3_; clear hb hbox hg; obtain ⟨hcz5_0, hcz5_1, hcz5_2, hfz5_0, hfz5_1, hfz5_2⟩ := ybc BK737.out) | ((with_reducible refine gate_callee (f := 68) rfl ?_); refine goesL_ (some 5) rfl rfl Try.func68 (by kernel_rfl) rfl #[.agg #[.int .i64 a0_0, .slice A0_1 l0_1.length c0_1, .slice A0_2 l0_2.length c0_2]] rfl (by (try simp only [List.map_toArray, List.map_cons, List.map_nil]); first | done | rfl | (simp only [List.length_drop, List.length_take]; rfl)) ?_; (with_reducible refine (impl_onlyOne.calls k a0_0 _ _ l0_1 _ _ l0_2 true _ ?side1 ?side2 ?side3 ?side4 A2.out).mono ?_); (case side1 => exact Kd.Cz ((Kd.C_below HR0_1.out HB.out))); (case side2 => exact HC0_1.out); (case side3 => exact Kd.Cz ((Kd.C_below HR0_2.out HB.out))); (case side4 => exact HC0_2.out); rintro e w6 ⟨rfl, hb⟩; refine ⟨_, rfl, ?_⟩; have n0_ := yam (blk_below (g := gb737) (o := .cells #[.int .i64 a0_0, .slice A0_1 l0_1.length c0_1, .slice A0_2 l0_2.length c0_2] 37 (0, 0)) (ybz BK737.out) hb); have n1_ := yam (below_step yhb hb); clear BK737; clear HB; have BK737 := n0_; have HB := n1_; clear n0_ n1_; (try clear hb); (try clear hb2); (try clear hk); (try clear hi); obtain ⟨hcz7_0, hcz7_1, hcz7_2, hfz7_0, hfz7_1, hfz7_2⟩ := ybc BK737.out))
 go_loopg [10] k (fun kq v10 w' => ∃ (x10_1 : Int), v10 = .int .i64 x10_1 ∧ Aside0 (impl_IsMinimal.l0 kq (l0_1.length : Int) x10_1 a0_0 l0_1 l0_2 = some r) ∧ Aside0 (kq ≤ k) ∧ Aside0 (w'.heap[gb737]? = some (.cells #[.int .i64 a0_0, (.slice A0_1 l0_1.length c0_1), (.slice A0_2 l0_2.length c0_2)] 37 (0, 0))) ∧ Aside0 (Below w.heap.size w w'))
 case atStart => exact ⟨(0), yeq, H', ⟨Nat.le_refl _⟩, ⟨by (with_reducible repeat (first | refine ybn ?_ _ | refine ybd ?_ | refine yba ?_ _)); exact BK737.out⟩, ⟨yhb⟩⟩
 case round =>
  clear H'
  try clear p2
  try clear c3
  try clear c6
  try clear hcz5_0
  try clear hcz5_1
  try clear hcz5_2
  try clear hcz7_0
  try clear hcz7_1
  try clear hcz7_2
  try clear hfz5_0
  try clear hfz5_1
  try clear hfz5_2
  try clear hfz7_0
  try clear hfz7_1
  try clear hfz7_2
  obtain ⟨x10_1, rfl, HA, HK1, BK737, HB⟩ := hrel
  cases gk with
  | zero => exact absurd HA.out (by simp [impl_IsMinimal.l0])
  | succ k1 =>
   have H := HA.out
   clear HA
   simp only [impl_IsMinimal.l0] at H
   by_cases c8 : x10_1 < (l0_1.length : Int)
   rotate_left
   ·rw [if_neg c8] at H
    have c8b0 : decide (x10_1 < (l0_1.length : Int)) = false := decide_eq_false c8
    clear c8
    obtain rfl := Option.some.inj H
    go_wp2
    go_ret
    exact ⟨yer, yhb⟩
   rw [if_pos c8] at H
   have c8b0 : decide (x10_1 < (l0_1.length : Int)) = true := decide_eq_true c8
   clear c8
   replace H := Option.bind_eq_some_iff.mp H
   obtain ⟨t739, A90, H⟩ := H
   try dsimp only at H
   have A9 := yam A90
   clear A90
   by_cases c10 : t739 = true
   ·subst c10
    have H1 : (some false) = some r := by rw [if_pos rfl] at H; exact H
    clear H
    have H := H1
    clear H1
    obtain rfl := Option.some.inj H
    obtain ⟨hcz11_0, hcz11_1, hcz11_2, hfz11_0, hfz11_1, hfz11_2⟩ := ybc BK737.out
    go_wp2_with (first | ((with_reducible refine gate_callee (f := 35) rfl ?_); refine goesL_ (some 15) rfl rfl Try.func35 (by kernel_rfl) rfl #[.agg #[.int .i64 a0_0, .slice A0_1 l0_1.length c0_1, .slice A0_2 l0_2.length c0_2], .int .i64 x10_1] rfl (by (try simp only [List.map_toArray, List.map_cons, List.map_nil]); first | done | rfl | (simp only [List.length_drop, List.length_take]; rfl)) ?_; (with_reducible refine (impl_IsRedundant.calls k1 a0_0 _ _ l0_1 _ _ l0_2 x10_1 true _ ?side1 ?side2 ?side3 ?side4 A9.out).mono ?_); (case side1 => exact Kd.Cz ((Kd.C_below HR0_1.out HB.out))); (case side2 => exact HC0_1.out); (case side3 => exact Kd.Cz ((Kd.C_below HR0_2.out HB.out))); (case side4 => exact HC0_2.out); rintro e w12 ⟨rfl, hb⟩; refine ⟨_, rfl, ?_⟩; have n0_ := yam (blk_below (g := gb737) (o := .cells #[.int .i64 a0_0, .slice A0_1 l0_1.length c0_1, .slice A0_2 l0_2.length c0_2] 37 (0, 0)) (ybz BK737.out) hb); have n1_ := yam (below_step yhb hb); clear BK737; clear HB; have BK737 := n0_; have HB := n1_; clear n0_ n1_; (try clear hb); (try clear hb2); (try clear hk); (try clear hi)))
    go_ret
    exact ⟨yer, yhb⟩
   replace c10 := Bool.eq_false_iff.mpr c10
   subst c10
   have H1 : (impl_IsMinimal.l0 k1 (l0_1.length : Int) (wrap64 (x10_1 + 1)) a0_0 l0_1 l0_2) = some r := by rw [if_neg (show ¬ (false = true) by decide)] at H; exact H
   clear H
   have H := H1
   clear H1
   have H' := yam H
   clear H
   obtain ⟨hcz13_0, hcz13_1, hcz13_2, hfz13_0, hfz13_1, hfz13_2⟩ := ybc BK737.out
   go_wp2_with (first | ((with_reducible refine gate_callee (f := 35) rfl ?_); refine goesL_ (some 15) rfl rfl Try.func35 (by kernel_rfl) rfl #[.agg #[.int .i64 a0_0, .slice A0_1 l0_1.length c0_1, .slice A0_2 l0_2.length c0_2], .int .i64 x10_1] rfl (by (try simp only [List.map_toArray, List.map_cons, List.map_nil]); first | done | rfl | (simp only [List.length_drop, List.length_take]; rfl)) ?_; (with_reducible refine (impl_IsRedundant.calls k1 a0_0 _ _ l0_1 _ _ l0_2 x10_1 false _ ?side1 ?side2 ?side3 ?side4 A9.out).mono ?_); (case side1 => exact Kd.Cz ((Kd.C_below HR0_1.out HB.out))); (case side2 => exact HC0_1.out); (case side3 => exact Kd.Cz ((Kd.C_below HR0_2.out HB.out))); (case side4 => exact HC0_2.out); rintro e w14 ⟨rfl, hb⟩; refine ⟨_, rfl, ?_⟩; have n0_ := yam (blk_below (g := gb737) (o := .cells #[.int .i64 a0_0, .slice A0_1 l0_1.length c0_1, .slice A0_2 l0_2.length c0_2] 37 (0, 0)) (ybz BK737.out) hb); have n1_ := yam (below_step yhb hb); clear BK737; clear HB; have BK737 := n0_; have HB := n1_; clear n0_ n1_; (try clear hb); (try clear hb2); (try clear hk); (try clear hi)))
   go_roundg k1
   case measure => have := HK1.out; omega
   case rel => exact ⟨(wrap64 (x10_1 + 1)), yeq, H', ⟨by have := HK1.out; omega⟩, ⟨by (with_reducible repeat (first | refine ybn ?_ _ | refine ybd ?_ | refine yba ?_ _)); exact BK737.out⟩, ⟨yhb⟩⟩
/-! ### laws_FnExactIsMinimal: function 9 -/
def laws_FnExactIsMinimal.f (k : Nat) (a0_0 : Int) (l0_1 : List Int) (l0_2 : List (S70)) : Option (Bool) := (laws_szPuzzle.f k a0_0 l0_1 l0_2 1048576).bind fun t741 => (if t741 < 0 then (some true) else ((laws_toPuzzle.f k a0_0 l0_1 l0_2).bind fun bt742 => ((spec_IsMinimal.f k bt742.1 bt742.2.1 bt742.2.2).bind fun t749 => ((laws_toPuzzle.f k a0_0 l0_1 l0_2).bind fun bt750 => ((impl_IsMinimal.f k bt750.1 bt750.2.1 bt750.2.2).bind fun t758 => (if (t758 != t749) = true then (some false) else ((laws_toPuzzle.f k a0_0 l0_1 l0_2).bind fun bt759 => ((laws_eqPuzzle.f k bt750.1 bt750.2.1 bt750.2.2 bt759.1 bt759.2.1 bt759.2.2).bind fun t766 => (if t766 = true then (some true) else (some false))))))))))
set_option maxHeartbeats 8000000 in
set_option maxRecDepth 100000 in
theorem laws_FnExactIsMinimal.calls (k : Nat) (a0_0 : Int) (A0_1 : Option Addr) (c0_1 : Nat) (l0_1 : List Int) (A0_2 : Option Addr) (c0_2 : Nat) (l0_2 : List (S70)) (r : Bool) (w : World) (hr0_1 : Kd.C (Kd.int .i64) w A0_1 l0_1.length l0_1) (hc0_1 : l0_1.length ≤ c0_1) (hr0_2 : Kd.C k70 w A0_2 l0_2.length l0_2) (hc0_2 : l0_2.length ≤ c0_2) (h : laws_FnExactIsMinimal.f k a0_0 l0_1 l0_2 = some r) :
  Calls Try.prog 9 #[.agg #[.int .i64 a0_0, .slice A0_1 l0_1.length c0_1, .slice A0_2 l0_2.length c0_2]] w fun e w' => e = .returned (.bool r) ∧ Below w.heap.size w w' := by
 have hu48 := Try.underlying48
 have hu37 := Try.underlying37
 have HR0_1 := yam hr0_1
 have HC0_1 := yam hc0_1
 clear hr0_1 hc0_1
 have HR0_2 := yam hr0_2
 have HC0_2 := yam hc0_2
 clear hr0_2 hc0_2
 have HB := yam (Below.refl w.heap.size w)
 have H : ((laws_szPuzzle.f k a0_0 l0_1 l0_2 1048576).bind fun t741 => (if t741 < 0 then (some true) else ((laws_toPuzzle.f k a0_0 l0_1 l0_2).bind fun bt742 => ((spec_IsMinimal.f k bt742.1 bt742.2.1 bt742.2.2).bind fun t749 => ((laws_toPuzzle.f k a0_0 l0_1 l0_2).bind fun bt750 => ((impl_IsMinimal.f k bt750.1 bt750.2.1 bt750.2.2).bind fun t758 => (if (t758 != t749) = true then (some false) else ((laws_toPuzzle.f k a0_0 l0_1 l0_2).bind fun bt759 => ((laws_eqPuzzle.f k bt750.1 bt750.2.1 bt750.2.2 bt759.1 bt759.2.1 bt759.2.2).bind fun t766 => (if t766 = true then (some true) else (some false))))))))))) = some r := h
 clear h
 replace H := Option.bind_eq_some_iff.mp H
 obtain ⟨t741, A20, H⟩ := H
 try dsimp only at H
 have A2 := yam A20
 clear A20
 by_cases c3 : t741 < 0
 ·rw [if_pos c3] at H
  have c3b0 : decide (t741 < 0) = true := decide_eq_true c3
  clear c3
  obtain rfl := Option.some.inj H
  go_enter Try.func9, Try.ntmps9
  go_wp2_with (first | ((with_reducible refine gate_dst (N := 1) rfl ?_); refine box_event ?hg (N := 1) ?hd (cs := #[.int .i64 a0_0, .slice A0_1 l0_1.length c0_1, .slice A0_2 l0_2.length c0_2]) (t := 48) ?hr ?_; (case hd => rfl); (case hg => rfl); (case hr => first | (go_simp; done) | (go_simp; rfl)); intro gb740 hg w4 hbox hb; have n0_ := yam (below_step (yez HB.out) hb); have n1_ := yam (hbox); have n2_ := yam ((by rw [hg]; exact (below_size (yez HB.out)) : w.heap.size ≤ gb740)); have n3_ := n2_; clear HB; have HB := n0_; have BK740 := n1_; have GW740 := n2_; have GE740 := n3_; clear n0_ n1_ n2_ n3_; clear hb hbox hg; obtain ⟨hcz5_0, hcz5_1, hcz5_2, hfz5_0, hfz5_1, hfz5_2⟩ := ybc BK740.out) | ((with_reducible refine gate_callee (f := 30) rfl ?_); refine goesL_ (some 9) rfl rfl Try.func30 (by kernel_rfl) rfl #[.agg #[.int .i64 a0_0, .slice A0_1 l0_1.length c0_1, .slice A0_2 l0_2.length c0_2], .int .i64 1048576] rfl (by (try simp only [List.map_toArray, List.map_cons, List.map_nil]); first | done | rfl | (simp only [List.length_drop, List.length_take]; rfl)) ?_; (with_reducible refine (laws_szPuzzle.calls k a0_0 _ _ l0_1 _ _ l0_2 1048576 t741 _ ?side1 ?side2 ?side3 ?side4 A2.out).mono ?_); (case side1 => exact Kd.Cz ((Kd.C_below HR0_1.out HB.out))); (case side2 => exact HC0_1.out); (case side3 => exact Kd.Cz ((Kd.C_below HR0_2.out HB.out))); (case side4 => exact HC0_2.out); rintro e w6 ⟨rfl, hb⟩; refine ⟨_, rfl, ?_⟩; have n0_ := yam (blk_below (g := gb740) (o := .cells #[.int .i64 a0_0, .slice A0_1 l0_1.length c0_1, .slice A0_2 l0_2.length c0_2] 48 (0, 0)) (ybz BK740.out) hb); have n1_ := yam (below_step yhb hb); clear BK740; clear HB; have BK740 := n0_; have HB := n1_; clear n0_ n1_; (try clear hb); (try clear hb2); (try clear hk); (try clear hi)))
  go_ret
  exact ⟨yer, yhb⟩
 rw [if_neg c3] at H
 have c3b0 : decide (t741 < 0) = false := decide_eq_false c3
 clear c3
 replace H := Option.bind_eq_some_iff.mp H
 obtain ⟨⟨t742, t743, t746⟩, A70, H⟩ := H
 try dsimp only at H
 have A7 := yam A70
 clear A70
 replace H := Option.bind_eq_some_iff.mp H
 obtain ⟨t749, A80, H⟩ := H
 try dsimp only at H
 have A8 := yam A80
 clear A80
 replace H := Option.bind_eq_some_iff.mp H
 obtain ⟨⟨t750, t751, t754⟩, A90, H⟩ := H
 try dsimp only at H
 have A9 := yam A90
 clear A90
 replace H := Option.bind_eq_some_iff.mp H
 obtain ⟨t758, A100, H⟩ := H
 try dsimp only at H
 have A10 := yam A100
 clear A100
 by_cases c11 : (t758 != t749) = true
 ·rw [if_pos c11] at H
  have c11b0 : (t758 != t749) = true := c11
  (try (have c11b1 : decide (t758 = t749) = false := by simpa using c11))
  (try (have c11b2 : (t758 == t749) = false := by simpa using c11))
  (try (have c11b3 : ¬ (t758 = t749) := by simpa using c11))
  clear c11
  obtain rfl := Option.some.inj H
  go_enter Try.func9, Try.ntmps9
  go_wp2_with (first | ((with_reducible refine gate_dst (N := 1) rfl ?_); refine box_event ?hg (N := 1) ?hd (cs := #[.int .i64 a0_0, .slice A0_1 l0_1.length c0_1, .slice A0_2 l0_2.length c0_2]) (t := 48) ?hr ?_; (case hd => rfl); (case hg => rfl); (case hr => first | (go_simp; done) | (go_simp; rfl)); intro gb740 hg w12 hbox hb; have n0_ := yam (below_step (yez HB.out) hb); have n1_ := yam (hbox); have n2_ := yam ((by rw [hg]; exact (below_size (yez HB.out)) : w.heap.size ≤ gb740)); have n3_ := n2_; clear HB; have HB := n0_; have BK740 := n1_; have GW740 := n2_; have GE740 := n3_; clear n0_ n1_ n2_ n3_; clear hb hbox hg; obtain ⟨hcz13_0, hcz13_1, hcz13_2, hfz13_0, hfz13_1, hfz13_2⟩ := ybc BK740.out) | ((with_reducible refine gate_callee (f := 30) rfl ?_); refine goesL_ (some 9) rfl rfl Try.func30 (by kernel_rfl) rfl #[.agg #[.int .i64 a0_0, .slice A0_1 l0_1.length c0_1, .slice A0_2 l0_2.length c0_2], .int .i64 1048576] rfl (by (try simp only [List.map_toArray, List.map_cons, List.map_nil]); first | done | rfl | (simp only [List.length_drop, List.length_take]; rfl)) ?_; (with_reducible refine (laws_szPuzzle.calls k a0_0 _ _ l0_1 _ _ l0_2 1048576 t741 _ ?side1 ?side2 ?side3 ?side4 A2.out).mono ?_); (case side1 => exact Kd.Cz ((Kd.C_below HR0_1.out HB.out))); (case side2 => exact HC0_1.out); (case side3 => exact Kd.Cz ((Kd.C_below HR0_2.out HB.out))); (case side4 => exact HC0_2.out); rintro e w14 ⟨rfl, hb⟩; refine ⟨_, rfl, ?_⟩; have n0_ := yam (blk_below (g := gb740) (o := .cells #[.int .i64 a0_0, .slice A0_1 l0_1.length c0_1, .slice A0_2 l0_2.length c0_2] 48 (0, 0)) (ybz BK740.out) hb); have n1_ := yam (below_step yhb hb); clear BK740; clear HB; have BK740 := n0_; have HB := n1_; clear n0_ n1_; (try clear hb); (try clear hb2); (try clear hk); (try clear hi); obtain ⟨hcz15_0, hcz15_1, hcz15_2, hfz15_0, hfz15_1, hfz15_2⟩ := ybc BK740.out) | ((with_reducible refine gate_callee (f := 32) rfl ?_); refine goesL_ (some 13) rfl rfl Try.func32 (by kernel_rfl) rfl #[.agg #[.int .i64 a0_0, .slice A0_1 l0_1.length c0_1, .slice A0_2 l0_2.length c0_2]] rfl (by (try simp only [List.map_toArray, List.map_cons, List.map_nil]); first | done | rfl | (simp only [List.length_drop, List.length_take]; rfl)) ?_; (with_reducible refine (laws_toPuzzle.calls k a0_0 _ _ l0_1 _ _ l0_2 t742 t743 t746 _ ?side1 ?side2 ?side3 ?side4 A7.out).mono ?_); (case side1 => exact Kd.Cz ((Kd.C_below HR0_1.out HB.out))); (case side2 => exact HC0_1.out); (case side3 => exact Kd.Cz ((Kd.C_below HR0_2.out HB.out))); (case side4 => exact HC0_2.out); rintro e w16 ⟨v744, v747, rfl, ho0, ho1, hb⟩; refine ⟨_, rfl, ?_⟩; have n0_ := yam (Kd.R_lower ho0 (below_size yhb)); have n1_ := yam (Kd.S_lower ho1 (below_size yhb)); have n2_ := yam (blk_below (g := gb740) (o := .cells #[.int .i64 a0_0, .slice A0_1 l0_1.length c0_1, .slice A0_2 l0_2.length c0_2] 48 (0, 0)) (ybz BK740.out) hb); have n3_ := yam (below_step yhb hb); clear BK740; clear HB; have HO745 := n0_; have HO748 := n1_; have BK740 := n2_; have HB := n3_; clear n0_ n1_ n2_ n3_; (try clear hb); (try clear hb2); (try clear hk); (try clear hi); (try clear ho0); (try clear ho1); obtain ⟨Ao17, co17, eo17⟩ := Kd.R_slice HO745.out; subst eo17; obtain ⟨Ao18, co18, eo18⟩ := Kd.S_slice HO748.out; subst eo18) | ((with_reducible refine gate_callee (f := 38) rfl ?_); refine goesL_ (some 14) rfl rfl Try.func38 (by kernel_rfl) rfl #[.agg #[.int .i64 t742, .slice Ao17 t743.length co17, .slice Ao18 t746.length co18]] rfl (by (try simp only [List.map_toArray, List.map_cons, List.map_nil]); first | done | rfl | (simp only [List.length_drop, List.length_take]; rfl)) ?_; (with_reducible refine (spec_IsMinimal.calls k t742 _ _ t743 _ _ t746 t749 _ ?side1 ?side2 ?side3 ?side4 A8.out).mono ?_); (case side1 => repeat (first | exact (Kd.Yr HO745.out).2.2 | (with_reducible refine Kd.C_alloc ?_ _) | (with_reducible refine Kd.C_drewN ?_ _) | (with_reducible refine Kd.C_drew ?_))); (case side2 => exact (Kd.Yr HO745.out).2.1); (case side3 => repeat (first | exact (Kd.S_reads' HO748.out).2.2 | (with_reducible refine Kd.C_alloc ?_ _) | (with_reducible refine Kd.C_drewN ?_ _) | (with_reducible refine Kd.C_drew ?_))); (case side4 => exact (Kd.S_reads' HO748.out).2.1); rintro e w19 ⟨rfl, hb⟩; refine ⟨_, rfl, ?_⟩; have n0_ := yam (Kd.R_below (Kd.Yz HO745.out) hb); have n1_ := yam (Kd.S_below (by (with_reducible repeat (first | apply Kd.S_alloc | apply Kd.S_drewN | apply Kd.S_drew)); exact HO748.out) hb); have n2_ := yam (blk_below (g := gb740) (o := .cells #[.int .i64 a0_0, .slice A0_1 l0_1.length c0_1, .slice A0_2 l0_2.length c0_2] 48 (0, 0)) (ybz BK740.out) hb); have n3_ := yam (below_step yhb hb); clear HO745; clear HO748; clear BK740; clear HB; have HO745 := n0_; have HO748 := n1_; have BK740 := n2_; have HB := n3_; clear n0_ n1_ n2_ n3_; (try clear hb); (try clear hb2); (try clear hk); (try clear hi); obtain ⟨hcz20_0, hcz20_1, hcz20_2, hfz20_0, hfz20_1, hfz20_2⟩ := ybc BK740.out) | ((with_reducible refine gate_callee (f := 32) rfl ?_); refine goesL_ (some 16) rfl rfl Try.func32 (by kernel_rfl) rfl #[.agg #[.int .i64 a0_0, .slice A0_1 l0_1.length c0_1, .slice A0_2 l0_2.length c0_2]] rfl (by (try simp only [List.map_toArray, List.map_cons, List.map_nil]); first | done | rfl | (simp only [List.length_drop, List.length_take]; rfl)) ?_; (with_reducible refine (laws_toPuzzle.calls k a0_0 _ _ l0_1 _ _ l0_2 t750 t751 t754 _ ?side1 ?side2 ?side3 ?side4 A9.out).mono ?_); (case side1 => exact Kd.Cz ((Kd.C_below HR0_1.out HB.out))); (case side2 => exact HC0_1.out); (case side3 => exact Kd.Cz ((Kd.C_below HR0_2.out HB.out))); (case side4 => exact HC0_2.out); rintro e w21 ⟨v752, v755, rfl, ho0, ho1, hb⟩; refine ⟨_, rfl, ?_⟩; have n0_ := yam (Kd.Ye (Kd.Yz HO745.out) (Kd.Yb ho0) hb); have n1_ := yam (Kd.S_mono (Kd.S_told (Kd.S_told (Kd.S_old (by (with_reducible repeat (first | apply Kd.S_alloc | apply Kd.S_drewN | apply Kd.S_drew)); exact HO748.out) hb) (Kd.Yb ho0)) (Kd.S_base ho1)) (fun _ h_ => h_.1)); have n2_ := yam (Kd.R_lower (Kd.Yw ho0 (Kd.R_lt (Kd.Yz HO745.out))) (below_size yhb)); have n3_ := yam (Kd.S_lower (Kd.S_new' (Kd.S_new' ho1 (Kd.R_lt (Kd.Yz HO745.out))) (Kd.S_lt (by (with_reducible repeat (first | apply Kd.S_alloc | apply Kd.S_drewN | apply Kd.S_drew)); exact HO748.out))) (below_size yhb)); have n4_ := yam (blk_below (g := gb740) (o := .cells #[.int .i64 a0_0, .slice A0_1 l0_1.length c0_1, .slice A0_2 l0_2.length c0_2] 48 (0, 0)) (ybz BK740.out) hb); have n5_ := yam (below_step yhb hb); clear HO745; clear HO748; clear BK740; clear HB; have HO745 := n0_; have HO748 := n1_; have HO753 := n2_; have HO756 := n3_; have BK740 := n4_; have HB := n5_; clear n0_ n1_ n2_ n3_ n4_ n5_; (try clear hb); (try clear hb2); (try clear hk); (try clear hi); (try clear ho0); (try clear ho1)) | ((with_reducible refine gate_dst (N := 5) rfl ?_); refine box_event ?hg (N := 5) ?hd (cs := #[.int .i64 0, .slice none 0 0, .slice none 0 0]) (t := 37) ?hr ?_; (case hd => rfl); (case hg => rfl); (case hr => first | (go_simp; done) | (go_simp; rfl)); intro gb757 hg w22 hbox hb; have n0_ := yam (Kd.R_below (Kd.Yz HO745.out) hb); have n1_ := yam (Kd.S_below (by (with_reducible repeat (first | apply Kd.S_alloc | apply Kd.S_drewN | apply Kd.S_drew)); exact HO748.out) hb); have n2_ := yam (Kd.R_below (Kd.Yz HO753.out) hb); have n3_ := yam (Kd.S_below (by (with_reducible repeat (first | apply Kd.S_alloc | apply Kd.S_drewN | apply Kd.S_drew)); exact HO756.out) hb); have n4_ := yam (blk_below (g := gb740) (o := .cells #[.int .i64 a0_0, .slice A0_1 l0_1.length c0_1, .slice A0_2 l0_2.length c0_2] 48 (0, 0)) (ybz BK740.out) hb); have n5_ := yam (below_step yhb hb); have n6_ := yam (hbox); have n7_ := yam ((by rw [hg]; exact (below_size yhb) : w.heap.size ≤ gb757)); have n8_ := n7_; have n9_ := yam ((by rw [hg]; exact Nat.ne_of_lt (blk_lt (g := gb740) (o := .cells #[.int .i64 a0_0, .slice A0_1 l0_1.length c0_1, .slice A0_2 l0_2.length c0_2] 48 (0, 0)) (ybz BK740.out)) : gb740 ≠ gb757)); have n10_ := yam ((by rw [hg]; exact Nat.ne_of_gt (blk_lt (g := gb740) (o := .cells #[.int .i64 a0_0, .slice A0_1 l0_1.length c0_1, .slice A0_2 l0_2.length c0_2] 48 (0, 0)) (ybz BK740.out)) : gb757 ≠ gb740)); clear HO745; clear HO748; clear HO753; clear HO756; clear BK740; clear HB; have HO745 := n0_; have HO748 := n1_; have HO753 := n2_; have HO756 := n3_; have BK740 := n4_; have HB := n5_; have BK757 := n6_; have GW757 := n7_; have GE757 := n8_; have NB740_757 := n9_; have NB757_740 := n10_; clear n0_ n1_ n2_ n3_ n4_ n5_ n6_ n7_ n8_ n9_ n10_; clear hb hbox hg; have hnb23 := NB757_740.out; have hnc23 := NB740_757.out; obtain ⟨hcz24_0, hcz24_1, hcz24_2, hfz24_0, hfz24_1, hfz24_2⟩ := ybc BK757.out; obtain ⟨Ao25, co25, eo25⟩ := Kd.R_slice HO753.out; subst eo25; obtain ⟨Ao26, co26, eo26⟩ := Kd.S_slice HO756.out; subst eo26) | ((with_reducible refine gate_callee (f := 39) rfl ?_); refine goesL_ (some 18) rfl rfl Try.func39 (by kernel_rfl) rfl #[.agg #[.int .i64 t750, .slice Ao25 t751.length co25, .slice Ao26 t754.length co26]] rfl (by (try simp only [List.map_toArray, List.map_cons, List.map_nil]); first | done | rfl | (simp only [List.length_drop, List.length_take]; rfl)) ?_; (with_reducible refine (impl_IsMinimal.calls k t750 _ _ t751 _ _ t754 t758 _ ?side1 ?side2 ?side3 ?side4 A10.out).mono ?_); (case side1 => refine (Kd.Yr (e := 3) (base := w.heap.size) (ok := fun k_ => (True ∧ some k_ ≠ (.slice Ao17 t743.length co17 : Value).ownBlock)) (n := t751.length) (c := co25) ?_).2.2; exact (by (with_reducible repeat (first | apply Kd.Ya | apply Kd.Yn | apply Kd.Yd)); exact (Kd.R_mono (Kd.R_far (p := ⟨gb757, 2, none⟩) (Kd.R_far (p := ⟨gb757, 1, none⟩) (Kd.R_far (p := ⟨gb757, 0, none⟩) (Kd.R_types HO753.out BK757.out (by decide)) (fun _ hk => hk.2) (.int .i64 t750)) (fun _ hk => hk.2) (.slice Ao25 t751.length co25)) (fun _ hk => hk.2) (.slice Ao26 t754.length co26)) (fun _ h_ => h_.1)))); (case side2 => exact (Kd.Yr HO753.out).2.1); (case side3 => refine (Kd.S_reads' (e := 73) (base := w.heap.size) (ok := fun k_ => ((some k_ ≠ (.slice Ao25 t751.length co25 : Value).ownBlock ∧ some k_ ≠ (.slice Ao17 t743.length co17 : Value).ownBlock) ∧ some k_ ≠ (.slice Ao18 t746.length co18 : Value).ownBlock)) (n := t754.length) (c := co26) ?_).2.2; exact (by (with_reducible repeat (first | apply Kd.S_alloc | apply Kd.S_drewN | apply Kd.S_drew)); exact (Kd.S_mono (Kd.S_far (p := ⟨gb757, 2, none⟩) (Kd.S_far (p := ⟨gb757, 1, none⟩) (Kd.S_far (p := ⟨gb757, 0, none⟩) (Kd.S_types HO756.out BK757.out (by decide)) (fun _ hk => hk.2) (.int .i64 t750)) (fun _ hk => hk.2) (.slice Ao25 t751.length co25)) (fun _ hk => hk.2) (.slice Ao26 t754.length co26)) (fun _ h_ => h_.1)))); (case side4 => exact (Kd.S_reads' HO756.out).2.1); rintro e w27 ⟨rfl, hb⟩; refine ⟨_, rfl, ?_⟩; have n0_ := yam (Kd.R_below (by (with_reducible repeat (first | apply Kd.Ya | apply Kd.Yn | apply Kd.Yd)); exact (Kd.R_mono (Kd.R_far (p := ⟨gb757, 2, none⟩) (Kd.R_far (p := ⟨gb757, 1, none⟩) (Kd.R_far (p := ⟨gb757, 0, none⟩) (Kd.R_types HO745.out BK757.out (by decide)) (fun _ hk => hk.2) (.int .i64 t750)) (fun _ hk => hk.2) (.slice Ao25 t751.length co25)) (fun _ hk => hk.2) (.slice Ao26 t754.length co26)) (fun _ h_ => h_.1))) hb); have n1_ := yam (Kd.S_below (by (with_reducible repeat (first | apply Kd.S_alloc | apply Kd.S_drewN | apply Kd.S_drew)); exact (Kd.S_mono (Kd.S_far (p := ⟨gb757, 2, none⟩) (Kd.S_far (p := ⟨gb757, 1, none⟩) (Kd.S_far (p := ⟨gb757, 0, none⟩) (Kd.S_types HO748.out BK757.out (by decide)) (fun _ hk => hk.2) (.int .i64 t750)) (fun _ hk => hk.2) (.slice Ao25 t751.length co25)) (fun _ hk => hk.2) (.slice Ao26 t754.length co26)) (fun _ h_ => h_.1))) hb); have n2_ := yam (Kd.R_below (by (with_reducible repeat (first | apply Kd.Ya | apply Kd.Yn | apply Kd.Yd)); exact (Kd.R_mono (Kd.R_far (p := ⟨gb757, 2, none⟩) (Kd.R_far (p := ⟨gb757, 1, none⟩) (Kd.R_far (p := ⟨gb757, 0, none⟩) (Kd.R_types HO753.out BK757.out (by decide)) (fun _ hk => hk.2) (.int .i64 t750)) (fun _ hk => hk.2) (.slice Ao25 t751.length co25)) (fun _ hk => hk.2) (.slice Ao26 t754.length co26)) (fun _ h_ => h_.1))) hb); have n3_ := yam (Kd.S_below (by (with_reducible repeat (first | apply Kd.S_alloc | apply Kd.S_drewN | apply Kd.S_drew)); exact (Kd.S_mono (Kd.S_far (p := ⟨gb757, 2, none⟩) (Kd.S_far (p := ⟨gb757, 1, none⟩) (Kd.S_far (p := ⟨gb757, 0, none⟩) (Kd.S_types HO756.out BK757.out (by decide)) (fun _ hk => hk.2) (.int .i64 t750)) (fun _ hk => hk.2) (.slice Ao25 t751.length co25)) (fun _ hk => hk.2) (.slice Ao26 t754.length co26)) (fun _ h_ => h_.1))) hb); have n4_ := yam (blk_below (g := gb740) (o := .cells #[.int .i64 a0_0, .slice A0_1 l0_1.length c0_1, .slice A0_2 l0_2.length c0_2] 48 (0, 0)) (by (with_reducible repeat (first | refine ybn ?_ _ | refine ybd ?_ | refine yba ?_ _)); refine blk_far ?_ NB740_757.out _; (with_reducible repeat (first | refine ybn ?_ _ | refine ybd ?_ | refine yba ?_ _)); refine blk_far ?_ NB740_757.out _; (with_reducible repeat (first | refine ybn ?_ _ | refine ybd ?_ | refine yba ?_ _)); refine blk_far ?_ NB740_757.out _; (with_reducible repeat (first | refine ybn ?_ _ | refine ybd ?_ | refine yba ?_ _)); exact BK740.out) hb); have n5_ := yam (blk_below (g := gb757) (o := .cells #[.int .i64 t750, .slice Ao25 t751.length co25, .slice Ao26 t754.length co26] 37 (0, 0)) (by (with_reducible repeat (first | refine ybn ?_ _ | refine ybd ?_ | refine yba ?_ _)); refine blk_put (cs := #[.int .i64 t750, .slice Ao25 t751.length co25, .slice none 0 0]) ?_ 2 _ rfl; (with_reducible repeat (first | refine ybn ?_ _ | refine ybd ?_ | refine yba ?_ _)); refine blk_put (cs := #[.int .i64 t750, .slice none 0 0, .slice none 0 0]) ?_ 1 _ rfl; (with_reducible repeat (first | refine ybn ?_ _ | refine ybd ?_ | refine yba ?_ _)); refine blk_put (cs := #[.int .i64 0, .slice none 0 0, .slice none 0 0]) ?_ 0 _ rfl; (with_reducible repeat (first | refine ybn ?_ _ | refine ybd ?_ | refine yba ?_ _)); exact BK757.out) hb); have n6_ := yam (below_step yhb hb); clear HO745; clear HO748; clear HO753; clear HO756; clear BK740; clear BK757; clear HB; have HO745 := n0_; have HO748 := n1_; have HO753 := n2_; have HO756 := n3_; have BK740 := n4_; have BK757 := n5_; have HB := n6_; clear n0_ n1_ n2_ n3_ n4_ n5_ n6_; (try clear hb); (try clear hb2); (try clear hk); (try clear hi)))
  go_ret
  exact ⟨yer, yhb⟩
 rw [if_neg c11] at H
 have c11b0 : (t758 != t749) = false := by simpa using c11
 (try (have c11b1 : decide (t758 = t749) = true := by simpa using c11))
 (try (have c11b2 : (t758 == t749) = true := by simpa using c11))
 clear c11
 replace H := Option.bind_eq_some_iff.mp H
 obtain ⟨⟨t759, t760, t763⟩, A280, H⟩ := H
 try dsimp only at H
 have A28 := yam A280
 clear A280
 replace H := Option.bind_eq_some_iff.mp H
 obtain ⟨t766, A290, H⟩ := H
 try dsimp only at H
 have A29 := yam A290
 clear A290
 by_cases c30 : t766 = true
 ·subst c30
  have H1 : (some true) = some r := by rw [if_pos rfl] at H; exact H
  clear H
  have H := H1
  clear H1
  obtain rfl := Option.some.inj H
  go_enter Try.func9, Try.ntmps9
  try go_wp2_with (first | ((with_reducible refine gate_dst (N := 1) rfl ?_); refine box_event ?hg (N := 1) ?hd (cs := #[.int .i64 a0_0, .slice A0_1 l0_1.length c0_1, .slice A0_2 l0_2.length c0_2]) (t := 48) ?hr ?_; (case hd => rfl); (case hg => rfl); (case hr => first | (go_simp; done) | (go_simp; rfl)); intro gb740 hg w31 hbox hb; have n0_ := yam (below_step (yez HB.out) hb); have n1_ := yam (hbox); have n2_ := yam ((by rw [hg]; exact (below_size (yez HB.out)) : w.heap.size ≤ gb740)); have n3_ := n2_; clear HB; have HB := n0_; have BK740 := n1_; have GW740 := n2_; have GE740 := n3_; clear n0_ n1_ n2_ n3_; clear hb hbox hg; obtain ⟨hcz32_0, hcz32_1, hcz32_2, hfz32_0, hfz32_1, hfz32_2⟩ := ybc BK740.out) | ((with_reducible refine gate_callee (f := 30) rfl ?_); refine goesL_ (some 9) rfl rfl Try.func30 (by kernel_rfl) rfl #[.agg #[.int .i64 a0_0, .slice A0_1 l0_1.length c0_1, .slice A0_2 l0_2.length c0_2], .int .i64 1048576] rfl (by (try simp only [List.map_toArray, List.map_cons, List.map_nil]); first | done | rfl | (simp only [List.length_drop, List.length_take]; rfl)) ?_; (with_reducible refine (laws_szPuzzle.calls k a0_0 _ _ l0_1 _ _ l0_2 1048576 t741 _ ?side1 ?side2 ?side3 ?side4 A2.out).mono ?_); (case side1 => exact Kd.Cz ((Kd.C_below HR0_1.out HB.out))); (case side2 => exact HC0_1.out); (case side3 => exact Kd.Cz ((Kd.C_below HR0_2.out HB.out))); (case side4 => exact HC0_2.out); rintro e w33 ⟨rfl, hb⟩; refine ⟨_, rfl, ?_⟩; have n0_ := yam (blk_below (g := gb740) (o := .cells #[.int .i64 a0_0, .slice A0_1 l0_1.length c0_1, .slice A0_2 l0_2.length c0_2] 48 (0, 0)) (ybz BK740.out) hb); have n1_ := yam (below_step yhb hb); clear BK740; clear HB; have BK740 := n0_; have HB := n1_; clear n0_ n1_; (try clear hb); (try clear hb2); (try clear hk); (try clear hi); obtain ⟨hcz34_0, hcz34_1, hcz34_2, hfz34_0, hfz34_1, hfz34_2⟩ := ybc BK740.out) | ((with_reducible refine gate_callee (f := 32) rfl ?_); refine goesL_ (some 13) rfl rfl Try.func32 (by kernel_rfl) rfl #[.agg #[.int .i64 a0_0, .slice A0_1 l0_1.length c0_1, .slice A0_2 l0_2.length c0_2]] rfl (by (try simp only [List.map_toArray, List.map_cons, List.map_nil]); first | done | rfl | (simp only [List.length_drop, List.length_take]; rfl)) ?_; (with_reducible refine (laws_toPuzzle.calls k a0_0 _ _ l0_1 _ _ l0_2 t742 t743 t746 _ ?side1 ?side2 ?side3 ?side4 A7.out).mono ?_); (case side1 => exact Kd.Cz ((Kd.C_below HR0_1.out HB.out))); (case side2 => exact HC0_1.out); (case side3 => exact Kd.Cz ((Kd.C_below HR0_2.out HB.out))); (case side4 => exact HC0_2.out); rintro e w35 ⟨v744, v747, rfl, ho0, ho1, hb⟩; refine ⟨_, rfl, ?_⟩; have n0_ := yam (Kd.R_lower ho0 (below_size yhb)); have n1_ := yam (Kd.S_lower ho1 (below_size yhb)); have n2_ := yam (blk_below (g := gb740) (o := .cells #[.int .i64 a0_0, .slice A0_1 l0_1.length c0_1, .slice A0_2 l0_2.length c0_2] 48 (0, 0)) (ybz BK740.out) hb); have n3_ := yam (below_step yhb hb); clear BK740; clear HB; have HO745 := n0_; have HO748 := n1_; have BK740 := n2_; have HB := n3_; clear n0_ n1_ n2_ n3_; (try clear hb); (try clear hb2); (try clear hk); (try clear hi); (try clear ho0); (try clear ho1); obtain ⟨Ao36, co36, eo36⟩ := Kd.R_slice HO745.out; subst eo36; obtain ⟨Ao37, co37, eo37⟩ := Kd.S_slice HO748.out; subst eo37) | ((with_reducible refine gate_callee (f := 38) rfl ?_); refine goesL_ (some 14) rfl rfl Try.func38 (by kernel_rfl) rfl #[.agg #[.int .i64 t742, .slice Ao36 t743.length co36, .slice Ao37 t746.length co37]] rfl (by (try simp only [List.map_toArray, List.map_cons, List.map_nil]); first | done | rfl | (simp only [List.length_drop, List.length_take]; rfl)) ?_; (with_reducible refine (spec_IsMinimal.calls k t742 _ _ t743 _ _ t746 t749 _ ?side1 ?side2 ?side3 ?side4 A8.out).mono ?_); (case side1 => repeat (first | exact (Kd.Yr HO745.out).2.2 | (with_reducible refine Kd.C_alloc ?_ _) | (with_reducible refine Kd.C_drewN ?_ _) | (with_reducible refine Kd.C_drew ?_))); (case side2 => exact (Kd.Yr HO745.out).2.1); (case side3 => repeat (first | exact (Kd.S_reads' HO748.out).2.2 | (with_reducible refine Kd.C_alloc ?_ _) | (with_reducible refine Kd.C_drewN ?_ _) | (with_reducible refine Kd.C_drew ?_))); (case side4 => exact (Kd.S_reads' HO748.out).2.1); rintro e w38 ⟨rfl, hb⟩; refine ⟨_, rfl, ?_⟩; have n0_ := yam (Kd.R_below (Kd.Yz HO745.out) hb); have n1_ := yam (Kd.S_below (by (with_reducible repeat (first | apply Kd.S_alloc | apply Kd.S_drewN | apply Kd.S_drew)); exact HO748.out) hb); have n2_ := yam (blk_below (g := gb740) (o := .cells #[.int .i64 a0_0, .slice A0_1 l0_1.length c0_1, .slice A0_2 l0_2.length c0_2] 48 (0, 0)) (ybz BK740.out) hb); have n3_ := yam (below_step yhb hb); clear HO745; clear HO748; clear BK740; clear HB; have HO745 := n0_; have HO748 := n1_; have BK740 := n2_; have HB := n3_; clear n0_ n1_ n2_ n3_; (try clear hb); (try clear hb2); (try clear hk); (try clear hi); obtain ⟨hcz39_0, hcz39_1, hcz39_2, hfz39_0, hfz39_1, hfz39_2⟩ := ybc BK740.out) | ((with_reducible refine gate_callee (f := 32) rfl ?_); refine goesL_ (some 16) rfl rfl Try.func32 (by kernel_rfl) rfl #[.agg #[.int .i64 a0_0, .slice A0_1 l0_1.length c0_1, .slice A0_2 l0_2.length c0_2]] rfl (by (try simp only [List.map_toArray, List.map_cons, List.map_nil]); first | done | rfl | (simp only [List.length_drop, List.length_take]; rfl)) ?_; (with_reducible refine (laws_toPuzzle.calls k a0_0 _ _ l0_1 _ _ l0_2 t750 t751 t754 _ ?side1 ?side2 ?side3 ?side4 A9.out).mono ?_); (case side1 => exact Kd.Cz ((Kd.C_below HR0_1.out HB.out))); (case side2 => exact HC0_1.out); (case side3 => exact Kd.Cz ((Kd.C_below HR0_2.out HB.out))); (case side4 => exact HC0_2.out); rintro e w40 ⟨v752, v755, rfl, ho0, ho1, hb⟩; refine ⟨_, rfl, ?_⟩; have n0_ := yam (Kd.Ye (Kd.Yz HO745.out) (Kd.Yb ho0) hb); have n1_ := yam (Kd.S_mono (Kd.S_told (Kd.S_told (Kd.S_old (by (with_reducible repeat (first | apply Kd.S_alloc | apply Kd.S_drewN | apply Kd.S_drew)); exact HO748.out) hb) (Kd.Yb ho0)) (Kd.S_base ho1)) (fun _ h_ => h_.1)); have n2_ := yam (Kd.R_lower (Kd.Yw ho0 (Kd.R_lt (Kd.Yz HO745.out))) (below_size yhb)); have n3_ := yam (Kd.S_lower (Kd.S_new' (Kd.S_new' ho1 (Kd.R_lt (Kd.Yz HO745.out))) (Kd.S_lt (by (with_reducible repeat (first | apply Kd.S_alloc | apply Kd.S_drewN | apply Kd.S_drew)); exact HO748.out))) (below_size yhb)); have n4_ := yam (blk_below (g := gb740) (o := .cells #[.int .i64 a0_0, .slice A0_1 l0_1.length c0_1, .slice A0_2 l0_2.length c0_2] 48 (0, 0)) (ybz BK740.out) hb); have n5_ := yam (below_step yhb hb); clear HO745; clear HO748; clear BK740; clear HB; have HO745 := n0_; have HO748 := n1_; have HO753 := n2_; have HO756 := n3_; have BK740 := n4_; have HB := n5_; clear n0_ n1_ n2_ n3_ n4_ n5_; (try clear hb); (try clear hb2); (try clear hk); (try clear hi); (try clear ho0); (try clear ho1)) | ((with_reducible refine gate_dst (N := 5) rfl ?_); refine box_event ?hg (N := 5) ?hd (cs := #[.int .i64 0, .slice none 0 0, .slice none 0 0]) (t := 37) ?hr ?_; (case hd => rfl); (case hg => rfl); (case hr => first | (go_simp; done) | (go_simp; rfl)); intro gb757 hg w41 hbox hb; have n0_ := yam (Kd.R_below (Kd.Yz HO745.out) hb); have n1_ := yam (Kd.S_below (by (with_reducible repeat (first | apply Kd.S_alloc | apply Kd.S_drewN | apply Kd.S_drew)); exact HO748.out) hb); have n2_ := yam (Kd.R_below (Kd.Yz HO753.out) hb); have n3_ := yam (Kd.S_below (by (with_reducible repeat (first | apply Kd.S_alloc | apply Kd.S_drewN | apply Kd.S_drew)); exact HO756.out) hb); have n4_ := yam (blk_below (g := gb740) (o := .cells #[.int .i64 a0_0, .slice A0_1 l0_1.length c0_1, .slice A0_2 l0_2.length c0_2] 48 (0, 0)) (ybz BK740.out) hb); have n5_ := yam (below_step yhb hb); have n6_ := yam (hbox); have n7_ := yam ((by rw [hg]; exact (below_size yhb) : w.heap.size ≤ gb757)); have n8_ := n7_; have n9_ := yam ((by rw [hg]; exact Nat.ne_of_lt (blk_lt (g := gb740) (o := .cells #[.int .i64 a0_0, .slice A0_1 l0_1.length c0_1, .slice A0_2 l0_2.length c0_2] 48 (0, 0)) (ybz BK740.out)) : gb740 ≠ gb757)); have n10_ := yam ((by rw [hg]; exact Nat.ne_of_gt (blk_lt (g := gb740) (o := .cells #[.int .i64 a0_0, .slice A0_1 l0_1.length c0_1, .slice A0_2 l0_2.length c0_2] 48 (0, 0)) (ybz BK740.out)) : gb757 ≠ gb740)); clear HO745; clear HO748; clear HO753; clear HO756; clear BK740; clear HB; have HO745 := n0_; have HO748 := n1_; have HO753 := n2_; have HO756 := n3_; have BK740 := n4_; have HB := n5_; have BK757 := n6_; have GW757 := n7_; have GE757 := n8_; have NB740_757 := n9_; have NB757_740 := n10_; clear n0_ n1_ n2_ n3_ n4_ n5_ n6_ n7_ n8_ n9_ n10_; clear hb hbox hg; have hnb42 := NB757_740.out; have hnc42 := NB740_757.out; obtain ⟨hcz43_0, hcz43_1, hcz43_2, hfz43_0, hfz43_1, hfz43_2⟩ := ybc BK757.out; obtain ⟨Ao44, co44, eo44⟩ := Kd.R_slice HO753.out; subst eo44; obtain ⟨Ao45, co45, eo45⟩ := Kd.S_slice HO756.out; subst eo45) | ((with_reducible refine gate_callee (f := 39) rfl ?_); refine goesL_ (some 18) rfl rfl Try.func39 (by kernel_rfl) rfl #[.agg #[.int .i64 t750, .slice Ao44 t751.length co44, .slice Ao45 t754.length co45]] rfl (by (try simp only [List.map_toArray, List.map_cons, List.map_nil]); first | done | rfl | (simp only [List.length_drop, List.length_take]; rfl)) ?_; (with_reducible refine (impl_IsMinimal.calls k t750 _ _ t751 _ _ t754 t758 _ ?side1 ?side2 ?side3 ?side4 A10.out).mono ?_); (case side1 => refine (Kd.Yr (e := 3) (base := w.heap.size) (ok := fun k_ => (True ∧ some k_ ≠ (.slice Ao36 t743.length co36 : Value).ownBlock)) (n := t751.length) (c := co44) ?_).2.2; exact (by (with_reducible repeat (first | apply Kd.Ya | apply Kd.Yn | apply Kd.Yd)); exact (Kd.R_mono (Kd.R_far (p := ⟨gb757, 2, none⟩) (Kd.R_far (p := ⟨gb757, 1, none⟩) (Kd.R_far (p := ⟨gb757, 0, none⟩) (Kd.R_types HO753.out BK757.out (by decide)) (fun _ hk => hk.2) (.int .i64 t750)) (fun _ hk => hk.2) (.slice Ao44 t751.length co44)) (fun _ hk => hk.2) (.slice Ao45 t754.length co45)) (fun _ h_ => h_.1)))); (case side2 => exact (Kd.Yr HO753.out).2.1); (case side3 => refine (Kd.S_reads' (e := 73) (base := w.heap.size) (ok := fun k_ => ((some k_ ≠ (.slice Ao44 t751.length co44 : Value).ownBlock ∧ some k_ ≠ (.slice Ao36 t743.length co36 : Value).ownBlock) ∧ some k_ ≠ (.slice Ao37 t746.length co37 : Value).ownBlock)) (n := t754.length) (c := co45) ?_).2.2; exact (by (with_reducible repeat (first | apply Kd.S_alloc | apply Kd.S_drewN | apply Kd.S_drew)); exact (Kd.S_mono (Kd.S_far (p := ⟨gb757, 2, none⟩) (Kd.S_far (p := ⟨gb757, 1, none⟩) (Kd.S_far (p := ⟨gb757, 0, none⟩) (Kd.S_types HO756.out BK757.out (by decide)) (fun _ hk => hk.2) (.int .i64 t750)) (fun _ hk => hk.2) (.slice Ao44 t751.length co44)) (fun _ hk => hk.2) (.slice Ao45 t754.length co45)) (fun _ h_ => h_.1)))); (case side4 => exact (Kd.S_reads' HO756.out).2.1); rintro e w46 ⟨rfl, hb⟩; refine ⟨_, rfl, ?_⟩; have n0_ := yam (Kd.R_below (by (with_reducible repeat (first | apply Kd.Ya | apply Kd.Yn | apply Kd.Yd)); exact (Kd.R_mono (Kd.R_far (p := ⟨gb757, 2, none⟩) (Kd.R_far (p := ⟨gb757, 1, none⟩) (Kd.R_far (p := ⟨gb757, 0, none⟩) (Kd.R_types HO745.out BK757.out (by decide)) (fun _ hk => hk.2) (.int .i64 t750)) (fun _ hk => hk.2) (.slice Ao44 t751.length co44)) (fun _ hk => hk.2) (.slice Ao45 t754.length co45)) (fun _ h_ => h_.1))) hb); have n1_ := yam (Kd.S_below (by (with_reducible repeat (first | apply Kd.S_alloc | apply Kd.S_drewN | apply Kd.S_drew)); exact (Kd.S_mono (Kd.S_far (p := ⟨gb757, 2, none⟩) (Kd.S_far (p := ⟨gb757, 1, none⟩) (Kd.S_far (p := ⟨gb757, 0, none⟩) (Kd.S_types HO748.out BK757.out (by decide)) (fun _ hk => hk.2) (.int .i64 t750)) (fun _ hk => hk.2) (.slice Ao44 t751.length co44)) (fun _ hk => hk.2) (.slice Ao45 t754.length co45)) (fun _ h_ => h_.1))) hb); have n2_ := yam (Kd.R_below (by (with_reducible repeat (first | apply Kd.Ya | apply Kd.Yn | apply Kd.Yd)); exact (Kd.R_mono (Kd.R_far (p := ⟨gb757, 2, none⟩) (Kd.R_far (p := ⟨gb757, 1, none⟩) (Kd.R_far (p := ⟨gb757, 0, none⟩) (Kd.R_types HO753.out BK757.out (by decide)) (fun _ hk => hk.2) (.int .i64 t750)) (fun _ hk => hk.2) (.slice Ao44 t751.length co44)) (fun _ hk => hk.2) (.slice Ao45 t754.length co45)) (fun _ h_ => h_.1))) hb); have n3_ := yam (Kd.S_below (by (with_reducible repeat (first | apply Kd.S_alloc | apply Kd.S_drewN | apply Kd.S_drew)); exact (Kd.S_mono (Kd.S_far (p := ⟨gb757, 2, none⟩) (Kd.S_far (p := ⟨gb757, 1, none⟩) (Kd.S_far (p := ⟨gb757, 0, none⟩) (Kd.S_types HO756.out BK757.out (by decide)) (fun _ hk => hk.2) (.int .i64 t750)) (fun _ hk => hk.2) (.slice Ao44 t751.length co44)) (fun _ hk => hk.2) (.slice Ao45 t754.length co45)) (fun _ h_ => h_.1))) hb); have n4_ := yam (blk_below (g := gb740) (o := .cells #[.int .i64 a0_0, .slice A0_1 l0_1.length c0_1, .slice A0_2 l0_2.length c0_2] 48 (0, 0)) (by (with_reducible repeat (first | refine ybn ?_ _ | refine ybd ?_ | refine yba ?_ _)); refine blk_far ?_ NB740_757.out _; (with_reducible repeat (first | refine ybn ?_ _ | refine ybd ?_ | refine yba ?_ _)); refine blk_far ?_ NB740_757.out _; (with_reducible repeat (first | refine ybn ?_ _ | refine ybd ?_ | refine yba ?_ _)); refine blk_far ?_ NB740_757.out _; (with_reducible repeat (first | refine ybn ?_ _ | refine ybd ?_ | refine yba ?_ _)); exact BK740.out) hb); have n5_ := yam (blk_below (g := gb757) (o := .cells #[.int .i64 t750, .slice Ao44 t751.length co44, .slice Ao45 t754.length co45] 37 (0, 0)) (by (with_reducible repeat (first | refine ybn ?_ _ | refine ybd ?_ | refine yba ?_ _)); refine blk_put (cs := #[.int .i64 t750, .slice Ao44 t751.length co44, .slice none 0 0]) ?_ 2 _ rfl; (with_reducible repeat (first | refine ybn ?_ _ | refine ybd ?_ | refine yba ?_ _)); refine blk_put (cs := #[.int .i64 t750, .slice none 0 0, .slice none 0 0]) ?_ 1 _ rfl; (with_reducible repeat (first | refine ybn ?_ _ | refine ybd ?_ | refine yba ?_ _)); refine blk_put (cs := #[.int .i64 0, .slice none 0 0, .slice none 0 0]) ?_ 0 _ rfl; (with_reducible repeat (first | refine ybn ?_ _ | refine ybd ?_ | refine yba ?_ _)); exact BK757.out) hb); have n6_ := yam (below_step yhb hb); clear HO745; clear HO748; clear HO753; clear HO756; clear BK740; clear BK757; clear HB; have HO745 := n0_; have HO748 := n1_; have HO753 := n2_; have HO756 := n3_; have BK740 := n4_; have BK757 := n5_; have HB := n6_; clear n0_ n1_ n2_ n3_ n4_ n5_ n6_; (try clear hb); (try clear hb2); (try clear hk); (try clear hi)))
  have n0_ := yam (Kd.Yd HO745.out)
  have n1_ := yam (Kd.S_drew HO748.out)
  have n2_ := yam (Kd.Yd HO753.out)
  have n3_ := yam (Kd.S_drew HO756.out)
  have n4_ := yam (ybd BK740.out)
  have n5_ := yam (ybd BK757.out)
  have n6_ := yam (yed HB.out)
  clear HO745
  clear HO748
  clear HO753
  clear HO756
  clear BK740
  clear BK757
  clear HB
  have HO745 := n0_
  have HO748 := n1_
  have HO753 := n2_
  have HO756 := n3_
  have BK740 := n4_
  have BK757 := n5_
  have HB := n6_
  clear n0_ n1_ n2_ n3_ n4_ n5_ n6_
  refine start_ (n := 5) (S := fun w' => w'.cell? ⟨gb757, 0, none⟩ = some (.int .i64 t750) ∧ w'.cell? ⟨gb757, 1, none⟩ = some (.slice Ao44 t751.length co44) ∧ w'.cell? ⟨gb757, 2, none⟩ = some (.slice Ao45 t754.length co45) ∧ w'.cell? ⟨gb740, 0, none⟩ = some (.int .i64 a0_0) ∧ w'.cell? ⟨gb740, 1, none⟩ = some (.slice A0_1 l0_1.length c0_1) ∧ w'.cell? ⟨gb740, 2, none⟩ = some (.slice A0_2 l0_2.length c0_2)) (ds := []) #[false, false, false, false, false] (by kernel_rfl) rfl rfl ⟨(blk_cell BK757.out 0).trans rfl, (blk_cell BK757.out 1).trans rfl, (blk_cell BK757.out 2).trans rfl, (blk_cell BK740.out 0).trans rfl, (blk_cell BK740.out 1).trans rfl, (blk_cell BK740.out 2).trans rfl⟩ (fun hHeld => ?_)
  generalize w46.drew = w47 at HO745 HO748 HO753 HO756 BK740 BK757 HB hHeld ⊢
  refine take_ (i := 0) (N := some 22) (v := ?_) (a' := ?_) #[true, false, false, false, false] rfl rfl (by kernel_rfl) (fun _ _ _ h => h) (Or.inl ⟨by rfl, ?_⟩) hHeld ?_ ?_
  rotate_left
  ·rintro w' ⟨s0, s1, s2, s3, s4, s5⟩
   go_simp
   with_reducible rfl
  rotate_left
  ·simp only [Act.put, yps, i64_w, i32_w]
   rfl
  refine take_ (i := 1) (N := some 23) (v := ?_) (a' := ?_) #[true, true, false, false, false] rfl rfl (by kernel_rfl) (fun _ _ _ h => h) (Or.inl ⟨by rfl, ?_⟩) hHeld ?_ ?_
  rotate_left
  ·rintro w' ⟨s0, s1, s2, s3, s4, s5⟩
   go_simp
   with_reducible rfl
  rotate_left
  ·simp only [Act.put, yps, i64_w, i32_w]
   rfl
  refine one_ (i := 2) (N := some 24) #[true, true, true, false, false] rfl rfl (by kernel_rfl) (by decide) (fun K hK => ?_)
  refine goes_ Try.func32 (by kernel_rfl) rfl #[.agg #[.int .i64 a0_0, .slice A0_1 l0_1.length c0_1, .slice A0_2 l0_2.length c0_2]] (by rfl) rfl rfl (by (try simp only [List.map_toArray, List.map_cons, List.map_nil]); first | done | rfl | (simp only [List.length_drop, List.length_take]; rfl)) ?_
  with_reducible refine (laws_toPuzzle.calls k a0_0 _ _ l0_1 _ _ l0_2 t759 t760 t763 _ ?side1 ?side2 ?side3 ?side4 A28.out).mono ?_
  (case side1 => exact Kd.Cz ((Kd.C_below HR0_1.out HB.out)))
  (case side2 => exact HC0_1.out)
  (case side3 => exact Kd.Cz ((Kd.C_below HR0_2.out HB.out)))
  (case side4 => exact HC0_2.out)
  rintro e w48 ⟨v761, v764, rfl, ho0, ho1, hb⟩
  refine ⟨_, rfl, ?_⟩
  have n0_ := yam (Kd.Ye (Kd.Yz HO745.out) (Kd.Yb ho0) hb)
  have n1_ := yam (Kd.S_mono (Kd.S_told (Kd.S_told (Kd.S_old (by (with_reducible repeat (first | apply Kd.S_alloc | apply Kd.S_drewN | apply Kd.S_drew)); exact HO748.out) hb) (Kd.Yb ho0)) (Kd.S_base ho1)) (fun _ h_ => h_.1))
  have n2_ := yam (Kd.Ye (Kd.Yz HO753.out) (Kd.Yb ho0) hb)
  have n3_ := yam (Kd.S_mono (Kd.S_told (Kd.S_told (Kd.S_old (by (with_reducible repeat (first | apply Kd.S_alloc | apply Kd.S_drewN | apply Kd.S_drew)); exact HO756.out) hb) (Kd.Yb ho0)) (Kd.S_base ho1)) (fun _ h_ => h_.1))
  have n4_ := yam (Kd.R_lower (Kd.Yw (Kd.Yw ho0 (Kd.R_lt (Kd.Yz HO745.out))) (Kd.R_lt (Kd.Yz HO753.out))) (below_size yhb))
  have n5_ := yam (Kd.S_lower (Kd.S_new' (Kd.S_new' (Kd.S_new' (Kd.S_new' ho1 (Kd.R_lt (Kd.Yz HO745.out))) (Kd.S_lt (by (with_reducible repeat (first | apply Kd.S_alloc | apply Kd.S_drewN | apply Kd.S_drew)); exact HO748.out))) (Kd.R_lt (Kd.Yz HO753.out))) (Kd.S_lt (by (with_reducible repeat (first | apply Kd.S_alloc | apply Kd.S_drewN | apply Kd.S_drew)); exact HO756.out))) (below_size yhb))
  have n6_ := yam (blk_below (g := gb740) (o := .cells #[.int .i64 a0_0, .slice A0_1 l0_1.length c0_1, .slice A0_2 l0_2.length c0_2] 48 (0, 0)) (ybz BK740.out) hb)
  have n7_ := yam (blk_below (g := gb757) (o := .cells #[.int .i64 t750, .slice Ao44 t751.length co44, .slice Ao45 t754.length co45] 37 (0, 0)) (ybz BK757.out) hb)
  have n8_ := yam (below_step yhb hb)
  clear HO745
  clear HO748
  clear HO753
  clear HO756
  clear BK740
  clear BK757
  clear HB
  have HO745 := n0_
  have HO748 := n1_
  have HO753 := n2_
  have HO756 := n3_
  have HO762 := n4_
  have HO765 := n5_
  have BK740 := n6_
  have BK757 := n7_
  have HB := n8_
  clear n0_ n1_ n2_ n3_ n4_ n5_ n6_ n7_ n8_
  (try clear hb)
  (try clear hb2)
  (try clear hk)
  (try clear hi)
  (try clear ho0)
  (try clear ho1)
  obtain ⟨Ao49, co49, eo49⟩ := Kd.R_slice HO762.out
  (first | subst eo49 | (injection eo49 with f1_ f2_ f3_; have f4_ := f1_.symm; have f5_ := f3_.symm; clear f1_ f2_ f3_; subst f4_; subst f5_))
  obtain ⟨Ao50, co50, eo50⟩ := Kd.S_slice HO765.out
  (first | subst eo50 | (injection eo50 with f1_ f2_ f3_; have f4_ := f1_.symm; have f5_ := f3_.symm; clear f1_ f2_ f3_; subst f4_; subst f5_))
  refine hK.out _ _ ⟨(blk_cell BK757.out 0).trans rfl, (blk_cell BK757.out 1).trans rfl, (blk_cell BK757.out 2).trans rfl, (blk_cell BK740.out 0).trans rfl, (blk_cell BK740.out 1).trans rfl, (blk_cell BK740.out 2).trans rfl⟩ (fun hHeld => ?_)
  clear hK K
  refine norm_ (a' := ?_) ?_ ?_
  rotate_left
  ·show Act.put _ (some 24) _ = _
   simp only [Act.put, yps, i64_w, i32_w]
   rfl
  refine one_ (i := 3) (N := some 25) #[true, true, true, true, false] rfl rfl (by kernel_rfl) (by decide) (fun K hK => ?_)
  refine goes_ Try.func25 (by kernel_rfl) rfl #[.agg #[.int .i64 t750, .slice Ao44 t751.length co44, .slice Ao45 t754.length co45], .agg #[.int .i64 t759, .slice Ao49 t760.length co49, .slice Ao50 t763.length co50]] (by rfl) rfl rfl (by (try simp only [List.map_toArray, List.map_cons, List.map_nil]); first | done | rfl | (simp only [List.length_drop, List.length_take]; rfl)) ?_
  with_reducible refine (laws_eqPuzzle.calls k t750 _ _ t751 _ _ t754 t759 _ _ t760 _ _ t763 true _ ?side1 ?side2 ?side3 ?side4 ?side5 ?side6 ?side7 ?side8 A29.out).mono ?_
  (case side1 => repeat (first | exact (Kd.Yr HO753.out).2.2 | (with_reducible refine Kd.C_alloc ?_ _) | (with_reducible refine Kd.C_drewN ?_ _) | (with_reducible refine Kd.C_drew ?_)))
  (case side2 => exact (Kd.Yr HO753.out).2.1)
  (case side3 => repeat (first | exact (Kd.S_reads' HO756.out).2.2 | (with_reducible refine Kd.C_alloc ?_ _) | (with_reducible refine Kd.C_drewN ?_ _) | (with_reducible refine Kd.C_drew ?_)))
  (case side4 => exact (Kd.S_reads' HO756.out).2.1)
  (case side5 => repeat (first | exact (Kd.Yr HO762.out).2.2 | (with_reducible refine Kd.C_alloc ?_ _) | (with_reducible refine Kd.C_drewN ?_ _) | (with_reducible refine Kd.C_drew ?_)))
  (case side6 => exact (Kd.Yr HO762.out).2.1)
  (case side7 => repeat (first | exact (Kd.S_reads' HO765.out).2.2 | (with_reducible refine Kd.C_alloc ?_ _) | (with_reducible refine Kd.C_drewN ?_ _) | (with_reducible refine Kd.C_drew ?_)))
  (case side8 => exact (Kd.S_reads' HO765.out).2.1)
  rintro e w51 ⟨rfl, hb⟩
  refine ⟨_, rfl, ?_⟩
  have n0_ := yam (Kd.R_below (Kd.Yz HO745.out) hb)
  have n1_ := yam (Kd.S_below (by (with_reducible repeat (first | apply Kd.S_alloc | apply Kd.S_drewN | apply Kd.S_drew)); exact HO748.out) hb)
  have n2_ := yam (Kd.R_below (Kd.Yz HO753.out) hb)
  have n3_ := yam (Kd.S_below (by (with_reducible repeat (first | apply Kd.S_alloc | apply Kd.S_drewN | apply Kd.S_drew)); exact HO756.out) hb)
  have n4_ := yam (Kd.R_below (Kd.Yz HO762.out) hb)
  have n5_ := yam (Kd.S_below (by (with_reducible repeat (first | apply Kd.S_alloc | apply Kd.S_drewN | apply Kd.S_drew)); exact HO765.out) hb)
  have n6_ := yam (blk_below (g := gb740) (o := .cells #[.int .i64 a0_0, .slice A0_1 l0_1.length c0_1, .slice A0_2 l0_2.length c0_2] 48 (0, 0)) (ybz BK740.out) hb)
  have n7_ := yam (blk_below (g := gb757) (o := .cells #[.int .i64 t750, .slice Ao44 t751.length co44, .slice Ao45 t754.length co45] 37 (0, 0)) (ybz BK757.out) hb)
  have n8_ := yam (below_step yhb hb)
  clear HO745
  clear HO748
  clear HO753
  clear HO756
  clear HO762
  clear HO765
  clear BK740
  clear BK757
  clear HB
  have HO745 := n0_
  have HO748 := n1_
  have HO753 := n2_
  have HO756 := n3_
  have HO762 := n4_
  have HO765 := n5_
  have BK740 := n6_
  have BK757 := n7_
  have HB := n8_
  clear n0_ n1_ n2_ n3_ n4_ n5_ n6_ n7_ n8_
  (try clear hb)
  (try clear hb2)
  (try clear hk)
  (try clear hi)
  refine hK.out _ _ ⟨(blk_cell BK757.out 0).trans rfl, (blk_cell BK757.out 1).trans rfl, (blk_cell BK757.out 2).trans rfl, (blk_cell BK740.out 0).trans rfl, (blk_cell BK740.out 1).trans rfl, (blk_cell BK740.out 2).trans rfl⟩ (fun hHeld => ?_)
  clear hK K
  refine norm_ (a' := ?_) ?_ ?_
  rotate_left
  ·show Act.put _ (some 25) _ = _
   simp only [Act.put, yps, i64_w, i32_w]
   rfl
  refine pure_ (i := 4) (N := some 26) (v := ?_) (a' := ?_) #[true, true, true, true, true] rfl rfl (by kernel_rfl) (fun _ _ _ h => h) (Or.inl ⟨by rfl, ?_⟩) ?_ ?_
  rotate_left
  ·intro w'
   go_simp
   with_reducible rfl
  rotate_left
  ·simp only [Act.put, yps, i64_w, i32_w]
   rfl
  refine done_ (by kernel_rfl) ?_
  try go_wp2
  go_ret
  exact ⟨yer, yhb⟩
 replace c30 := Bool.eq_false_iff.mpr c30
 subst c30
 have H1 : (some false) = some r := by rw [if_neg (show ¬ (false = true) by decide)] at H; exact H
 clear H
 have H := H1
 clear H1
 obtain rfl := Option.some.inj H
 go_enter Try.func9, Try.ntmps9
 try go_wp2_with (first | ((with_reducible refine gate_dst (N := 1) rfl ?_); refine box_event ?hg (N := 1) ?hd (cs := #[.int .i64 a0_0, .slice A0_1 l0_1.length c0_1, .slice A0_2 l0_2.length c0_2]) (t := 48) ?hr ?_; (case hd => rfl); (case hg => rfl); (case hr => first | (go_simp; done) | (go_simp; rfl)); intro gb740 hg w52 hbox hb; have n0_ := yam (below_step (yez HB.out) hb); have n1_ := yam (hbox); have n2_ := yam ((by rw [hg]; exact (below_size (yez HB.out)) : w.heap.size ≤ gb740)); have n3_ := n2_; clear HB; have HB := n0_; have BK740 := n1_; have GW740 := n2_; have GE740 := n3_; clear n0_ n1_ n2_ n3_; clear hb hbox hg; obtain ⟨hcz53_0, hcz53_1, hcz53_2, hfz53_0, hfz53_1, hfz53_2⟩ := ybc BK740.out) | ((with_reducible refine gate_callee (f := 30) rfl ?_); refine goesL_ (some 9) rfl rfl Try.func30 (by kernel_rfl) rfl #[.agg #[.int .i64 a0_0, .slice A0_1 l0_1.length c0_1, .slice A0_2 l0_2.length c0_2], .int .i64 1048576] rfl (by (try simp only [List.map_toArray, List.map_cons, List.map_nil]); first | done | rfl | (simp only [List.length_drop, List.length_take]; rfl)) ?_; (with_reducible refine (laws_szPuzzle.calls k a0_0 _ _ l0_1 _ _ l0_2 1048576 t741 _ ?side1 ?side2 ?side3 ?side4 A2.out).mono ?_); (case side1 => exact Kd.Cz ((Kd.C_below HR0_1.out HB.out))); (case side2 => exact HC0_1.out); (case side3 => exact Kd.Cz ((Kd.C_below HR0_2.out HB.out))); (case side4 => exact HC0_2.out); rintro e w54 ⟨rfl, hb⟩; refine ⟨_, rfl, ?_⟩; have n0_ := yam (blk_below (g := gb740) (o := .cells #[.int .i64 a0_0, .slice A0_1 l0_1.length c0_1, .slice A0_2 l0_2.length c0_2] 48 (0, 0)) (ybz BK740.out) hb); have n1_ := yam (below_step yhb hb); clear BK740; clear HB; have BK740 := n0_; have HB := n1_; clear n0_ n1_; (try clear hb); (try clear hb2); (try clear hk); (try clear hi); obtain ⟨hcz55_0, hcz55_1, hcz55_2, hfz55_0, hfz55_1, hfz55_2⟩ := ybc BK740.out) | ((with_reducible refine gate_callee (f := 32) rfl ?_); refine goesL_ (some 13) rfl rfl Try.func32 (by kernel_rfl) rfl #[.agg #[.int .i64 a0_0, .slice A0_1 l0_1.length c0_1, .slice A0_2 l0_2.length c0_2]] rfl (by (try simp only [List.map_toArray, List.map_cons, List.map_nil]); first | done | rfl | (simp only [List.length_drop, List.length_take]; rfl)) ?_; (with_reducible refine (laws_toPuzzle.calls k a0_0 _ _ l0_1 _ _ l0_2 t742 t743 t746 _ ?side1 ?side2 ?side3 ?side4 A7.out).mono ?_); (case side1 => exact Kd.Cz ((Kd.C_below HR0_1.out HB.out))); (case side2 => exact HC0_1.out); (case side3 => exact Kd.Cz ((Kd.C_below HR0_2.out HB.out))); (case side4 => exact HC0_2.out); rintro e w56 ⟨v744, v747, rfl, ho0, ho1, hb⟩; refine ⟨_, rfl, ?_⟩; have n0_ := yam (Kd.R_lower ho0 (below_size yhb)); have n1_ := yam (Kd.S_lower ho1 (below_size yhb)); have n2_ := yam (blk_below (g := gb740) (o := .cells #[.int .i64 a0_0, .slice A0_1 l0_1.length c0_1, .slice A0_2 l0_2.length c0_2] 48 (0, 0)) (ybz BK740.out) hb); have n3_ := yam (below_step yhb hb); clear BK740; clear HB; have HO745 := n0_; have HO748 := n1_; have BK740 := n2_; have HB := n3_; clear n0_ n1_ n2_ n3_; (try clear hb); (try clear hb2); (try clear hk); (try clear hi); (try clear ho0); (try clear ho1); obtain ⟨Ao57, co57, eo57⟩ := Kd.R_slice HO745.out; subst eo57; obtain ⟨Ao58, co58, eo58⟩ := Kd.S_slice HO748.out; subst eo58) | ((with_reducible refine gate_callee (f := 38) rfl ?_); refine goesL_ (some 14) rfl rfl Try.func38 (by kernel_rfl) rfl #[.agg #[.int .i64 t742, .slice Ao57 t743.length co57, .slice Ao58 t746.length co58]] rfl (by (try simp only [List.map_toArray, List.map_cons, List.map_nil]); first | done | rfl | (simp only [List.length_drop, List.length_take]; rfl)) ?_; (with_reducible refine (spec_IsMinimal.calls k t742 _ _ t743 _ _ t746 t749 _ ?side1 ?side2 ?side3 ?side4 A8.out).mono ?_); (case side1 => repeat (first | exact (Kd.Yr HO745.out).2.2 | (with_reducible refine Kd.C_alloc ?_ _) | (with_reducible refine Kd.C_drewN ?_ _) | (with_reducible refine Kd.C_drew ?_))); (case side2 => exact (Kd.Yr HO745.out).2.1); (case side3 => repeat (first | exact (Kd.S_reads' HO748.out).2.2 | (with_reducible refine Kd.C_alloc ?_ _) | (with_reducible refine Kd.C_drewN ?_ _) | (with_reducible refine Kd.C_drew ?_))); (case side4 => exact (Kd.S_reads' HO748.out).2.1); rintro e w59 ⟨rfl, hb⟩; refine ⟨_, rfl, ?_⟩; have n0_ := yam (Kd.R_below (Kd.Yz HO745.out) hb); have n1_ := yam (Kd.S_below (by (with_reducible repeat (first | apply Kd.S_alloc | apply Kd.S_drewN | apply Kd.S_drew)); exact HO748.out) hb); have n2_ := yam (blk_below (g := gb740) (o := .cells #[.int .i64 a0_0, .slice A0_1 l0_1.length c0_1, .slice A0_2 l0_2.length c0_2] 48 (0, 0)) (ybz BK740.out) hb); have n3_ := yam (below_step yhb hb); clear HO745; clear HO748; clear BK740; clear HB; have HO745 := n0_; have HO748 := n1_; have BK740 := n2_; have HB := n3_; clear n0_ n1_ n2_ n3_; (try clear hb); (try clear hb2); (try clear hk); (try clear hi); obtain ⟨hcz60_0, hcz60_1, hcz60_2, hfz60_0, hfz60_1, hfz60_2⟩ := ybc BK740.out) | ((with_reducible refine gate_callee (f := 32) rfl ?_); refine goesL_ (some 16) rfl rfl Try.func32 (by kernel_rfl) rfl #[.agg #[.int .i64 a0_0, .slice A0_1 l0_1.length c0_1, .slice A0_2 l0_2.length c0_2]] rfl (by (try simp only [List.map_toArray, List.map_cons, List.map_nil]); first | done | rfl | (simp only [List.length_drop, List.length_take]; rfl)) ?_; (with_reducible refine (laws_toPuzzle.calls k a0_0 _ _ l0_1 _ _ l0_2 t750 t751 t754 _ ?side1 ?side2 ?side3 ?side4 A9.out).mono ?_); (case side1 => exact Kd.Cz ((Kd.C_below HR0_1.out HB.out))); (case side2 => exact HC0_1.out); (case side3 => exact Kd.Cz ((Kd.C_below HR0_2.out HB.out))); (case side4 => exact HC0_2.out); rintro e w61 ⟨v752, v755, rfl, ho0, ho1, hb⟩; refine ⟨_, rfl, ?_⟩; have n0_ := yam (Kd.Ye (Kd.Yz HO745.out) (Kd.Yb ho0) hb); have n1_ := yam (Kd.S_mono (Kd.S_told (Kd.S_told (Kd.S_old (by (with_reducible repeat (first | apply Kd.S_alloc | apply Kd.S_drewN | apply Kd.S_drew)); exact HO748.out) hb) (Kd.Yb ho0)) (Kd.S_base ho1)) (fun _ h_ => h_.1)); have n2_ := yam (Kd.R_lower (Kd.Yw ho0 (Kd.R_lt (Kd.Yz HO745.out))) (below_size yhb)); have n3_ := yam (Kd.S_lower (Kd.S_new' (Kd.S_new' ho1 (Kd.R_lt (Kd.Yz HO745.out))) (Kd.S_lt (by (with_reducible repeat (first | apply Kd.S_alloc | apply Kd.S_drewN | apply Kd.S_drew)); exact HO748.out))) (below_size yhb)); have n4_ := yam (blk_below (g := gb740) (o := .cells #[.int .i64 a0_0, .slice A0_1 l0_1.length c0_1, .slice A0_2 l0_2.length c0_2] 48 (0, 0)) (ybz BK740.out) hb); have n5_ := yam (below_step yhb hb); clear HO745; clear HO748; clear BK740; clear HB; have HO745 := n0_; have HO748 := n1_; have HO753 := n2_; have HO756 := n3_; have BK740 := n4_; have HB := n5_; clear n0_ n1_ n2_ n3_ n4_ n5_; (try clear hb); (try clear hb2); (try clear hk); (try clear hi); (try clear ho0); (try clear ho1)) | ((with_reducible refine gate_dst (N := 5) rfl ?_); refine box_event ?hg (N := 5) ?hd (cs := #[.int .i64 0, .slice none 0 0, .slice none 0 0]) (t := 37) ?hr ?_; (case hd => rfl); (case hg => rfl); (case hr => first | (go_simp; done) | (go_simp; rfl)); intro gb757 hg w62 hbox hb; have n0_ := yam (Kd.R_below (Kd.Yz HO745.out) hb); have n1_ := yam (Kd.S_below (by (with_reducible repeat (first | apply Kd.S_alloc | apply Kd.S_drewN | apply Kd.S_drew)); exact HO748.out) hb); have n2_ := yam (Kd.R_below (Kd.Yz HO753.out) hb); have n3_ := yam (Kd.S_below (by (with_reducible repeat (first | apply Kd.S_alloc | apply Kd.S_drewN | apply Kd.S_drew)); exact HO756.out) hb); have n4_ := yam (blk_below (g := gb740) (o := .cells #[.int .i64 a0_0, .slice A0_1 l0_1.length c0_1, .slice A0_2 l0_2.length c0_2] 48 (0, 0)) (ybz BK740.out) hb); have n5_ := yam (below_step yhb hb); have n6_ := yam (hbox); have n7_ := yam ((by rw [hg]; exact (below_size yhb) : w.heap.size ≤ gb757)); have n8_ := n7_; have n9_ := yam ((by rw [hg]; exact Nat.ne_of_lt (blk_lt (g := gb740) (o := .cells #[.int .i64 a0_0, .slice A0_1 l0_1.length c0_1, .slice A0_2 l0_2.length c0_2] 48 (0, 0)) (ybz BK740.out)) : gb740 ≠ gb757)); have n10_ := yam ((by rw [hg]; exact Nat.ne_of_gt (blk_lt (g := gb740) (o := .cells #[.int .i64 a0_0, .slice A0_1 l0_1.length c0_1, .slice A0_2 l0_2.length c0_2] 48 (0, 0)) (ybz BK740.out)) : gb757 ≠ gb740)); clear HO745; clear HO748; clear HO753; clear HO756; clear BK740; clear HB; have HO745 := n0_; have HO748 := n1_; have HO753 := n2_; have HO756 := n3_; have BK740 := n4_; have HB := n5_; have BK757 := n6_; have GW757 := n7_; have GE757 := n8_; have NB740_757 := n9_; have NB757_740 := n10_; clear n0_ n1_ n2_ n3_ n4_ n5_ n6_ n7_ n8_ n9_ n10_; clear hb hbox hg; have hnb63 := NB757_740.out; have hnc63 := NB740_757.out; obtain ⟨hcz64_0, hcz64_1, hcz64_2, hfz64_0, hfz64_1, hfz64_2⟩ := ybc BK757.out; obtain ⟨Ao65, co65, eo65⟩ := Kd.R_slice HO753.out; subst eo65; obtain ⟨Ao66, co66, eo66⟩ := Kd.S_slice HO756.out; subst eo66) | ((with_reducible refine gate_callee (f := 39) rfl ?_); refine goesL_ (some 18) rfl rfl Try.func39 (by kernel_rfl) rfl #[.agg #[.int .i64 t750, .slice Ao65 t751.length co65, .slice Ao66 t754.length co66]] rfl (by (try simp only [List.map_toArray, List.map_cons, List.map_nil]); first | done | rfl | (simp only [List.length_drop, List.length_take]; rfl)) ?_; (with_reducible refine (impl_IsMinimal.calls k t750 _ _ t751 _ _ t754 t758 _ ?side1 ?side2 ?side3 ?side4 A10.out).mono ?_); (case side1 => refine (Kd.Yr (e := 3) (base := w.heap.size) (ok := fun k_ => (True ∧ some k_ ≠ (.slice Ao57 t743.length co57 : Value).ownBlock)) (n := t751.length) (c := co65) ?_).2.2; exact (by (with_reducible repeat (first | apply Kd.Ya | apply Kd.Yn | apply Kd.Yd)); exact (Kd.R_mono (Kd.R_far (p := ⟨gb757, 2, none⟩) (Kd.R_far (p := ⟨gb757, 1, none⟩) (Kd.R_far (p := ⟨gb757, 0, none⟩) (Kd.R_types HO753.out BK757.out (by decide)) (fun _ hk => hk.2) (.int .i64 t750)) (fun _ hk => hk.2) (.slice Ao65 t751.length co65)) (fun _ hk => hk.2) (.slice Ao66 t754.length co66)) (fun _ h_ => h_.1)))); (case side2 => exact (Kd.Yr HO753.out).2.1); (case side3 => refine (Kd.S_reads' (e := 73) (base := w.heap.size) (ok := fun k_ => ((some k_ ≠ (.slice Ao65 t751.length co65 : Value).ownBlock ∧ some k_ ≠ (.slice Ao57 t743.length co57 : Value).ownBlock) ∧ some k_ ≠ (.slice Ao58 t746.length co58 : Value).ownBlock)) (n := t754.length) (c := co66) ?_).2.2; exact (by (with_reducible repeat (first | apply Kd.S_alloc | apply Kd.S_drewN | apply Kd.S_drew)); exact (Kd.S_mono (Kd.S_far (p := ⟨gb757, 2, none⟩) (Kd.S_far (p := ⟨gb757, 1, none⟩) (Kd.S_far (p := ⟨gb757, 0, none⟩) (Kd.S_types HO756.out BK757.out (by decide)) (fun _ hk => hk.2) (.int .i64 t750)) (fun _ hk => hk.2) (.slice Ao65 t751.length co65)) (fun _ hk => hk.2) (.slice Ao66 t754.length co66)) (fun _ h_ => h_.1)))); (case side4 => exact (Kd.S_reads' HO756.out).2.1); rintro e w67 ⟨rfl, hb⟩; refine ⟨_, rfl, ?_⟩; have n0_ := yam (Kd.R_below (by (with_reducible repeat (first | apply Kd.Ya | apply Kd.Yn | apply Kd.Yd)); exact (Kd.R_mono (Kd.R_far (p := ⟨gb757, 2, none⟩) (Kd.R_far (p := ⟨gb757, 1, none⟩) (Kd.R_far (p := ⟨gb757, 0, none⟩) (Kd.R_types HO745.out BK757.out (by decide)) (fun _ hk => hk.2) (.int .i64 t750)) (fun _ hk => hk.2) (.slice Ao65 t751.length co65)) (fun _ hk => hk.2) (.slice Ao66 t754.length co66)) (fun _ h_ => h_.1))) hb); have n1_ := yam (Kd.S_below (by (with_reducible repeat (first | apply Kd.S_alloc | apply Kd.S_drewN | apply Kd.S_drew)); exact (Kd.S_mono (Kd.S_far (p := ⟨gb757, 2, none⟩) (Kd.S_far (p := ⟨gb757, 1, none⟩) (Kd.S_far (p := ⟨gb757, 0, none⟩) (Kd.S_types HO748.out BK757.out (by decide)) (fun _ hk => hk.2) (.int .i64 t750)) (fun _ hk => hk.2) (.slice Ao65 t751.length co65)) (fun _ hk => hk.2) (.slice Ao66 t754.length co66)) (fun _ h_ => h_.1))) hb); have n2_ := yam (Kd.R_below (by (with_reducible repeat (first | apply Kd.Ya | apply Kd.Yn | apply Kd.Yd)); exact (Kd.R_mono (Kd.R_far (p := ⟨gb757, 2, none⟩) (Kd.R_far (p := ⟨gb757, 1, none⟩) (Kd.R_far (p := ⟨gb757, 0, none⟩) (Kd.R_types HO753.out BK757.out (by decide)) (fun _ hk => hk.2) (.int .i64 t750)) (fun _ hk => hk.2) (.slice Ao65 t751.length co65)) (fun _ hk => hk.2) (.slice Ao66 t754.length co66)) (fun _ h_ => h_.1))) hb); have n3_ := yam (Kd.S_below (by (with_reducible repeat (first | apply Kd.S_alloc | apply Kd.S_drewN | apply Kd.S_drew)); exact (Kd.S_mono (Kd.S_far (p := ⟨gb757, 2, none⟩) (Kd.S_far (p := ⟨gb757, 1, none⟩) (Kd.S_far (p := ⟨gb757, 0, none⟩) (Kd.S_types HO756.out BK757.out (by decide)) (fun _ hk => hk.2) (.int .i64 t750)) (fun _ hk => hk.2) (.slice Ao65 t751.length co65)) (fun _ hk => hk.2) (.slice Ao66 t754.length co66)) (fun _ h_ => h_.1))) hb); have n4_ := yam (blk_below (g := gb740) (o := .cells #[.int .i64 a0_0, .slice A0_1 l0_1.length c0_1, .slice A0_2 l0_2.length c0_2] 48 (0, 0)) (by (with_reducible repeat (first | refine ybn ?_ _ | refine ybd ?_ | refine yba ?_ _)); refine blk_far ?_ NB740_757.out _; (with_reducible repeat (first | refine ybn ?_ _ | refine ybd ?_ | refine yba ?_ _)); refine blk_far ?_ NB740_757.out _; (with_reducible repeat (first | refine ybn ?_ _ | refine ybd ?_ | refine yba ?_ _)); refine blk_far ?_ NB740_757.out _; (with_reducible repeat (first | refine ybn ?_ _ | refine ybd ?_ | refine yba ?_ _)); exact BK740.out) hb); have n5_ := yam (blk_below (g := gb757) (o := .cells #[.int .i64 t750, .slice Ao65 t751.length co65, .slice Ao66 t754.length co66] 37 (0, 0)) (by (with_reducible repeat (first | refine ybn ?_ _ | refine ybd ?_ | refine yba ?_ _)); refine blk_put (cs := #[.int .i64 t750, .slice Ao65 t751.length co65, .slice none 0 0]) ?_ 2 _ rfl; (with_reducible repeat (first | refine ybn ?_ _ | refine ybd ?_ | refine yba ?_ _)); refine blk_put (cs := #[.int .i64 t750, .slice none 0 0, .slice none 0 0]) ?_ 1 _ rfl; (with_reducible repeat (first | refine ybn ?_ _ | refine ybd ?_ | refine yba ?_ _)); refine blk_put (cs := #[.int .i64 0, .slice none 0 0, .slice none 0 0]) ?_ 0 _ rfl; (with_reducible repeat (first | refine ybn ?_ _ | refine ybd ?_ | refine yba ?_ _)); exact BK757.out) hb); have n6_ := yam (below_step yhb hb); clear HO745; clear HO748; clear HO753; clear HO756; clear BK740; clear BK757; clear HB; have HO745 := n0_; have HO748 := n1_; have HO753 := n2_; have HO756 := n3_; have BK740 := n4_; have BK757 := n5_; have HB := n6_; clear n0_ n1_ n2_ n3_ n4_ n5_ n6_; (try clear hb); (try clear hb2); (try clear hk); (try clear hi)))
 have n0_ := yam (Kd.Yd HO745.out)
 have n1_ := yam (Kd.S_drew HO748.out)
 have n2_ := yam (Kd.Yd HO753.out)
 have n3_ := yam (Kd.S_drew HO756.out)
 have n4_ := yam (ybd BK740.out)
 have n5_ := yam (ybd BK757.out)
 have n6_ := yam (yed HB.out)
 clear HO745
 clear HO748
 clear HO753
 clear HO756
 clear BK740
 clear BK757
 clear HB
 have HO745 := n0_
 have HO748 := n1_
 have HO753 := n2_
 have HO756 := n3_
 have BK740 := n4_
 have BK757 := n5_
 have HB := n6_
 clear n0_ n1_ n2_ n3_ n4_ n5_ n6_
 refine start_ (n := 5) (S := fun w' => w'.cell? ⟨gb757, 0, none⟩ = some (.int .i64 t750) ∧ w'.cell? ⟨gb757, 1, none⟩ = some (.slice Ao65 t751.length co65) ∧ w'.cell? ⟨gb757, 2, none⟩ = some (.slice Ao66 t754.length co66) ∧ w'.cell? ⟨gb740, 0, none⟩ = some (.int .i64 a0_0) ∧ w'.cell? ⟨gb740, 1, none⟩ = some (.slice A0_1 l0_1.length c0_1) ∧ w'.cell? ⟨gb740, 2, none⟩ = some (.slice A0_2 l0_2.length c0_2)) (ds := []) #[false, false, false, false, false] (by kernel_rfl) rfl rfl ⟨(blk_cell BK757.out 0).trans rfl, (blk_cell BK757.out 1).trans rfl, (blk_cell BK757.out 2).trans rfl, (blk_cell BK740.out 0).trans rfl, (blk_cell BK740.out 1).trans rfl, (blk_cell BK740.out 2).trans rfl⟩ (fun hHeld => ?_)
 generalize w67.drew = w68 at HO745 HO748 HO753 HO756 BK740 BK757 HB hHeld ⊢
 refine take_ (i := 0) (N := some 22) (v := ?_) (a' := ?_) #[true, false, false, false, false] rfl rfl (by kernel_rfl) (fun _ _ _ h => h) (Or.inl ⟨by rfl, ?_⟩) hHeld ?_ ?_
 rotate_left
 ·rintro w' ⟨s0, s1, s2, s3, s4, s5⟩
  go_simp
  with_reducible rfl
 rotate_left
 ·simp only [Act.put, yps, i64_w, i32_w]
  rfl
 refine take_ (i := 1) (N := some 23) (v := ?_) (a' := ?_) #[true, true, false, false, false] rfl rfl (by kernel_rfl) (fun _ _ _ h => h) (Or.inl ⟨by rfl, ?_⟩) hHeld ?_ ?_
 rotate_left
 ·rintro w' ⟨s0, s1, s2, s3, s4, s5⟩
  go_simp
  with_reducible rfl
 rotate_left
 ·simp only [Act.put, yps, i64_w, i32_w]
  rfl
 refine one_ (i := 2) (N := some 24) #[true, true, true, false, false] rfl rfl (by kernel_rfl) (by decide) (fun K hK => ?_)
 refine goes_ Try.func32 (by kernel_rfl) rfl #[.agg #[.int .i64 a0_0, .slice A0_1 l0_1.length c0_1, .slice A0_2 l0_2.length c0_2]] (by rfl) rfl rfl (by (try simp only [List.map_toArray, List.map_cons, List.map_nil]); first | done | rfl | (simp only [List.length_drop, List.length_take]; rfl)) ?_
 with_reducible refine (laws_toPuzzle.calls k a0_0 _ _ l0_1 _ _ l0_2 t759 t760 t763 _ ?side1 ?side2 ?side3 ?side4 A28.out).mono ?_
 (case side1 => exact Kd.Cz ((Kd.C_below HR0_1.out HB.out)))
 (case side2 => exact HC0_1.out)
 (case side3 => exact Kd.Cz ((Kd.C_below HR0_2.out HB.out)))
 (case side4 => exact HC0_2.out)
 rintro e w69 ⟨v761, v764, rfl, ho0, ho1, hb⟩
 refine ⟨_, rfl, ?_⟩
 have n0_ := yam (Kd.Ye (Kd.Yz HO745.out) (Kd.Yb ho0) hb)
 have n1_ := yam (Kd.S_mono (Kd.S_told (Kd.S_told (Kd.S_old (by (with_reducible repeat (first | apply Kd.S_alloc | apply Kd.S_drewN | apply Kd.S_drew)); exact HO748.out) hb) (Kd.Yb ho0)) (Kd.S_base ho1)) (fun _ h_ => h_.1))
 have n2_ := yam (Kd.Ye (Kd.Yz HO753.out) (Kd.Yb ho0) hb)
 have n3_ := yam (Kd.S_mono (Kd.S_told (Kd.S_told (Kd.S_old (by (with_reducible repeat (first | apply Kd.S_alloc | apply Kd.S_drewN | apply Kd.S_drew)); exact HO756.out) hb) (Kd.Yb ho0)) (Kd.S_base ho1)) (fun _ h_ => h_.1))
 have n4_ := yam (Kd.R_lower (Kd.Yw (Kd.Yw ho0 (Kd.R_lt (Kd.Yz HO745.out))) (Kd.R_lt (Kd.Yz HO753.out))) (below_size yhb))
 have n5_ := yam (Kd.S_lower (Kd.S_new' (Kd.S_new' (Kd.S_new' (Kd.S_new' ho1 (Kd.R_lt (Kd.Yz HO745.out))) (Kd.S_lt (by (with_reducible repeat (first | apply Kd.S_alloc | apply Kd.S_drewN | apply Kd.S_drew)); exact HO748.out))) (Kd.R_lt (Kd.Yz HO753.out))) (Kd.S_lt (by (with_reducible repeat (first | apply Kd.S_alloc | apply Kd.S_drewN | apply Kd.S_drew)); exact HO756.out))) (below_size yhb))
 have n6_ := yam (blk_below (g := gb740) (o := .cells #[.int .i64 a0_0, .slice A0_1 l0_1.length c0_1, .slice A0_2 l0_2.length c0_2] 48 (0, 0)) (ybz BK740.out) hb)
 have n7_ := yam (blk_below (g := gb757) (o := .cells #[.int .i64 t750, .slice Ao65 t751.length co65, .slice Ao66 t754.length co66] 37 (0, 0)) (ybz BK757.out) hb)
 have n8_ := yam (below_step yhb hb)
 clear HO745
 clear HO748
 clear HO753
 clear HO756
 clear BK740
 clear BK757
 clear HB
 have HO745 := n0_
 have HO748 := n1_
 have HO753 := n2_
 have HO756 := n3_
 have HO762 := n4_
 have HO765 := n5_
 have BK740 := n6_
 have BK757 := n7_
 have HB := n8_
 clear n0_ n1_ n2_ n3_ n4_ n5_ n6_ n7_ n8_
 (try clear hb)
 (try clear hb2)
 (try clear hk)
 (try clear hi)
 (try clear ho0)
 (try clear ho1)
 obtain ⟨Ao70, co70, eo70⟩ := Kd.R_slice HO762.out
 (first | subst eo70 | (injection eo70 with f1_ f2_ f3_; have f4_ := f1_.symm; have f5_ := f3_.symm; clear f1_ f2_ f3_; subst f4_; subst f5_))
 obtain ⟨Ao71, co71, eo71⟩ := Kd.S_slice HO765.out
 (first | subst eo71 | (injection eo71 with f1_ f2_ f3_; have f4_ := f1_.symm; have f5_ := f3_.symm; clear f1_ f2_ f3_; subst f4_; subst f5_))
 refine hK.out _ _ ⟨(blk_cell BK757.out 0).trans rfl, (blk_cell BK757.out 1).trans rfl, (blk_cell BK757.out 2).trans rfl, (blk_cell BK740.out 0).trans rfl, (blk_cell BK740.out 1).trans rfl, (blk_cell BK740.out 2).trans rfl⟩ (fun hHeld => ?_)
 clear hK K
 refine norm_ (a' := ?_) ?_ ?_
 rotate_left
 ·show Act.put _ (some 24) _ = _
  simp only [Act.put, yps, i64_w, i32_w]
  rfl
 refine one_ (i := 3) (N := some 25) #[true, true, true, true, false] rfl rfl (by kernel_rfl) (by decide) (fun K hK => ?_)
 refine goes_ Try.func25 (by kernel_rfl) rfl #[.agg #[.int .i64 t750, .slice Ao65 t751.length co65, .slice Ao66 t754.length co66], .agg #[.int .i64 t759, .slice Ao70 t760.length co70, .slice Ao71 t763.length co71]] (by rfl) rfl rfl (by (try simp only [List.map_toArray, List.map_cons, List.map_nil]); first | done | rfl | (simp only [List.length_drop, List.length_take]; rfl)) ?_
 with_reducible refine (laws_eqPuzzle.calls k t750 _ _ t751 _ _ t754 t759 _ _ t760 _ _ t763 false _ ?side1 ?side2 ?side3 ?side4 ?side5 ?side6 ?side7 ?side8 A29.out).mono ?_
 (case side1 => repeat (first | exact (Kd.Yr HO753.out).2.2 | (with_reducible refine Kd.C_alloc ?_ _) | (with_reducible refine Kd.C_drewN ?_ _) | (with_reducible refine Kd.C_drew ?_)))
 (case side2 => exact (Kd.Yr HO753.out).2.1)
 (case side3 => repeat (first | exact (Kd.S_reads' HO756.out).2.2 | (with_reducible refine Kd.C_alloc ?_ _) | (with_reducible refine Kd.C_drewN ?_ _) | (with_reducible refine Kd.C_drew ?_)))
 (case side4 => exact (Kd.S_reads' HO756.out).2.1)
 (case side5 => repeat (first | exact (Kd.Yr HO762.out).2.2 | (with_reducible refine Kd.C_alloc ?_ _) | (with_reducible refine Kd.C_drewN ?_ _) | (with_reducible refine Kd.C_drew ?_)))
 (case side6 => exact (Kd.Yr HO762.out).2.1)
 (case side7 => repeat (first | exact (Kd.S_reads' HO765.out).2.2 | (with_reducible refine Kd.C_alloc ?_ _) | (with_reducible refine Kd.C_drewN ?_ _) | (with_reducible refine Kd.C_drew ?_)))
 (case side8 => exact (Kd.S_reads' HO765.out).2.1)
 rintro e w72 ⟨rfl, hb⟩
 refine ⟨_, rfl, ?_⟩
 have n0_ := yam (Kd.R_below (Kd.Yz HO745.out) hb)
 have n1_ := yam (Kd.S_below (by (with_reducible repeat (first | apply Kd.S_alloc | apply Kd.S_drewN | apply Kd.S_drew)); exact HO748.out) hb)
 have n2_ := yam (Kd.R_below (Kd.Yz HO753.out) hb)
 have n3_ := yam (Kd.S_below (by (with_reducible repeat (first | apply Kd.S_alloc | apply Kd.S_drewN | apply Kd.S_drew)); exact HO756.out) hb)
 have n4_ := yam (Kd.R_below (Kd.Yz HO762.out) hb)
 have n5_ := yam (Kd.S_below (by (with_reducible repeat (first | apply Kd.S_alloc | apply Kd.S_drewN | apply Kd.S_drew)); exact HO765.out) hb)
 have n6_ := yam (blk_below (g := gb740) (o := .cells #[.int .i64 a0_0, .slice A0_1 l0_1.length c0_1, .slice A0_2 l0_2.length c0_2] 48 (0, 0)) (ybz BK740.out) hb)
 have n7_ := yam (blk_below (g := gb757) (o := .cells #[.int .i64 t750, .slice Ao65 t751.length co65, .slice Ao66 t754.length co66] 37 (0, 0)) (ybz BK757.out) hb)
 have n8_ := yam (below_step yhb hb)
 clear HO745
 clear HO748
 clear HO753
 clear HO756
 clear HO762
 clear HO765
 clear BK740
 clear BK757
 clear HB
 have HO745 := n0_
 have HO748 := n1_
 have HO753 := n2_
 have HO756 := n3_
 have HO762 := n4_
 have HO765 := n5_
 have BK740 := n6_
 have BK757 := n7_
 have HB := n8_
 clear n0_ n1_ n2_ n3_ n4_ n5_ n6_ n7_ n8_
 (try clear hb)
 (try clear hb2)
 (try clear hk)
 (try clear hi)
 refine hK.out _ _ ⟨(blk_cell BK757.out 0).trans rfl, (blk_cell BK757.out 1).trans rfl, (blk_cell BK757.out 2).trans rfl, (blk_cell BK740.out 0).trans rfl, (blk_cell BK740.out 1).trans rfl, (blk_cell BK740.out 2).trans rfl⟩ (fun hHeld => ?_)
 clear hK K
 refine norm_ (a' := ?_) ?_ ?_
 rotate_left
 ·show Act.put _ (some 25) _ = _
  simp only [Act.put, yps, i64_w, i32_w]
  rfl
 refine pure_ (i := 4) (N := some 26) (v := ?_) (a' := ?_) #[true, true, true, true, true] rfl rfl (by kernel_rfl) (fun _ _ _ h => h) (Or.inl ⟨by rfl, ?_⟩) ?_ ?_
 rotate_left
 ·intro w'
  go_simp
  with_reducible rfl
 rotate_left
 ·simp only [Act.put, yps, i64_w, i32_w]
  rfl
 refine done_ (by kernel_rfl) ?_
 try go_wp2
 go_ret
 exact ⟨yer, yhb⟩
end Go.Proofs.Ytmjbnghhfadapaa.P
